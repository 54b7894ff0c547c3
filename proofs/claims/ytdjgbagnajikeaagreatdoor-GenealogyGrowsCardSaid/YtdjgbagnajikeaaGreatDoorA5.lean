/-
  Structs compared; every operation.
-/
import Derived.Test.YtdjgbagnajikeaaGreatDoorA4
import Derived.Laws.BytesString
import Derived.Lib.ConvBytes
import Derived.Laws.Cells
set_option linter.unusedVariables false
set_option linter.unusedSimpArgs false
noncomputable section
namespace Go.Ab
section
variable{T:Tab}{P:Program}{Φ:Fr}{σ:St}{a:Act}{w:World}{G:Gh}{K:VK}{o:Oper}{d:Nat}
theorem Inv.newFrz(inv:Inv T Φ σ a w G){k:Nat}(E:σ.ar k=none){w':World}{ty:TypeId}{l:List V}{cc:Nat->Value}{cap sz:Nat}(s:l.length<=cap)(H:cap<=maxLen)(I:∀x∈l,x.cells.length=sz)(F:bM l)
 (C:At w' ⟨w.heap.size,0,none⟩ cc (l.flatMap V.cells))(L:∀G':Gh,∀(j:Nat) y,(l.flatMap V.cells)[j]? =some y->Rv w' G' (cc j) y)
 (J:∀b,b<w.heap.size->w'.heap[b]? =w.heap[b]?)(D:w.heap.size<w'.heap.size)(B:w'.os=w.os)(m:w'.tape=w.tape)(r:w'.output=w.output):
 ∃G',Inv T Φ (σ.apps [.a k ⟨0, .frz,ty,l⟩]) a w' G'/\G'.av k 0= .slice (some ⟨w.heap.size,0,none⟩) l.length cap:=by
 have v:∀g,¬σ.hasA k g:=λg ⟨en,h,_⟩=>by rw[E]at h;cases h
 let av':Nat->Nat->Value:=λq g=>if q=k/\g=0 then .slice (some ⟨w.heap.size,0,none⟩) l.length cap else G.av q g
 have n:=inv.zU (w':=w') (k:=k) (en:=⟨0, .dead,ty,[]⟩) (av':=av') (O':=upd G.O w.heap.size (.ar k)) (λg i=>(v g i).elim) (λq g i=>by
  have:¬(q=k/\g=0):=by rintro⟨rfl,rfl⟩;exact v _ i
  simp[av',this]) BX (by unfold gW;trivial)
  (λb z _=>upd_ne _ _ (by have:=inv.tag b z;omega)) (λb=>by
   by_cases e:b=w.heap.size
   ·subst e;exact .inr (.inr (.inl ⟨upd_same _ _ _,aN0 inv,D⟩))
   ·exact .inl (upd_ne _ _ e)) (λb z _=>J b z) (TR D) B m r
 let O':Nat->Tag:=upd G.O w.heap.size .fz
 have t:av' k 0= .slice (some ⟨w.heap.size,0,none⟩) l.length cap:=Iu;have u:∀b,b≠w.heap.size->O' b=upd G.O w.heap.size (.ar k) b:=λb e=>by show upd _ _ _ b=upd _ _ _ b;rw[upd_ne _ _ e,upd_ne _ _ e]
 have c:upd G.O w.heap.size (.ar k) w.heap.size= .ar k:=upd_same _ _ _
 have f:=n.zU (w':=w') (k:=k) (en:=⟨0, .frz,ty,l⟩) (av':=av') (O':=O') (λg i=>by
  obtain⟨en,h,i⟩:=i;have h:upd σ.ar k _ k=some en:=h
  rw[upd_same]at h;cases h;exact i) (λq g i=>rfl) F (by
   unfold gW;show Rv w' _ (av' k 0) (.sl l);rw[t];exact .slS _ _ _ _ cc s H (λ_=>upd_same _ _ _) I C (L _))
  (λb z A=>by
   refine u b λe=>?_;subst e
   exact A c) (λb=>by
   by_cases e:b=w.heap.size
   ·subst e;exact .inr (.inr (.inr ⟨upd_same _ _ _,c⟩))
   ·exact .inl (u b e)) (λb _ _=>rfl) (QH _) rfl rfl rfl
 refine⟨{G with av:=av',O:=O'},?_,t⟩
 have e:(σ.apps [.a k ⟨0, .dead,ty,[]⟩]).apps [.a k ⟨0, .frz,ty,l⟩] =σ.apps [.a k ⟨0, .frz,ty,l⟩] :=by
  show({σ with ar:=upd (upd σ.ar k _) k _}:St)={σ with ar:=upd σ.ar k _};congr 1;funext j;grind [upd_same,upd_ne]
 rw[e]at f;exact f
theorem convB_sound(q:bP T P)(inv:Inv T Φ σ a w G)(s t:TypeId)(x:Operand)(O:o.op= .convert s t x)(r:(T.row s).kd= .str)(h:convB T σ d s t (σ.ev x) K):Out T Φ σ a K ((execOp a.eval o).run P w):=by
 unfold convB at h;split at h
 ·rename_i b H F
  obtain⟨u,h⟩:=aT h;simp only[QN]at u;obtain⟨⟨⟨⟨J,C⟩,M⟩,R⟩,E⟩:=u;obtain⟨Q,L⟩:=dX h;have I:(T.row t).kd= .slice:=dV0 M
  have z:(T.row (T.row t).elem).kd= .int .u8:=by
   grind [isU8]
  have N:=aF2 (q s (blt J)) r;have B:=jW (q t (blt C)) I
  have D:=bY7 (q _ (blt E)) z;have v:=(inv.ev x).1
  rw[F]at v;have m:(strV b).length=b.size:=Eb
  have k:(strV b).flatMap V.cells=strV b:=by
   unfold strV
   induction b.data.toList with
   |nil=>rfl
   |cons c l A=>rw[QW,RZ,A];rfl
  have e:∀(j:Nat) y,(strV b)[j]? =some y->j<b.size/\y= .lit (.int .u8 (b.data.toList.getD j 0).toNat):=λj y f=>by
   have g:j<b.size:=by rw[<-m];exact(QD.1 f).1
   refine⟨g,?_⟩;unfold strV at f;simp_all
  obtain⟨G',i,n⟩:=inv.newFrz H (w':=Go.Lib.bytesWorld w (T.row t).elem b) (ty:=(T.row t).elem) (l:=strV b) (cc:=λj=> .int .u8 (b.data.toList.getD j 0).toNat) (cap:=grownCap w b.size 0 (T.row t).elem) (sz:=1)
   (by rw[m];exact grownCap_ge w b.size 0 _) (grownCap_le_maxLen w _ _ _ Cf) (λy f=>by
    obtain⟨j,g⟩:=QY f
    rw[(e j y g).2];rfl) (aH.2 λy f=>by
    obtain⟨j,g⟩:=QY f;rw[(e j y g).2];exact dL)
   (by
    rw[k];intro j y f;refine⟨?_,rfl⟩;rw[rY,SL];exact Go.Lib.bytesWorld_cell w _ b j (e j y f).1)
   (by
    rw[k];intro G' j y f;rw[(e j y f).2];exact .lit _ rfl)
   (λj g=>Go.Lib.bytesWorld_at_old w _ b j g) (by rw[Go.Lib.bytesWorld_size];omega) rfl rfl rfl
  refine⟨.slice (some ⟨w.heap.size,0,none⟩) b.size (grownCap w b.size 0 (T.row t).elem),Go.Lib.bytesWorld w (T.row t).elem b,_,_,G', .inl ?_,L,i,aQ0 (by rw[n,m]) rfl,?_⟩
  ·simp only[execOp,O,v.bH,RN,Go.Lib.run_convert_string_bytes w s t _ b N B D,QX,Sz]
  ·exact JL
 ·exact h.elim
theorem cD9(i:bP T P)(inv:Inv T Φ σ a w G)(s t:TypeId)(x:Operand)(H:o.op= .convert s t x)(h:aF1 T σ d s t (σ.ev x) K):Out T Φ σ a K ((execOp a.eval o).run P w):=by
 unfold aF1 at h;split at h
 ·grind [convB_sound]
 ·rename_i u
  obtain⟨A,h⟩:=aT h;simp only[QN]at A;obtain⟨⟨⟨⟨R,N⟩,X⟩,Y⟩,O⟩:=A
  have Q:(T.row t).kd= .str:=by
   grind [isStr]
  have J:(T.row (T.row s).elem).kd= .int .u8:=by
   grind [isU8]
  have E:=jW (i s (blt R)) u;have B:=aF2 (i t (blt N)) Q
  have C:=bY7 (i _ (blt O)) J;obtain⟨xs,I,W,g⟩:=aV9 inv x h;obtain⟨ns,k,p⟩:=cC4 I;subst k
  have b:∀l:List Int,(l.map (λn=>V.lit (.int .u8 n))).flatMap V.cells=l.map (λn=>V.lit (.int .u8 n)):=by
   intro l
   induction l with
   |nil=>rfl
   |cons n l L=>rw[QW,RZ,L];rfl
  have y:(convert s t (a.eval x)).run P w= .ok (.string (strOf ns)) w:=by
   rcases g with⟨r,U⟩|⟨m,c,sz,r,_,_,_,F⟩
   ·have e:ns=[] :=by simpa using U
    subst e;rw[r,run_convert_bytes_string w s t _ none 0 0 E C B];rfl
   ·rw[r,run_convert_bytes_string w s t _ (some m) _ c E C B]
    rw[b]at F;obtain⟨cc,q,f⟩:=F.out;refine run_bytesToString w m _ c ns ?_;have D:=run_loadCells_list (P:=P) (w:=w) m (ns.map (Value.int .u8)) (λj v hv=>?_)
    ·rw[QS]at D⊢
     exact D
    ·rw[Rk]at hv
     cases e:ns[j]? with
     |none=>rw[e]at hv;cases hv
     |some n=>
      rw[e]at hv;cases hv;have z:(ns.map (λn=>V.lit (.int .u8 n)))[j]? =some (.lit (.int .u8 n)):=by rw[Rk,e];rfl
      have M:=(q j _ z).1;have S:cc j= .int .u8 n:=(f j _ z).bH
      rw[M,S]
  exact .plain inv (v':= .string (strOf ns)) (by simp only[execOp,H,RN,y,QX,Sz]) p (.lit _ rfl) dL
 ·exact cY0 i inv s t x H h
theorem eF4{u:Option TypeDesc}{k:IntKind}(h:kdOf u= .int k):u=some (.int k):=by
 cases u with
 |none=>simp[kdOf]at h
 |some b=>cases b<;>simp[kdOf]at h;subst h;rfl
theorem dX0{u:Option TypeDesc}(h:kdOf u= .str):u=some .string:=LZ
theorem dS0{u:Option TypeDesc}(h:kdOf u= .bool):u=some .bool:=LZ
theorem qF{t:TypeId}{b:TypeDesc}(c:P.underlying t=some b)(e:aggB (some b)=false)(xs:Array Value)(off:Nat){v:Value}(hv:xs[off]? =some v):(part t xs off).run P w= .ok v w:=by
 have:(isAgg t).run P w= .ok false w:=by cases b<;>simp_all [isAgg,dI c,aggB]
 simp[part,this,hv]
theorem aS4{cs:Array Value}{xs:List V}(e:cs.size=xs.length)(b:∀(i:Nat) c x,cs[i]? =some c->xs[i]? =some x->Rv w G c x){i:Nat}{u:Value}(h:nth xs i=some (.lit u)):cs[i]? =some u:=by
 rw[uN]at h;have hi:i<cs.size:=by rw[e];exact(QD.1 h).1
 have:=b i cs[i] _ (by simp[hi]) h
 rw[<-this.bH];simp[hi]
def bY8(dp:Nat)(xs ys:Array Value)(f:Field):Sem (ForInStep (Option Bool×Unit)):=
 if f.name= "_" then pure (ForInStep.yield (none,()))
 else do
  let u<-part f.type xs f.offset
  let v<-part f.type ys f.offset
  let b<-Op.equalIn dp f.type u v
  if b=false then pure (ForInStep.done (some false,()))else pure (ForInStep.yield (none,()))
theorem cN3(b:bP T P){t:TypeId}(c:t<T.n t)(e:(T.row t).agg=true)(cs:Array Value)(off:Nat):(part t cs off).run P w= .ok (.agg (cs.extract off (off+(T.row t).size))) w:=by
 simp[part,yG b c,e,iV b c]
theorem dC5{cs:Array Value}{xs:List V}(e:cs.size=xs.length)(b:∀(i:Nat) c x,cs[i]? =some c->xs[i]? =some x->Rv w G c x)(off z:Nat):
 (cs.extract off (off+z)).size=(rO (jX xs off) z).length/\∀(i:Nat) c x,(cs.extract off (off+z))[i]? =some c->(rO (jX xs off) z)[i]? =some x->Rv w G c x:=by
 rw[aD3,lQ];grind
theorem aX8(M:bP T P){e:TypeId->List V->List V->Option Bool}{D:Nat}(C:∀(t:TypeId) (cs ds:Array Value) (xs ys:List V) (b:Bool),t<T.n t->cs.size=xs.length->(∀(i:Nat) c x,cs[i]? =some c->xs[i]? =some x->Rv w G c x)->ds.size=ys.length->(∀(i:Nat) c x,ds[i]? =some c->ys[i]? =some x->Rv w G c x)->e t xs ys=some b->(Op.equalIn (D+1) t (.agg cs) (.agg ds)).run P w= .ok b w)
 {cs ds:Array Value}{xs ys:List V}(I:cs.size=xs.length)(J:∀(i:Nat) c x,cs[i]? =some c->xs[i]? =some x->Rv w G c x)(l:ds.size=ys.length)(j:∀(i:Nat) c x,ds[i]? =some c->ys[i]? =some x->Rv w G c x)
 {off z:Nat}{t:TypeId}(Z:t<T.n t->z=(T.row t).size){r:List (Nat×Nat×Kd×TypeId)}{b:Bool}(h:kX T e ((off,z,kdOf (P.underlying t),t)::r) xs ys=some b):
 ∃u v f g,(part t cs off).run P w= .ok u w/\(part t ds off).run P w= .ok v w/\(Op.equalIn (D+1) t u v).run P w= .ok f w/\kX T e r xs ys=some g/\b=(f&&g):=by
 have q:∀(u v:Value) (f:Bool),(part t cs off).run P w= .ok u w->(part t ds off).run P w= .ok v w->(Op.equalIn (D+1) t u v).run P w= .ok f w->(kX T e r xs ys).map (andB f)=some b->
  ∃u v f g,(part t cs off).run P w= .ok u w/\(part t ds off).run P w= .ok v w/\(Op.equalIn (D+1) t u v).run P w= .ok f w/\kX T e r xs ys=some g/\b=(f&&g):=by
  intro u v f Q X U H
  cases B:kX T e r xs ys with
  |none=>rw[B]at H;cases H
  |some g=>
   rw[B]at H;exact⟨u,v,f,g,Q,X,U,rfl,by simpa [andB]using H.symm⟩
 have nested:(T.row t).agg=true->(match Nat.blt t (T.n t),e t (rO (jX xs off) z) (rO (jX ys off) z)with
  |true,some f=>(kX T e r xs ys).map (andB f)
  |_,_=>none)=some b->∃u v f g,(part t cs off).run P w= .ok u w/\(part t ds off).run P w= .ok v w/\(Op.equalIn (D+1) t u v).run P w= .ok f w/\kX T e r xs ys=some g/\b=(f&&g):=by
  intro ha L;split at L
  ·rename_i f Y S
   have ht:=blt Y;have N:=Z ht
   subst N;obtain⟨W,R⟩:=dC5 I J off (T.row t).size;obtain⟨O,q4⟩:=dC5 l j off (T.row t).size;exact q _ _ f (cN3 M ht ha cs off) (cN3 M ht ha ds off) (C t _ _ _ _ f ht W R O q4 S) L
  ·cases L
 have h':(match kdOf (P.underlying t)with
  | .struct=>match Nat.blt t (T.n t),e t (rO (jX xs off) z) (rO (jX ys off) z)with
    |true,some f=>(kX T e r xs ys).map (andB f)
    |_,_=>none
  | .array=>match Nat.blt t (T.n t),e t (rO (jX xs off) z) (rO (jX ys off) z)with
    |true,some f=>(kX T e r xs ys).map (andB f)
    |_,_=>none
  |kd=>match nth xs off,nth ys off,kd with
   |some (.lit (.int k a)),some (.lit (.int F b)), .int _=>cond (decide (k=F)) ((kX T e r xs ys).map (andB (eqB a b))) none
   |some (.lit (.string a)),some (.lit (.string b)), .str=>(kX T e r xs ys).map (andB (eqSB a b))
   |some (.lit (.bool a)),some (.lit (.bool b)), .bool=>(kX T e r xs ys).map (andB (eqBB a b))
   |_,_,_=>none)=some b:=h
 have aggOf:∀dd,P.underlying t=some dd->aggB (some dd)=true->t<T.n t->(T.row t).agg=true:=by
  intro dd hu ha ht;obtain⟨d2,s,_,y,_⟩:=(M t ht).und;rw[hu]at s;cases s;rw[y];exact ha
 split at h'
 ·exact Jb
 ·exact Jb
 ·split at h'
  ·rename_i k m F n kk s E y
   cases A:decide (k=F)with
   |false=>rw[A]at h';cases h'
   |true=>
    have:k=F:=by simpa using A
    subst this;rw[A]at h';have hu:=eF4 y;exact q _ _ (eqB m n) (qF hu rfl cs _ (aS4 I J s)) (qF hu rfl ds _ (aS4 l j E)) (by simp[Op.equalIn,dI hu,eqB];exact Ti.2 (by simp)) h'
  ·rename_i m n s E y
   have hu:=dX0 y;exact q _ _ (eqSB m n) (qF hu rfl cs _ (aS4 I J s)) (qF hu rfl ds _ (aS4 l j E)) (by simp[Op.equalIn,dI hu,eqSB]) h'
  ·rename_i m n s E y
   have hu:=dS0 y;exact q _ _ (eqBB m n) (qF hu rfl cs _ (aS4 I J s)) (qF hu rfl ds _ (aS4 l j E)) (by simp[Op.equalIn,dI hu,eqBB]) h'
  ·cases h'
theorem bN5(E:bP T P){j:TypeId->List V->List V->Option Bool}{D:Nat}(g:∀(t:TypeId) (cs ds:Array Value) (xs ys:List V) (b:Bool),t<T.n t->cs.size=xs.length->(∀(i:Nat) c x,cs[i]? =some c->xs[i]? =some x->Rv w G c x)->ds.size=ys.length->(∀(i:Nat) c x,ds[i]? =some c->ys[i]? =some x->Rv w G c x)->j t xs ys=some b->(Op.equalIn (D+1) t (.agg cs) (.agg ds)).run P w= .ok b w)
 {cs ds:Array Value}{xs ys:List V}(L:cs.size=xs.length)(I:∀(i:Nat) c x,cs[i]? =some c->xs[i]? =some x->Rv w G c x)(k:ds.size=ys.length)(m:∀(i:Nat) c x,ds[i]? =some c->ys[i]? =some x->Rv w G c x):
 ∀(l:List Field) (b:Bool),(∀f∈l,f.name≠ "_")->(∀f∈l,f.type<T.n f.type->vI P f.type=(T.row f.type).size)->kX T j (l.map (λf=>(f.offset,vI P f.type,kdOf (P.underlying f.type),f.type))) xs ys=some b->
  (forIn l ((none,()):Option Bool×Unit) λf _=>bY8 (D+1) cs ds f).run P w= .ok (if b then(none,())else(some false,())) w:=by
 intro l
 induction l with
 |nil=>
  intro b _ _ h;exact P8
 |cons f r J=>
  intro b y s h;have e:=y f Ae;obtain⟨u,v,C,A,H,B,z,F,rfl⟩:=aX8 E g L I k m (s f Ae) h;have ih':=J A (λf q=>y f (by simp[q])) (λf q=>s f (by simp[q])) F
  simp only[List.forIn_cons,bY8,e,Ue,RN,H,B,QX,z]
  cases C with
  |false=>simp
  |true=>exact LM
def cT9(dp:Nat)(e:TypeId)(n:Nat)(xs ys:Array Value)(i:Nat):Sem (ForInStep (Option Bool×Unit)):=do
 let u<-part e xs (i*n)
 let v<-part e ys (i*n)
 let b<-Op.equalIn dp e u v
 if b=false then pure (ForInStep.done (some false,()))else pure (ForInStep.yield (none,()))
theorem dA7(z:Nat)(b:Kd)(e:TypeId)(n:Nat):aZ5 z b e n=(List.range n).map λi=>(i*z,z,b,e):=by
 induction n with
 |zero=>rfl
 |succ n c=>
  show appR (aZ5 z b e n) [(n*z,z,b,e)] =_;rw[bT,c,List.range_succ,Rl];rfl
theorem bX8(A:bP T P){j:TypeId->List V->List V->Option Bool}{D:Nat}(g:∀(t:TypeId) (cs ds:Array Value) (xs ys:List V) (b:Bool),t<T.n t->cs.size=xs.length->(∀(i:Nat) c x,cs[i]? =some c->xs[i]? =some x->Rv w G c x)->ds.size=ys.length->(∀(i:Nat) c x,ds[i]? =some c->ys[i]? =some x->Rv w G c x)->j t xs ys=some b->(Op.equalIn (D+1) t (.agg cs) (.agg ds)).run P w= .ok b w)
 {cs ds:Array Value}{xs ys:List V}(H:cs.size=xs.length)(E:∀(i:Nat) c x,cs[i]? =some c->xs[i]? =some x->Rv w G c x)(k:ds.size=ys.length)(m:∀(i:Nat) c x,ds[i]? =some c->ys[i]? =some x->Rv w G c x){e:TypeId}(_:e<T.n e):
 ∀(l:List Nat) (b:Bool),kX T j (l.map (λi=>(i*(T.row e).size,(T.row e).size,kdOf (P.underlying e),e))) xs ys=some b->
  (forIn l ((none,()):Option Bool×Unit) λi _=>cT9 (D+1) e (T.row e).size cs ds i).run P w= .ok (if b then(none,())else(some false,())) w:=by
 intro l
 induction l with
 |nil=>
  intro b h;exact P8
 |cons f r F=>
  intro b h;obtain⟨u,v,z,s,C,y,q,B,rfl⟩:=aX8 A g H E k m (λ_=>rfl) h;have ih':=F s B
  simp only[List.forIn_cons,cT9,RN,C,y,QX,q]
  cases z with
  |false=>simp
  |true=>exact LM
theorem eM4(k:bP T P):∀(n D:Nat) (t:TypeId) (cs ds:Array Value) (xs ys:List V) (b:Bool),t<T.n t->cs.size=xs.length->(∀(i:Nat) c x,cs[i]? =some c->xs[i]? =some x->Rv w G c x)->ds.size=ys.length->(∀(i:Nat) c x,ds[i]? =some c->ys[i]? =some x->Rv w G c x)->
 eqT T n t xs ys=some b->(Op.equalIn (D+1+n) t (.agg cs) (.agg ds)).run P w= .ok b w:=by
 intro n
 induction n with
 |zero=>intro D t cs ds xs ys b _ _ _ _ _ h;cases(h:none=some b)
 |succ n Z=>
  intro D t cs ds xs ys b B J N u s h
  have e:cond (T.row t).eq (match(T.row t).kd with
   | .struct=>kX T (eqT T n) (T.row t).flds xs ys
   | .array=>cond (Nat.blt (T.row t).elem (T.n (T.row t).elem)) (kX T (eqT T n) (aZ5 (T.row (T.row t).elem).size (T.row (T.row t).elem).kd (T.row t).elem (T.row t).alen) xs ys) none
   |_=>none) none=some b:=h
  cases q:(T.row t).eq with
  |false=>rw[q]at e;cases e
  |true=>
   rw[q,SG]at e;obtain⟨W,q2,O⟩:=(k t B).eqs q
   have g:∀(t:TypeId) (cs ds:Array Value) (xs ys:List V) (b:Bool),t<T.n t->cs.size=xs.length->(∀(i:Nat) c x,cs[i]? =some c->xs[i]? =some x->Rv w G c x)->ds.size=ys.length->(∀(i:Nat) c x,ds[i]? =some c->ys[i]? =some x->Rv w G c x)->eqT T n t xs ys=some b->(Op.equalIn (D+n+1) t (.agg cs) (.agg ds)).run P w= .ok b w:=λt cs ds xs ys b h1 h2 h3 X h5 h6=>by
    grind
   rw[show D+1+(n+1)=(D+n+1)+1 from Aa];split at e
   ·rename_i r
    obtain⟨M,y,C,R⟩:=yJ (k t B) r;rw[C]at e
    have:=bN5 k g J N u s M.toList b (λf E=>O M y f (by simpa using E)) (λf E F=>by
     obtain⟨i,S,Q⟩:=R f (by simpa using E)
     obtain⟨j,I,U,_⟩:=(k _ F).info;rw[S]at I;cases I;rw[<-Q,U]) e
    generalize D+n+1=m at*;simp only[Op.equalIn,RN,dI y,QX];simp only[bY8]at this;rw[Array.forIn_toList]at this;simp[W];rw[this];cases b<;>simp
   ·rename_i r
    cases l:Nat.blt (T.row t).elem (T.n (T.row t).elem)with
    |false=>rw[l]at e;cases e
    |true=>
     rw[l,SG,dA7]at e;have H:=blt l
     obtain⟨m,y,C⟩:∃m,P.underlying t=some (.array m (T.row t).elem)/\(T.row t).alen=m:=by
      obtain⟨A,L,z,Y,f2,e5,f3,f4⟩:=(k t B).und;rw[r]at z;cases A<;>simp[kdOf]at z;grind
     have v:(T.row (T.row t).elem).kd=kdOf (P.underlying (T.row t).elem):=by
      obtain⟨A,L,z,_⟩:=(k _ H).und;rw[L];exact z
     rw[v,C]at e;have:=bX8 k g J N u s H (List.range m) b e;generalize D+n+1=A at*;simp only[Op.equalIn,RN,dI y,QX,iV k H];simp only[cT9]at this;rw[Std.Legacy.Range.forIn_eq_forIn_range'];simp[List.range_eq_range']at this⊢;rw[this];cases b<;>simp
   ·cases e
theorem dN7(p:bP T P)(inv:Inv T Φ σ a w G)(x y:Operand)(g:BinOp)(t i:TypeId)(r:o.op= .binOp g t x y i)(k:t<T.n t)(xs ys:List V)(A:σ.ev x= .agg xs)(u:σ.ev y= .agg ys)(h:aL1 T g t xs ys K):Out T Φ σ a K ((execOp a.eval o).run P w):=by
 have j:=(inv.ev x).1;have s:=(inv.ev y).1
 rw[A]at j;rw[u]at s;obtain⟨cs,q,C,E,B⟩:=j.zV;obtain⟨ds,l,D,F,z⟩:=s.zV
 have m:(T.row t).eq=true->(eqGuard g t x y (.agg cs) (.agg ds)).run P w= .ok () w:=by
  intro c;obtain⟨_,v,_⟩:=(p t k).eqs c;cases g<;>simp[eqGuard,v]
 have f:∀b,eqT T 4 t xs ys=some b->(Op.equal t (.agg cs) (.agg ds)).run P w= .ok b w:=λb e=>eM4 p 4 9995 t cs ds xs ys b k C B D z e;unfold aL1 at h;split at h
 ·obtain⟨c,h⟩:=dX h
  split at h
  ·rename_i b e
   exact .plain inv (yY x y _ t i r _ _ (.bool b) q l (m c) (by simp[binOp,f b e])) h (B_ok _ _ _) dL
  ·exact h.elim
 ·obtain⟨c,h⟩:=dX h
  split at h
  ·rename_i b e
   exact .plain inv (yY x y _ t i r _ _ (.bool !b) q l (m c) (by simp[binOp,f b e])) h (B_ok _ _ _) dL
  ·exact h.elim
 ·exact h.elim
theorem kd_ptr{t:TypeId}{r:Row}(h:aH9 P t r)(c:r.kd= .ptr):∃e,P.underlying t=some (.pointer e):=by
 obtain⟨d,f,b,_⟩:=h.und;rw[c]at b;cases d<;>first|exact⟨_,f⟩|(simp[kdOf]at b)
theorem equal_ptr{t e:TypeId}(f:P.underlying t=some (.pointer e))(b:Addr):(Op.equal t (.pointer (some b)) (.pointer none)).run P w= .ok false w:=by
 have h:∀c,(Op.equalIn (c+1) t (.pointer (some b)) (.pointer none)).run P w= .ok false w:=λc=>by simp[Op.equalIn,dI f]
 exact h 9999
theorem dQ5(A:bP T P)(inv:Inv T Φ σ a w G)(x y:Operand)(c:BinOp)(t q:TypeId)(v:o.op= .binOp c t x y q)(h:bD7 T c t (σ.ev x) (σ.ev y) K):Out T Φ σ a K ((execOp a.eval o).run P w):=by
 have b:=(inv.ev x).1;have j:=(inv.ev y).1
 unfold bD7 at h;split at h
 ·rename_i k m C n g f
  rw[g]at b;rw[f]at j;by_cases l:k=C
  ·subst l
   simp only[decide_true,SG]at h;exact dM7 inv x y c t q v k m n b.bH j.bH h
  ·simp only[l,decide_false,SA]at h
   exact sh_sound inv x y c t q v k C m n b.bH j.bH h
 ·rename_i m n g f
  rw[g]at b;rw[f]at j;exact dM9 inv x y c t q v m n b.bH j.bH h
 ·rename_i m n g f
  rw[g]at b;rw[f]at j;obtain⟨s,h⟩:=aT h;exact cV0 A inv x y c t q v m n b.bH j.bH (blt s) h
 ·rename_i xs ys g f
  obtain⟨s,h⟩:=aT h;exact dN7 A inv x y c t q v (blt s) xs ys g f h
 ·rename_i i off g f
  rw[g]at b;rw[f]at j;obtain⟨s,z⟩:=aT h;clear h;have D:a.eval x= .pointer (some ⟨G.β i,off,none⟩):=by generalize a.eval x=u at b;cases b;rfl
  have H:=j.bH;have F:(eqGuard c t x y (a.eval x) (a.eval y)).run P w= .ok () w:=by rw[D];exact qZ _ _ _ _ _ _ (by simp) (by simp)
  have p:∀r:Value,r.oneCell'=true->(binOp c t (a.eval x) (a.eval y)).run P w= .ok r w->K (.lit r) []->Out T Φ σ a K ((execOp a.eval o).run P w):=λr E I l=>
   .plain inv (yY x y c t q v _ _ r rfl rfl F I) l (.lit r E) dL
  rw[D,H]at p;unfold ptrVC at z;split at z
  ·rename_i l
   obtain⟨e,B⟩:=kd_ptr (A t (blt s)) l;exact p (.bool false) rfl (by simp[binOp,equal_ptr B]) z
  ·rename_i l
   obtain⟨e,B⟩:=kd_ptr (A t (blt s)) l;exact p (.bool true) rfl (by simp[binOp,equal_ptr B]) z
  ·exact z.elim
 ·exact h.elim
theorem xQ(f:bP T P)(inv:Inv T Φ σ a w G)(o:Oper)(h:opVC T σ d o.op K):Out T Φ σ a K ((execOp a.eval o).run P w):=by
 generalize e:o.op=q at h;unfold opVC at h;split at h
 ·exact cZ8 inv _ e h
 ·exact cB9 inv _ e h
 ·exact dA3 inv _ _ _ e h
 ·exact dZ4 inv _ _ _ e h
 ·exact dQ5 f inv _ _ _ _ _ e h
 ·exact dM8 inv _ _ e h
 ·obtain⟨b,h⟩:=aT h;exact cJ8 f inv _ e (blt b) h
 ·obtain⟨b,h⟩:=aT h;exact aY3 f inv _ _ _ e (blt b) h
 ·obtain⟨b,h⟩:=aT h;exact cL3 f inv _ _ _ e (blt b) h
 ·obtain⟨b,h⟩:=aT h;exact cZ0 f inv _ _ e (blt b) h
 ·obtain⟨b,h⟩:=aT h;exact cJ7 f inv _ _ _ e (blt b) h
 ·obtain⟨b,h⟩:=aT h;exact aY7 f inv _ _ _ e (blt b) h
 ·obtain⟨b,h⟩:=aT h;exact cK7 f inv _ _ _ e (blt b) h
 ·exact bN4 inv _ _ e h
 ·exact .plain inv (by simp[execOp,e,Instr.makeFunc]) h (.fn _ #[] [] rfl (λi c x hc=>Ij)) Ep
 ·rename_i g x xs
  rw[bC,dU]at h;refine .plain inv (v':= .func (.func g) ((x::xs).map a.eval).toArray #[]) (by simp[execOp,e,Instr.makeFunc]) h (.fb _ _ _ Ae λi c y hc l=>?_) ?_
  ·have hi:i< (x::xs).length:=by have:=(QD.1 l).1;simpa using this
   rw[Rk,QE hi]at l;simp only[Sr,RS]at l;have j:((x::xs).map a.eval)[i]? =some c:=D9;rw[Rk,QE hi]at j;simp only[Sr,RS]at j;subst l;subst j;exact(inv.ev _).1
  ·simp only[V.ok]
   show V.okL _ _ (.own 0 [] ::(x::xs).map σ.ev);simp only[V.okL,V.ok];refine⟨trivial,aH.2 λy l=>?_⟩;obtain⟨z,_,rfl⟩:=QZ.1 l;exact(inv.ev z).2
 ·obtain⟨b,h⟩:=aT h;exact cM3 f inv _ _ e (blt b) h
 ·obtain⟨b,h⟩:=aT h;exact aQ7 f inv _ _ _ e (blt b) h
 ·obtain⟨b,h⟩:=aT h;exact aY6 f inv _ _ _ e (blt b) h
 ·obtain⟨b,h⟩:=aT h;exact cH8 f inv _ _ _ _ _ e (blt b) h
 ·exact cD9 f inv _ _ _ e h
 ·obtain⟨b,h⟩:=aT h
  split at h
  ·rename_i k;exact dM3 f inv _ _ e (blt b) k h
  ·rename_i k;exact cR9 f inv _ _ e (blt b) k h
  ·exact h.elim
 ·obtain⟨b,n⟩:=aT h
  simp only[QN]at b;obtain⟨b,m⟩:=b;exact cB7 f inv _ _ _ _ e (blt b) (blt m) n
 ·grind [aK6]
 ·grind [aK6]
 ·obtain⟨b,h⟩:=aT h;exact bM3 f inv _ e (blt b) h
 ·obtain⟨b,h⟩:=aT h;exact bZ4 f inv _ _ _ e (blt b) h
 ·obtain⟨b,h⟩:=aT h;exact aA0 f inv _ _ _ _ (.inl e) (blt b) h
 ·obtain⟨b,h⟩:=aT h;exact aA0 f inv _ _ _ _ (.inr e) (blt b) h
 ·exact bL7 inv _ e h
 ·exact h.elim
end
section
variable{T:Tab}{P:Program}{Φ:Fr}{σ:St}{a:Act}{w w':World}{G G':Gh}{K:VK}{o:Oper}{d:Nat}
theorem pM{k:Nat}{l:List Nat}:memR k l=true↔k∈l:=by
 induction l<;>simp_all [Nat.beq,SX,memR]
theorem Inv.freeze(inv:Inv T Φ σ a w G){k:Nat}{en:AE}(e:σ.ar k=some en)(n:en.kind= .own\/en.kind= .ap):
 ∃O',Inv T Φ (σ.apps [.a k ⟨en.gen, .frz,en.ty,en.l⟩]) a w {G with O:=O'}/\(∀b,O' b= .fz↔(G.O b= .fz\/G.O b= .ar k))/\(∀b,G.O b≠ .ar k->O' b=G.O b):=by
 let O':Nat->Tag:=λb=>match G.O b with| .ar j=>if j=k then .fz else .ar j|t=>t
 have f:∀b,G.O b≠ .ar k->O' b=G.O b:=by
  grind
 have r:∀b,G.O b= .ar k->O' b= .fz:=by
  grind
 have i:Keep w w G {G with O:=O'}:=⟨λb hb=>(f b AP).trans hb,λ_ _=>rfl⟩
 have hp:=inv.wfA k en e;refine⟨O',?_,?_,f⟩
 ·refine inv.zU (w':=w) (k:=k) (en:=⟨en.gen, .frz,en.ty,en.l⟩) (av':=G.av) (O':=O') (λg ⟨B,q,s⟩=>by rw[e]at q;cases q;exact s) (λ_ _ _=>rfl) hp ?_ (λb _ hb=>f b hb) ?_ (λ_ _ _=>rfl) (QH _) rfl rfl rfl
  ·have c:=inv.arr k en e
   show Rv w {G with O:=O'} (G.av k en.gen) (.sl en.l)
   have own:∀ {ty},gJ T w G k (G.av k en.gen) ty en.l->Rv w {G with O:=O'} (G.av k en.gen) (.sl en.l):=by
    intro ty m;rcases m with⟨v,x⟩|⟨b,cap,cur,v,x,A,E,C,F,z,D⟩
    ·grind [bA2]
    ·obtain⟨cc,q,s⟩:=(D.here A).out
     rw[v];refine .slS _ cap en.l _ cc E C (λ_=>r b x) z q (λj y u=>(s j y u).aW i (dF hp u))
   unfold gW at c;rcases n with n|n
   ·grind
   ·rw[n]at c
    rcases c.2 with c|c
    ·exact own c
    ·exact c.1.wK.aW i AB
  ·grind
 ·grind
theorem bA7(inv:Inv T Φ σ a w G)(e:Keep w w G G'){v:Value}{x y:V}(h:yH σ.ar x y)(hv:Rv w G v x)(hok:x.ok σ.hasB σ.hasA)(f:∀k∈akey x,∀b,G.O b= .ar k->G'.O b= .fz):Rv w G' v y/\y.pure:=by
 have sl:∀ {u:Value} {l:List V},bM l->Rv w G u (.sl l)->Rv w G' u (.sl l)/\(V.sl l).pure:=λhp h=>⟨h.aW e AB,AB⟩;unfold yH at h;split at h
 ·rename_i l
  split at h
  ·grind [V.ok]
  ·subst h;simp only[V.ok]at hok;exact sl hok hv.wK
  ·subst h;rw[hv.bH];exact⟨.slN,by simp only[V.pure,V.ok,V.okL]⟩
  ·rename_i k g
   split at h
   ·rename_i en i
    obtain⟨E,L,rfl⟩:=h;subst E;have hp:=inv.wfA k en i;have c:=inv.arr k en i
    rw[hv.oQ];have C:=f k (by simp[akey])
    have own:∀ {ty},gJ T w G k (G.av k en.gen) ty en.l->Rv w G' (G.av k en.gen) (.sl en.l):=by
     intro ty m;rcases m with⟨r,s⟩|⟨b,cap,cur,r,s,z,I,A,J,t,D⟩
     ·grind [bA2]
     ·obtain⟨cc,H,B⟩:=(D.here z).out
      rw[r];exact .slS _ cap en.l _ cc I A (λ_=>C b s) t H (λj y n=>(B j y n).aW e (dF hp n))
    refine⟨?_,AB⟩;unfold gW at c;split at c
    ·simp_all
    ·exact(sl hp c).1
    ·exact own c.2
    ·rcases c.2 with q|q
     ·exact own q
     ·exact(sl hp q.1.wK).1
   ·exact h.elim
  ·exact h.elim
 ·rename_i l
  split at h
  ·subst h
   simp only[V.ok]at hok;exact⟨hv.aW e BL,BL⟩
  ·subst h;rw[hv.bH];exact⟨.capN,by simp only[V.pure,V.ok,V.okL]⟩
  ·exact h.elim
 ·split at h
  ·subst h
   rw[hv.bH];exact⟨.lit _ hv.aZ3,by simp only[V.pure,V.ok]⟩
  ·exact h.elim
 ·split at h
  ·subst h
   simp only[V.ok]at hok;exact⟨hv.aW e BL,BL⟩
  ·exact h.elim
 ·split at h
  ·obtain⟨rfl,rfl,F⟩:=h
   have hp:=fn_atom_pure F hok;simp only[V.pure,V.ok]at hp;exact⟨hv.aW e AB,AB⟩
  ·exact h.elim
 ·exact h.elim
theorem cW4{ar:Nat->Option AE}:∀ {ys xs:List V},cN9 ar ys xs->xs.length=ys.length/\∀(i:Nat) x y,xs[i]? =some x->ys[i]? =some y->yH ar x y:=by
 intro ys
 induction ys with
 |nil=>
  intro xs h;exact Oc
 |cons y r b=>
  intro xs h
  cases xs with
  |nil=>exact(h:False).elim
  |cons x xr=>
   obtain⟨e,c⟩:yH ar x y/\cN9 ar r xr:=h;grind
theorem qM{ar:Nat->Option AE}:∀ {ys xs:List V},iQ T ar ys xs->xs.length=ys.length/\∀(i:Nat) x y,xs[i]? =some x->ys[i]? =some y->wU T ar x y:=by
 intro ys
 induction ys with
 |nil=>
  intro xs h;exact Oc
 |cons y r b=>
  intro xs h
  cases xs with
  |nil=>exact(h:False).elim
  |cons x xr=>
   obtain⟨e,c⟩:wU T ar x y/\iQ T ar r xr:=h;grind
theorem dK9(cs:List V):jQ (.agg cs)=cs.flatMap akey:=by
 induction cs with
 |nil=>rfl
 |cons x r b=>
  have:jQ (.agg (x::r))=appR (akey x) (jQ (.agg r)):=rfl;rw[this,bT,b,RZ]
theorem oZ:∀ {ys xs:List V} {k:Nat},k∈bD ys xs↔∃(i:Nat) (x y:V),xs[i]? =some x/\ys[i]? =some y/\linear y=true/\k∈jQ x:=by
 intro ys
 induction ys with
 |nil=>
  intro xs k;have:bD [] xs=[] :=rfl;rw[this];simp
 |cons y r g=>
  intro xs k
  cases xs with
  |nil=>
   have:bD (y::r) [] =[] :=rfl;rw[this];simp
  |cons x xr=>
   have:bD (y::r) (x::xr)=appR (cond (linear y) (jQ x) []) (bD r xr):=rfl;rw[this,bT,QJ,g];constructor
   ·rintro(h|⟨i,x',f,l,j,c,e⟩)
    ·cases b:linear y with
     |true=>rw[b]at h;exact⟨0,x,y,rfl,rfl,b,h⟩
     |false=>rw[b]at h;cases h
    ·exact⟨i+1,x',f,l,j,c,e⟩
   ·grind
theorem nP:∀ {ys xs:List V} {k:Nat},k∈bK ys xs↔∃(i:Nat) (x y:V),xs[i]? =some x/\ys[i]? =some y/\linear y=false/\k∈jQ x:=by
 intro ys
 induction ys with
 |nil=>
  intro xs k;have:bK [] xs=[] :=rfl;rw[this];simp
 |cons y r g=>
  intro xs k
  cases xs with
  |nil=>
   have:bK (y::r) [] =[] :=rfl;rw[this];simp
  |cons x xr=>
   have:bK (y::r) (x::xr)=appR (cond (linear y) [] (jQ x)) (bK r xr):=rfl;rw[this,bT,QJ,g];constructor
   ·rintro(h|⟨i,x',f,l,j,c,e⟩)
    ·cases b:linear y with
     |true=>rw[b]at h;cases h
     |false=>rw[b]at h;exact⟨0,x,y,rfl,rfl,b,h⟩
    ·exact⟨i+1,x',f,l,j,c,e⟩
   ·grind
theorem aJ2(inv:Inv T Φ σ a w G)(s:Keep w w G G'){v:Value}{x y:V}{j:Nat}(h:wU T σ.ar x y)(hv:Rv w G v x)(hok:x.ok σ.hasB σ.hasA)
 (z:linear y=false->∀k∈jQ x,∀b,G.O b= .ar k->G'.O b= .fz)(m:linear y=true->∀k∈jQ x,∀b,G.O b= .ar k->G'.O b= .ar j):Rb T w G' j v y:=by
 have own:∀ {k ty l},bM l->gJ T w G k v ty l->(∀b,G.O b= .ar k->G'.O b= .ar j)->gJ T w G' j v ty l:=by
  intro k ty l hp B A;rcases B with h|⟨b,cap,cur,J,e2,H,L,Q,R,N,U⟩
  ·exact .inl h
  ·refine .inr ⟨b,cap,cur,J,A b e2,H,L,Q,R,N,U.keep s (p:=λ_=>False) (q:=λ_ _=>False) ?_ (λ_ h=>h.elim) (λ_ _ h=>h.elim)⟩
   refine aH.2 λu S=>?_;obtain⟨i,hi⟩:=QY S;exact dF hp hi
 unfold wU at h;split at h
 ·rename_i e l
  split at h
  ·obtain⟨C,rfl⟩:=h
   exact⟨C,BX, .inl ⟨.inl hv.bH,rfl⟩⟩
  ·rename_i k g
   split at h
   ·rename_i en n
    obtain⟨A,r,rfl,rfl⟩:=h;subst A;have f:=inv.arr k en n;unfold gW at f;rw[r]at f;have hp:=inv.wfA k en n
    rw[<-hv.oQ]at f;exact⟨f.1,hp,own hp f.2 (m rfl k (by simp[jQ]))⟩
   ·exact h.elim
  ·exact h.elim
 ·rename_i e l
  split at h
  ·obtain⟨C,rfl⟩:=h
   exact⟨C,BX, .inl (.inl ⟨.inl hv.bH,rfl⟩)⟩
  ·obtain⟨C,Y,rfl⟩:=h
   simp only[V.ok]at hok;exact⟨C,hok, .inr ⟨hv.aW s BL,Y⟩⟩
  ·rename_i k g
   split at h
   ·rename_i en n
    obtain⟨A,r,rfl,rfl⟩:=h;subst A;have f:=inv.arr k en n;have hp:=inv.wfA k en n
    have I:=m rfl k (by simp[jQ])
    unfold gW at f;rw[<-hv.oQ]at f;rcases r with r|r
    ·rw[r]at f
     exact⟨f.1,hp, .inl (own hp f.2 I)⟩
    ·rw[r]at f
     refine⟨f.1,hp,?_⟩;rcases f.2 with q|q
     ·grind
     ·exact .inr ⟨q.1.aW s AB,q.2⟩
   ·exact h.elim
  ·exact h.elim
 ·rename_i ys
  split at h
  ·rename_i xs
   obtain⟨hl,X⟩:=cW4 h;obtain⟨cs,J,e2,H,L⟩:=hv.zV;simp only[V.ok]at hok
   have t:∀(i:Nat) c y,cs[i]? =some c->ys[i]? =some y->Rv w G' c y/\y.pure:=by
    intro i c y F hy;have hi:i<xs.length:=EZ;have D:=QE hi
    exact bA7 inv s (X i _ y D hy) (L i c _ F D) (aH.1 hok _ (QF D)) (λk r=>z rfl k (by rw[dK9];exact List.mem_flatMap.2 ⟨_,QF D,r⟩))
   refine⟨?_,?_⟩
   ·simp only[V.pure,V.ok]
    refine aH.2 λy hy=>?_;obtain⟨i,hi⟩:=QY hy;have E:i<cs.size:=EK
    exact(t i cs[i] y (by simp[E]) hi).2
   ·rw[J]
    exact .agg cs ys (by rw[e2,hl]) H (λi c y F hy=>(t i c y F hy).1)
  ·exact h.elim
 ·rename_i Z h2 h3
  have M:linear y=false:=by
   grind [linear]
  have W:∀k∈akey x,k∈jQ x:=by
   intro k r;cases x<;>simp_all [akey,jQ]
  grind [bA7,Rb]
end
section
variable{T:Tab}{P:Program}{Φ:Fr}{σ:St}{a:Act}{w w':World}{G G':Gh}{K:VK}{o:Oper}{d:Nat}
theorem dO(σ:St)(b ns:List Mod):σ.apps (b++ns)=(σ.apps b).apps ns:=by simp[St.apps,Tz]
theorem vM(σ:St)(b:List Mod):(σ.apps b).env=σ.env:=by
 induction b generalizing σ with
 |nil=>rfl
 |cons m r c=>
  have:σ.apps (m::r)=(m.app σ).apps r:=rfl;rw[this,c];cases m<;>rfl
theorem Inv.eV5(inv:Inv T Φ σ a w G){k gen:Nat}(E:∀g,σ.hasA k g->g<gen){z:AK}(X:z= .own\/z= .ap){u:Value}{e:TypeId}{l:List V}(Y:e<T.n e)(hp:bM l){Gx:Gh}{j:Nat}
 (f:gJ T w Gx j u e l\/(z= .ap/\Rv w Gx u (.cap l)/\∀x∈l,x.cells.length=(T.row e).size))(Q:Keep w w Gx G)(B:∀b,Gx.O b= .ar j->G.O b= .ext/\Φ.mine b/\b<w.heap.size):
 ∃G',Inv T Φ (σ.apps [.a k ⟨gen,z,e,l⟩]) a w G'/\G'.av k gen=u/\u.oneCell'=true/\(∀b,Gx.O b≠ .ar j->G'.O b=G.O b)/\G'.β=G.β/\(∀c g,σ.hasA c g->G'.av c g=G.av c g):=by
 let av':Nat->Nat->Value:=λc g=>if c=k/\g=gen then u else G.av c g
 have s:av' k gen=u:=Iu
 have r:∀c g,σ.hasA c g->av' c g=G.av c g:=λc g F=>by
  grind
 let O':Nat->Tag:=λb=>match Gx.O b with| .ar i=>if i=j then .ar k else G.O b|_=>G.O b
 have v:∀b,Gx.O b≠ .ar j->O' b=G.O b:=by
  grind
 have A:∀b,Gx.O b= .ar j->O' b= .ar k:=by
  grind
 let m:Gh:={G with av:=av',O:=O'}
 have t:Keep w w Gx m:=⟨λb hb=>(v b AP).trans (Q.fz b hb),λ_ _=>rfl⟩;refine⟨m,?_,s,?_,v,rfl,r⟩
 ·refine inv.zU (w':=w) (k:=k) (en:=⟨gen,z,e,l⟩) (av':=av') (O':=O') (λg F=>TR (E g F)) r hp ?_ ?_ ?_ (λ_ _ _=>rfl) (QH _) rfl rfl rfl
  ·have C:gJ T w Gx j u e l->gJ T w m k (m.av k gen) e l:=by
    intro h;have D:m.av k gen=u:=s;rw[D];rcases h with h|⟨b,cap,cur,J,S,R,I,U,N,L,M⟩
    ·exact .inl h
    ·refine .inr ⟨b,cap,cur,J,A b S,R,I,U,N,L,M.keep t (p:=λ_=>False) (q:=λ_ _=>False) ?_ (λ_ h=>h.elim) (λ_ _ h=>h.elim)⟩
     refine aH.2 λy H=>?_;obtain⟨i,hi⟩:=QY H;exact dF hp hi
   unfold gW;rcases f with h|⟨rfl,h,W⟩
   ·grind
   ·refine⟨Y, .inr ⟨?_,W⟩⟩
    have D:m.av k gen=u:=s;show Rv w m (m.av k gen) _;rw[D];exact h.aW t AB
  ·grind
  ·grind
 ·rcases f with h|⟨_,h,_⟩
  ·rcases h with⟨h,_⟩|⟨b,cap,cur,h,_⟩
   ·exact aP2 h
   ·rw[h];rfl
  ·rcases h.vP with⟨h,_⟩|⟨Z,sz,cc,h,_⟩<;>(rw[h];rfl)
theorem aR5(σ:St)(b:List Mod)(h:∀m∈b,∃k en,m= .a k en):(σ.apps b).bx=σ.bx:=by
 induction b generalizing σ with
 |nil=>rfl
 |cons m r c=>
  have:σ.apps (m::r)=(m.app σ).apps r:=rfl;rw[this,c _ (λm e=>h m (by simp[e]))]
  obtain⟨k,en,rfl⟩:=h m Ae;rfl
def frzE(en:AE):AE:=match en.kind with| .own=>⟨en.gen, .frz,en.ty,en.l⟩| .ap=>⟨en.gen, .frz,en.ty,en.l⟩| .frz=>en| .dead=>⟨en.gen, .dead,en.ty,[]⟩
theorem cH2(σ σ':St)(i:List Nat):(∀k,σ'.ar k=σ.ar k\/σ'.ar k=(σ.ar k).map frzE)->∀k,(σ'.apps (aV σ i)).ar k=if k∈i then(σ.ar k).map frzE else σ'.ar k:=by
 induction i generalizing σ' with
 |nil=>intro _ k;simp[aV,St.apps]
 |cons x r n=>
  intro e k
  have f:aV σ (x::r)=(match σ.ar x with
   |some en=>match en.kind with
    | .own=>Mod.a x ⟨en.gen, .frz,en.ty,en.l⟩::aV σ r
    | .ap=>Mod.a x ⟨en.gen, .frz,en.ty,en.l⟩::aV σ r
    | .frz=>aV σ r
    | .dead=>match en.l with| [] =>aV σ r|_::_=>Mod.a x ⟨en.gen, .dead,en.ty,[]⟩::aV σ r
   |none=>aV σ r):=rfl
  have skip:(σ.ar x).map frzE=σ.ar x->(σ'.apps (aV σ r)).ar k=if k∈x::r then(σ.ar k).map frzE else σ'.ar k:=by
   grind
  have b:∀c,(σ.ar x).map frzE=some c->(σ'.apps (Mod.a x c::aV σ r)).ar k=if k∈x::r then(σ.ar k).map frzE else σ'.ar k:=by
   intro c hx;have m:σ'.apps (Mod.a x c::aV σ r)=((Mod.a x c).app σ').apps (aV σ r):=rfl;rw[m,n _ (λg=>?_) k]
   ·by_cases h1:k∈r
    ·simp[h1]
    ·by_cases h2:k=x
     ·subst h2
      simp only[h1,Ue,QO,true_or,TQ];show upd σ'.ar k _ k=_;rw[upd_same,hx]
     ·exact L6
   ·show upd σ'.ar x _ g=_\/upd σ'.ar x _ g=_
    by_cases h2:g=x
    ·subst h2;right;rw[upd_same,hx]
    ·rw[upd_ne _ _ h2];exact e g
  rw[f]
  cases hx:σ.ar x with
  |none=>simp only;exact skip (by rw[hx];rfl)
  |some en=>
   simp only
   cases hk:en.kind with
   |own=>simp only;exact b _ Gf
   |ap=>simp only;exact b _ Gf
   |frz=>simp only;exact skip Gf
   |dead=>
    simp only
    cases j:en.l with
    |nil=>exact skip (by rw[hx];obtain⟨u,s,q,t⟩:=en;simp only at hk j;subst hk j;rfl)
    |cons y ys=>exact b _ Gf
theorem bF7(σ:St)(e:List Nat):∀m∈aV σ e,∃k en,m= .a k en:=by
 induction e with
 |nil=>intro m b;cases b
 |cons x r f=>
  intro m b
  have c:aV σ (x::r)=(match σ.ar x with
   |some en=>match en.kind with
    | .own=>Mod.a x ⟨en.gen, .frz,en.ty,en.l⟩::aV σ r
    | .ap=>Mod.a x ⟨en.gen, .frz,en.ty,en.l⟩::aV σ r
    | .frz=>aV σ r
    | .dead=>match en.l with| [] =>aV σ r|_::_=>Mod.a x ⟨en.gen, .dead,en.ty,[]⟩::aV σ r
   |none=>aV σ r):=rfl
  grind
theorem qL(σ0:St)(d:Nat)(y:V)(r:List V)(j:Nat)(c:Option (Nat×Nat))(K:List V->List Mod->Prop):uF σ0 d (y::r) j c K=(match y with
        | .own e l=>match c with
          |some (k,g)=>uF σ0 d r (j+1) none λvs b=>K (.arr k g::vs) (.a k ⟨g, .own,e,l⟩::b)
          |none=>match σ0.ar (d+1000*j)with
           |none=>uF σ0 d r (j+1) none λvs b=>K (.arr (d+1000*j) 0::vs) (.a (d+1000*j) ⟨0, .own,e,l⟩::b)
           |some _=>False
        | .ap e l=>match c with
          |some (k,g)=>uF σ0 d r (j+1) none λvs b=>K (.arr k g::vs) (.a k ⟨g, .ap,e,l⟩::b)
          |none=>match σ0.ar (d+1000*j)with
           |none=>uF σ0 d r (j+1) none λvs b=>K (.arr (d+1000*j) 0::vs) (.a (d+1000*j) ⟨0, .ap,e,l⟩::b)
           |some _=>False
        |y=>force y λy=>uF σ0 d r (j+1) c λvs b=>K (y::vs) b):=rfl
theorem oW{y:V}(c:∀e l,y= .own e l->False)(b:∀e l,y= .ap e l->False):linear y=false:=by
 cases y with
 |own e l=>exact(c e l rfl).elim
 |ap e l=>exact(b e l rfl).elim
 |_=>rfl
theorem cO6{Gx:Gh}{σ0:St}:∀(rs:List V) (j:Nat) (U:Option (Nat×Nat)) (σ:St) (G:Gh) (N:List Value) (K:List V->List Mod->Prop),
 Inv T Φ σ a w G->(∀c,j<=c->σ0.ar (d+1000*c)=none->σ.ar (d+1000*c)=none)->(∀k g,U=some (k,g)->(∀g',σ.hasA k g'->g'<g)/\∀c,σ0.ar (d+1000*c)=none->k≠d+1000*c)->N.length=rs.length->
 (∀(i:Nat) u y,N[i]? =some u->rs[i]? =some y->linear y=true->Rb T w Gx (j+i) u y)->(∀(i:Nat) u y,N[i]? =some u->rs[i]? =some y->linear y=false->Rv w G u y/\y.pure)->((∃y∈rs,linear y=true)->Keep w w Gx G)->
 (∀c b,j<=c->Gx.O b= .ar c->G.O b= .ext/\Φ.mine b/\b<w.heap.size)->uF σ0 d rs j U K->
 ∃vs f G',K vs f/\Inv T Φ (σ.apps f) a w G'/\vs.length=rs.length/\(∀(i:Nat) u v,N[i]? =some u->vs[i]? =some v->Rv w G' u v/\v.ok (σ.apps f).hasB (σ.apps f).hasA)/\G'.β=G.β/\(∀k g,σ.hasA k g->G'.av k g=G.av k g)/\(∀b,G.O b≠ .ext->G'.O b=G.O b)/\(∀k g,σ.hasA k g->(σ.apps f).hasA k g)/\(σ.apps f).bx=σ.bx:=by
 intro rs
 induction rs with
 |nil=>
  intro j U σ G N K inv _ _ hl _ _ _ _ h;have:N=[] :=Tc BD;subst this;exact⟨[],[],G,h,inv,rfl,λi u v hu=>by simp at hu,rfl,λ_ _ _=>rfl,λ_ _=>rfl,λ_ _ h=>h,rfl⟩
 |cons y r ih=>
  intro j U σ G N K inv m E hl L Q Y s h
  cases N with
  |nil=>simp at hl
  |cons u W=>
   have R:W.length=r.length:=BD
   have F:∀(i:Nat) u y,W[i]? =some u->r[i]? =some y->linear y=true->Rb T w Gx (j+1+i) u y:=λi u y hu hy A=>by
    have:=L (i+1) u y Bj Dk A;grind
   have B:∀(k g:Nat) (M:AK) (e:TypeId) (l:List V),(M= .own\/M= .ap)->linear y=true->(∀g',σ.hasA k g'->g'<g)->(∀c,j+1<=c->σ0.ar (d+1000*c)=none->k≠d+1000*c)->e<T.n e->bM l->
    (gJ T w Gx j u e l\/(M= .ap/\Rv w Gx u (.cap l)/\∀x∈l,x.cells.length=(T.row e).size))->
    (uF σ0 d r (j+1) none λvs f=>K (.arr k g::vs) (.a k ⟨g,M,e,l⟩::f))->
    ∃vs f G',K vs f/\Inv T Φ (σ.apps f) a w G'/\vs.length=(y::r).length/\(∀(i:Nat) H v,(u::W)[i]? =some H->vs[i]? =some v->Rv w G' H v/\v.ok (σ.apps f).hasB (σ.apps f).hasA)/\G'.β=G.β/\(∀k g,σ.hasA k g->G'.av k g=G.av k g)/\(∀b,G.O b≠ .ext->G'.O b=G.O b)/\(∀k g,σ.hasA k g->(σ.apps f).hasA k g)/\(σ.apps f).bx=σ.bx:=by
    intro k g M e l ai A hno ae he hp Z z;have hx:=Y ⟨y,Ae,A⟩;obtain⟨G1,X,a1,a2,a3,a4,a5⟩:=inv.eV5 (k:=k) (gen:=g) hno ai he hp Z hx (λb hb=>s j b (QH _) hb);have ab:∀k' g',σ.hasA k' g'->(σ.apps [.a k ⟨g,M,e,l⟩]).hasA k' g':=λk' g' hh=>KD
    have ah:∀b,G.O b≠ .ext->G1.O b=G.O b:=λb hb=>a3 b (λaf=>hb (s j b (QH _) af).1);have J:Keep w w G G1:=⟨λb hb=>(ah b AP).trans hb,λ_ _=>rfl⟩
    obtain⟨vs,f,G',b1,b2,b3,b4,b5,b6,b7,b8,b9⟩:=ih (j+1) none (σ.apps [.a k ⟨g,M,e,l⟩]) G1 W _ X
     (λc t C=>by show upd σ.ar k _ _=_;rw[upd_ne _ _ (Ne.symm (ae c t C))];exact m c (by omega) C)
     (λ_ _ h=>Ah) R F
     (λi u y hu hy A=>by
      obtain⟨I,D⟩:=Q (i+1) u y Bj Dk A;exact⟨I.aW J D,D⟩)
     (λ⟨y',aa,R⟩=>⟨λb hb=>(J.fz b (hx.fz b hb)),λ_ _=>rfl⟩)
     (λc b t hb=>by
      have:=s c b Aa hb;refine⟨?_,this.2⟩;rw[a3 b (by rw[hb];intro e;cases e;omega)]
      exact this.1) z
    refine⟨_,_,G',b1,b2,by simp[b3],?_,b5.trans a4,λk' g' hh=>(b6 k' g' (ab k' g' hh)).trans (a5 k' g' hh),λb hb=>?_,λk' g' hh=>b8 k' g' (ab k' g' hh),b9⟩
    ·intro i H v hu hv
     cases i with
     |zero=>
      simp at hu hv;subst hu;subst hv;have hA:(σ.apps [.a k ⟨g,M,e,l⟩]).hasA k g:=⟨_,upd_same _ _ _,QH _⟩;have e1:G'.av k g=u:=(b6 k g hA).trans a1
      refine⟨?_,by simp only[V.ok];exact b8 k g hA⟩
      rw[<-e1];exact .arr k g (by rw[e1];exact a2)
     |succ i=>exact b4 i H v Bj Bl
    ·grind
   have q:∀c,j+1<=c->d+1000*j≠d+1000*c:=λc h=>Aa
   have ad:linear y=false->(uF σ0 d r (j+1) U λvs f=>K (y::vs) f)->
    ∃vs f G',K vs f/\Inv T Φ (σ.apps f) a w G'/\vs.length=(y::r).length/\(∀(i:Nat) H v,(u::W)[i]? =some H->vs[i]? =some v->Rv w G' H v/\v.ok (σ.apps f).hasB (σ.apps f).hasA)/\G'.β=G.β/\(∀k g,σ.hasA k g->G'.av k g=G.av k g)/\(∀b,G.O b≠ .ext->G'.O b=G.O b)/\(∀k g,σ.hasA k g->(σ.apps f).hasA k g)/\(σ.apps f).bx=σ.bx:=by
    intro A z;obtain⟨vs,f,G',b1,b2,b3,b4,b5,b6,b7,b8,b9⟩:=ih (j+1) U σ G W _ inv (λc t C=>m c Aa C) E R F (λi u y hu hy=>Q (i+1) u y Bj Dk) (λ⟨y',aa,hq⟩=>Y ⟨y',by simp[aa],hq⟩) (λc b t hb=>s c b Aa hb) z
    refine⟨_,_,G',b1,b2,by simp[b3],?_,b5,b6,b7,b8,b9⟩
    intro i H v hu hv
    cases i with
    |zero=>
     simp at hu hv;subst hu;subst hv;obtain⟨I,D⟩:=Q 0 u y rfl rfl A;have ag:Keep w w G G':=⟨λb hb=>(b7 b AP).trans hb,λ_ _=>rfl⟩;exact⟨I.aW ag D,V.pure.ok D _ _⟩
    |succ i=>exact b4 i H v Bj Bl
   have S:=L 0 u y rfl rfl;rw[Tq]at S;rw[qL]at h;split at h
   ·rename_i e l
    obtain⟨I,D,q3⟩:=S rfl;split at h
    ·rename_i k g
     exact B k g .own e l (.inl rfl) rfl (E k g rfl).1 (λc _ C=>(E k g rfl).2 c C) I D (.inl q3) h
    ·split at h
     ·rename_i C
      exact B _ 0 .own e l (.inl rfl) rfl (zK (m j (QH _) C) 0) (λc t _=>q c t) I D (.inl q3) h
     ·exact h.elim
   ·rename_i e l
    obtain⟨I,D,q3⟩:=S rfl;have ac:gJ T w Gx j u e l\/(AK.ap= .ap/\Rv w Gx u (.cap l)/\∀x∈l,x.cells.length=(T.row e).size):=q3.imp id (λh=>⟨rfl,h⟩);split at h
    ·rename_i k g
     exact B k g .ap e l (.inr rfl) rfl (E k g rfl).1 (λc _ C=>(E k g rfl).2 c C) I D ac h
    ·split at h
     ·rename_i C
      exact B _ 0 .ap e l (.inr rfl) rfl (zK (m j (QH _) C) 0) (λc t _=>q c t) I D ac h
     ·exact h.elim
   ·grind [force_eq,oW]
end
end Go.Ab
