/-
  Structs compared; every operation.
-/
import Derived.Test.YtdjgbagnajikeaaGreatDoorA5
import Derived.Laws.BytesString
import Derived.Lib.ConvBytes
import Derived.Laws.Cells
set_option linter.unusedVariables false
set_option linter.unusedSimpArgs false
noncomputable section
namespace Go.Ab
section
variable{T:Tab}{P:Program}{Φ:Fr}{σ:St}{a:Act}{w:World}{G:Gh}{K:VK}{o:Oper}{d:Nat}
theorem Inv.newFrz(inv:Inv T Φ σ a w G){k:Nat}(hk:σ.ar k=none){w':World}{ty:TypeId}{l:List V}{cc:Nat->Value}{cap sz:Nat}(hcap:l.length<=cap)(hm:cap<=maxLen)(hz:∀x∈l,x.cells.length=sz)(hp:bM l)
 (hat:At w' ⟨w.heap.size,0,none⟩ cc (l.flatMap V.cells))(hr:∀G':Gh,∀(j:Nat) y,(l.flatMap V.cells)[j]? =some y->Rv w' G' (cc j) y)
 (ho:∀b,b<w.heap.size->w'.heap[b]? =w.heap[b]?)(hs:w.heap.size<w'.heap.size)(hos:w'.os=w.os)(htape:w'.tape=w.tape)(hout:w'.output=w.output):
 ∃G',Inv T Φ (σ.apps [.a k ⟨0, .frz,ty,l⟩]) a w' G'/\G'.av k 0= .slice (some ⟨w.heap.size,0,none⟩) l.length cap:=by
 have hno:∀g,¬σ.hasA k g:=fun g ⟨en,h,_⟩=>by rw[hk]at h;cases h
 let av':Nat->Nat->Value:=fun k' g=>if k'=k/\g=0 then .slice (some ⟨w.heap.size,0,none⟩) l.length cap else G.av k' g
 have inv1:=inv.zU (w':=w') (k:=k) (en:=⟨0, .dead,ty,[]⟩) (av':=av') (O':=upd G.O w.heap.size (.ar k)) (fun g hg=>(hno g hg).elim) (fun k' g hg=>by
  have:¬(k'=k/\g=0):=by rintro⟨rfl,rfl⟩;exact hno _ hg
  simp[av',this]) BD (by unfold gW;trivial)
  (fun b hb _=>upd_ne _ _ (by have:=inv.tag b hb;omega)) (fun b=>by
   by_cases e:b=w.heap.size
   ·subst e;exact .inr (.inr (.inl ⟨upd_same _ _ _,aN0 inv,hs⟩))
   ·exact .inl (upd_ne _ _ e)) (fun b hb _=>ho b hb) (Nat.le_of_lt hs) hos htape hout
 let O':Nat->Tag:=upd G.O w.heap.size .fz
 have hav:av' k 0= .slice (some ⟨w.heap.size,0,none⟩) l.length cap:=GH;have hO':∀b,b≠w.heap.size->O' b=upd G.O w.heap.size (.ar k) b:=fun b e=>by show upd _ _ _ b=upd _ _ _ b;rw[upd_ne _ _ e,upd_ne _ _ e]
 have hsame:upd G.O w.heap.size (.ar k) w.heap.size= .ar k:=upd_same _ _ _
 have inv2:=inv1.zU (w':=w') (k:=k) (en:=⟨0, .frz,ty,l⟩) (av':=av') (O':=O') (fun g hg=>by
  obtain⟨en,h,hg⟩:=hg;have h:upd σ.ar k _ k=some en:=h
  rw[upd_same]at h;cases h;exact hg) (fun k' g hg=>rfl) hp (by
   unfold gW;show Rv w' _ (av' k 0) (.sl l);rw[hav];exact .slS _ _ _ _ cc hcap hm (fun _=>upd_same _ _ _) hz hat (hr _))
  (fun b hb hb2=>by
   refine hO' b fun e=>?_;subst e
   exact hb2 hsame) (fun b=>by
   by_cases e:b=w.heap.size
   ·subst e;exact .inr (.inr (.inr ⟨upd_same _ _ _,hsame⟩))
   ·exact .inl (hO' b e)) (fun b _ _=>rfl) (Nat.le_refl _) rfl rfl rfl
 refine⟨{G with av:=av',O:=O'},?_,hav⟩
 have e:(σ.apps [.a k ⟨0, .dead,ty,[]⟩]).apps [.a k ⟨0, .frz,ty,l⟩] =σ.apps [.a k ⟨0, .frz,ty,l⟩] :=by
  show({σ with ar:=upd (upd σ.ar k _) k _}:St)={σ with ar:=upd σ.ar k _};congr 1;funext j;by_cases e:j=k
  ·subst e;rw[upd_same,upd_same]
  ·rw[upd_ne _ _ e,upd_ne _ _ e,upd_ne _ _ e]
 rw[e]at inv2;exact inv2
theorem convB_sound(hT:bP T P)(inv:Inv T Φ σ a w G)(s t:TypeId)(x:Operand)(ho:o.op= .convert s t x)(hkd:(T.row s).kd= .str)(h:convB T σ d s t (σ.ev x) K):Out T Φ σ a K ((execOp a.eval o).run P w):=by
 unfold convB at h;split at h
 ·rename_i b hd hx
  obtain⟨hc,h⟩:=aT h;simp only[Bool.and_eq_true]at hc;obtain⟨⟨⟨⟨c1,c2⟩,c3⟩,c4⟩,c5⟩:=hc;obtain⟨hb,h2⟩:=dX h;have k3:(T.row t).kd= .slice:=dV0 c3
  have k4:(T.row (T.row t).elem).kd= .int .u8:=by
   generalize (T.row (T.row t).elem).kd=kd at c4;exact NR
  have u1:=aF2 (hT s (blt c1)) hkd;have u2:=jW (hT t (blt c2)) k3
  have u3:=bY7 (hT _ (blt c5)) k4;have h1:=(inv.ev x).1
  rw[hx]at h1;have hl:(strV b).length=b.size:=Dq
  have hcl:(strV b).flatMap V.cells=strV b:=by
   unfold strV
   induction b.data.toList with
   |nil=>rfl
   |cons c l ih=>rw[List.map_cons,List.flatMap_cons,ih];rfl
  have hget:∀(j:Nat) y,(strV b)[j]? =some y->j<b.size/\y= .lit (.int .u8 (b.data.toList.getD j 0).toNat):=fun j y hy=>by
   have hj:j<b.size:=by rw[<-hl];exact(List.getElem?_eq_some_iff.1 hy).1
   refine⟨hj,?_⟩;unfold strV at hy;rw[List.getElem?_map]at hy
   cases he:b.data.toList[j]? with
   |none=>rw[he]at hy;cases hy
   |some c=>rw[he]at hy;cases hy;rw[List.getD_eq_getElem?_getD,he];rfl
  obtain⟨G',inv',hav⟩:=inv.newFrz hd (w':=Go.Lib.bytesWorld w (T.row t).elem b) (ty:=(T.row t).elem) (l:=strV b) (cc:=fun j=> .int .u8 (b.data.toList.getD j 0).toNat) (cap:=grownCap w b.size 0 (T.row t).elem) (sz:=1)
   (by rw[hl];exact grownCap_ge w b.size 0 _) (grownCap_le_maxLen w _ _ _ BI) (fun y hy=>by
    obtain⟨j,hj⟩:=List.getElem?_of_mem hy
    rw[(hget j y hj).2];rfl) (aH.2 fun y hy=>by
    obtain⟨j,hj⟩:=List.getElem?_of_mem hy;rw[(hget j y hj).2];exact dL)
   (by
    rw[hcl];intro j y hy;refine⟨?_,rfl⟩;rw[rY,Nat.zero_add];exact Go.Lib.bytesWorld_cell w _ b j (hget j y hy).1)
   (by
    rw[hcl];intro G' j y hy;rw[(hget j y hy).2];exact .lit _ rfl)
   (fun j hj=>Go.Lib.bytesWorld_at_old w _ b j hj) (by rw[Go.Lib.bytesWorld_size];omega) rfl rfl rfl
  refine⟨.slice (some ⟨w.heap.size,0,none⟩) b.size (grownCap w b.size 0 (T.row t).elem),Go.Lib.bytesWorld w (T.row t).elem b,_,_,G', .inl ?_,h2,inv',aQ0 (by rw[hav,hl]) rfl,?_⟩
  ·simp only[execOp,ho,h1.bH,Sem.run_bind,Go.Lib.run_convert_string_bytes w s t _ b u1 u2 u3,Result.andThen_ok,Sem.run_pure]
  ·exact I8
 ·exact h.elim
theorem cD9(hT:bP T P)(inv:Inv T Φ σ a w G)(s t:TypeId)(x:Operand)(ho:o.op= .convert s t x)(h:aF1 T σ d s t (σ.ev x) K):Out T Φ σ a K ((execOp a.eval o).run P w):=by
 unfold aF1 at h;split at h
 ·rename_i hkd;exact convB_sound hT inv s t x ho hkd h
 ·rename_i hkd
  obtain⟨hc,h⟩:=aT h;simp only[Bool.and_eq_true]at hc;obtain⟨⟨⟨⟨c1,c2⟩,c3⟩,c4⟩,c5⟩:=hc
  have k3:(T.row t).kd= .str:=by
   generalize (T.row t).kd=kd at c3;cases kd<;>first|rfl|(simp[isStr]at c3)
  have k4:(T.row (T.row s).elem).kd= .int .u8:=by
   generalize (T.row (T.row s).elem).kd=kd at c4;exact NR
  have u1:=jW (hT s (blt c1)) hkd;have u2:=aF2 (hT t (blt c2)) k3
  have u3:=bY7 (hT _ (blt c5)) k4;obtain⟨xs,hk,hp,hsrc⟩:=aV9 inv x h;obtain⟨ns,hxs,hk2⟩:=cC4 hk;subst hxs
  have flat:∀l:List Int,(l.map (fun n=>V.lit (.int .u8 n))).flatMap V.cells=l.map (fun n=>V.lit (.int .u8 n)):=by
   intro l
   induction l with
   |nil=>rfl
   |cons n l ih=>rw[List.map_cons,List.flatMap_cons,ih];rfl
  have run:(convert s t (a.eval x)).run P w= .ok (.string (strOf ns)) w:=by
   rcases hsrc with⟨e1,e2⟩|⟨ad,c,sz,e1,_,_,_,hh⟩
   ·have hn:ns=[] :=by simpa using e2
    subst hn;rw[e1,run_convert_bytes_string w s t _ none 0 0 u1 u3 u2];rfl
   ·rw[e1,run_convert_bytes_string w s t _ (some ad) _ c u1 u3 u2]
    rw[flat]at hh;obtain⟨cc,hat,hrel⟩:=hh.out;refine run_bytesToString w ad _ c ns ?_;have hl:=run_loadCells_list (P:=P) (w:=w) ad (ns.map (Value.int .u8)) (fun j v hv=>?_)
    ·rw[List.length_map]at hl⊢
     exact hl
    ·rw[List.getElem?_map]at hv
     cases hn:ns[j]? with
     |none=>rw[hn]at hv;cases hv
     |some n=>
      rw[hn]at hv;cases hv;have hy:(ns.map (fun n=>V.lit (.int .u8 n)))[j]? =some (.lit (.int .u8 n)):=by rw[List.getElem?_map,hn];rfl
      have h1:=(hat j _ hy).1;have h2:cc j= .int .u8 n:=(hrel j _ hy).bH
      rw[h1,h2]
  exact .plain inv (v':= .string (strOf ns)) (by simp only[execOp,ho,Sem.run_bind,run,Result.andThen_ok,Sem.run_pure]) hk2 (.lit _ rfl) dL
 ·exact cY0 hT inv s t x ho h
theorem eF4{u:Option TypeDesc}{k:IntKind}(h:kdOf u= .int k):u=some (.int k):=by
 cases u with
 |none=>simp[kdOf]at h
 |some dd=>cases dd<;>simp[kdOf]at h;subst h;rfl
theorem dX0{u:Option TypeDesc}(h:kdOf u= .str):u=some .string:=Ky
theorem dS0{u:Option TypeDesc}(h:kdOf u= .bool):u=some .bool:=Ky
theorem qF{t:TypeId}{dd:TypeDesc}(hu:P.underlying t=some dd)(ha:aggB (some dd)=false)(xs:Array Value)(off:Nat){v:Value}(hv:xs[off]? =some v):(part t xs off).run P w= .ok v w:=by
 have:(isAgg t).run P w= .ok false w:=by cases dd<;>simp_all [isAgg,dI hu,aggB]
 simp[part,this,hv]
theorem aS4{cs:Array Value}{xs:List V}(hl:cs.size=xs.length)(hr:∀(i:Nat) c x,cs[i]? =some c->xs[i]? =some x->Rv w G c x){i:Nat}{u:Value}(h:nth xs i=some (.lit u)):cs[i]? =some u:=by
 rw[uN]at h;have hi:i<cs.size:=by rw[hl];exact(List.getElem?_eq_some_iff.1 h).1
 have:=hr i cs[i] _ G6 h;rw[<-this.bH];simp[hi]
def bY8(dp:Nat)(xs ys:Array Value)(f:Field):Sem (ForInStep (Option Bool×Unit)):=
 if f.name= "_" then pure (ForInStep.yield (none,()))
 else do
  let u<-part f.type xs f.offset
  let v<-part f.type ys f.offset
  let b<-Op.equalIn dp f.type u v
  if b=false then pure (ForInStep.done (some false,()))else pure (ForInStep.yield (none,()))
theorem cN3(hT:bP T P){t:TypeId}(ht:t<T.n t)(ha:(T.row t).agg=true)(cs:Array Value)(off:Nat):(part t cs off).run P w= .ok (.agg (cs.extract off (off+(T.row t).size))) w:=by
 simp[part,yG hT ht,ha,iV hT ht]
theorem dC5{cs:Array Value}{xs:List V}(hl:cs.size=xs.length)(hr:∀(i:Nat) c x,cs[i]? =some c->xs[i]? =some x->Rv w G c x)(off z:Nat):
 (cs.extract off (off+z)).size=(rO (jX xs off) z).length/\∀(i:Nat) c x,(cs.extract off (off+z))[i]? =some c->(rO (jX xs off) z)[i]? =some x->Rv w G c x:=by
 rw[aD3,lQ];refine⟨by simp[hl];omega,fun i c x hc hx=>?_⟩
 rw[Array.getElem?_extract]at hc;rw[List.getElem?_take]at hx;split at hx
 ·rw[List.getElem?_drop]at hx
  split at hc
  ·exact hr (off+i) c x hc hx
  ·cases hc
 ·cases hx
theorem aX8(hT:bP T P){sub:TypeId->List V->List V->Option Bool}{D:Nat}(hsub:∀(t:TypeId) (cs ds:Array Value) (xs ys:List V) (b:Bool),t<T.n t->cs.size=xs.length->(∀(i:Nat) c x,cs[i]? =some c->xs[i]? =some x->Rv w G c x)->ds.size=ys.length->(∀(i:Nat) c x,ds[i]? =some c->ys[i]? =some x->Rv w G c x)->sub t xs ys=some b->(Op.equalIn (D+1) t (.agg cs) (.agg ds)).run P w= .ok b w)
 {cs ds:Array Value}{xs ys:List V}(hl:cs.size=xs.length)(hr:∀(i:Nat) c x,cs[i]? =some c->xs[i]? =some x->Rv w G c x)(hl':ds.size=ys.length)(hr':∀(i:Nat) c x,ds[i]? =some c->ys[i]? =some x->Rv w G c x)
 {off z:Nat}{t:TypeId}(hz:t<T.n t->z=(T.row t).size){r:List (Nat×Nat×Kd×TypeId)}{b:Bool}(h:kX T sub ((off,z,kdOf (P.underlying t),t)::r) xs ys=some b):
 ∃u v b1 b2,(part t cs off).run P w= .ok u w/\(part t ds off).run P w= .ok v w/\(Op.equalIn (D+1) t u v).run P w= .ok b1 w/\kX T sub r xs ys=some b2/\b=(b1&&b2):=by
 have fin:∀(u v:Value) (b1:Bool),(part t cs off).run P w= .ok u w->(part t ds off).run P w= .ok v w->(Op.equalIn (D+1) t u v).run P w= .ok b1 w->(kX T sub r xs ys).map (andB b1)=some b->
  ∃u v b1 b2,(part t cs off).run P w= .ok u w/\(part t ds off).run P w= .ok v w/\(Op.equalIn (D+1) t u v).run P w= .ok b1 w/\kX T sub r xs ys=some b2/\b=(b1&&b2):=by
  intro u v b1 h1 h2 h3 h4
  cases hb2:kX T sub r xs ys with
  |none=>rw[hb2]at h4;cases h4
  |some b2=>
   rw[hb2]at h4;exact⟨u,v,b1,b2,h1,h2,h3,rfl,by simpa [andB]using h4.symm⟩
 have nested:(T.row t).agg=true->(match Nat.blt t (T.n t),sub t (rO (jX xs off) z) (rO (jX ys off) z)with
  |true,some b1=>(kX T sub r xs ys).map (andB b1)
  |_,_=>none)=some b->∃u v b1 b2,(part t cs off).run P w= .ok u w/\(part t ds off).run P w= .ok v w/\(Op.equalIn (D+1) t u v).run P w= .ok b1 w/\kX T sub r xs ys=some b2/\b=(b1&&b2):=by
  intro ha hm;split at hm
  ·rename_i b1 hb hs
   have ht:=blt hb;have hzz:=hz ht
   subst hzz;obtain⟨q1,q2⟩:=dC5 hl hr off (T.row t).size;obtain⟨q3,q4⟩:=dC5 hl' hr' off (T.row t).size;exact fin _ _ b1 (cN3 hT ht ha cs off) (cN3 hT ht ha ds off) (hsub t _ _ _ _ b1 ht q1 q2 q3 q4 hs) hm
  ·cases hm
 have h':(match kdOf (P.underlying t)with
  | .struct=>match Nat.blt t (T.n t),sub t (rO (jX xs off) z) (rO (jX ys off) z)with
    |true,some b1=>(kX T sub r xs ys).map (andB b1)
    |_,_=>none
  | .array=>match Nat.blt t (T.n t),sub t (rO (jX xs off) z) (rO (jX ys off) z)with
    |true,some b1=>(kX T sub r xs ys).map (andB b1)
    |_,_=>none
  |kd=>match nth xs off,nth ys off,kd with
   |some (.lit (.int k a)),some (.lit (.int k' b)), .int _=>cond (decide (k=k')) ((kX T sub r xs ys).map (andB (eqB a b))) none
   |some (.lit (.string a)),some (.lit (.string b)), .str=>(kX T sub r xs ys).map (andB (eqSB a b))
   |some (.lit (.bool a)),some (.lit (.bool b)), .bool=>(kX T sub r xs ys).map (andB (eqBB a b))
   |_,_,_=>none)=some b:=h
 have aggOf:∀dd,P.underlying t=some dd->aggB (some dd)=true->t<T.n t->(T.row t).agg=true:=by
  intro dd hu ha ht;obtain⟨d2,e1,_,e3,_⟩:=(hT t ht).und;rw[hu]at e1;cases e1;rw[e3];exact ha
 split at h'
 ·exact Hz
 ·exact Hz
 ·split at h'
  ·rename_i k m k' n kk e1 e2 e3
   cases hkk:decide (k=k')with
   |false=>rw[hkk]at h';cases h'
   |true=>
    have:k=k':=by simpa using hkk
    subst this;rw[hkk]at h';have hu:=eF4 e3;exact fin _ _ (eqB m n) (qF hu rfl cs _ (aS4 hl hr e1)) (qF hu rfl ds _ (aS4 hl' hr' e2)) (by simp[Op.equalIn,dI hu,eqB];exact Bool.eq_iff_iff.2 (by simp)) h'
  ·rename_i m n e1 e2 e3
   have hu:=dX0 e3;exact fin _ _ (eqSB m n) (qF hu rfl cs _ (aS4 hl hr e1)) (qF hu rfl ds _ (aS4 hl' hr' e2)) (by simp[Op.equalIn,dI hu,eqSB]) h'
  ·rename_i m n e1 e2 e3
   have hu:=dS0 e3;exact fin _ _ (eqBB m n) (qF hu rfl cs _ (aS4 hl hr e1)) (qF hu rfl ds _ (aS4 hl' hr' e2)) (by simp[Op.equalIn,dI hu,eqBB]) h'
  ·cases h'
theorem bN5(hT:bP T P){sub:TypeId->List V->List V->Option Bool}{D:Nat}(hsub:∀(t:TypeId) (cs ds:Array Value) (xs ys:List V) (b:Bool),t<T.n t->cs.size=xs.length->(∀(i:Nat) c x,cs[i]? =some c->xs[i]? =some x->Rv w G c x)->ds.size=ys.length->(∀(i:Nat) c x,ds[i]? =some c->ys[i]? =some x->Rv w G c x)->sub t xs ys=some b->(Op.equalIn (D+1) t (.agg cs) (.agg ds)).run P w= .ok b w)
 {cs ds:Array Value}{xs ys:List V}(hl:cs.size=xs.length)(hr:∀(i:Nat) c x,cs[i]? =some c->xs[i]? =some x->Rv w G c x)(hl':ds.size=ys.length)(hr':∀(i:Nat) c x,ds[i]? =some c->ys[i]? =some x->Rv w G c x):
 ∀(l:List Field) (b:Bool),(∀f∈l,f.name≠ "_")->(∀f∈l,f.type<T.n f.type->vI P f.type=(T.row f.type).size)->kX T sub (l.map (fun f=>(f.offset,vI P f.type,kdOf (P.underlying f.type),f.type))) xs ys=some b->
  (forIn l ((none,()):Option Bool×Unit) fun f _=>bY8 (D+1) cs ds f).run P w= .ok (if b then(none,())else(some false,())) w:=by
 intro l
 induction l with
 |nil=>
  intro b _ _ h;exact NK
 |cons f r ih=>
  intro b hn hz h;have hname:=hn f Ae;obtain⟨u,v,b1,b2,q1,q2,q3,q4,rfl⟩:=aX8 hT hsub hl hr hl' hr' (hz f Ae) h;have ih':=ih b2 (fun f hf=>hn f (by simp[hf])) (fun f hf=>hz f (by simp[hf])) q4
  simp only[List.forIn_cons,bY8,hname,if_false,Sem.run_bind,q1,q2,Result.andThen_ok,q3]
  cases b1 with
  |false=>simp
  |true=>exact JY
def cT9(dp:Nat)(e:TypeId)(n:Nat)(xs ys:Array Value)(i:Nat):Sem (ForInStep (Option Bool×Unit)):=do
 let u<-part e xs (i*n)
 let v<-part e ys (i*n)
 let b<-Op.equalIn dp e u v
 if b=false then pure (ForInStep.done (some false,()))else pure (ForInStep.yield (none,()))
theorem dA7(z:Nat)(kd:Kd)(e:TypeId)(n:Nat):aZ5 z kd e n=(List.range n).map fun i=>(i*z,z,kd,e):=by
 induction n with
 |zero=>rfl
 |succ n ih=>
  show appR (aZ5 z kd e n) [(n*z,z,kd,e)] =_;rw[bT,ih,List.range_succ,List.map_append];rfl
theorem bX8(hT:bP T P){sub:TypeId->List V->List V->Option Bool}{D:Nat}(hsub:∀(t:TypeId) (cs ds:Array Value) (xs ys:List V) (b:Bool),t<T.n t->cs.size=xs.length->(∀(i:Nat) c x,cs[i]? =some c->xs[i]? =some x->Rv w G c x)->ds.size=ys.length->(∀(i:Nat) c x,ds[i]? =some c->ys[i]? =some x->Rv w G c x)->sub t xs ys=some b->(Op.equalIn (D+1) t (.agg cs) (.agg ds)).run P w= .ok b w)
 {cs ds:Array Value}{xs ys:List V}(hl:cs.size=xs.length)(hr:∀(i:Nat) c x,cs[i]? =some c->xs[i]? =some x->Rv w G c x)(hl':ds.size=ys.length)(hr':∀(i:Nat) c x,ds[i]? =some c->ys[i]? =some x->Rv w G c x){e:TypeId}(_:e<T.n e):
 ∀(l:List Nat) (b:Bool),kX T sub (l.map (fun i=>(i*(T.row e).size,(T.row e).size,kdOf (P.underlying e),e))) xs ys=some b->
  (forIn l ((none,()):Option Bool×Unit) fun i _=>cT9 (D+1) e (T.row e).size cs ds i).run P w= .ok (if b then(none,())else(some false,())) w:=by
 intro l
 induction l with
 |nil=>
  intro b h;exact NK
 |cons f r ih=>
  intro b h;obtain⟨u,v,b1,b2,q1,q2,q3,q4,rfl⟩:=aX8 hT hsub hl hr hl' hr' (fun _=>rfl) h;have ih':=ih b2 q4
  simp only[List.forIn_cons,cT9,Sem.run_bind,q1,q2,Result.andThen_ok,q3]
  cases b1 with
  |false=>simp
  |true=>exact JY
theorem eM4(hT:bP T P):∀(n D:Nat) (t:TypeId) (cs ds:Array Value) (xs ys:List V) (b:Bool),t<T.n t->cs.size=xs.length->(∀(i:Nat) c x,cs[i]? =some c->xs[i]? =some x->Rv w G c x)->ds.size=ys.length->(∀(i:Nat) c x,ds[i]? =some c->ys[i]? =some x->Rv w G c x)->
 eqT T n t xs ys=some b->(Op.equalIn (D+1+n) t (.agg cs) (.agg ds)).run P w= .ok b w:=by
 intro n
 induction n with
 |zero=>intro D t cs ds xs ys b _ _ _ _ _ h;cases(h:none=some b)
 |succ n ih=>
  intro D t cs ds xs ys b ht hl hr hl' hr' h
  have h':cond (T.row t).eq (match(T.row t).kd with
   | .struct=>kX T (eqT T n) (T.row t).flds xs ys
   | .array=>cond (Nat.blt (T.row t).elem (T.n (T.row t).elem)) (kX T (eqT T n) (aZ5 (T.row (T.row t).elem).size (T.row (T.row t).elem).kd (T.row t).elem (T.row t).alen) xs ys) none
   |_=>none) none=some b:=h
  cases heq:(T.row t).eq with
  |false=>rw[heq]at h';cases h'
  |true=>
   rw[heq,cond_true]at h';obtain⟨q1,q2,q3⟩:=(hT t ht).eqs heq
   have hsub:∀(t:TypeId) (cs ds:Array Value) (xs ys:List V) (b:Bool),t<T.n t->cs.size=xs.length->(∀(i:Nat) c x,cs[i]? =some c->xs[i]? =some x->Rv w G c x)->ds.size=ys.length->(∀(i:Nat) c x,ds[i]? =some c->ys[i]? =some x->Rv w G c x)->eqT T n t xs ys=some b->(Op.equalIn (D+n+1) t (.agg cs) (.agg ds)).run P w= .ok b w:=fun t cs ds xs ys b h1 h2 h3 h4 h5 h6=>by
    have:=ih D t cs ds xs ys b h1 h2 h3 h4 h5 h6;rw[show D+n+1=D+1+n from Aa];exact this
   rw[show D+1+(n+1)=(D+n+1)+1 from Aa];split at h'
   ·rename_i hkd
    obtain⟨fs,u1,u2,u3⟩:=yJ (hT t ht) hkd;rw[u2]at h'
    have:=bN5 hT hsub hl hr hl' hr' fs.toList b (fun f hf=>q3 fs u1 f F9) (fun f hf hlt=>by
     obtain⟨i,i1,i2⟩:=u3 f F9;obtain⟨j,j1,j2,_⟩:=(hT _ hlt).info;rw[i1]at j1;cases j1;rw[<-i2,j2]) h'
    generalize D+n+1=m at*;simp only[Op.equalIn,Sem.run_bind,dI u1,Result.andThen_ok];simp only[bY8]at this;rw[Array.forIn_toList]at this;simp[q1];rw[this];cases b<;>simp
   ·rename_i hkd
    cases hbe:Nat.blt (T.row t).elem (T.n (T.row t).elem)with
    |false=>rw[hbe]at h';cases h'
    |true=>
     rw[hbe,cond_true,dA7]at h';have he:=blt hbe
     obtain⟨m,u1,u2⟩:∃m,P.underlying t=some (.array m (T.row t).elem)/\(T.row t).alen=m:=by
      obtain⟨dd,e1,e2,f1,f2,e5,f3,f4⟩:=(hT t ht).und;rw[hkd]at e2;cases dd<;>simp[kdOf]at e2;rename_i m e;obtain⟨r1,r2⟩:=e5 m e rfl;exact⟨m,by rw[e1,r1],r2⟩
     have hkde:(T.row (T.row t).elem).kd=kdOf (P.underlying (T.row t).elem):=by
      obtain⟨dd,e1,e2,_⟩:=(hT _ he).und;rw[e1];exact e2
     rw[hkde,u2]at h';have:=bX8 hT hsub hl hr hl' hr' he (List.range m) b h';generalize D+n+1=dd at*;simp only[Op.equalIn,Sem.run_bind,dI u1,Result.andThen_ok,iV hT he];simp only[cT9]at this;rw[Std.Legacy.Range.forIn_eq_forIn_range'];simp[List.range_eq_range']at this⊢;rw[this];cases b<;>simp
   ·cases h'
theorem dN7(hT:bP T P)(inv:Inv T Φ σ a w G)(x y:Operand)(op:BinOp)(t t':TypeId)(ho:o.op= .binOp op t x y t')(ht:t<T.n t)(xs ys:List V)(hx:σ.ev x= .agg xs)(hy:σ.ev y= .agg ys)(h:aL1 T op t xs ys K):Out T Φ σ a K ((execOp a.eval o).run P w):=by
 have x1:=(inv.ev x).1;have y1:=(inv.ev y).1
 rw[hx]at x1;rw[hy]at y1;obtain⟨cs,e1,e2,e3,e4⟩:=x1.zV;obtain⟨ds,f1,f2,f3,f4⟩:=y1.zV
 have hg:(T.row t).eq=true->(eqGuard op t x y (.agg cs) (.agg ds)).run P w= .ok () w:=by
  intro heq;obtain⟨_,q2,_⟩:=(hT t ht).eqs heq;cases op<;>simp[eqGuard,q2]
 have run:∀b,eqT T 4 t xs ys=some b->(Op.equal t (.agg cs) (.agg ds)).run P w= .ok b w:=fun b hb=>eM4 hT 4 9995 t cs ds xs ys b ht e2 e4 f2 f4 hb;unfold aL1 at h;split at h
 ·obtain⟨heq,h⟩:=dX h
  split at h
  ·rename_i b hb
   exact .plain inv (yY x y _ t t' ho _ _ (.bool b) e1 f1 (hg heq) (by simp[binOp,run b hb])) h (B_ok _ _ _) dL
  ·exact h.elim
 ·obtain⟨heq,h⟩:=dX h
  split at h
  ·rename_i b hb
   exact .plain inv (yY x y _ t t' ho _ _ (.bool !b) e1 f1 (hg heq) (by simp[binOp,run b hb])) h (B_ok _ _ _) dL
  ·exact h.elim
 ·exact h.elim
theorem kd_ptr{t:TypeId}{r:Row}(h:aH9 P t r)(hk:r.kd= .ptr):∃e,P.underlying t=some (.pointer e):=by
 obtain⟨d,h1,h2,_⟩:=h.und;rw[hk]at h2;cases d<;>first|exact⟨_,h1⟩|(simp[kdOf]at h2)
theorem equal_ptr{t e:TypeId}(hu:P.underlying t=some (.pointer e))(ad:Addr):(Op.equal t (.pointer (some ad)) (.pointer none)).run P w= .ok false w:=by
 have h:∀dp,(Op.equalIn (dp+1) t (.pointer (some ad)) (.pointer none)).run P w= .ok false w:=fun dp=>by simp[Op.equalIn,dI hu]
 exact h 9999
theorem dQ5(hT:bP T P)(inv:Inv T Φ σ a w G)(x y:Operand)(op:BinOp)(t t':TypeId)(ho:o.op= .binOp op t x y t')(h:bD7 T op t (σ.ev x) (σ.ev y) K):Out T Φ σ a K ((execOp a.eval o).run P w):=by
 have x1:=(inv.ev x).1;have y1:=(inv.ev y).1
 unfold bD7 at h;split at h
 ·rename_i k m k' n hx hy
  rw[hx]at x1;rw[hy]at y1;by_cases hk:k=k'
  ·subst hk
   simp only[decide_true,cond_true]at h;exact dM7 inv x y op t t' ho k m n x1.bH y1.bH h
  ·simp only[hk,decide_false,cond_false]at h
   exact sh_sound inv x y op t t' ho k k' m n x1.bH y1.bH h
 ·rename_i m n hx hy
  rw[hx]at x1;rw[hy]at y1;exact dM9 inv x y op t t' ho m n x1.bH y1.bH h
 ·rename_i m n hx hy
  rw[hx]at x1;rw[hy]at y1;obtain⟨ht,h⟩:=aT h;exact cV0 hT inv x y op t t' ho m n x1.bH y1.bH (blt ht) h
 ·rename_i xs ys hx hy
  obtain⟨ht,h⟩:=aT h;exact dN7 hT inv x y op t t' ho (blt ht) xs ys hx hy h
 ·rename_i i off hx hy
  rw[hx]at x1;rw[hy]at y1;obtain⟨ht,h3⟩:=aT h;clear h;have e1:a.eval x= .pointer (some ⟨G.β i,off,none⟩):=by generalize a.eval x=u at x1;cases x1;rfl
  have e2:=y1.bH;have hg:(eqGuard op t x y (a.eval x) (a.eval y)).run P w= .ok () w:=by rw[e1];exact qZ _ _ _ _ _ _ (by simp) (by simp)
  have fin:∀r:Value,r.oneCell'=true->(binOp op t (a.eval x) (a.eval y)).run P w= .ok r w->K (.lit r) []->Out T Φ σ a K ((execOp a.eval o).run P w):=fun r h1 hr hk=>
   .plain inv (yY x y op t t' ho _ _ r rfl rfl hg hr) hk (.lit r h1) dL
  rw[e1,e2]at fin;unfold ptrVC at h3;split at h3
  ·rename_i hk
   obtain⟨e,hu⟩:=kd_ptr (hT t (blt ht)) hk;exact fin (.bool false) rfl (by simp[binOp,equal_ptr hu]) h3
  ·rename_i hk
   obtain⟨e,hu⟩:=kd_ptr (hT t (blt ht)) hk;exact fin (.bool true) rfl (by simp[binOp,equal_ptr hu]) h3
  ·exact h3.elim
 ·exact h.elim
theorem xQ(hT:bP T P)(inv:Inv T Φ σ a w G)(o:Oper)(h:opVC T σ d o.op K):Out T Φ σ a K ((execOp a.eval o).run P w):=by
 generalize ho:o.op=op at h;unfold opVC at h;split at h
 ·exact cZ8 inv _ ho h
 ·exact cB9 inv _ ho h
 ·exact dA3 inv _ _ _ ho h
 ·exact dZ4 inv _ _ _ ho h
 ·exact dQ5 hT inv _ _ _ _ _ ho h
 ·exact dM8 inv _ _ ho h
 ·obtain⟨ht,h⟩:=aT h;exact cJ8 hT inv _ ho (blt ht) h
 ·obtain⟨ht,h⟩:=aT h;exact aY3 hT inv _ _ _ ho (blt ht) h
 ·obtain⟨ht,h⟩:=aT h;exact cL3 hT inv _ _ _ ho (blt ht) h
 ·obtain⟨ht,h⟩:=aT h;exact cZ0 hT inv _ _ ho (blt ht) h
 ·obtain⟨ht,h⟩:=aT h;exact cJ7 hT inv _ _ _ ho (blt ht) h
 ·obtain⟨ht,h⟩:=aT h;exact aY7 hT inv _ _ _ ho (blt ht) h
 ·obtain⟨ht,h⟩:=aT h;exact cK7 hT inv _ _ _ ho (blt ht) h
 ·exact bN4 inv _ _ ho h
 ·exact .plain inv (by simp[execOp,ho,Instr.makeFunc]) h (.fn _ #[] [] rfl (fun i c x hc=>Gs)) Dz
 ·rename_i g x xs
  rw[bC,dU]at h;refine .plain inv (v':= .func (.func g) ((x::xs).map a.eval).toArray #[]) (by simp[execOp,ho,Instr.makeFunc]) h (.fb _ _ _ Ae fun i c y hc hy=>?_) ?_
  ·have hi:i< (x::xs).length:=by have:=(List.getElem?_eq_some_iff.1 hy).1;simpa using this
   rw[List.getElem?_map,List.getElem?_eq_getElem hi]at hy;simp only[Option.map_some,Option.some.injEq]at hy;have hc':((x::xs).map a.eval)[i]? =some c:=BZ;rw[List.getElem?_map,List.getElem?_eq_getElem hi]at hc';simp only[Option.map_some,Option.some.injEq]at hc';subst hy;subst hc';exact(inv.ev _).1
  ·simp only[V.ok]
   show V.okL _ _ (.own 0 [] ::(x::xs).map σ.ev);simp only[V.okL,V.ok];refine⟨trivial,aH.2 fun y hy=>?_⟩;obtain⟨z,_,rfl⟩:=List.mem_map.1 hy;exact(inv.ev z).2
 ·obtain⟨ht,h⟩:=aT h;exact cM3 hT inv _ _ ho (blt ht) h
 ·obtain⟨ht,h⟩:=aT h;exact aQ7 hT inv _ _ _ ho (blt ht) h
 ·obtain⟨ht,h⟩:=aT h;exact aY6 hT inv _ _ _ ho (blt ht) h
 ·obtain⟨ht,h⟩:=aT h;exact cH8 hT inv _ _ _ _ _ ho (blt ht) h
 ·exact cD9 hT inv _ _ _ ho h
 ·obtain⟨ht,h⟩:=aT h
  split at h
  ·rename_i hkd;exact dM3 hT inv _ _ ho (blt ht) hkd h
  ·rename_i hkd;exact cR9 hT inv _ _ ho (blt ht) hkd h
  ·exact h.elim
 ·obtain⟨ht,h2⟩:=aT h
  simp only[Bool.and_eq_true]at ht;obtain⟨ht,ht'⟩:=ht;exact cB7 hT inv _ _ _ _ ho (blt ht) (blt ht') h2
 ·exact aK6 inv .max maxI (.inl ⟨rfl,rfl⟩) _ _ ho h
 ·exact aK6 inv .min minI (.inr ⟨rfl,rfl⟩) _ _ ho h
 ·obtain⟨ht,h⟩:=aT h;exact bM3 hT inv _ ho (blt ht) h
 ·obtain⟨ht,h⟩:=aT h;exact bZ4 hT inv _ _ _ ho (blt ht) h
 ·obtain⟨ht,h⟩:=aT h;exact aA0 hT inv _ _ _ _ (.inl ho) (blt ht) h
 ·obtain⟨ht,h⟩:=aT h;exact aA0 hT inv _ _ _ _ (.inr ho) (blt ht) h
 ·exact bL7 inv _ ho h
 ·exact h.elim
end
section
variable{T:Tab}{P:Program}{Φ:Fr}{σ:St}{a:Act}{w w':World}{G G':Gh}{K:VK}{o:Oper}{d:Nat}
theorem pM{k:Nat}{l:List Nat}:memR k l=true↔k∈l:=by
 induction l with
 |nil=>simp[memR]
 |cons x r ih=>
  have:memR k (x::r)=cond (Nat.beq k x) true (memR k r):=rfl;rw[this]
  cases h:Nat.beq k x with
  |true=>simp[Nat.beq_eq]at h;simp[h]
  |false=>
   have hne:k≠x:=by rintro rfl;simp at h
   simp[ih,hne]
theorem Inv.freeze(inv:Inv T Φ σ a w G){k:Nat}{en:AE}(hen:σ.ar k=some en)(hk:en.kind= .own\/en.kind= .ap):
 ∃O',Inv T Φ (σ.apps [.a k ⟨en.gen, .frz,en.ty,en.l⟩]) a w {G with O:=O'}/\(∀b,O' b= .fz↔(G.O b= .fz\/G.O b= .ar k))/\(∀b,G.O b≠ .ar k->O' b=G.O b):=by
 let O':Nat->Tag:=fun b=>match G.O b with| .ar j=>if j=k then .fz else .ar j|t=>t
 have hO1:∀b,G.O b≠ .ar k->O' b=G.O b:=by
  intro b hb;show(match G.O b with| .ar j=>if j=k then Tag.fz else .ar j|t=>t)=_
  cases h:G.O b with
  |ar j=>have:j≠k:=by rintro rfl;exact hb h
         simp[this]
  |_=>rfl
 have hO2:∀b,G.O b= .ar k->O' b= .fz:=by
  intro b hb;exact NM
 have hkp:Keep w w G {G with O:=O'}:=⟨fun b hb=>(hO1 b Au).trans hb,fun _ _=>rfl⟩
 have hp:=inv.wfA k en hen;refine⟨O',?_,?_,hO1⟩
 ·refine inv.zU (w':=w) (k:=k) (en:=⟨en.gen, .frz,en.ty,en.l⟩) (av':=G.av) (O':=O') (fun g ⟨en',q1,q2⟩=>by rw[hen]at q1;cases q1;exact q2) (fun _ _ _=>rfl) hp ?_ (fun b _ hb=>hO1 b hb) ?_ (fun _ _ _=>rfl) (Nat.le_refl _) rfl rfl rfl
  ·have hok:=inv.arr k en hen
   show Rv w {G with O:=O'} (G.av k en.gen) (.sl en.l)
   have own:∀ {ty},gJ T w G k (G.av k en.gen) ty en.l->Rv w {G with O:=O'} (G.av k en.gen) (.sl en.l):=by
    intro ty hown;rcases hown with⟨e1,e2⟩|⟨b,cap,cur,e1,e2,e3,e4,e5,e6,e7,e8⟩
    ·rw[e2];exact bA2 e1
    ·obtain⟨cc,q1,q2⟩:=(e8.here e3).out
     rw[e1];refine .slS _ cap en.l _ cc e4 e5 (fun _=>hO2 b e2) e7 q1 (fun j y hy=>(q2 j y hy).aW hkp (dF hp hy))
   unfold gW at hok;rcases hk with hk|hk
   ·rw[hk]at hok;exact own hok.2
   ·rw[hk]at hok
    rcases hok.2 with hok|hok
    ·exact own hok
    ·exact hok.1.wK.aW hkp Ar
  ·intro b
   exact ND
 ·intro b
  by_cases hb:G.O b= .ar k
  ·simp[hO2 b hb,hb]
  ·simp[hO1 b hb,hb]
theorem bA7(inv:Inv T Φ σ a w G)(hkp:Keep w w G G'){v:Value}{x y:V}(h:yH σ.ar x y)(hv:Rv w G v x)(hok:x.ok σ.hasB σ.hasA)(hlent:∀k∈akey x,∀b,G.O b= .ar k->G'.O b= .fz):Rv w G' v y/\y.pure:=by
 have sl:∀ {u:Value} {l:List V},bM l->Rv w G u (.sl l)->Rv w G' u (.sl l)/\(V.sl l).pure:=fun hp h=>⟨h.aW hkp Ar,Ar⟩;unfold yH at h;split at h
 ·rename_i l
  split at h
  ·subst h;simp only[V.ok]at hok;exact sl hok hv
  ·subst h;simp only[V.ok]at hok;exact sl hok hv.wK
  ·subst h;rw[hv.bH];exact⟨.slN,by simp only[V.pure,V.ok,V.okL]⟩
  ·rename_i k g
   split at h
   ·rename_i en hen
    obtain⟨hg,hd,rfl⟩:=h;subst hg;have hp:=inv.wfA k en hen;have hok':=inv.arr k en hen
    rw[hv.oQ];have hl:=hlent k (by simp[akey])
    have own:∀ {ty},gJ T w G k (G.av k en.gen) ty en.l->Rv w G' (G.av k en.gen) (.sl en.l):=by
     intro ty hown;rcases hown with⟨e1,e2⟩|⟨b,cap,cur,e1,e2,e3,e4,e5,e6,e7,e8⟩
     ·rw[e2];exact bA2 e1
     ·obtain⟨cc,q1,q2⟩:=(e8.here e3).out
      rw[e1];exact .slS _ cap en.l _ cc e4 e5 (fun _=>hl b e2) e7 q1 (fun j y hy=>(q2 j y hy).aW hkp (dF hp hy))
    refine⟨?_,Ar⟩;unfold gW at hok';split at hok'
    ·rename_i hk;exact absurd hk hd
    ·exact(sl hp hok').1
    ·exact own hok'.2
    ·rcases hok'.2 with q|q
     ·exact own q
     ·exact(sl hp q.1.wK).1
   ·exact h.elim
  ·exact h.elim
 ·rename_i l
  split at h
  ·subst h
   simp only[V.ok]at hok;exact⟨hv.aW hkp Bq,Bq⟩
  ·subst h;rw[hv.bH];exact⟨.capN,by simp only[V.pure,V.ok,V.okL]⟩
  ·exact h.elim
 ·split at h
  ·subst h
   rw[hv.bH];exact⟨.lit _ hv.aZ3,by simp only[V.pure,V.ok]⟩
  ·exact h.elim
 ·split at h
  ·subst h
   simp only[V.ok]at hok;exact⟨hv.aW hkp Bq,Bq⟩
  ·exact h.elim
 ·split at h
  ·obtain⟨rfl,rfl,hs⟩:=h
   have hp:=fn_atom_pure hs hok;simp only[V.pure,V.ok]at hp;exact⟨hv.aW hkp Ar,Ar⟩
  ·exact h.elim
 ·exact h.elim
theorem cW4{ar:Nat->Option AE}:∀ {ys xs:List V},cN9 ar ys xs->xs.length=ys.length/\∀(i:Nat) x y,xs[i]? =some x->ys[i]? =some y->yH ar x y:=by
 intro ys
 induction ys with
 |nil=>
  intro xs h;exact LU
 |cons y r ih=>
  intro xs h
  cases xs with
  |nil=>exact(h:False).elim
  |cons x xr=>
   obtain⟨h1,h2⟩:yH ar x y/\cN9 ar r xr:=h;exact Lm
theorem qM{ar:Nat->Option AE}:∀ {ys xs:List V},iQ T ar ys xs->xs.length=ys.length/\∀(i:Nat) x y,xs[i]? =some x->ys[i]? =some y->wU T ar x y:=by
 intro ys
 induction ys with
 |nil=>
  intro xs h;exact LU
 |cons y r ih=>
  intro xs h
  cases xs with
  |nil=>exact(h:False).elim
  |cons x xr=>
   obtain⟨h1,h2⟩:wU T ar x y/\iQ T ar r xr:=h;exact Lm
theorem dK9(cs:List V):jQ (.agg cs)=cs.flatMap akey:=by
 induction cs with
 |nil=>rfl
 |cons x r ih=>
  have:jQ (.agg (x::r))=appR (akey x) (jQ (.agg r)):=rfl;rw[this,bT,ih,List.flatMap_cons]
theorem oZ:∀ {ys xs:List V} {k:Nat},k∈bD ys xs↔∃(i:Nat) (x y:V),xs[i]? =some x/\ys[i]? =some y/\linear y=true/\k∈jQ x:=by
 intro ys
 induction ys with
 |nil=>
  intro xs k;have:bD [] xs=[] :=rfl;rw[this];simp
 |cons y r ih=>
  intro xs k
  cases xs with
  |nil=>
   have:bD (y::r) [] =[] :=rfl;rw[this];simp
  |cons x xr=>
   have:bD (y::r) (x::xr)=appR (cond (linear y) (jQ x) []) (bD r xr):=rfl;rw[this,bT,List.mem_append,ih];constructor
   ·rintro(h|⟨i,x',y',h1,h2,h3,h4⟩)
    ·cases hl:linear y with
     |true=>rw[hl]at h;exact⟨0,x,y,rfl,rfl,hl,h⟩
     |false=>rw[hl]at h;cases h
    ·exact⟨i+1,x',y',h1,h2,h3,h4⟩
   ·rintro⟨i,x',y',h1,h2,h3,h4⟩
    exact Nk
theorem nP:∀ {ys xs:List V} {k:Nat},k∈bK ys xs↔∃(i:Nat) (x y:V),xs[i]? =some x/\ys[i]? =some y/\linear y=false/\k∈jQ x:=by
 intro ys
 induction ys with
 |nil=>
  intro xs k;have:bK [] xs=[] :=rfl;rw[this];simp
 |cons y r ih=>
  intro xs k
  cases xs with
  |nil=>
   have:bK (y::r) [] =[] :=rfl;rw[this];simp
  |cons x xr=>
   have:bK (y::r) (x::xr)=appR (cond (linear y) [] (jQ x)) (bK r xr):=rfl;rw[this,bT,List.mem_append,ih];constructor
   ·rintro(h|⟨i,x',y',h1,h2,h3,h4⟩)
    ·cases hl:linear y with
     |true=>rw[hl]at h;cases h
     |false=>rw[hl]at h;exact⟨0,x,y,rfl,rfl,hl,h⟩
    ·exact⟨i+1,x',y',h1,h2,h3,h4⟩
   ·rintro⟨i,x',y',h1,h2,h3,h4⟩
    exact Nk
theorem aJ2(inv:Inv T Φ σ a w G)(hkp:Keep w w G G'){v:Value}{x y:V}{j:Nat}(h:wU T σ.ar x y)(hv:Rv w G v x)(hok:x.ok σ.hasB σ.hasA)
 (hlent:linear y=false->∀k∈jQ x,∀b,G.O b= .ar k->G'.O b= .fz)(hgiven:linear y=true->∀k∈jQ x,∀b,G.O b= .ar k->G'.O b= .ar j):Rb T w G' j v y:=by
 have own:∀ {k ty l},bM l->gJ T w G k v ty l->(∀b,G.O b= .ar k->G'.O b= .ar j)->gJ T w G' j v ty l:=by
  intro k ty l hp hown hg;rcases hown with h|⟨b,cap,cur,e1,e2,e3,e4,e5,e6,e7,e8⟩
  ·exact .inl h
  ·refine .inr ⟨b,cap,cur,e1,hg b e2,e3,e4,e5,e6,e7,e8.keep hkp (p:=fun _=>False) (q:=fun _ _=>False) ?_ (fun _ h=>h.elim) (fun _ _ h=>h.elim)⟩
   refine aH.2 fun u hu=>?_;obtain⟨i,hi⟩:=List.getElem?_of_mem hu;exact dF hp hi
 unfold wU at h;split at h
 ·rename_i e l
  split at h
  ·obtain⟨he,rfl⟩:=h
   exact⟨he,BD, .inl ⟨.inl hv.bH,rfl⟩⟩
  ·rename_i k g
   split at h
   ·rename_i en hen
    obtain⟨hg,hk,rfl,rfl⟩:=h;subst hg;have hok':=inv.arr k en hen;unfold gW at hok';rw[hk]at hok';have hp:=inv.wfA k en hen
    rw[<-hv.oQ]at hok';exact⟨hok'.1,hp,own hp hok'.2 (hgiven rfl k (by simp[jQ]))⟩
   ·exact h.elim
  ·exact h.elim
 ·rename_i e l
  split at h
  ·obtain⟨he,rfl⟩:=h
   exact⟨he,BD, .inl (.inl ⟨.inl hv.bH,rfl⟩)⟩
  ·obtain⟨he,hz,rfl⟩:=h
   simp only[V.ok]at hok;exact⟨he,hok, .inr ⟨hv.aW hkp Bq,hz⟩⟩
  ·rename_i k g
   split at h
   ·rename_i en hen
    obtain⟨hg,hk,rfl,rfl⟩:=h;subst hg;have hok':=inv.arr k en hen;have hp:=inv.wfA k en hen
    have hgv:=hgiven rfl k (by simp[jQ])
    unfold gW at hok';rw[<-hv.oQ]at hok';rcases hk with hk|hk
    ·rw[hk]at hok'
     exact⟨hok'.1,hp, .inl (own hp hok'.2 hgv)⟩
    ·rw[hk]at hok'
     refine⟨hok'.1,hp,?_⟩;rcases hok'.2 with q|q
     ·exact .inl (own hp q hgv)
     ·exact .inr ⟨q.1.aW hkp Ar,q.2⟩
   ·exact h.elim
  ·exact h.elim
 ·rename_i ys
  split at h
  ·rename_i xs
   obtain⟨hl,hh⟩:=cW4 h;obtain⟨cs,e1,e2,e3,e4⟩:=hv.zV;simp only[V.ok]at hok
   have each:∀(i:Nat) c y,cs[i]? =some c->ys[i]? =some y->Rv w G' c y/\y.pure:=by
    intro i c y hc hy;have hi:i<xs.length:=Em;have hx:=List.getElem?_eq_getElem hi
    exact bA7 inv hkp (hh i _ y hx hy) (e4 i c _ hc hx) (aH.1 hok _ (List.mem_of_getElem? hx)) (fun k hk=>hlent rfl k (by rw[dK9];exact List.mem_flatMap.2 ⟨_,List.mem_of_getElem? hx,hk⟩))
   refine⟨?_,?_⟩
   ·simp only[V.pure,V.ok]
    refine aH.2 fun y hy=>?_;obtain⟨i,hi⟩:=List.getElem?_of_mem hy;have hic:i<cs.size:=DV
    exact(each i cs[i] y (by simp[hic]) hi).2
   ·rw[e1]
    exact .agg cs ys (by rw[e2,hl]) e3 (fun i c y hc hy=>(each i c y hc hy).1)
  ·exact h.elim
 ·rename_i h1 h2 h3
  have hlin:linear y=false:=by
   cases y<;>simp_all [linear]
  have hkk:∀k∈akey x,k∈jQ x:=by
   intro k hk;cases x<;>simp_all [akey,jQ]
  obtain⟨q1,q2⟩:=bA7 inv hkp h hv hok (fun k hk=>hlent hlin k (hkk k hk));unfold Rb;split
  ·exact(h1 _ _ rfl).elim
  ·exact(h2 _ _ rfl).elim
  ·exact⟨q2,q1⟩
end
section
variable{T:Tab}{P:Program}{Φ:Fr}{σ:St}{a:Act}{w w':World}{G G':Gh}{K:VK}{o:Oper}{d:Nat}
theorem dO(σ:St)(ms ns:List Mod):σ.apps (ms++ns)=(σ.apps ms).apps ns:=by simp[St.apps,List.foldl_append]
theorem vM(σ:St)(ms:List Mod):(σ.apps ms).env=σ.env:=by
 induction ms generalizing σ with
 |nil=>rfl
 |cons m r ih=>
  have:σ.apps (m::r)=(m.app σ).apps r:=rfl;rw[this,ih];cases m<;>rfl
theorem Inv.eV5(inv:Inv T Φ σ a w G){k gen:Nat}(hno:∀g,σ.hasA k g->g<gen){kd:AK}(hkd:kd= .own\/kd= .ap){u:Value}{e:TypeId}{l:List V}(he:e<T.n e)(hp:bM l){Gx:Gh}{j:Nat}
 (hown:gJ T w Gx j u e l\/(kd= .ap/\Rv w Gx u (.cap l)/\∀x∈l,x.cells.length=(T.row e).size))(hx:Keep w w Gx G)(hpend:∀b,Gx.O b= .ar j->G.O b= .ext/\Φ.mine b/\b<w.heap.size):
 ∃G',Inv T Φ (σ.apps [.a k ⟨gen,kd,e,l⟩]) a w G'/\G'.av k gen=u/\u.oneCell'=true/\(∀b,Gx.O b≠ .ar j->G'.O b=G.O b)/\G'.β=G.β/\(∀k' g,σ.hasA k' g->G'.av k' g=G.av k' g):=by
 let av':Nat->Nat->Value:=fun k' g=>if k'=k/\g=gen then u else G.av k' g
 have hav:av' k gen=u:=GH;have hav2:∀k' g,σ.hasA k' g->av' k' g=G.av k' g:=fun k' g hg=>IW
 let O':Nat->Tag:=fun b=>match Gx.O b with| .ar i=>if i=j then .ar k else G.O b|_=>G.O b
 have hO1:∀b,Gx.O b≠ .ar j->O' b=G.O b:=by
  intro b hb;show(match Gx.O b with| .ar i=>if i=j then Tag.ar k else G.O b|_=>G.O b)=_
  cases h:Gx.O b with
  |ar i=>have:i≠j:=by rintro rfl;exact hb h
         simp[this]
  |_=>rfl
 have hO2:∀b,Gx.O b= .ar j->O' b= .ar k:=by
  intro b hb;show(match Gx.O b with| .ar i=>if i=j then Tag.ar k else G.O b|_=>G.O b)=_
  rw[hb];simp
 let G1:Gh:={G with av:=av',O:=O'}
 have hkx:Keep w w Gx G1:=⟨fun b hb=>(hO1 b Au).trans (hx.fz b hb),fun _ _=>rfl⟩;refine⟨G1,?_,hav,?_,hO1,rfl,hav2⟩
 ·refine inv.zU (w':=w) (k:=k) (en:=⟨gen,kd,e,l⟩) (av':=av') (O':=O') (fun g hg=>Nat.le_of_lt (hno g hg)) hav2 hp ?_ ?_ ?_ (fun _ _ _=>rfl) (Nat.le_refl _) rfl rfl rfl
  ·have hown1:gJ T w Gx j u e l->gJ T w G1 k (G1.av k gen) e l:=by
    intro h;have e1:G1.av k gen=u:=hav;rw[e1];rcases h with h|⟨b,cap,cur,h1,h2,h3,h4,h5,h6,h7,h8⟩
    ·exact .inl h
    ·refine .inr ⟨b,cap,cur,h1,hO2 b h2,h3,h4,h5,h6,h7,h8.keep hkx (p:=fun _=>False) (q:=fun _ _=>False) ?_ (fun _ h=>h.elim) (fun _ _ h=>h.elim)⟩
     refine aH.2 fun y hy=>?_;obtain⟨i,hi⟩:=List.getElem?_of_mem hy;exact dF hp hi
   unfold gW;rcases hown with h|⟨rfl,h,hz⟩
   ·rcases hkd with rfl|rfl
    ·exact⟨he,hown1 h⟩
    ·exact⟨he, .inl (hown1 h)⟩
   ·refine⟨he, .inr ⟨?_,hz⟩⟩
    have e1:G1.av k gen=u:=hav;show Rv w G1 (G1.av k gen) _;rw[e1];exact h.aW hkx Ar
  ·intro b hb hb2
   by_cases h:Gx.O b= .ar j
   ·exact absurd (hpend b h).1 hb
   ·exact hO1 b h
  ·intro b
   by_cases h:Gx.O b= .ar j
   ·exact .inr (.inr (.inl ⟨hO2 b h,(hpend b h).2.1,(hpend b h).2.2⟩))
   ·exact .inl (hO1 b h)
 ·rcases hown with h|⟨_,h,_⟩
  ·rcases h with⟨h,_⟩|⟨b,cap,cur,h,_⟩
   ·exact aP2 h
   ·rw[h];rfl
  ·rcases h.vP with⟨h,_⟩|⟨ad,sz,cc,h,_⟩<;>(rw[h];rfl)
theorem aR5(σ:St)(ms:List Mod)(h:∀m∈ms,∃k en,m= .a k en):(σ.apps ms).bx=σ.bx:=by
 induction ms generalizing σ with
 |nil=>rfl
 |cons m r ih=>
  have:σ.apps (m::r)=(m.app σ).apps r:=rfl;rw[this,ih _ (fun m hm=>h m (by simp[hm]))]
  obtain⟨k,en,rfl⟩:=h m Ae;rfl
def frzE(en:AE):AE:=match en.kind with| .own=>⟨en.gen, .frz,en.ty,en.l⟩| .ap=>⟨en.gen, .frz,en.ty,en.l⟩| .frz=>en| .dead=>⟨en.gen, .dead,en.ty,[]⟩
theorem cH2(σ σ':St)(ks:List Nat):(∀k,σ'.ar k=σ.ar k\/σ'.ar k=(σ.ar k).map frzE)->∀k,(σ'.apps (aV σ ks)).ar k=if k∈ks then(σ.ar k).map frzE else σ'.ar k:=by
 induction ks generalizing σ' with
 |nil=>intro _ k;simp[aV,St.apps]
 |cons x r ih=>
  intro hrel k
  have hdef:aV σ (x::r)=(match σ.ar x with
   |some en=>match en.kind with
    | .own=>Mod.a x ⟨en.gen, .frz,en.ty,en.l⟩::aV σ r
    | .ap=>Mod.a x ⟨en.gen, .frz,en.ty,en.l⟩::aV σ r
    | .frz=>aV σ r
    | .dead=>match en.l with| [] =>aV σ r|_::_=>Mod.a x ⟨en.gen, .dead,en.ty,[]⟩::aV σ r
   |none=>aV σ r):=rfl
  have skip:(σ.ar x).map frzE=σ.ar x->(σ'.apps (aV σ r)).ar k=if k∈x::r then(σ.ar k).map frzE else σ'.ar k:=by
   intro hx;rw[ih σ' hrel k];by_cases h1:k∈r
   ·simp[h1]
   ·by_cases h2:k=x
    ·subst h2
     have:σ'.ar k=(σ.ar k).map frzE:=by
      rcases hrel k with h|h
      ·rw[h,hx]
      ·exact h
     simp[h1,this]
    ·simp[h1,h2]
  have take:∀en',(σ.ar x).map frzE=some en'->(σ'.apps (Mod.a x en'::aV σ r)).ar k=if k∈x::r then(σ.ar k).map frzE else σ'.ar k:=by
   intro en' hx;have h0:σ'.apps (Mod.a x en'::aV σ r)=((Mod.a x en').app σ').apps (aV σ r):=rfl;rw[h0,ih _ (fun k'=>?_) k]
   ·by_cases h1:k∈r
    ·simp[h1]
    ·by_cases h2:k=x
     ·subst h2
      simp only[h1,if_false,List.mem_cons,true_or,if_true];show upd σ'.ar k _ k=_;rw[upd_same,hx]
     ·exact JL
   ·show upd σ'.ar x _ k'=_\/upd σ'.ar x _ k'=_
    by_cases h2:k'=x
    ·subst h2;right;rw[upd_same,hx]
    ·rw[upd_ne _ _ h2];exact hrel k'
  rw[hdef]
  cases hx:σ.ar x with
  |none=>simp only;exact skip (by rw[hx];rfl)
  |some en=>
   simp only
   cases hk:en.kind with
   |own=>simp only;exact take _ EU
   |ap=>simp only;exact take _ EU
   |frz=>simp only;exact skip EU
   |dead=>
    simp only
    cases hl:en.l with
    |nil=>exact skip (by rw[hx];obtain⟨g0,k0,t0,l0⟩:=en;simp only at hk hl;subst hk hl;rfl)
    |cons y ys=>exact take _ EU
theorem bF7(σ:St)(ks:List Nat):∀m∈aV σ ks,∃k en,m= .a k en:=by
 induction ks with
 |nil=>intro m hm;cases hm
 |cons x r ih=>
  intro m hm
  have hdef:aV σ (x::r)=(match σ.ar x with
   |some en=>match en.kind with
    | .own=>Mod.a x ⟨en.gen, .frz,en.ty,en.l⟩::aV σ r
    | .ap=>Mod.a x ⟨en.gen, .frz,en.ty,en.l⟩::aV σ r
    | .frz=>aV σ r
    | .dead=>match en.l with| [] =>aV σ r|_::_=>Mod.a x ⟨en.gen, .dead,en.ty,[]⟩::aV σ r
   |none=>aV σ r):=rfl
  rw[hdef]at hm;split at hm
  ·split at hm
   ·exact II
   ·exact II
   ·exact ih m hm
   ·split at hm
    ·exact ih m hm
    ·exact II
  ·exact ih m hm
theorem qL(σ0:St)(d:Nat)(y:V)(r:List V)(j:Nat)(ro:Option (Nat×Nat))(K:List V->List Mod->Prop):uF σ0 d (y::r) j ro K=(match y with
        | .own e l=>match ro with
          |some (k,g)=>uF σ0 d r (j+1) none fun vs ms=>K (.arr k g::vs) (.a k ⟨g, .own,e,l⟩::ms)
          |none=>match σ0.ar (d+1000*j)with
           |none=>uF σ0 d r (j+1) none fun vs ms=>K (.arr (d+1000*j) 0::vs) (.a (d+1000*j) ⟨0, .own,e,l⟩::ms)
           |some _=>False
        | .ap e l=>match ro with
          |some (k,g)=>uF σ0 d r (j+1) none fun vs ms=>K (.arr k g::vs) (.a k ⟨g, .ap,e,l⟩::ms)
          |none=>match σ0.ar (d+1000*j)with
           |none=>uF σ0 d r (j+1) none fun vs ms=>K (.arr (d+1000*j) 0::vs) (.a (d+1000*j) ⟨0, .ap,e,l⟩::ms)
           |some _=>False
        |y=>force y fun y=>uF σ0 d r (j+1) ro fun vs ms=>K (y::vs) ms):=rfl
theorem oW{y:V}(h1:∀e l,y= .own e l->False)(h2:∀e l,y= .ap e l->False):linear y=false:=by
 cases y with
 |own e l=>exact(h1 e l rfl).elim
 |ap e l=>exact(h2 e l rfl).elim
 |_=>rfl
theorem cO6{Gx:Gh}{σ0:St}:∀(rs:List V) (j:Nat) (ro:Option (Nat×Nat)) (σ:St) (G:Gh) (us:List Value) (K:List V->List Mod->Prop),
 Inv T Φ σ a w G->(∀j',j<=j'->σ0.ar (d+1000*j')=none->σ.ar (d+1000*j')=none)->(∀k g,ro=some (k,g)->(∀g',σ.hasA k g'->g'<g)/\∀j',σ0.ar (d+1000*j')=none->k≠d+1000*j')->us.length=rs.length->
 (∀(i:Nat) u y,us[i]? =some u->rs[i]? =some y->linear y=true->Rb T w Gx (j+i) u y)->(∀(i:Nat) u y,us[i]? =some u->rs[i]? =some y->linear y=false->Rv w G u y/\y.pure)->((∃y∈rs,linear y=true)->Keep w w Gx G)->
 (∀j' b,j<=j'->Gx.O b= .ar j'->G.O b= .ext/\Φ.mine b/\b<w.heap.size)->uF σ0 d rs j ro K->
 ∃vs ms G',K vs ms/\Inv T Φ (σ.apps ms) a w G'/\vs.length=rs.length/\(∀(i:Nat) u v,us[i]? =some u->vs[i]? =some v->Rv w G' u v/\v.ok (σ.apps ms).hasB (σ.apps ms).hasA)/\G'.β=G.β/\(∀k g,σ.hasA k g->G'.av k g=G.av k g)/\(∀b,G.O b≠ .ext->G'.O b=G.O b)/\(∀k g,σ.hasA k g->(σ.apps ms).hasA k g)/\(σ.apps ms).bx=σ.bx:=by
 intro rs
 induction rs with
 |nil=>
  intro j ro σ G us K inv _ _ hl _ _ _ _ h;have:us=[] :=List.eq_nil_of_length_eq_zero AQ;subst this;exact⟨[],[],G,h,inv,rfl,fun i u v hu=>by simp at hu,rfl,fun _ _ _=>rfl,fun _ _=>rfl,fun _ _ h=>h,rfl⟩
 |cons y r ih=>
  intro j ro σ G us K inv hfresh hro hl hlin hpl hkx hpend h
  cases us with
  |nil=>simp at hl
  |cons u ur=>
   have hl':ur.length=r.length:=AQ
   have hlin':∀(i:Nat) u y,ur[i]? =some u->r[i]? =some y->linear y=true->Rb T w Gx (j+1+i) u y:=fun i u y hu hy hly=>by
    have:=hlin (i+1) u y AX CJ hly;rwa [show j+(i+1)=j+1+i from Aa]at this
   have take:∀(k g:Nat) (kd:AK) (e:TypeId) (l:List V),(kd= .own\/kd= .ap)->linear y=true->(∀g',σ.hasA k g'->g'<g)->(∀j',j+1<=j'->σ0.ar (d+1000*j')=none->k≠d+1000*j')->e<T.n e->bM l->
    (gJ T w Gx j u e l\/(kd= .ap/\Rv w Gx u (.cap l)/\∀x∈l,x.cells.length=(T.row e).size))->
    (uF σ0 d r (j+1) none fun vs ms=>K (.arr k g::vs) (.a k ⟨g,kd,e,l⟩::ms))->
    ∃vs ms G',K vs ms/\Inv T Φ (σ.apps ms) a w G'/\vs.length=(y::r).length/\(∀(i:Nat) u' v,(u::ur)[i]? =some u'->vs[i]? =some v->Rv w G' u' v/\v.ok (σ.apps ms).hasB (σ.apps ms).hasA)/\G'.β=G.β/\(∀k g,σ.hasA k g->G'.av k g=G.av k g)/\(∀b,G.O b≠ .ext->G'.O b=G.O b)/\(∀k g,σ.hasA k g->(σ.apps ms).hasA k g)/\(σ.apps ms).bx=σ.bx:=by
    intro k g kd e l hkd hly hno hne he hp hown hrest;have hx:=hkx ⟨y,Ae,hly⟩;obtain⟨G1,inv1,a1,a2,a3,a4,a5⟩:=inv.eV5 (k:=k) (gen:=g) hno hkd he hp hown hx (fun b hb=>hpend j b (Nat.le_refl _) hb);have hA1:∀k' g',σ.hasA k' g'->(σ.apps [.a k ⟨g,kd,e,l⟩]).hasA k' g':=fun k' g' hh=>Jk
    have hO1:∀b,G.O b≠ .ext->G1.O b=G.O b:=fun b hb=>a3 b (fun hb2=>hb (hpend j b (Nat.le_refl _) hb2).1);have hkp1:Keep w w G G1:=⟨fun b hb=>(hO1 b Au).trans hb,fun _ _=>rfl⟩
    obtain⟨vs,ms,G',b1,b2,b3,b4,b5,b6,b7,b8,b9⟩:=ih (j+1) none (σ.apps [.a k ⟨g,kd,e,l⟩]) G1 ur _ inv1
     (fun j' hj' hn=>by show upd σ.ar k _ _=_;rw[upd_ne _ _ (Ne.symm (hne j' hj' hn))];exact hfresh j' (by omega) hn)
     (fun _ _ h=>Ag) hl' hlin'
     (fun i u y hu hy hly=>by
      obtain⟨q1,q2⟩:=hpl (i+1) u y AX CJ hly;exact⟨q1.aW hkp1 q2,q2⟩)
     (fun⟨y',hy',hl'⟩=>⟨fun b hb=>(hkp1.fz b (hx.fz b hb)),fun _ _=>rfl⟩)
     (fun j' b hj' hb=>by
      have:=hpend j' b Aa hb;refine⟨?_,this.2⟩;rw[a3 b (by rw[hb];intro e;cases e;omega)]
      exact this.1) hrest
    refine⟨_,_,G',b1,b2,by simp[b3],?_,b5.trans a4,fun k' g' hh=>(b6 k' g' (hA1 k' g' hh)).trans (a5 k' g' hh),fun b hb=>?_,fun k' g' hh=>b8 k' g' (hA1 k' g' hh),b9⟩
    ·intro i u' v hu hv
     cases i with
     |zero=>
      simp at hu hv;subst hu;subst hv;have hA:(σ.apps [.a k ⟨g,kd,e,l⟩]).hasA k g:=⟨_,upd_same _ _ _,Nat.le_refl _⟩;have e1:G'.av k g=u:=(b6 k g hA).trans a1
      refine⟨?_,by simp only[V.ok];exact b8 k g hA⟩
      rw[<-e1];exact .arr k g (by rw[e1];exact a2)
     |succ i=>exact b4 i u' v AX AZ
    ·have:=hO1 b hb
     rw[b7 b Gq];exact this
   have fresh_ne:∀j',j+1<=j'->d+1000*j≠d+1000*j':=fun j' h=>Aa
   have plain:linear y=false->(uF σ0 d r (j+1) ro fun vs ms=>K (y::vs) ms)->
    ∃vs ms G',K vs ms/\Inv T Φ (σ.apps ms) a w G'/\vs.length=(y::r).length/\(∀(i:Nat) u' v,(u::ur)[i]? =some u'->vs[i]? =some v->Rv w G' u' v/\v.ok (σ.apps ms).hasB (σ.apps ms).hasA)/\G'.β=G.β/\(∀k g,σ.hasA k g->G'.av k g=G.av k g)/\(∀b,G.O b≠ .ext->G'.O b=G.O b)/\(∀k g,σ.hasA k g->(σ.apps ms).hasA k g)/\(σ.apps ms).bx=σ.bx:=by
    intro hly hrest;obtain⟨vs,ms,G',b1,b2,b3,b4,b5,b6,b7,b8,b9⟩:=ih (j+1) ro σ G ur _ inv (fun j' hj' hn=>hfresh j' Aa hn) hro hl' hlin' (fun i u y hu hy=>hpl (i+1) u y AX CJ) (fun⟨y',hy',hq⟩=>hkx ⟨y',by simp[hy'],hq⟩) (fun j' b hj' hb=>hpend j' b Aa hb) hrest
    refine⟨_,_,G',b1,b2,by simp[b3],?_,b5,b6,b7,b8,b9⟩
    intro i u' v hu hv
    cases i with
    |zero=>
     simp at hu hv;subst hu;subst hv;obtain⟨q1,q2⟩:=hpl 0 u y rfl rfl hly;have hkp:Keep w w G G':=⟨fun b hb=>(b7 b Au).trans hb,fun _ _=>rfl⟩;exact⟨q1.aW hkp q2,V.pure.ok q2 _ _⟩
    |succ i=>exact b4 i u' v AX AZ
   have hrb:=hlin 0 u y rfl rfl;rw[Nat.add_zero]at hrb;rw[qL]at h;split at h
   ·rename_i e l
    obtain⟨q1,q2,q3⟩:=hrb rfl;split at h
    ·rename_i k g
     exact take k g .own e l (.inl rfl) rfl (hro k g rfl).1 (fun j' _ hn=>(hro k g rfl).2 j' hn) q1 q2 (.inl q3) h
    ·split at h
     ·rename_i hn
      exact take _ 0 .own e l (.inl rfl) rfl (zK (hfresh j (Nat.le_refl _) hn) 0) (fun j' hj' _=>fresh_ne j' hj') q1 q2 (.inl q3) h
     ·exact h.elim
   ·rename_i e l
    obtain⟨q1,q2,q3⟩:=hrb rfl;have q3':gJ T w Gx j u e l\/(AK.ap= .ap/\Rv w Gx u (.cap l)/\∀x∈l,x.cells.length=(T.row e).size):=q3.imp id (fun h=>⟨rfl,h⟩);split at h
    ·rename_i k g
     exact take k g .ap e l (.inr rfl) rfl (hro k g rfl).1 (fun j' _ hn=>(hro k g rfl).2 j' hn) q1 q2 q3' h
    ·split at h
     ·rename_i hn
      exact take _ 0 .ap e l (.inr rfl) rfl (zK (hfresh j (Nat.le_refl _) hn) 0) (fun j' hj' _=>fresh_ne j' hj') q1 q2 q3' h
     ·exact h.elim
   ·rename_i h1 h2
    rw[force_eq]at h;exact plain (oW h1 h2) h
end
end Go.Ab
