/-
  Functions to which variables are lent.
-/
import Derived.Test.YtkhhdojgbkophaaGreatA14
set_option linter.unusedVariables false
set_option linter.unusedSimpArgs false
namespace Go.Ab
noncomputable def kW(b:List V):Nat->List V:=
 List.rec (motive:=fun _=>Nat->List V) (fun _=> []) (fun y _ ih t=>cond (linear y) (.arr t 0) y::ih (t+1)) b
noncomputable def bB3(bs:List (List V)):Nat->Nat->Option (List V):=
 List.rec (motive:=fun _=>Nat->Nat->Option (List V)) (fun _ _=>none) (fun b _ ih j s=>cond (Nat.beq s (100000+j)) (some (kW b (100000*(j+1)))) (ih (j+1) s)) bs
noncomputable def vT(bs:List (List V)):Nat->Nat->Option AE:=
 List.rec (motive:=fun _=>Nat->Nat->Option AE) (fun _ _=>none) (fun b _ ih j s=>match jK b (100000*(j+1)) s with|some en=>some en|none=>ih (j+1) s) bs
noncomputable def aG1(ys:List V)(bs:List (List V)):St:=⟨pF ys 0,bB3 bs 0,fun s=>match jK ys 0 s with|some en=>some en|none=>vT bs 0 s⟩
noncomputable def iP(bs:List (List V)):Nat->List Nat:=List.rec (motive:=fun _=>Nat->List Nat) (fun _=> []) (fun _ _ ih j=>(100000+j)::ih (j+1)) bs
noncomputable def aT2(bx:Nat->Option (List V))(gs:Grp)(is:List Nat):Bool:=aE7 (ownG gs)&&allR (fun k=> !memR k (mF gs)) (ownG gs)&&allR (fun i=>isS (bx i)) is
structure retB(T:Tab)(σ:St)(rs:List ResultVar)(r:V)(bs:List (List V)):Prop where
 out:aH3 T σ rs fun xs=>match xs with
  | [x] =>xM T σ.ar (iP bs 0) (([x],[r])::eU σ.bx bs (iP bs 0))/\aT2 σ.bx (([x],[r])::eU σ.bx bs (iP bs 0)) (iP bs 0)=true/\(∀rs,r≠ .tup rs)
  |xs=>∃ys,r= .tup ys/\xM T σ.ar (iP bs 0) ((xs,ys)::eU σ.bx bs (iP bs 0))/\aT2 σ.bx ((xs,ys)::eU σ.bx bs (iP bs 0)) (iP bs 0)=true
noncomputable def jR(T:Tab)(P:Program)(fn:Func)(ys:List V)(bs:List (List V))(r:V)(bs':List (List V)):Prop:=
 match fn.body with
 |some c=>nH T P fn.ntmps c (aG1 ys bs) fun e σ=>match e with
  | .normal=>retB T σ fn.results.toList r bs'
  | .ret=>retB T σ fn.results.toList r bs'
  |_=>False
 |none=>False
section
variable{T:Tab}{P:Program}{Φ:Fr}{σ:St}{a:Act}{w w':World}{G G':Gh}{K:VK}{o:Oper}{d:Nat}
theorem aH4:∀(b:List V) (t q:Nat),(kW b t)[q]? =(b[q]?).map fun y=>cond (linear y) (.arr (t+q) 0) y:=by
 intro b
 induction b with
 |nil=>intro t q;simp[kW]
 |cons y r ih=>
  intro t q
  have e:kW (y::r) t=cond (linear y) (.arr t 0) y::kW r (t+1):=rfl
  rw[e]
  cases q with
  |zero=>simp
  |succ q=>simp only[List.getElem?_cons_succ,ih,show t+1+q=t+(q+1) by omega]
theorem aR6:∀(b:List V) (t:Nat),(kW b t).length=b.length:=by
 intro b
 induction b with
 |nil=>intro t;rfl
 |cons y r ih=>intro t;exact congrArg Nat.succ (ih (t+1))
theorem bI8:∀(bs:List (List V)) (j s:Nat),bB3 bs j s=if 100000+j<=s then(bs[s- (100000+j)]?).map fun b=>kW b (100000*(s-100000+1))else none:=by
 intro bs
 induction bs with
 |nil=>intro j s;show none=_;split<;>simp
 |cons b r ih=>
  intro j s
  show cond (Nat.beq s (100000+j)) (some (kW b (100000*(j+1)))) (bB3 r (j+1) s)=_
  by_cases e:s=100000+j
  ·subst e
   rw[show Nat.beq (100000+j) (100000+j)=true from Nat.beq_refl _]
   simp
  ·have hb:Nat.beq s (100000+j)=false:=by rw[<-Bool.not_eq_true,Nat.beq_eq];exact e
   rw[hb,cond_false,ih]
   by_cases h1:100000+(j+1)<=s
   ·rw[if_pos h1,if_pos (by omega)]
    rw[show s- (100000+j)=(s- (100000+(j+1)))+1 by omega,List.getElem?_cons_succ]
   ·rw[if_neg h1,if_neg (by omega)]
theorem cC7{bs:List (List V)}(hb:∀b∈bs,b.length<100000):∀ {j s:Nat} {en:AE},vT bs j s=some en->∃(i q:Nat) (b:List V),bs[i]? =some b/\s=100000*(j+i+1)+q/\q<b.length/\(b[q]? =some (.own en.ty en.l)/\en=⟨0, .own,en.ty,en.l⟩\/b[q]? =some (.ap en.ty en.l)/\en=⟨0, .ap,en.ty,en.l⟩):=by
 induction bs with
 |nil=>intro j s en h;cases h
 |cons b r ih=>
  intro j s en h
  have h':(match jK b (100000*(j+1)) s with|some en=>some en|none=>vT r (j+1) s)=some en:=h
  split at h'
  ·rename_i en' hen
   cases h'
   rw[gY]at hen
   split at hen
   ·rename_i hle
    split at hen
    ·rename_i e l hy
     cases hen
     exact⟨0,s-100000*(j+1),b,rfl,by omega,(List.getElem?_eq_some_iff.1 hy).1, .inl ⟨hy,rfl⟩⟩
    ·rename_i e l hy
     cases hen
     exact⟨0,s-100000*(j+1),b,rfl,by omega,(List.getElem?_eq_some_iff.1 hy).1, .inr ⟨hy,rfl⟩⟩
    ·cases hen
   ·cases hen
  ·obtain⟨i,q,b',h1,h2,h3,h4⟩:=ih (fun b hb'=>hb b (by simp[hb'])) h'
   exact⟨i+1,q,b',h1,by rw[h2];omega,h3,h4⟩
theorem cU9{bs:List (List V)}:∀ {j i q:Nat} {b:List V} {y:V},bs[i]? =some b->b[q]? =some y->linear y=true->∃en,vT bs j (100000*(j+i+1)+q)=some en:=by
 induction bs with
 |nil=>intro j i q b y h;simp at h
 |cons b0 r ih=>
  intro j i q b y hb hy hl
  show∃en,(match jK b0 (100000*(j+1)) (100000*(j+i+1)+q)with|some en=>some en|none=>vT r (j+1) (100000*(j+i+1)+q))=some en
  cases h0:jK b0 (100000*(j+1)) (100000*(j+i+1)+q)with
  |some en=>exact⟨en,rfl⟩
  |none=>
   simp only
   cases i with
   |zero=>
    simp at hb
    subst hb
    rw[gY,if_pos (by omega),show 100000*(j+0+1)+q-100000*(j+1)=q by omega,hy]at h0
    cases y<;>simp_all [linear]
   |succ i=>
    have:=ih (j:=j+1) (i:=i) (q:=q) (by simpa using hb) hy hl
    rwa [show j+1+i+1=j+(i+1)+1 by omega]at this
theorem bR0:∀(bs:List (List V)) (j i:Nat),(iP bs j)[i]? =if i<bs.length then some (100000+(j+i))else none:=by
 intro bs
 induction bs with
 |nil=>intro j i;simp[iP]
 |cons b r ih=>
  intro j i
  have e:iP (b::r) j=(100000+j)::iP r (j+1):=rfl
  rw[e]
  cases i with
  |zero=>simp
  |succ i=>simp only[List.getElem?_cons_succ,ih,List.length_cons,Nat.add_lt_add_iff_right,show j+1+i=j+(i+1) by omega]
theorem cD7(bs:List (List V)):∀j,(iP bs j).length=bs.length:=by
 induction bs with
 |nil=>intro j;rfl
 |cons b r ih=>intro j;exact congrArg Nat.succ (ih (j+1))
theorem cT3{bx:Nat->Option (List V)}{gs:Grp}{is:List Nat}(h:aT2 bx gs is=true):(ownG gs).Nodup/\(∀k∈ownG gs,k∉mF gs)/\∀i∈is,∃cs,bx i=some cs:=by
 unfold aT2 at h
 simp only[Bool.and_eq_true]at h
 obtain⟨⟨h1,h2⟩,h5⟩:=h
 refine⟨uU.1 h1,fun k hk hm=>?_,fun i hi=>?_⟩
 ·have:=dY.1 h2 k hk
  rw[pM.2 hm]at this;simp at this
 ·have:=dY.1 h5 i hi
  unfold isS at this
  cases hb:bx i with
  |none=>rw[hb]at this;cases this
  |some cs=>exact⟨cs,rfl⟩
set_option maxHeartbeats 1600000 in
theorem dR3(inv:Inv T Φ σ a w G){xs ys:List V}{bs:List (List V)}{gs:Grp}(hgs:gs=(xs,ys)::eU σ.bx bs (iP bs 0))(hgive:xM T σ.ar (iP bs 0) gs)(hko:aT2 σ.bx gs (iP bs 0)=true)(vs:List Value)(hvs:∀(i:Nat) v x,vs[i]? =some v->xs[i]? =some x->Rv w G v x/\x.ok σ.hasB σ.hasA):
 ∃Gc:Gh,(∀(j:Nat) v y,vs[j]? =some v->ys[j]? =some y->RbB T w Gc bs.length j v y)/\BxOk T w Gc bs/\Gc.β=G.β/\(∀b,G.O b= .fz->Gc.O b= .fz)/\
  (∀b,Gc.O b≠ .ext->(G.O b= .fz/\Gc.O b= .fz)\/(∃k,G.O b= .ar k)\/(∃i,i<bs.length/\b=G.β (100000+i)/\Gc.O b= .bx (100000+i)))/\xs.length=ys.length:=by
 obtain⟨hnd,hdisj,hisb⟩:=cT3 hko
 have hil:(iP bs 0).length=bs.length:=cD7 bs 0
 have hget:∀(j:Nat),j<bs.length->(iP bs 0)[j]? =some (100000+j):=fun j hj=>by rw[bR0,if_pos hj,Nat.zero_add]
 have g0:gs[0]? =some (xs,ys):=by rw[hgs];rfl
 have gj:∀(j:Nat) b,bs[j]? =some b->gs[j+1]? =some ((σ.bx (100000+j)).getD [],b):=by
  intro j b h2
  rw[hgs,List.getElem?_cons_succ]
  exact(aR3 hil j _).2 ⟨_,b,hget j (List.getElem?_eq_some_iff.1 h2).1,h2,rfl⟩
 have hgv:∀(γ:Nat) (g:List V×List V),gs[γ]? =some g->g.1.length=g.2.length/\∀(q:Nat) x y,g.1[q]? =some x->g.2[q]? =some y->aP8 T σ.ar (iP bs 0) x y:=fun γ g hg=>aB1 (aJ8 hgive γ g hg)
 generalize hok:ownG gs=ok at*
 generalize hvk:mF gs=vk at*
 let pos:Nat->Nat:=fun k=> @dite _ (∃t,∃γ q,t=100000*γ+q/\PosG gs γ q k) (Classical.propDecidable _) (fun h=>h.choose) (fun _=>0)
 have hpos:∀ {γ q k},PosG gs γ q k->pos k=100000*γ+q:=by
  intro γ q k hp
  have hex:∃t,∃γ q,t=100000*γ+q/\PosG gs γ q k:=⟨_,γ,q,rfl,hp⟩
  have e1:pos k=hex.choose:=by simp only[pos];rw[dif_pos hex]
  obtain⟨γ',q',h1,h2⟩:=hex.choose_spec
  obtain⟨e2,e3⟩:=aA3 (by rw[hok];exact hnd) hp h2
  rw[e1,h1,e2,e3]
 let Gc:Gh:={G with O:=fun b=>match G.O b with| .fz=> .fz| .ar k=>if k∈vk then .fz else if k∈ok then .ar (pos k)else .ext| .bx i=>if(100000<=i/\i<100000+bs.length)/\b=G.β i then .bx i else .ext| .ext=> .ext}
 have c_fz:∀b,G.O b= .fz->Gc.O b= .fz:=fun b hb=>by simp only[Gc];rw[hb]
 have c_bi:∀b i,G.O b= .bx i->(100000<=i/\i<100000+bs.length)/\b=G.β i->Gc.O b= .bx i:=fun b i hb h=>by
  simp only[Gc];rw[hb];simp only;rw[if_pos h]
 have c_vk:∀b k,G.O b= .ar k->k∈vk->Gc.O b= .fz:=fun b k hb hk=>by simp only[Gc];rw[hb];simp[hk]
 have c_ok:∀b k,G.O b= .ar k->k∈ok->Gc.O b= .ar (pos k):=fun b k hb hk=>by
  simp only[Gc];rw[hb]
  have:k∉vk:=hdisj k hk
  simp[hk,this]
 have hkc:Keep w w G Gc:=⟨c_fz,fun _ _=>rfl⟩
 have hβc:∀b i,nth (iP bs 0) (b-100000)=some i->100000<=b->Gc.β b=G.β i:=by
  intro b i h1 h2
  rw[uN,bR0]at h1
  split at h1
  ·have:100000+(0+(b-100000))=i:=Option.some.inj h1
   rw[<-this,show 100000+(0+(b-100000))=b by omega]
  ·cases h1
 have give:∀(γ q:Nat) (g:List V×List V) (v:Value) (x y:V),gs[γ]? =some g->g.1[q]? =some x->g.2[q]? =some y->Rv w G v x->x.ok σ.hasB σ.hasA->RbB T w Gc bs.length (100000*γ+q) v y:=by
  intro γ q g v x y hg hx hy hv hxo
  rw[<-hil]
  refine aW7 inv hkc hβc ((hgv γ g hg).2 q x y hx hy) hv hxo (fun hl k hk b hb=>?_) (fun hl k hk b hb=>?_)
  ·exact c_vk b k hb (by rw[<-hvk];exact aS8.2 ⟨γ,g,hg,nP.2 ⟨q,x,y,hx,hy,hl,hk⟩⟩)
  ·have hp:PosG gs γ q k:=⟨g,hg,x,y,hx,hy,hl,hk⟩
   rw[c_ok b k hb (by rw[<-hok];exact aP0.2 ⟨γ,q,hp⟩),hpos hp]
 refine⟨Gc,?_,?_,rfl,c_fz,?_,(hgv 0 _ g0).1⟩
 ·intro j v y hv hy
  have hj:j<xs.length:=by rw[(hgv 0 _ g0).1];exact(List.getElem?_eq_some_iff.1 hy).1
  have hx:xs[j]? =some xs[j] :=List.getElem?_eq_getElem hj
  obtain⟨e1,e2⟩:=hvs j v _ hv hx
  have:=give 0 j (xs,ys) v _ y g0 hx hy e1 e2
  rwa [Nat.mul_zero,Nat.zero_add]at this
 ·intro j b hb
  have hj:=(List.getElem?_eq_some_iff.1 hb).1
  obtain⟨cs,hcs⟩:=hisb (100000+j) (List.mem_of_getElem? (hget j hj))
  obtain⟨c,t,q2,q3,q4⟩:=inv.box _ cs hcs
  have hg:=gj j b hb
  rw[hcs]at hg
  simp only[Option.getD_some]at hg
  have hgl:=(hgv _ _ hg).1
  refine⟨c_bi _ _ q4 ⟨⟨by omega,by omega⟩,rfl⟩,c,t,q2,?_,?_⟩
  ·have:=q3.len
   simp only[Array.length_toList]at this
   rw[this];exact hgl
  ·intro q v y hv hy
   have hq:q<cs.length:=by
    have h1:=(List.getElem?_eq_some_iff.1 hy).1
    have h2:cs.length=b.length:=hgl
    omega
   have hx:cs[q]? =some cs[q] :=List.getElem?_eq_getElem hq
   have hv':c.toList[q]? =some v:=by simpa using hv
   exact⟨q3.one v (List.mem_of_getElem? hv'),give (j+1) q _ v _ y hg hx hy (q3.rel q v _ hv' hx) (aH.1 (inv.wfB _ cs hcs) _ (List.mem_of_getElem? hx))⟩
 ·intro b hb
  cases hO:G.O b with
  |ext=>exfalso;apply hb;simp only[Gc];rw[hO]
  |fz=>exact .inl ⟨rfl,c_fz b hO⟩
  |ar k=>exact .inr (.inl ⟨k,rfl⟩)
  |bx i=>
   by_cases hi:(100000<=i/\i<100000+bs.length)/\b=G.β i
   ·refine .inr (.inr ⟨i-100000,by omega,?_,?_⟩)
    ·rw[show 100000+(i-100000)=i by omega];exact hi.2
    ·rw[show 100000+(i-100000)=i by omega];exact c_bi b i hO hi
   ·exfalso;apply hb;simp only[Gc];rw[hO];simp only;rw[if_neg hi]
set_option maxHeartbeats 3200000 in
theorem dP3(hT:bP T P)(hm:P.follows .mixedOrders=true){f:FuncId}{fn:Func}(hf:P.funcs[f]? =some fn)(hc:callable P f=true){ys:List V}{bs:List (List V)}{r:V}{bs':List (List V)}(hn:ys.length<=fn.ntmps)(hn2:fn.ntmps<100000)(h8:bs.length<=8)(hb1:∀b∈bs,b.length<100000)(hlens:bs'.map List.length=bs.map List.length)(h:jR T P fn ys bs r bs'):aU2 T P f ys bs r bs':=by
 refine⟨hc,hlens,?_⟩
 intro w G cs hcs htag hbx hbxok hargs hlay
 have hbl:bs'.length=bs.length:=by simpa using congrArg List.length hlens
 unfold jR at h
 split at h
 ·rename_i c hb
  let Φ:Fr:=⟨w,fun b=>(∃j,G.O b= .ar j)\/(∃i,G.O b= .bx i),fun b=>G.O b= .fz,fn.ntmps,fun _=>none,fun i=>if 100000<=i/\i<100000+bs.length then some (G.β i)else none,[],fun _=>none⟩
  let cellAt:Nat->Nat->Value:=fun j q=>match w.heap[G.β (100000+j)]? with|some (.cells c _ _)=>c.getD q undef|_=>undef
  let G0:Gh:={G with av:=fun k _=>if k<100000 then cs.getD k undef else cellAt (k/100000-1) (k% 100000)}
  have hav1:∀k,k<100000->G0.av k 0=cs.getD k undef:=fun k hk=>by simp only[G0];rw[if_pos hk]
  have hav2:∀j q,q<100000->G0.av (100000*(j+1)+q) 0=cellAt j q:=fun j q hq=>by
   simp only[G0]
   rw[if_neg (by omega)]
   rw[show(100000*(j+1)+q)/100000-1=j by omega,show(100000*(j+1)+q)% 100000=q by omega]
  have hkeep:Keep w w G G0:=⟨fun _ h=>h,fun _ _=>rfl⟩
  have hyl:ys.length<100000:=by omega
  have hrb:∀(j:Nat) y,ys[j]? =some y->RbB T w G bs.length j (cs.getD j undef) y:=by
   intro j y hy
   have hj:j<cs.size:=by rw[hcs];exact(List.getElem?_eq_some_iff.1 hy).1
   exact hargs j _ y (by simp[hj]) hy
  have own1:∀ {j u e l},gJ T w G j u e l->u.oneCell'=true:=by
   intro j u e l h
   rcases h with⟨h,_⟩|⟨b,cap,cur,h,_⟩
   ·exact aP2 h
   ·rw[h];rfl
  have cap1:∀ {u l},Rv w G u (.cap l)->u.oneCell'=true:=by
   intro u l h
   rcases h.vP with⟨h,_⟩|⟨ad,sz,cc,h,_⟩<;>(rw[h];rfl)
  have nonlin:∀ {j v y},RbB T w G bs.length j v y->linear y=false->y.ok (fun i=>100000<=i/\i<100000+bs.length) (fun _ _=>False)/\Rv w G0 v y:=by
   intro j v y hr hl
   have:y.ok (fun i=>100000<=i/\i<100000+bs.length) (fun _ _=>False)/\Rv w G v y:=by
    unfold RbB at hr
    split at hr
    ·simp[linear]at hl
    ·simp[linear]at hl
    ·exact hr
   exact⟨this.1,this.2.keep hkeep this.1 (fun _ _=>rfl) (fun _ _ h=>h.elim)⟩
  have lin1:∀ {j v y},RbB T w G bs.length j v y->linear y=true->v.oneCell'=true:=by
   intro j v y hr hl
   unfold RbB at hr
   split at hr
   ·exact own1 hr.2.2
   ·rcases hr.2.2 with q|q
    ·exact own1 q
    ·exact cap1 q.1
   ·rename_i hno1 hno2
    rw[oW hno1 hno2]at hl;cases hl
  have hboxes:∀(j:Nat) b,bs[j]? =some b->G.O (G.β (100000+j))= .bx (100000+j)/\∃c t,w.heap[G.β (100000+j)]? =some (.cells c t (0,0))/\c.size=b.length/\
   ∀(q:Nat) y,b[q]? =some y->c[q]? =some (cellAt j q)/\(cellAt j q).oneCell'=true/\RbB T w G bs.length (100000*(j+1)+q) (cellAt j q) y:=by
   intro j b hb
   obtain⟨q1,c,t,q2,q3,q4⟩:=hbxok j b hb
   refine⟨q1,c,t,q2,q3,fun q y hy=>?_⟩
   have hq:q<c.size:=by rw[q3];exact(List.getElem?_eq_some_iff.1 hy).1
   have e1:cellAt j q=c[q] :=by simp only[cellAt];rw[q2];simp[hq]
   have e2:c[q]? =some c[q] :=by simp[hq]
   rw[e1]
   exact⟨e2,q4 q _ y e2 hy⟩
  have hbget:∀i cells,bB3 bs 0 i=some cells->∃j b,i=100000+j/\bs[j]? =some b/\cells=kW b (100000*(j+1)):=by
   intro i cells hi
   rw[bI8]at hi
   split at hi
   ·rename_i hle
    cases hb':bs[i- (100000+0)]? with
    |none=>rw[hb']at hi;cases hi
    |some b=>
     rw[hb']at hi
     simp only[Option.map_some,Option.some.injEq]at hi
     exact⟨i-100000,b,by omega,by simpa using hb',hi.symm⟩
   ·cases hi
  have hbof:∀j b,bs[j]? =some b->bB3 bs 0 (100000+j)=some (kW b (100000*(j+1))):=by
   intro j b hb'
   rw[bI8,if_pos (by omega),show 100000+j- (100000+0)=j by omega,hb']
   rfl
  have hasB0:∀i,(100000<=i/\i<100000+bs.length)->(aG1 ys bs).hasB i:=by
   rintro i ⟨h1,h2⟩
   have hj:i-100000<bs.length:=by omega
   have:=hbof (i-100000) bs[i-100000] (List.getElem?_eq_getElem hj)
   rw[show 100000+(i-100000)=i by omega]at this
   exact⟨_,this⟩
  have hasA0:∀(s:Nat) y,ys[s]? =some y->linear y=true->(aG1 ys bs).hasA s 0:=by
   intro s y hy hl
   have:∃en,jK ys 0 s=some en:=by
    rw[gY]
    simp only[Nat.zero_le,if_true,Nat.sub_zero,hy]
    cases y<;>simp_all [linear]
   obtain⟨en,hen⟩:=this
   exact⟨en,by show(match jK ys 0 s with|some en=>some en|none=>vT bs 0 s)=_;rw[hen],Nat.zero_le _⟩
  have hasA1:∀(j q:Nat) b y,bs[j]? =some b->b[q]? =some y->linear y=true->(aG1 ys bs).hasA (100000*(j+1)+q) 0:=by
   intro j q b y hb' hy hl
   obtain⟨en,hen⟩:=cU9 (j:=0) hb' hy hl
   rw[Nat.zero_add]at hen
   have h0:jK ys 0 (100000*(j+1)+q)=none:=by
    rw[gY]
    simp only[Nat.zero_le,if_true,Nat.sub_zero]
    rw[List.getElem?_eq_none (by omega)]
   exact⟨en,by show(match jK ys 0 _ with|some en=>some en|none=>vT bs 0 _)=_;rw[h0];exact hen,Nat.zero_le _⟩
  have harget:∀k en,(aG1 ys bs).ar k=some en->∃v y,RbB T w G bs.length k v y/\G0.av k 0=v/\((y= .own en.ty en.l/\en=⟨0, .own,en.ty,en.l⟩)\/(y= .ap en.ty en.l/\en=⟨0, .ap,en.ty,en.l⟩)):=by
   intro k en hen
   have hen':(match jK ys 0 k with|some en=>some en|none=>vT bs 0 k)=some en:=hen
   split at hen'
   ·rename_i en' h0
    cases hen'
    rw[gY]at h0
    simp only[Nat.zero_le,if_true,Nat.sub_zero]at h0
    split at h0
    ·rename_i e l hy
     cases h0
     exact⟨_,_,hrb k _ hy,hav1 k (by have:=(List.getElem?_eq_some_iff.1 hy).1;omega), .inl ⟨rfl,rfl⟩⟩
    ·rename_i e l hy
     cases h0
     exact⟨_,_,hrb k _ hy,hav1 k (by have:=(List.getElem?_eq_some_iff.1 hy).1;omega), .inr ⟨rfl,rfl⟩⟩
    ·cases h0
   ·obtain⟨i,q,b,h1,h2,h3,h4⟩:=cC7 hb1 hen'
    rw[Nat.zero_add]at h2
    have hq:q<100000:=by have:=hb1 b (List.mem_of_getElem? h1);omega
    obtain⟨_,c,t,_,_,hcell⟩:=hboxes i b h1
    subst h2
    rcases h4 with⟨h4,h5⟩|⟨h4,h5⟩
    ·exact⟨_,_,(hcell q _ h4).2.2,hav2 i q hq, .inl ⟨rfl,h5⟩⟩
    ·exact⟨_,_,(hcell q _ h4).2.2,hav2 i q hq, .inr ⟨rfl,h5⟩⟩
  have inv:Inv T Φ (aG1 ys bs) {tmps:=cs++Array.replicate (fn.ntmps-cs.size) undef,defers:=[]} w G0:=by
   constructor
   ·rfl
   ·intro s v h;cases h
   ·show(cs++Array.replicate (fn.ntmps-cs.size) undef).size=fn.ntmps
    simp;omega
   ·intro s
    show Rv w G0 ((cs++Array.replicate (fn.ntmps-cs.size) undef).getD s undef) (pF ys 0 s)
    rw[lY]
    simp only[Nat.zero_le,if_true,Nat.sub_zero]
    by_cases hs:s<cs.size
    ·have hv:(cs++Array.replicate (fn.ntmps-cs.size) undef).getD s undef=cs.getD s undef:=by
      simp[Array.getElem?_append_left hs]
     have hy:ys[s]? =some ys[s] :=List.getElem?_eq_getElem (by omega)
     rw[hv,hy]
     have hr:=hrb s _ hy
     generalize ys[s] =y at*
     simp only
     cases hl:linear y with
     |false=>exact(nonlin hr hl).2
     |true=>
      have h1:=lin1 hr hl
      have e:=hav1 s (by omega)
      rw[<-e]at h1⊢
      exact Rv.arr (w:=w) (G:=G0) s 0 h1
    ·have hy:ys[s]? =none:=List.getElem?_eq_none (by omega)
     rw[hy]
     have hv:(cs++Array.replicate (fn.ntmps-cs.size) undef).getD s undef=undef:=by
      rw[Array.getD_eq_getD_getElem?,Array.getElem?_append_right (by omega)]
      by_cases h2:s-cs.size<fn.ntmps-cs.size
      ·simp[h2]
      ·rw[Array.getElem?_eq_none (by simp;omega)];rfl
     rw[hv]
     exact xK w G0
   ·intro s
    show(pF ys 0 s).ok _ _
    rw[lY]
    simp only[Nat.zero_le,if_true,Nat.sub_zero]
    cases hy:ys[s]? with
    |none=>simp only[V.ok,V.okL]
    |some y=>
     simp only
     have hr:=hrb s y hy
     cases hl:linear y with
     |false=>exact V.ok.imp hasB0 (fun _ _ h=>h.elim) _ (nonlin hr hl).1
     |true=>
      simp only[cond_true,V.ok]
      exact hasA0 s y hy hl
   ·intro i cells hi
    obtain⟨j,b,rfl,hb',rfl⟩:=hbget i cells hi
    obtain⟨q1,c,t,q2,q3,q4⟩:=hboxes j b hb'
    refine⟨c,t,q2,⟨by rw[aR6];simpa using q3,fun v hv=>?_,fun q v x hv hx=>?_⟩,q1⟩
    ·obtain⟨q,hq⟩:=List.getElem?_of_mem hv
     have hqb:q<b.length:=by rw[<-q3];simpa using(List.getElem?_eq_some_iff.1 hq).1
     obtain⟨k1,k2,_⟩:=q4 q _ (List.getElem?_eq_getElem hqb)
     have:c[q]? =some v:=by simpa using hq
     rw[k1]at this
     cases this
     exact k2
    ·rw[aH4]at hx
     cases hy:b[q]? with
     |none=>rw[hy]at hx;cases hx
     |some y=>
      rw[hy]at hx
      simp only[Option.map_some,Option.some.injEq]at hx
      obtain⟨k1,k2,k3⟩:=q4 q y hy
      have hv':c[q]? =some v:=by simpa using hv
      rw[k1]at hv'
      cases hv'
      have hq:q<100000:=by
       have h1:=hb1 b (List.mem_of_getElem? hb')
       have h2:=(List.getElem?_eq_some_iff.1 hy).1
       omega
      cases hl:linear y with
      |false=>rw[hl]at hx;simp only[cond_false]at hx;subst hx;exact(nonlin k3 hl).2
      |true=>
       rw[hl]at hx
       simp only[cond_true]at hx
       subst hx
       have e:=hav2 j q hq
       rw[<-e]at k2⊢
       exact Rv.arr (w:=w) (G:=G0) _ 0 k2
   ·intro i cells hi
    obtain⟨j,b,rfl,hb',rfl⟩:=hbget i cells hi
    obtain⟨q1,c,t,q2,q3,q4⟩:=hboxes j b hb'
    refine aH.2 fun x hx=>?_
    obtain⟨q,hq⟩:=List.getElem?_of_mem hx
    rw[aH4]at hq
    cases hy:b[q]? with
    |none=>rw[hy]at hq;cases hq
    |some y=>
     rw[hy]at hq
     simp only[Option.map_some,Option.some.injEq]at hq
     obtain⟨k1,k2,k3⟩:=q4 q y hy
     cases hl:linear y with
     |false=>rw[hl]at hq;simp only[cond_false]at hq;subst hq;exact V.ok.imp hasB0 (fun _ _ h=>h.elim) _ (nonlin k3 hl).1
     |true=>rw[hl]at hq;simp only[cond_true]at hq;subst hq;simp only[V.ok];exact hasA1 j q b y hb' hy hl
   ·intro k en hen
    obtain⟨v,y,h1,h2,h3⟩:=harget k en hen
    have hO:∀b,G.O b= .ar k->G0.O b= .ar k/\w.heap[b]? =w.heap[b]? :=fun b hb=>⟨hb,rfl⟩
    rcases h3 with⟨rfl,h4⟩|⟨rfl,h4⟩
    ·obtain⟨q1,q2,q3⟩:=h1
     rw[h4]
     unfold gW
     refine⟨q1,?_⟩
     show gJ T w G0 k (G0.av k 0) _ _
     rw[h2]
     exact q3.keep hkeep q2 hO
    ·obtain⟨q1,q2,q3⟩:=h1
     rw[h4]
     unfold gW
     refine⟨q1,?_⟩
     show gJ T w G0 k (G0.av k 0) _ _\/(Rv w G0 (G0.av k 0) _/\_)
     rw[h2]
     rcases q3 with q|q
     ·exact .inl (q.keep hkeep q2 hO)
     ·exact .inr ⟨q.1.aW hkeep (by simp only[V.pure,V.ok];exact q2),q.2⟩
   ·intro k en hen
    obtain⟨v,y,h1,h2,h3⟩:=harget k en hen
    rcases h3 with⟨rfl,h4⟩|⟨rfl,h4⟩
    ·exact h1.2.1
    ·exact h1.2.1
   ·exact htag
   ·intro b i hb';exact .inr (.inr ⟨i,hb'⟩)
   ·intro b k hb';exact .inr (.inl ⟨k,hb'⟩)
   ·intro b hb';exact .inl hb'
   ·intro b hb';exact hb'
   ·intro b _ _;rfl
   ·exact Nat.le_refl _
   ·rfl
   ·rfl
   ·rfl
   ·intro j v h;cases h
   ·refine⟨hlay,fun b hb'=>⟨htag b (by rw[show G.O b= .fz from hb'];simp),?_⟩⟩
    rintro(⟨j,hj⟩|⟨i,hi⟩)
    ·rw[show G.O b= .fz from hb']at hj;cases hj
    ·rw[show G.O b= .fz from hb']at hi;cases hi
   ·intro i b h'
    have h'':(if 100000<=i/\i<100000+bs.length then some (G.β i)else none)=some b:=h'
    split at h''
    ·rename_i hi
     cases h''
     exact⟨rfl,⟨hi.1,by omega⟩,hasB0 i hi⟩
    ·cases h''
  refine wM hT hm hf hb (Φ:=Φ) rfl rfl rfl inv h ?_
  have fin:∀(e:Exit) (σ:St) (a':Act) (w':World) (G':Gh),retB T σ fn.results.toList r bs'->Inv T Φ σ a' w' G'->∃v,(results fn a'.tmps).run P w'= .ok v w'/\∃v0 Gr,(Ending.returned v= .returned v0)/\RrB T w' Gr bs.length v0 r/\BxOk T w' Gr bs'/\(∀i,i<bs.length->Gr.β (100000+i)=G.β (100000+i))/\
   (∀b,G.O b= .fz->Gr.O b= .fz)/\(∀b,Gr.O b≠ .ext->b<w'.heap.size)/\
   (∀b,Gr.O b≠ .ext->(G.O b= .fz/\Gr.O b= .fz)\/w.heap.size<=b\/(∃j,G.O b= .ar j)\/(∃i,G.O b= .bx i/\Gr.O b= .bx i))/\
   (∀b,b<w.heap.size->(∀j,G.O b≠ .ar j)->(∀i,G.O b≠ .bx i)->w'.heap[b]? =w.heap[b]?)/\
   w.heap.size<=w'.heap.size/\w'.os=w.os/\w'.tape=w.tape/\w'.output=w.output:=by
   intro e σ a' w' G' hret inv'
   replace hret:=hret.out
   obtain⟨xs,vs,hk,hl1,hl2,hvs,hrun⟩:=aQ5 hT inv' _ _ hret
   have hres:=aD1 hrun
   refine⟨aI1 vs,hres,aI1 vs,?_⟩
   have hβ:∀i,i<bs.length->G'.β (100000+i)=G.β (100000+i):=fun i hi=>(inv'.argb (100000+i) (G.β (100000+i)) (by show(if 100000<=100000+i/\100000+i<100000+bs.length then some (G.β (100000+i))else none)=_;rw[if_pos (by omega)])).1
   have common:∀(ys':List V),xM T σ.ar (iP bs' 0) ((xs,ys')::eU σ.bx bs' (iP bs' 0))->aT2 σ.bx ((xs,ys')::eU σ.bx bs' (iP bs' 0)) (iP bs' 0)=true->∃Gr:Gh,(∀(j:Nat) v y,vs[j]? =some v->ys'[j]? =some y->RbB T w' Gr bs.length j v y)/\xs.length=ys'.length/\BxOk T w' Gr bs'/\(∀i,i<bs.length->Gr.β (100000+i)=G.β (100000+i))/\
    (∀b,G.O b= .fz->Gr.O b= .fz)/\(∀b,Gr.O b≠ .ext->b<w'.heap.size)/\
    (∀b,Gr.O b≠ .ext->(G.O b= .fz/\Gr.O b= .fz)\/w.heap.size<=b\/(∃j,G.O b= .ar j)\/(∃i,G.O b= .bx i/\Gr.O b= .bx i)):=by
    intro ys' h1 h2
    obtain⟨Gc,q1,q2,q3,q4,q5,q6⟩:=dR3 inv' rfl h1 h2 vs hvs
    rw[hbl]at q1
    refine⟨Gc,q1,q6,q2,fun i hi=>by rw[q3];exact hβ i hi,fun b hb=>q4 b (inv'.F0 b hb),fun b hb=>inv'.tag b ?_,fun b hb=>?_⟩
    ·rcases q5 b hb with⟨h,_⟩|⟨k,h⟩|⟨i,hi,h,_⟩
     ·rw[h];simp
     ·rw[h];simp
     ·obtain⟨_,_,cs0,hcs0⟩:=inv'.argb (100000+i) (G.β (100000+i)) (by show(if 100000<=100000+i/\100000+i<100000+bs.length then some (G.β (100000+i))else none)=_;rw[if_pos (by omega)])
      obtain⟨_,_,_,_,hO⟩:=inv'.box _ cs0 hcs0
      rw[h,hO];simp
    ·rcases q5 b hb with⟨h,h'⟩|⟨k,h⟩|⟨i,hi,h,h'⟩
     ·rcases inv'.fzm b h with h2|h2
      ·exact .inl ⟨h2,h'⟩
      ·rcases h2 with h2|h2|⟨i,h2⟩
       ·exact .inr (.inl h2)
       ·exact .inr (.inr (.inl h2))
       ·exfalso
        obtain⟨z1,z2,z3⟩:=hbx b i h2
        obtain⟨e1,_,cs0,hcs0⟩:=inv'.argb i (G.β i) (by show(if 100000<=i/\i<100000+bs.length then some (G.β i)else none)=_;rw[if_pos ⟨z1,z2⟩])
        obtain⟨_,_,_,_,hO⟩:=inv'.box _ cs0 hcs0
        rw[e1,<-z3,h]at hO
        cases hO
     ·rcases inv'.mineA b k h with h2|h2|⟨i,h2⟩
      ·exact .inr (.inl h2)
      ·exact .inr (.inr (.inl h2))
      ·exfalso
       obtain⟨z1,z2,z3⟩:=hbx b i h2
       obtain⟨e1,_,cs0,hcs0⟩:=inv'.argb i (G.β i) (by show(if 100000<=i/\i<100000+bs.length then some (G.β i)else none)=_;rw[if_pos ⟨z1,z2⟩])
       obtain⟨_,_,_,_,hO⟩:=inv'.box _ cs0 hcs0
       rw[e1,<-z3,h]at hO
       cases hO
     ·rw[hβ i (by omega)]at h
      refine .inr (.inr (.inr ⟨100000+i,?_,h'⟩))
      rw[h]
      have hi':i<bs.length:=by omega
      exact(hboxes i bs[i] (List.getElem?_eq_getElem hi')).1
   have frame:(∀b,b<w.heap.size->(∀j,G.O b≠ .ar j)->(∀i,G.O b≠ .bx i)->w'.heap[b]? =w.heap[b]?)/\w.heap.size<=w'.heap.size/\w'.os=w.os/\w'.tape=w.tape/\w'.output=w.output:=
    ⟨fun b hb hj hi=>inv'.frame b hb (by
     rintro(⟨j,h⟩|⟨i,h⟩)
     ·exact hj j h
     ·exact hi i h),inv'.size,inv'.os,inv'.tape,inv'.output⟩
   split at hk
   ·rename_i x
    obtain⟨g1,g2,g3⟩:=hk
    obtain⟨Gr,q1,_,q2,q3,q4,q5,q6⟩:=common [r] g1 g2
    obtain⟨v,rfl⟩:∃v,vs=[v] :=List.length_eq_one_iff.1 hl1
    refine⟨Gr,rfl,?_,q2,q3,q4,q5,q6,frame⟩
    have:=q1 0 v r rfl rfl
    unfold RrB
    split
    ·exact absurd rfl (g3 _)
    ·exact this
   ·rename_i hne
    obtain⟨ys',rfl,g1,g2⟩:=hk
    obtain⟨Gr,q1,hlen,q2,q3,q4,q5,q6⟩:=common ys' g1 g2
    refine⟨Gr,rfl,?_,q2,q3,q4,q5,q6,frame⟩
    show∃us:Array Value,aI1 vs= .tuple us/\us.size=ys'.length/\∀(j:Nat) u y,us[j]? =some u->ys'[j]? =some y->RbB T w' Gr bs.length j u y
    refine⟨vs.toArray,?_,by simp[hl1,hlen],fun j u y hu hy=>q1 j u y (by simpa using hu) hy⟩
    have hne1:vs.length≠1:=fun h1=>by
     rw[hl1]at h1
     obtain⟨x,hx⟩:=List.length_eq_one_iff.1 h1
     exact hne x hx
    cases vs with
    |nil=>rfl
    |cons v rr=>
     cases rr with
     |nil=>exact absurd rfl hne1
     |cons u rr=>rfl
  intro e σ a' w' G' hq inv'
  cases e with
  |normal=>exact⟨.inl rfl,fin .normal σ a' w' G' hq inv'⟩
  |ret=>exact⟨.inr rfl,fin .ret σ a' w' G' hq inv'⟩
  |exit id=>exact(hq:False).elim
  |goto l=>exact(hq:False).elim
  |panic c=>exact(hq:False).elim
  |outgrown=>exact(hq:False).elim
 ·exact h.elim
end
def dU6(u' u:Value):Prop:=
 match u with
 | .int k n=>match u' with| .int k' n'=>k'=k/\n'=n|_=>False
 | .bool b=>match u' with| .bool b'=>b'=b|_=>False
 |u=>u'=u
def wk1(ar r:Nat->Option AE)(x y:V):Prop:=
 match y with
 | .bot=>True
 | .lit u=>match x with| .lit u'=>dU6 u' u|_=>False
 | .sl l=>match x with
  | .sl l'=>l'=l
  | .cap l'=>l'=l
  | .lit (.slice none 0 0)=>l=[]
  | .arr k g=>match ar k with
   |some en=>match en.kind with
    | .frz=>en.gen=g/\en.l=l
    |_=>False
   |none=>False
  |_=>False
 | .arr k g=>match x with
  | .arr k' g'=>k'=k/\g'=g
  | .lit (.slice none 0 0)=>match ar k with
   |none=>match r k with
    |some en=>en.gen=g
    |none=>False
   |some _=>False
  |_=>False
 | .box i o=>match x with| .box i' o'=>i'=i/\o'=o|_=>False
 | .cap l=>match x with| .cap l'=>l'=l| .lit (.slice none 0 0)=>l=[] |_=>False
 | .fp l=>match x with| .fp l'=>l'=l|_=>False
 | .fn g l=>match x with| .fn g' l'=>g'=g/\l'=l|_=>False
 | .ae k g z i o=>match x with| .ae k' g' z' i' o'=>k'=k/\g'=g/\z'=z/\i'=i/\o'=o|_=>False
 |_=>False
noncomputable def wkL(ar r:Nat->Option AE)(ys:List V):List V->Prop:=
 List.rec (motive:=fun _=>List V->Prop) (fun xs=>match xs with| [] =>True|_::_=>False)
  (fun y _ ih xs=>match xs with|x::xr=>wk1 ar r x y/\ih xr| [] =>False) ys
noncomputable def wkV(ar r:Nat->Option AE)(x y:V):Prop:=
 match y with
 | .agg ys=>match x with| .agg xs=>wkL ar r ys xs|_=>False
 |y=>wk1 ar r x y
def bX7(a b:AK):Prop:=
 match b with
 | .own=>match a with| .own=>True|_=>False
 | .ap=>match a with| .own=>True| .ap=>True|_=>False
 | .frz=>match a with| .frz=>True|_=>False
 | .dead=>match a with| .dead=>True|_=>False
def wkAE(T:Tab)(o:Option AE)(en:AE):Prop:=
 match o with
 |some en0=>en0.gen=en.gen/\bX7 en0.kind en.kind/\en0.ty=en.ty/\en0.l=en.l
 |none=>bX7 .own en.kind/\en.l=[]/\Nat.blt en.ty (T.n en.ty)=true
def wfC1(b:Nat->Option (List V))(x:V):Prop:=
 match x with
 | .box i _=>match b i with|some _=>True|none=>False
 | .fp _=>True
 | .lit _=>True
 |_=>False
noncomputable def wfC(b:Nat->Option (List V))(l:List V):Prop:=List.rec (motive:=fun _=>Prop) True (fun x _ ih=>wfC1 b x/\ih) l
noncomputable def wf1(b:Nat->Option (List V))(r:Nat->Option AE)(x:V):Prop:=
 match x with
 | .box i _=>match b i with|some _=>True|none=>False
 | .arr k g=>match r k with|some en=>g<=en.gen|none=>False
 | .ae k g _ _ _=>match r k with|some en=>g<=en.gen|none=>False
 | .fn _ l=>wfC b l
 |_=>True
noncomputable def wfL(b:Nat->Option (List V))(r:Nat->Option AE)(l:List V):Prop:=List.rec (motive:=fun _=>Prop) True (fun x _ ih=>wf1 b r x/\ih) l
noncomputable def wfV(b:Nat->Option (List V))(r:Nat->Option AE)(x:V):Prop:=
 match x with
 | .agg cs=>wfL b r cs
 |x=>wf1 b r x
noncomputable def wkE(σ:St)(b:Nat->Option (List V))(r:Nat->Option AE)(e:List (Nat×V)):Prop:=
 List.rec (motive:=fun _=>Prop) True (fun p _ ih=>(wkV σ.ar r (σ.env p.1) p.2/\wfV b r p.2)/\ih) e
noncomputable def wkB(σ:St)(b:Nat->Option (List V))(r:Nat->Option AE)(l:List (Nat×List V)):Prop:=
 List.rec (motive:=fun _=>Prop) True (fun p _ ih=>(match σ.bx p.1 with|some cs=>wkL σ.ar r p.2 cs/\wfL b r p.2|none=>False)/\ih) l
noncomputable def wkA(T:Tab)(σ:St)(l:List (Nat×AE)):Prop:=
 List.rec (motive:=fun _=>Prop) True (fun p _ ih=>wkAE T (σ.ar p.1) p.2/\ih) l
theorem eJ6{u' u:Value}(h:dU6 u' u):u'=u:=by
 unfold dU6 at h
 split at h
 ·split at h
  ·obtain⟨rfl,rfl⟩:=h;rfl
  ·exact h.elim
 ·split at h
  ·subst h;rfl
  ·exact h.elim
 ·exact h
section
variable{T:Tab}{Φ:Fr}{σ:St}{a:Act}{w:World}{G:Gh}{b:Nat->Option (List V)}{r:Nat->Option AE}
noncomputable def xI(σ:St)(G:Gh):Gh:={G with av:=fun k g=>match σ.ar k with|none=> .slice none 0 0|some _=>G.av k g}
theorem bD1(σ:St)(w:World)(G:Gh):Keep w w G (xI σ G):=⟨fun _ h=>h,fun _ _=>rfl⟩
theorem eB6{k g:Nat}(h:σ.hasA k g):(xI σ G).av k g=G.av k g:=by
 obtain⟨en,h,_⟩:=h
 simp[xI,h]
theorem eX8{τ:St}{p:Nat->Prop}{q:Nat->Nat->Prop}{l:List V}:wfC τ.bx l->V.okL p q l->V.okL τ.hasB τ.hasA l:=by
 induction l with
 |nil=>intro _ _;simp only[V.okL]
 |cons x r ih=>
  intro h hok
  obtain⟨h1,h2⟩:wfC1 τ.bx x/\wfC τ.bx r:=h
  simp only[V.okL]at hok⊢
  refine⟨?_,ih h2 hok.2⟩
  have hx:=hok.1
  unfold wfC1 at h1
  split at h1
  ·split at h1
   ·rename_i cs hcs;simp only[V.ok];exact⟨cs,hcs⟩
   ·exact h1.elim
  ·simp only[V.ok]at hx⊢;exact hx
  ·simp only[V.ok]
  ·exact h1.elim
theorem aG3(inv:Inv T Φ σ a w G){v:Value}{x y:V}(hx:Rv w G v x)(hok:x.ok σ.hasB σ.hasA)(h:wk1 σ.ar r x y)(hw:wf1 b r y)(τ:St)(hb:τ.bx=b)(hr:τ.ar=r):
 Rv w (xI σ G) v y/\y.ok τ.hasB τ.hasA:=by
 have hx':Rv w (xI σ G) v x:=hx.keep (bD1 σ w G) hok (fun _ _=>rfl) (fun k g h=>eB6 h)
 subst hb hr
 unfold wk1 at h
 split at h
 ·exact⟨.bot v,by simp only[V.ok]⟩
 ·split at h
  ·cases eJ6 h;exact⟨hx',by simp only[V.ok]⟩
  ·exact h.elim
 ·split at h
  ·subst h;exact⟨hx',by simp only[V.ok]at hok⊢;exact hok⟩
  ·subst h;exact⟨hx'.wK,by simp only[V.ok]at hok⊢;exact hok⟩
  ·subst h
   have:=hx.bH
   subst this
   exact⟨.slN,by simp only[V.ok,V.okL]⟩
  ·split at h
   ·rename_i k g _ en hen
    split at h
    ·rename_i hkd
     obtain⟨rfl,rfl⟩:=h
     have ha:=inv.arr k en hen
     unfold gW at ha
     rw[hkd]at ha
     have hp:=inv.wfA k en hen
     have hps:(V.sl en.l).pure:=by simp only[V.pure,V.ok];exact hp
     have hv:=hx.oQ
     rw[hv]
     exact⟨(ha:Rv w G _ _).aW (bD1 σ w G) hps,by simp only[V.ok];exact hp⟩
    ·exact h.elim
   ·exact h.elim
  ·exact h.elim
 ·rename_i k g
  have hwr:τ.hasA k g:=by
   unfold wf1 at hw
   simp only at hw
   split at hw
   ·rename_i en hen;exact⟨en,hen,hw⟩
   ·exact hw.elim
  split at h
  ·obtain⟨rfl,rfl⟩:=h
   exact⟨hx',by simp only[V.ok];exact hwr⟩
  ·split at h
   ·rename_i hnone
    split at h
    ·have hv:=hx.bH
     subst hv
     have e:(xI σ G).av k g= .slice none 0 0:=by simp[xI,hnone]
     rw[<-e]
     exact⟨.arr k g (by rw[e];rfl),by simp only[V.ok];exact hwr⟩
    ·exact h.elim
   ·exact h.elim
  ·exact h.elim
 ·split at h
  ·obtain⟨rfl,rfl⟩:=h
   refine⟨hx',?_⟩
   unfold wf1 at hw
   simp only at hw
   split at hw
   ·rename_i cs hcs;simp only[V.ok];exact⟨cs,hcs⟩
   ·exact hw.elim
  ·exact h.elim
 ·split at h
  ·subst h;exact⟨hx',by simp only[V.ok]at hok⊢;exact hok⟩
  ·subst h
   have:=hx.bH
   subst this
   exact⟨.capN,by simp only[V.ok,V.okL]⟩
  ·exact h.elim
 ·split at h
  ·subst h;exact⟨hx',by simp only[V.ok]at hok⊢;exact hok⟩
  ·exact h.elim
 ·split at h
  ·obtain⟨rfl,rfl⟩:=h
   refine⟨hx',?_⟩
   simp only[V.ok]at hok⊢
   exact eX8 (τ:=τ) hw hok
  ·exact h.elim
 ·rename_i k g z i o
  have hwr:τ.hasA k g:=by
   unfold wf1 at hw
   simp only at hw
   split at hw
   ·rename_i en hen;exact⟨en,hen,hw⟩
   ·exact hw.elim
  split at h
  ·obtain⟨rfl,rfl,rfl,rfl,rfl⟩:=h
   exact⟨hx',by simp only[V.ok];exact hwr⟩
  ·exact h.elim
 ·exact h.elim
theorem bL3{ar:Nat->Option AE}{ys:List V}:∀ {xs:List V},wkL ar r ys xs->wfL b r ys->xs.length=ys.length/\∀(i:Nat) x y,xs[i]? =some x->ys[i]? =some y->wk1 ar r x y/\wf1 b r y:=by
 induction ys with
 |nil=>
  intro xs h _
  cases xs with
  |nil=>exact⟨rfl,fun i x y hx=>by simp at hx⟩
  |cons x xr=>exact(h:False).elim
 |cons y yr ih=>
  intro xs h hw
  cases xs with
  |nil=>exact(h:False).elim
  |cons x xr=>
   obtain⟨h1,h2⟩:=(h:wk1 ar r x y/\wkL ar r yr xr)
   obtain⟨w1,w2⟩:=(hw:wf1 b r y/\wfL b r yr)
   obtain⟨q1,q2⟩:=ih h2 w2
   refine⟨by simp[q1],fun i x' y' hx hy=>?_⟩
   cases i with
   |zero=>simp at hx hy;subst hx hy;exact⟨h1,w1⟩
   |succ i=>simp at hx hy;exact q2 i x' y' hx hy
theorem bT8(inv:Inv T Φ σ a w G){v:Value}{x y:V}(hx:Rv w G v x)(hok:x.ok σ.hasB σ.hasA)(h:wkV σ.ar r x y)(hw:wfV b r y)(τ:St)(hb:τ.bx=b)(hr:τ.ar=r):
 Rv w (xI σ G) v y/\y.ok τ.hasB τ.hasA:=by
 unfold wkV at h
 split at h
 ·rename_i ys
  split at h
  ·rename_i xs
   obtain⟨q1,q2⟩:=bL3 h hw
   obtain⟨cs,rfl,hl,ho,hrel⟩:=hx.zV
   simp only[V.ok]at hok
   have each:∀(i:Nat) c y,cs[i]? =some c->ys[i]? =some y->Rv w (xI σ G) c y/\y.ok τ.hasB τ.hasA:=by
    intro i c y hc hy
    have hi:i<xs.length:=by rw[q1];exact(List.getElem?_eq_some_iff.1 hy).1
    have hxi:xs[i]? =some xs[i] :=by simp[hi]
    obtain⟨k1,k2⟩:=q2 i xs[i] y hxi hy
    exact aG3 inv (hrel i c xs[i] hc hxi) (aH.1 hok _ (List.getElem_mem hi)) k1 k2 τ hb hr
   refine⟨.agg cs ys (by omega) ho fun i c y hc hy=>(each i c y hc hy).1,?_⟩
   simp only[V.ok]
   rw[aH]
   intro y hy
   obtain⟨i,hi⟩:=List.getElem?_of_mem hy
   have hlt:i<cs.size:=by rw[hl,q1];exact(List.getElem?_eq_some_iff.1 hi).1
   exact(each i cs[i] y (by simp[hlt]) hi).2
  ·exact h.elim
 ·rename_i hna
  refine aG3 inv hx hok h ?_ τ hb hr
  unfold wfV at hw
  split at hw
  ·exact(hna _ rfl).elim
  ·exact hw
theorem dT6{α:Type}{dflt:α}{l:List (Nat×α)}(s:Nat):ofL dflt l s=dflt\/∃p∈l,p.1=s/\ofL dflt l s=p.2:=by
 induction l with
 |nil=>exact .inl rfl
 |cons p q ih=>
  have hd:ofL dflt (p::q) s=cond (Nat.beq s p.1) p.2 (ofL dflt q s):=rfl
  rw[hd]
  cases hb:Nat.beq s p.1 with
  |true=>exact .inr ⟨p,by simp,(Nat.eq_of_beq_eq_true hb).symm,rfl⟩
  |false=>
   rcases ih with h|⟨p',hp,h1,h2⟩
   ·exact .inl h
   ·exact .inr ⟨p',by simp[hp],h1,h2⟩
theorem aF5{α:Type}{l:List (Nat×α)}{s:Nat}{x:α}(h:ofO l s=some x):∃p∈l,p.1=s/\p.2=x:=by
 induction l with
 |nil=>cases h
 |cons p q ih=>
  have hd:ofO (p::q) s=cond (Nat.beq s p.1) (some p.2) (ofO q s):=rfl
  rw[hd]at h
  cases hb:Nat.beq s p.1 with
  |true=>rw[hb]at h;exact⟨p,by simp,(Nat.eq_of_beq_eq_true hb).symm,by simpa using h⟩
  |false=>
   rw[hb]at h
   obtain⟨p',hp,h1,h2⟩:=ih h
   exact⟨p',by simp[hp],h1,h2⟩
theorem cP0{e:List (Nat×V)}(h:wkE σ b r e):∀p∈e,wkV σ.ar r (σ.env p.1) p.2/\wfV b r p.2:=by
 induction e with
 |nil=>intro p hp;cases hp
 |cons q l ih=>
  obtain⟨h1,h2⟩:=(h:(wkV σ.ar r (σ.env q.1) q.2/\wfV b r q.2)/\wkE σ b r l)
  intro p hp
  rcases List.mem_cons.1 hp with rfl|hp
  ·exact h1
  ·exact ih h2 p hp
theorem cF4{l:List (Nat×List V)}(h:wkB σ b r l):∀p∈l,∃cs,σ.bx p.1=some cs/\wkL σ.ar r p.2 cs/\wfL b r p.2:=by
 induction l with
 |nil=>intro p hp;cases hp
 |cons q l ih=>
  obtain⟨h1,h2⟩:=(h:(match σ.bx q.1 with|some cs=>wkL σ.ar r q.2 cs/\wfL b r q.2|none=>False)/\wkB σ b r l)
  intro p hp
  rcases List.mem_cons.1 hp with rfl|hp
  ·split at h1
   ·rename_i cs hcs;exact⟨cs,hcs,h1⟩
   ·exact h1.elim
  ·exact ih h2 p hp
theorem cO0{l:List (Nat×AE)}(h:wkA T σ l):∀p∈l,wkAE T (σ.ar p.1) p.2:=by
 induction l with
 |nil=>intro p hp;cases hp
 |cons q l ih=>
  obtain⟨h1,h2⟩:=(h:wkAE T (σ.ar q.1) q.2/\wkA T σ l)
  intro p hp
  rcases List.mem_cons.1 hp with rfl|hp
  ·exact h1
  ·exact ih h2 p hp
theorem cR3(inv:Inv T Φ σ a w G){k:Nat}{en0 en:AE}(h0:σ.ar k=some en0)(h1:en0.gen=en.gen)(h2:bX7 en0.kind en.kind)(h3:en0.ty=en.ty)(h4:en0.l=en.l):gW T w G k en:=by
 have ha:=inv.arr k en0 h0
 obtain⟨g0,k0,t0,l0⟩:=en0
 obtain⟨g,kd,t,l⟩:=en
 simp only at h1 h2 h3 h4
 subst h1 h3 h4
 cases kd<;>cases k0<;>simp only[bX7]at h2<;>first|exact h2.elim|exact trivial|exact ha|skip
 unfold gW at ha⊢
 exact⟨ha.1, .inl ha.2⟩
def has8(o p:Option AE):Prop:=match o with|none=>True|some _=>(match p with|some _=>True|none=>False)
def aN5(o p:Option (List V)):Prop:=match o with|none=>True|some _=>(match p with|some _=>True|none=>False)
def wk8b(ar r:Nat->Option (List V)):Prop:=aN5 (ar 100000) (r 100000)/\aN5 (ar 100001) (r 100001)/\aN5 (ar 100002) (r 100002)/\aN5 (ar 100003) (r 100003)/\aN5 (ar 100004) (r 100004)/\aN5 (ar 100005) (r 100005)/\aN5 (ar 100006) (r 100006)/\aN5 (ar 100007) (r 100007)
theorem dS5{ar r:Nat->Option (List V)}(h:wk8b ar r){j:Nat}(hj:100000<=j/\j<100008){en:List V}(he:ar j=some en):∃en',r j=some en':=by
 have key:∀ {o p:Option (List V)},aN5 o p->o=some en->∃en',p=some en':=by
  intro o p h ho
  subst ho
  cases p with
  |none=>exact(h:False).elim
  |some x=>exact⟨x,rfl⟩
 obtain⟨h0,h1,h2,h3,h4,h5,h6,h7⟩:=h
 have hj':j=100000\/j=100001\/j=100002\/j=100003\/j=100004\/j=100005\/j=100006\/j=100007:=by omega
 rcases hj' with rfl|rfl|rfl|rfl|rfl|rfl|rfl|rfl
 ·exact key h0 he
 ·exact key h1 he
 ·exact key h2 he
 ·exact key h3 he
 ·exact key h4 he
 ·exact key h5 he
 ·exact key h6 he
 ·exact key h7 he
def wk8(ar r:Nat->Option AE):Prop:=has8 (ar 0) (r 0)/\has8 (ar 1) (r 1)/\has8 (ar 2) (r 2)/\has8 (ar 3) (r 3)/\has8 (ar 4) (r 4)/\has8 (ar 5) (r 5)/\has8 (ar 6) (r 6)/\has8 (ar 7) (r 7)
theorem dT9{ar r:Nat->Option AE}(h:wk8 ar r){j:Nat}(hj:j<8){en:AE}(he:ar j=some en):∃en',r j=some en':=by
 have key:∀ {o p:Option AE},has8 o p->o=some en->∃en',p=some en':=by
  intro o p h ho
  subst ho
  cases p with
  |none=>exact(h:False).elim
  |some x=>exact⟨x,rfl⟩
 obtain⟨h0,h1,h2,h3,h4,h5,h6,h7⟩:=h
 match j,hj with
 |0,_=>exact key h0 he
 |1,_=>exact key h1 he
 |2,_=>exact key h2 he
 |3,_=>exact key h3 he
 |4,_=>exact key h4 he
 |5,_=>exact key h5 he
 |6,_=>exact key h6 he
 |7,_=>exact key h7 he
theorem dV{e:List (Nat×V)}{lb:List (Nat×List V)}{lr:List (Nat×AE)}(h8:wk8 σ.ar (ofO lr)/\wk8b σ.bx (ofO lb))(hA:wkA T σ lr)(hB:wkB σ (ofO lb) (ofO lr) lb)(hE:wkE σ (ofO lb) (ofO lr) e):Le T σ (mkSt e lb lr):=by
 unfold Le
 intro Φ a w G inv
 have bot:∀s,(mkSt e lb lr).env s= .bot\/∃p∈e,p.1=s/\(mkSt e lb lr).env s=p.2:=fun s=>dT6 s
 have hav:∀k g,σ.hasA k g->(xI σ G).av k g=G.av k g:=fun k g h=>eB6 h
 refine⟨xI σ G,?_⟩
 refine {nd:=inv.nd,kp:=inv.kp,sz:=inv.sz,env:= ?_,wfE:= ?_,box:= ?_,wfB:= ?_,arr:= ?_,wfA:= ?_,tag:=inv.tag,mineB:=inv.mineB,mineA:=inv.mineA,fzm:=inv.fzm,F0:=inv.F0,lay:=inv.lay,frame:=inv.frame,size:=inv.size,os:=inv.os,tape:=inv.tape,output:=inv.output,args:=fun j v h=>⟨(hav j 0 ⟨_,(inv.args j v h).2.2.choose_spec,Nat.zero_le _⟩).trans (inv.args j v h).1,(inv.args j v h).2.1,dT9 h8.1 (inv.args j v h).2.1 (inv.args j v h).2.2.choose_spec⟩,argb:=fun i bk h=>⟨(inv.argb i bk h).1,(inv.argb i bk h).2.1,dS5 h8.2 (inv.argb i bk h).2.1 (inv.argb i bk h).2.2.choose_spec⟩}
 ·intro s
  rcases bot s with h|⟨p,hp,rfl,h⟩
  ·rw[h];exact .bot _
  ·rw[h]
   obtain⟨h1,h2⟩:=cP0 hE p hp
   exact(bT8 inv (inv.env p.1) (inv.wfE p.1) h1 h2 (mkSt e lb lr) rfl rfl).1
 ·intro s
  rcases bot s with h|⟨p,hp,rfl,h⟩
  ·rw[h];simp only[V.ok]
  ·rw[h]
   obtain⟨h1,h2⟩:=cP0 hE p hp
   exact(bT8 inv (inv.env p.1) (inv.wfE p.1) h1 h2 (mkSt e lb lr) rfl rfl).2
 ·intro i cs hi
  obtain⟨p,hp,rfl,rfl⟩:=aF5 hi
  obtain⟨cs0,hcs0,h1,h2⟩:=cF4 hB p hp
  obtain⟨c,t,g1,g2,g3⟩:=inv.box p.1 cs0 hcs0
  obtain⟨q1,q2⟩:=bL3 h1 h2
  refine⟨c,t,g1,⟨by rw[g2.len,q1],g2.one,fun i v y hv hy=>?_⟩,g3⟩
  have hlt:i<cs0.length:=by rw[q1];exact(List.getElem?_eq_some_iff.1 hy).1
  have hxi:cs0[i]? =some cs0[i] :=by simp[hlt]
  obtain⟨k1,k2⟩:=q2 i cs0[i] y hxi hy
  exact(aG3 inv (g2.rel i v cs0[i] hv hxi) (aH.1 (inv.wfB p.1 cs0 hcs0) _ (List.getElem_mem hlt)) k1 k2 (mkSt e lb lr) rfl rfl).1
 ·intro i cs hi
  obtain⟨p,hp,rfl,rfl⟩:=aF5 hi
  obtain⟨cs0,hcs0,h1,h2⟩:=cF4 hB p hp
  obtain⟨c,t,g1,g2,g3⟩:=inv.box p.1 cs0 hcs0
  obtain⟨q1,q2⟩:=bL3 h1 h2
  rw[aH]
  intro y hy
  obtain⟨i,hi'⟩:=List.getElem?_of_mem hy
  have hlt:i<cs0.length:=by rw[q1];exact(List.getElem?_eq_some_iff.1 hi').1
  have hxi:cs0[i]? =some cs0[i] :=by simp[hlt]
  have hlc:i<c.toList.length:=by rw[g2.len];exact hlt
  obtain⟨k1,k2⟩:=q2 i cs0[i] y hxi hi'
  exact(aG3 inv (g2.rel i c.toList[i] cs0[i] (by simp) hxi) (aH.1 (inv.wfB p.1 cs0 hcs0) _ (List.getElem_mem hlt)) k1 k2 (mkSt e lb lr) rfl rfl).2
 ·intro k en hk
  obtain⟨p,hp,rfl,rfl⟩:=aF5 hk
  have h:=cO0 hA p hp
  unfold wkAE at h
  split at h
  ·rename_i en0 h0
   have hok:=cR3 inv h0 h.1 h.2.1 h.2.2.1 h.2.2.2
   refine hok.keep (bD1 σ w G) ?_ ?_ (fun b hb=>⟨hb,rfl⟩)
   ·rw[<-h.2.2.2];exact inv.wfA _ _ h0
   ·exact hav _ _ ⟨en0,h0,by omega⟩
  ·rename_i h0
   obtain⟨h1,h2,h3⟩:=h
   have hnil:(xI σ G).av p.1 p.2.gen= .slice none 0 0:=by simp[xI,h0]
   have hlt:=blt h3
   unfold gW
   split
   ·rw[h2];trivial
   ·rename_i hkd;rw[hkd]at h1;exact h1.elim
   ·rw[hnil,h2];exact⟨hlt, .inl ⟨.inl rfl,rfl⟩⟩
   ·rw[hnil,h2];exact⟨hlt, .inl (.inl ⟨.inl rfl,rfl⟩)⟩
 ·intro k en hk
  obtain⟨p,hp,rfl,rfl⟩:=aF5 hk
  have h:=cO0 hA p hp
  unfold wkAE at h
  split at h
  ·rename_i en0 h0
   rw[<-h.2.2.2];exact inv.wfA _ _ h0
  ·rw[h.2.1];simp only[V.okL]
end
end Go.Ab
