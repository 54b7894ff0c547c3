/-
  A call by its contract.
-/
import Derived.Test.YtdjgbagnajikeaaGreatDoorA6
set_option linter.unusedVariables false
set_option linter.unusedSimpArgs false
noncomputable section
namespace Go.Ab
section
variable{T:Tab}{P:Program}{Φ:Fr}{σ:St}{a:Act}{w w':World}{G G':Gh}{K:VK}{o:Oper}{d:Nat}
theorem uU{l:List Nat}:aE7 l=true↔l.Nodup:=by
 induction l with
 |nil=>simp[aE7]
 |cons x r ih=>
  have:aE7 (x::r)=cond (memR x r) false (aE7 r):=rfl;rw[this,List.nodup_cons,<-ih]
  cases h:memR x r with
  |true=>simp[pM.1 h]
  |false=>
   have:x∉r:=fun hm=>by rw[pM.2 hm]at h;cases h
   simp[this]
def zW(xs ys:List V)(j k:Nat):Prop:=∃x y,xs[j]? =some x/\ys[j]? =some y/\linear y=true/\k∈jQ x
theorem aK3:∀ {ys xs:List V},(bD ys xs).Nodup->∀ {j j' k:Nat},zW xs ys j k->zW xs ys j' k->j=j':=by
 intro ys
 induction ys with
 |nil=>rintro xs _ j j' k ⟨x,y,_,h,_⟩;simp at h
 |cons y r ih=>
  intro xs hn j j' k h h'
  cases xs with
  |nil=>obtain⟨x,y,h,_⟩:=h;simp at h
  |cons x xr=>
   have hdef:bD (y::r) (x::xr)=appR (cond (linear y) (jQ x) []) (bD r xr):=rfl;rw[hdef,bT,List.nodup_append]at hn;obtain⟨_,n2,n3⟩:=hn
   have head:∀ {j},zW (x::xr) (y::r) (j+1) k->zW (x::xr) (y::r) 0 k->False:=by
    rintro j ⟨x1,y1,a1,a2,a3,a4⟩ ⟨x0,y0,b1,b2,b3,b4⟩;simp at b1 b2;subst b1;subst b2;have m1:k∈bD r xr:=oZ.2 ⟨j,x1,y1,by simpa using a1,by simpa using a2,a3,a4⟩
    exact n3 k (by rw[b3];exact b4) k m1 rfl
   cases j with
   |zero=>
    cases j' with
    |zero=>rfl
    |succ j'=>exact(head h' h).elim
   |succ j=>
    cases j' with
    |zero=>exact(head h h').elim
    |succ j'=>
     have:j=j':=ih n2 (by obtain⟨x1,y1,a1,a2,a3⟩:=h;exact⟨x1,y1,by simpa using a1,by simpa using a2,a3⟩) (by obtain⟨x1,y1,a1,a2,a3⟩:=h';exact⟨x1,y1,by simpa using a1,by simpa using a2,a3⟩)
     rw[this]
def bJ2(en:AE):AE:=⟨en.gen, .dead,en.ty,[]⟩
theorem bP7(σ σ':St)(ks:List Nat):(∀k∈ks,σ.ar k=none->σ'.ar k=none)->∀k,(σ'.apps (aX σ ks)).ar k=if k∈ks then(σ.ar k).map bJ2 else σ'.ar k:=by
 induction ks generalizing σ' with
 |nil=>intro _ k;simp[aX,St.apps]
 |cons x r ih=>
  intro hn k;have hdef:aX σ (x::r)=(match σ.ar x with|some en=>Mod.a x ⟨en.gen, .dead,en.ty,[]⟩::aX σ r|none=>aX σ r):=rfl
  rw[hdef]
  cases hx:σ.ar x with
  |none=>
   simp only;rw[ih σ' (fun k hk=>hn k (by simp[hk])) k]
   by_cases h1:k∈r
   ·simp[h1]
   ·by_cases h2:k=x
    ·subst h2;simp[h1,hx,hn k Ae hx]
    ·simp[h1,h2]
  |some en=>
   simp only;have h0:σ'.apps (Mod.a x ⟨en.gen, .dead,en.ty,[]⟩::aX σ r)=((Mod.a x ⟨en.gen, .dead,en.ty,[]⟩).app σ').apps (aX σ r):=rfl;rw[h0,ih _ (fun k' hk' hn'=>?_) k]
   ·by_cases h1:k∈r
    ·simp[h1]
    ·by_cases h2:k=x
     ·subst h2
      simp only[h1,if_false,List.mem_cons,true_or,if_true];show upd σ'.ar k _ k=_;rw[upd_same,hx];rfl
     ·exact JL
   ·show upd σ'.ar x _ k'=_
    have:k'≠x:=by rintro rfl;rw[hx]at hn';cases hn'
    rw[upd_ne _ _ this];exact hn k' (by simp[hk']) hn'
theorem aS3(σ:St)(ks:List Nat):∀m∈aX σ ks,∃k en,m= .a k en:=by
 induction ks with
 |nil=>intro m hm;cases hm
 |cons x r ih=>
  intro m hm;have hdef:aX σ (x::r)=(match σ.ar x with|some en=>Mod.a x ⟨en.gen, .dead,en.ty,[]⟩::aX σ r|none=>aX σ r):=rfl
  rw[hdef]at hm;split at hm
  ·exact II
  ·exact ih m hm
theorem bG6{v:Value}{y:V}(hf:sS y=true)(h:Rv w G v y):Rv w G' v y:=by
 cases y with
 |lit u=>rw[h.bH];exact .lit u h.aZ3
 |agg cs=>
  have hf':allR bR6 cs=true:=hf;rw[dY]at hf';obtain⟨vs,e1,e2,e3,e4⟩:=h.zV;rw[e1];refine .agg vs cs e2 e3 fun i c x hc hx=>?_;have:=hf' x (List.mem_of_getElem? hx)
  cases x with
  |lit u=>have:=e4 i c _ hc hx;rw[this.bH];exact .lit u this.aZ3
  |_=>simp[bR6]at this
 |_=>simp[sS]at hf
theorem cZ3{ks:List Nat}{k g:Nat}(h:reuse σ ks=some (k,g)):∃en,σ.ar k=some en/\g=en.gen+1:=by
 unfold reuse at h;split at h
 ·split at h
  ·rename_i en hen
   cases h;exact⟨en,hen,rfl⟩
  ·cases h
 ·cases h
theorem cA5{y:V}(h:sS y=true):linear y=false:=by cases y<;>first|rfl|(simp[sS]at h)
theorem aW9{y:V}(h:aH7 y=true)(hn:∀rs,y= .tup rs->False):sS y=true:=by
 cases y with
 |tup rs=>exact(hn rs rfl).elim
 |lit u=>rfl
 |agg cs=>exact h
 |_=>simp[aH7]at h
set_option maxHeartbeats 800000 in
theorem bO8(inv:Inv T Φ σ a w G){light lend:Bool}{f:FuncId}{us:List Value}{xs:List V}(hul:us.length=xs.length)(hrel:∀(i:Nat) v x,us[i]? =some v->xs[i]? =some x->Rv w G v x/\x.ok σ.hasB σ.hasA){ys:List V}{r:V}{X:Value->Array Value->World->Gh->Prop}(hgive:iQ T σ.ar ys xs)(hcok:sO light lend xs ys r=true)
 (hspec:dY8 T P f ys r X):
 Calls P f us.toArray w fun e w1=>∃v G1 G2,e= .returned v/\(Rr T w1 G1 v r/\X v us.toArray w1 G1)/\Inv T Φ (σ.apps (cond lend [] (aV σ (bK ys xs))++aX σ (bD ys xs))) a w1 G2/\
  (∀j' b,G1.O b= .ar j'->G2.O b= .ext/\Φ.mine b/\b<w1.heap.size)/\(lend=false->Keep w1 w1 G1 G2)/\
  (∀k,(σ.apps (cond lend [] (aV σ (bK ys xs))++aX σ (bD ys xs))).ar k=if k∈bD ys xs then(σ.ar k).map bJ2 else if lend=false/\k∈bK ys xs then(σ.ar k).map frzE else σ.ar k)/\
  (∀k en,σ.ar k=some en->∃en2,(σ.apps (cond lend [] (aV σ (bK ys xs))++aX σ (bD ys xs))).ar k=some en2/\en2.gen=en.gen)/\G2.av=G.av:=by
 obtain⟨hcall,hspec⟩:=hspec;obtain⟨hlen,hg⟩:=qM hgive;simp only[sO,iR,Bool.and_eq_true]at hcok;obtain⟨⟨⟨⟨hnd,hdisj⟩,hle⟩,hflat⟩,_⟩:=hcok;have hnd:=uU.1 hnd
 have hdisj:∀k∈bD ys xs,k∉bK ys xs:=fun k hk hm=>by
  have:=dY.1 hdisj k hk;rw[pM.2 hm]at this;simp at this
 generalize hok:bD ys xs=ok at*;generalize hvk:bK ys xs=vk at*;have hlen1:ok.length<=1:=by rw[iL]at hle;simpa using hle
 let pos:Nat->Nat:=fun k=> @dite _ (∃j,zW xs ys j k) (Classical.propDecidable _) (fun h=>h.choose) (fun _=>0)
 have hpos:∀ {j k},zW xs ys j k->pos k=j:=by
  intro j k hp;exact Nz
 let Gc:Gh:={G with O:=fun b=>match G.O b with| .fz=> .fz| .ar k=>if k∈vk then .fz else if k∈ok then .ar (pos k)else .ext|_=> .ext}
 have c_fz:∀b,G.O b= .fz->Gc.O b= .fz:=fun b hb=>BA;have c_bx:∀b i,G.O b= .bx i->Gc.O b= .ext:=fun b i hb=>BA
 have c_ext:∀b,G.O b= .ext->Gc.O b= .ext:=fun b hb=>BA;have c_vk:∀b k,G.O b= .ar k->k∈vk->Gc.O b= .fz:=fun b k hb hk=>Df
 have c_ok:∀b k,G.O b= .ar k->k∈ok->Gc.O b= .ar (pos k):=fun b k hb hk=>IZ;have c_no:∀b k,G.O b= .ar k->k∉vk->k∉ok->Gc.O b= .ext:=fun b k hb h1 h2=>by simp only[Gc];rw[hb];simp[h1,h2]
 have c_inv:∀b,Gc.O b= .fz->G.O b= .fz\/∃k∈vk,G.O b= .ar k:=by
  intro b hb
  cases hO:G.O b with
  |ext=>rw[c_ext b hO]at hb;cases hb
  |fz=>exact .inl rfl
  |bx i=>rw[c_bx b i hO]at hb;cases hb
  |ar k=>
   by_cases h1:k∈vk
   ·exact .inr ⟨k,h1,rfl⟩
   ·exact JI
 have c_ar:∀b j,Gc.O b= .ar j->∃k∈ok,G.O b= .ar k:=by
  intro b j hb
  cases hO:G.O b with
  |ext=>rw[c_ext b hO]at hb;cases hb
  |fz=>rw[c_fz b hO]at hb;cases hb
  |bx i=>rw[c_bx b i hO]at hb;cases hb
  |ar k=>
   by_cases h1:k∈vk
   ·rw[c_vk b k hO h1]at hb;cases hb
   ·by_cases h2:k∈ok
    ·exact⟨k,h2,rfl⟩
    ·rw[c_no b k hO h1 h2]at hb;cases hb
 have hkc:Keep w w G Gc:=⟨c_fz,fun _ _=>rfl⟩;have htagc:∀b,Gc.O b≠ .ext->b<w.heap.size:=fun b hb=>inv.tag b (fun hO=>hb (c_ext b hO))
 have hbxc:∀b i,Gc.O b≠ .bx i:=fun b i hb=>by
  cases hO:G.O b with
  |ext=>rw[c_ext b hO]at hb;cases hb
  |fz=>rw[c_fz b hO]at hb;cases hb
  |bx j=>rw[c_bx b j hO]at hb;cases hb
  |ar k=>
   by_cases h1:k∈vk
   ·rw[c_vk b k hO h1]at hb;cases hb
   ·exact JI
 have hargs:∀(j:Nat) v y,us.toArray[j]? =some v->ys[j]? =some y->Rb T w Gc j v y:=by
  intro j v y hv hy;have hj:j<xs.length:=DZ;have hx:xs[j]? =some xs[j] :=List.getElem?_eq_getElem hj
  obtain⟨e1,e2⟩:=hrel j v _ AZ hx;refine aJ2 inv hkc (hg j _ y hx hy) e1 e2 (fun hl k hk b hb=>?_) (fun hl k hk b hb=>?_)
  ·exact c_vk b k hb EW
  ·have hkok:k∈ok:=by rw[<-hok];exact oZ.2 ⟨j,_,y,hx,hy,hl,hk⟩
   rw[c_ok b k hb hkok];rw[hpos ⟨_,y,hx,hy,hl,hk⟩]
 have hlay:T.lay w (fun b=>Gc.O b= .fz):=T.lay_mono (fun b hb=>⟨c_fz b (inv.F0 b hb),inv.frame b (inv.lay.2 b hb).1 (inv.lay.2 b hb).2⟩) inv.lay.1;refine(hspec w Gc us.toArray (by rw[<-hlen,<-hul];simp) htagc hbxc hargs hlay).mono ?_
 rintro e w1 ⟨v,G1,rfl,hres,r1,r2,r3,r4,r5,r6,r7,r8,r9⟩;have hlt:∀b,G.O b≠ .ext->b<w.heap.size:=inv.tag
 have same:∀b,b<w.heap.size->(∀k,G.O b= .ar k->k∉ok)->w1.heap[b]? =w.heap[b]? :=fun b hb hh=>r5 b hb (fun j hj=>by
  obtain⟨k,h1,h2⟩:=c_ar b j hj;exact hh k h2 h1)
 have g1_old:∀b,b<w.heap.size->Gc.O b= .ext->G1.O b= .ext:=by
  intro b hb hc
  cases hO:G1.O b with
  |ext=>rfl
  |_=>
   exfalso;rcases r4 b FO with⟨h1,_⟩|h1|⟨j,h1⟩
   ·rw[hc]at h1;cases h1
   ·omega
   ·rw[hc]at h1;cases h1
 let lent:Nat->Prop:=fun b=>lend=true/\∃k∈vk,G.O b= .ar k
 let G2:Gh:={G with O:=fun b=> @ite _ (G1.O b= .fz/\¬lent b) (Classical.propDecidable _) .fz (match G.O b with| .bx i=> .bx i| .ar k=>if k∈ok then .ext else .ar k|_=> .ext)}
 have d_fz:∀b,G1.O b= .fz->¬lent b->G2.O b= .fz:=fun b h1 h2=>by simp only[G2];rw[if_pos ⟨h1,h2⟩]
 have d_else:∀b,¬(G1.O b= .fz/\¬lent b)->G2.O b=(match G.O b with| .bx i=> .bx i| .ar k=>if k∈ok then .ext else .ar k|_=> .ext):=fun b h=>by simp only[G2];rw[if_neg h]
 have d_Gfz:∀b,G.O b= .fz->G2.O b= .fz:=fun b hb=>d_fz b (r1 b (c_fz b hb)) (by rintro⟨_,k,_,h2⟩;rw[hb]at h2;cases h2)
 have d_bx:∀b i,G.O b= .bx i->G2.O b= .bx i:=fun b i hb=>by
  have hne:¬(G1.O b= .fz/\¬lent b):=by rintro⟨h1,_⟩;rw[g1_old b (hlt b Au) (c_bx b i hb)]at h1;cases h1
  rw[d_else b hne,hb]
 have d_ar:∀b k,G.O b= .ar k->k∉ok->(lend=true\/k∉vk)->G2.O b= .ar k:=fun b k hb h1 h2=>by
  have hne:¬(G1.O b= .fz/\¬lent b):=by
   rintro⟨q1,q2⟩;by_cases hv:k∈vk
   ·rcases h2 with h2|h2
    ·exact q2 ⟨h2,k,hv,hb⟩
    ·exact h2 hv
   ·rw[g1_old b (hlt b Au) (c_no b k hb hv h1)]at q1;cases q1
  rw[d_else b hne,hb];simp[h1]
 have hkeep:Keep w w1 G G2:=⟨d_Gfz,fun b hb=>same b (hlt b Au) (fun k hk=>by rw[hb]at hk;cases hk)⟩
 let fm:List Mod:=cond lend [] (aV σ vk)
 let dm:List Mod:=aX σ ok
 have hmA:∀m∈fm++dm,∃k en,m= .a k en:=by
  intro m hm;rcases List.mem_append.1 hm with hm|hm
  ·cases hl:lend with
   |true=>simp only[fm,hl,cond_true]at hm;cases hm
   |false=>simp only[fm,hl,cond_false]at hm;exact bF7 σ vk m hm
  ·exact aS3 σ ok m hm
 have hbx2:(σ.apps (fm++dm)).bx=σ.bx:=aR5 σ _ hmA
 have har1:∀k,(σ.apps fm).ar k=if lend=false/\k∈vk then(σ.ar k).map frzE else σ.ar k:=by
  intro k
  cases hl:lend with
  |true=>simp only[fm,hl,cond_true];simp[St.apps]
  |false=>
   simp only[fm,hl,cond_false];rw[cH2 σ σ vk (fun _=> .inl rfl) k];simp
 have har2:∀k,(σ.apps (fm++dm)).ar k=if k∈ok then(σ.ar k).map bJ2 else if lend=false/\k∈vk then(σ.ar k).map frzE else σ.ar k:=by
  intro k;rw[dO,bP7 σ (σ.apps fm) ok (fun k' hk' hn=>by rw[har1,hn];simp) k,har1]
 have hgen:∀k en,σ.ar k=some en->∃en2,(σ.apps (fm++dm)).ar k=some en2/\en2.gen=en.gen:=by
  intro k en hen;exact OD
 have hA2:∀k g,σ.hasA k g->(σ.apps (fm++dm)).hasA k g:=fun k g ⟨en,h1,h2⟩=>by
  exact O4
 have inv2:Inv T Φ (σ.apps (fm++dm)) a w1 G2:=by
  refine inv.change (vM σ _) hkeep (fun _ _=>rfl) (fun _ _ _=>rfl) (fun i hi=>by obtain⟨x,hx⟩:=hi;exact⟨x,by rw[hbx2];exact hx⟩) hA2 ?_ ?_ ?_ ?_ ?_ r6 r7 r8 r9
  ·intro i cs hi
   rw[hbx2]at hi;obtain⟨c,t,q1,q2,q3⟩:=inv.box i cs hi;exact .inl ⟨hi,d_bx _ i q3,same _ (hlt _ FP) (fun k hk=>by rw[q3]at hk;cases hk)⟩
  ·intro k en hen
   rw[har2]at hen;by_cases hk1:k∈ok
   ·exact IK
   ·rw[if_neg hk1]at hen
    by_cases hk2:lend=false/\k∈vk
    ·rw[if_pos hk2]at hen
     cases hs:σ.ar k with
     |none=>rw[hs]at hen;cases hen
     |some en0=>
      rw[hs]at hen;simp at hen;have hp:=inv.wfA k en0 hs;have hokk:=inv.arr k en0 hs
      have hfzb:∀b,G.O b= .ar k->G2.O b= .fz:=fun b hb=>d_fz b (r1 b (c_vk b k hb hk2.2)) (by rintro⟨h1,_⟩;rw[hk2.1]at h1;cases h1)
      have own:∀ {ty},gJ T w G k (G.av k en0.gen) ty en0.l->Rv w1 G2 (G.av k en0.gen) (.sl en0.l):=by
       intro ty hown;rcases hown with⟨e1,e2⟩|⟨b,cap,cur,e1,e2,e3,e4,e5,e6,e7,e8⟩
       ·rw[e2];exact bA2 e1
       ·obtain⟨cc,q1,q2⟩:=(e8.here e3).out
        rw[e1];refine .slS _ cap en0.l _ cc e4 e5 (fun _=>hfzb b e2) e7 (fun j y hy=>?_) (fun j y hy=>(q2 j y hy).aW hkeep (dF hp hy));refine⟨?_,(q1 j y hy).2⟩;rw[<-(q1 j y hy).1];exact World.cell?_of_block (by rw[add_block];exact same b (hlt b (by rw[e2];simp)) (fun k' hk'=>by rw[e2]at hk';cases hk';exact hk1))
      exact LD
    ·rw[if_neg hk2]at hen
     refine .inl ⟨hen,fun b hb=>⟨d_ar b k hb hk1 ?_,same b (hlt b Au) (fun k' hk'=>by rw[hb]at hk';cases hk';exact hk1)⟩⟩
     cases hl:lend with
     |true=>exact .inl rfl
     |false=>exact .inr (fun hv=>hk2 ⟨hl,hv⟩)
  ·intro b hb
   by_cases hc:G1.O b= .fz/\¬lent b
   ·exact r2 b (by rw[hc.1];simp)
   ·exact J5
  ·intro b
   by_cases hc:G1.O b= .fz/\¬lent b
   ·rcases r4 b (by rw[hc.1];simp)with⟨h1,_⟩|h1|⟨j,h1⟩
    ·rcases c_inv b h1 with h2|⟨k,h2,h3⟩
     ·exact .inl (by rw[d_fz b hc.1 hc.2,h2])
     ·exact .inr (.inr (inv.mineA b k h3))
    ·exact .inr (.inr (.inl (Nat.le_trans inv.size h1)))
    ·obtain⟨k,_,h3⟩:=c_ar b j h1
     exact .inr (.inr (inv.mineA b k h3))
   ·exact IJ
  ·intro b
   rcases Nat.lt_or_ge b w.heap.size with hb|hb
   ·by_cases hh:∃k∈ok,G.O b= .ar k
    ·obtain⟨k,_,h2⟩:=hh
     exact .inr (inv.mineA b k h2)
    ·exact .inl (same b hb (fun k hk hm=>hh ⟨k,hm,hk⟩))
   ·exact .inr (.inl (Nat.le_trans inv.size hb))
 have hpend:∀j' b,G1.O b= .ar j'->G2.O b= .ext/\Φ.mine b/\b<w1.heap.size:=by
  intro j' b hb;have hne:¬(G1.O b= .fz/\¬lent b):=by rintro⟨h1,_⟩;rw[hb]at h1;cases h1
  have hsz:=r2 b Au;rcases r4 b Au with⟨_,h1⟩|h1|⟨j,h1⟩
  ·rw[hb]at h1;cases h1
  ·exact JC
  ·obtain⟨k,h2,h3⟩:=c_ar b j h1
   exact⟨by rw[d_else b hne,h3];simp[h2],inv.mineA b k h3,hsz⟩
 have hkx:lend=false->Keep w1 w1 G1 G2:=fun hl=>⟨fun b hb=>d_fz b hb (by rintro⟨h1,_⟩;rw[hl]at h1;cases h1),fun _ _=>rfl⟩
 exact⟨v,G1,G2,rfl,hres,inv2,hpend,hkx,har2,hgen,rfl⟩
set_option maxHeartbeats 800000 in
theorem eJ8(inv:Inv T Φ σ a w G){light lend:Bool}{f:FuncId}{us:List Value}{xs:List V}(hul:us.length=xs.length)(hrel:∀(i:Nat) v x,us[i]? =some v->xs[i]? =some x->Rv w G v x/\x.ok σ.hasB σ.hasA){ys:List V}{r:V}(hgive:iQ T σ.ar ys xs)(hcok:sO light lend xs ys r=true)(hspec:Spec T P f ys r)
 (hrecv:zZ σ d (reuse σ (bD ys xs)) r fun v ms=>K v (appR (cond lend [] (aV σ (bK ys xs))) (appR (aX σ (bD ys xs)) ms))):
 Calls P f us.toArray w fun e w'=>∃v',e= .returned v'/\∃v ms G',K v ms/\Inv T Φ (σ.apps ms) a w' G'/\Rv w' G' v' v/\v.ok (σ.apps ms).hasB (σ.apps ms).hasA:=by
 refine(bO8 inv hul hrel hgive hcok hspec.x).mono ?_;rintro e w1 ⟨v,G1,G2,rfl,⟨hres,_⟩,inv2,hpend,hkx,har2,hgen,hav⟩;refine⟨v,rfl,?_⟩;simp only[sO,iR,Bool.and_eq_true]at hcok;obtain⟨⟨⟨⟨hnd,hdisj⟩,hle⟩,hflat⟩,_⟩:=hcok;generalize hok:bD ys xs=ok at*;generalize hvk:bK ys xs=vk at*
 let fm:List Mod:=cond lend [] (aV σ vk)
 let dm:List Mod:=aX σ ok
 have hfresh:∀j',0<=j'->σ.ar (d+1000*j')=none->(σ.apps (fm++dm)).ar (d+1000*j')=none:=fun j' _ hn=>by rw[har2,hn];simp
 have hro:∀k g,reuse σ ok=some (k,g)->(∀g',(σ.apps (fm++dm)).hasA k g'->g'<g)/\∀j',σ.ar (d+1000*j')=none->k≠d+1000*j':=by
  intro k g hre;obtain⟨en,hen,rfl⟩:=cZ3 hre;refine⟨fun g' ⟨en2,q1,q2⟩=>?_,fun j' hn e=>DJ⟩;obtain⟨en3,q3,q4⟩:=hgen k en hen;rw[q3]at q1;cases q1;omega
 have hms:∀ms,σ.apps (appR (cond lend [] (aV σ vk)) (appR (aX σ ok) ms))=(σ.apps (fm++dm)).apps ms:=fun ms=>by
  rw[bT,bT,<-List.append_assoc,dO]
 have common:∀(rs:List V) (us:List Value),us.length=rs.length->(∀(i:Nat) u y,us[i]? =some u->rs[i]? =some y->Rb T w1 G1 i u y)->(lend=true->∀y∈rs,sS y=true)->∀(K':List V->List Mod->Prop),uF σ d rs 0 (reuse σ ok) K'->
  ∃vs ms G',K' vs ms/\Inv T Φ ((σ.apps (fm++dm)).apps ms) a w1 G'/\vs.length=rs.length/\(∀(i:Nat) u v,us[i]? =some u->vs[i]? =some v->Rv w1 G' u v/\v.ok ((σ.apps (fm++dm)).apps ms).hasB ((σ.apps (fm++dm)).apps ms).hasA):=by
  intro rs us hul hrb hfl K' hrec
  obtain⟨vs,ms,G',b1,b2,b3,b4,_⟩:=cO6 (Gx:=G1) (σ0:=σ) rs 0 (reuse σ ok) (σ.apps (fm++dm)) G2 us K' inv2 hfresh hro hul
   (fun i u y hu hy _=>Fe)
   (fun i u y hu hy hl=>by
    have hb:=hrb i u y hu hy
    have hb':y.pure/\Rv w1 G1 u y:=by
     unfold Rb at hb;split at hb
     ·simp[linear]at hl
     ·simp[linear]at hl
     ·exact hb
    refine⟨?_,hb'.1⟩
    cases hle2:lend with
    |true=>exact bG6 (hfl hle2 y (List.mem_of_getElem? hy)) hb'.2
    |false=>exact hb'.2.aW (hkx hle2) hb'.1)
   (fun⟨y,hy,hl⟩=>by
    cases hle2:lend with
    |true=>rw[cA5 (hfl hle2 y hy)]at hl;cases hl
    |false=>exact hkx hle2)
   (fun j' b _ hb=>hpend j' b hb) hrec
  exact⟨vs,ms,G',b1,b2,b3,b4⟩
 unfold zZ at hrecv;split at hrecv
 ·rename_i rs
  obtain⟨vs',e1,e2,eo,e3⟩:∃vs:Array Value,v= .agg vs/\vs.size=rs.length/\(∀c∈vs,c.oneCell'=true)/\∀(j:Nat) u y,vs[j]? =some u->rs[j]? =some y->Rb T w1 G1 j u y:=hres
  obtain⟨vs,ms,G',b1,b2,b3,b4⟩:=common rs vs'.toList F5 (fun i u y hu hy=>e3 i u y AX hy)
   (fun hl y hy=>by rw[hl]at hflat;exact Bool.noConfusion (show false=true from hflat)) _ hrecv
  refine⟨.agg vs,_,G',b1,by rw[hms];exact b2,?_,?_⟩
  ·rw[e1]
   refine .agg vs' vs (by rw[e2,b3]) eo fun i c x hc hx=>(b4 i c x BZ hx).1
  ·exact IE
 ·rename_i rs hnb
  obtain⟨vs',e1,e2,e3⟩:∃vs:Array Value,v= .tuple vs/\vs.size=rs.length/\∀(j:Nat) u y,vs[j]? =some u->rs[j]? =some y->Rb T w1 G1 j u y:=by
   unfold Rr at hres;split at hres
   ·rename_i q;cases q;exact(hnb _ rfl).elim
   ·rename_i q;cases q;exact hres
   ·rename_i _ q;exact(q _ rfl).elim
  obtain⟨vs,ms,G',b1,b2,b3,b4⟩:=common rs vs'.toList F5 (fun i u y hu hy=>e3 i u y AX hy)
   (fun hl y hy=>by rw[hl]at hflat;exact dY.1 (hflat:allR sS rs=true) y hy) _ hrecv
  refine⟨.tup vs,_,G',b1,by rw[hms];exact b2,?_,?_⟩
  ·exact Ku
  ·exact IE
 ·rename_i hnb hnt
  have hres':Rb T w1 G1 0 v r:=by
   unfold Rr at hres;split at hres
   ·exact(hnb _ rfl).elim
   ·exact(hnt _ rfl).elim
   ·exact hres
  obtain⟨vs,ms,G',b1,b2,b3,b4⟩:=common [r] [v] rfl (fun i u y hu hy=>by
   cases i with
   |zero=>simp at hu hy;subst hu;subst hy;exact hres'
   |succ i=>simp at hu)
   (fun hl y hy=>by
    simp at hy;subst hy;rw[hl]at hflat;have hf:aH7 y=true:=hflat;exact aW9 hf hnt) _ hrecv
  match vs,b3 with
  | [x],_=>
    obtain⟨q1,q2⟩:=b4 0 v x rfl rfl;exact⟨x,_,G',b1,by rw[hms];exact b2,q1,by rw[hms];exact q2⟩
set_option maxHeartbeats 800000 in
theorem eO2(inv:Inv T Φ σ a w G){f:FuncId}{us:List Value}{xs:List V}(hul:us.length=xs.length)(hrel:∀(i:Nat) v x,us[i]? =some v->xs[i]? =some x->Rv w G v x/\x.ok σ.hasB σ.hasA){ys:List V}{r:V}{j k g:Nat}{e:TypeId}{l l':List V}(hgive:iQ T σ.ar ys xs)(hcok:sO false false xs ys r=true)(hspec:bE5 T P f ys r j e l')
 (hy:ys[j]? =some (.own e l))(hx:xs[j]? =some (.arr k g))(hfl:aH7 r=true)
 (hk:K r (appR (aV σ (bK ys xs)) (appR (aX σ (bD ys xs)) [.a k ⟨g, .own,e,l'⟩]))):
 Calls P f us.toArray w fun e w'=>∃v',e= .returned v'/\∃v ms G',K v ms/\Inv T Φ (σ.apps ms) a w' G'/\Rv w' G' v' v/\v.ok (σ.apps ms).hasB (σ.apps ms).hasA:=by
 refine(bO8 (lend:=false) inv hul hrel hgive hcok hspec).mono ?_;obtain⟨hlen,hg⟩:=qM hgive;have hgv:=hg j _ _ hx hy;have hj:j<us.length:=by rw[hul];exact(List.getElem?_eq_some_iff.1 hx).1
 have hgiv:∃en,σ.ar k=some en/\en.gen=g/\en.kind= .own/\en.ty=e/\en.l=l:=by
  have h':(match σ.ar k with
   |some en=>en.gen=g/\en.kind= .own/\en.ty=e/\en.l=l
   |none=>False):=hgv
  cases hk':σ.ar k with
  |none=>rw[hk']at h';exact h'.elim
  |some en=>rw[hk']at h';exact⟨en,rfl,h'⟩
 obtain⟨en,hen,hgen0,hkind,hty,hl0⟩:=hgiv
 have harg:us.toArray.getD j undef=G.av k g:=by
  have h1:=(hrel j us[j] _ (List.getElem?_eq_getElem hj) hx).1;have h3:us.toArray.getD j undef=us[j] :=Gz
  rw[h3,h1.oQ]
 have he:e<T.n e:=by
  have h1:=inv.arr k en hen;unfold gW at h1;rw[hkind]at h1;rw[<-hty];exact h1.1
 have hko:k∈bD ys xs:=oZ.2 ⟨j,_,_,hx,hy,rfl,by simp[jQ]⟩
 rintro ex w1 ⟨v,G1,G2,rfl,⟨hres,hpl,tg,hio⟩,inv2,hpend,hkx,har2,hgen,hav⟩;have hkp:=hkx rfl;rw[harg]at hio;simp only[cond_false]at inv2 har2 hgen;generalize hσ2:σ.apps (aV σ (bK ys xs)++aX σ (bD ys xs))=σ2 at*
 have hmods:σ.apps (appR (aV σ (bK ys xs)) (appR (aX σ (bD ys xs)) [.a k ⟨g, .own,e,l'⟩]))=σ2.apps [.a k ⟨g, .own,e,l'⟩] :=by
  rw[bT,bT,<-List.append_assoc,dO,hσ2]
 let O':Nat->Tag:=fun b=>match G1.O b with| .ar i=>if i=tg then .ar k else G2.O b|_=>G2.O b
 have hO1:∀b,G1.O b≠ .ar tg->O' b=G2.O b:=by
  intro b hb;show(match G1.O b with| .ar i=>if i=tg then Tag.ar k else G2.O b|_=>G2.O b)=_
  cases h:G1.O b with
  |ar i=>have:i≠tg:=by rintro rfl;exact hb h
         simp[this]
  |_=>rfl
 have hO2:∀b,G1.O b= .ar tg->O' b= .ar k:=by
  intro b hb;show(match G1.O b with| .ar i=>if i=tg then Tag.ar k else G2.O b|_=>G2.O b)=_
  rw[hb];simp
 have hkO:Keep w1 w1 G1 {G2 with O:=O'}:=⟨fun b hb=>(hO1 b Au).trans (hkp.fz b hb),fun _ _=>rfl⟩
 have inv3:Inv T Φ (σ2.apps [.a k ⟨g, .own,e,l'⟩]) a w1 {G2 with av:=G2.av,O:=O'}:=by
  refine inv2.zU (w':=w1) (k:=k) (en:=⟨g, .own,e,l'⟩) (av':=G2.av) (O':=O') ?_ (fun _ _ _=>rfl) hpl ?_ ?_ ?_ (fun _ _ _=>rfl) (Nat.le_refl _) rfl rfl rfl
  ·rintro g' ⟨en',q1,q2⟩
   obtain⟨en2,q3,q4⟩:=hgen k en hen;rw[q3]at q1;cases q1;show g'<=g;omega
  ·unfold gW
   refine⟨he,?_⟩;show gJ T w1 {G2 with av:=G2.av,O:=O'} k (G2.av k g) e l';have hav':G2.av k g=G.av k g:=by rw[hav]
   rw[hav'];rcases hio with h|⟨b,cap,cur,h1,h2,h3,h4,h5,h6,h7,h8⟩
   ·exact .inl h
   ·refine .inr ⟨b,cap,cur,h1,hO2 b h2,h3,h4,h5,h6,h7,h8.keep hkO (p:=fun _=>False) (q:=fun _ _=>False) ?_ (fun _ h=>h.elim) (fun _ _ h=>h.elim)⟩
    refine aH.2 fun y hy=>?_;obtain⟨i,hi⟩:=List.getElem?_of_mem hy;exact dF hpl hi
  ·intro b hb hb2
   by_cases h:G1.O b= .ar tg
   ·exact absurd (hpend tg b h).1 hb
   ·exact hO1 b h
  ·intro b
   by_cases h:G1.O b= .ar tg
   ·exact .inr (.inr (.inl ⟨hO2 b h,(hpend tg b h).2.1,(hpend tg b h).2.2⟩))
   ·exact .inl (hO1 b h)
 refine⟨v,rfl,r,_,_,hk,by rw[hmods];exact inv3,?_,?_⟩
 ·unfold Rr at hres
  split at hres
  ·exact Bool.noConfusion (show false=true from hfl)
  ·rename_i rs _
   obtain⟨vs,e1,e2,e3⟩:=hres;rw[e1];have hfl':allR sS rs=true:=hfl;refine .tup vs rs e2 fun i c x hc hx=>?_;have hfx:=dY.1 hfl' x (List.mem_of_getElem? hx)
   have hb:=e3 i c x hc hx
   have hb':x.pure/\Rv w1 G1 c x:=by
    unfold Rb at hb;split at hb
    ·simp[sS]at hfx
    ·simp[sS]at hfx
    ·exact hb
   exact bG6 hfx hb'.2
  ·rename_i hnt
   have hfx:=aW9 hfl hnt
   have hb':r.pure/\Rv w1 G1 v r:=by
    unfold Rb at hres;split at hres
    ·simp[sS]at hfx
    ·simp[sS]at hfx
    ·exact hres
   exact bG6 hfx hb'.2
 ·have flat_ok:∀ {x:V},sS x=true->∀p q,x.ok p q:=by
   intro x hx p q
   cases x with
   |lit u=>simp only[V.ok]
   |agg cs=>
    simp only[V.ok];refine aH.2 fun y hy=>?_;have:=dY.1 (hx:allR bR6 cs=true) y hy
    cases y with
    |lit u=>simp only[V.ok]
    |_=>simp[bR6]at this
   |_=>simp[sS]at hx
  cases r with
  |tup rs=>
   simp only[V.ok];refine aH.2 fun x hx=>flat_ok (dY.1 (hfl:allR sS rs=true) x hx) _ _
  |lit u=>simp only[V.ok]
  |agg cs=>exact flat_ok (x:= .agg cs) hfl _ _
  |_=>simp[aH7]at hfl
set_option maxHeartbeats 800000 in
theorem call_new(inv:Inv T Φ σ a w G){f:FuncId}{us:List Value}{xs:List V}(hul:us.length=xs.length)(hrel:∀(i:Nat) v x,us[i]? =some v->xs[i]? =some x->Rv w G v x/\x.ok σ.hasB σ.hasA){ys:List V}{cells:List V}(hgive:iQ T σ.ar ys xs)(hcok:sO false false xs ys .bot=true)(hspec:SpecN T P f ys cells)
 (hd:σ.bx d=none)(hk:K (.box d 0) (appR (aV σ (bK ys xs)) (appR (aX σ (bD ys xs)) [.b d cells]))):
 Calls P f us.toArray w fun e w'=>∃v',e= .returned v'/\∃v ms G',K v ms/\Inv T Φ (σ.apps ms) a w' G'/\Rv w' G' v' v/\v.ok (σ.apps ms).hasB (σ.apps ms).hasA:=by
 refine(bO8 (lend:=false) inv hul hrel hgive hcok hspec).mono ?_;rintro ex w1 ⟨v,G1,G2,rfl,⟨hres,hpl,b,c,t,j,rfl,hb,hh,hr⟩,inv2,hpend,hkx,har2,hgen,hav⟩;have hkp:=hkx rfl;obtain⟨hext,hmine,hlt⟩:=hpend j b hb;simp only[cond_false]at inv2
 have hbx2:(σ.apps (aV σ (bK ys xs)++aX σ (bD ys xs))).bx d=none:=by
  rw[aR5 σ _ (fun m hm=>by
   rcases List.mem_append.1 hm with hm|hm
   ·exact bF7 σ _ m hm
   ·exact aS3 σ _ m hm)]
  exact hd
 have hmods:σ.apps (appR (aV σ (bK ys xs)) (appR (aX σ (bD ys xs)) [.b d cells]))=(σ.apps (aV σ (bK ys xs)++aX σ (bD ys xs))).apps [.b d cells] :=by
  rw[bT,bT,<-List.append_assoc,dO]
 have hr2:RvL w1 G2 c.toList cells:=hr.keep hkp (p:=fun _=>False) (q:=fun _ _=>False) hpl (fun _ h=>h.elim) (fun _ _ h=>h.elim);have inv3:=inv2.takeBox hbx2 hext hmine hlt hh hr2 (V.okL.imp (fun _ h=>h.elim) (fun _ _ h=>h.elim) _ hpl)
 refine⟨_,rfl, .box d 0,_,_,hk,by rw[hmods];exact inv3,?_,?_⟩
 ·have:=Rv.box (w:=w1) (G:={G2 with β:=upd G2.β d b,O:=upd G2.O b (.bx d)}) d 0
  simp only[upd_same]at this;exact this
 ·rw[hmods]
  simp only[V.ok];exact⟨cells,upd_same _ _ _⟩
end
end Go.Ab
