/-
  Canonical shapes: as the program and as the reference make them.
-/
import Derived.Test.YtkhhdojgbkophaaGreatQB18
set_option linter.unusedVariables false
set_option linter.unusedSimpArgs false
set_option maxRecDepth 100000
set_option maxHeartbeats 8000000
noncomputable section
namespace Go.Proofs.Led
open Go Go.Proofs Go.Ab
theorem fV3{O:List Vc}{k:Nat}(h:k<O.length):O.getD k z0=O[k] :=Eh
theorem gE8{a b:Vc}(h1:¬kF a b)(h2:¬kF b a):a=b:=by
 by_cases h:a=b
 ·exact h
 ·exact absurd (fK0 h1 h) h2
theorem fL2:∀(l:List Vc) (m:Vc),¬kF m (sQ m l)/\∀x∈l,¬kF x (sQ m l)
 | [],m=>⟨(fun h=>fJ8 h h),(fun x hx=>IX)⟩
 |y::l,m=>by
  obtain⟨h1,h2⟩:=fL2 l (open Classical in if kF y m then y else m)
  have e:sQ m (y::l)=sQ (open Classical in if kF y m then y else m) l:=rfl
  rw[e];refine⟨?_,fun x hx=>?_⟩
  ·by_cases q:kF y m
   ·rw[if_pos q]at h1⊢
    exact fun h=>h1 (fD9 q h)
   ·rw[if_neg q]at h1⊢
    exact h1
  ·rcases List.mem_cons.1 hx with rfl|hx
   ·by_cases q:kF x m
    ·rw[if_pos q]at h1⊢
     exact h1
    ·rw[if_neg q]at h1⊢
     intro h;by_cases q2:x=m
     ·subst q2;exact h1 h
     ·exact h1 (fD9 (fK0 q q2) h)
   ·exact h2 x hx
theorem fL5{v:Vc}:∀ {l:List Vc} {j k:Nat},l[j]? =some v->(∀i,i<j->l[i]? ≠some v)->sN v l k=some (k+j)
 | [],j,k,h,_=>FZ
 |x::l,j,k,h,hf=>by
  unfold sN
  cases j with
  |zero=>
   rw[List.getElem?_cons_zero]at h;rw[if_pos (Option.some.inj h).symm];rfl
  |succ j=>
   have h0:=hf 0 Aa;rw[List.getElem?_cons_zero]at h0;rw[if_neg (fun e=>h0 J5),fL5 (j:=j) (by rw[List.getElem?_cons_succ]at h;exact h) (fun i hi=>by have:=hf (i+1) (by omega);rw[List.getElem?_cons_succ]at this;exact this)]
   congr 1;omega
def gB7(r:Rg)(k:Nat):Prop:=k<r.length/\(∀j,j<r.length->¬kF (r.getD j z0) (r.getD k z0))/\∀j,j<k->r.getD j z0≠r.getD k z0
theorem fJ7{r:Rg}{k:Nat}(h:gB7 r k):wO r=r.getD k z0/\wL r=r.drop k++r.take k:=by
 obtain⟨h1,h2,h3⟩:=h;have hne:r≠ [] :=fun e=>by rw[e]at h1;simp at h1
 have hm:=eH8 hne;have hmin:∀x∈r,¬kF x (wO r):=MS
 have e:wO r=r.getD k z0:=by
  obtain⟨i,hi,q⟩:=List.mem_iff_getElem.1 hm;refine gE8 ?_ (hmin _ (aE1 h1));have:=h2 i hi;rw[fV3 hi,q]at this;exact this
 refine⟨e,?_⟩;unfold wL
 have ix:sN (wO r) r 0=some k:=by
  rw[e]
  have:=fL5 (v:=r.getD k z0) (l:=r) (j:=k) (k:=0) (getD_some h1) (fun i hi=>by
   rw[getD_some Aa];exact fun q=>h3 i hi (Option.some.inj q))
  rw[this];congr 1;omega
 rw[ix];rfl
theorem fY4:∀ {r:Rg},r≠ []->∃k,gB7 r k:=by
 intro r hne;have hm:=eH8 hne;have hmin:∀x∈r,¬kF x (wO r):=MS
 obtain⟨j,hj,hk0,hjl⟩:=aT6 (k:=0) hm
 have key:∀ {l:List Vc} {k j:Nat} {v:Vc},sN v l k=some j->k<=j/\l[j-k]? =some v/\∀i,i<j-k->l[i]? ≠some v:=by
  intro l
  induction l with
  |nil=>intro k j v h;cases h
  |cons x l ih=>
   intro k j v h;unfold sN at h;split at h
   ·rename_i e
    cases h;rw[Nat.sub_self];exact⟨Nat.le_refl _,by rw[List.getElem?_cons_zero,e],fun i hi=>Aa⟩
   ·rename_i e
    obtain⟨q1,q2,q3⟩:=ih h;refine⟨Aa,?_,fun i hi=>?_⟩
    ·rw[show j-k=(j- (k+1))+1 from Aa,List.getElem?_cons_succ];exact q2
    ·cases i with
     |zero=>rw[List.getElem?_cons_zero];exact fun q=>e (Option.some.inj q).symm
     |succ i=>rw[List.getElem?_cons_succ];exact q3 i Aa
 obtain⟨_,q2,q3⟩:=key hj;rw[Nat.sub_zero]at q2 q3;obtain⟨hlt,he⟩:=List.getElem?_eq_some_iff.1 q2;refine⟨j,hlt,fun i hi=>?_,fun i hi=>?_⟩
 ·rw[fV3 hlt,he];exact hmin _ (aE1 hi)
 ·rw[fV3 hlt,he]
  have:=q3 i hi;rw[getD_some Aa]at this;exact fun q=>this (by rw[q])
theorem fU0{r:Rg}(h:r≠ []):(wL r).getD 0 z0∈r:=by
 obtain⟨k,hk⟩:=fY4 h;rw[(fJ7 hk).2,List.getD_eq_getElem?_getD,List.getElem?_append_left (by rw[List.length_drop];have:=hk.1;omega),List.getElem?_drop,Nat.add_zero,List.getElem?_eq_getElem hk.1]
 exact List.getElem_mem _
def keyR(r:Rg):Vc:=r.getD 0 z0
def fA(h:Rg)(l:List Rg):Nat:=(l.takeWhile fun y=>decB (kF (keyR y) (keyR h))).length
def insH(h:Rg)(l:List Rg):List Rg:=l.take (fA h l)++h::l.drop (fA h l)
def srtH(l:List Rg):List Rg:=l.foldl (fun o h=>insH h o) []
def fP2(s:Sh):Sh:=⟨wL s.outer,srtH (s.holes.map wL)⟩
theorem fK1(D:List Rg)(x:Rg):srtH (D++[x])=insH x (srtH D):=by unfold srtH;rw[List.foldl_append];rfl
theorem fM8{α:Type}(p:α->Bool):∀l:List α,l.take (l.takeWhile p).length=l.takeWhile p/\(∀y,(l.drop (l.takeWhile p).length)[0]? =some y->p y=false)
 | [] =>⟨rfl,fun y h=>Ah⟩
 |x::l=>by
  obtain⟨h1,h2⟩:=fM8 p l;rw[List.takeWhile_cons];by_cases hx:p x=true
  ·rw[if_pos hx]
   refine⟨by rw[List.length_cons,List.take_succ_cons,h1],fun y hy=>?_⟩
   rw[List.length_cons,List.drop_succ_cons]at hy;exact h2 y hy
  ·rw[if_neg hx]
   refine⟨rfl,fun y hy=>?_⟩;cases hy;simpa using hx
theorem fT7{x:Rg}:∀ {B R:List Rg},(∀y∈B,cR x y<0)->insR cR x (B++R)=B++insR cR x R
 | [],R,_=>rfl
 |y::B,R,h=>by
  show(if cR x y<0 then y::insR cR x (B++R)else x::y::(B++R))=_
  rw[if_pos (h y Af),fT7 (fun z hz=>h z (by simp[hz]))]
  rfl
theorem gD0{x:Rg}:∀ {R:List Rg},(∀y∈R,¬cR x y<0)->insR cR x R=x::R
 | [],_=>rfl
 |y::R,h=>by
  show(if cR x y<0 then y::insR cR x R else x::y::R)=_
  rw[if_neg (h y Af)]
theorem gH0{x:Rg}{A:List Rg}(hs:A.Pairwise fun a b=>kF (keyR a) (keyR b))(hne:∀a∈A,keyR a≠keyR x):
 insH x A=(insR cR x A.reverse).reverse/\(insH x A).Pairwise (fun a b=>kF (keyR a) (keyR b)):=by
 obtain⟨h1,h2⟩:=fM8 (fun y=>decB (kF (keyR y) (keyR x))) A;have hA:A=A.take (fA x A)++A.drop (fA x A):=(List.take_append_drop _ _).symm
 have hlow:∀y∈A.take (fA x A),kF (keyR y) (keyR x):=fun y hy=>by
  unfold fA at hy;rw[h1]at hy;exact dH.1 (fU7 (p:=fun y=>decB (kF (keyR y) (keyR x))) hy)
 have hp:=List.pairwise_append.1 (hA▸hs)
 have hhi:∀y∈A.drop (fA x A),kF (keyR x) (keyR y):=by
  intro y hy;have hyA:y∈A:=List.mem_of_mem_drop hy
  cases hd:A.drop (fA x A)with
  |nil=>rw[hd]at hy;cases hy
  |cons z Z=>
   have hz0:=h2 z (by show(A.drop (fA x A))[0]? =_;rw[hd];rfl)
   have hzA:z∈A:=List.mem_of_mem_drop (show z∈A.drop (fA x A) by rw[hd];simp)
   have hz:kF (keyR x) (keyR z):=fK0 (dW.1 hz0) (hne z hzA);rw[hd]at hy;rcases List.mem_cons.1 hy with rfl|hy
   ·exact hz
   ·have q:=hp.2.1
    rw[hd]at q;exact fD9 hz ((List.pairwise_cons.1 q).1 y hy)
 constructor
 ·unfold insH
  conv=>rhs;rw[hA]
  rw[List.reverse_append,fT7,gD0]
  ·simp
  ·intro y hy
   have:=hlow y Ez;exact fun q=>fJ8 this q
  ·intro y hy
   exact hhi y Ez
 ·unfold insH
  refine List.pairwise_append.2 ⟨hp.1,List.pairwise_cons.2 ⟨hhi,hp.2.1⟩,fun a ha b hb=>?_⟩;exact SE
theorem fW9{x z:Rg}{A:List Rg}:z∈insH x A↔z=x\/z∈A:=by
 unfold insH;have e:A=A.take (fA x A)++A.drop (fA x A):=(List.take_append_drop _ _).symm;constructor
 ·intro q
  exact SI
 ·rintro(q|q)
  ·simp[q]
  ·rw[e]at q
   exact Uf
theorem fW6:∀(R D:List Rg),(D++R).Pairwise (fun a b=>keyR a≠keyR b)->(srtH D=(isR cR D).reverse/\(srtH D).Pairwise (fun a b=>kF (keyR a) (keyR b))/\∀z,z∈srtH D↔z∈D)->srtH (D++R)=(isR cR (D++R)).reverse
 | [],D,_,h=>by rw[List.append_nil];exact h.1
 |x::R,D,hp,⟨h1,h2,h3⟩=>by
  have hx:∀a∈srtH D,keyR a≠keyR x:=fun a ha=>by
   have:=(List.pairwise_append.1 hp).2.2 a ((h3 a).1 ha) x Af;exact this
  obtain⟨k1,k2⟩:=gH0 h2 hx;have e:D++x::R=(D++[x])++R:=Af;rw[e]at hp⊢;refine fW6 R (D++[x]) hp ⟨?_,by rw[fK1];exact k2,fun z=>?_⟩
  ·rw[fK1,eB2,k1,h1,List.reverse_reverse]
  ·rw[fK1,fW9,h3]
   simp[or_comm]
theorem fV8{s:Sh}(hs:bG s):fP2 s=qO s:=by
 have ho:dM s.outer:=hs.2.1 _ AA;have hh:∀r∈s.holes,dM r:=fun r hr=>hs.2.1 r DY
 rw[aN9 hs];unfold fP2 wW qA;have e1:s.holes.map gQ=s.holes.map wL:=List.map_congr_left (fun r hr=>bJ7 (hh r hr));rw[bJ7 ho,e1];congr 1
 have hpw:(s.holes.map wL).Pairwise (fun a b=>keyR a≠keyR b):=by
  rw[List.pairwise_map,List.pairwise_iff_getElem];intro i j hi hj hij q;have hap:=(cS9 hs hij (List.getElem?_eq_getElem hi) (List.getElem?_eq_getElem hj)).1;have ni:s.holes[i]≠ [] :=fun e=>by have:=hap.ob.1;rw[e]at this;simp at this
  have nj:s.holes[j]≠ [] :=fun e=>by have:=hap.oa.1;rw[e]at this;simp at this
  have k1:=fU0 ni;have k2:=fU0 nj
  unfold keyR at q;rw[q]at k1;exact hap.off (vert_onR hap.oa k2) (vert_onR hap.ob k1)
 have:=fW6 (s.holes.map wL) [] (by simpa using hpw) ⟨rfl,List.Pairwise.nil,fun z=>Iff.rfl⟩
 simpa using this
theorem gE1{a b:Sh}:rings a=rings b↔a=b:=by
 constructor
 ·intro h
  unfold rings at h;cases a;cases b;simp only[List.cons.injEq]at h;simp[h.1,h.2]
 ·rintro rfl;rfl
theorem fD(a b:Vc):Sp 256 [vcV a,vcV b] (vcV (vsub a b)):=by
 refine zsp Tryz.func256 ?_;exact Qg
theorem fR2(a b:Vc):Sp 355 [vcV a,vcV b] (I (vdot a b)):=by
 refine zsp Tryz.func355 ?_;exact Qg
theorem fF0(a b:Vc):Sp 204 [vcV a,vcV b] (I (bZ a b)):=by
 refine zsp Tryz.func204 ?_;exact Qg
theorem fO5(n:Int):Sp 303 [I n] (I (cmpI n 0)):=by
 refine zsp Tryz.func303 ?_;unfold cmpI
 repeat' ((conv=>whnf);first|refine zS ?_|refine zT ?_ ?_<;>intro _|fail)
 all_goals conv=>whnf
 all_goals refine aG ?_
 ·rw[if_neg Aa,if_pos Aa]
 ·rw[if_pos Aa]
 ·rw[if_neg Aa,if_neg Aa]
theorem fG4(a b c:Vc):Sp 251 [vcV a,vcV b,vcV c] (I (kR a b c)):=by
 refine zsp Tryz.func251 ?_
 repeat' ((conv=>whnf);first|refine zc (fD b a) ?_|refine zc (fD c a) ?_|refine zc (fF0 (vsub b a) (vsub c a)) ?_|refine zc (fO5 (bZ (vsub b a) (vsub c a))) ?_|refine zS ?_|fail)
 all_goals exact zE
theorem fJ0(a b:Vc):Sp 312 [vcV a,vcV b] (DB (kF a b)):=by
 refine zsp Tryz.func312 ?_;have hr:=aG2 (x:=a) (m:=b);generalize kF a b=P at*
 repeat' ((conv=>whnf);first|refine zS ?_|refine zT ?_ ?_<;>intro _|fail)
 all_goals conv=>whnf
 all_goals refine aA ?_
 all_goals first
  |exact fE (hr.2 Aa)
  |exact aC (fun h=>AL)
  |(refine aS1 ?_;rw[hr];omega)
theorem fP(a:Vc)(m:Int):Sp 302 [vcV a,I m] (DB (within a m)):=by
 refine zsp Tryz.func302 ?_;exact QA
theorem fF8(s:Sg):Sp 304 [sgV s] (DB (bI s)):=by
 refine zsp Tryz.func304 ?_
 repeat' ((conv=>whnf);first|refine zc (fP s.1 4000) ?_|refine zc (fP s.2 4000) ?_|refine zS ?_|refine zT ?_ ?_<;>intro _|fail)
 all_goals conv=>whnf
 all_goals refine aA ?_
 all_goals first
  |(refine fQ ?_;unfold bI;simp[*];done)
  |exact aC (by unfold bI;simp[*])
theorem fN7(s:Sg)(p:Vc):Sp 315 [sgV s,vcV p] (DB (eX s p)):=by
 refine zsp Tryz.func315 ?_;have hr:eX s p↔bI s/\Bb s p/\kR s.1 s.2 p=0:=by unfold eX;rw[eY3]
 unfold Bb at hr;have h1:=fF8 s;have h2:=fG4 s.1 s.2 p
 generalize eX s p=P at*;generalize bI s=p1 at*;generalize kR s.1 s.2 p=t at*
 repeat' ((conv=>whnf);first|refine zS ?_|refine zT ?_ ?_<;>intro _|fail)
 all_goals conv=>whnf
 all_goals refine aA ?_
 all_goals (try simp only[lH,mG]at*)
 all_goals first
  |(refine sK ?_;rw[hr];exact⟨fun h=>⟨‹_›,⟨Aa,Aa,Aa,Aa⟩,h⟩,fun h=>h.2.2⟩)
  |(refine aC (fun h=>?_);have h':=hr.1 h;first|exact absurd h'.1 ‹_› |(have h'':=h'.2.1;omega))
theorem fG5(s:Sg)(p:Vc)(hs:bI s)(hp:Sm4 p):Sp 306 [sgV s,vcV p] (I (kR s.1 s.2 p)):=by
 refine zsp Tryz.func306 ?_;have h1:=fF8 s;have h2:=fG4 s.1 s.2 p
 have h3:=fP p 4000;have hp':within p 4000:=pY.2 hp
 exact zF
def nilA(x:V):V:=match x with
 | .lit u=>(match u with| .slice none 0 0=> .sl [] |u=> .lit u)
 |x=>x
def gJ4(σ:St):St:=⟨fun s=>nilA (σ.env s),σ.bx,σ.ar⟩
theorem gI1{w:World}{G:Gh}{v:Value}{x:V}(h:Rv w G v x):Rv w G v (nilA x):=by
 unfold nilA;exact TB
theorem gJ3{p:Nat->Prop}{q:Nat->Nat->Prop}{x:V}(h:x.ok p q):(nilA x).ok p q:=by
 unfold nilA;exact TU
theorem gI3(σ:St):Le T σ (gJ4 σ):=by
 unfold Le;intro Φ a w G inv;exact⟨G,{inv with env:=fun s=>gI1 (inv.env s),wfE:=fun s=>gJ3 (inv.wfE s)}⟩
theorem fV9{O:List Vc}{k:Nat}(h:k<O.length):O.getD k z0=O[k] :=Eh
theorem fQ6{l:List Vc}{x:Vc}{k:Nat}(hk:k<=ahead x l)(h:l.length<=k\/¬kF (l.getD k z0) x):k=ahead x l:=by
 have hal:=fW5 x l;rcases Nat.lt_or_ge k (ahead x l)with hlt|hge
 ·rcases h with h|h
  ·omega
  ·rw[fV9 Aa]at h
   exact absurd (fX7 hlt Aa) h
 ·omega
theorem fZ6{l:List Vc}{x:Vc}{k:Nat}(hk:k<=ahead x l)(hl:k<l.length)(h:kF (l.getD k z0) x):k<ahead x l:=by
 rcases Nat.lt_or_ge k (ahead x l)with hlt|hge
 ·exact hlt
 ·have e:k=ahead x l:=by omega
  have h1:l[ahead x l]? =some (l.getD k z0):=by rw[<-e,fV9 hl,List.getElem?_eq_getElem hl]
  exact absurd h (fQ4 h1)
theorem gE6{O:List Vc}{x:Vc}{k:Nat}(hk:k=ahead x O)(hl:k<O.length)(h:O.getD k z0=x):insV x O=O:=by
 unfold insV;rw[if_pos];rw[<-hk,List.getElem?_eq_getElem hl,<-fV9 hl,h]
theorem fY7{O:List Vc}{x:Vc}{k:Nat}(hk:k=ahead x O)(h:k<O.length->O.getD k z0≠x):insV x O=O.take k++x::O.drop k:=by
 unfold insV;rw[if_neg,hk];intro q;obtain⟨hl,he⟩:=List.getElem?_eq_some_iff.1 q;rw[<-hk]at hl;refine h hl ?_;rw[fV9 hl];subst hk;exact he
theorem fQ7(l:List Vc)(n:Nat):∀y∈(l.map vcV).take n,y.cells.length=2:=fun y hy=>aM5 l y (List.mem_of_mem_take hy)
theorem fW4(l:List Vc)(n m:Nat):∀y∈((l.map vcV).take m).drop n,y.cells.length=2:=fun y hy=>aM5 l y (List.mem_of_mem_take (List.mem_of_mem_drop hy))
theorem fI6{α:Type}(f:α->V)(O:List α)(x:α)(k:Nat):(O.take k++x::O.drop k).map f=List.take (k:Int).toNat (O.map f)++[f x] ++List.drop (k:Int).toNat (List.take ((O.map f).length:Int).toNat (O.map f)):=by
 rw[Int.toNat_natCast,Int.toNat_natCast,List.take_length,List.map_append,List.map_cons,List.map_take,List.map_drop,List.append_assoc];rfl
theorem fS1(l:List Vc)(hl:l.length<=1000):Sp 349 [.sl (l.map vcV)] (.sl ((srtV l).map vcV)):=by
 refine zsp Tryz.func349 ?_;have hll:(l.map vcV).length=l.length:=Af
 repeat' ((conv=>whnf);first|refine zS ?_|fail)
 refine aU (A:=List Vc) (B:=List Vc) (fun D R=>mkSt [(0, .sl (l.map vcV)),(3, .sl ((srtV D).map vcV)),(4,I D.length)] [] []) (fun D R=>l=D++R) (fun D R=>R.length) [] l ?_ rfl (fun D R hp=>?_)
 ·refine Le.trans (gI3 _) ?_
  exact zj
 have hsl:=gF2 D;have hsn:=gD1 D
 generalize hO:srtV D=O at*;have hOm:(O.map vcV).length=O.length:=Af
 cases R with
 |nil=>
  have hlen:l.length=D.length:=CP;have e:l=D:=CP
  repeat' ((conv=>whnf);first|(exfalso;omega)|refine zS ?_|refine zT ?_ ?_<;>intro _|fail)
  rw[e,hO];all_goals exact zE
 |cons x R=>
  have hlen:=aO hp
  repeat' ((conv=>whnf);first|(exfalso;omega)|refine zS ?_|refine zT ?_ ?_<;>intro _|fail)
  refine lD (A:=Nat) (fun k=>mkSt [(0, .sl (l.map vcV)),(3, .sl (O.map vcV)),(4,I D.length),(5,I k)] [] []) (fun k=>k<=ahead x O) (fun k=>ahead x O-k) 0 ?_ Aa (fun k hk=>?_)
  ·exact zj
  have hal:=fW5 x O;have hxs:=hsn x
  repeat' ((conv=>whnf);first|(exfalso;omega)|refine aB (l:=l) Aa ?_|refine aB (l:=O) Aa ?_|refine aF (l:=l) (A:=D) (x:=x) (B:=R) hp Aa ?_|refine aU3 (r:=O) (k:=k) Aa Aa ?_|refine zc (fJ0 (O.getD k z0) x) ?_|refine aT1 ?_|refine aB4 (fun hv=>?_) (fun hv=>?_)|refine cC0 [(0,999),(4,999),(49,999),(50,999),(51,999)] Ae Ad ?_|refine iH rfl (.inl rfl) rfl (of_decide_eq_true rfl) (fQ7 O _) (by show 0+(List.take _ (O.map vcV)).length<=1000000000;rw[List.length_take];omega) ?_|refine iH rfl (.inl rfl) rfl (of_decide_eq_true rfl) (dA rfl) (by show(List.take _ (O.map vcV)).length+1<=1000000000;rw[List.length_take];omega) ?_|refine iH rfl (.inl rfl) rfl (of_decide_eq_true rfl) (fW4 O _ _) (by show(List.take _ (O.map vcV)++[_]).length+(List.drop _ (List.take _ (O.map vcV))).length<=1000000000;rw[List.length_append,List.length_take,List.length_singleton,List.length_drop,List.length_take];omega) ?_|refine fU ⟨Aa,Aa,Aa, .inr (aM5 O)⟩ ?_|refine zS ?_|refine zT ?_ ?_<;>intro _|fail)
  all_goals conv=>whnf
  ·refine⟨k+1,?_,?_,?_⟩
   ·exact zj
   ·have:=fZ6 (l:=O) (x:=x) hk Aa Ag
    omega
   ·have:=fZ6 (l:=O) (x:=x) hk Aa Ag
    omega
  ·have hk':=fQ6 hk (.inr Ag)
   refine⟨(D++[x],R),?_,Ac,Af⟩;show Le T _ (mkSt [(0, .sl (l.map vcV)),(3, .sl ((srtV (D++[x])).map vcV)),(4,I ((D++[x]).length))] [] []);rw[hxs,gE6 hk' Aa hv];exact P6
  ·have hk':=fQ6 hk (.inr Ag)
   refine⟨(D++[x],R),?_,Ac,Af⟩;show Le T _ (mkSt [(0, .sl (l.map vcV)),(3, .sl ((srtV (D++[x])).map vcV)),(4,I ((D++[x]).length))] [] []);rw[hxs,fY7 hk' (fun _=>hv),fI6];simp only[List.length_append,List.length_singleton];exact Rj
  ·have hk':=fQ6 hk (.inl Aa)
   refine⟨(D++[x],R),?_,Ac,Af⟩;show Le T _ (mkSt [(0, .sl (l.map vcV)),(3, .sl ((srtV (D++[x])).map vcV)),(4,I ((D++[x]).length))] [] []);rw[hxs,fY7 hk' (fun h=>Aa),fI6];simp only[List.length_append,List.length_singleton];exact Rj
def fM4(E:List Vc)(s t:Sg)(n:Nat)(X:List Vc):St:=match X with
 | [] =>mkSt [(2, .box 2 0),(3, .box 3 0),(5, .arr 16 0),(6,nilV),(7,I n)] [(2,(sgV s).cells),(3,(sgV t).cells)] [(16,⟨0, .own,76,E.map vcV⟩)]
 |x::X=>mkSt [(2, .box 2 0),(3, .box 3 0),(5, .arr 16 0),(6, .arr 41 X.length),(7,I n)] [(2,(sgV s).cells),(3,(sgV t).cells)] [(16,⟨0, .own,76,E.map vcV⟩),(41,⟨X.length, .own,76,(x::X).map vcV⟩)]
theorem gH8(s t:Sg)(D:List Vc):(comL s t D).length<=D.length:=by
 unfold comL;exact List.length_filter_le _ _
theorem fS5(s t:Sg):Sp 305 [sgV s,sgV t] (.sl ((comS s t).map vcV)):=by
 refine zsp Tryz.func305 ?_;have hfin:comS s t=srtV (comL s t [s.1,s.2,t.1,t.2]):=rfl;have hl4: [s.1,s.2,t.1,t.2].length=4:=rfl
 repeat' ((conv=>whnf);first|refine zS ?_|fail)
 refine aU (A:=List Vc) (B:=List Vc) (fun D R=>fM4 [s.1,s.2,t.1,t.2] s t D.length (comL s t D)) (fun D R=> [s.1,s.2,t.1,t.2] =D++R) (fun D R=>R.length) [] [s.1,s.2,t.1,t.2] ?_ rfl (fun D R hp=>?_)
 ·show Le T _ (fM4 [s.1,s.2,t.1,t.2] s t 0 [])
  exact zj
 generalize [s.1,s.2,t.1,t.2] =E at*;have hEm:(E.map vcV).length=E.length:=Af;have hcl:=gH8 s t D
 have hcs:=gD6 s t D
 cases R with
 |nil=>
  have hlen:E.length=D.length:=by rw[show E=D++[]from hp];simp
  have e:E=D:=by rw[show E=D++[]from hp];simp
  rw[hfin,e];have hso:=fS1 (comL s t D) Aa;generalize comL s t D=X at*
  cases X with
  |nil=>exact NC
  |cons x X=>exact NC
 |cons y R=>
  have hlen:=aO hp;have g1:=fN7 s y
  have g2:=fN7 t y;have hcy:=hcs y
  have hC:Com s t y↔eX s y/\eX t y:=Iff.rfl;generalize Com s t y=c at*;generalize eX s y=c1 at*;generalize eX t y=c2 at*;have hnext:∀X',comL s t (D++[y])=X'->fM4 E s t ((D++[y]).length) (comL s t (D++[y]))=fM4 E s t (D.length+1) X':=fun X' h=>by rw[h,List.length_append];rfl
  generalize comL s t D=X at*
  cases X with
  |nil=>
   repeat' ((conv=>whnf);first|(exfalso;omega)|refine dS rfl rfl G6 ?_|refine aF (l:=E) (A:=D) (x:=y) (B:=R) hp Aa ?_|refine zc g1 ?_|refine zc g2 ?_|refine gX (of_decide_eq_true rfl) (dA rfl) (of_decide_eq_true rfl) ?_|refine zS ?_|refine zT ?_ ?_<;>intro _|fail)
   all_goals conv=>whnf
   ·refine⟨(D++[y],R),?_,Ac,Af⟩
    have e:=hnext [y] EG;show Le T _ (fM4 E s t ((D++[y]).length) (comL s t (D++[y])));rw[e];exact Qp
   all_goals
    refine⟨(D++[y],R),?_,Ac,Af⟩;have e:=hnext [] FI;exact Tf
  |cons x X=>
   have hxl:(x::X).length=X.length+1:=rfl
   repeat' ((conv=>whnf);first|(exfalso;omega)|refine dS rfl rfl G6 ?_|refine aF (l:=E) (A:=D) (x:=y) (B:=R) hp Aa ?_|refine zc g1 ?_|refine zc g2 ?_|refine iH rfl (.inl rfl) rfl (of_decide_eq_true rfl) (dA rfl) (show((x::X).map vcV).length+1<=1000000000 from Ea) ?_|refine zS ?_|refine zT ?_ ?_<;>intro _|fail)
   all_goals conv=>whnf
   ·refine⟨(D++[y],R),?_,Ac,Af⟩
    have e:=hnext (x::(X++[y])) EG;show Le T _ (fM4 E s t ((D++[y]).length) (comL s t (D++[y])));rw[e];unfold fM4;simp only[List.length_append,List.length_singleton,List.map_cons,List.map_append,List.map_nil];exact Qp
   all_goals
    refine⟨(D++[y],R),?_,Ac,Af⟩;have e:=hnext (x::X) FI;exact Tf
theorem gB9{m n:Int}:W (cmpI m 0*cmpI n 0)=cmpI m 0*cmpI n 0:=by
 rcases fM0 m 0 with h|h|h<;>rcases fM0 n 0 with k|k|k<;>rw[h,k] <;>decide
theorem fI7(s t:Sg)(hs:bI s)(ht:bI t):Sp 253 [sgV s,sgV t] (I (dG s t)):=by
 refine zsp Tryz.func253 ?_;obtain⟨k1,k2,k3,k4⟩:=gC7 hs ht;obtain⟨a,b⟩:=jP.1 hs;obtain⟨c,d⟩:=jP.1 ht
 have hc:zT9 s t↔W (kR s.1 s.2 t.1*kR s.1 s.2 t.2)<0/\W (kR t.1 t.2 s.1*kR t.1 t.2 s.2)<0:=by
  unfold zT9 kR;rw[gB9,gB9]
 have g1:=fF8 s;have g2:=fF8 t
 have g3:=fS5 s t;have g4:=fG5 s t.1 hs c
 have g5:=fG5 s t.2 hs d;have g6:=fG5 t s.1 ht a
 have g7:=fG5 t s.2 ht b;have hl:((comS s t).map vcV).length=(comS s t).length:=Af
 generalize dG s t=M at*;generalize zT9 s t=C at*;generalize comS s t=L at*;generalize kR s.1 s.2 t.1=a1 at*;generalize kR s.1 s.2 t.2=a2 at*;generalize kR t.1 t.2 s.1=a3 at*;generalize kR t.1 t.2 s.2=a4 at*
 repeat' ((conv=>whnf);first|(exfalso;contradiction)|refine zc g1 ?_|refine zc g2 ?_|refine zc g3 ?_|refine zc g4 ?_|refine zc g5 ?_|refine zc g6 ?_|refine zc g7 ?_|refine zg ?_|refine zi ?_|refine zw ?_|refine zn ?_|refine zz (fun _=>?_) fun _=>?_|refine zr ?_)
 all_goals conv=>whnf
 all_goals first
  |exact aG (k1 Aa).symm
  |exact aG (k2 Aa).symm
  |exact aG (k3 Aa (hc.2 ⟨Ag,Ag⟩)).symm
  |exact aG (k4 Aa (fun h=>by have:=hc.1 h;omega)).symm
theorem fG8(r:Rg)(hl:r.length<=1000000):Sp 145 [rgV r] (I (zY r)):=by
 refine zsp Tryz.func145 ?_;have hll:(r.map vcV).length=r.length:=Af
 repeat' ((conv=>whnf);first|refine zS ?_|fail)
 refine lD (A:=Nat) (fun k=>mkSt [(0,rgV r),(3,I (cI8 r k)),(4,I k)] [] []) (fun k=>k<=r.length) (fun k=>r.length-k) 0 ?_ Aa (fun k hk=>?_)
 ·exact zj
 have hs:=bC2 r k;have hc:=fF0 (r.getD k z0) (iU r k)
 by_cases hkr:k<r.length
 ·have hm:(k+1)% r.length<r.length:=Nat.mod_lt _ Aa
  repeat' ((conv=>whnf);first|(exfalso;omega)|refine uM Aa ?_|refine aB (l:=r) Cb ?_|refine sW (k:=(k+1)% r.length) (kS Aa) hm ?_|refine aU3 (k:=k) Aa hkr ?_|refine zS ?_|refine zT ?_ ?_<;>intro _|fail)
  all_goals conv=>whnf
  refine⟨k+1,?_,Aa,Aa⟩;simp only[hs];exact zj
 ·have e:k=r.length:=by omega
  subst e;exact zF
theorem fS0(r:Rg)(hl:r.length<=1000000):Sp 250 [rgV r] (DB (bR7 r)):=by
 refine zsp Tryz.func250 ?_;have hll:(r.map vcV).length=r.length:=Af;have hr:bR7 r↔∀v∈r,within v 2000:=Iff.rfl
 generalize bR7 r=P at*
 repeat' ((conv=>whnf);first|refine zS ?_|fail)
 refine aU (A:=List Vc) (B:=List Vc) (fun D R=>mkSt [(0,rgV r),(3,I D.length)] [] []) (fun D R=>r=D++R/\∀v∈D,within v 2000) (fun D R=>R.length) [] r ?_ ⟨rfl,Af⟩ (fun D R hp=>?_)
 ·exact zj
 obtain⟨hp,hD⟩:=hp
 cases R with
 |nil=>
  have hlen:r.length=D.length:=Ac
  repeat' ((conv=>whnf);first|(exfalso;omega)|refine zS ?_|refine zT ?_ ?_<;>intro _|fail)
  all_goals conv=>whnf
  refine aA (fE (hr.2 fun v hv=>?_));rw[hp,List.append_nil]at hv;exact hD v hv
 |cons x R=>
  have hlen:=aO hp;have hx:x∈r:=Ac
  have h1:=fP x 2000
  repeat' ((conv=>whnf);first|(exfalso;omega)|refine zS ?_|refine zT ?_ ?_<;>intro _|fail)
  all_goals conv=>whnf
  all_goals first
   |exact aA (aC (fun h=>absurd (hr.1 h x hx) Ag))
   |skip
  refine⟨(D++[x],R),?_,⟨Ac,fun v hv=>?_⟩,Af⟩
  ·exact J8
  ·rcases List.mem_append.1 hv with hv|hv
   ·exact hD v hv
   ·rw[List.mem_singleton.1 hv];assumption
def gJ1(r:Rg)(k:Nat):St:=match k with
 |0=>mkSt [(0,rgV r),(3,nilV),(4,I 0)] [] []
 |k+1=>mkSt [(0,rgV r),(3, .arr 29 k),(4,I ((k:Int)+1))] [] [(29,⟨k, .own,298,(aH8 r (k+1)).map sgV⟩)]
theorem fE7(r:Rg)(hl:r.length<=1000000):Sp 252 [rgV r] (.own 298 ((bF r).map sgV)):=by
 refine zsp Tryz.func252 ?_;have hll:(r.map vcV).length=r.length:=Af;have h1:=cK3 (r:=r)
 have h2:=bA9 (r:=r);by_cases hr:r.length<2
 ·exact LV
 rw[h2 hr]
 repeat' ((conv=>whnf);first|(exfalso;omega)|refine zS ?_|refine zT ?_ ?_<;>intro _|fail)
 refine lD (A:=Nat) (gJ1 r) (fun k=>k<=r.length) (fun k=>r.length-k) 0 ?_ Aa (fun k hk=>?_)
 ·exact zj
 have hs:=cS0 r k;have hlen:=bV5 r k
 match k with
 |0=>
  have hm:(0+1)% r.length<r.length:=Nat.mod_lt _ Aa
  repeat' ((conv=>whnf);first|(exfalso;omega)|refine uM Aa ?_|refine aB (l:=r) (by rw[kS (a:=0+1) (by omega)];omega) ?_|refine sW (k:=(0+1)% r.length) (kS Aa) hm ?_|refine aU3 (k:=0) Aa Aa ?_|refine fU ⟨of_decide_eq_true Ad,of_decide_eq_true Ad,dA rfl⟩ ?_|refine zS ?_|refine zT ?_ ?_<;>intro _|fail)
  all_goals conv=>whnf
  refine⟨1,?_,Aa,Aa⟩;exact zj
 |k+1=>
  have hlen':=bV5 r (k+1);have h4:(List.map sgV (aH8 r (k+1))).length+1<=1000000000:=Aa
  by_cases hkr:k+1<r.length
  ·have hm:(k+1+1)% r.length<r.length:=Nat.mod_lt _ Aa
   repeat' ((conv=>whnf);first|(exfalso;omega)|refine uM Aa ?_|refine aB (l:=r) (by rw[kS (a:=k+1+1) (by omega)];omega) ?_|refine sW (k:=(k+1+1)% r.length) (kS Aa) hm ?_|refine aU3 (k:=k+1) Aa hkr ?_|refine iH rfl (.inl rfl) rfl (of_decide_eq_true rfl) (dA rfl) h4 ?_|refine zS ?_|refine zT ?_ ?_<;>intro _|fail)
   all_goals conv=>whnf
   refine⟨k+2,?_,Aa,Aa⟩;show Le T _ (mkSt [(0,rgV r),(3, .arr 29 (k+1)),(4,I (((k+1:Nat):Int)+1))] [] [(29,⟨k+1, .own,298,(aH8 r (k+1+1)).map sgV⟩)]);rw[<-hs];exact zj
  ·exact LK
theorem gC1{z:Int}{a n:Nat}(h:z=(a:Int))(hn:0<n):0<=z.tmod (n:Int)/\z.tmod (n:Int)< (n:Int):=by
 rw[dX5 h];have:=Nat.mod_lt a hn;omega
theorem fE9(r:Rg)(hl:r.length<=1000000):Sp 201 [rgV r] (DB (dM r)):=by
 refine zsp Tryz.func201 ?_;have hll:(r.map vcV).length=r.length:=Af;have hr:=fR4 (r:=r)
 have g1:=fS0 r hl;have g2:=fG8 r hl
 have g3:=fE7 r hl;generalize dM r=P at*
 repeat' ((conv=>whnf);first|refine zS ?_|refine zT ?_ ?_<;>intro _|fail)
 all_goals conv=>whnf
 all_goals first
  |exact aA (aC (fun h=>AL))
  |exact aA (aC (fun h=>absurd (hr.1 h).2.2.1 Ag))
  |skip
 have h3:3<=r.length:=Aa;have h40:r.length<=40:=Aa
 have hn:bR7 r:=Ag;refine lD (A:=Nat) (fun k=>mkSt [(0,rgV r),(3,I r.length),(4,I k)] [] []) (fun k=>k<=r.length/\∀i,i<k->fT6 r i≠0) (fun k=>r.length-k) 0 ?_ ⟨Aa,fun i hi=>Aa⟩ (fun k hk=>?_)
 ·exact zj
 obtain⟨hk,ht⟩:=hk;have e1:=fG4 (r.getD k z0) (r.getD ((k+1)% r.length) z0) (r.getD ((k+2)% r.length) z0);by_cases hkr:k<r.length
 ·have hm1:(k+1)% r.length<r.length:=Nat.mod_lt _ Aa
  have hm2:(k+2)% r.length<r.length:=Nat.mod_lt _ Aa;have t1:=gC1 (z:=(k:Int)+1) (a:=k+1) (n:=r.length) Aa Aa
  have t2:=gC1 (z:=(k:Int)+2) (a:=k+2) (n:=r.length) Aa Aa
  repeat' ((conv=>whnf);first|(exfalso;omega)|refine uM Aa ?_|refine sW (k:=(k+1)% r.length) (dX5 Aa) hm1 ?_|refine sW (k:=(k+2)% r.length) (dX5 Aa) hm2 ?_|refine aU3 (k:=k) Aa hkr ?_|refine zS ?_|refine zT ?_ ?_<;>intro _|fail)
  all_goals conv=>whnf
  ·exact aA (aC (fun h=>(hr.1 h).2.2.2.1 k hkr Ag))
  ·exact NR
 have ek:k=r.length:=Aa;subst ek;clear e1;have hel:=dT0 (r:=r) Aa
 have hpr:∀i k,fM5 r i k↔(adj r.length i k->dG ((bF r).getD i (z0,z0)) ((bF r).getD k (z0,z0))=1)/\(¬adj r.length i k->dG ((bF r).getD i (z0,z0)) ((bF r).getD k (z0,z0))=0):=fun i k=>Iff.rfl;have hne:∀e∈bF r,bI e:=fun e he=>jO hn he
 generalize hE:bF r=E at*;have hem:(E.map sgV).length=r.length:=by rw[List.length_map];exact hel
 have hgd:∀i,i<r.length->bI (E.getD i (z0,z0)):=fun i hi=>hne _ (by rw[List.getD_eq_getElem?_getD,List.getElem?_eq_getElem (by omega)];exact List.getElem_mem _)
 repeat' ((conv=>whnf);first|(exfalso;omega)|refine zS ?_|refine zT ?_ ?_<;>intro _|fail)
 refine lD (A:=Nat) (fun i=>mkSt [(0,rgV r),(3,I r.length),(5, .arr 49 0),(6,I i)] [] [(49,⟨0, .own,298,E.map sgV⟩)]) (fun i=>i<=r.length/\∀i' k',i'<i->i'<k'->k'<r.length->fM5 r i' k') (fun i=>r.length-i) 0 ?_ ⟨Aa,fun i' k' hi=>Aa⟩ (fun i hi=>?_)
 ·exact zj
 obtain⟨hi,hap⟩:=hi;by_cases hir:i<r.length
 ·repeat' ((conv=>whnf);first|(exfalso;omega)|refine zS ?_|refine zT ?_ ?_<;>intro _|fail)
  refine lD (A:=Nat) (fun k=>mkSt [(0,rgV r),(3,I r.length),(5, .arr 49 0),(6,I i),(7,I k)] [] [(49,⟨0, .own,298,E.map sgV⟩)]) (fun k=>i<k/\k<=r.length/\∀k',i<k'->k'<k->fM5 r i k') (fun k=>r.length-k) (i+1) ?_ ⟨Aa,Aa,fun k' h1 h2=>Aa⟩ (fun k hk=>?_)
  ·exact zj
  obtain⟨hk0,hk,hin⟩:=hk;by_cases hkr:k<r.length
  ·have hm:=fI7 (E.getD i (z0,z0)) (E.getD k (z0,z0)) (hgd i hir) (hgd k hkr)
   have hq:=hpr i k;unfold adj at hq;generalize dG (E.getD i (z0,z0)) (E.getD k (z0,z0))=m at*
   have hj:fM5 r i k->∀k',i<k'->k'<k+1->fM5 r i k':=fun h k' h1 h2=>by
    by_cases e:k'=k
    ·subst e;exact h
    ·exact hin k' h1 Aa
   have hbad:P->fM5 r i k:=fun h=>(hr.1 h).2.2.2.2.1 i k hk0 hkr;generalize fM5 r i k=p2 at*
   repeat' ((conv=>whnf);first|(exfalso;omega)|refine dS rfl rfl G7 ?_|refine dV6 (k:=i) Aa Aa ?_|refine dV6 (k:=k) Aa Aa ?_|refine zS ?_|refine zT ?_ ?_<;>intro _|fail)
   all_goals conv=>whnf
   all_goals first
    |(refine aA (aC (fun h=>?_));have h':=hq.1 (hbad h);omega)
    |skip
   all_goals
    refine⟨k+1,?_,⟨Aa,Aa,hj (hq.2 ⟨fun h=>Aa,fun h=>Aa⟩)⟩,Aa⟩
    ·exact zj
  ·exact KZ
 ·have ei:i=r.length:=by omega
  subst ei
  repeat' ((conv=>whnf);first|(exfalso;omega)|refine zS ?_|refine zT ?_ ?_<;>intro _|fail)
  all_goals conv=>whnf
  refine aA (aS1 ?_);rw[hr];exact⟨fun h=>⟨h3,h40,hn,ht,fun i k h1 h2=>hap i k Aa h1 h2,h⟩,fun h=>h.2.2.2.2.2⟩
end Go.Proofs.Led
