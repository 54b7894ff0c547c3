/-
  What the reference asks of rings, and the points that two segments share, in plain Lean.
-/
import Derived.Test.YtkhhdojgbkophaaGreatQB17
set_option linter.unusedVariables false
set_option linter.unusedSimpArgs false
set_option maxRecDepth 100000
set_option maxHeartbeats 8000000
noncomputable section
namespace Go.Proofs.Led
open Go Go.Proofs Go.Ab
def fT6(r:Rg)(i:Nat):Int:=kR (r.getD i z0) (r.getD ((i+1)% r.length) z0) (r.getD ((i+2)% r.length) z0)
theorem fN2{n i:Nat}(h:i<n):((i+1)% n+n-1)% n=i:=by
 by_cases hq:i+1=n
 ·rw[hq,Nat.mod_self,Nat.zero_add,Nat.mod_eq_of_lt Aa];omega
 ·rw[Nat.mod_eq_of_lt (show i+1<n from Aa),show i+1+n-1=i+n from Aa,Nat.add_mod_right,Nat.mod_eq_of_lt h]
theorem fY2{r:Rg}{i:Nat}(h:i<r.length):fT6 r i=kR (mY r ((i+1)% r.length)) (r.getD ((i+1)% r.length) z0) (iU r ((i+1)% r.length)):=by
 unfold fT6 mY iU;rw[fN2 h,Nat.mod_add_mod]
theorem fU3{r:Rg}:(∀i,i<r.length->kR (mY r i) (r.getD i z0) (iU r i)≠0)↔∀i,i<r.length->fT6 r i≠0:=by
 constructor
 ·intro h i hi
  rw[fY2 hi];exact h _ (Nat.mod_lt _ Aa)
 ·intro h i hi
  have hj:(i+r.length-1)% r.length<r.length:=Nat.mod_lt _ Aa;have k:=h _ hj
  rw[fY2 hj]at k
  have e:((i+r.length-1)% r.length+1)% r.length=i:=by
   by_cases hz:i=0
   ·subst hz
    rw[Nat.mod_eq_of_lt (show 0+r.length-1<r.length from Aa),show 0+r.length-1+1=r.length from Aa,Nat.mod_self]
   ·rw[show i+r.length-1=(i-1)+r.length from Aa,Nat.add_mod_right,Nat.mod_eq_of_lt (show i-1<r.length from Aa),show i-1+1=i from Aa,Nat.mod_eq_of_lt hi]
  rw[e]at k;exact k
theorem fZ9{s t:Sg}(hs:bI s)(ht:bI t)(h:t.1=s.2)(hd:xD s t≠0):dG s t=1:=by
 have hA:xA s t=xD s t:=by unfold xA xD;rw[h]
 have hB:xB s t=0:=by unfold xB;rw[h];unfold X;rw[Int.mul_comm];omega
 exact Sz
theorem fX6{s t:Sg}(hs:bI s)(ht:bI t)(h:t.2=s.1)(hd:xD s t≠0):dG s t=1:=by
 have hA:xA s t=0:=by
  unfold xA;rw[h];unfold X dif;simp only;grind
 have hB:xB s t=xD s t:=by
  unfold xB xD;rw[h];unfold X dif;simp only;grind
 exact Sz
def adj(n i k:Nat):Prop:=k=i+1\/(i=0/\k=n-1)
def fM5(r:Rg)(i k:Nat):Prop:=(adj r.length i k->dG ((bF r).getD i (z0,z0)) ((bF r).getD k (z0,z0))=1)/\(¬adj r.length i k->dG ((bF r).getD i (z0,z0)) ((bF r).getD k (z0,z0))=0)
theorem fH0{r:Rg}(h3:3<=r.length){i:Nat}(hi:i<r.length):(bF r).getD i (z0,z0)=aJ4 r i:=by
 unfold bF;rw[if_neg Aa,List.getD_eq_getElem?_getD,List.getElem?_map,List.getElem?_range hi];rfl
theorem fH4{a b c:Vc}(h1:Sm4 a)(h2:Sm4 b)(h3:Sm4 c)(h:kR a b c≠0):X (dif b a) (dif c b)≠0:=by
 rw[zH h1 h2 h3,tC]at h;have e:X (dif b a) (dif c b)=X (dif b a) (dif c a):=CJ;rw[e];exact h
theorem gG1{r:Rg}(h3:3<=r.length)(hn:bR7 r)(ht:∀i,i<r.length->fT6 r i≠0){i k:Nat}(hik:i<k)(hk:k<r.length)(ha:adj r.length i k):
 dG ((bF r).getD i (z0,z0)) ((bF r).getD k (z0,z0))=1:=by
 have hok:∀j,j<r.length->bI (aJ4 r j):=fun j hj=>jO hn ((bC9 h3).2 ⟨j,hj,rfl⟩);have hsm:∀j,Sm4 (r.getD (j% r.length) z0):=fun j=>vN hn (aE1 (Nat.mod_lt _ Aa))
 rw[fH0 h3 Aa,fH0 h3 hk];rcases ha with rfl|⟨rfl,rfl⟩
 ·refine fZ9 (hok i Aa) (hok _ hk) ?_ ?_
  ·show r.getD (i+1) z0=iU r i
   unfold iU;rw[Nat.mod_eq_of_lt hk]
  ·have:=fH4 (vN hn (aE1 Aa)) (hsm (i+1)) (hsm (i+2)) (ht i Aa)
   show X (dif (iU r i) (r.getD i z0)) (dif (iU r (i+1)) (r.getD (i+1) z0))≠0;unfold iU;rw[Nat.mod_eq_of_lt hk]at this⊢;exact this
 ·refine fX6 (hok 0 Aa) (hok _ hk) ?_ ?_
  ·show iU r (r.length-1)=r.getD 0 z0
   unfold iU;rw[show r.length-1+1=r.length from Aa,Nat.mod_self]
  ·have:=fH4 (vN hn (aE1 hk)) (hsm (r.length-1+1)) (hsm (r.length-1+2)) (ht (r.length-1) hk)
   have e1:(r.length-1+1)% r.length=0:=EZ;have e2:(r.length-1+2)% r.length=1:=Cj
   rw[e1,e2]at this;show X (dif (iU r 0) (r.getD 0 z0)) (dif (iU r (r.length-1)) (r.getD (r.length-1) z0))≠0;unfold iU;rw[e1,Nat.zero_add,Nat.mod_eq_of_lt (show 1<r.length from Aa)];intro q;apply this;have e3:X (dif (r.getD 0 z0) (r.getD (r.length-1) z0)) (dif (r.getD 1 z0) (r.getD 0 z0))= -X (dif (r.getD 1 z0) (r.getD 0 z0)) (dif (r.getD 0 z0) (r.getD (r.length-1) z0)):=by unfold X;grind
   rw[e3,q];rfl
theorem fR4{r:Rg}:dM r↔(3<=r.length/\r.length<=40/\bR7 r/\(∀i,i<r.length->fT6 r i≠0)/\(∀i k,i<k->k<r.length->fM5 r i k)/\0<zY r):=by
 unfold dM;rw[fU3];constructor
 ·rintro⟨h1,h2,h3,h4,h5,h6⟩
  refine⟨h1,h2,h3,h5,fun i k hik hk=>⟨fun ha=>gG1 h1 h3 h5 hik hk ha,fun hna=>?_⟩,h4⟩;refine h6 i k hik hk (fun q=>hna (.inl q)) ?_;by_cases q:i=0
  ·exact .inr (fun q2=>hna (.inr ⟨q,q2⟩))
  ·exact .inl q
 ·rintro⟨h1,h2,h3,h4,h5,h6⟩
  refine⟨h1,h2,h3,h6,h4,fun i k hik hk q1 q2=>?_⟩;refine(h5 i k hik hk).2 ?_;rintro(q|⟨q,q'⟩)
  ·exact q1 q
  ·rcases q2 with q2|q2
   ·exact q2 q
   ·exact q2 q'
theorem fD9{a b c:Vc}(h1:kF a b)(h2:kF b c):kF a c:=by
 rw[aG2]at*;omega
theorem fJ8{a b:Vc}(h1:kF a b)(h2:kF b a):False:=by
 rw[aG2]at*;omega
theorem fK0{a b:Vc}(h1:¬kF a b)(h2:a≠b):kF b a:=by
 rw[aG2]at*;have:¬(a.1=b.1/\a.2=b.2):=fun q=>h2 (Prod.ext q.1 q.2);omega
def ahead(x:Vc)(l:List Vc):Nat:=(l.takeWhile fun y=>decB (kF y x)).length
def insV(x:Vc)(l:List Vc):List Vc:=open Classical in
 if l[ahead x l]? =some x then l else l.take (ahead x l)++x::l.drop (ahead x l)
def srtV(l:List Vc):List Vc:=l.foldl (fun o x=>insV x o) []
theorem gD1(D:List Vc)(x:Vc):srtV (D++[x])=insV x (srtV D):=by unfold srtV;rw[List.foldl_append];rfl
theorem fW5(x:Vc)(l:List Vc):ahead x l<=l.length:=by
 unfold ahead;exact(List.takeWhile_sublist _).length_le
theorem fU7{α:Type}{p:α->Bool}:∀ {l:List α} {z:α},z∈l.takeWhile p->p z=true
 | [],z,h=>Ah
 |y::l,z,h=>by
  rw[List.takeWhile_cons]at h;split at h
  ·rcases List.mem_cons.1 h with rfl|h
   ·assumption
   ·exact fU7 h
  ·cases h
theorem fX7{x:Vc}{l:List Vc}{i:Nat}(hi:i<ahead x l)(h:i<l.length):kF l[i] x:=by
 unfold ahead at hi;have h1:(l.takeWhile fun y=>decB (kF y x))[i] =l[i] :=(List.takeWhile_prefix _).getElem hi;have h2:(l.takeWhile fun y=>decB (kF y x))[i]∈l.takeWhile fun y=>decB (kF y x):=List.getElem_mem hi
 rw[<-h1];have h3:=fU7 (p:=fun y=>decB (kF y x)) h2;exact dH.1 h3
theorem fQ4{x:Vc}:∀ {l:List Vc} {y:Vc},l[ahead x l]? =some y->¬kF y x
 | [],y,h=>Ah
 |z::l,y,h=>by
  unfold ahead at h;rw[List.takeWhile_cons]at h;by_cases hz:kF z x
  ·rw[if_pos (dH.2 hz),List.length_cons,List.getElem?_cons_succ]at h
   exact fQ4 h
  ·rw[if_neg (by rw[dH];exact hz)]at h
   cases h;exact hz
theorem gF6{x z:Vc}{l:List Vc}:z∈insV x l↔z=x\/z∈l:=by
 unfold insV;split
 ·rename_i h
  have:=List.mem_of_getElem? h;constructor
  ·exact fun q=> .inr q
  ·rintro(rfl|q)
   ·exact this
   ·exact q
 ·have e:l=l.take (ahead x l)++l.drop (ahead x l):=(List.take_append_drop _ _).symm
  constructor
  ·intro q
   exact SI
  ·rintro(q|q)
   ·simp[q]
   ·rw[e]at q
    exact Uf
theorem fY3{x:Vc}{l:List Vc}(h:l.Pairwise kF):(insV x l).Pairwise kF:=by
 unfold insV;split
 ·exact h
 ·rename_i hne
  have h1:=List.pairwise_append.1 ((List.take_append_drop (ahead x l) l).symm▸h)
  have hlow:∀a∈l.take (ahead x l),kF a x:=fun a ha=>by
   obtain⟨i,hi,rfl⟩:=List.mem_iff_getElem.1 ha;rw[List.length_take]at hi;rw[List.getElem_take];exact fX7 Aa Aa
  have hhi:∀b∈l.drop (ahead x l),kF x b:=fun b hb=>by
   cases hd:l[ahead x l]? with
   |none=>
    have:l.length<=ahead x l:=List.getElem?_eq_none_iff.1 hd;rw[List.drop_eq_nil_of_le this]at hb;cases hb
   |some y=>
    have hy:kF x y:=fK0 (fQ4 hd) (fun q=>hne (by rw[hd,q]))
    have hcons:l.drop (ahead x l)=y::l.drop (ahead x l+1):=by
     obtain⟨hlt,he⟩:=List.getElem?_eq_some_iff.1 hd;rw[List.drop_eq_getElem_cons hlt,he]
    rw[hcons]at hb;rcases List.mem_cons.1 hb with rfl|hb
    ·exact hy
    ·have:=h1.2.1
     rw[hcons]at this;exact fD9 hy ((List.pairwise_cons.1 this).1 b hb)
  refine List.pairwise_append.2 ⟨h1.1,List.pairwise_cons.2 ⟨hhi,h1.2.1⟩,fun a ha b hb=>?_⟩;exact SE
theorem gB5(l:List Vc):(srtV l).Pairwise kF/\∀z,z∈srtV l↔z∈l:=by
 have key:∀(l o:List Vc),o.Pairwise kF->(l.foldl (fun o x=>insV x o) o).Pairwise kF/\∀z,z∈l.foldl (fun o x=>insV x o) o↔z∈o\/z∈l:=by
  intro l
  induction l with
  |nil=>intro o ho;exact⟨ho,fun z=>Af⟩
  |cons x l ih=>
   intro o ho;obtain⟨h1,h2⟩:=ih (insV x o) (fY3 ho);refine⟨h1,fun z=>?_⟩;rw[List.foldl_cons,h2,gF6,List.mem_cons];constructor
   ·rintro((h|h)|h)<;>simp[h]
   ·rintro(h|h|h)<;>simp[h]
 obtain⟨h1,h2⟩:=key l [] List.Pairwise.nil;exact⟨h1,fun z=>by unfold srtV;rw[h2];simp⟩
theorem gF1(x:Vc)(l:List Vc):(insV x l).length<=l.length+1:=by
 unfold insV;split
 ·omega
 ·rw[List.length_append,List.length_cons,List.length_take,List.length_drop];omega
theorem gF2(l:List Vc):(srtV l).length<=l.length:=by
 have key:∀(l o:List Vc),(l.foldl (fun o x=>insV x o) o).length<=o.length+l.length:=by
  intro l
  induction l with
  |nil=>intro o;simp
  |cons x l ih=>
   intro o;rw[List.foldl_cons];have:=ih (insV x o);have:=gF1 x o
   rw[List.length_cons];omega
 have:=key l [];simpa [srtV]using this
def comL(s t:Sg)(l:List Vc):List Vc:=l.filter fun p=>decB (Com s t p)
theorem gD6(s t:Sg)(D:List Vc)(x:Vc):comL s t (D++[x])=open Classical in if Com s t x then comL s t D++[x]else comL s t D:=by
 unfold comL;rw[List.filter_append];by_cases h:Com s t x
 ·rw[if_pos h,List.filter_cons,if_pos (dH.2 h)];rfl
 ·rw[if_neg h,List.filter_cons,if_neg (by rw[dH];exact h)];simp
def comS(s t:Sg):List Vc:=srtV (comL s t [s.1,s.2,t.1,t.2])
theorem gF8{s t:Sg}{p:Vc}:p∈comS s t↔uH s t p/\Com s t p:=by
 unfold comS;rw[(gB5 _).2];unfold comL;rw[List.mem_filter,dH];unfold uH;simp
theorem gC7{s t:Sg}(hs:bI s)(ht:bI t):(1< (comS s t).length->dG s t=3)/\((comS s t).length=1->dG s t=1)/\((comS s t).length=0->zT9 s t->dG s t=2)/\((comS s t).length=0->¬zT9 s t->dG s t=0):=by
 have h:=tells hs ht;have hv:=dM4 (s:=s) (t:=t)
 have hp:=(gB5 (comL s t [s.1,s.2,t.1,t.2])).1;have hm:∀p,p∈comS s t↔uH s t p/\Com s t p:=fun p=>gF8
 change (comS s t).Pairwise kF at hp;generalize comS s t=l at*
 match l,hp,hm with
 | [],hp,hm=>
   have hno:¬∃p,uH s t p/\Com s t p:=by
    rintro⟨p,q⟩;have:=(hm p).2 q;cases this
   refine⟨fun q=>HY,fun q=>HY,fun _ hc=>h.cross.2 ⟨hno,hc⟩,fun _ hc=>?_⟩;rcases hv with q|q|q|q
   ·exact q
   ·exact absurd (h.touch.2 (.inl q)) hno
   ·exact absurd (h.cross.1 q).2 hc
   ·exact absurd (h.touch.2 (.inr q)) hno
 | [x],hp,hm=>
   refine⟨fun q=>HY,fun _=>?_,fun q=>HY,fun q=>HY⟩;have hx:=(hm x).1 Af
   rcases h.touch.1 ⟨x,hx⟩with q|q
   ·exact q
   ·obtain⟨p,p',h1,h2,h3,h4,h5⟩:=h.over.1 q
    have e1:=(hm p).2 ⟨h1,h4⟩;have e2:=(hm p').2 ⟨h2,h5⟩
    exact absurd ((List.mem_singleton.1 e1).trans (List.mem_singleton.1 e2).symm) h3
 |x::y::l,hp,hm=>
  refine⟨fun _=>?_,fun q=>HY,fun q=>HY,fun q=>HY⟩;have hx:=(hm x).1 Af
  have hy:=(hm y).1 Af
  have hxy:x≠y:=by
   rintro rfl;have:=(List.pairwise_cons.1 hp).1 x Af;exact fJ8 this this
  exact h.over.2 ⟨x,y,hx.1,hy.1,hxy,hx.2,hy.2⟩
theorem fF3{r:Rg}(h:3<=r.length){i:Nat}(hi:i<r.length):aJ4 r i∈bF r:=(bC9 h).2 ⟨i,hi,rfl⟩
theorem fP4{r:Rg}{i:Nat}(hi:i+1<r.length):iU r i=r.getD (i+1) z0:=by unfold iU;rw[Nat.mod_eq_of_lt hi]
theorem fJ5{r:Rg}(h:0<r.length):iU r (r.length-1)=r.getD 0 z0:=by unfold iU;rw[show r.length-1+1=r.length by omega,Nat.mod_self]
theorem fK4{r:Rg}(h:dM r){i k:Nat}(hik:i<k)(hk:k<r.length){p:Vc}(h1:eX (aJ4 r i) p)(h2:eX (aJ4 r k) p):
 (k=i+1/\p=iU r i)\/(i=0/\k=r.length-1/\p=r.getD 0 z0):=by
 have h3:=h.1;have hn:=h.2.2.1
 have ht:=fU3.1 h.2.2.2.2.1;have o1:=jO hn (fF3 h3 (show i<r.length from Aa))
 have o2:=jO hn (fF3 h3 hk);have hp:=(fR4.1 h).2.2.2.2.1 i k hik hk
 have hsm:∀j,Sm4 (r.getD (j% r.length) z0):=fun j=>vN hn (aE1 (Nat.mod_lt _ Aa));unfold fM5 at hp;rw[fH0 h3 Aa,fH0 h3 hk]at hp;by_cases ha:adj r.length i k
 ·rcases ha with rfl|⟨rfl,rfl⟩
  ·left
   refine⟨rfl,?_⟩;have hx:=fH4 (vN hn (aE1 (show i<r.length from Aa))) (hsm (i+1)) (hsm (i+2)) (ht i Aa);refine eO4 o1 o2 ?_ ⟨h1,h2⟩ ⟨cN1 o1,?_⟩
   ·show X (dif (iU r i) (r.getD i z0)) (dif (iU r (i+1)) (r.getD (i+1) z0))≠0
    unfold iU;rw[Nat.mod_eq_of_lt hk]at hx⊢;exact hx
   ·have e:(aJ4 r (i+1)).1=iU r i:=(fP4 hk).symm
    show eX (aJ4 r (i+1)) (iU r i);rw[<-e];exact rH o2
  ·right
   refine⟨rfl,rfl,?_⟩;have hx:=fH4 (vN hn (aE1 hk)) (hsm (r.length-1+1)) (hsm (r.length-1+2)) (ht (r.length-1) hk);have e1:(r.length-1+1)% r.length=0:=EZ
   have e2:(r.length-1+2)% r.length=1:=Cj;rw[e1,e2]at hx;refine eO4 o1 o2 ?_ ⟨h1,h2⟩ ⟨rH o1,?_⟩
   ·show X (dif (iU r 0) (r.getD 0 z0)) (dif (iU r (r.length-1)) (r.getD (r.length-1) z0))≠0
    rw[fP4 (show 0+1<r.length from Aa),fJ5 Aa];intro q;apply hx;rw[eB7,q];rfl
   ·have e:(aJ4 r (r.length-1)).2=r.getD 0 z0:=fJ5 Aa
    show eX (aJ4 r (r.length-1)) (r.getD 0 z0);rw[<-e];exact cN1 o2
 ·exact(eZ7 o1 o2 (aG8 h (fF3 h3 Aa)) (aG8 h (fF3 h3 hk)) (hp.2 ha) h1 h2).elim
def Vtx(r:Rg)(p:Vc)(j:Nat):Prop:=j<r.length/\r.getD j z0=p
def Edg(r:Rg)(p:Vc)(j:Nat):Prop:=j<r.length/\r.getD j z0≠p/\iU r j≠p/\eX (aJ4 r j) p
theorem fF1{r:Rg}(h:dM r){i:Nat}(hi:i<r.length):r.getD i z0≠iU r i:=aG8 h (fF3 h.1 hi)
theorem fQ2{r:Rg}(h:dM r){p:Vc}{j:Nat}(hj:Vtx r p j):eX (aJ4 r j) p:=by
 have:=rH (jO h.2.2.1 (fF3 h.1 hj.1));rw[<-hj.2];exact this
theorem gH3{r:Rg}(h:dM r){p:Vc}{i j:Nat}(hi:Vtx r p i)(hj:Vtx r p j)(hij:i<j):False:=by
 rcases fK4 h hij hj.1 (fQ2 h hi) (fQ2 h hj)with⟨e,q⟩|⟨e1,e2,q⟩
 ·exact fF1 h hi.1 (hi.2.trans q)
 ·have:=fF1 h hj.1
  rw[e2,fJ5 EU,<-q,<-e2]at this;exact this hj.2
theorem gF4{r:Rg}(h:dM r){p:Vc}{i j:Nat}(hi:Vtx r p i)(hj:Vtx r p j):i=j:=by
 rcases Nat.lt_trichotomy i j with q|q|q
 ·exact(gH3 h hi hj q).elim
 ·exact q
 ·exact(gH3 h hj hi q).elim
theorem fU6{r:Rg}(h:dM r){p:Vc}{j m:Nat}(hj:Vtx r p j)(hm:Edg r p m):False:=by
 rcases Nat.lt_trichotomy j m with q|q|q
 ·rcases fK4 h q hm.1 (fQ2 h hj) hm.2.2.2 with⟨e,k⟩|⟨e1,e2,k⟩
  ·subst e;rw[fP4 hm.1]at k;exact hm.2.1 k.symm
  ·have:=hm.2.2.1
   rw[e2,fJ5 EU]at this;exact this k.symm
 ·subst q;exact hm.2.1 hj.2
 ·rcases fK4 h q hj.1 hm.2.2.2 (fQ2 h hj)with⟨e,k⟩|⟨e1,e2,k⟩
  ·exact hm.2.2.1 k.symm
  ·subst e1;exact hm.2.1 k.symm
theorem gH1{r:Rg}(h:dM r){p:Vc}{i m:Nat}(hi:Edg r p i)(hm:Edg r p m)(q:i<m):False:=by
 rcases fK4 h q hm.1 hi.2.2.2 hm.2.2.2 with⟨e,k⟩|⟨e1,e2,k⟩
 ·exact hi.2.2.1 k.symm
 ·subst e1;exact hi.2.1 k.symm
theorem gF3{r:Rg}(h:dM r){p:Vc}{i j:Nat}(hi:Edg r p i)(hj:Edg r p j):i=j:=by
 rcases Nat.lt_trichotomy i j with q|q|q
 ·exact(gH1 h hi hj q).elim
 ·exact q
 ·exact(gH1 h hj hi q).elim
def fE8(i:Nat)(x:Sg):Sg:=if 0<i then(x.2,x.1)else x
def vSec(r:Rg)(p:Vc)(j:Nat):Sg:=(vsub (iU r j) p,vsub (mY r j) p)
def eSec(r:Rg)(m:Nat):Sg:=(vsub (iU r m) (r.getD m z0),vsub (r.getD m z0) (iU r m))
def Sec(i:Nat)(r:Rg)(p:Vc)(x:Sg):Prop:=(∃j,Vtx r p j/\x=fE8 i (vSec r p j))\/(∃m,Edg r p m/\DirS x (fE8 i (eSec r m))/\SmV x.1/\SmV x.2)
open Classical in
def secV(i:Nat)(r:Rg)(p:Vc)(k:Nat):Option Sg:=
 if iU r k=p then some (fE8 i (vsub (r.getD ((k+2)% r.length) z0) p,vsub (r.getD k z0) p))
 else if r.getD k z0≠p/\eX (r.getD k z0,iU r k) p then some (fE8 i (eSec r k))else none
def secR(i:Nat)(r:Rg)(p:Vc):Option Sg:=(List.range r.length).findSome? (secV i r p)
def secL(p:Vc):Nat->List Rg->Option Sg
 |_,[] =>none
 |i,r::R=>(secR i r p).or (secL p (i+1) R)
theorem fE0{a b:Vc}(ha:Sm4 a)(hb:Sm4 b):vsub a b=dif a b:=by
 unfold Sm4 at*;exact kN ⟨Aa,Aa⟩ ⟨Aa,Aa⟩
theorem fE3{a b:Vc}(ha:Sm4 a)(hb:Sm4 b):SmV (vsub a b):=by
 rw[fE0 ha hb];unfold Sm4 at*;unfold SmV Sm dif;simp only;omega
theorem fM9{a b:Vc}(h:a≠b):dif a b≠(0,0):=bZ7 (fun e=>h e.symm)
theorem gA0{a b p:Vc}(ha:Sm4 a)(hb:Sm4 b)(hp:Sm4 p)(hne:a≠b)(h1:a≠p)(h2:b≠p)(hon:eX (a,b) p):Dir (vsub b p) (vsub b a)/\Dir (vsub a p) (vsub a b):=by
 obtain⟨N,k,hN,hk0,hkN,e1,e2⟩:=cX7 (s:=(a,b)) (jP.2 ⟨ha,hb⟩) hne hon;rw[fE0 hb hp,fE0 hb ha,fE0 ha hp,fE0 ha hb];simp only at e1 e2
 have hk:k≠0:=by
  intro q;rw[q,Int.zero_mul]at e1 e2;apply h1;rcases Int.mul_eq_zero.1 e1 with q1|q1
  ·omega
  ·rcases Int.mul_eq_zero.1 e2 with q2|q2
   ·omega
   ·exact Prod.ext Aa Aa
 have hkn:k≠N:=by
  intro q;rw[q]at e1 e2;apply h2;have q1:=Int.eq_of_mul_eq_mul_left Aa e1;have q2:=Int.eq_of_mul_eq_mul_left Aa e2
  exact Prod.ext Aa Aa
 refine⟨⟨N,N-k,hN,Aa,?_,?_⟩,⟨N,k,hN,Aa,?_,?_⟩⟩<;>(unfold dif;simp only;grind)
theorem fY8{r:Rg}{i:Nat}(h:i<r.length):mY r i∈r:=aE1 (Nat.mod_lt _ Aa)
theorem fX3{a b p:Vc}(h:eX (a,b) p):eX (b,a) p:=by
 have ho:=h.1;have ho':bI (b,a):=⟨ho.2,ho.1⟩
 rw[gZ ho'];obtain⟨h1,h2⟩:=(gZ ho).1 h;refine⟨?_,?_⟩
 ·unfold Bb at*;simp only at*;omega
 ·unfold X dif at*;simp only at*;grind
theorem fN6{r:Rg}{k:Nat}(hk:k<r.length):∃m,m<r.length/\mY r k=r.getD m z0/\iU r m=r.getD k z0:=by
 by_cases h:k=0
 ·subst h
  refine⟨r.length-1,Aa,?_,fJ5 Aa⟩;unfold mY;rw[Nat.mod_eq_of_lt Aa,show 0+r.length-1=r.length-1 from Aa]
 ·refine⟨k-1,Aa,?_,?_⟩
  ·unfold mY
   rw[show k+r.length-1=(k-1)+r.length from Aa,Nat.add_mod_right,Nat.mod_eq_of_lt Aa]
  ·rw[fP4 Aa,show k-1+1=k from Aa]
theorem gA6{i:Nat}{r:Rg}(h:dM r){p:Vc}(hp:Sm4 p){k:Nat}(hk:k<r.length){x:Sg}(hx:dJ i r p k=some x):Sec i r p x:=by
 have hn:=h.2.2.1;have s0:=vN hn (aE1 hk)
 have s1:=vN hn (bA6 hk);have s2:=vN hn (fY8 hk)
 unfold dJ at hx;split at hx
 ·rename_i hv
  cases hx;refine .inl ⟨k,⟨hk,hv⟩,?_⟩;unfold fE8 vSec arN arL;split<;>rfl
 ·rename_i hv
  split at hx
  ·rename_i he
   cases hx;right;by_cases h0:0<i
   ·have eN:arN i r k=mY r k:=if_pos h0
    rw[eN]at he⊢;obtain⟨m,hm,e1,e2⟩:=fN6 hk;rw[e1]at he⊢;have s3:=vN hn (aE1 hm);refine⟨m,⟨hm,he.1,by rw[e2];exact hv,by show eX (r.getD m z0,iU r m) p;rw[e2];exact fX3 he.2⟩,?_,fE3 s3 hp,fE3 s0 hp⟩
    have hne:r.getD m z0≠r.getD k z0:=by rw[<-e2];exact fF1 h hm
    have hd:=gA0 s0 s3 hp (fun q=>hne q.symm) hv he.1 he.2;unfold fE8 eSec;rw[if_pos h0,e2];exact hd
   ·have eN:arN i r k=iU r k:=if_neg h0
    rw[eN]at he⊢;refine⟨k,⟨hk,hv,he.1,he.2⟩,?_,fE3 s1 hp,fE3 s0 hp⟩;have hd:=gA0 s0 s1 hp (fF1 h hk) hv he.1 he.2;unfold fE8 eSec;rw[if_neg h0];exact hd
  ·cases hx
theorem gH9{i:Nat}{r:Rg}(h:dM r){p:Vc}(hp:Sm4 p){k:Nat}(hk:k<r.length){x:Sg}(hx:secV i r p k=some x):Sec i r p x:=by
 have hn:=h.2.2.1;have s0:=vN hn (aE1 hk)
 have s1:=vN hn (bA6 hk);unfold secV at hx;split at hx
 ·rename_i hv
  cases hx;refine .inl ⟨(k+1)% r.length,⟨Nat.mod_lt _ Aa,hv⟩,?_⟩;unfold vSec;have e1:iU r ((k+1)% r.length)=r.getD ((k+2)% r.length) z0:=by unfold iU;rw[Nat.mod_add_mod]
  have e2:mY r ((k+1)% r.length)=r.getD k z0:=by unfold mY;rw[fN2 hk]
  rw[e1,e2]
 ·rename_i hv
  split at hx
  ·rename_i he
   cases hx;refine .inr ⟨k,⟨hk,he.1,hv,he.2⟩,⟨dir_refl _,dir_refl _⟩,?_,?_⟩
   ·unfold fE8 eSec
    split
    ·exact fE3 s0 s1
    ·exact fE3 s1 s0
   ·unfold fE8 eSec
    split
    ·exact fE3 s1 s0
    ·exact fE3 s0 s1
  ·cases hx
theorem gF0{i:Nat}{r:Rg}(h:dM r){p:Vc}{x:Sg}(hx:Sec i r p x):(∃j,Vtx r p j/\∀y,Sec i r p y->y=fE8 i (vSec r p j))\/(∃m,Edg r p m/\∀y,Sec i r p y->DirS y (fE8 i (eSec r m))):=by
 rcases hx with⟨j,hj,_⟩|⟨m,hm,_⟩
 ·left
  refine⟨j,hj,fun y hy=>?_⟩;rcases hy with⟨j',hj',q⟩|⟨m,hm,_⟩
  ·rw[gF4 h hj hj'];exact q
  ·exact(fU6 h hj hm).elim
 ·right
  refine⟨m,hm,fun y hy=>?_⟩;rcases hy with⟨j',hj',_⟩|⟨m',hm',q,_⟩
  ·exact(fU6 h hj' hm).elim
  ·rw[gF3 h hm hm'];exact q
def stdS(i:Nat)(r:Rg)(p:Vc)(z:Sg):Prop:=SecG z/\∀y,Sec i r p y->DirS y z/\SmV y.1/\SmV y.2
theorem fS8{x:Sg}(h:SecG x):SecG (x.2,x.1):=⟨h.s2,h.s1,h.n2,h.n1,fun q=>h.ne (by rw[eB7,dH3];exact⟨by have:=q.1;simp only at this;omega,q.2⟩)⟩
theorem fR0{x:Sg}(i:Nat)(h:SecG x):SecG (fE8 i x):=by
 unfold fE8;split
 ·exact fS8 h
 ·exact h
theorem gF5{i:Nat}{r:Rg}(h:dM r){p:Vc}(hp:Sm4 p){x:Sg}(hx:Sec i r p x):∃z,stdS i r p z:=by
 have hn:=h.2.2.1;rcases gF0 h hx with⟨j,hj,hy⟩|⟨m,hm,hy⟩
 ·have s1:=vN hn (bA6 hj.1)
  have s2:=vN hn (fY8 hj.1)
  have hg:SecG (fE8 i (vSec r p j)):=by
   refine fR0 i ⟨fE3 s1 hp,fE3 s2 hp,?_,?_,?_⟩
   ·show vsub (iU r j) p≠(0,0)
    rw[fE0 s1 hp,<-hj.2];exact fM9 (fun q=>fF1 h hj.1 q.symm)
   ·show vsub (mY r j) p≠(0,0)
    obtain⟨m,hm,e1,e2⟩:=fN6 hj.1;rw[fE0 s2 hp,<-hj.2,e1,<-e2];exact fM9 (fF1 h hm)
   ·show¬(X (vsub (iU r j) p) (vsub (mY r j) p)=0/\_)
    rw[fE0 s1 hp,fE0 s2 hp];rintro⟨q,_⟩;have ht:=h.2.2.2.2.1 j hj.1;rw[hj.2,zH s2 hp s1,tC]at ht;apply ht;unfold X dif at*;simp only at*;grind
  exact⟨_,hg,fun y h'=>by rw[hy y h'];exact⟨⟨dir_refl _,dir_refl _⟩,hg.s1,hg.s2⟩⟩
 ·have s0:=vN hn (aE1 hm.1)
  have s1:=vN hn (bA6 hm.1);have hne:=fF1 h hm.1
  have hg:SecG (fE8 i (eSec r m)):=by
   refine fR0 i ⟨fE3 s1 s0,fE3 s0 s1,?_,?_,?_⟩
   ·show vsub _ _≠(0,0);rw[fE0 s1 s0];exact fM9 (fun q=>hne q.symm)
   ·show vsub _ _≠(0,0);rw[fE0 s0 s1];exact fM9 hne
   ·show¬(_/\0<=Dt (vsub _ _) (vsub _ _))
    rw[fE0 s1 s0,fE0 s0 s1];rintro⟨_,q⟩;have hpos:=cY3 (fM9 (fun q=>hne q.symm):dif (iU r m) (r.getD m z0)≠(0,0));have e:Dt (dif (iU r m) (r.getD m z0)) (dif (r.getD m z0) (iU r m))= -Dt (dif (iU r m) (r.getD m z0)) (dif (iU r m) (r.getD m z0)):=by unfold Dt dif;simp only;grind
    omega
  refine⟨_,hg,fun y h'=>⟨hy y h',?_⟩⟩;rcases h' with⟨j',hj',_⟩|⟨m',hm',_,q⟩
  ·exact(fU6 h hj' hm).elim
  ·exact q
theorem fE5{f:Nat->Option Sg}{n:Nat}:((List.range n).findSome? f=none↔∀k:Nat,k<n->f k=none)/\∀x,(List.range n).findSome? f=some x->∃k:Nat,k<n/\f k=some x:=by
 constructor
 ·rw[List.findSome?_eq_none_iff]
  exact⟨fun h k hk=>h k (List.mem_range.2 hk),fun h k hk=>h k (List.mem_range.1 hk)⟩
 ·intro x h
  obtain⟨k,hk,q⟩:=List.exists_of_findSome?_eq_some h;exact⟨k,List.mem_range.1 hk,q⟩
theorem fI4{i:Nat}{r:Rg}(h:dM r){p:Vc}(hp:Sm4 p){x:Sg}(hx:qY i r p=some x):Sec i r p x:=by
 obtain⟨k,hk,q⟩:=fE5.2 x hx;exact gA6 h hp hk q
theorem fY6{i:Nat}{r:Rg}(h:dM r){p:Vc}(hp:Sm4 p){x:Sg}(hx:secR i r p=some x):Sec i r p x:=by
 obtain⟨k,hk,q⟩:=fE5.2 x hx;exact gH9 h hp hk q
theorem gG0{i:Nat}{r:Rg}(h:dM r){p:Vc}{x:Sg}(hx:Sec i r p x):onR r p:=by
 rcases hx with⟨j,hj,_⟩|⟨m,hm,_⟩
 ·exact⟨aJ4 r j,fF3 h.1 hj.1,fQ2 h hj⟩
 ·exact⟨aJ4 r m,fF3 h.1 hm.1,hm.2.2.2⟩
theorem gI2{i:Nat}{r:Rg}(h:dM r){p:Vc}(hon:onR r p):secR i r p≠none:=by
 obtain⟨e,he,q⟩:=hon;obtain⟨k,hk,rfl⟩:=(bC9 h.1).1 he;intro hno;have hk0:=fE5.1.1 hno k hk;unfold secV at hk0;split at hk0
 ·cases hk0
 ·rename_i h1
  split at hk0
  ·cases hk0
  ·rename_i h2
   have h3:r.getD k z0=p:=by
    by_cases q3:r.getD k z0=p
    ·exact q3
    ·exact absurd ⟨q3,q⟩ h2
   obtain⟨m,hm,e1,e2⟩:=fN6 hk;have hm0:=fE5.1.1 hno m hm;unfold secV at hm0;rw[if_pos (by rw[e2];exact h3)]at hm0
   cases hm0
theorem gB1{i:Nat}{r:Rg}(h:dM r){p:Vc}(hon:onR r p):qY i r p≠none:=by
 obtain⟨e,he,q⟩:=hon;obtain⟨k,hk,rfl⟩:=(bC9 h.1).1 he;intro hno
 have key:∀k,k<r.length->r.getD k z0≠p:=fun k hk hq=>by
  have hk0:=fE5.1.1 hno k hk;unfold dJ at hk0;rw[if_pos hq]at hk0;cases hk0
 by_cases h0:0<i
 ·have hm:(k+1)% r.length<r.length:=Nat.mod_lt _ Aa
  have hk0:=fE5.1.1 hno _ hm
  have eN:arN i r ((k+1)% r.length)=r.getD k z0:=by
   unfold arN;rw[if_pos h0];unfold mY;rw[fN2 hk]
  unfold dJ at hk0;rw[if_neg (key _ hm),eN,if_pos ⟨key k hk,fX3 q⟩]at hk0;cases hk0
 ·have hk0:=fE5.1.1 hno k hk
  have eN:arN i r k=iU r k:=if_neg h0;unfold dJ at hk0;rw[if_neg (key k hk),eN,if_pos ⟨key _ (Nat.mod_lt _ Aa),q⟩]at hk0;cases hk0
def fL4(l:List Rg):Prop:=(∀r∈l,dM r)/\∀(i j:Nat) (a b:Rg),i<j->l[i]? =some a->l[j]? =some b->Apart a b
theorem fO6{s:Sh}(hs:bG s):fL4 (rings s):=by
 refine⟨hs.2.1,fun i j a b hij ha hb=>?_⟩;unfold rings at ha hb;obtain⟨j',rfl⟩:∃j',j=j'+1:=⟨j-1,Aa⟩;rw[List.getElem?_cons_succ]at hb
 cases i with
 |zero=>
  cases ha;exact(bK4 hs (List.mem_of_getElem? hb)).1.symm
 |succ i=>
  rw[List.getElem?_cons_succ]at ha;exact(cS9 hs Aa ha hb).1.symm
theorem gA4{r:Rg}{l:List Rg}(h:fL4 (r::l)):fL4 l:=⟨fun x hx=>h.1 x Bq,fun i j a b hij ha hb=>h.2 (i+1) (j+1) a b Aa (by rw[List.getElem?_cons_succ];exact ha) (by rw[List.getElem?_cons_succ];exact hb)⟩
theorem fH7{p:Vc}(hp:Sm4 p):∀(l:List Rg) (i:Nat),fL4 l->
 ((∃r∈l,onR r p)->∃x y z,nR p i l=some x/\secL p i l=some y/\SecG z/\(DirS x z/\SmV x.1/\SmV x.2)/\(DirS y z/\SmV y.1/\SmV y.2))/\((¬∃r∈l,onR r p)->secL p i l=none)
 | [],i,_=>⟨(fun⟨r,hr,_⟩=>by cases hr),fun _=>rfl⟩
 |r::l,i,h=>by
  have hr:=h.1 r Af;obtain⟨ih1,ih2⟩:=fH7 hp l (i+1) (gA4 h);by_cases hon:onR r p
  ·refine⟨fun _=>?_,fun q=>absurd ⟨r,Af,hon⟩ q⟩
   obtain⟨x,hx⟩:=Option.ne_none_iff_exists'.1 (gB1 (i:=i) hr hon);obtain⟨y,hy⟩:=Option.ne_none_iff_exists'.1 (gI2 (i:=i) hr hon);obtain⟨z,hz,hzz⟩:=gF5 hr hp (fI4 hr hp hx);exact⟨x,y,z,by rw[nR,hx];rfl,by rw[secL,hy];rfl,hz,hzz x (fI4 hr hp hx),hzz y (fY6 hr hp hy)⟩
  ·have n1:qY i r p=none:=by
    cases hq:qY i r p with
    |none=>rfl
    |some x=>exact absurd (gG0 hr (fI4 hr hp hq)) hon
   have n2:secR i r p=none:=by
    cases hq:secR i r p with
    |none=>rfl
    |some x=>exact absurd (gG0 hr (fY6 hr hp hq)) hon
   have e1:nR p i (r::l)=nR p (i+1) l:=by rw[nR,n1];rfl
   have e2:secL p i (r::l)=secL p (i+1) l:=by rw[secL,n2];rfl
   rw[e1,e2];refine⟨fun⟨r',hr',q⟩=>ih1 ?_,fun q=>ih2 (fun⟨r',hr',q'⟩=>q ⟨r',by simp[hr'],q'⟩)⟩
   rcases List.mem_cons.1 hr' with rfl|hr'
   ·exact absurd q hon
   ·exact⟨r',hr',q⟩
def fH8(c s:Sh)(p:Vc):Prop:=∀x y,secL p 0 (rings c)=some x->secL p 0 (rings s)=some y->¬dI3 (x.2,x.1) y
theorem fT3{c s:Sh}(hc:bG c)(hs:bG s){p:Vc}(hp:Sm4 p):touchAt c s (fun x y=>¬jH y (x.2,x.1)) p↔fH8 c s p:=by
 unfold touchAt fH8;rw[fD8 hc hp,fD8 hs hp];obtain⟨a1,a2⟩:=fH7 hp (rings c) 0 (fO6 hc);obtain⟨b1,b2⟩:=fH7 hp (rings s) 0 (fO6 hs);by_cases h1:∃r∈rings c,onR r p
 ·by_cases h2:∃r∈rings s,onR r p
  ·obtain⟨x,y,z,e1,e2,gz,⟨dx,sx1,sx2⟩,dy,sy1,sy2⟩:=a1 h1
   obtain⟨x',y',z',e1',e2',gz',⟨dx',sx1',sx2'⟩,dy',sy1',sy2'⟩:=b1 h2;have q1:jE c p=x:=by unfold jE;rw[e1];rfl
   have q2:jE s p=x':=by unfold jE;rw[e1'];rfl
   rw[q1,q2,e2,e2'];have gy:SecG (y.2,y.1):=fS8 (secG_dir dy ⟨sy1,sy2⟩ gz);have gy':SecG y':=secG_dir dy' ⟨sy1',sy2'⟩ gz'
   have k1:jH x' (x.2,x.1)↔jH z' (z.2,z.1):=fD7 ⟨sx2,sx1⟩ ⟨gz.s2,gz.s1⟩ ⟨sx1',sx2'⟩ ⟨gz'.s1,gz'.s2⟩ ⟨dx.2,dx.1⟩ dx';have k2:jH y' (y.2,y.1)↔jH z' (z.2,z.1):=fD7 ⟨sy2,sy1⟩ ⟨gz.s2,gz.s1⟩ ⟨sy1',sy2'⟩ ⟨gz'.s1,gz'.s2⟩ ⟨dy.2,dy.1⟩ dy'
   have k3:=fD6 gy gy';constructor
   ·intro h u w hu hw
    cases hu;cases hw;rw[<-k3,k2,<-k1];exact h h1 h2
   ·intro h _ _
    rw[k1,<-k2,k3];exact h y y' rfl rfl
  ·rw[b2 h2]
   exact⟨(fun _ x y _ h=>Ah),fun _ _ h=>absurd h h2⟩
 ·rw[a2 h1]
  exact⟨fun _ x y h=>Ah,fun _ h=>absurd h h1⟩
end Go.Proofs.Led
