/-
  What the reference asks of rings, and the points that two segments share, in plain Lean.
-/
import Derived.Test.YtkhhdojgbkophaaGreatDoorB7
set_option linter.unusedVariables false
set_option linter.unusedSimpArgs false
set_option maxRecDepth 100000
set_option maxHeartbeats 8000000
noncomputable section
namespace Go.Proofs.Led
open Go Go.Proofs Go.Ab
def fT6(r:Rg)(i:Nat):Int:=kR (r.getD i z0) (r.getD ((i+1)% r.length) z0) (r.getD ((i+2)% r.length) z0)
theorem fN2{n i:Nat}(h:i<n):((i+1)% n+n-1)% n=i:=by
 by_cases hq:i+1=n
 ·rw[hq,Nat.mod_self,Nat.zero_add,Nat.mod_eq_of_lt Aa];omega
 ·rw[Nat.mod_eq_of_lt (show i+1<n from Aa),show i+1+n-1=i+n from Aa,Nat.add_mod_right,Nat.mod_eq_of_lt h]
theorem fY2{r:Rg}{i:Nat}(h:i<r.length):fT6 r i=kR (mY r ((i+1)% r.length)) (r.getD ((i+1)% r.length) z0) (iU r ((i+1)% r.length)):=by
 unfold fT6 mY iU;rw[fN2 h,Nat.mod_add_mod]
theorem fU3{r:Rg}:(∀i,i<r.length->kR (mY r i) (r.getD i z0) (iU r i)≠0)↔∀i,i<r.length->fT6 r i≠0:=by
 constructor
 ·intro h i hi
  rw[fY2 hi];exact h _ (Nat.mod_lt _ Aa)
 ·intro h i hi
  have hj:(i+r.length-1)% r.length<r.length:=Nat.mod_lt _ Aa;have k:=h _ hj
  rw[fY2 hj]at k
  have e:((i+r.length-1)% r.length+1)% r.length=i:=by
   by_cases hz:i=0
   ·subst hz
    rw[Nat.mod_eq_of_lt (show 0+r.length-1<r.length from Aa),show 0+r.length-1+1=r.length from Aa,Nat.mod_self]
   ·rw[show i+r.length-1=(i-1)+r.length from Aa,Nat.add_mod_right,Nat.mod_eq_of_lt (show i-1<r.length from Aa),show i-1+1=i from Aa,Nat.mod_eq_of_lt hi]
  rw[e]at k;exact k
theorem fZ9{s t:Sg}(hs:bI s)(ht:bI t)(h:t.1=s.2)(hd:xD s t≠0):dG s t=1:=by
 have hA:xA s t=xD s t:=by unfold xA xD;rw[h]
 have hB:xB s t=0:=by unfold xB;rw[h];unfold X;rw[Int.mul_comm];omega
 exact MB
theorem fX6{s t:Sg}(hs:bI s)(ht:bI t)(h:t.2=s.1)(hd:xD s t≠0):dG s t=1:=by
 have hA:xA s t=0:=by
  unfold xA;rw[h];unfold X dif;simp only;grind
 have hB:xB s t=xD s t:=by
  unfold xB xD;rw[h];unfold X dif;simp only;grind
 exact MB
def adj(n i k:Nat):Prop:=k=i+1\/(i=0/\k=n-1)
def fM5(r:Rg)(i k:Nat):Prop:=(adj r.length i k->dG ((bF r).getD i (z0,z0)) ((bF r).getD k (z0,z0))=1)/\(¬adj r.length i k->dG ((bF r).getD i (z0,z0)) ((bF r).getD k (z0,z0))=0)
theorem fH0{r:Rg}(h3:3<=r.length){i:Nat}(hi:i<r.length):(bF r).getD i (z0,z0)=aJ4 r i:=by
 unfold bF;rw[if_neg Aa,List.getD_eq_getElem?_getD,List.getElem?_map,List.getElem?_range hi];rfl
theorem fH4{a b c:Vc}(h1:Sm4 a)(h2:Sm4 b)(h3:Sm4 c)(h:kR a b c≠0):X (dif b a) (dif c b)≠0:=by
 rw[zH h1 h2 h3,tC]at h;have e:X (dif b a) (dif c b)=X (dif b a) (dif c a):=Bq;rw[e];exact h
theorem gG1{r:Rg}(h3:3<=r.length)(hn:bR7 r)(ht:∀i,i<r.length->fT6 r i≠0){i k:Nat}(hik:i<k)(hk:k<r.length)(ha:adj r.length i k):
 dG ((bF r).getD i (z0,z0)) ((bF r).getD k (z0,z0))=1:=by
 have hok:∀j,j<r.length->bI (aJ4 r j):=fun j hj=>jO hn ((bC9 h3).2 ⟨j,hj,rfl⟩);have hsm:∀j,Sm4 (r.getD (j% r.length) z0):=fun j=>vN hn (aE1 (Nat.mod_lt _ Aa))
 rw[fH0 h3 Aa,fH0 h3 hk];rcases ha with rfl|⟨rfl,rfl⟩
 ·refine fZ9 (hok i Aa) (hok _ hk) ?_ ?_
  ·show r.getD (i+1) z0=iU r i
   unfold iU;rw[Nat.mod_eq_of_lt hk]
  ·have:=fH4 (vN hn (aE1 Aa)) (hsm (i+1)) (hsm (i+2)) (ht i Aa)
   show X (dif (iU r i) (r.getD i z0)) (dif (iU r (i+1)) (r.getD (i+1) z0))≠0;unfold iU;rw[Nat.mod_eq_of_lt hk]at this⊢;exact this
 ·refine fX6 (hok 0 Aa) (hok _ hk) ?_ ?_
  ·show iU r (r.length-1)=r.getD 0 z0
   unfold iU;rw[show r.length-1+1=r.length from Aa,Nat.mod_self]
  ·have:=fH4 (vN hn (aE1 hk)) (hsm (r.length-1+1)) (hsm (r.length-1+2)) (ht (r.length-1) hk)
   have e1:(r.length-1+1)% r.length=0:=by rw[show r.length-1+1=r.length by omega,Nat.mod_self]
   have e2:(r.length-1+2)% r.length=1:=by rw[show r.length-1+2=1+r.length by omega,Nat.add_mod_right,Nat.mod_eq_of_lt (by omega)]
   rw[e1,e2]at this;show X (dif (iU r 0) (r.getD 0 z0)) (dif (iU r (r.length-1)) (r.getD (r.length-1) z0))≠0;unfold iU;rw[e1,Nat.zero_add,Nat.mod_eq_of_lt (show 1<r.length from Aa)];intro q;apply this;have e3:X (dif (r.getD 0 z0) (r.getD (r.length-1) z0)) (dif (r.getD 1 z0) (r.getD 0 z0))= -X (dif (r.getD 1 z0) (r.getD 0 z0)) (dif (r.getD 0 z0) (r.getD (r.length-1) z0)):=by unfold X;grind
   rw[e3,q];rfl
theorem fR4{r:Rg}:dM r↔(3<=r.length/\r.length<=40/\bR7 r/\(∀i,i<r.length->fT6 r i≠0)/\(∀i k,i<k->k<r.length->fM5 r i k)/\0<zY r):=by
 unfold dM;rw[fU3];constructor
 ·rintro⟨h1,h2,h3,h4,h5,h6⟩
  refine⟨h1,h2,h3,h5,fun i k hik hk=>⟨fun ha=>gG1 h1 h3 h5 hik hk ha,fun hna=>?_⟩,h4⟩;refine h6 i k hik hk (fun q=>hna (.inl q)) ?_;by_cases q:i=0
  ·exact .inr (fun q2=>hna (.inr ⟨q,q2⟩))
  ·exact .inl q
 ·rintro⟨h1,h2,h3,h4,h5,h6⟩
  refine⟨h1,h2,h3,h6,h4,fun i k hik hk q1 q2=>?_⟩;refine(h5 i k hik hk).2 ?_;rintro(q|⟨q,q'⟩)
  ·exact q1 q
  ·rcases q2 with q2|q2
   ·exact q2 q
   ·exact q2 q'
theorem fD9{a b c:Vc}(h1:kF a b)(h2:kF b c):kF a c:=by
 rw[aG2]at*;omega
theorem fJ8{a b:Vc}(h1:kF a b)(h2:kF b a):False:=by
 rw[aG2]at*;omega
theorem fK0{a b:Vc}(h1:¬kF a b)(h2:a≠b):kF b a:=by
 rw[aG2]at*;have:¬(a.1=b.1/\a.2=b.2):=fun q=>h2 (Prod.ext q.1 q.2);omega
def ahead(x:Vc)(l:List Vc):Nat:=(l.takeWhile fun y=>decB (kF y x)).length
def insV(x:Vc)(l:List Vc):List Vc:=open Classical in
 if l[ahead x l]? =some x then l else l.take (ahead x l)++x::l.drop (ahead x l)
def srtV(l:List Vc):List Vc:=l.foldl (fun o x=>insV x o) []
theorem gD1(D:List Vc)(x:Vc):srtV (D++[x])=insV x (srtV D):=by unfold srtV;rw[List.foldl_append];rfl
theorem fW5(x:Vc)(l:List Vc):ahead x l<=l.length:=by
 unfold ahead;exact(List.takeWhile_sublist _).length_le
theorem fU7{α:Type}{p:α->Bool}:∀ {l:List α} {z:α},z∈l.takeWhile p->p z=true
 | [],z,h=>Ad
 |y::l,z,h=>by
  rw[List.takeWhile_cons]at h;split at h
  ·rcases List.mem_cons.1 h with rfl|h
   ·assumption
   ·exact fU7 h
  ·cases h
theorem fX7{x:Vc}{l:List Vc}{i:Nat}(hi:i<ahead x l)(h:i<l.length):kF l[i] x:=by
 unfold ahead at hi;have h1:(l.takeWhile fun y=>decB (kF y x))[i] =l[i] :=(List.takeWhile_prefix _).getElem hi;have h2:(l.takeWhile fun y=>decB (kF y x))[i]∈l.takeWhile fun y=>decB (kF y x):=List.getElem_mem hi
 rw[<-h1];have h3:=fU7 (p:=fun y=>decB (kF y x)) h2;exact dH.1 h3
theorem fQ4{x:Vc}:∀ {l:List Vc} {y:Vc},l[ahead x l]? =some y->¬kF y x
 | [],y,h=>Ad
 |z::l,y,h=>by
  unfold ahead at h;rw[List.takeWhile_cons]at h;by_cases hz:kF z x
  ·rw[if_pos (dH.2 hz),List.length_cons,List.getElem?_cons_succ]at h
   exact fQ4 h
  ·rw[if_neg (by rw[dH];exact hz)]at h
   cases h;exact hz
theorem gF6{x z:Vc}{l:List Vc}:z∈insV x l↔z=x\/z∈l:=by
 unfold insV;split
 ·rename_i h
  have:=List.mem_of_getElem? h;constructor
  ·exact fun q=> .inr q
  ·rintro(rfl|q)
   ·exact this
   ·exact q
 ·have e:l=l.take (ahead x l)++l.drop (ahead x l):=(List.take_append_drop _ _).symm
  constructor
  ·intro q
   rcases List.mem_append.1 q with q|q
   ·exact .inr (List.mem_of_mem_take q)
   ·rcases List.mem_cons.1 q with q|q
    ·exact .inl q
    ·exact .inr (List.mem_of_mem_drop q)
  ·rintro(q|q)
   ·simp[q]
   ·rw[e]at q
    rcases List.mem_append.1 q with q|q
    ·simp[q]
    ·simp[q]
theorem fY3{x:Vc}{l:List Vc}(h:l.Pairwise kF):(insV x l).Pairwise kF:=by
 unfold insV;split
 ·exact h
 ·rename_i hne
  have h1:=List.pairwise_append.1 ((List.take_append_drop (ahead x l) l).symm▸h)
  have hlow:∀a∈l.take (ahead x l),kF a x:=fun a ha=>by
   obtain⟨i,hi,rfl⟩:=List.mem_iff_getElem.1 ha;rw[List.length_take]at hi;rw[List.getElem_take];exact fX7 Aa Aa
  have hhi:∀b∈l.drop (ahead x l),kF x b:=fun b hb=>by
   cases hd:l[ahead x l]? with
   |none=>
    have:l.length<=ahead x l:=List.getElem?_eq_none_iff.1 hd;rw[List.drop_eq_nil_of_le this]at hb;cases hb
   |some y=>
    have hy:kF x y:=fK0 (fQ4 hd) (fun q=>hne (by rw[hd,q]))
    have hcons:l.drop (ahead x l)=y::l.drop (ahead x l+1):=by
     obtain⟨hlt,he⟩:=List.getElem?_eq_some_iff.1 hd;rw[List.drop_eq_getElem_cons hlt,he]
    rw[hcons]at hb;rcases List.mem_cons.1 hb with rfl|hb
    ·exact hy
    ·have:=h1.2.1
     rw[hcons]at this;exact fD9 hy ((List.pairwise_cons.1 this).1 b hb)
  refine List.pairwise_append.2 ⟨h1.1,List.pairwise_cons.2 ⟨hhi,h1.2.1⟩,fun a ha b hb=>?_⟩;rcases List.mem_cons.1 hb with rfl|hb
  ·exact hlow a ha
  ·exact fD9 (hlow a ha) (hhi b hb)
theorem gB5(l:List Vc):(srtV l).Pairwise kF/\∀z,z∈srtV l↔z∈l:=by
 have key:∀(l o:List Vc),o.Pairwise kF->(l.foldl (fun o x=>insV x o) o).Pairwise kF/\∀z,z∈l.foldl (fun o x=>insV x o) o↔z∈o\/z∈l:=by
  intro l
  induction l with
  |nil=>intro o ho;exact⟨ho,fun z=>Ae⟩
  |cons x l ih=>
   intro o ho;obtain⟨h1,h2⟩:=ih (insV x o) (fY3 ho);refine⟨h1,fun z=>?_⟩;rw[List.foldl_cons,h2,gF6,List.mem_cons];constructor
   ·rintro((h|h)|h)<;>simp[h]
   ·rintro(h|h|h)<;>simp[h]
 obtain⟨h1,h2⟩:=key l [] List.Pairwise.nil;exact⟨h1,fun z=>by unfold srtV;rw[h2];simp⟩
theorem gF1(x:Vc)(l:List Vc):(insV x l).length<=l.length+1:=by
 unfold insV;split
 ·omega
 ·rw[List.length_append,List.length_cons,List.length_take,List.length_drop];omega
theorem gF2(l:List Vc):(srtV l).length<=l.length:=by
 have key:∀(l o:List Vc),(l.foldl (fun o x=>insV x o) o).length<=o.length+l.length:=by
  intro l
  induction l with
  |nil=>intro o;simp
  |cons x l ih=>
   intro o;rw[List.foldl_cons];have:=ih (insV x o);have:=gF1 x o
   rw[List.length_cons];omega
 have:=key l [];simpa [srtV]using this
def comL(s t:Sg)(l:List Vc):List Vc:=l.filter fun p=>decB (Com s t p)
theorem gD6(s t:Sg)(D:List Vc)(x:Vc):comL s t (D++[x])=open Classical in if Com s t x then comL s t D++[x]else comL s t D:=by
 unfold comL;rw[List.filter_append];by_cases h:Com s t x
 ·rw[if_pos h,List.filter_cons,if_pos (dH.2 h)];rfl
 ·rw[if_neg h,List.filter_cons,if_neg (by rw[dH];exact h)];simp
def comS(s t:Sg):List Vc:=srtV (comL s t [s.1,s.2,t.1,t.2])
theorem gF8{s t:Sg}{p:Vc}:p∈comS s t↔uH s t p/\Com s t p:=by
 unfold comS;rw[(gB5 _).2];unfold comL;rw[List.mem_filter,dH];unfold uH;simp
theorem gC7{s t:Sg}(hs:bI s)(ht:bI t):(1< (comS s t).length->dG s t=3)/\((comS s t).length=1->dG s t=1)/\((comS s t).length=0->zT9 s t->dG s t=2)/\((comS s t).length=0->¬zT9 s t->dG s t=0):=by
 have h:=tells hs ht;have hv:=dM4 (s:=s) (t:=t)
 have hp:=(gB5 (comL s t [s.1,s.2,t.1,t.2])).1;have hm:∀p,p∈comS s t↔uH s t p/\Com s t p:=fun p=>gF8
 change (comS s t).Pairwise kF at hp;generalize comS s t=l at*
 match l,hp,hm with
 | [],hp,hm=>
   have hno:¬∃p,uH s t p/\Com s t p:=by
    rintro⟨p,q⟩;have:=(hm p).2 q;cases this
   refine⟨fun q=>EX,fun q=>EX,fun _ hc=>h.cross.2 ⟨hno,hc⟩,fun _ hc=>?_⟩;rcases hv with q|q|q|q
   ·exact q
   ·exact absurd (h.touch.2 (.inl q)) hno
   ·exact absurd (h.cross.1 q).2 hc
   ·exact absurd (h.touch.2 (.inr q)) hno
 | [x],hp,hm=>
   refine⟨fun q=>EX,fun _=>?_,fun q=>EX,fun q=>EX⟩;have hx:=(hm x).1 Ae
   rcases h.touch.1 ⟨x,hx⟩with q|q
   ·exact q
   ·obtain⟨p,p',h1,h2,h3,h4,h5⟩:=h.over.1 q
    have e1:=(hm p).2 ⟨h1,h4⟩;have e2:=(hm p').2 ⟨h2,h5⟩
    exact absurd ((List.mem_singleton.1 e1).trans (List.mem_singleton.1 e2).symm) h3
 |x::y::l,hp,hm=>
  refine⟨fun _=>?_,fun q=>EX,fun q=>EX,fun q=>EX⟩;have hx:=(hm x).1 Ae
  have hy:=(hm y).1 Ae
  have hxy:x≠y:=by
   rintro rfl;have:=(List.pairwise_cons.1 hp).1 x Ae;exact fJ8 this this
  exact h.over.2 ⟨x,y,hx.1,hy.1,hxy,hx.2,hy.2⟩
theorem fD(a b:Vc):Sp 215 [vcV a,vcV b] (vcV (vsub a b)):=by
 refine zsp Tryz.func215 ?_
 repeat' ((conv=>whnf);first|refine zg ?_|refine zi ?_|refine zw ?_|refine zy ?_|refine zo ?_|refine zn ?_|refine zm (fun x hx=>?_)|refine zv ?_|refine zz (fun _=>?_) fun _=>?_|refine zb (fun _=>?_) fun _=>?_|refine zr ?_|refine zq ?_)
 all_goals exact zE
theorem fF0(a b:Vc):Sp 137 [vcV a,vcV b] (I (bZ a b)):=by
 refine zsp Tryz.func137 ?_
 repeat' ((conv=>whnf);first|refine zg ?_|refine zi ?_|refine zw ?_|refine zy ?_|refine zo ?_|refine zn ?_|refine zm (fun x hx=>?_)|refine zv ?_|refine zz (fun _=>?_) fun _=>?_|refine zb (fun _=>?_) fun _=>?_|refine zr ?_|refine zq ?_)
 all_goals exact zE
theorem fO5(n:Int):Sp 214 [I n] (I (cmpI n 0)):=by
 refine zsp Tryz.func214 ?_
 unfold cmpI
 repeat' ((conv=>whnf);first|refine zS ?_|refine zm (fun x hx=>?_)|refine zT ?_ ?_<;>intro _|fail)
 all_goals conv=>whnf
 all_goals refine aG ?_
 ·rw[if_neg (by omega),if_pos (by omega)]
 ·rw[if_pos (by omega)]
 ·rw[if_neg (by omega),if_neg (by omega)]
theorem fG4(a b c:Vc):Sp 175 [vcV a,vcV b,vcV c] (I (kR a b c)):=by
 refine zsp Tryz.func175 ?_
 repeat' ((conv=>whnf);first|refine zc (fD b a) ?_|refine zc (fD c a) ?_|refine zc (fF0 (vsub b a) (vsub c a)) ?_|refine zc (fO5 (bZ (vsub b a) (vsub c a))) ?_|refine zS ?_|refine zm (fun x hx=>?_)|refine zT ?_ ?_<;>intro _|fail)
 all_goals exact zE
theorem fJ0(a b:Vc):Sp 272 [vcV a,vcV b] (DB (kF a b)):=by
 refine zsp Tryz.func272 ?_
 have hr:=aG2 (x:=a) (m:=b)
 generalize kF a b=P at*
 repeat' ((conv=>whnf);first|refine zS ?_|refine zm (fun x hx=>?_)|refine zT ?_ ?_<;>intro _|fail)
 all_goals conv=>whnf
 all_goals refine aA ?_
 all_goals first
  |exact fE (hr.2 (by omega))
  |exact aC (fun h=>by have:=hr.1 h;omega)
  |(refine aS1 ?_;rw[hr];omega)
theorem fP(a:Vc)(m:Int):Sp 213 [vcV a,I m] (DB (within a m)):=by
 refine zsp Tryz.func213 ?_
 repeat' ((conv=>whnf);first|refine zg ?_|refine zi ?_|refine zw ?_|refine zy ?_|refine zo ?_|refine zn ?_|refine zm (fun x hx=>?_)|refine zv ?_|refine zz (fun _=>?_) fun _=>?_|refine zb (fun _=>?_) fun _=>?_|refine zr ?_|refine zq ?_)
 all_goals conv=>whnf
 all_goals refine aA ?_
 all_goals first
  |(refine le_dec ?_;unfold within;omega)
  |exact aC (by unfold within;omega)
theorem fF8(s:Sg):Sp 216 [sgV s] (DB (bI s)):=by
 refine zsp Tryz.func216 ?_
 repeat' ((conv=>whnf);first|refine zc (fP s.1 4000) ?_|refine zc (fP s.2 4000) ?_|refine zS ?_|refine zm (fun x hx=>?_)|refine zT ?_ ?_<;>intro _|fail)
 all_goals conv=>whnf
 all_goals refine aA ?_
 all_goals first
  |(refine fQ ?_;unfold bI;simp[*];done)
  |exact aC (by unfold bI;simp[*])
theorem fN7(s:Sg)(p:Vc):Sp 250 [sgV s,vcV p] (DB (eX s p)):=by
 refine zsp Tryz.func250 ?_
 have hr:eX s p↔bI s/\Bb s p/\kR s.1 s.2 p=0:=by unfold eX;rw[eY3]
 unfold Bb at hr
 have h1:=fF8 s
 have h2:=fG4 s.1 s.2 p
 generalize eX s p=P at*
 generalize bI s=p1 at*
 generalize kR s.1 s.2 p=t at*
 repeat' ((conv=>whnf);first|refine zc h1 ?_|refine zc h2 ?_|refine zS ?_|refine zm (fun x hx=>?_)|refine zT ?_ ?_<;>intro _|fail)
 all_goals conv=>whnf
 all_goals refine aA ?_
 all_goals (try simp only[lH,mG]at*)
 all_goals first
  |(refine sK ?_;rw[hr];exact⟨fun h=>⟨‹_›,⟨by omega,by omega,by omega,by omega⟩,h⟩,fun h=>h.2.2⟩)
  |(refine aC (fun h=>?_);have h':=hr.1 h;first|exact absurd h'.1 ‹_› |(have h'':=h'.2.1;omega))
theorem fG5(s:Sg)(p:Vc)(hs:bI s)(hp:Sm4 p):Sp 218 [sgV s,vcV p] (I (kR s.1 s.2 p)):=by
 refine zsp Tryz.func218 ?_
 have h1:=fF8 s
 have h2:=fG4 s.1 s.2 p
 have h3:=fP p 4000
 have hp':within p 4000:=pY.2 hp
 repeat' ((conv=>whnf);first|(exfalso;contradiction)|refine zc h1 ?_|refine zc h2 ?_|refine zc h3 ?_|refine zS ?_|refine zm (fun x hx=>?_)|refine zT ?_ ?_<;>intro _|fail)
 all_goals exact zE
def nilA(x:V):V:=match x with
 | .lit u=>(match u with| .slice none 0 0=> .sl [] |u=> .lit u)
 |x=>x
def gJ4(σ:St):St:=⟨fun s=>nilA (σ.env s),σ.bx,σ.ar⟩
theorem gI1{w:World}{G:Gh}{v:Value}{x:V}(h:Rv w G v x):Rv w G v (nilA x):=by
 unfold nilA;split
 ·rename_i u
  split
  ·rw[h.bH];exact .slN
  ·exact h
 ·exact h
theorem gJ3{p:Nat->Prop}{q:Nat->Nat->Prop}{x:V}(h:x.ok p q):(nilA x).ok p q:=by
 unfold nilA;split
 ·split
  ·simp only[V.ok,V.okL]
  ·exact h
 ·exact h
theorem gI3(σ:St):Le T σ (gJ4 σ):=by
 unfold Le;intro Φ a w G inv;exact⟨G,{inv with env:=fun s=>gI1 (inv.env s),wfE:=fun s=>gJ3 (inv.wfE s)}⟩
theorem fV9{O:List Vc}{k:Nat}(h:k<O.length):O.getD k z0=O[k] :=by rw[List.getD_eq_getElem?_getD,List.getElem?_eq_getElem h];rfl
theorem fQ6{l:List Vc}{x:Vc}{k:Nat}(hk:k<=ahead x l)(h:l.length<=k\/¬kF (l.getD k z0) x):k=ahead x l:=by
 have hal:=fW5 x l;rcases Nat.lt_or_ge k (ahead x l)with hlt|hge
 ·rcases h with h|h
  ·omega
  ·rw[fV9 Aa]at h
   exact absurd (fX7 hlt Aa) h
 ·omega
theorem fZ6{l:List Vc}{x:Vc}{k:Nat}(hk:k<=ahead x l)(hl:k<l.length)(h:kF (l.getD k z0) x):k<ahead x l:=by
 rcases Nat.lt_or_ge k (ahead x l)with hlt|hge
 ·exact hlt
 ·have e:k=ahead x l:=by omega
  have h1:l[ahead x l]? =some (l.getD k z0):=by rw[<-e,fV9 hl,List.getElem?_eq_getElem hl]
  exact absurd h (fQ4 h1)
theorem gE6{O:List Vc}{x:Vc}{k:Nat}(hk:k=ahead x O)(hl:k<O.length)(h:O.getD k z0=x):insV x O=O:=by
 unfold insV;rw[if_pos];rw[<-hk,List.getElem?_eq_getElem hl,<-fV9 hl,h]
theorem fY7{O:List Vc}{x:Vc}{k:Nat}(hk:k=ahead x O)(h:k<O.length->O.getD k z0≠x):insV x O=O.take k++x::O.drop k:=by
 unfold insV;rw[if_neg,hk];intro q;obtain⟨hl,he⟩:=List.getElem?_eq_some_iff.1 q;rw[<-hk]at hl;refine h hl ?_;rw[fV9 hl];subst hk;exact he
theorem fQ7(l:List Vc)(n:Nat):∀y∈(l.map vcV).take n,y.cells.length=2:=fun y hy=>aM5 l y (List.mem_of_mem_take hy)
theorem fW4(l:List Vc)(n m:Nat):∀y∈((l.map vcV).take m).drop n,y.cells.length=2:=fun y hy=>aM5 l y (List.mem_of_mem_take (List.mem_of_mem_drop hy))
theorem fI6{α:Type}(f:α->V)(O:List α)(x:α)(k:Nat):(O.take k++x::O.drop k).map f=List.take (k:Int).toNat (O.map f)++[f x] ++List.drop (k:Int).toNat (List.take ((O.map f).length:Int).toNat (O.map f)):=by
 rw[Int.toNat_natCast,Int.toNat_natCast,List.take_length,List.map_append,List.map_cons,List.map_take,List.map_drop,List.append_assoc];rfl
theorem fS1(l:List Vc)(hl:l.length<=1000):Sp 251 [.sl (l.map vcV)] (.sl ((srtV l).map vcV)):=by
 refine zsp Tryz.func251 ?_;have hll:(l.map vcV).length=l.length:=Ae
 repeat' ((conv=>whnf);first|refine zS ?_|fail)
 refine aU (A:=List Vc) (B:=List Vc) (fun D R=>mkSt [(0, .sl (l.map vcV)),(3, .sl ((srtV D).map vcV)),(4,I D.length)] [] []) (fun D R=>l=D++R) (fun D R=>R.length) [] l ?_ rfl (fun D R hp=>?_)
 ·refine Le.trans (gI3 _) ?_
  exact zj
 have hsl:=gF2 D;have hsn:=gD1 D
 generalize hO:srtV D=O at*;have hOm:(O.map vcV).length=O.length:=Ae
 cases R with
 |nil=>
  have hlen:l.length=D.length:=Bv;have e:l=D:=Bv
  repeat' ((conv=>whnf);first|(exfalso;omega)|refine zS ?_|refine zT ?_ ?_<;>intro _|fail)
  rw[e,hO];all_goals exact zE
 |cons x R=>
  have hlen:=aO hp
  repeat' ((conv=>whnf);first|(exfalso;omega)|refine zS ?_|refine zT ?_ ?_<;>intro _|fail)
  refine lD (A:=Nat) (fun k=>mkSt [(0, .sl (l.map vcV)),(3, .sl (O.map vcV)),(4,I D.length),(5,I k)] [] []) (fun k=>k<=ahead x O) (fun k=>ahead x O-k) 0 ?_ Aa (fun k hk=>?_)
  ·exact zj
  have hal:=fW5 x O;have hxs:=hsn x
  repeat' ((conv=>whnf);first|(exfalso;omega)|refine aB (l:=l) Aa ?_|refine aB (l:=O) Aa ?_|refine aF (l:=l) (A:=D) (x:=x) (B:=R) hp Aa ?_|refine aU3 (r:=O) (k:=k) Aa Aa ?_|refine zc (fJ0 (O.getD k z0) x) ?_|refine aT1 ?_|refine aB4 (fun hv=>?_) (fun hv=>?_)|refine cC0 [(0,999),(4,999),(49,999),(50,999),(51,999)] Aq Ac ?_|refine iH rfl (.inl rfl) rfl (of_decide_eq_true rfl) (fQ7 O _) (by show 0+(List.take _ (O.map vcV)).length<=1000000000;rw[List.length_take];omega) ?_|refine iH rfl (.inl rfl) rfl (of_decide_eq_true rfl) (dA rfl) (by show(List.take _ (O.map vcV)).length+1<=1000000000;rw[List.length_take];omega) ?_|refine iH rfl (.inl rfl) rfl (of_decide_eq_true rfl) (fW4 O _ _) (by show(List.take _ (O.map vcV)++[_]).length+(List.drop _ (List.take _ (O.map vcV))).length<=1000000000;rw[List.length_append,List.length_take,List.length_singleton,List.length_drop,List.length_take];omega) ?_|refine fU ⟨Aa,Aa,Aa, .inr (aM5 O)⟩ ?_|refine zS ?_|refine zT ?_ ?_<;>intro _|fail)
  all_goals conv=>whnf
  ·refine⟨k+1,?_,?_,?_⟩
   ·exact zj
   ·have:=fZ6 (l:=O) (x:=x) hk Aa Af
    omega
   ·have:=fZ6 (l:=O) (x:=x) hk Aa Af
    omega
  ·have hk':=fQ6 hk (.inr Af)
   refine⟨(D++[x],R),?_,Ag,Ae⟩;show Le T _ (mkSt [(0, .sl (l.map vcV)),(3, .sl ((srtV (D++[x])).map vcV)),(4,I ((D++[x]).length))] [] []);rw[hxs,gE6 hk' Aa hv];exact KE
  ·have hk':=fQ6 hk (.inr Af)
   refine⟨(D++[x],R),?_,Ag,Ae⟩;show Le T _ (mkSt [(0, .sl (l.map vcV)),(3, .sl ((srtV (D++[x])).map vcV)),(4,I ((D++[x]).length))] [] []);rw[hxs,fY7 hk' (fun _=>hv),fI6];exact LV
  ·have hk':=fQ6 hk (.inl Aa)
   refine⟨(D++[x],R),?_,Ag,Ae⟩;show Le T _ (mkSt [(0, .sl (l.map vcV)),(3, .sl ((srtV (D++[x])).map vcV)),(4,I ((D++[x]).length))] [] []);rw[hxs,fY7 hk' (fun h=>Aa),fI6];exact LV
def fM4(E:List Vc)(s t:Sg)(n:Nat)(X:List Vc):St:=match X with
 | [] =>mkSt [(2, .box 2 0),(3, .box 3 0),(5, .arr 16 0),(6,nilV),(7,I n)] [(2,(sgV s).cells),(3,(sgV t).cells)] [(16,⟨0, .own,112,E.map vcV⟩)]
 |x::X=>mkSt [(2, .box 2 0),(3, .box 3 0),(5, .arr 16 0),(6, .arr 41 X.length),(7,I n)] [(2,(sgV s).cells),(3,(sgV t).cells)] [(16,⟨0, .own,112,E.map vcV⟩),(41,⟨X.length, .own,112,(x::X).map vcV⟩)]
theorem gH8(s t:Sg)(D:List Vc):(comL s t D).length<=D.length:=by
 unfold comL;exact List.length_filter_le _ _
theorem fS5(s t:Sg):Sp 217 [sgV s,sgV t] (.sl ((comS s t).map vcV)):=by
 refine zsp Tryz.func217 ?_;have hfin:comS s t=srtV (comL s t [s.1,s.2,t.1,t.2]):=rfl;have hl4: [s.1,s.2,t.1,t.2].length=4:=rfl
 repeat' ((conv=>whnf);first|refine zS ?_|fail)
 refine aU (A:=List Vc) (B:=List Vc) (fun D R=>fM4 [s.1,s.2,t.1,t.2] s t D.length (comL s t D)) (fun D R=> [s.1,s.2,t.1,t.2] =D++R) (fun D R=>R.length) [] [s.1,s.2,t.1,t.2] ?_ rfl (fun D R hp=>?_)
 ·show Le T _ (fM4 [s.1,s.2,t.1,t.2] s t 0 [])
  exact zj
 generalize [s.1,s.2,t.1,t.2] =E at*;have hEm:(E.map vcV).length=E.length:=Ae;have hcl:=gH8 s t D
 have hcs:=gD6 s t D
 cases R with
 |nil=>
  have hlen:E.length=D.length:=by rw[show E=D++[]from hp];simp
  have e:E=D:=by rw[show E=D++[]from hp];simp
  rw[hfin,e];have hso:=fS1 (comL s t D) Aa;generalize comL s t D=X at*
  cases X with
  |nil=>exact IX
  |cons x X=>exact IX
 |cons y R=>
  have hlen:=aO hp;have g1:=fN7 s y
  have g2:=fN7 t y;have hcy:=hcs y
  have hC:Com s t y↔eX s y/\eX t y:=Iff.rfl;generalize Com s t y=c at*;generalize eX s y=c1 at*;generalize eX t y=c2 at*;have hnext:∀X',comL s t (D++[y])=X'->fM4 E s t ((D++[y]).length) (comL s t (D++[y]))=fM4 E s t (D.length+1) X':=fun X' h=>by rw[h,List.length_append];rfl
  generalize comL s t D=X at*
  cases X with
  |nil=>
   repeat' ((conv=>whnf);first|(exfalso;omega)|refine dS rfl rfl Ee ?_|refine aF (l:=E) (A:=D) (x:=y) (B:=R) hp Aa ?_|refine zc g1 ?_|refine zc g2 ?_|refine gX (of_decide_eq_true rfl) (dA rfl) (of_decide_eq_true rfl) ?_|refine zS ?_|refine zT ?_ ?_<;>intro _|fail)
   all_goals conv=>whnf
   ·refine⟨(D++[y],R),?_,Ag,Ae⟩
    have e:=hnext [y] CB;show Le T _ (fM4 E s t ((D++[y]).length) (comL s t (D++[y])));rw[e];exact Kw
   all_goals
    refine⟨(D++[y],R),?_,Ag,Ae⟩;have e:=hnext [] D9;exact MQ
  |cons x X=>
   have hxl:(x::X).length=X.length+1:=rfl
   repeat' ((conv=>whnf);first|(exfalso;omega)|refine dS rfl rfl Ee ?_|refine aF (l:=E) (A:=D) (x:=y) (B:=R) hp Aa ?_|refine zc g1 ?_|refine zc g2 ?_|refine iH rfl (.inl rfl) rfl (of_decide_eq_true rfl) (dA rfl) (show((x::X).map vcV).length+1<=1000000000 from Dp) ?_|refine zS ?_|refine zT ?_ ?_<;>intro _|fail)
   all_goals conv=>whnf
   ·refine⟨(D++[y],R),?_,Ag,Ae⟩
    have e:=hnext (x::(X++[y])) CB;show Le T _ (fM4 E s t ((D++[y]).length) (comL s t (D++[y])));rw[e];unfold fM4;simp only[List.length_append,List.length_singleton,List.map_cons,List.map_append,List.map_nil];exact Kw
   all_goals
    refine⟨(D++[y],R),?_,Ag,Ae⟩;have e:=hnext (x::X) D9;exact MQ
theorem gB9{m n:Int}:W (cmpI m 0*cmpI n 0)=cmpI m 0*cmpI n 0:=by
 rcases fM0 m 0 with h|h|h<;>rcases fM0 n 0 with k|k|k<;>rw[h,k] <;>decide
theorem fI7(s t:Sg)(hs:bI s)(ht:bI t):Sp 177 [sgV s,sgV t] (I (dG s t)):=by
 refine zsp Tryz.func177 ?_;obtain⟨k1,k2,k3,k4⟩:=gC7 hs ht;obtain⟨a,b⟩:=jP.1 hs;obtain⟨c,d⟩:=jP.1 ht
 have hc:zT9 s t↔W (kR s.1 s.2 t.1*kR s.1 s.2 t.2)<0/\W (kR t.1 t.2 s.1*kR t.1 t.2 s.2)<0:=by
  unfold zT9 kR;rw[gB9,gB9]
 have g1:=fF8 s;have g2:=fF8 t
 have g3:=fS5 s t;have g4:=fG5 s t.1 hs c
 have g5:=fG5 s t.2 hs d;have g6:=fG5 t s.1 ht a
 have g7:=fG5 t s.2 ht b;have hl:((comS s t).map vcV).length=(comS s t).length:=Ae
 generalize dG s t=M at*;generalize zT9 s t=C at*;generalize comS s t=L at*;generalize kR s.1 s.2 t.1=a1 at*;generalize kR s.1 s.2 t.2=a2 at*;generalize kR t.1 t.2 s.1=a3 at*;generalize kR t.1 t.2 s.2=a4 at*
 repeat' ((conv=>whnf);first|(exfalso;contradiction)|refine zc g1 ?_|refine zc g2 ?_|refine zc g3 ?_|refine zc g4 ?_|refine zc g5 ?_|refine zc g6 ?_|refine zc g7 ?_|refine zg ?_|refine zi ?_|refine zw ?_|refine zn ?_|refine zz (fun _=>?_) fun _=>?_|refine zr ?_)
 all_goals conv=>whnf
 all_goals first
  |exact aG (k1 Aa).symm
  |exact aG (k2 Aa).symm
  |exact aG (k3 Aa (hc.2 ⟨Af,Af⟩)).symm
  |exact aG (k4 Aa (fun h=>by have:=hc.1 h;omega)).symm
theorem fG8(r:Rg)(hl:r.length<=1000000):Sp 88 [rgV r] (I (zY r)):=by
 refine zsp Tryz.func88 ?_;have hll:(r.map vcV).length=r.length:=Ae
 repeat' ((conv=>whnf);first|refine zS ?_|fail)
 refine lD (A:=Nat) (fun k=>mkSt [(0,rgV r),(3,I (cI8 r k)),(4,I k)] [] []) (fun k=>k<=r.length) (fun k=>r.length-k) 0 ?_ Aa (fun k hk=>?_)
 ·exact zj
 have hs:=bC2 r k;have hc:=fF0 (r.getD k z0) (iU r k)
 by_cases hkr:k<r.length
 ·have hm:(k+1)% r.length<r.length:=Nat.mod_lt _ Aa
  repeat' ((conv=>whnf);first|(exfalso;omega)|refine uM Aa ?_|refine aB (l:=r) DC ?_|refine sW (k:=(k+1)% r.length) (kS Aa) hm ?_|refine aU3 (k:=k) Aa hkr ?_|refine zS ?_|refine zT ?_ ?_<;>intro _|fail)
  all_goals conv=>whnf
  refine⟨k+1,?_,Aa,Aa⟩;simp only[hs];exact zj
 ·have e:k=r.length:=by omega
  subst e;exact zF
theorem fS0(r:Rg)(hl:r.length<=1000000):Sp 174 [rgV r] (DB (bR7 r)):=by
 refine zsp Tryz.func174 ?_;have hll:(r.map vcV).length=r.length:=Ae;have hr:bR7 r↔∀v∈r,within v 2000:=Iff.rfl
 generalize bR7 r=P at*
 repeat' ((conv=>whnf);first|refine zS ?_|fail)
 refine aU (A:=List Vc) (B:=List Vc) (fun D R=>mkSt [(0,rgV r),(3,I D.length)] [] []) (fun D R=>r=D++R/\∀v∈D,within v 2000) (fun D R=>R.length) [] r ?_ ⟨rfl,Ae⟩ (fun D R hp=>?_)
 ·exact zj
 obtain⟨hp,hD⟩:=hp
 cases R with
 |nil=>
  have hlen:r.length=D.length:=Ag
  repeat' ((conv=>whnf);first|(exfalso;omega)|refine zS ?_|refine zT ?_ ?_<;>intro _|fail)
  all_goals conv=>whnf
  refine aA (fE (hr.2 fun v hv=>?_));rw[hp,List.append_nil]at hv;exact hD v hv
 |cons x R=>
  have hlen:=aO hp;have hx:x∈r:=Ag
  have h1:=fP x 2000
  repeat' ((conv=>whnf);first|(exfalso;omega)|refine zS ?_|refine zT ?_ ?_<;>intro _|fail)
  all_goals conv=>whnf
  all_goals first
   |exact aA (aC (fun h=>absurd (hr.1 h x hx) Af))
   |skip
  refine⟨(D++[x],R),?_,⟨Ag,fun v hv=>?_⟩,Ae⟩
  ·exact GY
  ·rcases List.mem_append.1 hv with hv|hv
   ·exact hD v hv
   ·rw[List.mem_singleton.1 hv];assumption
def gJ1(r:Rg)(k:Nat):St:=match k with
 |0=>mkSt [(0,rgV r),(3,nilV),(4,I 0)] [] []
 |k+1=>mkSt [(0,rgV r),(3, .arr 29 k),(4,I ((k:Int)+1))] [] [(29,⟨k, .own,238,(aH8 r (k+1)).map sgV⟩)]
theorem fE7(r:Rg)(hl:r.length<=1000000):Sp 176 [rgV r] (.own 238 ((bF r).map sgV)):=by
 refine zsp Tryz.func176 ?_;have hll:(r.map vcV).length=r.length:=Ae;have h1:=cK3 (r:=r)
 have h2:=bA9 (r:=r);by_cases hr:r.length<2
 ·exact Iu
 rw[h2 hr]
 repeat' ((conv=>whnf);first|(exfalso;omega)|refine zS ?_|refine zT ?_ ?_<;>intro _|fail)
 refine lD (A:=Nat) (gJ1 r) (fun k=>k<=r.length) (fun k=>r.length-k) 0 ?_ Aa (fun k hk=>?_)
 ·exact zj
 have hs:=cS0 r k;have hlen:=bV5 r k
 match k with
 |0=>
  have hm:(0+1)% r.length<r.length:=Nat.mod_lt _ Aa
  repeat' ((conv=>whnf);first|(exfalso;omega)|refine uM Aa ?_|refine aB (l:=r) (by rw[kS (a:=0+1) (by omega)];omega) ?_|refine sW (k:=(0+1)% r.length) (kS Aa) hm ?_|refine aU3 (k:=0) Aa Aa ?_|refine fU ⟨of_decide_eq_true Ac,of_decide_eq_true Ac,dA rfl⟩ ?_|refine zS ?_|refine zT ?_ ?_<;>intro _|fail)
  all_goals conv=>whnf
  refine⟨1,?_,Aa,Aa⟩;exact zj
 |k+1=>
  have hlen':=bV5 r (k+1);have h4:(List.map sgV (aH8 r (k+1))).length+1<=1000000000:=Aa
  by_cases hkr:k+1<r.length
  ·have hm:(k+1+1)% r.length<r.length:=Nat.mod_lt _ Aa
   repeat' ((conv=>whnf);first|(exfalso;omega)|refine uM Aa ?_|refine aB (l:=r) (by rw[kS (a:=k+1+1) (by omega)];omega) ?_|refine sW (k:=(k+1+1)% r.length) (kS Aa) hm ?_|refine aU3 (k:=k+1) Aa hkr ?_|refine iH rfl (.inl rfl) rfl (of_decide_eq_true rfl) (dA rfl) h4 ?_|refine zS ?_|refine zT ?_ ?_<;>intro _|fail)
   all_goals conv=>whnf
   refine⟨k+2,?_,Aa,Aa⟩;show Le T _ (mkSt [(0,rgV r),(3, .arr 29 (k+1)),(4,I (((k+1:Nat):Int)+1))] [] [(29,⟨k+1, .own,238,(aH8 r (k+1+1)).map sgV⟩)]);rw[<-hs];exact zj
  ·exact Iq
theorem gC1{z:Int}{a n:Nat}(h:z=(a:Int))(hn:0<n):0<=z.tmod (n:Int)/\z.tmod (n:Int)< (n:Int):=by
 rw[dX5 h];have:=Nat.mod_lt a hn;omega
theorem fE9(r:Rg)(hl:r.length<=1000000):Sp 134 [rgV r] (DB (dM r)):=by
 refine zsp Tryz.func134 ?_;have hll:(r.map vcV).length=r.length:=Ae;have hr:=fR4 (r:=r)
 have g1:=fS0 r hl;have g2:=fG8 r hl
 have g3:=fE7 r hl;generalize dM r=P at*
 repeat' ((conv=>whnf);first|refine zS ?_|refine zT ?_ ?_<;>intro _|fail)
 all_goals conv=>whnf
 all_goals first
  |exact aA (aC (fun h=>BK))
  |exact aA (aC (fun h=>absurd (hr.1 h).2.2.1 Af))
  |skip
 have h3:3<=r.length:=Aa;have h40:r.length<=40:=Aa
 have hn:bR7 r:=Af;refine lD (A:=Nat) (fun k=>mkSt [(0,rgV r),(3,I r.length),(4,I k)] [] []) (fun k=>k<=r.length/\∀i,i<k->fT6 r i≠0) (fun k=>r.length-k) 0 ?_ ⟨Aa,fun i hi=>Aa⟩ (fun k hk=>?_)
 ·exact zj
 obtain⟨hk,ht⟩:=hk;have e1:=fG4 (r.getD k z0) (r.getD ((k+1)% r.length) z0) (r.getD ((k+2)% r.length) z0);by_cases hkr:k<r.length
 ·have hm1:(k+1)% r.length<r.length:=Nat.mod_lt _ Aa
  have hm2:(k+2)% r.length<r.length:=Nat.mod_lt _ Aa;have t1:=gC1 (z:=(k:Int)+1) (a:=k+1) (n:=r.length) Aa Aa
  have t2:=gC1 (z:=(k:Int)+2) (a:=k+2) (n:=r.length) Aa Aa
  repeat' ((conv=>whnf);first|(exfalso;omega)|refine uM Aa ?_|refine sW (k:=(k+1)% r.length) (dX5 Aa) hm1 ?_|refine sW (k:=(k+2)% r.length) (dX5 Aa) hm2 ?_|refine aU3 (k:=k) Aa hkr ?_|refine zS ?_|refine zT ?_ ?_<;>intro _|fail)
  all_goals conv=>whnf
  ·exact aA (aC (fun h=>(hr.1 h).2.2.2.1 k hkr Af))
  ·exact Je
 have ek:k=r.length:=Aa;subst ek;clear e1;have hel:=dT0 (r:=r) Aa
 have hpr:∀i k,fM5 r i k↔(adj r.length i k->dG ((bF r).getD i (z0,z0)) ((bF r).getD k (z0,z0))=1)/\(¬adj r.length i k->dG ((bF r).getD i (z0,z0)) ((bF r).getD k (z0,z0))=0):=fun i k=>Iff.rfl;have hne:∀e∈bF r,bI e:=fun e he=>jO hn he
 generalize hE:bF r=E at*;have hem:(E.map sgV).length=r.length:=by rw[List.length_map];exact hel
 have hgd:∀i,i<r.length->bI (E.getD i (z0,z0)):=fun i hi=>hne _ (by rw[List.getD_eq_getElem?_getD,List.getElem?_eq_getElem (by omega)];exact List.getElem_mem _)
 repeat' ((conv=>whnf);first|(exfalso;omega)|refine zS ?_|refine zT ?_ ?_<;>intro _|fail)
 refine lD (A:=Nat) (fun i=>mkSt [(0,rgV r),(3,I r.length),(5, .arr 49 0),(6,I i)] [] [(49,⟨0, .own,238,E.map sgV⟩)]) (fun i=>i<=r.length/\∀i' k',i'<i->i'<k'->k'<r.length->fM5 r i' k') (fun i=>r.length-i) 0 ?_ ⟨Aa,fun i' k' hi=>Aa⟩ (fun i hi=>?_)
 ·exact zj
 obtain⟨hi,hap⟩:=hi;by_cases hir:i<r.length
 ·repeat' ((conv=>whnf);first|(exfalso;omega)|refine zS ?_|refine zT ?_ ?_<;>intro _|fail)
  refine lD (A:=Nat) (fun k=>mkSt [(0,rgV r),(3,I r.length),(5, .arr 49 0),(6,I i),(7,I k)] [] [(49,⟨0, .own,238,E.map sgV⟩)]) (fun k=>i<k/\k<=r.length/\∀k',i<k'->k'<k->fM5 r i k') (fun k=>r.length-k) (i+1) ?_ ⟨Aa,Aa,fun k' h1 h2=>Aa⟩ (fun k hk=>?_)
  ·exact zj
  obtain⟨hk0,hk,hin⟩:=hk;by_cases hkr:k<r.length
  ·have hm:=fI7 (E.getD i (z0,z0)) (E.getD k (z0,z0)) (hgd i hir) (hgd k hkr)
   have hq:=hpr i k;unfold adj at hq;generalize dG (E.getD i (z0,z0)) (E.getD k (z0,z0))=m at*
   have hj:fM5 r i k->∀k',i<k'->k'<k+1->fM5 r i k':=fun h k' h1 h2=>by
    by_cases e:k'=k
    ·subst e;exact h
    ·exact hin k' h1 Aa
   have hbad:P->fM5 r i k:=fun h=>(hr.1 h).2.2.2.2.1 i k hk0 hkr;generalize fM5 r i k=p2 at*
   repeat' ((conv=>whnf);first|(exfalso;omega)|refine dS rfl rfl Ef ?_|refine dV6 (k:=i) Aa Aa ?_|refine dV6 (k:=k) Aa Aa ?_|refine zS ?_|refine zT ?_ ?_<;>intro _|fail)
   all_goals conv=>whnf
   all_goals first
    |(refine aA (aC (fun h=>?_));have h':=hq.1 (hbad h);omega)
    |skip
   all_goals
    refine⟨k+1,?_,⟨Aa,Aa,hj (hq.2 ⟨fun h=>Aa,fun h=>Aa⟩)⟩,Aa⟩
    ·exact zj
  ·exact Ia
 ·have ei:i=r.length:=by omega
  subst ei
  repeat' ((conv=>whnf);first|(exfalso;omega)|refine zS ?_|refine zT ?_ ?_<;>intro _|fail)
  all_goals conv=>whnf
  refine aA (aS1 ?_);rw[hr];exact⟨fun h=>⟨h3,h40,hn,ht,fun i k h1 h2=>hap i k Aa h1 h2,h⟩,fun h=>h.2.2.2.2.2⟩
end Go.Proofs.Led
