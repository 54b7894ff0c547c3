/-
  Sectors of directions: as the program and as the reference compare them.
-/
import Derived.Test.YtdjgbagnajikeaaGreatDoorB12
set_option linter.unusedVariables false
set_option linter.unusedSimpArgs false
set_option maxRecDepth 100000
set_option maxHeartbeats 8000000
noncomputable section
namespace Go.Proofs.Led
open Go Go.Proofs Go.Ab
def Dt(u v:Vc):Int:=u.1*v.1+u.2*v.2
def SmV(u:Vc):Prop:=Sm u.1/\Sm u.2
theorem mD{u v:Vc}(a:SmV u)(hv:SmV v):bZ u v=X u v:=iK a.1 a.2 hv.1 hv.2
theorem aE6{u v:Vc}(a:SmV u)(hv:SmV v):vdot u v=Dt u v:=bY4 a.1 a.2 hv.1 hv.2
def aP5(u v:Vc):Prop:=bZ u v=0/\0<vdot u v
def dG5(u v:Vc):Prop:=bZ u v<0\/(bZ u v=0/\vdot u v<0)
open Classical in
def aP1(x:Sg)(d:Vc):Prop:=if aP5 x.1 d\/aP5 x.2 d then False else if¬(dG5 x.1 d↔dG5 x.1 x.2)then dG5 x.1 x.2 else 0<bZ d x.2
def dI3(x y:Sg):Prop:=aP5 x.1 y.1\/aP1 x y.1\/aP1 y x.1
theorem dN3{n c e b f j o:Int}(r:0<n)(q:n*j=e*b-c*f)(s:n*o=e*f+c*b)(w:¬(c=0/\e=0))(t:¬(b=0/\0<=f)):
 (((if 0<c then 0 else if c<0 then 2 else if e<0 then(1:Int)else 3)< (if 0<b then 0 else if b<0 then 2 else if f<0 then 1 else 3))\/
   ((if 0<c then 0 else if c<0 then 2 else if e<0 then(1:Int)else 3)=(if 0<b then 0 else if b<0 then 2 else if f<0 then 1 else 3)/\(if 0<c then 0 else if c<0 then 2 else if e<0 then(1:Int)else 3)≠3/\0<j))↔
 ¬((c=0/\0<e)\/(j=0/\0<o))/\((¬((c<0\/(c=0/\e<0))↔(b<0\/(b=0/\f<0)))/\(b<0\/(b=0/\f<0)))\/(((c<0\/(c=0/\e<0))↔(b<0\/(b=0/\f<0)))/\0<j)):=by
 have l:=fK2 (G:=j) r;have k:=fK2 (G:=o) r
 rw[q]at l;rw[s]at k;clear q s;rcases Int.lt_trichotomy c 0 with d|d|d
 ·rw[Q5 (show¬0<c from Aa),Q9 (show c<0 from Aa)]
  rcases Int.lt_trichotomy b 0 with a|a|a
  ·omega
  ·have g:f<0:=by omega
   have m:=Int.mul_pos_of_neg_of_neg d g;grind
  ·rw[Q9 a]
   clear l k;omega
 ·rw[Q5 (show¬0<c from Aa),Q5 (show¬c<0 from Aa)]
  by_cases i:e<0
  ·rw[Q9 i]
   rcases Int.lt_trichotomy b 0 with a|a|a
   ·have m:=Int.mul_pos_of_neg_of_neg i a
    rw[Q5 (show¬0<b from Aa),Q9 (show b<0 from Aa)];grind
   ·omega
   ·rw[Q9 a]
    clear l k;omega
  ·grind
 ·rw[Q9 d]
  rcases Int.lt_trichotomy b 0 with a|a|a
  ·rw[Q5 (show¬0<b from Aa),Q9 (show b<0 from Aa)]
   have m:=Int.mul_neg_of_pos_of_neg d a;have x:=sgn e b
   have u:=sgn c f;have v:=sgn e f
   grind
  ·have g:f<0:=by omega
   have m:=Int.mul_neg_of_pos_of_neg d g;grind
  ·rw[Q9 a]
   clear l k;omega
theorem lag(u v w:Vc):Dt u u*X v w=Dt u v*X u w-X u v*Dt u w/\Dt u u*Dt v w=Dt u v*Dt u w+X u v*X u w:=by
 unfold Dt X;constructor<;>grind
theorem cY3{u:Vc}(h:u≠(0,0)):0<Dt u u:=by
 unfold Dt;have a:=sgn u.1 u.1;have b:=sgn u.2 u.2
 grind
theorem cP3{u v:Vc}(b:u≠(0,0))(hv:v≠(0,0)):¬(X u v=0/\Dt u v=0):=by
 rintro⟨e,d⟩;have k:=(lag u v v).2;rw[e,d,Int.zero_mul]at k;have a:=cY3 b
 have c:=cY3 hv;have:=Int.mul_pos a c
 omega
theorem eQ2{u v:Vc}(b:SmV u)(hv:SmV v)(a:u≠(0,0))(c:v≠(0,0)):jS u v=3↔aP5 u v:=by
 grind [cP3,mD,aE6,jS,aP5]
structure SecG(x:Sg):Prop where
 s1:SmV x.1
 s2:SmV x.2
 n1:x.1≠(0,0)
 n2:x.2≠(0,0)
 ne:¬(X x.1 x.2=0/\0<=Dt x.1 x.2)
theorem eB7(u v:Vc):X u v= -X v u:=by unfold X;grind
theorem dH3(u v:Vc):Dt u v=Dt v u:=by unfold Dt;grind
theorem bQ9{x:Sg}(a:SecG x){d:Vc}(b:SmV d)(nd:d≠(0,0)):oG x d↔aP1 x d:=by
 obtain⟨c,e⟩:=lag x.1 d x.2;have key:=dN3 (cY3 a.n1) c e (cP3 a.n1 nd) a.ne;unfold oG aP1 jS aP5 dG5;rw[mD a.s1 b,aE6 a.s1 b,mD a.s1 a.s2,aE6 a.s1 a.s2,mD b a.s2,mD a.s2 b,aE6 a.s2 b,eB7 x.2 d,dH3 x.2 d];grind
theorem bJ4{u v:Vc}(a:SmV u)(hv:SmV v)(h:aP5 u v):aP5 v u:=by
 grind [mD,aE6,eB7,dH3,aP5]
theorem fD6{x y:Sg}(b:SecG x)(a:SecG y):jH y x↔dI3 x y:=by
 unfold jH dI3;rw[bQ9 a b.s1 b.n1,bQ9 b a.s1 a.n1,eQ2 a.s1 b.s1 a.n1 b.n1];constructor
 ·rintro(h|h|h)
  ·exact .inl (bJ4 a.s1 b.s1 h)
  ·exact .inr (.inr h)
  ·exact .inr (.inl h)
 ·rintro(h|h|h)
  ·exact .inl (bJ4 b.s1 a.s1 h)
  ·exact .inr (.inr h)
  ·exact .inr (.inl h)
theorem fU1{a b x y:Int}(d:0<a)(c:0<b)(h:a*x=b*y):(0<x↔0<y)/\(x<0↔y<0)/\(x=0↔y=0):=by
 obtain⟨i,e⟩:=fK2 (G:=x) d;obtain⟨g,f⟩:=fK2 (G:=y) c;omega
def Dir(u v:Vc):Prop:=∃N m,0<N/\0<m/\N*u.1=m*v.1/\N*u.2=m*v.2
theorem dir_refl(u:Vc):Dir u u:=⟨1,1,Ai,Ai,rfl,rfl⟩
theorem aQ9{u a v v':Vc}(g:Dir u a)(hv:Dir v v'):((0<X u v↔0<X a v')/\(X u v<0↔X a v'<0)/\(X u v=0↔X a v'=0))/\((0<Dt u v↔0<Dt a v')/\(Dt u v<0↔Dt a v'<0)/\(Dt u v=0↔Dt a v'=0)):=by
 obtain⟨N,m,d,b,j,l⟩:=g;obtain⟨M,k,e,c,n,i⟩:=hv
 have f:(N*M)*X u v=(m*k)*X a v':=by
  unfold X;grind
 have h:(N*M)*Dt u v=(m*k)*Dt a v':=by
  grind [Dt]
 exact⟨fU1 (Int.mul_pos d e) (Int.mul_pos b c) f,fU1 (Int.mul_pos d e) (Int.mul_pos b c) h⟩
theorem cF1{u b:Vc}(d:Dir u b)(h:b≠(0,0)):u≠(0,0):=by
 obtain⟨N,m,f,e,a,c⟩:=d;intro q;rw[q]at a c;simp only[Int.mul_zero]at a c;grind [Int.mul_eq_zero]
def DirS(x y:Sg):Prop:=Dir x.1 y.1/\Dir x.2 y.2
theorem bI4{u a v v':Vc}(e:SmV u)(c:SmV a)(f:SmV v)(b:SmV v')(d:Dir u a)(hv:Dir v v'):jS u v=jS a v':=by
 have k:=aQ9 d hv;simp_all [mD,aE6,Q9,Q5,jS]
theorem bP8{x x':Sg}{d e:Vc}(i:SmV x.1)(a:SmV x'.1)(j:SmV x.2)(c:SmV x'.2)(f:SmV d)(b:SmV e)(h:DirS x x')(g:Dir d e):oG x d↔oG x' e:=by
 unfold oG;rw[bI4 i a f b h.1 g,bI4 i a j c h.1 h.2,mD f j,mD b c];have k:=(aQ9 g h.2).1.1;rw[k]
theorem fD7{x x' y e:Sg}(d:SmV x.1/\SmV x.2)(a:SmV x'.1/\SmV x'.2)(c:SmV y.1/\SmV y.2)(b:SmV e.1/\SmV e.2)(g:DirS x x')(f:DirS y e):jH y x↔jH e x':=by
 unfold jH;rw[bI4 c.1 b.1 d.1 a.1 f.1 g.1,bP8 c.1 b.1 c.2 b.2 d.1 a.1 f g.1,bP8 d.1 a.1 d.2 a.2 c.1 b.1 g f.1]
theorem secG_dir{x x':Sg}(h:DirS x x')(b:SmV x.1/\SmV x.2)(a:SecG x'):SecG x:=by
 have k:=aQ9 h.1 h.2;refine⟨b.1,b.2,cF1 h.1 a.n1,cF1 h.2 a.n2,λq=>a.ne ?_⟩;omega
def fT6(r:Rg)(i:Nat):Int:=kR (r.getD i z0) (r.getD ((i+1)% r.length) z0) (r.getD ((i+2)% r.length) z0)
theorem fN2{n i:Nat}(h:i<n):((i+1)% n+n-1)% n=i:=by
 by_cases a:i+1=n
 ·rw[a,Nat.mod_self,SL,Nat.mod_eq_of_lt Aa];omega
 ·rw[Nat.mod_eq_of_lt (show i+1<n from Aa),show i+1+n-1=i+n from Aa,Nat.add_mod_right,Nat.mod_eq_of_lt h]
theorem fY2{r:Rg}{i:Nat}(h:i<r.length):fT6 r i=kR (mY r ((i+1)% r.length)) (r.getD ((i+1)% r.length) z0) (iU r ((i+1)% r.length)):=by
 unfold fT6 mY iU;rw[fN2 h,Nat.mod_add_mod]
theorem fU3{r:Rg}:(∀i,i<r.length->kR (mY r i) (r.getD i z0) (iU r i)≠0)↔∀i,i<r.length->fT6 r i≠0:=by
 constructor
 ·grind [fY2,RV]
 ·intro h i hi
  have a:(i+r.length-1)% r.length<r.length:=RV _ Aa;have k:=h _ a
  rw[fY2 a]at k
  have e:((i+r.length-1)% r.length+1)% r.length=i:=by
   by_cases b:i=0
   ·subst b
    rw[Nat.mod_eq_of_lt (show 0+r.length-1<r.length from Aa),show 0+r.length-1+1=r.length from Aa,Nat.mod_self]
   ·rw[show i+r.length-1=(i-1)+r.length from Aa,Nat.add_mod_right,Nat.mod_eq_of_lt (show i-1<r.length from Aa),show i-1+1=i from Aa,Nat.mod_eq_of_lt hi]
  rw[e]at k;exact k
theorem fZ9{s t:Sg}(hs:bI s)(ht:bI t)(h:t.1=s.2)(hd:xD s t≠0):dG s t=1:=by
 have hA:xA s t=xD s t:=by unfold xA xD;rw[h]
 have hB:xB s t=0:=by unfold xB;rw[h];unfold X;rw[Int.mul_comm];omega
 exact Pq
theorem fX6{s t:Sg}(hs:bI s)(ht:bI t)(h:t.2=s.1)(hd:xD s t≠0):dG s t=1:=by
 have hA:xA s t=0:=by
  unfold xA;rw[h];unfold X dif;simp only;grind
 have hB:xB s t=xD s t:=by
  unfold xB xD;rw[h];unfold X dif;simp only;grind
 exact Pq
def adj(n i k:Nat):Prop:=k=i+1\/(i=0/\k=n-1)
def fM5(r:Rg)(i k:Nat):Prop:=(adj r.length i k->dG ((bF r).getD i (z0,z0)) ((bF r).getD k (z0,z0))=1)/\(¬adj r.length i k->dG ((bF r).getD i (z0,z0)) ((bF r).getD k (z0,z0))=0)
theorem fH0{r:Rg}(a:3<=r.length){i:Nat}(hi:i<r.length):(bF r).getD i (z0,z0)=aJ4 r i:=by
 unfold bF;grind
theorem fH4{a b c:Vc}(g:Sm4 a)(f:Sm4 b)(d:Sm4 c)(h:kR a b c≠0):X (dif b a) (dif c b)≠0:=by
 rw[zH g f d,tC]at h;have e:X (dif b a) (dif c b)=X (dif b a) (dif c a):=C9;rw[e];exact h
theorem gG1{r:Rg}(e:3<=r.length)(d:bR7 r)(g:∀i,i<r.length->fT6 r i≠0){i k:Nat}(m:i<k)(c:k<r.length)(n:adj r.length i k):
 dG ((bF r).getD i (z0,z0)) ((bF r).getD k (z0,z0))=1:=by
 have a:∀j,j<r.length->bI (aJ4 r j):=λj o=>jO d ((bC9 e).2 ⟨j,o,rfl⟩);have b:∀j,Sm4 (r.getD (j% r.length) z0):=λj=>vN d (aE1 (RV _ Aa))
 rw[fH0 e Aa,fH0 e c];rcases n with rfl|⟨rfl,rfl⟩
 ·refine fZ9 (a i Aa) (a _ c) ?_ ?_
  ·show r.getD (i+1) z0=iU r i
   unfold iU;rw[Nat.mod_eq_of_lt c]
  ·have:=fH4 (vN d (aE1 Aa)) (b (i+1)) (b (i+2)) (g i Aa)
   show X (dif (iU r i) (r.getD i z0)) (dif (iU r (i+1)) (r.getD (i+1) z0))≠0;grind [Nat.mod_eq_of_lt,iU]
 ·refine fX6 (a 0 Aa) (a _ c) ?_ ?_
  ·show iU r (r.length-1)=r.getD 0 z0
   unfold iU;rw[show r.length-1+1=r.length from Aa,Nat.mod_self]
  ·have:=fH4 (vN d (aE1 c)) (b (r.length-1+1)) (b (r.length-1+2)) (g (r.length-1) c)
   have f:(r.length-1+1)% r.length=0:=Ez;have s:(r.length-1+2)% r.length=1:=Cc
   rw[f,s]at this;show X (dif (iU r 0) (r.getD 0 z0)) (dif (iU r (r.length-1)) (r.getD (r.length-1) z0))≠0;unfold iU;rw[f,SL,Nat.mod_eq_of_lt (show 1<r.length from Aa)];intro q;apply this;have l:X (dif (r.getD 0 z0) (r.getD (r.length-1) z0)) (dif (r.getD 1 z0) (r.getD 0 z0))= -X (dif (r.getD 1 z0) (r.getD 0 z0)) (dif (r.getD 0 z0) (r.getD (r.length-1) z0)):=by unfold X;grind
   rw[l,q];rfl
theorem fR4{r:Rg}:dM r↔(3<=r.length/\r.length<=40/\bR7 r/\(∀i,i<r.length->fT6 r i≠0)/\(∀i k,i<k->k<r.length->fM5 r i k)/\0<zY r):=by
 unfold dM;rw[fU3];constructor
 ·rintro⟨e,l,d,j,g,h⟩
  refine⟨e,l,d,g,λi k a f=>⟨λm=>gG1 e d g a f m,λc=>?_⟩,j⟩;refine h i k a f (λq=>c (.inl q)) ?_;by_cases q:i=0
  ·exact .inr (λb=>c (.inr ⟨q,b⟩))
  ·exact .inl q
 ·rintro⟨e,l,d,j,g,h⟩
  refine⟨e,l,d,h,j,λi k a f o b=>?_⟩;refine(g i k a f).2 ?_;rintro(q|⟨q,n⟩)
  ·exact o q
  ·rcases b with b|b
   ·exact b q
   ·exact b n
theorem fD9{a b c:Vc}(e:kF a b)(d:kF b c):kF a c:=by
 rw[aG2]at*;omega
theorem fJ8{a b:Vc}(d:kF a b)(c:kF b a):False:=by
 rw[aG2]at*;omega
theorem fK0{a b:Vc}(d:¬kF a b)(c:a≠b):kF b a:=by
 grind [aG2]
def ahead(x:Vc)(l:List Vc):Nat:=(l.takeWhile λy=>decB (kF y x)).length
def insV(x:Vc)(l:List Vc):List Vc:=open Classical in
 if l[ahead x l]? =some x then l else l.take (ahead x l)++x::l.drop (ahead x l)
def srtV(l:List Vc):List Vc:=l.foldl (λo x=>insV x o) []
theorem gD1(D:List Vc)(x:Vc):srtV (D++[x])=insV x (srtV D):=by unfold srtV;rw[Tz];rfl
theorem fW5(x:Vc)(l:List Vc):ahead x l<=l.length:=by
 grind [List.takeWhile_sublist,ahead]
theorem fU7{a:Type}{p:a->Bool}:∀ {l:List a} {z:a},z∈l.takeWhile p->p z=true
 | [],z,h=>Ah
 |y::l,z,h=>by
  rw[TW]at h;split at h
  ·rcases QO.1 h with rfl|h
   ·assumption
   ·exact fU7 h
  ·cases h
theorem fX7{x:Vc}{l:List Vc}{i:Nat}(hi:i<ahead x l)(h:i<l.length):kF l[i] x:=by
 unfold ahead at hi;have a:(l.takeWhile λy=>decB (kF y x))[i] =l[i] :=(List.takeWhile_prefix _).getElem hi;grind [Tm,fU7,dH]
theorem fQ4{x:Vc}:∀ {l:List Vc} {y:Vc},l[ahead x l]? =some y->¬kF y x
 | [],y,h=>Ah
 |z::l,y,h=>by
  unfold ahead at h;rw[TW]at h;by_cases a:kF z x
  ·rw[Q9 (dH.2 a),QM,RG]at h
   exact fQ4 h
  ·simp_all [Q5,dH]
theorem gF6{x z:Vc}{l:List Vc}:z∈insV x l↔z=x\/z∈l:=by
 grind [QF,RQ,Ri,Rj,insV]
theorem fY3{x:Vc}{l:List Vc}(h:l.Pairwise kF):(insV x l).Pairwise kF:=by
 unfold insV;split
 ·exact h
 ·rename_i f
  have o:=Rx.1 ((RQ (ahead x l) l).symm▸h)
  have i:∀a∈l.take (ahead x l),kF a x:=λa n=>by
   grind [List.mem_iff_getElem,QL,fX7]
  have j:∀b∈l.drop (ahead x l),kF x b:=λb g=>by
   cases c:l[ahead x l]? with
   |none=>
    have:l.length<=ahead x l:=List.getElem?_eq_none_iff.1 c;rw[Uy this]at g;cases g
   |some y=>
    have m:kF x y:=fK0 (fQ4 c) (λq=>f (by rw[c,q]))
    have d:l.drop (ahead x l)=y::l.drop (ahead x l+1):=by
     obtain⟨e,k⟩:=QD.1 c;rw[List.drop_eq_getElem_cons e,k]
    grind [fD9,RH]
  grind [RH,fD9]
theorem gB5(l:List Vc):(srtV l).Pairwise kF/\∀z,z∈srtV l↔z∈l:=by
 have key:∀(l o:List Vc),o.Pairwise kF->(l.foldl (λo x=>insV x o) o).Pairwise kF/\∀z,z∈l.foldl (λo x=>insV x o) o↔z∈o\/z∈l:=by
  intro l
  induction l<;>grind [fY3,gF6]
 grind [List.Pairwise.nil,srtV]
theorem gF1(x:Vc)(l:List Vc):(insV x l).length<=l.length+1:=by
 unfold insV;grind
theorem gF2(l:List Vc):(srtV l).length<=l.length:=by
 have key:∀(l o:List Vc),(l.foldl (λo x=>insV x o) o).length<=o.length+l.length:=by
  intro l
  induction l<;>grind [gF1,QM]
 have:=key l [];simpa [srtV]using this
def comL(s t:Sg)(l:List Vc):List Vc:=l.filter λp=>decB (Com s t p)
theorem gD6(s t:Sg)(D:List Vc)(x:Vc):comL s t (D++[x])=open Classical in if Com s t x then comL s t D++[x]else comL s t D:=by
 unfold comL;rw[List.filter_append];by_cases h:Com s t x
 ·simp_all [Q9,List.filter_cons,dH]
 ·simp_all [Q5,List.filter_cons,dH]
def comS(s t:Sg):List Vc:=srtV (comL s t [s.1,s.2,t.1,t.2])
theorem gF8{s t:Sg}{p:Vc}:p∈comS s t↔uH s t p/\Com s t p:=by
 grind [gB5,dH,comS,comL,uH]
theorem gC7{s t:Sg}(i:bI s)(k:bI t):(1< (comS s t).length->dG s t=3)/\((comS s t).length=1->dG s t=1)/\((comS s t).length=0->zT9 s t->dG s t=2)/\((comS s t).length=0->¬zT9 s t->dG s t=0):=by
 have h:=tells i k;have hv:=dM4 (s:=s) (t:=t)
 have c:=(gB5 (comL s t [s.1,s.2,t.1,t.2])).1;have a:∀p,p∈comS s t↔uH s t p/\Com s t p:=λp=>gF8
 change (comS s t).Pairwise kF at c;generalize comS s t=l at*
 match l,c,a with
 | [],c,a=>
   have b:¬∃p,uH s t p/\Com s t p:=by
    rintro⟨p,q⟩;have:=(a p).2 q;cases this
   refine⟨λq=>G9,λq=>G9,λ_ e=>h.cross.2 ⟨b,e⟩,λ_ e=>?_⟩;rcases hv with q|q|q|q
   ·exact q
   ·exact absurd (h.touch.2 (.inl q)) b
   ·exact absurd (h.cross.1 q).2 e
   ·exact absurd (h.touch.2 (.inr q)) b
 | [x],c,a=>
   refine⟨λq=>G9,λ_=>?_,λq=>G9,λq=>G9⟩;have d:=(a x).1 Ae
   rcases h.touch.1 ⟨x,d⟩with q|q
   ·exact q
   ·obtain⟨p,p',m,u,o,j,n⟩:=h.over.1 q
    have r:=(a p).2 ⟨m,j⟩;grind
 |x::y::l,c,a=>
  refine⟨λ_=>?_,λq=>G9,λq=>G9,λq=>G9⟩;have d:=(a x).1 Ae
  have g:=(a y).1 Ae
  have f:x≠y:=by
   grind [RH,fJ8]
  exact h.over.2 ⟨x,y,d.1,g.1,f,d.2,g.2⟩
theorem fF3{r:Rg}(h:3<=r.length){i:Nat}(hi:i<r.length):aJ4 r i∈bF r:=(bC9 h).2 ⟨i,hi,rfl⟩
theorem fP4{r:Rg}{i:Nat}(hi:i+1<r.length):iU r i=r.getD (i+1) z0:=by unfold iU;rw[Nat.mod_eq_of_lt hi]
theorem fJ5{r:Rg}(h:0<r.length):iU r (r.length-1)=r.getD 0 z0:=by unfold iU;rw[show r.length-1+1=r.length by omega,Nat.mod_self]
theorem fK4{r:Rg}(h:dM r){i k:Nat}(g:i<k)(b:k<r.length){p:Vc}(o:eX (aJ4 r i) p)(n:eX (aJ4 r k) p):
 (k=i+1/\p=iU r i)\/(i=0/\k=r.length-1/\p=r.getD 0 z0):=by
 have f:=h.1;have d:=h.2.2.1
 have m:=fU3.1 h.2.2.2.2.1;have o1:=jO d (fF3 f (show i<r.length from Aa))
 have o2:=jO d (fF3 f b);have l:=(fR4.1 h).2.2.2.2.1 i k g b
 have a:∀j,Sm4 (r.getD (j% r.length) z0):=λj=>vN d (aE1 (RV _ Aa));unfold fM5 at l;rw[fH0 f Aa,fH0 f b]at l;by_cases t:adj r.length i k
 ·rcases t with rfl|⟨rfl,rfl⟩
  ·left
   refine⟨rfl,?_⟩;have c:=fH4 (vN d (aE1 (show i<r.length from Aa))) (a (i+1)) (a (i+2)) (m i Aa);refine eO4 o1 o2 ?_ ⟨o,n⟩ ⟨cN1 o1,?_⟩
   ·show X (dif (iU r i) (r.getD i z0)) (dif (iU r (i+1)) (r.getD (i+1) z0))≠0
    unfold iU;rw[Nat.mod_eq_of_lt b]at c⊢;exact c
   ·have e:(aJ4 r (i+1)).1=iU r i:=(fP4 b).symm
    show eX (aJ4 r (i+1)) (iU r i);rw[<-e];exact rH o2
  ·right
   refine⟨rfl,rfl,?_⟩;have c:=fH4 (vN d (aE1 b)) (a (r.length-1+1)) (a (r.length-1+2)) (m (r.length-1) b);have s:(r.length-1+1)% r.length=0:=Ez
   have u:(r.length-1+2)% r.length=1:=Cc;rw[s,u]at c;refine eO4 o1 o2 ?_ ⟨o,n⟩ ⟨rH o1,?_⟩
   ·show X (dif (iU r 0) (r.getD 0 z0)) (dif (iU r (r.length-1)) (r.getD (r.length-1) z0))≠0
    rw[fP4 (show 0+1<r.length from Aa),fJ5 Aa];intro q;apply c;rw[eB7,q];rfl
   ·have e:(aJ4 r (r.length-1)).2=r.getD 0 z0:=fJ5 Aa
    show eX (aJ4 r (r.length-1)) (r.getD 0 z0);rw[<-e];exact cN1 o2
 ·grind [eZ7,aG8,fF3]
def Vtx(r:Rg)(p:Vc)(j:Nat):Prop:=j<r.length/\r.getD j z0=p
def Edg(r:Rg)(p:Vc)(j:Nat):Prop:=j<r.length/\r.getD j z0≠p/\iU r j≠p/\eX (aJ4 r j) p
theorem fF1{r:Rg}(h:dM r){i:Nat}(hi:i<r.length):r.getD i z0≠iU r i:=aG8 h (fF3 h.1 hi)
theorem fQ2{r:Rg}(h:dM r){p:Vc}{j:Nat}(a:Vtx r p j):eX (aJ4 r j) p:=by
 have:=rH (jO h.2.2.1 (fF3 h.1 a.1));rw[<-a.2];exact this
theorem gH3{r:Rg}(h:dM r){p:Vc}{i j:Nat}(hi:Vtx r p i)(a:Vtx r p j)(b:i<j):False:=by
 rcases fK4 h b a.1 (fQ2 h hi) (fQ2 h a)with⟨e,q⟩|⟨d,c,q⟩
 ·exact fF1 h hi.1 (hi.2.trans q)
 ·have:=fF1 h a.1
  rw[c,fJ5 (by have:=h.1;omega),<-q,<-c]at this
  exact this a.2
theorem gF4{r:Rg}(h:dM r){p:Vc}{i j:Nat}(hi:Vtx r p i)(a:Vtx r p j):i=j:=by
 grind [U1,gH3]
theorem fU6{r:Rg}(h:dM r){p:Vc}{j m:Nat}(b:Vtx r p j)(a:Edg r p m):False:=by
 rcases U1 j m with q|q|q
 ·rcases fK4 h q a.1 (fQ2 h b) a.2.2.2 with⟨e,k⟩|⟨d,c,k⟩
  ·subst e;rw[fP4 a.1]at k;exact a.2.1 k.symm
  ·have:=a.2.2.1
   rw[c,fJ5 (by have:=h.1;omega)]at this
   exact this k.symm
 ·subst q;exact a.2.1 b.2
 ·rcases fK4 h q b.1 a.2.2.2 (fQ2 h b)with⟨e,k⟩|⟨d,c,k⟩
  ·exact a.2.2.1 k.symm
  ·subst d;exact a.2.1 k.symm
theorem gH1{r:Rg}(h:dM r){p:Vc}{i m:Nat}(hi:Edg r p i)(a:Edg r p m)(q:i<m):False:=by
 rcases fK4 h q a.1 hi.2.2.2 a.2.2.2 with⟨e,k⟩|⟨b,c,k⟩
 ·exact hi.2.2.1 k.symm
 ·subst b;exact hi.2.1 k.symm
theorem gF3{r:Rg}(h:dM r){p:Vc}{i j:Nat}(hi:Edg r p i)(a:Edg r p j):i=j:=by
 grind [U1,gH1]
def fE8(i:Nat)(x:Sg):Sg:=if 0<i then(x.2,x.1)else x
def vSec(r:Rg)(p:Vc)(j:Nat):Sg:=(vsub (iU r j) p,vsub (mY r j) p)
def eSec(r:Rg)(m:Nat):Sg:=(vsub (iU r m) (r.getD m z0),vsub (r.getD m z0) (iU r m))
def Sec(i:Nat)(r:Rg)(p:Vc)(x:Sg):Prop:=(∃j,Vtx r p j/\x=fE8 i (vSec r p j))\/(∃m,Edg r p m/\DirS x (fE8 i (eSec r m))/\SmV x.1/\SmV x.2)
open Classical in
def secV(i:Nat)(r:Rg)(p:Vc)(k:Nat):Option Sg:=
 if iU r k=p then some (fE8 i (vsub (r.getD ((k+2)% r.length) z0) p,vsub (r.getD k z0) p))
 else if r.getD k z0≠p/\eX (r.getD k z0,iU r k) p then some (fE8 i (eSec r k))else none
def secR(i:Nat)(r:Rg)(p:Vc):Option Sg:=(List.range r.length).findSome? (secV i r p)
def secL(p:Vc):Nat->List Rg->Option Sg
 |_,[] =>none
 |i,r::R=>(secR i r p).or (secL p (i+1) R)
theorem fE0{a b:Vc}(d:Sm4 a)(c:Sm4 b):vsub a b=dif a b:=by
 unfold Sm4 at*;exact kN ⟨Aa,Aa⟩ ⟨Aa,Aa⟩
theorem fE3{a b:Vc}(d:Sm4 a)(c:Sm4 b):SmV (vsub a b):=by
 grind [fE0,Sm4,SmV,Sm,dif]
theorem fM9{a b:Vc}(h:a≠b):dif a b≠(0,0):=bZ7 (λe=>h e.symm)
theorem gA0{a b p:Vc}(d:Sm4 a)(c:Sm4 b)(i:Sm4 p)(f:a≠b)(u:a≠p)(t:b≠p)(e:eX (a,b) p):Dir (vsub b p) (vsub b a)/\Dir (vsub a p) (vsub a b):=by
 obtain⟨N,k,l,n,o,j,g⟩:=cX7 (s:=(a,b)) (jP.2 ⟨d,c⟩) f e;rw[fE0 c i,fE0 c d,fE0 d i,fE0 d c];simp only at j g
 have r:k≠0:=by
  intro q;rw[q,Int.zero_mul]at j g;grind [Int.mul_eq_zero]
 have m:k≠N:=by
  grind [Int.eq_of_mul_eq_mul_left]
 refine⟨⟨N,N-k,l,Aa,?_,?_⟩,⟨N,k,l,Aa,?_,?_⟩⟩<;>(unfold dif;simp only;grind)
theorem fY8{r:Rg}{i:Nat}(h:i<r.length):mY r i∈r:=aE1 (RV _ Aa)
theorem fX3{a b p:Vc}(h:eX (a,b) p):eX (b,a) p:=by
 have c:=h.1;have d:bI (b,a):=⟨c.2,c.1⟩
 rw[gZ d];obtain⟨f,e⟩:=(gZ c).1 h;refine⟨?_,?_⟩
 ·unfold Bb at*;simp only at*;omega
 ·unfold X dif at*;simp only at*;grind
theorem fN6{r:Rg}{k:Nat}(a:k<r.length):∃m,m<r.length/\mY r k=r.getD m z0/\iU r m=r.getD k z0:=by
 by_cases h:k=0
 ·subst h
  refine⟨r.length-1,Aa,?_,fJ5 Aa⟩;unfold mY;simp_all
 ·refine⟨k-1,Aa,?_,?_⟩
  ·unfold mY
   rw[show k+r.length-1=(k-1)+r.length from Aa,Nat.add_mod_right,Nat.mod_eq_of_lt Aa]
  ·grind [fP4]
theorem gA6{i:Nat}{r:Rg}(h:dM r){p:Vc}(c:Sm4 p){k:Nat}(b:k<r.length){x:Sg}(d:dJ i r p k=some x):Sec i r p x:=by
 have j:=h.2.2.1;have f:=vN j (aE1 b)
 have t:=vN j (bA6 b);have w:=vN j (fY8 b)
 unfold dJ at d;split at d
 ·rename_i hv
  cases d;refine .inl ⟨k,⟨b,hv⟩,?_⟩;unfold fE8 vSec arN arL;split<;>rfl
 ·rename_i hv
  split at d
  ·rename_i a
   cases d;right;by_cases g:0<i
   ·have n:arN i r k=mY r k:=Q9 g
    rw[n]at a⊢;obtain⟨m,l,v,e⟩:=fN6 b;rw[v]at a⊢;have u:=vN j (aE1 l);refine⟨m,⟨l,a.1,by rw[e];exact hv,by show eX (r.getD m z0,iU r m) p;rw[e];exact fX3 a.2⟩,?_,fE3 u c,fE3 f c⟩
    have s:r.getD m z0≠r.getD k z0:=by rw[<-e];exact fF1 h l
    have o:=gA0 f u c (λq=>s q.symm) hv a.1 a.2;unfold fE8 eSec;rw[Q9 g,e];exact o
   ·have n:arN i r k=iU r k:=Q5 g
    rw[n]at a⊢;refine⟨k,⟨b,hv,a.1,a.2⟩,?_,fE3 t c,fE3 f c⟩;have o:=gA0 f t c (fF1 h b) hv a.1 a.2;unfold fE8 eSec;rw[Q5 g];exact o
  ·cases d
theorem gH9{i:Nat}{r:Rg}(h:dM r){p:Vc}(e:Sm4 p){k:Nat}(b:k<r.length){x:Sg}(a:secV i r p k=some x):Sec i r p x:=by
 have c:=h.2.2.1;have f:=vN c (aE1 b)
 have g:=vN c (bA6 b);unfold secV at a;split at a
 ·rename_i hv
  cases a;refine .inl ⟨(k+1)% r.length,⟨RV _ Aa,hv⟩,?_⟩;simp_all [Nat.mod_add_mod,fN2,vSec,iU,mY]
 ·rename_i hv
  split at a
  ·rename_i d
   cases a;refine .inr ⟨k,⟨b,d.1,hv,d.2⟩,⟨dir_refl _,dir_refl _⟩,?_,?_⟩
   ·grind [fE3,fE8,eSec]
   ·grind [fE3,fE8,eSec]
  ·cases a
theorem gF0{i:Nat}{r:Rg}(h:dM r){p:Vc}{x:Sg}(f:Sec i r p x):(∃j,Vtx r p j/\∀y,Sec i r p y->y=fE8 i (vSec r p j))\/(∃m,Edg r p m/\∀y,Sec i r p y->DirS y (fE8 i (eSec r m))):=by
 rcases f with⟨j,e,_⟩|⟨m,b,_⟩
 ·left
  refine⟨j,e,λy c=>?_⟩;rcases c with⟨g,a,q⟩|⟨m,b,_⟩
  ·rw[gF4 h e a];exact q
  ·exact(fU6 h e b).elim
 ·right
  refine⟨m,b,λy c=>?_⟩;rcases c with⟨g,a,_⟩|⟨k,d,q,_⟩
  ·exact(fU6 h a b).elim
  ·rw[gF3 h b d];exact q
def stdS(i:Nat)(r:Rg)(p:Vc)(z:Sg):Prop:=SecG z/\∀y,Sec i r p y->DirS y z/\SmV y.1/\SmV y.2
theorem fS8{x:Sg}(h:SecG x):SecG (x.2,x.1):=⟨h.s2,h.s1,h.n2,h.n1,λq=>h.ne (by rw[eB7,dH3];exact⟨by have:=q.1;simp only at this;omega,q.2⟩)⟩
theorem fR0{x:Sg}(i:Nat)(h:SecG x):SecG (fE8 i x):=by
 unfold fE8;split
 ·exact fS8 h
 ·exact h
theorem gF5{i:Nat}{r:Rg}(h:dM r){p:Vc}(d:Sm4 p){x:Sg}(A:Sec i r p x):∃z,stdS i r p z:=by
 have n:=h.2.2.1;rcases gF0 h A with⟨j,b,s⟩|⟨m,g,s⟩
 ·have a:=vN n (bA6 b.1)
  have l:=vN n (fY8 b.1)
  have k:SecG (fE8 i (vSec r p j)):=by
   refine fR0 i ⟨fE3 a d,fE3 l d,?_,?_,?_⟩
   ·show vsub (iU r j) p≠(0,0)
    rw[fE0 a d,<-b.2];exact fM9 (λq=>fF1 h b.1 q.symm)
   ·show vsub (mY r j) p≠(0,0)
    obtain⟨m,g,B,w⟩:=fN6 b.1;rw[fE0 l d,<-b.2,B,<-w];exact fM9 (fF1 h g)
   ·show¬(X (vsub (iU r j) p) (vsub (mY r j) p)=0/\_)
    rw[fE0 a d,fE0 l d];rintro⟨q,_⟩;have v:=h.2.2.2.2.1 j b.1;rw[b.2,zH l d a,tC]at v;apply v;unfold X dif at*;simp only at*;grind
  exact⟨_,k,λy o=>by rw[s y o];exact⟨⟨dir_refl _,dir_refl _⟩,k.s1,k.s2⟩⟩
 ·have f:=vN n (aE1 g.1)
  have a:=vN n (bA6 g.1);have c:=fF1 h g.1
  have k:SecG (fE8 i (eSec r m)):=by
   refine fR0 i ⟨fE3 a f,fE3 f a,?_,?_,?_⟩
   ·show vsub _ _≠(0,0);rw[fE0 a f];exact fM9 (λq=>c q.symm)
   ·show vsub _ _≠(0,0);rw[fE0 f a];exact fM9 c
   ·show¬(_/\0<=Dt (vsub _ _) (vsub _ _))
    rw[fE0 a f,fE0 f a];rintro⟨_,q⟩;have u:=cY3 (fM9 (λq=>c q.symm):dif (iU r m) (r.getD m z0)≠(0,0));have e:Dt (dif (iU r m) (r.getD m z0)) (dif (r.getD m z0) (iU r m))= -Dt (dif (iU r m) (r.getD m z0)) (dif (iU r m) (r.getD m z0)):=by unfold Dt dif;simp only;grind
    omega
  refine⟨_,k,λy o=>⟨s y o,?_⟩⟩;rcases o with⟨E,t,_⟩|⟨D,C,_,q⟩
  ·exact(fU6 h t g).elim
  ·exact q
theorem fE5{f:Nat->Option Sg}{n:Nat}:((List.range n).findSome? f=none↔∀k:Nat,k<n->f k=none)/\∀x,(List.range n).findSome? f=some x->∃k:Nat,k<n/\f k=some x:=by
 constructor
 ·simp_all
 ·intro x h
  obtain⟨k,a,q⟩:=List.exists_of_findSome?_eq_some h;exact⟨k,Sl.1 a,q⟩
theorem fI4{i:Nat}{r:Rg}(h:dM r){p:Vc}(b:Sm4 p){x:Sg}(c:qY i r p=some x):Sec i r p x:=by
 obtain⟨k,a,q⟩:=fE5.2 x c;exact gA6 h b a q
theorem fY6{i:Nat}{r:Rg}(h:dM r){p:Vc}(b:Sm4 p){x:Sg}(c:secR i r p=some x):Sec i r p x:=by
 obtain⟨k,a,q⟩:=fE5.2 x c;exact gH9 h b a q
theorem gG0{i:Nat}{r:Rg}(h:dM r){p:Vc}{x:Sg}(c:Sec i r p x):onR r p:=by
 rcases c with⟨j,b,_⟩|⟨m,a,_⟩
 ·exact⟨aJ4 r j,fF3 h.1 b.1,fQ2 h b⟩
 ·exact⟨aJ4 r m,fF3 h.1 a.1,a.2.2.2⟩
theorem gI2{i:Nat}{r:Rg}(h:dM r){p:Vc}(c:onR r p):secR i r p≠none:=by
 obtain⟨e,l,q⟩:=c;obtain⟨k,f,rfl⟩:=(bC9 h.1).1 l;intro b;have a:=fE5.1.1 b k f;unfold secV at a;split at a
 ·cases a
 ·rename_i u
  split at a
  ·cases a
  ·rename_i n
   have o:r.getD k z0=p:=by
    by_cases d:r.getD k z0=p
    ·exact d
    ·exact absurd ⟨d,q⟩ n
   obtain⟨m,g,s,t⟩:=fN6 f;have j:=fE5.1.1 b m g;simp_all [Q9,secV]
theorem gB1{i:Nat}{r:Rg}(h:dM r){p:Vc}(d:onR r p):qY i r p≠none:=by
 obtain⟨e,l,q⟩:=d;obtain⟨k,c,rfl⟩:=(bC9 h.1).1 l;intro b
 have key:∀k,k<r.length->r.getD k z0≠p:=λk c m=>by
  have a:=fE5.1.1 b k c;simp_all [Q9,dJ]
 by_cases j:0<i
 ·have g:(k+1)% r.length<r.length:=RV _ Aa
  have a:=fE5.1.1 b _ g
  have f:arN i r ((k+1)% r.length)=r.getD k z0:=by
   simp_all [Q9,fN2,arN,mY]
  unfold dJ at a;rw[Q5 (key _ g),f,Q9 ⟨key k c,fX3 q⟩]at a;cases a
 ·have a:=fE5.1.1 b k c
  have f:arN i r k=iU r k:=Q5 j;unfold dJ at a;rw[Q5 (key k c),f,Q9 ⟨key _ (RV _ Aa),q⟩]at a;cases a
def fL4(l:List Rg):Prop:=(∀r∈l,dM r)/\∀(i j:Nat) (a b:Rg),i<j->l[i]? =some a->l[j]? =some b->Apart a b
theorem fO6{s:Sh}(e:bG s):fL4 (rings s):=by
 refine⟨e.2.1,λi j a b g d c=>?_⟩;unfold rings at d c;obtain⟨f,rfl⟩:∃f,j=f+1:=⟨j-1,Aa⟩;rw[RG]at c
 cases i with
 |zero=>
  cases d;exact(bK4 e (QF c)).1.symm
 |succ i=>
  rw[RG]at d;exact(cS9 e Aa d c).1.symm
theorem gA4{r:Rg}{l:List Rg}(h:fL4 (r::l)):fL4 l:=⟨λx hx=>h.1 x BH,λi j a b e d c=>h.2 (i+1) (j+1) a b Aa (by rw[RG];exact d) (by rw[RG];exact c)⟩
theorem fH7{p:Vc}(c:Sm4 p):∀(l:List Rg) (i:Nat),fL4 l->
 ((∃r∈l,onR r p)->∃x y z,nR p i l=some x/\secL p i l=some y/\SecG z/\(DirS x z/\SmV x.1/\SmV x.2)/\(DirS y z/\SmV y.1/\SmV y.2))/\((¬∃r∈l,onR r p)->secL p i l=none)
 | [],i,_=>⟨(λ⟨r,b,_⟩=>by cases b),λ_=>rfl⟩
 |r::l,i,h=>by
  have b:=h.1 r Ae;obtain⟨o,m⟩:=fH7 c l (i+1) (gA4 h);by_cases a:onR r p
  ·refine⟨λ_=>?_,λq=>absurd ⟨r,Ae,a⟩ q⟩
   obtain⟨x,f⟩:=Option.ne_none_iff_exists'.1 (gB1 (i:=i) b a);obtain⟨y,s⟩:=Option.ne_none_iff_exists'.1 (gI2 (i:=i) b a);obtain⟨z,t,g⟩:=gF5 b c (fI4 b c f);grind [fI4,fY6,nR,secL]
  ·have k:qY i r p=none:=by
    cases d:qY i r p with
    |none=>rfl
    |some x=>exact absurd (gG0 b (fI4 b c d)) a
   have e:secR i r p=none:=by
    cases d:secR i r p with
    |none=>rfl
    |some x=>exact absurd (gG0 b (fY6 b c d)) a
   have j:nR p i (r::l)=nR p (i+1) l:=by rw[nR,k];rfl
   have n:secL p i (r::l)=secL p (i+1) l:=by rw[secL,e];rfl
   rw[j,n];grind
def fH8(c s:Sh)(p:Vc):Prop:=∀x y,secL p 0 (rings c)=some x->secL p 0 (rings s)=some y->¬dI3 (x.2,x.1) y
theorem fT3{c s:Sh}(u:bG c)(A:bG s){p:Vc}(k:Sm4 p):touchAt c s (λx y=>¬jH y (x.2,x.1)) p↔fH8 c s p:=by
 unfold touchAt fH8;rw[fD8 u k,fD8 A k];obtain⟨G,P⟩:=fH7 k (rings c) 0 (fO6 u);obtain⟨D,O⟩:=fH7 k (rings s) 0 (fO6 A);by_cases E:∃r∈rings c,onR r p
 ·by_cases I:∃r∈rings s,onR r p
  ·obtain⟨x,y,z,J,K,g,⟨v,n,o⟩,q,h,e⟩:=G E
   obtain⟨x',B,w,m,l,a,⟨t,f,i⟩,j,d,b⟩:=D I;have H:jE c p=x:=by unfold jE;rw[J];rfl
   have F:jE s p=x':=by unfold jE;rw[m];rfl
   rw[H,F,K,l];have L:SecG (y.2,y.1):=fS8 (secG_dir q ⟨h,e⟩ g);have C:SecG B:=secG_dir j ⟨d,b⟩ a
   have M:jH x' (x.2,x.1)↔jH w (z.2,z.1):=fD7 ⟨o,n⟩ ⟨g.s2,g.s1⟩ ⟨f,i⟩ ⟨a.s1,a.s2⟩ ⟨v.2,v.1⟩ t;have N:jH B (y.2,y.1)↔jH w (z.2,z.1):=fD7 ⟨e,h⟩ ⟨g.s2,g.s1⟩ ⟨d,b⟩ ⟨a.s1,a.s2⟩ ⟨q.2,q.1⟩ j
   grind [fD6]
  ·simp_all
 ·simp_all
theorem fV3{O:List Vc}{k:Nat}(h:k<O.length):O.getD k z0=O[k] :=DK
theorem gE8{a b:Vc}(d:¬kF a b)(c:¬kF b a):a=b:=by
 by_cases h:a=b
 ·exact h
 ·exact absurd (fK0 d h) c
theorem fL2:∀(l:List Vc) (m:Vc),¬kF m (sQ m l)/\∀x∈l,¬kF x (sQ m l)
 | [],m=>⟨(λh=>fJ8 h h),(λx hx=>Hq)⟩
 |y::l,m=>by
  obtain⟨a,b⟩:=fL2 l (open Classical in if kF y m then y else m)
  have e:sQ m (y::l)=sQ (open Classical in if kF y m then y else m) l:=rfl
  rw[e];refine⟨?_,λx hx=>?_⟩
  ·by_cases q:kF y m
   ·rw[Q9 q]at a⊢
    exact λh=>a (fD9 q h)
   ·rw[Q5 q]at a⊢
    exact a
  ·rcases QO.1 hx with rfl|hx
   ·by_cases q:kF x m
    ·rw[Q9 q]at a⊢
     exact a
    ·rw[Q5 q]at a⊢
     intro h;grind [fD9,fK0]
   ·exact b x hx
theorem fL5{v:Vc}:∀ {l:List Vc} {j k:Nat},l[j]? =some v->(∀i,i<j->l[i]? ≠some v)->sN v l k=some (k+j)
 | [],j,k,h,_=>Ht
 |x::l,j,k,h,b=>by
  unfold sN
  cases j with
  |zero=>
   rw[Uw]at h;rw[Q9 (UC h).symm];rfl
  |succ j=>
   have a:=b 0 Aa;rw[Uw]at a;rw[Q5 (λe=>a Il),fL5 (j:=j) (by rw[RG]at h;exact h) (λi hi=>by have:=b (i+1) Aa;rw[RG]at this;exact this)]
   congr 1;omega
def gB7(r:Rg)(k:Nat):Prop:=k<r.length/\(∀j,j<r.length->¬kF (r.getD j z0) (r.getD k z0))/\∀j,j<k->r.getD j z0≠r.getD k z0
theorem fJ7{r:Rg}{k:Nat}(h:gB7 r k):wO r=r.getD k z0/\wL r=r.drop k++r.take k:=by
 obtain⟨a,g,f⟩:=h;have hne:r≠ [] :=λe=>by rw[e]at a;simp at a
 have c:=eH8 hne;have b:∀x∈r,¬kF x (wO r):=Ko
 have e:wO r=r.getD k z0:=by
  obtain⟨i,hi,q⟩:=List.mem_iff_getElem.1 c;grind [gE8,aE1,fV3]
 refine⟨e,?_⟩;unfold wL
 have d:sN (wO r) r 0=some k:=by
  rw[e]
  have:=fL5 (v:=r.getD k z0) (l:=r) (j:=k) (k:=0) (getD_some a) (λi hi=>by
   rw[getD_some Aa];exact λq=>f i hi (UC q))
  rw[this];congr 1;omega
 rw[d];rfl
theorem fY4:∀ {r:Rg},r≠ []->∃k,gB7 r k:=by
 intro r hne;have d:=eH8 hne;have a:∀x∈r,¬kF x (wO r):=Ko
 obtain⟨j,g,m,f⟩:=aT6 (k:=0) d
 have key:∀ {l:List Vc} {k j:Nat} {v:Vc},sN v l k=some j->k<=j/\l[j-k]? =some v/\∀i,i<j-k->l[i]? ≠some v:=by
  intro l
  induction l with
  |nil=>intro k j v h;cases h
  |cons x l n=>
   intro k j v h;unfold sN at h;split at h
   ·simp_all
   ·rename_i e
    obtain⟨q1,q2,c⟩:=n h;grind
 obtain⟨_,q2,c⟩:=key g;rw[TV]at q2 c;obtain⟨b,o⟩:=QD.1 q2;refine⟨j,b,λi hi=>?_,λi hi=>?_⟩
 ·rw[fV3 b,o];exact a _ (aE1 hi)
 ·grind
theorem fU0{r:Rg}(h:r≠ []):(wL r).getD 0 z0∈r:=by
 obtain⟨k,a⟩:=fY4 h;rw[(fJ7 a).2,RJ,List.getElem?_append_left (by rw[Rz];have:=a.1;omega),RI,Tq,QE a.1]
 exact Tm _
def keyR(r:Rg):Vc:=r.getD 0 z0
def fA(h:Rg)(l:List Rg):Nat:=(l.takeWhile λy=>decB (kF (keyR y) (keyR h))).length
def insH(h:Rg)(l:List Rg):List Rg:=l.take (fA h l)++h::l.drop (fA h l)
def srtH(l:List Rg):List Rg:=l.foldl (λo h=>insH h o) []
def fP2(s:Sh):Sh:=⟨wL s.outer,srtH (s.holes.map wL)⟩
theorem fK1(D:List Rg)(x:Rg):srtH (D++[x])=insH x (srtH D):=by unfold srtH;rw[Tz];rfl
theorem fM8{a:Type}(p:a->Bool):∀l:List a,l.take (l.takeWhile p).length=l.takeWhile p/\(∀y,(l.drop (l.takeWhile p).length)[0]? =some y->p y=false)
 | [] =>⟨rfl,λy h=>Ah⟩
 |x::l=>by
  obtain⟨c,b⟩:=fM8 p l;rw[TW];grind
theorem fT7{x:Rg}:∀ {B R:List Rg},(∀y∈B,cR x y<0)->insR cR x (B++R)=B++insR cR x R
 | [],R,_=>rfl
 |y::B,R,h=>by
  show(if cR x y<0 then y::insR cR x (B++R)else x::y::(B++R))=_
  simp_all [Q9,fT7]
theorem gD0{x:Rg}:∀ {R:List Rg},(∀y∈R,¬cR x y<0)->insR cR x R=x::R
 | [],_=>rfl
 |y::R,h=>by
  show(if cR x y<0 then y::insR cR x R else x::y::R)=_
  rw[Q5 (h y Ae)]
theorem gH0{x:Rg}{A:List Rg}(j:A.Pairwise λa b=>kF (keyR a) (keyR b))(l:∀a∈A,keyR a≠keyR x):
 insH x A=(insR cR x A.reverse).reverse/\(insH x A).Pairwise (λa b=>kF (keyR a) (keyR b)):=by
 obtain⟨r,m⟩:=fM8 (λy=>decB (kF (keyR y) (keyR x))) A;have f:A=A.take (fA x A)++A.drop (fA x A):=(RQ _ _).symm
 have c:∀y∈A.take (fA x A),kF (keyR y) (keyR x):=λy hy=>by
  grind [dH,fU7,fA]
 have e:=Rx.1 (f▸j)
 have d:∀y∈A.drop (fA x A),kF (keyR x) (keyR y):=by
  intro y hy;have i:y∈A:=Rj hy
  cases g:A.drop (fA x A)with
  |nil=>rw[g]at hy;cases hy
  |cons z Z=>
   have k:=m z (by show(A.drop (fA x A))[0]? =_;rw[g];rfl)
   grind [Rj,fK0,dW,fD9,RH]
 constructor
 ·unfold insH
  conv=>rhs;rw[f]
  rw[UB,fT7,gD0]
  ·simp
  ·intro y hy
   have:=c y Dk;exact λq=>fJ8 this q
  ·intro y hy
   exact d y Dk
 ·unfold insH
  refine Rx.2 ⟨e.1,RH.2 ⟨d,e.2.1⟩,λa o b n=>?_⟩;grind
theorem fW9{x z:Rg}{A:List Rg}:z∈insH x A↔z=x\/z∈A:=by
 unfold insH;have e:A=A.take (fA x A)++A.drop (fA x A):=(RQ _ _).symm;constructor
 ·intro q
  rcases QJ.1 q with q|q
  ·exact .inr (Ri q)
  ·rcases QO.1 q with q|q
   ·exact .inl q
   ·exact .inr (Rj q)
 ·rintro(q|q)
  ·simp[q]
  ·rw[e]at q
   rcases QJ.1 q with q|q
   ·simp[q]
   ·simp[q]
theorem fW6:∀(R D:List Rg),(D++R).Pairwise (λa b=>keyR a≠keyR b)->(srtH D=(isR cR D).reverse/\(srtH D).Pairwise (λa b=>kF (keyR a) (keyR b))/\∀z,z∈srtH D↔z∈D)->srtH (D++R)=(isR cR (D++R)).reverse
 | [],D,_,h=>by rw[QU];exact h.1
 |x::R,D,c,⟨l,k,d⟩=>by
  have g:∀a∈srtH D,keyR a≠keyR x:=λa i=>by
   have:=(Rx.1 c).2.2 a ((d a).1 i) x Ae;exact this
  obtain⟨j,f⟩:=gH0 k g;have e:D++x::R=(D++[x])++R:=Ae;rw[e]at c⊢;refine fW6 R (D++[x]) c ⟨?_,by rw[fK1];exact f,λz=>?_⟩
  ·rw[fK1,eB2,j,l,List.reverse_reverse]
  ·rw[fK1,fW9,d]
   simp[or_comm]
theorem fV8{s:Sh}(d:bG s):fP2 s=qO s:=by
 have o:dM s.outer:=d.2.1 _ AQ;have m:∀r∈s.holes,dM r:=λr hr=>d.2.1 r Df
 rw[aN9 d];unfold fP2 wW qA;have n:s.holes.map gQ=s.holes.map wL:=SE (λr hr=>bJ7 (m r hr));rw[bJ7 o,n];congr 1
 have f:(s.holes.map wL).Pairwise (λa b=>keyR a≠keyR b):=by
  rw[List.pairwise_map,List.pairwise_iff_getElem];intro i j hi t g q;have c:=(cS9 d g (QE hi) (QE t)).1;have u:s.holes[i]≠ [] :=λe=>by have:=c.ob.1;rw[e]at this;simp at this
  have v:s.holes[j]≠ [] :=λe=>by have:=c.oa.1;rw[e]at this;simp at this
  have k:=fU0 u;have l:=fU0 v
  unfold keyR at q;rw[q]at k;exact c.off (vert_onR c.oa l) (vert_onR c.ob k)
 have:=fW6 (s.holes.map wL) [] (by simpa using f) ⟨rfl,List.Pairwise.nil,λz=>Rt⟩
 simpa using this
theorem gE1{a b:Sh}:rings a=rings b↔a=b:=by
 constructor
 ·intro h
  unfold rings at h;cases a;cases b<;>simp_all
 ·rintro rfl;rfl
theorem fD(a b:Vc):Sp 229 [vcV a,vcV b] (vcV (vsub a b)):=by
 refine zsp Tryz.func229 ?_;exact Ny
theorem fR2(a b:Vc):Sp 344 [vcV a,vcV b] (I (vdot a b)):=by
 refine zsp Tryz.func344 ?_;exact Ny
theorem fF0(a b:Vc):Sp 185 [vcV a,vcV b] (I (bZ a b)):=by
 refine zsp Tryz.func185 ?_;exact Ny
theorem fO5(n:Int):Sp 276 [I n] (I (cmpI n 0)):=by
 refine zsp Tryz.func276 ?_;unfold cmpI
 repeat' ((conv=>whnf);first|refine zS ?_|refine zm (λx a=>?_)|refine zT ?_ ?_<;>intro _|fail)
 all_goals conv=>whnf
 all_goals refine aG ?_
 ·rw[Q5 Aa,Q9 Aa]
 ·rw[Q9 Aa]
 ·rw[Q5 Aa,Q5 Aa]
theorem fG4(a b c:Vc):Sp 224 [vcV a,vcV b,vcV c] (I (kR a b c)):=by
 refine zsp Tryz.func224 ?_
 repeat' ((conv=>whnf);first|refine zc (fD b a) ?_|refine zc (fD c a) ?_|refine zc (fF0 (vsub b a) (vsub c a)) ?_|refine zc (fO5 (bZ (vsub b a) (vsub c a))) ?_|refine zS ?_|refine zm (λx d=>?_)|refine zT ?_ ?_<;>intro _|fail)
 all_goals exact zE
theorem fJ0(a b:Vc):Sp 314 [vcV a,vcV b] (DB (kF a b)):=by
 refine zsp Tryz.func314 ?_;have c:=aG2 (x:=a) (m:=b);generalize kF a b=P at*
 repeat' ((conv=>whnf);first|refine zS ?_|refine zm (λx d=>?_)|refine zT ?_ ?_<;>intro _|fail)
 all_goals conv=>whnf
 all_goals refine aA ?_
 all_goals first
  |exact fE (c.2 Aa)
  |exact aC (λh=>by have:=c.1 h;omega)
  |(refine aS1 ?_;rw[c];omega)
theorem fP(a:Vc)(m:Int):Sp 275 [vcV a,I m] (DB (within a m)):=by
 refine zsp Tryz.func275 ?_
 repeat' ((conv=>whnf);first|refine zg ?_|refine zi ?_|refine zw ?_|refine zy ?_|refine zo ?_|refine zn ?_|refine zm (λx b=>?_)|refine zv ?_|refine zz (λ_=>?_) λ_=>?_|refine zb (λ_=>?_) λ_=>?_|refine zr ?_|refine zq ?_)
 all_goals conv=>whnf
 all_goals refine aA ?_
 all_goals first
  |(refine le_dec ?_;unfold within;omega)
  |exact aC (by unfold within;omega)
theorem fF8(s:Sg):Sp 277 [sgV s] (DB (bI s)):=by
 refine zsp Tryz.func277 ?_
 repeat' ((conv=>whnf);first|refine zc (fP s.1 4000) ?_|refine zc (fP s.2 4000) ?_|refine zS ?_|refine zm (λx a=>?_)|refine zT ?_ ?_<;>intro _|fail)
 all_goals conv=>whnf
 all_goals refine aA ?_
 all_goals first
  |(refine fQ ?_;unfold bI;simp[*];done)
  |exact aC (by unfold bI;simp[*])
theorem fN7(s:Sg)(p:Vc):Sp 317 [sgV s,vcV p] (DB (eX s p)):=by
 refine zsp Tryz.func317 ?_;have a:eX s p↔bI s/\Bb s p/\kR s.1 s.2 p=0:=by unfold eX;rw[eY3]
 unfold Bb at a;have e:=fF8 s;have d:=fG4 s.1 s.2 p
 generalize eX s p=P at*;generalize bI s=f at*;generalize kR s.1 s.2 p=t at*
 repeat' ((conv=>whnf);first|refine zc e ?_|refine zc d ?_|refine zS ?_|refine zm (λx g=>?_)|refine zT ?_ ?_<;>intro _|fail)
 all_goals conv=>whnf
 all_goals refine aA ?_
 all_goals (try simp only[lH,mG]at*)
 all_goals first
  |(refine sK ?_;rw[a];exact⟨λh=>⟨‹_›,⟨Aa,Aa,Aa,Aa⟩,h⟩,λh=>h.2.2⟩)
  |(refine aC (λh=>?_);have b:=a.1 h;first|exact absurd b.1 ‹_› |(have c:=b.2.1;omega))
theorem fG5(s:Sg)(p:Vc)(g:bI s)(a:Sm4 p):Sp 279 [sgV s,vcV p] (I (kR s.1 s.2 p)):=by
 refine zsp Tryz.func279 ?_;have e:=fF8 s;have d:=fG4 s.1 s.2 p
 have b:=fP p 4000;have c:within p 4000:=pY.2 a
 repeat' ((conv=>whnf);first|(exfalso;contradiction)|refine zc e ?_|refine zc d ?_|refine zc b ?_|refine zS ?_|refine zm (λx f=>?_)|refine zT ?_ ?_<;>intro _|fail)
 all_goals exact zE
end Go.Proofs.Led
