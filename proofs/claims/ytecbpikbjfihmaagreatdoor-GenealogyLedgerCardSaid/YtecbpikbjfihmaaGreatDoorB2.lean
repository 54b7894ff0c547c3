/- Lemmas. -/
import Derived.Test.YtecbpikbjfihmaaGreatDoorB1
import Derived.Shelf.Spec.SlicesGrow
set_option linter.all false
set_option autoImplicit true
set_option relaxedAutoImplicit true
set_option maxRecDepth 100000
set_option maxHeartbeats 4000000
noncomputable section
namespace Go.Proofs.Led
open Go Go.Proofs Go.Ab Tryz
def aM3{T:Tab}{P:Program}{σ:St}{f:Operand}{g:FuncId}{d:List V}{ps wr:List Nat}{x y:aA2}{Q:Exit->St->Prop}(c:List (List V))(v:aB0 T P g d c)(u:∀l∈c,l.length=ps.length){A B:Type}(st:A->B->St)(inv:Nat->A->B->Prop)(m:A)(n:B)
 (q:Le T σ (st m n))(r:inv 0 m n)(t:(st m n).ev f= .fn g d)(h:∀k a b l,inv k a b->c[k]? =some l->x ⟨cM2 ps l (st a b).env,(st a b).bx,(st a b).ar⟩ λe o=>match e with
  | .normal=>y o λe j=>match e with
    | .normal=>∃p':A×B,Le T (sJ wr j) (st p'.1 p'.2)/\inv (k+1) p'.1 p'.2
    | .ret=>Q .ret (sJ wr j)
    | .exit i=>Q (.exit i) (sJ wr j)
    |_=>False
  |_=>False)(s:∀a b,inv c.length a b->Q .normal (st a b)):aO0 T P f g d ps wr x y σ Q:=
 eS1 c v u (A:=A×B) (λp=>st p.1 p.2) (λk p=>inv k p.1 p.2) (m,n) q r t (λk p l=>h k p.1 p.2 l) (λp=>s p.1 p.2)
def idx_eq{a:Type}{f}{l A B}{x:a}(c:xs=l.map f)(h:l=A++x::B)(hi:i=A.length)(b:K (f x)):idx xs i K:=by
 subst c;exact aF h hi b
def gV(s:Sh):Prop:=s.outer.length<=1000000/\s.holes.length<=1000000/\∀h∈s.holes,h.length<=1000000
def gV.mem(h:gV s)(hr:r∈rings s):r.length<=1000000:=by
 exact Qo
def vC s:∀a∈iI s,a.length=1:=λa h=>by
 obtain⟨r,_,rfl⟩:=Rn.1 h;rfl
def aE4(b:rings s=D++R)(h:(iI s)[D.length]? =some a):∃r R',R=r::R'/\a=[rgV r] :=by
 unfold iI at h;rw[b,RN]at h;cases R<;>simp_all
theorem aN4 D r:corners (D++[r])=corners D+r.length:=GI
def zF9(h:∀r∈D,dM r):corners D<=40*D.length:=by
 induction D with
 |nil=>simp[corners]
 |cons d D b=>
  have a:=(h d Ad).2.1;grind [Ro,corners]
def Fits(s:Sh):Prop:=s.outer.length<=9223372036854775807/\s.holes.length<=1000000/\∀h∈s.holes,h.length<=9223372036854775807
def Fits.mem(h:Fits s)(hr:r∈rings s):r.length<=9223372036854775807:=by
 exact Qo
def gV.fits(h:gV s):Fits s:=⟨by have:=h.1;omega,h.2.1,λr a=>by have:=h.2.2 r a;omega⟩
def cA2 r(c:r.length<=9223372036854775807):Sp 107 [rgV r] (DB (dM r)):=by
 by_cases h:r.length<=1000000;exact lN r h;have e:DB (dM r)= .lit (.bool false):=RI (λb=>V.lit (.bool b)) (dW.2 (λq=>by have:=q.2.1;omega));rw[e];refine zsp func107 ?_;have a:(r.map vcV).length=r.length:=Ad;exact NV
def wQ s(W:Fits s):Sp 65 [shV s] (DB (bG s)):=by
 refine zsp func65 ?_;have U:(s.holes.map rgV).length=s.holes.length:=Ad;generalize hP:bG s=P;have hr:P↔bG s:=GZ;unfold bG at hr;repeat' ((conv=>whnf);first|refine zc (rQ s) ?_|refine zS ?_|refine zT ?_ ?_<;>intro _|fail)
 all_goals conv=>whnf
 all_goals first
  |(refine aA (aC ?_);rw[hr];intro h;let⟨h1,h2,G,H⟩:=h;first|omega|contradiction)
  |skip
 have O:s.holes.length<=6:=Aa
 refine aM3 (iI s) (vJ s Aa) (vC s) (A:=List Rg) (B:=List Rg) (λD R=>mkSt [(1, .box 1 0),(2, .box 2 0),(3, .box 3 0),(14, .fn 111 [.fp (shV s).cells])] [(1,(shV s).cells),(2,[.lit (.bool false)]),(3,[I (corners D)])] [])
  (λk D R=>rings s=D++R/\D.length=k/\∀r∈D,dM r) [] (rings s) ?_ ⟨rfl,rfl,Ad⟩ rfl ?_ ?_
 exact zj
 ·rintro k D R Z ⟨hp,u,i⟩ t
  subst u;obtain⟨r,R',rfl,rfl⟩:=aE4 hp t;have d:=aO hp;have w:(rings s).length=s.holes.length+1:=AU;have C:r.length<=9223372036854775807:=W.mem Ae;have T:=zF9 i;have v:(r.map vcV).length=r.length:=Ad;have N:((corners (D++[r]):Nat):Int)=(corners D:Int)+((r.map vcV).length:Nat):=by rw[aN4,v];simp
  have M:=cA2 r C;rcases Sj 40 r.length with L|X
  ·have V:¬dM r:=λh=>by have:=h.2.1;omega
   repeat' ((conv=>whnf);first|(exfalso;contradiction)|refine zc M ?_|refine zS ?_|refine zT ?_ ?_<;>intro _|fail)
   all_goals conv=>whnf
   refine aA (aC ?_);rw[hr];intro h;exact absurd (h.2.1 r Ae) Ag
  repeat' ((conv=>whnf);first|refine zc M ?_|refine zS ?_|refine zT ?_ ?_<;>intro _|fail)
  all_goals conv=>whnf
  refine⟨(D++[r],R'),?_,Ae,Ad,λq hq=>?_⟩;simp[N];exact zj;rcases Rh.1 hq with hq|hq;exact i q hq;rw[Ri.1 hq];assumption;refine aA (aC ?_);rw[hr];intro h;exact absurd (h.2.1 r Ae) Ag
 rintro D R ⟨hp,u,i⟩;have o:R=[] :=Jp;subst o;rw[Rq]at hp;subst hp;clear u;have w:(rings s).length=s.holes.length+1:=AU;have T:=zF9 i;repeat' ((conv=>whnf);first|refine zS ?_|refine zT ?_ ?_<;>intro _|fail)
 all_goals conv=>whnf
 all_goals first
  |(refine aA (aC ?_);rw[hr];intro h;let⟨h1,h2,G,H⟩:=h;first|omega|contradiction)
  |skip
 have e:=λr hr=>(i r hr).2.1;have c:gV s:=⟨by have:=e s.outer AU;omega,Aa,λr hr=>by have:=e r BU;omega⟩;clear e;have m:corners (rings s)<=80:=Aa;have y:=hr.trans ⟨λh=>h.2.2.2,λh=>⟨O,i,m,h⟩⟩;refine aU (A:=List Rg) (B:=List Rg) (λD R=>mkSt [(1, .box 1 0),(2, .box 2 0),(26, .sl (s.holes.map rgV)),(27,I s.holes.length),(28,I D.length)] [(1,(shV s).cells),(2,[.lit (.bool false)])] []) (λD R=>s.holes=D++R/\(P↔qR s.outer D R)) (λD R=>R.length) [] s.holes ?_ ⟨rfl,y⟩ (λD R hp=>?_);exact IZ;let⟨hp,a⟩:=hp;cases R with
 |nil=>
  have d:s.holes.length=D.length:=Ae;repeat' ((conv=>whnf);first|omega|refine zS ?_|refine zT ?_ ?_<;>intro _|fail)
  all_goals conv=>whnf
  exact aA (fE (a.2 trivial))
 |cons h R=>
  have d:=aO hp;have b:=c.2.2 h Ae;rw[qR]at a;unfold cU0 at a;have F:((s.holes.map rgV).take ((D.length:Nat):Int).toNat)=D.map rgV:=by rw[SK,hp];simp
  repeat' ((conv=>whnf);first|omega|refine aF (l:=s.holes) (A:=D) (x:=h) (B:=R) hp Aa ?_|refine zc (tX h s.outer 2 b c.1) ?_|refine zc (vS h s.outer b c.1) ?_|refine fU ⟨Aa,Aa,Aa, .inl rfl⟩ ?_|refine zS ?_|refine zT ?_ ?_<;>intro _|fail)
  all_goals conv=>whnf
  all_goals first
   |(refine aA (aC ?_);rw[a];intro h;let⟨⟨h1,h2,G⟩,H⟩:=h;contradiction)
   |skip
  refine aU (A:=List Rg) (B:=List Rg) (λE S=>mkSt [(1, .box 1 0),(2, .box 2 0),(6,rgV h),(26, .sl (s.holes.map rgV)),(27,I s.holes.length),(28,I D.length),(48, .sl (List.drop (Int.toNat 0) (List.take ((D.length:Nat):Int).toNat (List.map rgV s.holes)))),(49,I (List.drop (Int.toNat 0) (List.take ((D.length:Nat):Int).toNat (List.map rgV s.holes))).length),(50,I E.length)] [(1,(shV s).cells),(2,[.lit (.bool false)])] []) (λE S=>D=E++S/\∀k∈E,uV h k/\pR h k 0/\pR k h 0) (λE S=>S.length) [] D ?_ ⟨rfl,Ad⟩ (λE S hq=>?_);exact zj;let⟨hq,J⟩:=hq;have K:(List.drop (Int.toNat 0) (List.take ((D.length:Nat):Int).toNat (List.map rgV s.holes)))=D.map rgV:=F;have Q:(List.drop (Int.toNat 0) (List.take ((D.length:Nat):Int).toNat (List.map rgV s.holes))).length=D.length:=by rw[K,Rw]
  cases S with
  |nil=>
   have g:D.length=E.length:=Au;have n:D=E:=Au;repeat' ((conv=>whnf);first|omega|refine zS ?_|refine zT ?_ ?_<;>intro _|fail)
   all_goals conv=>whnf
   refine⟨(D++[h],R),?_,⟨Ae,?_⟩,Ad⟩;exact IW;rw[a];exact⟨λq=>q.2,λq=>⟨⟨Ag,Ag,by rw[n];exact J⟩,q⟩⟩
  |cons k S=>
   have g:=aO hq;have f:=c.2.2 k Ik;repeat' ((conv=>whnf);first|omega|refine idx_eq (l:=D) (A:=E) (x:=k) (B:=S) K hq Aa ?_|refine zc (vS h k b f) ?_|refine zc (tX h k 0 b f) ?_|refine zc (tX k h 0 f b) ?_|refine zS ?_|refine zT ?_ ?_<;>intro _|fail)
   all_goals conv=>whnf
   all_goals first
    |(refine aA (aC ?_);rw[a];intro q;have Y:=q.1.2.2 k Au;let⟨q2,q3,q4⟩:=Y;contradiction)
    |skip
   refine⟨(E++[k],S),?_,⟨Au,λz j=>?_⟩,Ad⟩;exact IW;rcases Rh.1 j with j|j;exact J z j;rw[Ri.1 j];exact⟨Ag,Ag,Ag⟩
def kK s(a:gV s):Sp 65 [shV s] (DB (bG s)):=wQ s a.fits
def eI3(h:bG s):uK s=qH (W (2*nG s.outer)) (rings s):=QU h
def eC2(h:¬bG s):uK s=0:=Q9 h
def dS3 n D r:qH n (D++[r])=W (qH n D-nG r):=by unfold qH;rw[TR];rfl
def cG8 s(a:gV s):Sp 28 [shV s] (I (uK s)):=by
 refine zsp func28 ?_;have h1:=eI3 (s:=s);have h2:=eC2 (s:=s);generalize uK s=A at*;have i:=a.1;repeat' ((conv=>whnf);first|refine zc (kK s a) ?_|refine zc (aX1 s.outer a.1) ?_|refine zc (rQ s) ?_|refine zg ?_|refine zw ?_|refine zn ?_|refine zz (λ_=>?_) λ_=>?_|refine zr ?_)
 all_goals conv=>whnf
 all_goals first
  |exact aG (h2 Ag).symm
  |skip
 have g:=h1 Ag
 refine aM3 (iI s) (vJ s a.2.1) (vC s) (A:=List Rg) (B:=List Rg) (λD R=>mkSt [(1, .box 1 0),(3, .box 3 0),(13, .fn 111 [.fp (shV s).cells])] [(1,(shV s).cells),(3,[I (qH (W (2*nG s.outer)) D)])] [])
  (λk D R=>rings s=D++R/\D.length=k) [] (rings s) ?_ ⟨rfl,rfl⟩ rfl ?_ ?_
 exact zj
 ·rintro k D R j ⟨hp,e⟩ c
  subst e;obtain⟨r,R',rfl,rfl⟩:=aE4 hp c;have d:r.length<=1000000:=a.mem Ae;have es:=dS3 (W (2*nG s.outer)) D r;generalize W (2*nG s.outer)=f at*;repeat' ((conv=>whnf);first|refine zc (aX1 r d) ?_|refine zi ?_|refine zw ?_)
  all_goals conv=>whnf
  refine⟨(D++[r],R'),?_,Ae,Ad⟩;simp[es];exact zj
 rintro D R ⟨hp,e⟩;have b:R=[] :=Jp;subst b;rw[Rq]at hp;subst hp;generalize W (2*nG s.outer)=f at*;repeat' ((conv=>whnf);first|refine zS ?_|fail)
 all_goals conv=>whnf
 exact aG g.symm
def dP7(h:¬bG s):qW s p=0:=Q9 h
def bQ2(h:bG s)(a:¬iF s.outer p=2):qW s p=iF s.outer p:=by unfold qW;rw[QU h,Q9 a]
def bP9(h:bG s)(a:iF s.outer p=2):qW s p=qG 2 p s.holes:=by unfold qW;rw[QU h,QU a]
def dX1(q:iF h p=2):qG o p (h::l)=0:=by rw[qG,QU q]
def eB4(q:iF h p=1):qG o p (h::l)=1:=by rw[qG,Q9 (by omega),QU q]
def dW5(q:¬iF h p=2)(a:¬iF h p=1):qG o p (h::l)=qG o p l:=by rw[qG,Q9 q,Q9 a]
def cA8 s p(c:gV s):Sp 314 [shV s,ptV p] (I (qW s p)):=by
 refine zsp func314 ?_;have g:=dP7 (s:=s) (p:=p);have i:=bQ2 (s:=s) (p:=p);have j:=bP9 (s:=s) (p:=p);have t:=aB7 s.outer p c.1;have n:(s.holes.map rgV).length=s.holes.length:=Ad;have k:=c.2.1;generalize qW s p=A at*;generalize iF s.outer p=r at*;repeat' ((conv=>whnf);first|refine zc (kK s c) ?_|refine zS ?_|refine zT ?_ ?_<;>intro _|fail)
 all_goals conv=>whnf
 all_goals first
  |exact aG (g Ag).symm
  |exact aG (i Ag Ag).symm
  |skip
 have b:=j Ag Ag;refine aU (A:=List Rg) (B:=List Rg) (λD R=>mkSt [(3, .box 3 0),(5,I r),(19, .sl (s.holes.map rgV)),(20,I s.holes.length),(21,I D.length)] [(3,(ptV p).cells)] []) (λD R=>s.holes=D++R/\A=qG 2 p R) (λD R=>R.length) [] s.holes ?_ ⟨rfl,b⟩ (λD R hp=>?_);exact IZ;let⟨hp,b⟩:=hp;cases R with
 |nil=>
  have a:s.holes.length=D.length:=Ae;repeat' ((conv=>whnf);first|omega|refine zS ?_|refine zT ?_ ?_<;>intro _|fail)
  all_goals conv=>whnf
  exact aG (by rw[b];show _=(2:Int);omega)
 |cons h R=>
  have a:=aO hp;have m:=c.2.2 h Ae;have f:=dX1 (o:=2) (p:=p) (h:=h) (l:=R);have e:=eB4 (o:=2) (p:=p) (h:=h) (l:=R);have d:=dW5 (o:=2) (p:=p) (h:=h) (l:=R);have q:=aB7 h p m;rw[<-b]at d e f;generalize iF h p=wh at*;repeat' ((conv=>whnf);first|omega|refine zS ?_|refine zT ?_ ?_<;>intro _|fail)
  all_goals conv=>whnf
  all_goals first
   |exact aG (f Ag).symm
   |exact aG (e Ag).symm
   |skip
  refine⟨(D++[h],R),?_,⟨Ae,d Ag Ag⟩,Ad⟩;exact Nh
def cO2(h:within v 4000):lJ s v=qW s (v.1,v.2,1):=QU h
def eC0(h:¬within v 4000):lJ s v=0:=Q9 h
def aD4 s v(c:gV s):Sp 286 [shV s,vcV v] (I (lJ s v)):=by
 refine zsp func286 ?_;have a:=cO2 (s:=s) (v:=v);have b:=eC0 (s:=s) (v:=v);generalize lJ s v=A at*;repeat' ((conv=>whnf);first|refine zc (kC v 4000) ?_|refine zc (zN v) ?_|refine zc (cA8 s (v.1,v.2,1) c) ?_|refine zS ?_|refine zT ?_ ?_<;>intro _|fail)
 all_goals conv=>whnf
 all_goals first
  |exact aG (b Ag).symm
  |exact aG (a Ag).symm
open Classical in
def boxS(s:Sh):Bx×Bool:=if bG s then boxR s.outer else(((0,0),(0,0)),false)
def eG7(h:bG s):boxS s=boxR s.outer:=QU h
def eW5(h:¬bG s):boxS s=(((0,0),(0,0)),false):=Q9 h
def aS0 s(b:gV s):Sp 133 [shV s] (.tup [bxV (boxS s).1, .lit (.bool (boxS s).2)]):=by
 refine zsp func133 ?_;have c:=eG7 (s:=s);have d:=eW5 (s:=s);have e:=dL2 s.outer b.1;generalize boxS s=A at*;generalize boxR s.outer=B at*;repeat' ((conv=>whnf);first|refine zc (kK s b) ?_|refine zS ?_|refine zd (λa=>?_) (λa=>?_))
 ·rw[c a]
  all_goals exact zE
 rw[d a];all_goals exact zE
def gX{xs:List V}(d:a<=10000)(c:∀x∈xs,x.cells.length=size)(b:xs.length<=1000000000)(e:K):need (xs.length*a<=140737488355328/\xs.length<=140737488355328/\∀x∈xs,x.cells.length=size) K:=by
 have:=UQ b d;exact fU ⟨Aa,Aa,c⟩ e
def d0(D:List Rg)(r:Rg):List Rg:=D++[r]
def edgSt(s:Sh)(D:List Rg):St:=match D with
 | [] =>mkSt [(1, .box 1 0),(3, .box 3 0),(6, .fn 111 [.fp (shV s).cells])] [(1,(shV s).cells),(3,[nilV])] []
 |d::D=>mkSt [(1, .box 1 0),(3, .box 3 0),(6, .fn 111 [.fp (shV s).cells])] [(1,(shV s).cells),(3,[.arr 11 D.length])] [(11,⟨D.length, .own,233,((d::D).flatMap bF).map sgV⟩)]
def aX0(l:List Sg):∀y∈l.map sgV,y.cells.length=4:=λy hy=>AZ
def cM5(h:r.length<=1000000):((bF r).map sgV).length<=1000000:=by rw[Rw];exact aK9 h
def bC1(f:gV s)(l:s.holes.length<=6)(hp:rings s=D++R):(D.flatMap bF).length<=7000000:=by
 have d:∀(E:List Rg),(∀r∈E,(bF r).length<=1000000)->(E.flatMap bF).length<=1000000*E.length:=by
  intro E;induction E with
  |nil=>intro _;simp
  |cons e E g=>
   intro h;have a:=h e Ad;have b:=g (λr c=>h r (by simp[c]));rw[Tm,QY,Ro];omega
 have i:=d D (λr c=>aK9 (f.mem (by rw[hp];simp[c])));have j:(rings s).length=D.length+R.length:=Ae;have k:(rings s).length=s.holes.length+1:=AU;omega
def aV8 s(f:gV s)(i:s.holes.length<=6):Sp 282 [shV s] (.own 233 ((aC0 s).map sgV)):=by
 refine zsp func282 ?_;repeat' ((conv=>whnf);first|refine zc (rQ s) ?_|refine zS ?_|fail)
 all_goals conv=>whnf
 refine aM3 (iI s) (vJ s f.2.1) (vC s) (A:=List Rg) (B:=List Rg) (λD R=>edgSt s D)
  (λk D R=>rings s=D++R/\D.length=k) [] (rings s) ?_ ⟨rfl,rfl⟩ rfl ?_ ?_
 exact zj
 ·rintro k D R n ⟨hp,g⟩ e
  subst g;obtain⟨r,R',rfl,rfl⟩:=aE4 hp e;have a:r.length<=1000000:=f.mem Ae;have l:=bC1 f i hp;have j:=cM5 a;have c:(((d0 D r:List Rg).flatMap bF).map sgV)=(D.flatMap bF).map sgV++(bF r).map sgV:=by unfold d0;simp
  cases D with
  |nil=>
   repeat' ((conv=>whnf);first|refine zc (qE r a) ?_|refine gX (QV rfl) (aX0 _) (show((bF r).map sgV).length<=1000000000 from Aa) ?_|refine zS ?_|fail)
   all_goals conv=>whnf
   refine⟨([r],R'),?_,by rw[hp];rfl,rfl⟩;show Le T _ (mkSt [(1, .box 1 0),(3, .box 3 0),(6, .fn 111 [.fp (shV s).cells])] [(1,(shV s).cells),(3,[.arr 11 0])] [(11,⟨0, .own,233,(([r] :List Rg).flatMap bF).map sgV⟩)]);rw[show([r] :List Rg).flatMap bF=bF r from Ad];exact zj
  |cons d D=>
   have m:(((d::D).flatMap bF).map sgV).length=((d::D).flatMap bF).length:=Rw ..;repeat' ((conv=>whnf);first|refine zc (qE r a) ?_|refine iH rfl (.inl rfl) rfl (QV rfl) (aX0 _) (show(((d::D).flatMap bF).map sgV).length+((bF r).map sgV).length<=1000000000 from Aa) ?_|refine zS ?_|fail)
   all_goals conv=>whnf
   refine⟨(d::D++[r],R'),?_,Ae,Ad⟩;show Le T _ (mkSt [(1, .box 1 0),(3, .box 3 0),(6, .fn 111 [.fp (shV s).cells])] [(1,(shV s).cells),(3,[.arr 11 (D++[r]).length])] [(11,⟨(D++[r]).length, .own,233,(((d::D)++[r]).flatMap bF).map sgV⟩)]);rw[show((d::D)++[r])=d0 (d::D) r from rfl,c,QY,Rj];exact zj
 rintro D R ⟨hp,g⟩;have b:R=[] :=Jp;subst b;rw[Rq]at hp;unfold aC0;exact QG
end Go.Proofs.Led
namespace Go.Proofs
open Go.Shelf Go.Ab
def Tryz.bY5:Go.Shelf.Ren:=⟨λ|4=>302|n=>n,λ|22=>46|25=>70|n=>n,λn=>n⟩
def Tryz.cH7:Go.Proofs.Lays8.n4 Tryz.prog Tryz.bY5:={
 mixed:=Ac
 f4:=⟨Tryz.f302.name,Ai,Tryz.func302.trans (RI some Ac)⟩
 t0:=Tryz.underlying0
 a0:=Tryz.isAgg0
 z0:=Tryz.sizeOf0
 v0:=Tryz.zeroValue0
 t3:=Tryz.underlying3
 a3:=Tryz.isAgg3
 z3:=Tryz.sizeOf3
 v3:=Tryz.zeroValue3
 t4:=Tryz.underlying4
 a4:=Tryz.isAgg4
 z4:=Tryz.sizeOf4
 v4:=Tryz.zeroValue4
 t9:=Tryz.underlying9
 a9:=Tryz.isAgg9
 z9:=Tryz.sizeOf9
 v9:=Tryz.zeroValue9
 t20:=Tryz.underlying20
 a20:=Tryz.isAgg20
 z20:=Tryz.sizeOf20
 v20:=Tryz.zeroValue20
 t22:=Tryz.underlying46
 a22:=Tryz.isAgg46
 z22:=Tryz.sizeOf46
 v22:=Tryz.zeroValue46}
end Go.Proofs
namespace Go.Proofs.Led
open Go Go.Proofs Go.Ab Go.RowKit Tryz
def dZ9(h:Rb T w G j v (.lit u)):v=u:=h.2.bH
def arr2{cs:Array Value}(h:cs.size=2):∃a b,cs= #[a,b] :=by
 let⟨l⟩:=cs;match l,h with
 | [a,b],_=>exact⟨a,b,rfl⟩
def row70:aH9 Tryz.prog 70 (T.row 70):=uG 70 (QV Ac)
theorem size70:(T.row 70).size=2:=Ac
theorem bytes70:(T.row 70).bytes=16:=Ac
def dP8(n:Nat)(L:n<=1000000):Sp 302 [.lit (.slice none 0 0),I n] (.own 70 []):=by
 refine⟨Ac,λw G cs C o h3 x K=>?_⟩;obtain⟨A,B,rfl⟩:=arr2 C;have H:A= .slice none 0 0:=dZ9 (x 0 A _ rfl rfl);have J:B= .int .i64 n:=dZ9 (x 1 B (I n) rfl rfl);subst H J;have f:70<T.n 70:=QV Ac;rcases Nat.eq_zero_or_pos n with rfl|y;refine(Any8.slices_Grow_room Tryz.cH7 none 0 0 0 w (Rf _) Ai Ai Ai).mono ?_;rintro e w' ⟨rfl,rfl⟩;refine⟨_,G,rfl,⟨⟨f,GH, .inl ⟨.inl rfl,rfl⟩⟩,trivial⟩,λ_ h=>h,o,h3,λb hb=>?_,λ_ _ _=>rfl,Rf _,rfl,rfl,rfl⟩;exact Oc;obtain⟨F,r,t,g,z,E,u,_,m,_,_⟩:=row70.info;rw[size70]at t m;rw[bytes70]at g;have v:z.cells.size=2:=by rw[<-SB,u,m]
 have d:Calls Tryz.prog 302 #[.slice none 0 0, .int .i64 n] w λe w'=>e= .returned (.slice (some ⟨w.heap.size,0,none⟩) 0 (grownCap w (0+n) 0 70))/\
  w'=w.drew.alloc (.cells (([] :List Value).toArray++Builtin.zeroCells z.cells (0+n-0)++Builtin.zeroCells z.cells (grownCap w (0+n) 0 70- (0+n))) 70):=
  Any8.slices_Grow_grow Tryz.cH7 F z r E Aa none 0 0 n [] w (Rf _) Aa (by rw[g];omega) Aa Ad (λ_=>rfl) (λa h=>Ah)
 refine d.mono ?_;rintro e w' ⟨rfl,rfl⟩;have D:=grownCap_ge w (0+n) 0 70;have s:=grownCap_le_maxLen w (0+n) 0 70 Cj;have c:(w.drew.alloc (.cells (([] :List Value).toArray++Builtin.zeroCells z.cells (0+n-0)++Builtin.zeroCells z.cells (grownCap w (0+n) 0 70- (0+n))) 70)).heap.size=w.heap.size+1:=Array.size_push _;have k:(w.drew.alloc (.cells (([] :List Value).toArray++Builtin.zeroCells z.cells (0+n-0)++Builtin.zeroCells z.cells (grownCap w (0+n) 0 70- (0+n))) 70)).heap[w.heap.size]? =some (.cells (([] :List Value).toArray++Builtin.zeroCells z.cells (0+n-0)++Builtin.zeroCells z.cells (grownCap w (0+n) 0 70- (0+n))) 70 (0,0)):=UA
 have l:∀b,b<w.heap.size->(w.drew.alloc (.cells (([] :List Value).toArray++Builtin.zeroCells z.cells (0+n-0)++Builtin.zeroCells z.cells (grownCap w (0+n) 0 70- (0+n))) 70)).heap[b]? =w.heap[b]? :=by
  intro b hb;have:(w.drew.alloc (.cells (([] :List Value).toArray++Builtin.zeroCells z.cells (0+n-0)++Builtin.zeroCells z.cells (grownCap w (0+n) 0 70- (0+n))) 70)).heap=w.heap.push _:=rfl;rw[this,Array.getElem?_push_lt hb,U4 hb]
 refine⟨_,{G with O:=upd G.O w.heap.size (.ar 0)},rfl,⟨⟨f,GH, .inr ⟨w.heap.size,_,_,rfl,upd_same _ _ _,k,RY _,s,?_,Ad,?_⟩⟩,trivial⟩,?_,?_,?_,?_,λb hb _=>l b hb,by rw[c];omega,rfl,rfl,rfl⟩;rw[UO,UO,size_zeroCells,size_zeroCells,v,size70];show 0+(0+n-0)*2+(grownCap w (0+n) 0 70- (0+n))*2=grownCap w (0+n) 0 70*2;omega;refine⟨Ad,Ad,Ad⟩;intro b hb;have:b≠w.heap.size:=λe=>by have:=o b AV;omega
 show upd G.O w.heap.size (.ar 0) b= .fz;rw[upd_ne _ _ this];exact hb;intro b hb;rw[c];change upd G.O w.heap.size (.ar 0) b≠ .ext at hb;by_cases e:b=w.heap.size;omega
 have q:G.O b≠ .ext:=by
  have:=hb;rw[show(upd G.O w.heap.size (Tag.ar 0)) b=G.O b from upd_ne _ _ e]at this;exact this
 have:=o b q;omega;intro b i hb;change upd G.O w.heap.size (.ar 0) b= .bx i at hb;by_cases e:b=w.heap.size;subst e;rw[show(upd G.O w.heap.size (Tag.ar 0)) w.heap.size= .ar 0 from upd_same _ _ _]at hb;cases hb;rw[show(upd G.O w.heap.size (Tag.ar 0)) b=G.O b from upd_ne _ _ e]at hb;exact h3 b i hb;intro b hb;change upd G.O w.heap.size (.ar 0) b≠ .ext at hb;show(G.O b= .fz/\upd G.O w.heap.size (.ar 0) b= .fz)\/_;by_cases e:b=w.heap.size;exact .inr (.inl Aa);rw[show(upd G.O w.heap.size (Tag.ar 0)) b=G.O b from upd_ne _ _ e]at hb⊢;exact Oc
end Go.Proofs.Led
namespace Go.Proofs.Led
open Go Go.Proofs Go.Ab Tryz
def cN6(L:List Rg)(r:L.length<=100)(g:∀l∈L,l.length<=10000):Sp 278 [.sl (L.map rgV)] (.own 70 (L.flatten.map vcV)):=by
 refine zsp func278 ?_;have k:(L.map rgV).length=L.length:=Ad
 have b:∀D:List Rg,(∀l∈D,l.length<=10000)->D.flatten.length<=D.length*10000:=by
  intro D;induction D with
  |nil=>intro _;simp
  |cons d D o=>
   intro h;have h1:=h d Ad;have q:=o (λl c=>h l (by simp[c]));simp only[List.flatten_cons,QY,Ro];omega
 repeat' ((conv=>whnf);first|refine zS ?_|fail)
 refine aU (A:=List Rg) (B:=List Rg) (λD R=>mkSt [(0, .sl (L.map rgV)),(3,I D.flatten.length),(9, .sl (L.map rgV)),(10,I L.length),(11,I D.length)] [] [])
  (λD R=>L=D++R) (λD R=>R.length) [] L ?_ rfl (λD R f=>?_)
 exact zj;have h1:=f;have a:L.length=D.length+R.length:=Bo;have j:=b D (λl c=>g l (by rw[h1];simp[c]));cases R with
 |cons x R=>
  rw[Ro]at a;have n:=g x Bo;have i:(x.map vcV).length=x.length:=Ad;repeat' ((conv=>whnf);first|omega|refine zS ?_|refine zT ?_ ?_<;>intro _|fail)
  conv=>whnf
  refine⟨(D++[x],R),?_,?_,?_⟩
  ·refine dV ?_ ?_ ?_ ?_
   all_goals repeat' (first|exact trivial|refine And.intro ?_ ?_|with_reducible rfl|exact(λh=>Ah)|exact Rf _|omega|exact rfl)
   show(D.flatten.length:Int)+((x.map vcV).length:Nat)=((D++[x]).flatten.length:Nat);rw[i];simp;show(D.length:Int)+1=(D++[x]).length;simp
  show L=D++[x] ++R;rw[h1];simp;show R.length< (x::R).length;simp
 |nil=>
  have e:L=D:=Bo;simp at a;repeat' ((conv=>whnf);first|omega|refine zc (dP8 D.flatten.length Aa) ?_|refine zS ?_|refine zT ?_ ?_<;>intro _|fail)
  clear h1 f a j
  refine aU (A:=List Rg) (B:=List Rg) (λD R=>mkSt [(6, .arr 24 D.length),(25, .sl (L.map rgV)),(26,I L.length),(27,I D.length)] [] [(24,⟨D.length, .own,70,D.flatten.map vcV⟩)])
   (λD R=>L=D++R) (λD R=>R.length) [] L ?_ rfl (λD R f=>?_)
  exact zj;have h1:=f;have a:L.length=D.length+R.length:=Bo;have j:=b D (λl c=>g l (by rw[h1];simp[c]));cases R with
  |cons x R=>
   rw[Ro]at a;have n:=g x Bo;repeat' ((conv=>whnf);first|omega|refine iH rfl (.inl rfl) rfl (QV rfl) (λy hy=>AZ) (by show(List.map vcV D.flatten).length+(List.map vcV x).length<=_;rw[Rw,Rw];omega) ?_|refine zS ?_|refine zT ?_ ?_<;>intro _|fail)
   conv=>whnf
   refine⟨(D++[x],R),?_,?_,?_⟩
   ·refine dV ?_ ?_ ?_ ?_
    all_goals repeat' (first|exact trivial|refine And.intro ?_ ?_|with_reducible rfl|exact(λh=>Ah)|exact Rf _|omega|exact rfl)
    all_goals first
     |(show D.length+1=(D++[x]).length;simp;done)
     |(show List.map vcV D.flatten++List.map vcV x=List.map vcV (D++[x]).flatten;simp;done)
     |(show(D.length:Int)+1=(D++[x]).length;simp;done)
   show L=D++[x] ++R;rw[h1];simp;show R.length< (x::R).length;simp
  |nil=>
   have e:L=D:=Bo;simp at a;repeat' ((conv=>whnf);first|omega|refine zS ?_|refine zT ?_ ?_<;>intro _|fail)
   conv=>whnf
   refine⟨⟨⟨rfl,rfl,rfl,?_⟩,trivial⟩,rfl,λ_ h=>Ah⟩;show List.map vcV D.flatten=List.map vcV L.flatten;rw[e]
def dT1{X Y Z:Rg}(d:xs=X.map vcV)(e:ys=Y.map vcV)(f:Z=X++Y)(b:X.length<=10000)(c:Y.length<=10000):Sp 278 [.sl [.sl xs, .sl ys]] (.own 70 (Z.map vcV)):=by
 subst d e f
 have:=cN6 [X,Y] Ad (λl a=>by
  rcases Rl.1 a with rfl|a;exact b
  cases Ri.1 a;exact c)
 rwa [show [X,Y].flatten=X++Y from Ad]at this
def bJ7(h:dM r):gQ r=wL r:=QU h
def eJ3(h:¬dM r):gQ r=[] :=Q9 h
def aU6 r(b:r.length<=1000000):Sp 233 [rgV r] (.sl ((gQ r).map vcV)):=by
 refine zsp func233 ?_;have m:(r.map vcV).length=r.length:=Ad;by_cases c:dM r
 ·rw[bJ7 c]
  have a:r≠ [] :=λh=>by have:=c.1;rw[h]at this;simp at this
  have f:=c.2.1;let⟨j,e,_,l⟩:=aT6 (k:=0) (eH8 a);have d:bZ1 (wO r) r=j:=by unfold bZ1;rw[e]
  have hi:=cJ4 r (wO r) b;rw[d]at hi;have g:wL r=r.drop j++r.take j:=by unfold wL;rw[e];rfl
  rw[g]
  have i:=xX (dT1 (xs:=((r.map vcV).take (((r.map vcV).length:Nat):Int).toNat).drop ((j:Nat):Int).toNat) (ys:=((r.map vcV).take ((j:Nat):Int).toNat).drop (0:Int).toNat) (X:=r.drop j) (Y:=r.take j) (Z:=r.drop j++r.take j)
   (by rw[SK,SK,TM,List.map_drop]) (by rw[SK,List.map_take];rfl) rfl (by rw[Sr];omega) G7)
  repeat' ((conv=>whnf);first|(exfalso;contradiction)|refine zc (lN r b) ?_|refine zc (cL6 r b a) ?_|refine bW8 [] [(20,[88888])] trivial Ac ?_|refine fU ⟨Aa,Aa,Aa, .inr (λx n=>by obtain⟨v,_,rfl⟩:=Rn.1 n;rfl)⟩ ?_|refine zh (i) [] ?_|refine zS ?_|refine zT ?_ ?_<;>intro _|fail)
  all_goals conv=>whnf
  exact NC
 rw[eJ3 c];repeat' ((conv=>whnf);first|(exfalso;contradiction)|refine zc (lN r b) ?_|refine zS ?_|refine zT ?_ ?_<;>intro _|fail)
 all_goals conv=>whnf
 exact⟨⟨rfl,trivial⟩,rfl,λ_ h=>Ah⟩
def aM5(l:List Vc):∀y∈l.map vcV,y.cells.length=2:=λy hy=>AZ
def aY2 r(d:r.length<=1000000):Sp 322 [rgV r] (.sl (r.map vcV)):=by
 refine zsp func322 ?_;have c:(r.map vcV).length=r.length:=Ad;repeat' ((conv=>whnf);first|(refine bV3.mk rfl (QV Ac) Ac (.inl rfl) ?_;intro b a;cases b)|refine iH rfl (.inl rfl) rfl (QV rfl) (aM5 r) (by show 0+(List.map vcV r).length<=_;omega) ?_|refine zS ?_|fail)
 all_goals conv=>whnf
 ·refine⟨?_,rfl,λrs h=>V.noConfusion h⟩
  (repeat' (first|exact trivial|refine And.intro ?_ ?_|with_reducible rfl|exact(λh=>Ah)|exact rfl));done
 have e:r=[] :=by
  cases r with
  |nil=>rfl
  |cons x l=>exact absurd (a Ad) Ai
 subst e;exact NC
def bH7 a b(c:a.length<=1000000)(d:b.length<=1000000):Sp 231 [rgV a,rgV b] (DB (a=b)):=by
 refine zsp func231 ?_;repeat' ((conv=>whnf);first|refine zc (eA2 a b c d) ?_|refine zS ?_|fail)
 all_goals exact zE
def sV(lo hi:Vc):Sh:=open Classical in if hi.1<=lo.1\/hi.2<=lo.2\/¬within lo 2000\/¬within hi 2000 then sh0 else⟨[lo,(hi.1,lo.2),hi,(lo.1,hi.2)],[]⟩
def eS0(h:hi.1<=lo.1\/hi.2<=lo.2\/¬within lo 2000\/¬within hi 2000):sV lo hi=sh0:=QU h
def eR9(h:¬(hi.1<=lo.1\/hi.2<=lo.2\/¬within lo 2000\/¬within hi 2000)):sV lo hi=⟨[lo,(hi.1,lo.2),hi,(lo.1,hi.2)],[]⟩:=Q9 h
def cX1 lo hi:Sp 292 [vcV lo,vcV hi] (shV (sV lo hi)):=by
 refine zsp func292 ?_;have a:=eS0 (lo:=lo) (hi:=hi);have b:=eR9 (lo:=lo) (hi:=hi);generalize sV lo hi=A at*;repeat' ((conv=>whnf);first|refine zc (kC lo 2000) ?_|refine zc (kC hi 2000) ?_|refine zS ?_|refine zT ?_ ?_<;>intro _|fail)
 all_goals conv=>whnf
 all_goals first
  |(rw[a BK];refine⟨?_,rfl,λrs h=>V.noConfusion h⟩;(repeat' (first|exact trivial|refine And.intro ?_ ?_|with_reducible rfl|exact(λh=>Ah)|exact rfl));done)
  |(rw[b (by rintro(q|q|q|q)<;>first|omega|contradiction)];refine⟨?_,rfl,λrs h=>V.noConfusion h⟩;(repeat' (first|exact trivial|refine And.intro ?_ ?_|with_reducible rfl|exact(λh=>Ah)|exact rfl));done)
def eG2{l:List Rg}{k:Nat}(b:z=(k:Int))(h:k<l.length)(a:K (rgV (l.getD k []))):idx (l.map rgV) z.toNat K:=by
 subst b;refine gK (l:=l) (j:=k) (x:=l.getD k []) ?_ Aa a;exact Qz
def eJ5{l:List Rg}(h:k<l.length):l.take (k+1)=l.take k++[l.getD k []] :=by
 rw[U2,Sz,QX h];rfl
def getD_mem{l:List Rg}(h:k<l.length):l.getD k []∈l:=LW
def dW1(a b:List Rg)(o:a.length<=1000000)(q:b.length<=1000000)(d:∀r∈a,r.length<=1000000)(e:∀r∈b,r.length<=1000000):Sp 232 [.sl (a.map rgV), .sl (b.map rgV), .fn 231 []] (DB (a=b)):=by
 refine zsp func232 ?_;have m:(a.map rgV).length=a.length:=Ad;have n:(b.map rgV).length=b.length:=Ad;repeat' ((conv=>whnf);first|refine zS ?_|refine ze (λg=>?_) (λg=>?_))
 all_goals conv=>whnf
 all_goals first
  |(refine aA (aC ?_);intro h;subst h;omega)
  |skip
 have hab:a.length=b.length:=Aa;refine lD (A:=Nat) (λk=>mkSt [(0, .sl (a.map rgV)),(1, .sl (b.map rgV)),(2, .fn 231 []),(15, .sl (a.map rgV)),(16,I a.length),(17,I k)] [] []) (λk=>k<=a.length/\a.take k=b.take k) (λk=>a.length-k) 0 ?_ ⟨Aa,rfl⟩ (λk j=>?_);exact zj;let⟨j,ht⟩:=j;by_cases i:k<a.length
 ·have s:=bH7 (a.getD k []) (b.getD k []) (d _ (getD_mem i)) (e _ (getD_mem Aa))
  repeat' ((conv=>whnf);first|omega|refine eG2 (l:=a) (k:=k) Aa Aa ?_|refine eG2 (l:=b) (k:=k) Aa Aa ?_|refine zS ?_|refine zd (λf=>?_) (λf=>?_)|refine zl (λc=>?_) (λc=>?_))
  all_goals conv=>whnf
  refine⟨k+1,?_,⟨Aa,?_⟩,Aa⟩;exact zj;rw[eJ5 Aa,eJ5 Aa,ht,f];refine aA (aC ?_);intro h;subst h;exact f rfl
 have ek:k=a.length:=by omega
 repeat' ((conv=>whnf);first|omega|refine zS ?_|refine zl (λc=>?_) (λc=>?_))
 all_goals conv=>whnf
 exact Qb
def cQ8 a b(c:gV a)(d:gV b):Sp 185 [shV a,shV b] (DB (a=b)):=by
 refine zsp func185 ?_
 have e:a=b↔a.outer=b.outer/\a.holes=b.holes:=by
  let⟨f,g⟩:=a;let⟨i,j⟩:=b;simp
 repeat' ((conv=>whnf);first|refine zc (bH7 a.outer b.outer c.1 d.1) ?_|refine zc (dW1 a.holes b.holes c.2.1 d.2.1 c.2.2 d.2.2) ?_|refine zS ?_|refine zT ?_ ?_<;>intro _|fail)
 all_goals conv=>whnf
 all_goals first
  |(refine aA (fQ ?_);rw[e];exact⟨λq=>⟨Ag,q⟩,λq=>q.2⟩)
  |(refine aA (aC ?_);rw[e];intro q;exact absurd q.1 Ag)
def rinSt(s:Sh)(D:List Rg):St:=match D with
 | [] =>mkSt [(1, .box 1 0),(3, .box 3 0),(6, .fn 111 [.fp (shV s).cells])] [(1,(shV s).cells),(3,[nilV])] []
 |d::D=>mkSt [(1, .box 1 0),(3, .box 3 0),(6, .fn 111 [.fp (shV s).cells])] [(1,(shV s).cells),(3,[.arr 12 D.length])] [(12,⟨D.length, .own,46,(d::D).map rgV⟩)]
def dV3(a:gV s)(hp:rings s=D++R):D.length<=1000001:=by
 have b:(rings s).length=D.length+R.length:=Ae;have c:(rings s).length=s.holes.length+1:=AU;have:=a.2.1;omega
def aW6 s(e:gV s):Sp 313 [shV s] (.own 46 ((rings s).map rgV)):=by
 refine zsp func313 ?_;repeat' ((conv=>whnf);first|refine zc (rQ s) ?_|refine zS ?_|fail)
 all_goals conv=>whnf
 refine aM3 (iI s) (vJ s e.2.1) (vC s) (A:=List Rg) (B:=List Rg) (λD R=>rinSt s D)
  (λk D R=>rings s=D++R/\D.length=k) [] (rings s) ?_ ⟨rfl,rfl⟩ rfl ?_ ?_
 exact zj
 ·rintro k D R j ⟨hp,f⟩ c
  subst f;obtain⟨r,R',rfl,rfl⟩:=aE4 hp c;have a:r.length<=1000000:=e.mem Ae;have g:=dV3 e hp;cases D with
  |nil=>
   repeat' ((conv=>whnf);first|refine zc (aY2 r a) ?_|refine gX (QV rfl) (dA rfl) (QV rfl) ?_|refine zS ?_|fail)
   all_goals conv=>whnf
   refine⟨([r],R'),?_,by rw[hp];rfl,rfl⟩;show Le T _ (mkSt [(1, .box 1 0),(3, .box 3 0),(6, .fn 111 [.fp (shV s).cells])] [(1,(shV s).cells),(3,[.arr 12 0])] [(12,⟨0, .own,46,[rgV r]⟩)]);exact zj
  |cons d D=>
   have i:((d::D).map rgV).length=(d::D).length:=Rw ..;repeat' ((conv=>whnf);first|refine zc (aY2 r a) ?_|refine iH rfl (.inl rfl) rfl (QV rfl) (dA rfl) (show((d::D).map rgV).length+1<=1000000000 from Aa) ?_|refine zS ?_|fail)
   all_goals conv=>whnf
   refine⟨(d::D++[r],R'),?_,Ae,Ad⟩;show Le T _ (mkSt [(1, .box 1 0),(3, .box 3 0),(6, .fn 111 [.fp (shV s).cells])] [(1,(shV s).cells),(3,[.arr 12 (D++[r]).length])] [(12,⟨(D++[r]).length, .own,46,((d::D)++[r]).map rgV⟩)]);rw[show((d::D)++[r]).map rgV=(d::D).map rgV++[rgV r] from Ad,QY,Rj];exact zj
 rintro D R ⟨hp,f⟩;have b:R=[] :=Jp;subst b;rw[Rq]at hp;exact QG
def verSt(rs:List Rg)(D:List Rg):St:=match D with
 | [] =>mkSt [(3,nilV),(7, .arr 7 0),(8,I rs.length),(9,I 0)] [] [(7,⟨0, .own,46,rs.map rgV⟩)]
 |d::D=>mkSt [(3, .arr 15 D.length),(7, .arr 7 0),(8,I rs.length),(9,I ((D.length:Int)+1))] [] [(7,⟨0, .own,46,rs.map rgV⟩),(15,⟨D.length, .own,70,(d::D).flatten.map vcV⟩)]
def dH9(D:List Rg)(h:∀r∈D,r.length<=1000000):D.flatten.length<=1000000*D.length:=by
 induction D with
 |nil=>simp
 |cons d D b=>
  have c:=h d Ad;have e:=b (λr a=>h r (by simp[a]));rw[List.flatten_cons,QY,Ro];omega
def aJ3 s(i:gV s)(q:s.holes.length<=6):Sp 284 [shV s] (.own 70 ((rings s).flatten.map vcV)):=by
 refine zsp func284 ?_;have o:=aW6 s i;have b:rings s≠ [] :=AU;have k:(rings s).length<=7:=Fh;have a:∀r∈rings s,r.length<=1000000:=λr c=>i.mem c;generalize rings s=rs at*;have l:(rs.map rgV).length=rs.length:=Ad;repeat' ((conv=>whnf);first|refine zS ?_|fail)
 refine aU (A:=List Rg) (B:=List Rg) (λD R=>verSt rs D) (λD R=>rs=D++R) (λD R=>R.length) [] rs ?_ rfl (λD R hp=>?_);exact IZ;have t:=dH9 D (λr c=>a r (by rw[hp];simp[c]));cases R with
 |nil=>
  have e:rs=D:=Ae;subst e;cases rs with
  |nil=>exact absurd rfl b
  |cons d D=>
   have f:(d::D).length=D.length+1:=rfl;repeat' ((conv=>whnf);first|omega|refine zS ?_|refine zT ?_ ?_<;>intro _|fail)
   all_goals conv=>whnf
   exact Ph
 |cons r R=>
  have g:=aO hp;have m:=a r Ae;have n:(r.map vcV).length=r.length:=Ad;cases D with
  |nil=>
   have f:([] :List Rg).length=0:=rfl;repeat' ((conv=>whnf);first|omega|refine dS rfl rfl Dp ?_|refine gX (QV rfl) (aM5 _) (show(r.map vcV).length<=1000000000 from Aa) ?_|refine zS ?_|refine zT ?_ ?_<;>intro _|fail)
   all_goals conv=>whnf
   refine⟨([r],R),?_,hp,Ad⟩;show Le T _ (mkSt [(3, .arr 15 0),(7, .arr 7 0),(8,I rs.length),(9,I (0+1))] [] [(7,⟨0, .own,46,rs.map rgV⟩),(15,⟨0, .own,70,([r] :List Rg).flatten.map vcV⟩)]);rw[show([r] :List Rg).flatten=r from Ad];exact zj
  |cons d D=>
   have f:(d::D).length=D.length+1:=rfl;have j:((d::D).flatten.map vcV).length=(d::D).flatten.length:=Rw ..;repeat' ((conv=>whnf);first|omega|refine dS rfl rfl Dp ?_|refine iH rfl (.inl rfl) rfl (QV rfl) (aM5 _) (show((d::D).flatten.map vcV).length+(r.map vcV).length<=1000000000 from Aa) ?_|refine zS ?_|refine zT ?_ ?_<;>intro _|fail)
   all_goals conv=>whnf
   refine⟨(d::D++[r],R),?_,Ae,Ad⟩;show Le T _ (mkSt [(3, .arr 15 (D++[r]).length),(7, .arr 7 0),(8,I rs.length),(9,I (((D++[r]).length:Int)+1))] [] [(7,⟨0, .own,46,rs.map rgV⟩),(15,⟨(D++[r]).length, .own,70,((d::D)++[r]).flatten.map vcV⟩)]);rw[show((d::D)++[r]).flatten.map vcV=(d::D).flatten.map vcV++r.map vcV from Ad,QY,Rj];exact zj
def jS(a b:Vc):Int:=if 0<bZ a b then 0 else if bZ a b<0 then 2 else if vdot a b<0 then 1 else 3
def eW4(h:0<bZ a b):jS a b=0:=QU h
def eZ4(h:bZ a b<0):jS a b=2:=by unfold jS;rw[Q9 (by omega),QU h]
def eW6(c:bZ a b<=0)(d:0<=bZ a b)(h:vdot a b<0):jS a b=1:=by unfold jS;rw[Q9 (by omega),Q9 (by omega),QU h]
def fB4(c:bZ a b<=0)(d:0<=bZ a b)(h:0<=vdot a b):jS a b=3:=by unfold jS;rw[Q9 (by omega),Q9 (by omega),Q9 (by omega)]
def aQ6 a b:Sp 288 [vcV a,vcV b] (I (jS a b)):=by
 refine zsp func288 ?_;have f:=eW4 (a:=a) (b:=b);have g:=eW6 (a:=a) (b:=b);have i:=eZ4 (a:=a) (b:=b);have j:=fB4 (a:=a) (b:=b);generalize jS a b=A at*;have k:=kD a b;have l:=dP6 a b;generalize bZ a b=c at*;generalize vdot a b=d at*;repeat' ((conv=>whnf);first|refine zc k ?_|refine zc l ?_|refine zS ?_|refine zl (λe=>?_) (λe=>?_))
 all_goals conv=>whnf
 all_goals first
  |exact aG (f Aa).symm
  |exact aG (i Aa).symm
  |exact aG (g Aa Aa Aa).symm
  |exact aG (j Aa Aa Aa).symm
def bX9 s:Sp 243 [sgV s] (sgV (s.2,s.1)):=by
 refine zsp func243 ?_;exact O6
def oG(s:Sg)(d:Vc):Prop:=jS s.1 d<jS s.1 s.2\/(jS s.1 d=jS s.1 s.2/\jS s.1 d≠3/\0<bZ d s.2)
def bE0 s d:Sp 289 [sgV s,vcV d] (DB (oG s d)):=by
 refine zsp func289 ?_;have e:=aQ6 s.1 d;have f:=aQ6 s.1 s.2;have b:=kD d s.2;generalize hP:oG s d=P;have a:P↔oG s d:=GZ;unfold oG at a;clear hP;generalize jS s.1 d=x at*;generalize jS s.1 s.2=y at*;generalize bZ d s.2=c at*;repeat' ((conv=>whnf);first|refine zc e ?_|refine zc f ?_|refine zc b ?_|refine zS ?_|refine zT ?_ ?_<;>intro _|fail)
 all_goals conv=>whnf
 all_goals refine aA ?_
 all_goals first
  |exact fE (a.2 Aa)
  |exact aC (λh=>by have h:=a.1 h;omega)
  |(refine aS1 ?_;rw[a];omega)
def jH(s t:Sg):Prop:=jS s.1 t.1=3\/oG s t.1\/oG t s.1
def cT5 s t:Sp 242 [sgV s,sgV t] (DB (jH s t)):=by
 refine zsp func242 ?_;have d:=aQ6 s.1 t.1;have b:=bE0 s t.1;have c:=bE0 t s.1;generalize hP:jH s t=P;have a:P↔jH s t:=GZ;unfold jH at a;clear hP;generalize jS s.1 t.1=x at*;generalize oG s t.1=p at*;generalize oG t s.1=q at*;repeat' ((conv=>whnf);first|refine zc d ?_|refine zc b ?_|refine zc c ?_|refine zS ?_|refine zT ?_ ?_<;>intro _|fail)
 all_goals conv=>whnf
 all_goals refine aA ?_
 all_goals first
  |exact fE (a.2 (by first|exact .inl ‹_› |exact .inr (.inl ‹_›)))
  |(refine fQ ?_;rw[a];exact⟨λh=> .inr (.inr h),λh=>by rcases h with h|h|h<;>first|contradiction|exact h⟩)
def fD3(hg:∀m,Sp g (vcV m:: [.fp c, .fp d]) (DB (Q m))) l(b:l.length<=1000000):fnVC T Tryz.prog Tryz.f252 [.sl (l.map vcV), .fn g [.fp c, .fp d]] (I (fstI Q l)):=by
 have a:(l.map vcV).length=l.length:=Ad;repeat' ((conv=>whnf);first|refine zS ?_|fail)
 refine aU (A:=List Vc) (B:=List Vc) (λD R=>mkSt [(0, .sl (l.map vcV)),(1, .fn g [.fp c, .fp d]),(7,I l.length),(8,I D.length)] [] [])
  (λD R=>l=D++R/\∀m∈D,¬Q m) (λD R=>R.length) [] l ?_ ⟨rfl,Ad⟩ (λD R hp=>?_)
 exact zj;exact IJ
def dW6(a:∀m,Sp g (vcV m:: [.fp c, .fp d]) (DB (Q m))) l(b:l.length<=1000000):Sp 252 [.sl (l.map vcV), .fn g [.fp c, .fp d]] (I (fstI Q l)):=zsp func252 (fD3 a l b)
def eY5{Q:Vc->Prop}(a:∀m,Sp g (vcV m:: [.fp c, .fp d]) (DB (Q m)))(l:List Vc)(b:l.length<=1000000):fnVC T Tryz.prog Tryz.f200 [.sl (l.map vcV), .fn g [.fp c, .fp d]] (DB (∃m∈l,Q m)):=by
 repeat' ((conv=>whnf);first|refine zc (dW6 a l b) ?_|refine zS ?_|fail)
 exact Np
def dV5{Q:Vc->Prop}(a:∀m,Sp g (vcV m:: [.fp c, .fp d]) (DB (Q m)))(l:List Vc)(b:l.length<=1000000):Sp 200 [.sl (l.map vcV), .fn g [.fp c, .fp d]] (DB (∃m∈l,Q m)):=zsp func200 (eY5 a l b)
def cY2 b n(a:gV b) v:Sp 285 [vcV v, .fp (shV b).cells, .fp [I n]] (DB (lJ b v=n)):=by
 refine zsp func285 ?_;repeat' ((conv=>whnf);first|refine zc (aD4 b v a) ?_|refine zS ?_|fail)
 all_goals conv=>whnf
 all_goals exact aA eqB_d
def rV(s:Sh):List Vc:=(rings s).flatten
def cH3(b:gV s)(e:s.holes.length<=6):(rV s).length<=7000000:=by
 have c:=dH9 (rings s) (λr a=>b.mem a);have d:(rings s).length=s.holes.length+1:=AU;unfold rV;omega
def bL9(a b:Sh)(n:Int):Prop:=∃v∈rV a,lJ b v=n
def bK5 a b n(d:gV a)(c:a.holes.length<=6)(e:gV b)(f:(rV a).length<=1000000):Sp 239 [shV a,shV b,I n] (DB (bL9 a b n)):=by
 refine zsp func239 ?_;repeat' ((conv=>whnf);first|refine zc (aJ3 a d c) ?_|refine zc (dV5 (λv=>cY2 b n e v) (rV a) f) ?_|refine zS ?_|fail)
 all_goals conv=>whnf
 all_goals exact aA rfl
end Go.Proofs.Led
namespace Go.Proofs.Led
open Go Go.Proofs Go.Ab Go.RowKit Tryz
structure jL where
 id:Int
 grade:ByteArray
 heat:ByteArray
 grain:Int
 shape:Sh
 defects:List Sh
def aA7(s:jL):List V:=[I s.id,S s.grade,S s.heat,I s.grain,rgV s.shape.outer, .sl (s.shape.holes.map rgV), .sl (s.defects.map shV)]
def zJ(s:jL):V:= .agg (aA7 s)
def dN:jL:=⟨0,aI,aI,0,sh0,[]⟩
abbrev Iv:=Int×Int
def ivV(d:Iv):V:= .agg [I d.1,I d.2]
structure Bar where
 id:Int
 grade:ByteArray
 heat:ByteArray
 length:Int
 defects:List Iv
def barC(b:Bar):List V:=[I b.id,S b.grade,S b.heat,I b.length, .sl (b.defects.map ivV)]
def barV(b:Bar):V:= .agg (barC b)
def bar0:Bar:=⟨0,aI,aI,0,[]⟩
structure aN where
 isBar:Bool
 sheet:jL
 bar:Bar
 program:ByteArray
def gB(x:aN):List V:=[B x.isBar,I x.sheet.id,S x.sheet.grade,S x.sheet.heat,I x.sheet.grain,rgV x.sheet.shape.outer, .sl (x.sheet.shape.holes.map rgV), .sl (x.sheet.defects.map shV),
 I x.bar.id,S x.bar.grade,S x.bar.heat,I x.bar.length, .sl (x.bar.defects.map ivV),S x.program]
def aQ(x:aN):V:= .agg (gB x)
def wS:aN:=⟨false,dN,bar0,aI⟩
structure Piece where
 id:Int
 parent:Int
 part:ByteArray
 grade:ByteArray
 heat:ByteArray
 size:Int
 isBar:Bool
 status:Int
 order:ByteArray
def dZ8(x:Piece):List V:=[I x.id,I x.parent,S x.part,S x.grade,S x.heat,I x.size,B x.isBar,I x.status,S x.order]
def aZ(x:Piece):V:= .agg (dZ8 x)
structure aJ where
 stocks:List aN
 pieces:List Piece
 used:List Int
 received:Iv
 scrap:Iv
def invC(s:aJ):List V:=[.sl (s.stocks.map aQ), .sl (s.pieces.map aZ), .sl (s.used.map I),I s.received.1,I s.received.2,I s.scrap.1,I s.scrap.2]
def invV(s:aJ):V:= .agg (invC s)
def inv0:aJ:=⟨[],[],[],(0,0),(0,0)⟩
structure Made where
 id:Int
 part:ByteArray
 size:Int
def dK(x:Made):V:= .agg [I x.id,S x.part,I x.size]
structure Rest where
 id:Int
 box:Bx
 lo:Int
 hi:Int
def bY(x:Rest):V:= .agg [I x.id,I x.box.1.1,I x.box.1.2,I x.box.2.1,I x.box.2.2,I x.lo,I x.hi]
structure Event where
 kind:Int
 id:Int
 text:ByteArray
 sheet:jL
 bar:Bar
 cuts:List Made
 rests:List Rest
 scrap:Int
def iJ(x:Event):List V:=[I x.kind,I x.id,S x.text,I x.sheet.id,S x.sheet.grade,S x.sheet.heat,I x.sheet.grain,rgV x.sheet.shape.outer, .sl (x.sheet.shape.holes.map rgV), .sl (x.sheet.defects.map shV),
 I x.bar.id,S x.bar.grade,S x.bar.heat,I x.bar.length, .sl (x.bar.defects.map ivV), .sl (x.cuts.map dK), .sl (x.rests.map bY),I x.scrap]
def aS(x:Event):V:= .agg (iJ x)
def lK(s:jL):Prop:=gV s.shape/\s.defects.length<=1000000/\∀d∈s.defects,gV d
end Go.Proofs.Led
namespace Go.Proofs.Led
open Go Go.Proofs Go.Ab Tryz
variable{g:FuncId}{c:Rg->Rg->Int}{Q:Rg->Prop}
abbrev cF2(g:FuncId)(c:Rg->Rg->Int)(Q:Rg->Prop):Prop:=∀i j,Q i->Q j->Sp g [rgV i,rgV j] (I (c i j))
def fC7(D:cF2 g c Q) pre xs a(w:∀x∈xs,Q x)(J:pre.length+xs.length+a.length<=100000):
 fnIO T Tryz.prog Tryz.f303 [.own 46 ((pre++xs++a).map rgV),I pre.length,I (pre.length+xs.length), .fn g []] (.tup []) 0 46 ((pre++qA c xs++a).map rgV):=by
 repeat' ((conv=>whnf);first|refine zS ?_|fail)
 refine lD (A:=Nat) (λk=>mkSt [(0, .arr 0 0),(1,I pre.length),(2,I (pre.length+xs.length)),(3, .fn g []),(8,I (pre.length+k))] [] [(0,⟨0, .own,46,(pre++(isR c (xs.take k)).reverse++xs.drop k++a).map rgV⟩)])
  (λk=>1<=k/\(k<=xs.length\/k=1)) (λk=>xs.length-k) 1 ?_ ⟨Aa, .inr rfl⟩ (λk E=>?_)
 ·refine dV ?_ ?_ ?_ ?_
  all_goals repeat' (first|exact trivial|refine And.intro ?_ ?_|with_reducible rfl|exact(λh=>Ah)|exact Rf _|omega|exact rfl)
  ·show List.map rgV (pre++xs++a)=List.map rgV (pre++(isR c (List.take 1 xs)).reverse++List.drop 1 xs++a)
   cases xs with
   |nil=>simp[isR]
   |cons x r=>simp[isR,insR]
 ·change 1<=k/\(k<=xs.length\/k=1)at E
  rcases Sj k xs.length with e|e
  ·have t:=List.drop_eq_getElem_cons e
   have C:xs.take (k+1)=xs.take k++[xs[k]] :=by rw[U2,QX e];rfl
   have s:=w _ (TL e);generalize xs[k] =x at t C s;obtain⟨b,m⟩:∃b,xs.drop (k+1)=b:=⟨_,rfl⟩;rw[m]at t;have q:(isR c (xs.take k)).length=k:=by rw[dH2,Rk];omega
   have o:∀z∈isR c (xs.take k),Q z:=λz v=>w z (RP (dI0.1 v));have f:isR c (xs.take (k+1))=insR c x (isR c (xs.take k)):=by rw[C,eB2]
   generalize isR c (xs.take k)=j at q o f;rw[t];repeat' ((conv=>whnf);first|omega|refine zS ?_|refine zl (λd=>?_) (λd=>?_))
   refine aU (A:=List Rg) (B:=List Rg) (λR M=>mkSt [(0, .arr 0 0),(1,I pre.length),(2,I (pre.length+xs.length)),(3, .fn g []),(8,I (pre.length+k)),(9,I (pre.length+R.length))] [] [(0,⟨0, .own,46,(pre++(R.reverse++x::(M++b))++a).map rgV⟩)])
    (λR M=>R.length<=k/\(∀z∈R,Q z)/\(insR c x j).reverse=(insR c x R).reverse++M) (λR M=>R.length) j [] ?_ ⟨Aa,o,Ad⟩ (λR M G=>?_)
   ·refine dV ?_ ?_ ?_ ?_
    all_goals repeat' (first|exact trivial|refine And.intro ?_ ?_|with_reducible rfl|exact(λh=>Ah)|exact Rf _|omega|exact rfl)
    ·show List.map rgV (pre++j.reverse++x::b++a)=List.map rgV (pre++(j.reverse++x::([] ++b))++a)
     simp
   ·let⟨u,n,i⟩:=G
    change R.length<=k at u;change∀z∈R,Q z at n;change (insR c x j).reverse=(insR c x R).reverse++M at i;cases R with
    |nil=>
     have K:([] :List Rg).length=0:=rfl;repeat' ((conv=>whnf);first|omega|refine zS ?_|refine zl (λd=>?_) (λd=>?_))
     refine⟨k+1,?_,⟨Aa, .inl Aa⟩,Aa⟩;rw[f];refine dV ?_ ?_ ?_ ?_;all_goals repeat' (first|exact trivial|refine And.intro ?_ ?_|with_reducible rfl|exact(λh=>Ah)|exact Rf _|omega|exact rfl)
     show List.map rgV (pre++([].reverse++x::(M++b))++a)=List.map rgV (pre++(insR c x j).reverse++List.drop (k+1) xs++a);rw[i,m];simp[insR]
    |cons y r=>
     have H:(pre++((y::r).reverse++x::(M++b))++a).length=pre.length+(r.length+1)+1+(M++b++a).length:=AY;have F:(y::r).length=r.length+1:=rfl;repeat' ((conv=>whnf);first|omega|(refine dY5 (l:=pre++((y::r).reverse++x::(M++b))++a) rfl (λh=>Ah) rfl ?_ ?_;focus (constructor<;>omega))|refine cQ9 Aa ?_|(refine dX6 (l:=pre++((y::r).reverse++x::(M++b))++a) rfl (λh=>Ah) rfl ?_ ?_;focus (constructor<;>omega))|refine aF (l:=pre++((y::r).reverse++x::(M++b))++a) (A:=pre++(y::r).reverse) (x:=x) (B:=M++b++a) Ad AY ?_|refine aF (l:=pre++((y::r).reverse++x::(M++b))++a) (A:=pre++r.reverse) (x:=y) (B:=x::(M++b++a)) Ad AY ?_|refine zc (D x y s (n y Ad)) ?_|refine dB8 rfl rfl ?_|refine zS ?_|refine zl (λd=>?_) (λd=>?_))
     ·refine⟨(r,y::M),?_,?_,?_⟩
      ·refine dV ?_ ?_ ?_ ?_
       all_goals repeat' (first|exact trivial|refine And.intro ?_ ?_|with_reducible rfl|exact(λh=>Ah)|exact Rf _|omega|exact rfl)
       show List.set (List.set (List.map rgV (pre++((y::r).reverse++x::(M++b))++a)) _ (rgV y)) _ (rgV x)=List.map rgV (pre++(r.reverse++x::(y::M++b))++a);rw[show pre++((y::r).reverse++x::(M++b))++a=(pre++(y::r).reverse)++x::(M++b++a) from Ad,RH,Rt,set_mid AY];rw[show(pre++(y::r).reverse:List Rg)=(pre++r.reverse)++[y] from Ad,RH,Rt,Tn,SY,Ur,Uj,set_mid AY];simp;show(pre.length:Int)+(y::r).length-1=pre.length+r.length;omega
      refine⟨by show r.length<=k;omega,λz v=>n z (by simp[show z∈r from v]),?_⟩;show(insR c x j).reverse=(insR c x r).reverse++y::M;rw[i];simp[insR,d];show r.length< (y::r).length;simp
     refine⟨k+1,?_,⟨Aa, .inl Aa⟩,Aa⟩;rw[f];refine dV ?_ ?_ ?_ ?_;all_goals repeat' (first|exact trivial|refine And.intro ?_ ?_|with_reducible rfl|exact(λh=>Ah)|exact Rf _|omega|exact rfl)
     show List.map rgV (pre++((y::r).reverse++x::(M++b))++a)=List.map rgV (pre++(insR c x j).reverse++List.drop (k+1) xs++a);rw[i,m];simp[insR,show¬c x y<0 from Aa]
  ·rw[Um e,UI e]
   repeat' ((conv=>whnf);first|omega|refine zS ?_|refine zl (λd=>?_) (λd=>?_))
   refine cA7 ?_;conv=>whnf
   refine⟨[],rfl,⟨⟨rfl,rfl,rfl,?_⟩,trivial⟩,rfl⟩;show List.map rgV (pre++(isR c xs).reverse++[] ++a)=List.map rgV (pre++qA c xs++a);simp[qA]
def eI2(a:cF2 g c Q) xs(b:∀x∈xs,Q x)(d:xs.length<=100000):
 SpIO 303 [.own 46 (xs.map rgV),I 0,I xs.length, .fn g []] (.tup []) 46 ((qA c xs).map rgV):=by
 have:=eH7 rfl func303 Ac Ac (fC7 a [] xs [] b AY);simp only[Uj,Rq,Tc]at this;rw[show((0:Nat):Int)+(xs.length:Int)=xs.length from Aa]at this;exact this
def Qr(r:Rg):Prop:=r≠ []/\r.length<=1000000
def cR(a b:Rg):Int:=vcmp (a.getD 0 z0) (b.getD 0 z0)
def eR1 a b(f:Qr a)(h:Qr b):Sp 235 [rgV a,rgV b] (I (cR a b)):=by
 refine zsp func235 ?_;have d:=List.length_pos_iff.2 f.1;have e:=List.length_pos_iff.2 h.1;repeat' ((conv=>whnf);first|refine aU3 (r:=a) (k:=0) rfl d ?_|refine aU3 (r:=b) (k:=0) rfl e ?_|refine zc (qI (a.getD 0 z0) (b.getD 0 z0)) ?_|refine zS ?_|fail)
 all_goals exact zE
def cR_ok:cF2 235 cR Qr:=λi j hi a=>eR1 i j hi a
def U64(n:Int):V:= .lit (.int .u64 n)
def eP4:Sp 209 [U64 0] (I 0):=by
 refine zsp func209 ?_;repeat' ((conv=>whnf);first|omega|refine fK (k:= .u8) (n:=0) (m:=0) Ai ?_|refine fU (QV Ac) ?_|refine fK (k:= .i64) (m:=0) Ac ?_|refine zS ?_|refine zT ?_ ?_<;>intro _|fail)
 all_goals conv=>whnf
 all_goals exact aG Ac
def eU1:Sp 280 [U64 0] (I 0):=by
 refine zsp func280 ?_;repeat' ((conv=>whnf);first|refine zc eP4 ?_|refine zS ?_|fail)
 all_goals conv=>whnf
 all_goals exact aG rfl
def eM6:Sp 209 [U64 1] (I 1):=by
 refine zsp func209 ?_;repeat' ((conv=>whnf);first|omega|refine fK (k:= .u8) (n:=1) (m:=1) Ai ?_|refine fU (QV Ac) ?_|refine fK (k:= .i64) (m:=1) Ac ?_|refine zS ?_|refine zT ?_ ?_<;>intro _|fail)
 all_goals conv=>whnf
 all_goals exact aG Ac
def len_1:Sp 280 [U64 1] (I 1):=by
 refine zsp func280 ?_;repeat' ((conv=>whnf);first|refine zc eM6 ?_|refine zS ?_|fail)
 all_goals conv=>whnf
 all_goals exact aG rfl
def eR3:Sp 209 [U64 2] (I 2):=by
 refine zsp func209 ?_;repeat' ((conv=>whnf);first|omega|refine fK (k:= .u8) (n:=2) (m:=2) Ai ?_|refine fU (QV Ac) ?_|refine fK (k:= .i64) (m:=2) Ac ?_|refine zS ?_|refine zT ?_ ?_<;>intro _|fail)
 all_goals conv=>whnf
 all_goals exact aG Ac
def len_2:Sp 280 [U64 2] (I 2):=by
 refine zsp func280 ?_;repeat' ((conv=>whnf);first|refine zc eR3 ?_|refine zS ?_|fail)
 all_goals conv=>whnf
 all_goals exact aG rfl
def eT4:Sp 209 [U64 3] (I 2):=by
 refine zsp func209 ?_;repeat' ((conv=>whnf);first|omega|refine fK (k:= .u8) (n:=3) (m:=3) Ai ?_|refine fU (QV Ac) ?_|refine fK (k:= .i64) (m:=2) Ac ?_|refine zS ?_|refine zT ?_ ?_<;>intro _|fail)
 all_goals conv=>whnf
 all_goals exact aG Ac
def len_3:Sp 280 [U64 3] (I 2):=by
 refine zsp func280 ?_;repeat' ((conv=>whnf);first|refine zc eT4 ?_|refine zS ?_|fail)
 all_goals conv=>whnf
 all_goals exact aG rfl
def eN1:Sp 209 [U64 4] (I 3):=by
 refine zsp func209 ?_;repeat' ((conv=>whnf);first|omega|refine fK (k:= .u8) (n:=4) (m:=4) Ai ?_|refine fU (QV Ac) ?_|refine fK (k:= .i64) (m:=3) Ac ?_|refine zS ?_|refine zT ?_ ?_<;>intro _|fail)
 all_goals conv=>whnf
 all_goals exact aG Ac
def len_4:Sp 280 [U64 4] (I 3):=by
 refine zsp func280 ?_;repeat' ((conv=>whnf);first|refine zc eN1 ?_|refine zS ?_|fail)
 all_goals conv=>whnf
 all_goals exact aG rfl
def eM8:Sp 209 [U64 5] (I 3):=by
 refine zsp func209 ?_;repeat' ((conv=>whnf);first|omega|refine fK (k:= .u8) (n:=5) (m:=5) Ai ?_|refine fU (QV Ac) ?_|refine fK (k:= .i64) (m:=3) Ac ?_|refine zS ?_|refine zT ?_ ?_<;>intro _|fail)
 all_goals conv=>whnf
 all_goals exact aG Ac
def len_5:Sp 280 [U64 5] (I 3):=by
 refine zsp func280 ?_;repeat' ((conv=>whnf);first|refine zc eM8 ?_|refine zS ?_|fail)
 all_goals conv=>whnf
 all_goals exact aG rfl
def eP5:Sp 209 [U64 6] (I 3):=by
 refine zsp func209 ?_;repeat' ((conv=>whnf);first|omega|refine fK (k:= .u8) (n:=6) (m:=6) Ai ?_|refine fU (QV Ac) ?_|refine fK (k:= .i64) (m:=3) Ac ?_|refine zS ?_|refine zT ?_ ?_<;>intro _|fail)
 all_goals conv=>whnf
 all_goals exact aG Ac
def len_6:Sp 280 [U64 6] (I 3):=by
 refine zsp func280 ?_;repeat' ((conv=>whnf);first|refine zc eP5 ?_|refine zS ?_|fail)
 all_goals conv=>whnf
 all_goals exact aG rfl
def len_any(n:Nat)(h:n<=6):∃b,Sp 280 [U64 (n:Int)] (I b):=by
 match n,h with
 |0,_=>exact⟨_,eU1⟩
 |1,_=>exact⟨_,len_1⟩
 |2,_=>exact⟨_,len_2⟩
 |3,_=>exact⟨_,len_3⟩
 |4,_=>exact⟨_,len_4⟩
 |5,_=>exact⟨_,len_5⟩
 |6,_=>exact⟨_,len_6⟩
def dY6(b:cF2 g c Q) xs(d:∀x∈xs,Q x)(e:xs.length<=12) a:
 SpIO 279 [.own 46 (xs.map rgV),I 0,I xs.length,I a, .fn g []] (.tup []) 46 ((qA c xs).map rgV):=by
 refine eH7 rfl func279 Ac Ac ?_;have hi:=eI2 b xs d Aa;repeat' ((conv=>whnf);first|refine zS ?_|fail)
 refine lD (A:=Unit) (λ_=>mkSt [(0, .arr 0 0),(1,I 0),(2,I xs.length),(3,I a),(4, .fn g []),(10, .lit (.bool true)),(11, .lit (.bool true))] [] [(0,⟨0, .own,46,xs.map rgV⟩)]) (λ_=>True) (λ_=>0) () ?_ trivial (λ_ _=>?_)
 ·exact zj
 repeat' ((conv=>whnf);first|omega|(refine aQ2 (hi) rfl rfl ?_ rfl rfl ?_;focus ((repeat' (first|exact trivial|refine And.intro ?_ ?_|with_reducible rfl|exact(λh=>Ah)|exact rfl));done))|refine zS ?_|refine zT ?_ ?_<;>intro _|fail)
 all_goals conv=>whnf
 exact OA
def u64_in(h:0<=n/\n<=1000000):IntKind.u64.wrap n=n:=by
 exact QO
def cR4(f:cF2 g c Q) xs(j:∀x∈xs,Q x)(i:xs.length<=6):
 SpIO 234 [.own 46 (xs.map rgV), .fn g []] (.tup []) 46 ((qA c xs).map rgV):=by
 refine eH7 rfl func234 Ac Ac ?_;have a:(xs.map rgV).length=xs.length:=Ad;let⟨b,d⟩:=len_any xs.length i;have e:=dY6 f xs j Aa b;rw[<-a]at d e;repeat' ((conv=>whnf);first|refine fK (k:= .u64) (n:=((xs.map rgV).length:Int)) (m:=((xs.map rgV).length:Int)) (u64_in Aa) ?_|refine zc d ?_|(refine aQ2 (e) rfl rfl ?_ rfl rfl ?_;focus ((repeat' (first|exact trivial|refine And.intro ?_ ?_|with_reducible rfl|exact(λh=>Ah)|exact rfl));done))|refine zS ?_|fail)
 all_goals conv=>whnf
 exact OA
def dT5 g:Sp 303 [nilV,I 0,I 0, .fn g []] (.tup []):=by
 refine zsp func303 ?_;repeat' ((conv=>whnf);first|refine zS ?_|fail)
 refine lD (A:=Unit) (λ_=>mkSt [(1,I 0),(2,I 0),(8,I 1)] [] []) (λ_=>True) (λ_=>0) () ?_ trivial (λ_ _=>?_);exact zj;repeat' ((conv=>whnf);first|omega|refine zS ?_|refine zT ?_ ?_<;>intro _|fail)
 all_goals conv=>whnf
 all_goals exact⟨[],rfl,trivial,rfl⟩
def dK0 g a:Sp 279 [nilV,I 0,I 0,I a, .fn g []] (.tup []):=by
 refine zsp func279 ?_;repeat' ((conv=>whnf);first|refine zS ?_|fail)
 refine lD (A:=Unit) (λ_=>mkSt [(0,nilV),(1,I 0),(2,I 0),(3,I a),(4, .fn g [])] [] []) (λ_=>True) (λ_=>0) () ?_ trivial (λ_ _=>?_);exact zj;repeat' ((conv=>whnf);first|omega|refine zc (dT5 g) ?_|refine zS ?_|refine zT ?_ ?_<;>intro _|fail)
 all_goals conv=>whnf
 all_goals exact⟨[],rfl,trivial,rfl⟩
def cZ9 g:Sp 234 [nilV, .fn g []] (.tup []):=by
 refine zsp func234 ?_;repeat' ((conv=>whnf);first|refine fK (k:= .u64) (n:=0) (m:=0) Ai ?_|refine zc eU1 ?_|refine zc (dK0 g 0) ?_|refine zS ?_|fail)
 all_goals conv=>whnf
 all_goals exact⟨[],rfl,trivial,rfl⟩
def dW3(h:dM r)(b:r.length<=1000000):Qr (gQ r):=by
 rw[bJ7 h];have a:=h.1;have e:(wL r).length=r.length:=by unfold wL;rw[QY,Sr,Rk];omega
 refine⟨λq=>?_,Aa⟩;rw[q]at e;simp at e;omega
def wW(s:Sh):List Rg:=qA cR (s.holes.map gQ)
def qO(s:Sh):Sh:=open Classical in if bG s then⟨gQ s.outer,wW s⟩else sh0
def aN9(h:bG s):qO s=⟨gQ s.outer,wW s⟩:=QU h
def bH5(h:¬bG s):qO s=sh0:=Q9 h
def canSt(s:Sh)(D:List Rg):St:=match D with
 | [] =>mkSt [(1, .box 1 0),(2, .box 2 0),(3, .box 3 0),(15, .sl (s.holes.map rgV)),(16,I s.holes.length),(17,I 0)] [(1,(shV s).cells),(2,(shV sh0).cells),(3,[rgV (gQ s.outer),nilV])] []
 |d::D=>mkSt [(1, .box 1 0),(2, .box 2 0),(3, .box 3 0),(15, .sl (s.holes.map rgV)),(16,I s.holes.length),(17,I ((D.length:Int)+1))] [(1,(shV s).cells),(2,(shV sh0).cells),(3,[rgV (gQ s.outer), .arr 26 D.length])] [(26,⟨D.length, .own,46,((d::D).map gQ).map rgV⟩)]
def aU9 s(k:gV s):Sp 186 [shV s] (shV (qO s)):=by
 refine zsp func186 ?_;have u:=aN9 (s:=s);have v:=bH5 (s:=s);generalize qO s=A at*;have F:(s.holes.map rgV).length=s.holes.length:=Ad;repeat' ((conv=>whnf);first|refine zc (kK s k) ?_|refine zc (aU6 s.outer k.1) ?_|refine zS ?_|refine zd (λj=>?_) (λj=>?_))
 all_goals conv=>whnf
 ·rw[u j]
  have g:=j;unfold bG at g;let⟨H,m,_,_⟩:=g
  have w:∀x∈s.holes.map gQ,Qr x:=λx G=>by
   obtain⟨r,q,rfl⟩:=Rn.1 G;exact dW3 (m r (RZ _ q)) (k.2.2 r q)
  have y:(s.holes.map gQ).length=s.holes.length:=Ad;refine aU (A:=List Rg) (B:=List Rg) (λD R=>canSt s D) (λD R=>s.holes=D++R) (λD R=>R.length) [] s.holes ?_ rfl (λD R hp=>?_);exact IZ;cases R with
  |nil=>
   have e:D=s.holes:=Ae;subst e;clear hp;cases c:s.holes with
   |nil=>
    have b:wW s=[] :=by unfold wW;rw[c];rfl
    rw[b];have J:s.holes.length=0:=by rw[c];rfl
    repeat' ((conv=>whnf);first|omega|refine zc (cZ9 235) ?_|refine zS ?_|refine zl (λa=>?_) (λa=>?_))
    all_goals conv=>whnf
    exact NC
   |cons d D=>
    have n:(d::D).length=D.length+1:=rfl;have i:=cR4 cR_ok ((d::D).map gQ) (by rw[<-c];exact w) (by rw[<-c];omega);have b:wW s=qA cR ((d::D).map gQ):=by unfold wW;rw[c]
    rw[b];generalize qA cR ((d::D).map gQ)=Z at i;have C:s.holes.length=D.length+1:=by rw[c];rfl
    repeat' ((conv=>whnf);first|omega|(refine aQ2 (i) rfl rfl ?_ rfl rfl ?_;focus ((repeat' (first|exact trivial|refine And.intro ?_ ?_|with_reducible rfl|exact(λh=>Ah)|exact rfl));done))|refine zS ?_|refine zl (λa=>?_) (λa=>?_))
    all_goals conv=>whnf
    exact NC
  |cons h R=>
   have o:=aO hp;have E:=k.2.2 h Ae;have f:=aU6 h E;cases D with
   |nil=>
    have t:([] :List Rg).length=0:=rfl;repeat' ((conv=>whnf);first|omega|refine aF (l:=s.holes) (A:=[]) (x:=h) (B:=R) hp Aa ?_|refine zc f ?_|refine gX (QV rfl) (dA rfl) (QV rfl) ?_|refine zS ?_|refine zl (λa=>?_) (λa=>?_))
    all_goals conv=>whnf
    refine⟨([h],R),?_,hp,Ad⟩;show Le T _ (mkSt [(1, .box 1 0),(2, .box 2 0),(3, .box 3 0),(15, .sl (s.holes.map rgV)),(16,I s.holes.length),(17,I (0+1))] [(1,(shV s).cells),(2,(shV sh0).cells),(3,[rgV (gQ s.outer), .arr 26 0])] [(26,⟨0, .own,46,[rgV (gQ h)]⟩)]);exact zj
   |cons d D=>
    have t:(d::D).length=D.length+1:=rfl;have z:(((d::D).map gQ).map rgV).length=D.length+1:=Ad;repeat' ((conv=>whnf);first|omega|refine aF (l:=s.holes) (A:=d::D) (x:=h) (B:=R) hp Aa ?_|refine zc f ?_|refine iH rfl (.inl rfl) rfl (QV rfl) (dA rfl) (show(((d::D).map gQ).map rgV).length+1<=1000000000 from Aa) ?_|refine zS ?_|refine zl (λa=>?_) (λa=>?_))
    all_goals conv=>whnf
    refine⟨(d::D++[h],R),?_,Ae,Ad⟩;show Le T _ (mkSt [(1, .box 1 0),(2, .box 2 0),(3, .box 3 0),(15, .sl (s.holes.map rgV)),(16,I s.holes.length),(17,I (((D++[h]).length:Int)+1))] [(1,(shV s).cells),(2,(shV sh0).cells),(3,[rgV (gQ s.outer), .arr 26 (D++[h]).length])] [(26,⟨(D++[h]).length, .own,46,(((d::D)++[h]).map gQ).map rgV⟩)]);rw[show(((d::D)++[h]).map gQ).map rgV=((d::D).map gQ).map rgV++[rgV (gQ h)] from Ad,QY,Rj];exact zj
 rw[v j];exact NC
def fst_eq{D R:List Int}(h:∀y∈D,¬n=y):fst (λy=>n=y) (D++n::R)=D.length:=wH (λy a=>by rw[dW.2 (h y a)];rfl) (by rw[dH.2 rfl];rfl)
def bM4 l n(f:l.length<=1000000):Sp 312 [.sl (l.map I),I n] (I (fstI (λy=>n=y) l)):=by
 refine zsp func312 ?_;have e:(l.map I).length=l.length:=Ad;repeat' ((conv=>whnf);first|refine zS ?_|fail)
 refine aU (A:=List Int) (B:=List Int) (λD R=>mkSt [(0, .sl (l.map I)),(1,I n),(6, .sl (l.map I)),(7,I l.length),(8,I D.length)] [] []) (λD R=>l=D++R/\∀y∈D,¬n=y) (λD R=>R.length) [] l ?_ ⟨rfl,Ad⟩ (λD R hp=>?_);exact zj;let⟨hp,hD⟩:=hp;cases R with
 |nil=>
  have c:l.length=D.length:=Ae;repeat' ((conv=>whnf);first|omega|refine zS ?_|refine zl (λa=>?_) (λa=>?_))
  all_goals conv=>whnf
  refine aG ?_;unfold fstI;rw[Q9 (iO.2 Fb)]
 |cons y R=>
  have c:=aO hp;repeat' ((conv=>whnf);first|omega|refine zS ?_|refine zl (λa=>?_) (λa=>?_)|refine ze (λb=>?_) (λb=>?_))
  all_goals conv=>whnf
  subst b;refine aG ?_;unfold fstI;rw[hp,fst_eq hD,QU Ad];refine⟨(D++[y],R),?_,⟨Ae,λz d=>?_⟩,Ad⟩;exact IW;rcases Rh.1 d with d|d;exact hD z d;rw[Ri.1 d];assumption
def dK5(l:List Int) n(d:l.length<=1000000):Sp 283 [.sl (l.map I),I n] (DB (n∈l)):=by
 refine zsp func283 ?_;repeat' ((conv=>whnf);first|refine zc (bM4 l n d) ?_|refine zS ?_|fail)
 all_goals conv=>whnf
 all_goals refine aA (le_dec ?_)
 have h:=iO (Q:=λy=>n=y) (l:=l);unfold fstI;constructor;intro c;split at c;rename_i a;exact U5 λe=>(h.2 (λm b f=>e (by rw[f];exact b))) a;omega;intro b;split;omega;rename_i a;exact(h.1 a n b rfl).elim
def bV2(b:gV s)(a:s.holes.length<=6):(aC0 s).length<=7000000:=bC1 b a (D:=rings s) (R:=[]) Ad
def rJ(a b:Sh)(ways:List Int):Prop:=∃x∈aC0 a,∃y∈aC0 b,dG x y∈ways
def bX6 a b c(i:gV a)(d:a.holes.length<=6)(j:gV b)(e:b.holes.length<=6)(n:c.length<=1000000):Sp 238 [shV a,shV b, .sl (c.map I)] (DB (rJ a b c)):=by
 refine zsp func238 ?_;have f:=aV8 a i d;have g:=aV8 b j e;have k:=bV2 i d;have m:=bV2 j e;generalize hP:rJ a b c=P;have hr:P↔rJ a b c:=GZ;clear hP;unfold rJ at hr;generalize aC0 a=A at*;generalize aC0 b=B at*;repeat' ((conv=>whnf);first|refine zc g ?_|refine zc f ?_|refine zS ?_|fail)
 conv=>whnf
 refine aU (A:=List Sg) (B:=List Sg) (λD R=>mkSt [(2, .sl (c.map I)),(7, .lit (.bool false)),(8, .arr 14 0),(16, .arr 16 0),(17,I A.length),(18,I D.length)] [] [(14,⟨0, .own,233,B.map sgV⟩),(16,⟨0, .own,233,A.map sgV⟩)]) (λD R=>A=D++R/\∀x∈D,∀y∈B,¬dG x y∈c) (λD R=>R.length) [] A ?_ ⟨rfl,Ad⟩ (λD R hp=>?_);exact Jb;let⟨hp,hD⟩:=hp;cases R with
 |nil=>exact JG
 |cons x R=>
  have hlen:=aO hp;repeat' ((conv=>whnf);first|omega|refine dS rfl rfl D5 ?_|refine aF (l:=A) (A:=D) (x:=x) (B:=R) hp Aa ?_|refine zS ?_|refine zT ?_ ?_<;>intro _|fail)
  refine aU (A:=List Sg) (B:=List Sg) (λE S=>mkSt [(2, .sl (c.map I)),(7, .lit (.bool false)),(8, .arr 14 0),(10, .box 10 0),(16, .arr 16 0),(17,I A.length),(18,I D.length),(22, .arr 14 0),(23,I B.length),(24,I E.length)] [(10,(sgV x).cells)] [(14,⟨0, .own,233,B.map sgV⟩),(16,⟨0, .own,233,A.map sgV⟩)]) (λE S=>B=E++S/\∀y∈E,¬dG x y∈c) (λE S=>S.length) [] B ?_ ⟨rfl,Ad⟩ (λE S hq=>?_);exact Jb;let⟨hq,hE⟩:=hq;cases S with
  |nil=>exact MX
  |cons y S=>
   have hlen2:=aO hq;repeat' ((conv=>whnf);first|omega|refine dS rfl rfl D6 ?_|refine aF (l:=B) (A:=E) (x:=y) (B:=S) hq Aa ?_|refine zc (aS9 x y) ?_|refine zc (dK5 c (dG x y) n) ?_|refine zS ?_|refine zT ?_ ?_<;>intro _|fail)
   all_goals conv=>whnf
   all_goals first
    |exact aA (fE (hr.2 ⟨x,Ae,y,Au,Ag⟩))
    |skip
   exact Qj
def arN(i:Nat)(r:Rg)(k:Nat):Vc:=if 0<i then mY r k else iU r k
def arL(i:Nat)(r:Rg)(k:Nat):Vc:=if 0<i then iU r k else mY r k
def dJ(i:Nat)(r:Rg)(p:Vc)(k:Nat):Option Sg:=
 open Classical in if r.getD k z0=p then some (vsub (arN i r k) p,vsub (arL i r k) p)
 else if arN i r k≠p/\eX (r.getD k z0,arN i r k) p then some (vsub (arN i r k) p,vsub (r.getD k z0) p)else none
def qY(i:Nat)(r:Rg)(p:Vc):Option Sg:=(List.range r.length).findSome? (dJ i r p)
def nR(p:Vc):Nat->List Rg->Option Sg
 |_,[] =>none
 |i,r::R=>(qY i r p).or (nR p (i+1) R)
def jE(s:Sh)(p:Vc):Sg:=(nR p 0 (rings s)).getD ((0,0),(0,0))
def bZ2(h:∀k,k<r.length->dJ i r p k=none):qY i r p=none:=by
 unfold qY;simp_all
def range_split(h:k<n):List.range n=List.range k++k::(List.range n).drop (k+1):=by
 apply List.ext_getElem?;grind
def bZ8(hk:k<r.length)(h:∀j,j<k->dJ i r p j=none)(hx:dJ i r p k=some x):qY i r p=some x:=by
 unfold qY;exact OO
def cU6(h:qY i r p=some x):nR p i (r::R)=some x:=by
 rw[nR,h];rfl
def cR6(h:qY i r p=none):nR p i (r::R)=nR p (i+1) R:=by
 rw[nR,h];rfl
def aW8 s p(v:gV s)(G:s.holes.length<=6):Sp 287 [shV s,vcV p] (sgV (jE s p)):=by
 refine zsp func287 ?_;have F:=aW6 s v;have i:∀r∈rings s,r.length<=1000000:=λr z=>v.mem z;have w:(rings s).length<=7:=Fh;have o:∀x:Sg,nR p 0 (rings s)=some x->sgV (jE s p)=sgV x:=λx h=>by unfold jE;rw[h];rfl
 have t:nR p 0 (rings s)=none->sgV (jE s p)=sgV ((0,0),(0,0)):=λh=>by unfold jE;rw[h];rfl
 generalize sgV (jE s p)=X at*;generalize rings s=rs at*;have y:(rs.map rgV).length=rs.length:=Ad;repeat' ((conv=>whnf);first|refine zS ?_|fail)
 refine aU (A:=List Rg) (B:=List Rg) (λD R=>mkSt [(2, .box 2 0),(3, .box 3 0),(4, .box 4 0),(13, .arr 13 0),(14,I rs.length),(15,I D.length)] [(2,(shV s).cells),(3,(vcV p).cells),(4,[I 0,I 0,I 0,I 0])] [(13,⟨0, .own,46,rs.map rgV⟩)]) (λD R=>rs=D++R/\nR p 0 rs=nR p D.length R) (λD R=>R.length) [] rs ?_ ⟨rfl,rfl⟩ (λD R hp=>?_);exact IZ;obtain⟨hp,q⟩:=hp;cases R with
 |nil=>
  have d:rs.length=D.length:=Ae;have b:=t (by rw[q];rfl);subst b;repeat' ((conv=>whnf);first|omega|refine zS ?_|refine zT ?_ ?_<;>intro _|fail)
  all_goals conv=>whnf
  all_goals exact zE
 |cons r R=>
  have d:=aO hp;have C:=i r Ae;have E:(r.map vcV).length=r.length:=Ad;repeat' ((conv=>whnf);first|omega|refine dS rfl rfl Dp ?_|refine zS ?_|refine zT ?_ ?_<;>intro _|fail)
  refine lD (A:=Nat) (λk=>mkSt [(2, .box 2 0),(3, .box 3 0),(4, .box 4 0),(5,I D.length),(6,rgV r),(13, .arr 13 0),(14,I rs.length),(15,I D.length),(20,rgV r),(21,I r.length),(22,I k)] [(2,(shV s).cells),(3,(vcV p).cells),(4,[I 0,I 0,I 0,I 0])] [(13,⟨0, .own,46,rs.map rgV⟩)]) (λk=>k<=r.length/\∀j,j<k->dJ D.length r p j=none) (λk=>r.length-k) 0 ?_ ⟨Aa,λj hj=>absurd hj Aa⟩ (λk u=>?_);exact zj;obtain⟨u,hN⟩:=u;by_cases c:k<r.length
  ·have f:(k+1)% r.length<r.length:=SC _ Aa
   have g:(k+r.length-1)% r.length<r.length:=SC _ Aa;have n:∀x,dJ D.length r p k=some x->nR p 0 rs=some x:=λx b=>by rw[q];exact cU6 (bZ8 c hN b)
   by_cases m:0<D.length
   ·have eN:arN D.length r k=mY r k:=QU m
    have eL:arL D.length r k=iU r k:=QU m;repeat' ((conv=>whnf);first|omega|refine cC0 [(6,999),(27,999),(30,999),(32,999),(33,999),(35,999),(37,999),(41,999),(43,999),(44,999),(9,9),(10,10)] Af Ac ?_|refine uM Aa ?_|refine aB (l:=r) BR ?_|refine aB (l:=r) Gg ?_|refine sW (k:=(k+1)% r.length) (kS Aa) f ?_|refine sW (k:=(k+r.length-1)% r.length) (kS Aa) g ?_|refine sW (k:=k) Aa c ?_|refine aT1 ?_|refine aB4 (λhv=>?_) (λhv=>?_)|refine zc (fF (mY r k) p) ?_|refine zc (fF (iU r k) p) ?_|refine zc (fF (r.getD k z0) p) ?_|refine zc (yS (r.getD k z0,mY r k) p) ?_|refine zS ?_|refine zT ?_ ?_<;>intro _|fail)
    all_goals conv=>whnf
    ·have b:=o (vsub (mY r k) p,vsub (iU r k) p) (n _ FV)
     subst b;all_goals exact zE
    exact JK
    ·have b:=o (vsub (mY r k) p,vsub (r.getD k z0) p) (n _ CZ)
     subst b;all_goals exact zE
    exact JI
   have eN:arN D.length r k=iU r k:=Q9 m;have eL:arL D.length r k=mY r k:=Q9 m;repeat' ((conv=>whnf);first|omega|refine cC0 [(6,999),(27,999),(30,999),(32,999),(33,999),(35,999),(37,999),(41,999),(43,999),(44,999),(9,9),(10,10)] Af Ac ?_|refine uM Aa ?_|refine aB (l:=r) BR ?_|refine aB (l:=r) Gg ?_|refine sW (k:=(k+1)% r.length) (kS Aa) f ?_|refine sW (k:=(k+r.length-1)% r.length) (kS Aa) g ?_|refine sW (k:=k) Aa c ?_|refine aT1 ?_|refine aB4 (λhv=>?_) (λhv=>?_)|refine zc (fF (iU r k) p) ?_|refine zc (fF (mY r k) p) ?_|refine zc (fF (r.getD k z0) p) ?_|refine zc (yS (r.getD k z0,iU r k) p) ?_|refine zS ?_|refine zT ?_ ?_<;>intro _|fail)
   all_goals conv=>whnf
   ·have b:=o (vsub (iU r k) p,vsub (mY r k) p) (n _ FV)
    subst b;all_goals exact zE
   exact JK
   ·have b:=o (vsub (iU r k) p,vsub (r.getD k z0) p) (n _ CZ)
    subst b;all_goals exact zE
   exact JI
  have e:k=r.length:=by omega
  subst e;repeat' ((conv=>whnf);first|omega|refine zS ?_|refine zT ?_ ?_<;>intro _|fail)
  all_goals conv=>whnf
  refine⟨(D++[r],R),?_,⟨Ae,by rw[q,cR6 (bZ2 hN)];simp⟩,Ad⟩;exact Nh
end Go.Proofs.Led
