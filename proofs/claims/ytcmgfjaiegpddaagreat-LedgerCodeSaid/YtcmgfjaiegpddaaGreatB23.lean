/- Lemmas. -/
import Derived.Test.YtcmgfjaiegpddaaGreatB19
import Derived.Test.YtcmgfjaiegpddaaGreatB21
set_option linter.all false
set_option maxRecDepth 100000
set_option maxHeartbeats 8000000
noncomputable section
namespace Go.Proofs.Led
open Go Go.Proofs Go.Ab Tryz
def eK4{a b:List Vc}(k:Len6 a):fnVC T Tryz.prog Tryz.f148 [.sl (a.map vcV), .sl (b.map vcV)] (DB (a=b)):=by
 have f:(a.map vcV).length=a.length:=Af;have g:(b.map vcV).length=b.length:=Af;generalize hP:(a=b)=P;have hr:P↔a=b:=Ic;clear hP;repeat' ((conv=>whnf);first|refine zS ?_|refine zT ?_ ?_<;>intro _|fail)
 all_goals conv=>whnf
 all_goals first
  |exact aA (aC (λh=>by have:=SK List.length (hr.1 h);omega))
  |skip
 refine oU (A:=List Vc) (B:=List Vc) (C:=List Vc) (λD R S=>mkSt [(0, .sl (a.map vcV)),(1, .sl (b.map vcV)),(5,I D.length)] [] []) (λD R S=>a=D++R/\b=D++S) (λD R S=>R.length) [] a b ?_ ⟨rfl,rfl⟩ (λD R S hp=>?_);exact zj;obtain⟨hp,hq⟩:=hp;cases R with
 |nil=>exact Je
 |cons x R=>
  cases S with
  |nil=>exact KP
  |cons y S=>
   have hlen:=aO hp;have d:=aO hq;have e:x≠y->¬P:=λh hP=>J7;have i:x∈a:=Ae;have j:y∈b:=Ap
   skip
   repeat' ((conv=>whnf);first|omega|refine aT1 ?_|refine aB4 (λc=>?_) (λc=>?_)|refine zS ?_|refine zT ?_ ?_<;>intro _|fail)
   all_goals conv=>whnf
   all_goals first
    |exact aA (aC (e AU))
    |skip
   exact Ou
def bK2{a b:List Vc}(c:Len6 a):Sp 148 [.sl (a.map vcV), .sl (b.map vcV)] (DB (a=b)):=zsp func148 (eK4 c)
def dK7{a b:List Iv}(k:Len6 a):fnVC T Tryz.prog Tryz.f109 [.sl (a.map ivV), .sl (b.map ivV)] (DB (a=b)):=by
 have f:(a.map ivV).length=a.length:=Af;have g:(b.map ivV).length=b.length:=Af;generalize hP:(a=b)=P;have hr:P↔a=b:=Ic;clear hP;repeat' ((conv=>whnf);first|refine zS ?_|refine zT ?_ ?_<;>intro _|fail)
 all_goals conv=>whnf
 all_goals first
  |exact aA (aC (λh=>by have:=SK List.length (hr.1 h);omega))
  |skip
 refine oU (A:=List Iv) (B:=List Iv) (C:=List Iv) (λD R S=>mkSt [(0, .sl (a.map ivV)),(1, .sl (b.map ivV)),(5,I D.length)] [] []) (λD R S=>a=D++R/\b=D++S) (λD R S=>R.length) [] a b ?_ ⟨rfl,rfl⟩ (λD R S hp=>?_);exact zj;obtain⟨hp,hq⟩:=hp;cases R with
 |nil=>exact Je
 |cons x R=>
  cases S with
  |nil=>exact KP
  |cons y S=>
   have hlen:=aO hp;have d:=aO hq;have e:x≠y->¬P:=λh hP=>J7;have i:x∈a:=Ae;have j:y∈b:=Ap
   skip
   repeat' ((conv=>whnf);first|omega|refine aB4 (λc=>?_) (λc=>?_)|refine zS ?_|refine zT ?_ ?_<;>intro _|fail)
   all_goals conv=>whnf
   all_goals first
    |exact aA (aC (e AU))
    |skip
   exact Ou
def cE7{a b:List Iv}(c:Len6 a):Sp 109 [.sl (a.map ivV), .sl (b.map ivV)] (DB (a=b)):=zsp func109 (dK7 c)
def dO2{a b:List Rg}(l:Len6 a)(g:∀x∈a,Len6 x):fnVC T Tryz.prog Tryz.f149 [.sl (a.map rgV), .sl (b.map rgV)] (DB (a=b)):=by
 have i:(a.map rgV).length=a.length:=Af;have j:(b.map rgV).length=b.length:=Af;generalize hP:(a=b)=P;have hr:P↔a=b:=Ic;clear hP;repeat' ((conv=>whnf);first|refine zS ?_|refine zT ?_ ?_<;>intro _|fail)
 all_goals conv=>whnf
 all_goals first
  |exact aA (aC (λh=>by have:=SK List.length (hr.1 h);omega))
  |skip
 refine oU (A:=List Rg) (B:=List Rg) (C:=List Rg) (λD R S=>mkSt [(0, .sl (a.map rgV)),(1, .sl (b.map rgV)),(5,I D.length)] [] []) (λD R S=>a=D++R/\b=D++S) (λD R S=>R.length) [] a b ?_ ⟨rfl,rfl⟩ (λD R S hp=>?_);exact zj;obtain⟨hp,hq⟩:=hp;cases R with
 |nil=>exact Je
 |cons x R=>
  cases S with
  |nil=>exact KP
  |cons y S=>
   have hlen:=aO hp;have d:=aO hq;have e:x≠y->¬P:=λh hP=>J7;have f:x∈a:=Ae;have k:y∈b:=Ap;have c:=g x f;repeat' ((conv=>whnf);first|omega|refine zc (bK2 (b:=y) c) ?_|refine zS ?_|refine zT ?_ ?_<;>intro _|fail)
   all_goals conv=>whnf
   all_goals first
    |exact aA (aC (e AU))
    |skip
   exact Ou
def cI7{a b:List Rg}(c:Len6 a)(d:∀x∈a,Len6 x):Sp 149 [.sl (a.map rgV), .sl (b.map rgV)] (DB (a=b)):=zsp func149 (dO2 c d)
def fC2{a b:Sh}:a=b↔a.outer=b.outer/\a.holes=b.holes:=by
 constructor;rintro rfl;exact⟨rfl,rfl⟩;obtain⟨o,h⟩:=a;obtain⟨f,e⟩:=b;rintro⟨c,d⟩;simp only at c d;rw[c,d]
def aW1(a b:Sh)(f:aV5 a):Sp 107 [shV a,shV b] (DB (a=b)):=by
 refine zsp func107 ?_;obtain⟨c,d,e⟩:=f;have g:=bK2 (b:=b.outer) c;have i:=cI7 (b:=b.holes) d e;have j:a=b↔a.outer=b.outer/\a.holes=b.holes:=fC2;generalize (a=b)=P at*;generalize (a.outer=b.outer)=k at*;generalize (a.holes=b.holes)=l at*;repeat' ((conv=>whnf);first|refine zS ?_|refine zT ?_ ?_<;>intro _|fail)
 all_goals conv=>whnf
 all_goals first
  |exact aA (fQ Cf)
  |exact aA (aC Cf)
def dB4{a b:List Sh}(l:Len6 a)(g:∀x∈a,aV5 x):fnVC T Tryz.prog Tryz.f108 [.sl (a.map shV), .sl (b.map shV)] (DB (a=b)):=by
 have i:(a.map shV).length=a.length:=Af;have j:(b.map shV).length=b.length:=Af;generalize hP:(a=b)=P;have hr:P↔a=b:=Ic;clear hP;repeat' ((conv=>whnf);first|refine zS ?_|refine zT ?_ ?_<;>intro _|fail)
 all_goals conv=>whnf
 all_goals first
  |exact aA (aC (λh=>by have:=SK List.length (hr.1 h);omega))
  |skip
 refine oU (A:=List Sh) (B:=List Sh) (C:=List Sh) (λD R S=>mkSt [(0, .sl (a.map shV)),(1, .sl (b.map shV)),(5,I D.length)] [] []) (λD R S=>a=D++R/\b=D++S) (λD R S=>R.length) [] a b ?_ ⟨rfl,rfl⟩ (λD R S hp=>?_);exact zj;obtain⟨hp,hq⟩:=hp;cases R with
 |nil=>exact Je
 |cons x R=>
  cases S with
  |nil=>exact KP
  |cons y S=>
   have hlen:=aO hp;have d:=aO hq;have e:x≠y->¬P:=λh hP=>J7;have f:x∈a:=Ae;have k:y∈b:=Ap;have c:=g x f;repeat' ((conv=>whnf);first|omega|refine zc (aW1 x y c) ?_|refine zS ?_|refine zT ?_ ?_<;>intro _|fail)
   all_goals conv=>whnf
   all_goals first
    |exact aA (aC (e AU))
    |skip
   exact Ou
def cB6{a b:List Sh}(c:Len6 a)(d:∀x∈a,aV5 x):Sp 108 [.sl (a.map shV), .sl (b.map shV)] (DB (a=b)):=zsp func108 (dB4 c d)
def dN5{a b:jL}:a=b↔a.id=b.id/\a.grade=b.grade/\a.heat=b.heat/\a.grain=b.grain/\a.shape=b.shape/\a.defects=b.defects:=by
 constructor;rintro rfl;exact⟨rfl,rfl,rfl,rfl,rfl,rfl⟩;obtain⟨⟩:=a;obtain⟨⟩:=b;rintro⟨c,d,e,f,g,h⟩;simp only at c d e f g h;rw[c,d,e,f,g,h]
def cQ1(a b:jL)(f:aA4 a):Sp 59 [zJ a,zJ b] (DB (a=b)):=by
 refine zsp func59 ?_;obtain⟨c,d,e⟩:=f;have g:=aW1 a.shape b.shape c;have i:=cB6 (b:=b.defects) d e;have j:a=b↔a.id=b.id/\a.grade=b.grade/\a.heat=b.heat/\a.grain=b.grain/\a.shape=b.shape/\a.defects=b.defects:=dN5;generalize (a=b)=P at*;generalize (a.shape=b.shape)=k at*;exact OM
def eO5{a b:Bar}:a=b↔a.id=b.id/\a.grade=b.grade/\a.heat=b.heat/\a.length=b.length/\a.defects=b.defects:=by
 constructor;rintro rfl;exact⟨rfl,rfl,rfl,rfl,rfl⟩;obtain⟨⟩:=a;obtain⟨⟩:=b;rintro⟨c,d,e,f,g⟩;simp only at c d e f g;rw[c,d,e,f,g]
def dK6(a b:Bar)(c:Len6 a.defects):Sp 60 [barV a,barV b] (DB (a=b)):=by
 refine zsp func60 ?_;have d:=cE7 (b:=b.defects) c;have e:a=b↔a.id=b.id/\a.grade=b.grade/\a.heat=b.heat/\a.length=b.length/\a.defects=b.defects:=eO5;generalize (a=b)=P at*;exact OM
theorem eqMd(a b c d:Int)(s t:ByteArray):eqT T 4 94 [I a,S s,I b] [I c,S t,I d] =some (andB (eqB a c) (andB (eqSB s t) (andB (eqB b d) true))):=Ac
def eqMd_i{a b c d:Int}{s t:ByteArray}{K:Bool->Prop}(h:K (andB (eqB a c) (andB (eqSB s t) (andB (eqB b d) true)))):
 aL1.match_1 (λ_=>Prop) (eqT T 4 94 [I a,S s,I b] [I c,S t,I d]) K (λ_=>False):=by
 rw[eqMd];exact h
theorem made_ext{a b:Made}:a=b↔a.id=b.id/\a.part=b.part/\a.size=b.size:=by
 constructor;rintro rfl;exact⟨rfl,rfl,rfl⟩;obtain⟨⟩:=a;obtain⟨⟩:=b;rintro⟨c,d,e⟩;simp only at c d e;rw[c,d,e]
def br_md{a b:Made}{A B:Prop}(h1:a=b->A)(h2:a≠b->B):branch (andB (eqB a.id b.id) (andB (eqSB a.part b.part) (andB (eqB a.size b.size) true))) A B:=by
 have ht:andB (eqB a.id b.id) (andB (eqSB a.part b.part) (andB (eqB a.size b.size) true))=true↔a=b:=by
  rw[made_ext];simp only[dE9,aA1,eK9,cA1,beq_iff_eq,Vq]
 exact QF
theorem eqRs(i j d e bx a f g k l lo hi c b:Int):eqT T 4 101 [I i,I d,I e,I bx,I a,I lo,I hi] [I j,I f,I g,I k,I l,I c,I b] =
 some (andB (eqB i j) (andB (andB (andB (eqB d f) (andB (eqB e g) true)) (andB (andB (eqB bx k) (andB (eqB a l) true)) true)) (andB (eqB lo c) (andB (eqB hi b) true)))):=Ac
def eqRs_i{i j d e bx a f g k l lo hi c b:Int}{K:Bool->Prop}(h:K (andB (eqB i j) (andB (andB (andB (eqB d f) (andB (eqB e g) true)) (andB (andB (eqB bx k) (andB (eqB a l) true)) true)) (andB (eqB lo c) (andB (eqB hi b) true))))):
 aL1.match_1 (λ_=>Prop) (eqT T 4 101 [I i,I d,I e,I bx,I a,I lo,I hi] [I j,I f,I g,I k,I l,I c,I b]) K (λ_=>False):=by
 rw[eqRs];exact h
theorem rest_ext{a b:Rest}:a=b↔a.id=b.id/\a.box=b.box/\a.lo=b.lo/\a.hi=b.hi:=by
 constructor;rintro rfl;exact⟨rfl,rfl,rfl,rfl⟩;obtain⟨⟩:=a;obtain⟨⟩:=b;rintro⟨c,d,e,f⟩;simp only at c d e f;rw[c,d,e,f]
def br_rs{a b:Rest}{A B:Prop}(h1:a=b->A)(h2:a≠b->B):branch (andB (eqB a.id b.id) (andB (andB (andB (eqB a.box.1.1 b.box.1.1) (andB (eqB a.box.1.2 b.box.1.2) true)) (andB (andB (eqB a.box.2.1 b.box.2.1) (andB (eqB a.box.2.2 b.box.2.2) true)) true)) (andB (eqB a.lo b.lo) (andB (eqB a.hi b.hi) true)))) A B:=by
 have ht:andB (eqB a.id b.id) (andB (andB (andB (eqB a.box.1.1 b.box.1.1) (andB (eqB a.box.1.2 b.box.1.2) true)) (andB (andB (eqB a.box.2.1 b.box.2.1) (andB (eqB a.box.2.2 b.box.2.2) true)) true)) (andB (eqB a.lo b.lo) (andB (eqB a.hi b.hi) true)))=true↔a=b:=by
  rw[rest_ext];simp only[dE9,aA1,Vq,Prod.ext_iff]
 exact QF
def event_ext{a b:Event}:a=b↔a.kind=b.kind/\a.id=b.id/\a.text=b.text/\a.scrap=b.scrap/\a.sheet=b.sheet/\a.bar=b.bar/\a.cuts=b.cuts/\a.rests=b.rests:=by
 constructor;rintro rfl;exact⟨rfl,rfl,rfl,rfl,rfl,rfl,rfl,rfl⟩;obtain⟨⟩:=a;obtain⟨⟩:=b;rintro⟨c,d,e,f,g,h,i,j⟩;simp only at c d e f g h i j;rw[c,d,e,f,g,h,i,j]
def sEvent_spec(a b:Event)(Y:aA4 a.sheet)(O:Len6 a.bar.defects)(hc:Len6 a.cuts)(j:Len6 a.rests):Sp 13 [aS a,aS b] (DB (a=b)):=by
 refine zsp func13 ?_;have Q:(a.cuts.map dK).length=a.cuts.length:=Af;have T:(b.cuts.map dK).length=b.cuts.length:=Af;have U:(a.rests.map bY).length=a.rests.length:=Af;have V:(b.rests.map bY).length=b.rests.length:=Af;have Z:=cQ1 a.sheet b.sheet Y;have g2:=dK6 a.bar b.bar O;have i:a=b↔a.kind=b.kind/\a.id=b.id/\a.text=b.text/\a.scrap=b.scrap/\a.sheet=b.sheet/\a.bar=b.bar/\a.cuts=b.cuts/\a.rests=b.rests:=event_ext;generalize (a=b)=P at*;have r:a.kind≠b.kind->¬P:=λh q=>h (i.1 q).1;have s:a.id≠b.id->¬P:=λh q=>h (i.1 q).2.1;have t:a.text≠b.text->¬P:=λh q=>h (i.1 q).2.2.1;have u:a.scrap≠b.scrap->¬P:=λh q=>h (i.1 q).2.2.2.1;have v:¬a.sheet=b.sheet->¬P:=λh q=>h (i.1 q).2.2.2.2.1;have w:¬a.bar=b.bar->¬P:=λh q=>h (i.1 q).2.2.2.2.2.1;have z:a.cuts.length≠b.cuts.length->¬P:=λh q=>h (by rw[(i.1 q).2.2.2.2.2.2.1]);have F:a.rests.length≠b.rests.length->¬P:=λh q=>h (by rw[(i.1 q).2.2.2.2.2.2.2]);generalize X:(a.sheet=b.sheet)=ps at*;generalize W:(a.bar=b.bar)=pb at*;repeat' ((conv=>whnf);first|omega|refine jI (λc=>?_) (λc=>?_)|refine zS ?_|refine zd (λj=>?_) (λj=>?_)|refine zl (λf=>?_) (λf=>?_)|refine zk (λe=>?_) (λe=>?_)|refine ze (λc=>?_) (λc=>?_)|refine zm (λx H=>?_)|refine zb (λd=>?_) (λd=>?_))
 all_goals conv=>whnf
 all_goals first
  |exact aA (aC (r Aa))
  |exact aA (aC (s Aa))
  |exact aA (aC (u Aa))
  |exact aA (aC (z Aa))
  |exact aA (aC (F Aa))
  |exact aA (aC (t Ag))
  |exact aA (aC (v Ag))
  |exact aA (aC (w Ag))
  |skip
 have G:P↔a.cuts=b.cuts/\a.rests=b.rests:=⟨λh=>(i.1 h).2.2.2.2.2.2,λh=>i.2 ⟨Ag,Ag,Ag,Ag,Ag,Ag,h⟩⟩;clear i r s t u v w z F;refine oU (A:=List Made) (B:=List Made) (C:=List Made) (λD R S=>mkSt [(2, .box 2 0),(3, .box 3 0),(5,I D.length)] [(2,iJ a),(3,iJ b)] []) (λD R S=>a.cuts=D++R/\b.cuts=D++S) (λD R S=>R.length) [] a.cuts b.cuts ?_ ⟨rfl,rfl⟩ (λD R S L=>?_);exact zj;obtain⟨hq1,hq2⟩:=L;cases R with
 |cons x R=>
  cases S with
  |nil=>
   have h1:b.cuts.length=D.length:=IQ;have N:=aO hq1;exfalso;omega
  |cons y S=>
   have k:=aO hq1;have g:=aO hq2
   have n:x≠y->¬P:=λh l=>by
    have h1:=(G.1 l).1;exact QR
   repeat' ((conv=>whnf);first|omega|refine eqMd_i ?_|refine br_md (λc=>?_) (λc=>?_)|refine zS ?_|refine zd (λj=>?_) (λj=>?_)|refine zl (λf=>?_) (λf=>?_)|refine zk (λe=>?_) (λe=>?_)|refine ze (λc=>?_) (λc=>?_)|refine zm (λx H=>?_)|refine zb (λd=>?_) (λd=>?_))
   all_goals conv=>whnf
   all_goals first
    |exact aA (aC (n Ag))
    |skip
   refine⟨(D++[x],R,S),?_,⟨IU,?_⟩,Af⟩;exact Jg;have o:x=y:=by assumption
   rw[hq2,o];simp
 |nil=>
  have k:a.cuts.length=D.length:=IU
  have J:S=[] :=by
   have h1:b.cuts.length=D.length+S.length:=IQ;exact Tm.1 Aa
  subst J;have M:a.cuts=b.cuts:=by rw[hq1,hq2]
  have m:P↔a.rests=b.rests:=⟨λh=>(G.1 h).2,λh=>G.2 ⟨M,h⟩⟩;clear hq1 hq2 G;repeat' ((conv=>whnf);first|omega|refine zS ?_|refine zd (λj=>?_) (λj=>?_)|refine zl (λf=>?_) (λf=>?_)|refine zk (λe=>?_) (λe=>?_)|refine ze (λc=>?_) (λc=>?_)|refine zm (λx H=>?_)|refine zb (λd=>?_) (λd=>?_))
  refine oU (A:=List Rest) (B:=List Rest) (C:=List Rest) (λD R S=>mkSt [(2, .box 2 0),(3, .box 3 0),(6,I D.length)] [(2,iJ a),(3,iJ b)] []) (λD R S=>a.rests=D++R/\b.rests=D++S) (λD R S=>R.length) [] a.rests b.rests ?_ ⟨rfl,rfl⟩ (λE R S L=>?_);exact zj;obtain⟨hq1,hq2⟩:=L;cases R with
  |cons x R=>
   cases S with
   |nil=>
    have h1:b.rests.length=E.length:=IQ;have N:=aO hq1;exfalso;omega
   |cons y S=>
    have k:=aO hq1;have g:=aO hq2
    have n:x≠y->¬P:=λh l=>by
     have h1:=m.1 l;exact QR
    repeat' ((conv=>whnf);first|omega|refine eqRs_i ?_|refine br_rs (λc=>?_) (λc=>?_)|refine zS ?_|refine zd (λj=>?_) (λj=>?_)|refine zl (λf=>?_) (λf=>?_)|refine zk (λe=>?_) (λe=>?_)|refine ze (λc=>?_) (λc=>?_)|refine zm (λx H=>?_)|refine zb (λd=>?_) (λd=>?_))
    all_goals conv=>whnf
    all_goals first
     |exact aA (aC (n Ag))
     |skip
    refine⟨(E++[x],R,S),?_,⟨IU,?_⟩,Af⟩;exact Jg;have o:x=y:=by assumption
    rw[hq2,o];simp
  |nil=>
   have g:a.rests.length=E.length:=IU
   have J:S=[] :=by
    have h1:b.rests.length=E.length+S.length:=IQ;exact Tm.1 Aa
   subst J;have K:P:=m.2 (by rw[hq1,hq2]);clear hq1 hq2 m;repeat' ((conv=>whnf);first|omega|refine zS ?_|refine zd (λj=>?_) (λj=>?_)|refine zl (λf=>?_) (λf=>?_)|refine zk (λe=>?_) (λe=>?_)|refine ze (λc=>?_) (λc=>?_)|refine zm (λx H=>?_)|refine zb (λd=>?_) (λd=>?_))
   all_goals conv=>whnf
   exact aA (fE K)
end Go.Proofs.Led
