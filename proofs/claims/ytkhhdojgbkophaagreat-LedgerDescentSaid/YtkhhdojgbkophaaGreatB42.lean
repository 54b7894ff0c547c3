/-
  Equal states, as the reference compares them.
-/
import Derived.Test.YtkhhdojgbkophaaGreatB40
import Derived.Test.YtkhhdojgbkophaaGreatB41
set_option linter.unusedVariables false
set_option linter.unusedSimpArgs false
namespace Go.Proofs.Led
open Go Go.Proofs Go.Ab
set_option maxRecDepth 100000
set_option maxHeartbeats 8000000
theorem dW8{a b:List Int}(ha:Len6 a):fnVC T Tryz.prog Tryz.f73 [.sl (a.map I), .sl (b.map I)] (DB (a=b)):=by
 have hma:(a.map I).length=a.length:=by simp
 have hmb:(b.map I).length=b.length:=by simp
 generalize hP:(a=b)=P
 have hr:P↔a=b:=by rw[hP]
 clear hP
 repeat' ((conv=>whnf);first|refine zg ?_|refine zn ?_|refine zz (fun _=>?_) fun _=>?_|refine zr ?_)
 all_goals conv=>whnf
 all_goals first
  |exact aA (aC (fun h=>by have:=congrArg List.length (hr.1 h);omega))
  |skip
 refine oU (A:=List Int) (B:=List Int) (C:=List Int) (fun D R S=>mkSt [(0, .sl (a.map I)),(1, .sl (b.map I)),(5,I D.length)] [] []) (fun D R S=>a=D++R/\b=D++S) (fun D R S=>R.length) [] a b ?_ ⟨rfl,rfl⟩ (fun D R S hp=>?_)
 ·exact zj
 obtain⟨hp,hq⟩:=hp
 cases R with
 |nil=>
  have hlen:a.length=D.length:=by rw[hp];simp
  have hS:S=[] :=by
   have h1:b.length=D.length+S.length:=by rw[hq];simp
   exact List.length_eq_zero_iff.1 (by omega)
  subst hS
  have hab:P:=hr.2 (by rw[hp,hq])
  clear hp hq hr
  repeat' ((conv=>whnf);first|(exfalso;omega)|refine zg ?_|refine zz (fun _=>?_) fun _=>?_|refine zr ?_)
  all_goals conv=>whnf
  exact aA (fE hab)
 |cons x R=>
  cases S with
  |nil=>
   have h1:b.length=D.length:=by rw[hq];simp
   have h2:=aO hp
   exfalso;omega
  |cons y S=>
   have hlen:=aO hp
   have hlen2:=aO hq
   have hne:x≠y->¬P:=fun h hP=>by
    have h1:=hr.1 hP
    rw[hp,hq]at h1
    exact h (List.cons.inj (List.append_cancel_left h1)).1
   have hxa:x∈a:=by rw[hp];simp
   have hyb:y∈b:=by rw[hq];simp
   skip
   repeat' ((conv=>whnf);first|(exfalso;omega)|refine aB (l:=a) (by omega) ?_|refine aB (l:=b) (by omega) ?_|refine aF (l:=a) (A:=D) (x:=x) (B:=R) hp (by omega) ?_|refine aF (l:=b) (A:=D) (x:=y) (B:=S) hq (by omega) ?_|refine eV7 (fun heq=>?_) (fun heq=>?_)|refine zg ?_|refine zi ?_|refine za ?_|refine zn ?_|refine zz (fun _=>?_) fun _=>?_|refine zr ?_)
   all_goals conv=>whnf
   all_goals first
    |exact aA (aC (hne (by first|assumption|exact fun h=>absurd h (by assumption))))
    |skip
   refine⟨(D++[x],R,S),?_,⟨by rw[hp];simp,?_⟩,by simp⟩
   ·simp only[List.length_append,List.length_singleton]
    exact zj
   ·have hxy:x=y:=by assumption
    rw[hq,hxy];simp
theorem cY1{a b:List Int}(ha:Len6 a):Sp 73 [.sl (a.map I), .sl (b.map I)] (DB (a=b)):=zsp Tryz.func73 (dW8 ha)
theorem eK4{a b:List Vc}(ha:Len6 a):fnVC T Tryz.prog Tryz.f227 [.sl (a.map vcV), .sl (b.map vcV)] (DB (a=b)):=by
 have hma:(a.map vcV).length=a.length:=by simp
 have hmb:(b.map vcV).length=b.length:=by simp
 generalize hP:(a=b)=P
 have hr:P↔a=b:=by rw[hP]
 clear hP
 repeat' ((conv=>whnf);first|refine zg ?_|refine zn ?_|refine zz (fun _=>?_) fun _=>?_|refine zr ?_)
 all_goals conv=>whnf
 all_goals first
  |exact aA (aC (fun h=>by have:=congrArg List.length (hr.1 h);omega))
  |skip
 refine oU (A:=List Vc) (B:=List Vc) (C:=List Vc) (fun D R S=>mkSt [(0, .sl (a.map vcV)),(1, .sl (b.map vcV)),(5,I D.length)] [] []) (fun D R S=>a=D++R/\b=D++S) (fun D R S=>R.length) [] a b ?_ ⟨rfl,rfl⟩ (fun D R S hp=>?_)
 ·exact zj
 obtain⟨hp,hq⟩:=hp
 cases R with
 |nil=>
  have hlen:a.length=D.length:=by rw[hp];simp
  have hS:S=[] :=by
   have h1:b.length=D.length+S.length:=by rw[hq];simp
   exact List.length_eq_zero_iff.1 (by omega)
  subst hS
  have hab:P:=hr.2 (by rw[hp,hq])
  clear hp hq hr
  repeat' ((conv=>whnf);first|(exfalso;omega)|refine zg ?_|refine zz (fun _=>?_) fun _=>?_|refine zr ?_)
  all_goals conv=>whnf
  exact aA (fE hab)
 |cons x R=>
  cases S with
  |nil=>
   have h1:b.length=D.length:=by rw[hq];simp
   have h2:=aO hp
   exfalso;omega
  |cons y S=>
   have hlen:=aO hp
   have hlen2:=aO hq
   have hne:x≠y->¬P:=fun h hP=>by
    have h1:=hr.1 hP
    rw[hp,hq]at h1
    exact h (List.cons.inj (List.append_cancel_left h1)).1
   have hxa:x∈a:=by rw[hp];simp
   have hyb:y∈b:=by rw[hq];simp
   skip
   repeat' ((conv=>whnf);first|(exfalso;omega)|refine aB (l:=a) (by omega) ?_|refine aB (l:=b) (by omega) ?_|refine aF (l:=a) (A:=D) (x:=x) (B:=R) hp (by omega) ?_|refine aF (l:=b) (A:=D) (x:=y) (B:=S) hq (by omega) ?_|refine aT1 ?_|refine aB4 (fun heq=>?_) (fun heq=>?_)|refine zg ?_|refine zi ?_|refine za ?_|refine zy ?_|refine zn ?_|refine zz (fun _=>?_) fun _=>?_|refine zr ?_)
   all_goals conv=>whnf
   all_goals first
    |exact aA (aC (hne (by first|assumption|exact fun h=>absurd h (by assumption))))
    |skip
   refine⟨(D++[x],R,S),?_,⟨by rw[hp];simp,?_⟩,by simp⟩
   ·simp only[List.length_append,List.length_singleton]
    exact zj
   ·have hxy:x=y:=by assumption
    rw[hq,hxy];simp
theorem bK2{a b:List Vc}(ha:Len6 a):Sp 227 [.sl (a.map vcV), .sl (b.map vcV)] (DB (a=b)):=zsp Tryz.func227 (eK4 ha)
theorem dK7{a b:List Iv}(ha:Len6 a):fnVC T Tryz.prog Tryz.f165 [.sl (a.map ivV), .sl (b.map ivV)] (DB (a=b)):=by
 have hma:(a.map ivV).length=a.length:=by simp
 have hmb:(b.map ivV).length=b.length:=by simp
 generalize hP:(a=b)=P
 have hr:P↔a=b:=by rw[hP]
 clear hP
 repeat' ((conv=>whnf);first|refine zg ?_|refine zn ?_|refine zz (fun _=>?_) fun _=>?_|refine zr ?_)
 all_goals conv=>whnf
 all_goals first
  |exact aA (aC (fun h=>by have:=congrArg List.length (hr.1 h);omega))
  |skip
 refine oU (A:=List Iv) (B:=List Iv) (C:=List Iv) (fun D R S=>mkSt [(0, .sl (a.map ivV)),(1, .sl (b.map ivV)),(5,I D.length)] [] []) (fun D R S=>a=D++R/\b=D++S) (fun D R S=>R.length) [] a b ?_ ⟨rfl,rfl⟩ (fun D R S hp=>?_)
 ·exact zj
 obtain⟨hp,hq⟩:=hp
 cases R with
 |nil=>
  have hlen:a.length=D.length:=by rw[hp];simp
  have hS:S=[] :=by
   have h1:b.length=D.length+S.length:=by rw[hq];simp
   exact List.length_eq_zero_iff.1 (by omega)
  subst hS
  have hab:P:=hr.2 (by rw[hp,hq])
  clear hp hq hr
  repeat' ((conv=>whnf);first|(exfalso;omega)|refine zg ?_|refine zz (fun _=>?_) fun _=>?_|refine zr ?_)
  all_goals conv=>whnf
  exact aA (fE hab)
 |cons x R=>
  cases S with
  |nil=>
   have h1:b.length=D.length:=by rw[hq];simp
   have h2:=aO hp
   exfalso;omega
  |cons y S=>
   have hlen:=aO hp
   have hlen2:=aO hq
   have hne:x≠y->¬P:=fun h hP=>by
    have h1:=hr.1 hP
    rw[hp,hq]at h1
    exact h (List.cons.inj (List.append_cancel_left h1)).1
   have hxa:x∈a:=by rw[hp];simp
   have hyb:y∈b:=by rw[hq];simp
   skip
   repeat' ((conv=>whnf);first|(exfalso;omega)|refine aB (l:=a) (by omega) ?_|refine aB (l:=b) (by omega) ?_|refine aF (l:=a) (A:=D) (x:=x) (B:=R) hp (by omega) ?_|refine aF (l:=b) (A:=D) (x:=y) (B:=S) hq (by omega) ?_|refine aB4 (fun heq=>?_) (fun heq=>?_)|refine zg ?_|refine zi ?_|refine za ?_|refine zy ?_|refine zn ?_|refine zz (fun _=>?_) fun _=>?_|refine zr ?_)
   all_goals conv=>whnf
   all_goals first
    |exact aA (aC (hne (by first|assumption|exact fun h=>absurd h (by assumption))))
    |skip
   refine⟨(D++[x],R,S),?_,⟨by rw[hp];simp,?_⟩,by simp⟩
   ·simp only[List.length_append,List.length_singleton]
    exact zj
   ·have hxy:x=y:=by assumption
    rw[hq,hxy];simp
theorem cE7{a b:List Iv}(ha:Len6 a):Sp 165 [.sl (a.map ivV), .sl (b.map ivV)] (DB (a=b)):=zsp Tryz.func165 (dK7 ha)
theorem dO2{a b:List Rg}(ha:Len6 a)(hg:∀x∈a,Len6 x):fnVC T Tryz.prog Tryz.f228 [.sl (a.map rgV), .sl (b.map rgV)] (DB (a=b)):=by
 have hma:(a.map rgV).length=a.length:=by simp
 have hmb:(b.map rgV).length=b.length:=by simp
 generalize hP:(a=b)=P
 have hr:P↔a=b:=by rw[hP]
 clear hP
 repeat' ((conv=>whnf);first|refine zg ?_|refine zn ?_|refine zz (fun _=>?_) fun _=>?_|refine zr ?_)
 all_goals conv=>whnf
 all_goals first
  |exact aA (aC (fun h=>by have:=congrArg List.length (hr.1 h);omega))
  |skip
 refine oU (A:=List Rg) (B:=List Rg) (C:=List Rg) (fun D R S=>mkSt [(0, .sl (a.map rgV)),(1, .sl (b.map rgV)),(5,I D.length)] [] []) (fun D R S=>a=D++R/\b=D++S) (fun D R S=>R.length) [] a b ?_ ⟨rfl,rfl⟩ (fun D R S hp=>?_)
 ·exact zj
 obtain⟨hp,hq⟩:=hp
 cases R with
 |nil=>
  have hlen:a.length=D.length:=by rw[hp];simp
  have hS:S=[] :=by
   have h1:b.length=D.length+S.length:=by rw[hq];simp
   exact List.length_eq_zero_iff.1 (by omega)
  subst hS
  have hab:P:=hr.2 (by rw[hp,hq])
  clear hp hq hr
  repeat' ((conv=>whnf);first|(exfalso;omega)|refine zg ?_|refine zz (fun _=>?_) fun _=>?_|refine zr ?_)
  all_goals conv=>whnf
  exact aA (fE hab)
 |cons x R=>
  cases S with
  |nil=>
   have h1:b.length=D.length:=by rw[hq];simp
   have h2:=aO hp
   exfalso;omega
  |cons y S=>
   have hlen:=aO hp
   have hlen2:=aO hq
   have hne:x≠y->¬P:=fun h hP=>by
    have h1:=hr.1 hP
    rw[hp,hq]at h1
    exact h (List.cons.inj (List.append_cancel_left h1)).1
   have hxa:x∈a:=by rw[hp];simp
   have hyb:y∈b:=by rw[hq];simp
   have hgx:=hg x hxa
   repeat' ((conv=>whnf);first|(exfalso;omega)|refine aB (l:=a) (by omega) ?_|refine aB (l:=b) (by omega) ?_|refine aF (l:=a) (A:=D) (x:=x) (B:=R) hp (by omega) ?_|refine aF (l:=b) (A:=D) (x:=y) (B:=S) hq (by omega) ?_|refine zc (bK2 (b:=y) hgx) ?_|refine zg ?_|refine zi ?_|refine za ?_|refine zn ?_|refine zz (fun _=>?_) fun _=>?_|refine zr ?_)
   all_goals conv=>whnf
   all_goals first
    |exact aA (aC (hne (by first|assumption|exact fun h=>absurd h (by assumption))))
    |skip
   refine⟨(D++[x],R,S),?_,⟨by rw[hp];simp,?_⟩,by simp⟩
   ·simp only[List.length_append,List.length_singleton]
    exact zj
   ·have hxy:x=y:=by assumption
    rw[hq,hxy];simp
theorem cI7{a b:List Rg}(ha:Len6 a)(hg:∀x∈a,Len6 x):Sp 228 [.sl (a.map rgV), .sl (b.map rgV)] (DB (a=b)):=zsp Tryz.func228 (dO2 ha hg)
theorem fC2{a b:Sh}:a=b↔a.outer=b.outer/\a.holes=b.holes:=by
 constructor
 ·rintro rfl;exact⟨rfl,rfl⟩
 ·obtain⟨o,h⟩:=a;obtain⟨o',h'⟩:=b;rintro⟨h1,h2⟩;simp only at h1 h2;rw[h1,h2]
theorem aW1(a b:Sh)(ha:aV5 a):Sp 163 [shV a,shV b] (DB (a=b)):=by
 refine zsp Tryz.func163 ?_
 obtain⟨h1,h2,h3⟩:=ha
 have g1:=bK2 (b:=b.outer) h1
 have g2:=cI7 (b:=b.holes) h2 h3
 have hr:a=b↔a.outer=b.outer/\a.holes=b.holes:=fC2
 generalize (a=b)=P at*
 generalize (a.outer=b.outer)=p1 at*
 generalize (a.holes=b.holes)=p2 at*
 repeat' ((conv=>whnf);first|refine zc g1 ?_|refine zc g2 ?_|refine zg ?_|refine zz (fun _=>?_) fun _=>?_|refine zr ?_)
 all_goals conv=>whnf
 all_goals first
  |exact aA (fQ (by grind))
  |exact aA (aC (by grind))
theorem dB4{a b:List Sh}(ha:Len6 a)(hg:∀x∈a,aV5 x):fnVC T Tryz.prog Tryz.f164 [.sl (a.map shV), .sl (b.map shV)] (DB (a=b)):=by
 have hma:(a.map shV).length=a.length:=by simp
 have hmb:(b.map shV).length=b.length:=by simp
 generalize hP:(a=b)=P
 have hr:P↔a=b:=by rw[hP]
 clear hP
 repeat' ((conv=>whnf);first|refine zg ?_|refine zn ?_|refine zz (fun _=>?_) fun _=>?_|refine zr ?_)
 all_goals conv=>whnf
 all_goals first
  |exact aA (aC (fun h=>by have:=congrArg List.length (hr.1 h);omega))
  |skip
 refine oU (A:=List Sh) (B:=List Sh) (C:=List Sh) (fun D R S=>mkSt [(0, .sl (a.map shV)),(1, .sl (b.map shV)),(5,I D.length)] [] []) (fun D R S=>a=D++R/\b=D++S) (fun D R S=>R.length) [] a b ?_ ⟨rfl,rfl⟩ (fun D R S hp=>?_)
 ·exact zj
 obtain⟨hp,hq⟩:=hp
 cases R with
 |nil=>
  have hlen:a.length=D.length:=by rw[hp];simp
  have hS:S=[] :=by
   have h1:b.length=D.length+S.length:=by rw[hq];simp
   exact List.length_eq_zero_iff.1 (by omega)
  subst hS
  have hab:P:=hr.2 (by rw[hp,hq])
  clear hp hq hr
  repeat' ((conv=>whnf);first|(exfalso;omega)|refine zg ?_|refine zz (fun _=>?_) fun _=>?_|refine zr ?_)
  all_goals conv=>whnf
  exact aA (fE hab)
 |cons x R=>
  cases S with
  |nil=>
   have h1:b.length=D.length:=by rw[hq];simp
   have h2:=aO hp
   exfalso;omega
  |cons y S=>
   have hlen:=aO hp
   have hlen2:=aO hq
   have hne:x≠y->¬P:=fun h hP=>by
    have h1:=hr.1 hP
    rw[hp,hq]at h1
    exact h (List.cons.inj (List.append_cancel_left h1)).1
   have hxa:x∈a:=by rw[hp];simp
   have hyb:y∈b:=by rw[hq];simp
   have hgx:=hg x hxa
   repeat' ((conv=>whnf);first|(exfalso;omega)|refine aB (l:=a) (by omega) ?_|refine aB (l:=b) (by omega) ?_|refine aF (l:=a) (A:=D) (x:=x) (B:=R) hp (by omega) ?_|refine aF (l:=b) (A:=D) (x:=y) (B:=S) hq (by omega) ?_|refine zc (aW1 x y hgx) ?_|refine zg ?_|refine zi ?_|refine za ?_|refine zn ?_|refine zz (fun _=>?_) fun _=>?_|refine zr ?_)
   all_goals conv=>whnf
   all_goals first
    |exact aA (aC (hne (by first|assumption|exact fun h=>absurd h (by assumption))))
    |skip
   refine⟨(D++[x],R,S),?_,⟨by rw[hp];simp,?_⟩,by simp⟩
   ·simp only[List.length_append,List.length_singleton]
    exact zj
   ·have hxy:x=y:=by assumption
    rw[hq,hxy];simp
theorem cB6{a b:List Sh}(ha:Len6 a)(hg:∀x∈a,aV5 x):Sp 164 [.sl (a.map shV), .sl (b.map shV)] (DB (a=b)):=zsp Tryz.func164 (dB4 ha hg)
theorem dN5{a b:jL}:a=b↔a.id=b.id/\a.grade=b.grade/\a.heat=b.heat/\a.grain=b.grain/\a.shape=b.shape/\a.defects=b.defects:=by
 constructor
 ·rintro rfl;exact⟨rfl,rfl,rfl,rfl,rfl,rfl⟩
 ·obtain⟨⟩:=a;obtain⟨⟩:=b;rintro⟨h1,h2,h3,h4,h5,h6⟩;simp only at h1 h2 h3 h4 h5 h6;rw[h1,h2,h3,h4,h5,h6]
theorem cQ1(a b:jL)(ha:aA4 a):Sp 97 [zJ a,zJ b] (DB (a=b)):=by
 refine zsp Tryz.func97 ?_
 obtain⟨h1,h2,h3⟩:=ha
 have g1:=aW1 a.shape b.shape h1
 have g2:=cB6 (b:=b.defects) h2 h3
 have hr:a=b↔a.id=b.id/\a.grade=b.grade/\a.heat=b.heat/\a.grain=b.grain/\a.shape=b.shape/\a.defects=b.defects:=dN5
 generalize (a=b)=P at*
 generalize (a.shape=b.shape)=p1 at*
 generalize (a.defects=b.defects)=p2 at*
 repeat' ((conv=>whnf);first|refine jI (fun heq=>?_) (fun heq=>?_)|refine zc g1 ?_|refine zc g2 ?_|refine zg ?_|refine zz (fun _=>?_) fun _=>?_|refine zr ?_)
 all_goals conv=>whnf
 all_goals first
  |exact aA (fQ (by grind))
  |exact aA (aC (by grind))
theorem eO5{a b:Bar}:a=b↔a.id=b.id/\a.grade=b.grade/\a.heat=b.heat/\a.length=b.length/\a.defects=b.defects:=by
 constructor
 ·rintro rfl;exact⟨rfl,rfl,rfl,rfl,rfl⟩
 ·obtain⟨⟩:=a;obtain⟨⟩:=b;rintro⟨h1,h2,h3,h4,h5⟩;simp only at h1 h2 h3 h4 h5;rw[h1,h2,h3,h4,h5]
theorem dK6(a b:Bar)(ha:Len6 a.defects):Sp 98 [barV a,barV b] (DB (a=b)):=by
 refine zsp Tryz.func98 ?_
 have g2:=cE7 (b:=b.defects) ha
 have hr:a=b↔a.id=b.id/\a.grade=b.grade/\a.heat=b.heat/\a.length=b.length/\a.defects=b.defects:=eO5
 generalize (a=b)=P at*
 generalize (a.defects=b.defects)=p2 at*
 repeat' ((conv=>whnf);first|refine jI (fun heq=>?_) (fun heq=>?_)|refine zc g2 ?_|refine zg ?_|refine zz (fun _=>?_) fun _=>?_|refine zr ?_)
 all_goals conv=>whnf
 all_goals first
  |exact aA (fQ (by grind))
  |exact aA (aC (by grind))
theorem eK5{a b:Bool}{A B:Prop}(h1:a=b->A)(h2:a≠b->B):branch (eqBB a b) A B:=by
 rw[cA1]
 exact jU (fun h=>h1 (by simpa using h)) (fun h=>h2 (by simpa using h))
theorem dJ6{a b:aN}:a=b↔a.isBar=b.isBar/\a.program=b.program/\a.sheet=b.sheet/\a.bar=b.bar:=by
 constructor
 ·rintro rfl;exact⟨rfl,rfl,rfl,rfl⟩
 ·obtain⟨⟩:=a;obtain⟨⟩:=b;rintro⟨h1,h2,h3,h4⟩;simp only at h1 h2 h3 h4;rw[h1,h2,h3,h4]
def bK9(x:aN):Prop:=aA4 x.sheet/\Len6 x.bar.defects
theorem cK0(a b:aN)(ha:bK9 a):Sp 36 [aQ a,aQ b] (DB (a=b)):=by
 refine zsp Tryz.func36 ?_
 obtain⟨h1,h2⟩:=ha
 have g1:=cQ1 a.sheet b.sheet h1
 have g2:=dK6 a.bar b.bar h2
 have hr:a=b↔a.isBar=b.isBar/\a.program=b.program/\a.sheet=b.sheet/\a.bar=b.bar:=dJ6
 generalize (a=b)=P at*
 generalize (a.sheet=b.sheet)=p1 at*
 generalize (a.bar=b.bar)=p2 at*
 repeat' ((conv=>whnf);first|refine jI (fun heq=>?_) (fun heq=>?_)|refine eK5 (fun heq=>?_) (fun heq=>?_)|refine zc g1 ?_|refine zc g2 ?_|refine zg ?_|refine zz (fun _=>?_) fun _=>?_|refine zr ?_)
 all_goals conv=>whnf
 all_goals first
  |exact aA (fQ (by grind))
  |exact aA (aC (by grind))
def thC(x:aJ)(c r:V):List V:=[c,r, .sl (x.used.map I),I x.received.1,I x.received.2,I x.scrap.1,I x.scrap.2]
abbrev yO:List V:=[nilV,nilV,nilV,I 0,I 0,I 0,I 0]
noncomputable def thS1(x:aJ):List aN->Int->St
 | [],n=>mkSt [(1, .box 1 0),(2, .box 2 0),(3, .box 3 0),(4,I n)] [(1,invC x),(2,yO),(3,thC x nilV nilV)] []
 |c::C,n=>mkSt [(1, .box 1 0),(2, .box 2 0),(3, .box 3 0),(4,I n)] [(1,invC x),(2,yO),(3,thC x (.arr 28 C.length) nilV)] [(28,⟨C.length, .own,87,(c::C).map aQ⟩)]
noncomputable def thS2(x:aJ):List aN->List Piece->Int->St
 | [],[],n=>mkSt [(1, .box 1 0),(2, .box 2 0),(3, .box 3 0),(5,I n)] [(1,invC x),(2,yO),(3,thC x nilV nilV)] []
 |c::C,[],n=>mkSt [(1, .box 1 0),(2, .box 2 0),(3, .box 3 0),(5,I n)] [(1,invC x),(2,yO),(3,thC x (.arr 28 C.length) nilV)] [(28,⟨C.length, .own,87,(c::C).map aQ⟩)]
 | [],r::R,n=>mkSt [(1, .box 1 0),(2, .box 2 0),(3, .box 3 0),(5,I n)] [(1,invC x),(2,yO),(3,thC x nilV (.arr 45 R.length))] [(45,⟨R.length, .own,98,(r::R).map aZ⟩)]
 |c::C,r::R,n=>mkSt [(1, .box 1 0),(2, .box 2 0),(3, .box 3 0),(5,I n)] [(1,invC x),(2,yO),(3,thC x (.arr 28 C.length) (.arr 45 R.length))] [(28,⟨C.length, .own,87,(c::C).map aQ⟩),(45,⟨R.length, .own,98,(r::R).map aZ⟩)]
theorem aA5(x:aJ)(hc:x.stocks.length<=1000000)(hr:x.pieces.length<=1000000):Sp 18 [invV x] (invV x):=by
 refine zsp Tryz.func18 ?_
 have hm1:(x.stocks.map aQ).length=x.stocks.length:=by simp
 have hm2:(x.pieces.map aZ).length=x.pieces.length:=by simp
 repeat' ((conv=>whnf);first|refine zg ?_)
 refine aU (A:=List aN) (B:=List aN) (fun D R=>thS1 x D D.length) (fun D R=>x.stocks=D++R) (fun D R=>R.length) [] x.stocks ?_ rfl (fun D R hp=>?_)
 ·show Le T _ (thS1 x [] 0)
  exact zj
 cases R with
 |cons c R=>
  have hlen:=aO hp
  have hlD:((D++[c]).length:Int)=(D.length:Int)+1:=by simp
  cases D with
  |nil=>
   have h00:([] :List aN).length=0:=rfl
   repeat' ((conv=>whnf);first|(exfalso;omega)|refine aB (l:=x.stocks) (by omega) ?_|refine aF (l:=x.stocks) (A:=[]) (x:=c) (B:=R) hp (by omega) ?_|refine gX (of_decide_eq_true rfl) (dA rfl) (show(1:Nat)<=1000000000 from by decide) ?_|refine zg ?_|refine zi ?_|refine za ?_|refine zv ?_|refine zz (fun _=>?_) fun _=>?_)
   all_goals conv=>whnf
   refine⟨([c],R),?_,hp,by simp⟩
   show Le T _ (thS1 x [c] 1)
   exact zj
  |cons d D=>
   have h00:(d::D).length=D.length+1:=rfl
   repeat' ((conv=>whnf);first|(exfalso;omega)|refine aB (l:=x.stocks) (by omega) ?_|refine aF (l:=x.stocks) (A:=d::D) (x:=c) (B:=R) hp (by omega) ?_|refine mX (l:=d::D) rfl rfl (.inl rfl) rfl (of_decide_eq_true rfl) rfl (by omega) ?_|refine zg ?_|refine zi ?_|refine za ?_|refine zv ?_|refine zz (fun _=>?_) fun _=>?_)
   all_goals conv=>whnf
   refine⟨(d::(D++[c]),R),?_,by rw[hp];simp,by simp⟩
   have e1:(d::(D++[c])).map aQ=(d::D).map aQ++[aQ c] :=by simp
   have e2:(D++[c]).length=D.length+1:=by simp
   have e3:((d::(D++[c])).length:Int)=((d::D).length:Int)+1:=by simp
   show Le T _ (mkSt [(1, .box 1 0),(2, .box 2 0),(3, .box 3 0),(4,I ((d::(D++[c])).length:Nat))] [(1,invC x),(2,yO),(3,thC x (.arr 28 (D++[c]).length) nilV)] [(28,⟨(D++[c]).length, .own,87,(d::(D++[c])).map aQ⟩)])
   rw[e1,e2,e3]
   exact zj
 |nil=>
  have hlen:x.stocks.length=D.length:=by rw[hp];simp
  have e:x.stocks=D:=by rw[hp];simp
  cases D with
  |nil=>
  ·have hcc:(([] :List aN)).length<=1000000:=by rw[<-e];exact hc
   repeat' ((conv=>whnf);first|(exfalso;omega)|refine zg ?_|refine zz (fun _=>?_) fun _=>?_)
   refine aU (A:=List Piece) (B:=List Piece) (fun D R=>thS2 x [] D D.length) (fun D R=>x.pieces=D++R) (fun D R=>R.length) [] x.pieces ?_ rfl (fun E R hp=>?_)
   ·show Le T _ (thS2 x [] [] 0)
    exact zj
   cases R with
   |cons r R=>
    have hlen2:=aO hp
    cases E with
    |nil=>
     have h00:([] :List Piece).length=0:=rfl
     repeat' ((conv=>whnf);first|(exfalso;omega)|refine aB (l:=x.pieces) (by omega) ?_|refine aF (l:=x.pieces) (A:=[]) (x:=r) (B:=R) hp (by omega) ?_|refine gX (of_decide_eq_true rfl) (dA rfl) (show(1:Nat)<=1000000000 from by decide) ?_|refine zg ?_|refine zi ?_|refine za ?_|refine zv ?_|refine zz (fun _=>?_) fun _=>?_)
     all_goals conv=>whnf
     refine⟨([r],R),?_,hp,by simp⟩
     show Le T _ (thS2 x [] [r] 1)
     exact zj
    |cons d E=>
     have h00:(d::E).length=E.length+1:=rfl
     repeat' ((conv=>whnf);first|(exfalso;omega)|refine aB (l:=x.pieces) (by omega) ?_|refine aF (l:=x.pieces) (A:=d::E) (x:=r) (B:=R) hp (by omega) ?_|refine mX (l:=d::E) rfl rfl (.inl rfl) rfl (of_decide_eq_true rfl) rfl (by omega) ?_|refine zg ?_|refine zi ?_|refine za ?_|refine zv ?_|refine zz (fun _=>?_) fun _=>?_)
     all_goals conv=>whnf
     refine⟨(d::(E++[r]),R),?_,by rw[hp];simp,by simp⟩
     have e1:(d::(E++[r])).map aZ=(d::E).map aZ++[aZ r] :=by simp
     have e2:(E++[r]).length=E.length+1:=by simp
     have e3:((d::(E++[r])).length:Int)=((d::E).length:Int)+1:=by simp
     show Le T _ (mkSt [(1, .box 1 0),(2, .box 2 0),(3, .box 3 0),(5,I ((d::(E++[r])).length:Nat))] [(1,invC x),(2,yO),(3,thC x nilV (.arr 45 (E++[r]).length))] ((45,⟨(E++[r]).length, .own,98,(d::(E++[r])).map aZ⟩):: []))
     rw[e1,e2,e3]
     exact zj
   |nil=>
    have hlen2:x.pieces.length=E.length:=by rw[hp];simp
    have e4:x.pieces=E:=by rw[hp];simp
    have ev:invV x= .agg (thC x (.sl (([] :List aN).map aQ)) (.sl (E.map aZ))):=by rw[<-e,<-e4];rfl
    rw[ev]
    cases E with
    |nil=>
     have h00:([] :List Piece).length=0:=rfl
     repeat' ((conv=>whnf);first|(exfalso;omega)|refine zg ?_|refine zz (fun _=>?_) fun _=>?_|refine zr ?_)
     all_goals conv=>whnf
     all_goals first|exact aG rfl|exact aK rfl|exact aP rfl|exact zt|exact zu
    |cons d E=>
     have h00:(d::E).length=E.length+1:=rfl
     repeat' ((conv=>whnf);first|(exfalso;omega)|refine zg ?_|refine zz (fun _=>?_) fun _=>?_|refine zr ?_)
     all_goals conv=>whnf
     all_goals first|exact aG rfl|exact aK rfl|exact aP rfl|exact zt|exact zu
  |cons c C=>
  ·have hcc:(((c::C):List aN)).length<=1000000:=by rw[<-e];exact hc
   repeat' ((conv=>whnf);first|(exfalso;omega)|refine zg ?_|refine zz (fun _=>?_) fun _=>?_)
   refine aU (A:=List Piece) (B:=List Piece) (fun D R=>thS2 x (c::C) D D.length) (fun D R=>x.pieces=D++R) (fun D R=>R.length) [] x.pieces ?_ rfl (fun E R hp=>?_)
   ·show Le T _ (thS2 x (c::C) [] 0)
    exact zj
   cases R with
   |cons r R=>
    have hlen2:=aO hp
    cases E with
    |nil=>
     have h00:([] :List Piece).length=0:=rfl
     repeat' ((conv=>whnf);first|(exfalso;omega)|refine aB (l:=x.pieces) (by omega) ?_|refine aF (l:=x.pieces) (A:=[]) (x:=r) (B:=R) hp (by omega) ?_|refine gX (of_decide_eq_true rfl) (dA rfl) (show(1:Nat)<=1000000000 from by decide) ?_|refine zg ?_|refine zi ?_|refine za ?_|refine zv ?_|refine zz (fun _=>?_) fun _=>?_)
     all_goals conv=>whnf
     refine⟨([r],R),?_,hp,by simp⟩
     show Le T _ (thS2 x (c::C) [r] 1)
     exact zj
    |cons d E=>
     have h00:(d::E).length=E.length+1:=rfl
     repeat' ((conv=>whnf);first|(exfalso;omega)|refine aB (l:=x.pieces) (by omega) ?_|refine aF (l:=x.pieces) (A:=d::E) (x:=r) (B:=R) hp (by omega) ?_|refine mX (l:=d::E) rfl rfl (.inl rfl) rfl (of_decide_eq_true rfl) rfl (by omega) ?_|refine zg ?_|refine zi ?_|refine za ?_|refine zv ?_|refine zz (fun _=>?_) fun _=>?_)
     all_goals conv=>whnf
     refine⟨(d::(E++[r]),R),?_,by rw[hp];simp,by simp⟩
     have e1:(d::(E++[r])).map aZ=(d::E).map aZ++[aZ r] :=by simp
     have e2:(E++[r]).length=E.length+1:=by simp
     have e3:((d::(E++[r])).length:Int)=((d::E).length:Int)+1:=by simp
     show Le T _ (mkSt [(1, .box 1 0),(2, .box 2 0),(3, .box 3 0),(5,I ((d::(E++[r])).length:Nat))] [(1,invC x),(2,yO),(3,thC x (.arr 28 C.length) (.arr 45 (E++[r]).length))] ((28,⟨C.length, .own,87,(c::C).map aQ⟩)::(45,⟨(E++[r]).length, .own,98,(d::(E++[r])).map aZ⟩):: []))
     rw[e1,e2,e3]
     exact zj
   |nil=>
    have hlen2:x.pieces.length=E.length:=by rw[hp];simp
    have e4:x.pieces=E:=by rw[hp];simp
    have ev:invV x= .agg (thC x (.sl (((c::C):List aN).map aQ)) (.sl (E.map aZ))):=by rw[<-e,<-e4];rfl
    rw[ev]
    cases E with
    |nil=>
     have h00:([] :List Piece).length=0:=rfl
     repeat' ((conv=>whnf);first|(exfalso;omega)|refine zg ?_|refine zz (fun _=>?_) fun _=>?_|refine zr ?_)
     all_goals conv=>whnf
     all_goals first|exact aG rfl|exact aK rfl|exact aP rfl|exact zt|exact zu
    |cons d E=>
     have h00:(d::E).length=E.length+1:=rfl
     repeat' ((conv=>whnf);first|(exfalso;omega)|refine zg ?_|refine zz (fun _=>?_) fun _=>?_|refine zr ?_)
     all_goals conv=>whnf
     all_goals first|exact aG rfl|exact aK rfl|exact aP rfl|exact zt|exact zu
theorem eqPc(i1 i2 i6 i8 j1 j2 j6 j8:Int)(s3 s4 s5 s9 t3 t4 t5 t9:ByteArray)(b c:Bool):eqT T 4 98 [I i1,I i2,S s3,S s4,S s5,I i6,B b,I i8,S s9] [I j1,I j2,S t3,S t4,S t5,I j6,B c,I j8,S t9] =
 some (andB (eqB i1 j1) (andB (eqB i2 j2) (andB (eqSB s3 t3) (andB (eqSB s4 t4) (andB (eqSB s5 t5) (andB (eqB i6 j6) (andB (eqBB b c) (andB (eqB i8 j8) (andB (eqSB s9 t9) true))))))))):=by kernel_rfl
theorem eW2{i1 i2 i6 i8 j1 j2 j6 j8:Int}{s3 s4 s5 s9 t3 t4 t5 t9:ByteArray}{b c:Bool}{K:Bool->Prop}
 (h:K (andB (eqB i1 j1) (andB (eqB i2 j2) (andB (eqSB s3 t3) (andB (eqSB s4 t4) (andB (eqSB s5 t5) (andB (eqB i6 j6) (andB (eqBB b c) (andB (eqB i8 j8) (andB (eqSB s9 t9) true)))))))))):
 aL1.match_1 (fun _=>Prop) (eqT T 4 98 [I i1,I i2,S s3,S s4,S s5,I i6,B b,I i8,S s9] [I j1,I j2,S t3,S t4,S t5,I j6,B c,I j8,S t9]) K (fun _=>False):=by
 rw[eqPc];exact h
theorem dR2{a b:Piece}:a=b↔a.id=b.id/\a.parent=b.parent/\a.part=b.part/\a.grade=b.grade/\a.heat=b.heat/\a.size=b.size/\a.isBar=b.isBar/\a.status=b.status/\a.order=b.order:=by
 constructor
 ·rintro rfl;exact⟨rfl,rfl,rfl,rfl,rfl,rfl,rfl,rfl,rfl⟩
 ·obtain⟨⟩:=a;obtain⟨⟩:=b;rintro⟨h1,h2,h3,h4,h5,h6,h7,h8,h9⟩;simp only at h1 h2 h3 h4 h5 h6 h7 h8 h9;rw[h1,h2,h3,h4,h5,h6,h7,h8,h9]
theorem eV1{a b:Piece}:andB (eqB a.id b.id) (andB (eqB a.parent b.parent) (andB (eqSB a.part b.part) (andB (eqSB a.grade b.grade) (andB (eqSB a.heat b.heat) (andB (eqB a.size b.size) (andB (eqBB a.isBar b.isBar) (andB (eqB a.status b.status) (andB (eqSB a.order b.order) true))))))))=true↔a=b:=by
 rw[dR2]
 simp only[dE9,aA1,eK9,cA1,beq_iff_eq,and_true]
theorem dV1{a b:Piece}{A B:Prop}(h1:a=b->A)(h2:a≠b->B):branch (andB (eqB a.id b.id) (andB (eqB a.parent b.parent) (andB (eqSB a.part b.part) (andB (eqSB a.grade b.grade) (andB (eqSB a.heat b.heat) (andB (eqB a.size b.size) (andB (eqBB a.isBar b.isBar) (andB (eqB a.status b.status) (andB (eqSB a.order b.order) true))))))))) A B:=
 jU (fun h=>h1 (eV1.1 h)) (fun h=>h2 (fun e=>by rw[eV1.2 e]at h;cases h))
theorem eM2{a b:aJ}:a=b↔a.stocks=b.stocks/\a.pieces=b.pieces/\a.used=b.used/\a.received=b.received/\a.scrap=b.scrap:=by
 constructor
 ·rintro rfl;exact⟨rfl,rfl,rfl,rfl,rfl⟩
 ·obtain⟨⟩:=a;obtain⟨⟩:=b;rintro⟨h1,h2,h3,h4,h5⟩;simp only at h1 h2 h3 h4 h5;rw[h1,h2,h3,h4,h5]
theorem bR8(a b:aJ)(hs:Len6 a.stocks)(hp:Len6 a.pieces)(hu:Len6 a.used)(hz:∀x∈a.stocks,bK9 x):Sp 17 [invV a,invV b] (DB (a=b)):=by
 refine zsp Tryz.func17 ?_
 have hm1:(a.stocks.map aQ).length=a.stocks.length:=by simp
 have hm2:(b.stocks.map aQ).length=b.stocks.length:=by simp
 have hm3:(a.pieces.map aZ).length=a.pieces.length:=by simp
 have hm4:(b.pieces.map aZ).length=b.pieces.length:=by simp
 have g1:=cY1 (b:=b.used) hu
 have hr:a=b↔a.stocks=b.stocks/\a.pieces=b.pieces/\a.used=b.used/\a.received=b.received/\a.scrap=b.scrap:=eM2
 generalize (a=b)=P at*
 have hl1:a.stocks.length≠b.stocks.length->¬P:=fun h q=>h (by rw[(hr.1 q).1])
 have hl2:a.pieces.length≠b.pieces.length->¬P:=fun h q=>h (by rw[(hr.1 q).2.1])
 have hl3:¬a.used=b.used->¬P:=fun h q=>h (hr.1 q).2.2.1
 have hl4:a.received≠b.received->¬P:=fun h q=>h (hr.1 q).2.2.2.1
 have hl5:a.scrap≠b.scrap->¬P:=fun h q=>h (hr.1 q).2.2.2.2
 generalize hpu:(a.used=b.used)=pu at*
 repeat' ((conv=>whnf);first|refine aB4 (fun heq=>?_) (fun heq=>?_)|refine zc g1 ?_|refine zg ?_|refine zy ?_|refine zn ?_|refine zz (fun _=>?_) fun _=>?_|refine zr ?_)
 all_goals conv=>whnf
 all_goals first
  |exact aA (aC (hl1 (by omega)))
  |exact aA (aC (hl2 (by omega)))
  |exact aA (aC (hl3 (by assumption)))
  |exact aA (aC (hl4 (by assumption)))
  |exact aA (aC (hl5 (by assumption)))
  |skip
 have hP:P↔a.stocks=b.stocks/\a.pieces=b.pieces:=⟨fun h=>⟨(hr.1 h).1,(hr.1 h).2.1⟩,fun h=>hr.2 ⟨h.1,h.2,by assumption,by assumption,by assumption⟩⟩
 clear hr hl1 hl2 hl3 hl4 hl5
 refine oU (A:=List aN) (B:=List aN) (C:=List aN) (fun D R S=>mkSt [(2, .box 2 0),(3, .box 3 0),(5,I D.length)] [(2,invC a),(3,invC b)] []) (fun D R S=>a.stocks=D++R/\b.stocks=D++S) (fun D R S=>R.length) [] a.stocks b.stocks ?_ ⟨rfl,rfl⟩ (fun D R S hq=>?_)
 ·exact zj
 obtain⟨hq1,hq2⟩:=hq
 cases R with
 |cons x R=>
  cases S with
  |nil=>
   have h1:b.stocks.length=D.length:=by rw[hq2];simp
   have h2:=aO hq1
   exfalso;omega
  |cons y S=>
   have hlen:=aO hq1
   have hlen2:=aO hq2
   have hne:¬x=y->¬P:=fun h hP'=>by
    have h1:=(hP.1 hP').1
    rw[hq1,hq2]at h1
    exact h (List.cons.inj (List.append_cancel_left h1)).1
   have g2:=cK0 x y (hz x (by rw[hq1];simp))
   repeat' ((conv=>whnf);first|(exfalso;omega)|refine aB (l:=a.stocks) (by omega) ?_|refine aB (l:=b.stocks) (by omega) ?_|refine aF (l:=a.stocks) (A:=D) (x:=x) (B:=R) hq1 (by omega) ?_|refine aF (l:=b.stocks) (A:=D) (x:=y) (B:=S) hq2 (by omega) ?_|refine zc g2 ?_|refine zg ?_|refine zi ?_|refine za ?_|refine zn ?_|refine zz (fun _=>?_) fun _=>?_|refine zr ?_)
   all_goals conv=>whnf
   all_goals first
    |exact aA (aC (hne (by assumption)))
    |skip
   refine⟨(D++[x],R,S),?_,⟨by rw[hq1];simp,?_⟩,by simp⟩
   ·simp only[List.length_append,List.length_singleton]
    exact zj
   ·have hxy:x=y:=by assumption
    rw[hq2,hxy];simp
 |nil=>
  have hlen:a.stocks.length=D.length:=by rw[hq1];simp
  have hS:S=[] :=by
   have h1:b.stocks.length=D.length+S.length:=by rw[hq2];simp
   exact List.length_eq_zero_iff.1 (by omega)
  subst hS
  have hst:a.stocks=b.stocks:=by rw[hq1,hq2]
  have hP2:P↔a.pieces=b.pieces:=⟨fun h=>(hP.1 h).2,fun h=>hP.2 ⟨hst,h⟩⟩
  clear hq1 hq2 hP
  repeat' ((conv=>whnf);first|(exfalso;omega)|refine zg ?_|refine zz (fun _=>?_) fun _=>?_)
  refine oU (A:=List Piece) (B:=List Piece) (C:=List Piece) (fun D R S=>mkSt [(2, .box 2 0),(3, .box 3 0),(6,I D.length)] [(2,invC a),(3,invC b)] []) (fun D R S=>a.pieces=D++R/\b.pieces=D++S) (fun D R S=>R.length) [] a.pieces b.pieces ?_ ⟨rfl,rfl⟩ (fun E R S hq=>?_)
  ·exact zj
  obtain⟨hq1,hq2⟩:=hq
  cases R with
  |cons x R=>
   cases S with
   |nil=>
    have h1:b.pieces.length=E.length:=by rw[hq2];simp
    have h2:=aO hq1
    exfalso;omega
   |cons y S=>
    have hlen:=aO hq1
    have hlen2:=aO hq2
    have hne:x≠y->¬P:=fun h hP'=>by
     have h1:=hP2.1 hP'
     rw[hq1,hq2]at h1
     exact h (List.cons.inj (List.append_cancel_left h1)).1
    repeat' ((conv=>whnf);first|(exfalso;omega)|refine aB (l:=a.pieces) (by omega) ?_|refine aB (l:=b.pieces) (by omega) ?_|refine aF (l:=a.pieces) (A:=E) (x:=x) (B:=R) hq1 (by omega) ?_|refine aF (l:=b.pieces) (A:=E) (x:=y) (B:=S) hq2 (by omega) ?_|refine eW2 ?_|refine dV1 (fun heq=>?_) (fun heq=>?_)|refine zg ?_|refine zi ?_|refine za ?_|refine zy ?_|refine zn ?_|refine zz (fun _=>?_) fun _=>?_|refine zr ?_)
    all_goals conv=>whnf
    all_goals first
     |exact aA (aC (hne (by assumption)))
     |skip
    refine⟨(E++[x],R,S),?_,⟨by rw[hq1];simp,?_⟩,by simp⟩
    ·simp only[List.length_append,List.length_singleton]
     exact zj
    ·have hxy:x=y:=by assumption
     rw[hq2,hxy];simp
  |nil=>
   have hlen2:a.pieces.length=E.length:=by rw[hq1];simp
   have hS:S=[] :=by
    have h1:b.pieces.length=E.length+S.length:=by rw[hq2];simp
    exact List.length_eq_zero_iff.1 (by omega)
   subst hS
   have hab:P:=hP2.2 (by rw[hq1,hq2])
   clear hq1 hq2 hP2
   repeat' ((conv=>whnf);first|(exfalso;omega)|refine zg ?_|refine zz (fun _=>?_) fun _=>?_|refine zr ?_)
   all_goals conv=>whnf
   exact aA (fE hab)
theorem bU0{x:aN}(h:eY x):bK9 x:=by
 obtain⟨⟨⟨a1,a2,a3⟩,b1,b2⟩,c⟩:=h
 exact⟨⟨⟨by omega,by omega,fun r hr=>by have:=a3 r hr;omega⟩,by omega,fun d hd=>by
  obtain⟨q1,q2,q3⟩:=b2 d hd
  exact⟨by omega,by omega,fun r hr=>by have:=q3 r hr;omega⟩⟩,by show _<=_;omega⟩
theorem dO9{a b:aJ}{n m:Nat}(ha:Ok a n)(hb:Ok b m)(hn:n<=1000000)(hm:m<=1000000):Sp 25 [invV a,invV b] (DB (a=b)):=by
 have t1:=aA5 a (Nat.le_trans ha.ls hn) (Nat.le_trans ha.lp hn)
 have t2:=aA5 b (Nat.le_trans hb.ls hm) (Nat.le_trans hb.lp hm)
 have t3:=bR8 a b (by have:=ha.ls;show _<=_;omega) (by have:=ha.lp;show _<=_;omega) (by have:=ha.lu;show _<=_;omega) (fun x hx=>bU0 (ha.sz x hx))
 refine zsp Tryz.func25 ?_
 repeat' ((conv=>whnf);first|refine zc t1 ?_|refine zc t2 ?_|refine zc t3 ?_|refine zg ?_|refine zi ?_|refine zr ?_)
 all_goals conv=>whnf
 all_goals exact aA rfl
end Go.Proofs.Led
