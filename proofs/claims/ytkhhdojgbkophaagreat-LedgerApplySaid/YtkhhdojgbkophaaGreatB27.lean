/-
  Equal states, as the reference compares them.
-/
import Derived.Test.YtkhhdojgbkophaaGreatB26
set_option linter.unusedVariables false
set_option linter.unusedSimpArgs false
set_option maxRecDepth 100000
set_option maxHeartbeats 8000000
noncomputable section
namespace Go.Proofs.Led
open Go Go.Proofs Go.Ab
theorem eqPc(i1 i2 i6 i8 j1 j2 j6 j8:Int)(s3 s4 s5 s9 t3 t4 t5 t9:ByteArray)(b c:Bool):eqT T 4 98 [I i1,I i2,S s3,S s4,S s5,I i6,B b,I i8,S s9] [I j1,I j2,S t3,S t4,S t5,I j6,B c,I j8,S t9] =
 some (andB (eqB i1 j1) (andB (eqB i2 j2) (andB (eqSB s3 t3) (andB (eqSB s4 t4) (andB (eqSB s5 t5) (andB (eqB i6 j6) (andB (eqBB b c) (andB (eqB i8 j8) (andB (eqSB s9 t9) true))))))))):=Ad
theorem eW2{i1 i2 i6 i8 j1 j2 j6 j8:Int}{s3 s4 s5 s9 t3 t4 t5 t9:ByteArray}{b c:Bool}{K:Bool->Prop}
 (h:K (andB (eqB i1 j1) (andB (eqB i2 j2) (andB (eqSB s3 t3) (andB (eqSB s4 t4) (andB (eqSB s5 t5) (andB (eqB i6 j6) (andB (eqBB b c) (andB (eqB i8 j8) (andB (eqSB s9 t9) true)))))))))):
 aL1.match_1 (fun _=>Prop) (eqT T 4 98 [I i1,I i2,S s3,S s4,S s5,I i6,B b,I i8,S s9] [I j1,I j2,S t3,S t4,S t5,I j6,B c,I j8,S t9]) K (fun _=>False):=by
 rw[eqPc];exact h
theorem dR2{a b:Piece}:a=b↔a.id=b.id/\a.parent=b.parent/\a.part=b.part/\a.grade=b.grade/\a.heat=b.heat/\a.size=b.size/\a.isBar=b.isBar/\a.status=b.status/\a.order=b.order:=by
 constructor
 ·rintro rfl;exact⟨rfl,rfl,rfl,rfl,rfl,rfl,rfl,rfl,rfl⟩
 ·obtain⟨⟩:=a;obtain⟨⟩:=b;rintro⟨h1,h2,h3,h4,h5,h6,h7,h8,h9⟩;simp only at h1 h2 h3 h4 h5 h6 h7 h8 h9;rw[h1,h2,h3,h4,h5,h6,h7,h8,h9]
theorem eV1{a b:Piece}:andB (eqB a.id b.id) (andB (eqB a.parent b.parent) (andB (eqSB a.part b.part) (andB (eqSB a.grade b.grade) (andB (eqSB a.heat b.heat) (andB (eqB a.size b.size) (andB (eqBB a.isBar b.isBar) (andB (eqB a.status b.status) (andB (eqSB a.order b.order) true))))))))=true↔a=b:=by
 rw[dR2];simp only[dE9,aA1,eK9,cA1,beq_iff_eq,and_true]
theorem dV1{a b:Piece}{A B:Prop}(h1:a=b->A)(h2:a≠b->B):branch (andB (eqB a.id b.id) (andB (eqB a.parent b.parent) (andB (eqSB a.part b.part) (andB (eqSB a.grade b.grade) (andB (eqSB a.heat b.heat) (andB (eqB a.size b.size) (andB (eqBB a.isBar b.isBar) (andB (eqB a.status b.status) (andB (eqSB a.order b.order) true))))))))) A B:=
 jU (fun h=>h1 (eV1.1 h)) (fun h=>h2 (fun e=>by rw[eV1.2 e]at h;cases h))
theorem eM2{a b:aJ}:a=b↔a.stocks=b.stocks/\a.pieces=b.pieces/\a.used=b.used/\a.received=b.received/\a.scrap=b.scrap:=MI
theorem bR8(a b:aJ)(hs:Len6 a.stocks)(hp:Len6 a.pieces)(hu:Len6 a.used)(hz:∀x∈a.stocks,bK9 x):Sp 17 [invV a,invV b] (DB (a=b)):=by
 refine zsp Tryz.func17 ?_;have hm1:(a.stocks.map aQ).length=a.stocks.length:=Af;have hm2:(b.stocks.map aQ).length=b.stocks.length:=Af
 have hm3:(a.pieces.map aZ).length=a.pieces.length:=Af;have hm4:(b.pieces.map aZ).length=b.pieces.length:=Af
 have g1:=cY1 (b:=b.used) hu;have hr:a=b↔a.stocks=b.stocks/\a.pieces=b.pieces/\a.used=b.used/\a.received=b.received/\a.scrap=b.scrap:=eM2
 generalize (a=b)=P at*;have hl1:a.stocks.length≠b.stocks.length->¬P:=fun h q=>h (by rw[(hr.1 q).1])
 have hl2:a.pieces.length≠b.pieces.length->¬P:=fun h q=>h (by rw[(hr.1 q).2.1])
 have hl3:¬a.used=b.used->¬P:=fun h q=>h (hr.1 q).2.2.1;have hl4:a.received≠b.received->¬P:=fun h q=>h (hr.1 q).2.2.2.1
 have hl5:a.scrap≠b.scrap->¬P:=fun h q=>h (hr.1 q).2.2.2.2;generalize hpu:(a.used=b.used)=pu at*
 repeat' ((conv=>whnf);first|refine aB4 (fun heq=>?_) (fun heq=>?_)|refine zS ?_|refine zT ?_ ?_<;>intro _|fail)
 all_goals conv=>whnf
 all_goals first
  |exact aA (aC (hl1 Aa))
  |exact aA (aC (hl2 Aa))
  |exact aA (aC (hl3 Ae))
  |exact aA (aC (hl4 Ae))
  |exact aA (aC (hl5 Ae))
  |skip
 have hP:P↔a.stocks=b.stocks/\a.pieces=b.pieces:=⟨fun h=>⟨(hr.1 h).1,(hr.1 h).2.1⟩,fun h=>hr.2 ⟨h.1,h.2,Ae,Ae,Ae⟩⟩;clear hr hl1 hl2 hl3 hl4 hl5;refine oU (A:=List aN) (B:=List aN) (C:=List aN) (fun D R S=>mkSt [(2, .box 2 0),(3, .box 3 0),(5,I D.length)] [(2,invC a),(3,invC b)] []) (fun D R S=>a.stocks=D++R/\b.stocks=D++S) (fun D R S=>R.length) [] a.stocks b.stocks ?_ ⟨rfl,rfl⟩ (fun D R S hq=>?_)
 ·exact zj
 obtain⟨hq1,hq2⟩:=hq
 cases R with
 |cons x R=>
  cases S with
  |nil=>
   have h1:b.stocks.length=D.length:=Jy;have h2:=aO hq1
   exfalso;omega
  |cons y S=>
   have hlen:=aO hq1;have hlen2:=aO hq2
   have hne:¬x=y->¬P:=fun h hP'=>by
    have h1:=(hP.1 hP').1;exact Tn
   have g2:=cK0 x y (hz x IL)
   repeat' ((conv=>whnf);first|(exfalso;omega)|refine zS ?_|refine zT ?_ ?_<;>intro _|fail)
   all_goals conv=>whnf
   all_goals first
    |exact aA (aC (hne Ae))
    |skip
   refine⟨(D++[x],R,S),?_,⟨IL,?_⟩,Af⟩
   ·exact J5
   ·have hxy:x=y:=by assumption
    rw[hq2,hxy];simp
 |nil=>
  have hlen:a.stocks.length=D.length:=IL
  have hS:S=[] :=by
   have h1:b.stocks.length=D.length+S.length:=Jy;exact List.length_eq_zero_iff.1 Aa
  subst hS;have hst:a.stocks=b.stocks:=by rw[hq1,hq2]
  have hP2:P↔a.pieces=b.pieces:=⟨fun h=>(hP.1 h).2,fun h=>hP.2 ⟨hst,h⟩⟩;clear hq1 hq2 hP
  repeat' ((conv=>whnf);first|(exfalso;omega)|refine zS ?_|refine zT ?_ ?_<;>intro _|fail)
  refine oU (A:=List Piece) (B:=List Piece) (C:=List Piece) (fun D R S=>mkSt [(2, .box 2 0),(3, .box 3 0),(6,I D.length)] [(2,invC a),(3,invC b)] []) (fun D R S=>a.pieces=D++R/\b.pieces=D++S) (fun D R S=>R.length) [] a.pieces b.pieces ?_ ⟨rfl,rfl⟩ (fun E R S hq=>?_)
  ·exact zj
  obtain⟨hq1,hq2⟩:=hq
  cases R with
  |cons x R=>
   cases S with
   |nil=>
    have h1:b.pieces.length=E.length:=Jy;have h2:=aO hq1
    exfalso;omega
   |cons y S=>
    have hlen:=aO hq1;have hlen2:=aO hq2
    have hne:x≠y->¬P:=fun h hP'=>by
     have h1:=hP2.1 hP';exact Tn
    repeat' ((conv=>whnf);first|(exfalso;omega)|refine eW2 ?_|refine dV1 (fun heq=>?_) (fun heq=>?_)|refine zS ?_|refine zT ?_ ?_<;>intro _|fail)
    all_goals conv=>whnf
    all_goals first
     |exact aA (aC (hne Ae))
     |skip
    refine⟨(E++[x],R,S),?_,⟨IL,?_⟩,Af⟩
    ·exact J5
    ·have hxy:x=y:=by assumption
     rw[hq2,hxy];simp
  |nil=>
   have hlen2:a.pieces.length=E.length:=IL
   have hS:S=[] :=by
    have h1:b.pieces.length=E.length+S.length:=Jy;exact List.length_eq_zero_iff.1 Aa
   subst hS;have hab:P:=hP2.2 (by rw[hq1,hq2])
   clear hq1 hq2 hP2
   repeat' ((conv=>whnf);first|(exfalso;omega)|refine zS ?_|refine zT ?_ ?_<;>intro _|fail)
   all_goals conv=>whnf
   exact aA (fE hab)
theorem bU0{x:aN}(h:eY x):bK9 x:=by
 obtain⟨⟨⟨a1,a2,a3⟩,b1,b2⟩,c⟩:=h
 exact⟨⟨⟨Aa,Aa,fun r hr=>by have:=a3 r hr;omega⟩,Aa,fun d hd=>by
  obtain⟨q1,q2,q3⟩:=b2 d hd;exact⟨Aa,Aa,fun r hr=>by have:=q3 r hr;omega⟩⟩,by show _<=_;omega⟩
theorem gE4{p:Prop}{f g:FuncId}{xs ys:List V}(h1:Sp f xs (DB p))(h2:Sp g ys (DB p)):∃b:Bool,Sp f xs (B b)/\Sp g ys (B b):=⟨decB p,h1,h2⟩
theorem fS3(l:List Event)(hl:Len6 l)(hb:∀e∈l,bI1 e):Sp 3 [.sl (l.map aS)] (.lit (.bool true)):=by
 refine zsp Tryz.func3 ?_;have hm:(l.map aS).length=l.length:=Af;have g0:=zB
 have g1:=aS2 l 16 hl hb;by_cases hf:fewL l 16;rotate_left
 ·exact zF
 obtain⟨hf1,hf2⟩:=hf;have hfs:∀e∈l,iY e/\e.cuts.length<=12/\e.rests.length<=8/\more e<=21:=fun e he=>aQ4 (hb e he) (hf1 e he);have hml:=bH2 (fun e he=>(hfs e he).2.2.2)
 have hf':fewL l 16:=⟨hf1,hf2⟩
 repeat' ((conv=>whnf);first|(exfalso;contradiction)|refine zS ?_|refine zT ?_ ?_<;>intro _|fail)
 all_goals conv=>whnf
 refine oU (A:=aJ) (B:=List Event) (C:=List Event) (fun s D R=>mkSt [(0, .sl (l.map aS)),(3, .box 3 0),(4, .box 4 0),(5,I D.length)] [(3,invC s),(4,invC s)] []) (fun s D R=>l=D++R/\∃n,Fine s n/\n+moreL R<=1000) (fun s D R=>R.length) inv0 [] l ?_ ⟨rfl,0,gG6,Aa⟩ (fun s D R hp=>?_)
 ·show Le T _ (mkSt [(0, .sl (l.map aS)),(3, .box 3 0),(4, .box 4 0),(5,I 0)] [(3,invC inv0),(4,invC inv0)] [])
  exact zj
 obtain⟨hp,n,hn,hnl⟩:=hp
 cases R with
 |nil=>
  have hlen:l.length=D.length:=Ac;clear hp;have g2:=gD4 l Aa (fun e he=>⟨by have:=(hfs e he).2.1;omega,by have:=(hfs e he).2.2.1;omega⟩)
  have g3:=vX l (fun e he=>(hfs e he).1) Aa Aa;have g4:=fV2 l (fun e he=>⟨(hfs e he).1,(hb e he).1,by have:=(hfs e he).2.1;omega,by have:=(hfs e he).2.2.1;omega⟩) Aa Aa
  obtain⟨m,hm1,hm2⟩:=fO9 l inv0 0 0 gG6;generalize kL inv0 0 l=q at*;have k4:=aA5 q.1 (by have:=hm2.ok.ls;omega) (by have:=hm2.ok.lp;omega)
  have k5:=bR8 q.1 q.1 (by have:=hm2.ok.ls;show _<=_;omega) (by have:=hm2.ok.lp;show _<=_;omega) (by have:=hm2.ok.lu;show _<=_;omega) (fun x hx=>bU0 (hm2.ok.sz x hx))
  rw[DB_t rfl]at k5;exact zF
 |cons e R=>
  have hlen:=aO hp;have em:moreL (e::R)=more e+moreL R:=Ip
  obtain⟨z1,z2,z3,z4⟩:=hfs e Ac;have hbe:=(hb e Ac).1;have k1:=bB8 e Aa Aa
  have k2:=(kG hn.ok (e:=e) Aa z1).1;have k3:=fO2 hn (e:=e) Aa z1 hbe Aa Aa
  obtain⟨b,k6,k7⟩:=gE4 (aE0 e z1) (fL6 e z1 hbe);have hlD:((D++[e]).length:Int)=(D.length:Int)+1:=Af;have kk0:∃n',Fine s n'/\n'+moreL R<=1000:=⟨n,hn,Aa⟩
  by_cases c:(appR s e).2=0
  ·have hG:=fN9 (e:=e) hn c
   have kk:∃n',Fine (appR s e).1 n'/\n'+moreL R<=1000:=⟨_,hG,Aa⟩;have k4:=aA5 (appR s e).1 (by have:=hG.ok.ls;omega) (by have:=hG.ok.lp;omega)
   have k5:=bR8 (appR s e).1 (appR s e).1 (by have:=hG.ok.ls;show _<=_;omega) (by have:=hG.ok.lp;show _<=_;omega) (by have:=hG.ok.lu;show _<=_;omega) (fun x hx=>bU0 (hG.ok.sz x hx))
   rw[DB_t rfl]at k5;rw[c]at k2 k3;clear hG c;generalize appR s e=a at*
   repeat' ((conv=>whnf);first|(exfalso;omega)|(exfalso;contradiction)|refine eZ1 Am ?_|refine cC0 [(3,3),(4,4),(6,6),(8,8)] Ag Am ?_|refine eK5 (fun heq=>?_) (fun hne=>?_)|refine zS ?_|refine zT ?_ ?_<;>intro _|fail)
   all_goals conv=>whnf
   refine⟨(a.1,D++[e],R),?_,⟨Ac,kk⟩,Af⟩;exact Px
  ·have ea:=gG3 hn.ok c
   have k4:=aA5 inv0 (Nat.zero_le _) (Nat.zero_le _);have k5:=bR8 inv0 inv0 (Nat.zero_le _) (Nat.zero_le _) (Nat.zero_le _) (fun x hx=>Iz)
   rw[DB_t rfl]at k5;rw[ea]at k2 k3;clear ea;generalize (appR s e).2=a at*
   repeat' ((conv=>whnf);first|(exfalso;omega)|(exfalso;contradiction)|refine eZ1 Am ?_|refine eK5 (fun heq=>?_) (fun hne=>?_)|refine zS ?_|refine zT ?_ ?_<;>intro _|fail)
   all_goals conv=>whnf
   refine⟨(s,D++[e],R),?_,⟨Ac,kk0⟩,Af⟩;exact Px
end Go.Proofs.Led
