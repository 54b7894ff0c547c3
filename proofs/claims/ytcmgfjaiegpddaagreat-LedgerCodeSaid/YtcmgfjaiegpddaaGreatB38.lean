/- Lemmas. -/
import Derived.Test.YtcmgfjaiegpddaaGreatB36
import Derived.Test.YtcmgfjaiegpddaaGreatB37
import Derived.Test.YtcmgfjaiegpddaaGreatB33
set_option linter.all false
set_option maxRecDepth 100000
set_option maxHeartbeats 8000000
noncomputable section
namespace Go.Proofs.Led
open Go Go.Proofs Go.Ab
def rEncode_spec(x:Event)(m:Int)(hg:aA4 x.sheet)(H:Len6 x.bar.defects)(hr:(cEvent m).rng x)(hb:((cEvent m).enc x).length<=100000000):Sp 10 [aS x] (.own 5 (((cEvent m).enc x).map byV)):=by
 refine zsp Tryz.func10 ?_;obtain⟨_,r1,r2,⟨_,r3,_⟩,⟨r4,_⟩,⟨r5,_⟩,⟨_,r6⟩,⟨_,r7⟩,r8⟩:=hr;have K:(x.cuts.map dK).length=x.cuts.length:=Af;have L:(x.rests.map bY).length=x.rests.length:=Af;have lc:=many_len cMade made_pos x.cuts;have lr:=many_len cRest rest_pos x.rests;have j:=fR6 x.sheet hg;have n:=fX8 x.bar H;rw[ev_enc]at hb⊢
 have hM:(evM x).length=(encI x.kind).length+(encI x.id).length+((encI x.text.size).length+x.text.size)+((encI (shE x).length).length+(shE x).length)+((encI (brE x).length).length+(brE x).length):=by
  exact Ru
 simp only[Q5]at hb;have hS:¬pJ x.sheet->shE x=cSheet.enc x.sheet:=λh=>optE_f (λe=>h (no_sheet.2 e));have hB:¬yT x.bar->brE x=cBar.enc x.bar:=λh=>optE_f (λe=>h (no_bar.2 e));have hS0:pJ x.sheet->shE x=[] :=λh=>optE_t (no_sheet.1 h);have hB0:yT x.bar->brE x=[] :=λh=>optE_t (no_bar.1 h);generalize ac:pJ x.sheet=Ps at*;generalize aa:yT x.bar=Pb at*;have h1:=rInt_spec x.kind r1;have h2:=rInt_spec x.id r2;have lt:(encT x.text).length=(encI x.text.size).length+x.text.size:=AV;have h3:=rText_spec x.text Aa;have eH:(evH x).map byV=(encI x.kind).map byV++(encI x.id).map byV++(encT x.text).map byV:=by unfold evH;simp only[Ti]
 have O:=byL_len (encI x.kind);have S:=byL_len (encI x.id);have T:=byL_len (encT x.text);have c2:=byV_cells (encI x.id);have i:=byV_cells (encT x.text);have mH:=byL_len (evH x)
 have hH:(evH x).length=(encI x.kind).length+(encI x.id).length+((encI x.text.size).length+x.text.size):=by
  unfold evH encT;simp only[Q5,bys_len]
 all_goals conv=>whnf
 refine eY7 ?_;repeat' ((conv=>whnf);first|omega|refine zU ?_|refine zm (λx hx=>?_)|refine zT ?_ ?_<;>intro _|fail)
 all_goals conv=>whnf
 refine dJ4 Unit (λ_=>mkSt [(1, .box 1 0),(3, .arr 11 1)] [(1,iJ x)] [(11,⟨1, .own,5,(encI x.kind).map byV++(encI x.id).map byV⟩)]) (λ_=>True) ?_ ?_
 ·generalize (encI x.kind).map byV=X1 at*
  generalize (encI x.id).map byV=X2 at*;repeat' ((conv=>whnf);first|refine cC0 [(1,1),(9,1),(12,1)] Ad Ak ?_|refine zc h1 ?_|refine zc h2 ?_|refine iH rfl (.inl rfl) rfl (Q9 rfl) c2 Bf ?_|refine zS ?_|refine zm (λx hx=>?_)|refine zT ?_ ?_<;>intro _|fail)
  all_goals conv=>whnf
  refine⟨(),?_,trivial⟩;exact zj
 intro _ _;all_goals conv=>whnf
 refine dJ4 Unit (λ_=>mkSt [(1, .box 1 0),(3, .arr 11 2)] [(1,iJ x)] [(11,⟨2, .own,5,(evH x).map byV⟩)]) (λ_=>True) ?_ ?_
 ·rw[eH]
  generalize (encI x.kind).map byV=X1 at*;generalize (encI x.id).map byV=X2 at*;generalize (encT x.text).map byV=X3 at*;repeat' ((conv=>whnf);first|refine zc h3 ?_|refine iH rfl (.inl rfl) rfl (Q9 rfl) i BG ?_|refine zS ?_|refine zm (λx hx=>?_)|refine zT ?_ ?_<;>intro _|fail)
  all_goals conv=>whnf
  refine⟨(),?_,trivial⟩;exact zj
 intro _ _;clear h1 h2 h3 O S T c2 i eH;all_goals conv=>whnf
 refine eY7 ?_;repeat' ((conv=>whnf);first|omega|refine zU ?_|refine zm (λx hx=>?_)|refine zT ?_ ?_<;>intro _|fail)
 all_goals conv=>whnf
 refine dJ4 V (λc=>mkSt [(1, .box 1 0),(3, .arr 11 2),(4,c),(5,nilS)] [(1,iJ x)] [(11,⟨2, .own,5,(evH x).map byV⟩)]) (NilOr (shE x)) ?_ ?_
 ·by_cases hp:Ps
  ·repeat' ((conv=>whnf);first|(exfalso;contradiction)|refine zc j ?_|refine zS ?_|refine zm (λx hx=>?_)|refine zT ?_ ?_<;>intro _|fail)
   all_goals conv=>whnf
   exact RV
  have r:=rSheet_spec x.sheet r4 (by rw[<-hS hp];omega);repeat' ((conv=>whnf);first|(exfalso;contradiction)|refine zc j ?_|refine zc r ?_|refine zS ?_|refine zm (λx hx=>?_)|refine zT ?_ ?_<;>intro _|fail)
  all_goals conv=>whnf
  refine⟨.sl ((shE x).map byV),?_, .inr rfl⟩;rw[hS hp];refine Le.trans (fB (k:=27) rfl (.inl rfl)) ?_;exact zj
 intro i hc3;all_goals conv=>whnf
 refine dJ4 V (λc=>mkSt [(1, .box 1 0),(3, .arr 11 2),(4,i),(5,c)] [(1,iJ x)] [(11,⟨2, .own,5,(evH x).map byV⟩)]) (NilOr (brE x)) ?_ ?_
 ·by_cases hp:Pb
  ·repeat' ((conv=>whnf);first|(exfalso;contradiction)|refine zc n ?_|refine zS ?_|refine zm (λx hx=>?_)|refine zT ?_ ?_<;>intro _|fail)
   all_goals conv=>whnf
   exact OC
  have F:=rBar_spec x.bar r5 (by rw[<-hB hp];omega);repeat' ((conv=>whnf);first|(exfalso;contradiction)|refine zc n ?_|refine zc F ?_|refine zS ?_|refine zm (λx hx=>?_)|refine zT ?_ ?_<;>intro _|fail)
  all_goals conv=>whnf
  rcases hc3 with⟨h3,_⟩|h3;all_goals subst h3
  all_goals refine⟨.sl ((brE x).map byV),?_, .inr rfl⟩
  all_goals rw[hB hp]
  all_goals refine Le.trans (fB (k:=34) rfl (.inl rfl)) ?_
  all_goals refine dV ?_ ?_ ?_ ?_
  all_goals repeat' (first|exact trivial|refine And.intro ?_ ?_|with_reducible rfl|exact(λh=>Ah)|exact Sr _|omega|exact rfl)
 intro c4 f;all_goals conv=>whnf
 have h4:=rBytes_spec (shE x) Aa;have h5:=rBytes_spec (brE x) Aa;have eM:(evM x).map byV=(evH x).map byV++(encI (shE x).length++shE x).map byV++(encI (brE x).length++brE x).map byV:=by unfold evM;rw[app2,app2]
 have m4:((encI (shE x).length++shE x).map byV).length=(encI (shE x).length).length+(shE x).length:=CQ;have m5:((encI (brE x).length++brE x).map byV).length=(encI (brE x).length).length+(brE x).length:=CQ;have o:=byV_cells (encI (shE x).length++shE x);have q:=byV_cells (encI (brE x).length++brE x);refine dJ4 Unit (λ_=>mkSt [(1, .box 1 0),(3, .arr 11 4)] [(1,iJ x)] [(11,⟨4, .own,5,(evM x).map byV⟩)]) (λ_=>True) ?_ ?_
 ·have s:(i=nilS/\(shE x).map byV=[]/\shE x=[])\/i= .sl ((shE x).map byV):=by
   rcases hc3 with⟨z,y⟩|z;exact .inl ⟨z,by rw[y];rfl,y⟩;exact .inr z
  have t:(c4=nilS/\(brE x).map byV=[]/\brE x=[])\/c4= .sl ((brE x).map byV):=by
   rcases f with⟨z,y⟩|z;exact .inl ⟨z,by rw[y];rfl,y⟩;exact .inr z
  have d:shE x=[]->brE x=[]->(encI (shE x).length++shE x).map byV=(encI (brE x).length++brE x).map byV:=λa b=>by rw[a,b]
  clear hc3 f;rw[eM];generalize (evH x).map byV=X3 at*;generalize (encI (shE x).length++shE x).map byV=Z at*;generalize (encI (brE x).length++brE x).map byV=X5 at*;generalize (shE x).map byV=L3 at*;generalize (brE x).map byV=L4 at*;rcases s with⟨z3,u,u3⟩|z3;all_goals rcases t with⟨z4,Y,u4⟩|z4
  all_goals subst z3 z4
  all_goals first|(have d:=d u3 u4;subst d)|skip
  all_goals first|subst u|skip
  all_goals first|subst Y|skip
  all_goals repeat' ((conv=>whnf);first|refine zc h4 ?_|refine zc h5 ?_|refine iH rfl (.inl rfl) rfl (Q9 rfl) o (by show X3.length+Z.length<=_;omega) ?_|refine iH rfl (.inl rfl) rfl (Q9 rfl) q (by show(X3++Z).length+List.length _<=_;simp only[Q5];omega) ?_|refine zS ?_|refine zm (λx hx=>?_)|refine zT ?_ ?_<;>intro _|fail)
  all_goals conv=>whnf
  all_goals refine⟨(),?_,trivial⟩
  all_goals refine dV ?_ ?_ ?_ ?_
  all_goals repeat' (first|exact trivial|refine And.intro ?_ ?_|with_reducible rfl|exact(λh=>Ah)|exact Sr _|omega|exact rfl)
 intro _ _;clear h4 h5 m4 m5 o q eM hc3 f;all_goals conv=>whnf
 have h6:Sp 33 [I (x.cuts.map dK).length] (.own 5 ((encI x.cuts.length).map byV)):=by
  rw[K];exact rInt_spec x.cuts.length (w_len Aa)
 have mM:=byL_len (evM x);have v:=byL_len (encI x.cuts.length);have c6:=byV_cells (encI x.cuts.length);have hP:(evM x++encI x.cuts.length).length=(evM x).length+(encI x.cuts.length).length:=Q5;have eP:(evM x++encI x.cuts.length).map byV=(evM x).map byV++(encI x.cuts.length).map byV:=Ti;generalize evM x++encI x.cuts.length=P at*;refine dJ4 Unit (λ_=>mkSt [(1, .box 1 0),(3, .arr 11 5)] [(1,iJ x)] [(11,⟨5, .own,5,P.map byV⟩)]) (λ_=>True) ?_ ?_;rw[eP];generalize (evM x).map byV=X1 at*;generalize (encI x.cuts.length).map byV=X2 at*;exact OJ;intro _ _;clear h6 v c6 eP mM;all_goals conv=>whnf
 refine dJ4 Nat (λg=>mkSt [(1, .box 1 0),(3, .arr 11 g)] [(1,iJ x)] [(11,⟨g, .own,5,(P++cMade.many x.cuts).map byV⟩)]) (λ_=>True) ?_ ?_
 ·repeat' ((conv=>whnf);first|refine zS ?_|refine zm (λx hx=>?_)|refine zT ?_ ?_<;>intro _|fail)
  all_goals conv=>whnf
  refine aU (A:=List Made) (B:=List Made) (λD R=>mkSt [(1, .box 1 0),(6,I D.length),(3, .arr 11 (3*D.length+5))] [(1,iJ x)] [(11,⟨3*D.length+5, .own,5,(P++cMade.many D).map byV⟩)]) (λD R=>x.cuts=D++R) (λD R=>R.length) [] x.cuts ?_ rfl (λD R hp=>?_);have e:P++cMade.many [] =P:=SB _;rw[e];exact zj;cases R with
  |nil=>
   have U:x.cuts.length=D.length:=Ae;have e:P++cMade.many x.cuts=P++cMade.many D:=Bz;rw[e];repeat' ((conv=>whnf);first|omega|refine zS ?_|refine zm (λx hx=>?_)|refine zT ?_ ?_<;>intro _|fail)
   all_goals conv=>whnf
   refine⟨3*D.length+5,?_,trivial⟩;exact zj
  |cons y R=>
   have U:=aO hp;have N:y∈x.cuts:=Ae;obtain⟨_,W,⟨_,y2,_⟩,u⟩:=r6 y N
   have e:(P++cMade.many (D++[y])).map byV=(P++cMade.many D).map byV++(encI y.id).map byV++(encT y.part).map byV++(encI y.size).map byV:=by
    rw[many_next,made_enc,app2 (encI y.id),app2 (encT y.part),<-Sv,<-Sv]
   have hm:=many_split cMade hp
   have M:(cMade.enc y).length=(encI y.id).length+(((encI y.part.size).length+y.part.size)+(encI y.size).length):=by
    rw[made_enc];unfold encT;simp only[Q5,bys_len]
   have ly:(encT y.part).length=(encI y.part.size).length+y.part.size:=AV;have j:=rInt_spec y.id W;have n:=rText_spec y.part Aa;have r:=rInt_spec y.size u;have m0:((P++cMade.many D).map byV).length=P.length+(cMade.many D).length:=CQ;have O:=byL_len (encI y.id);have S:=byL_len (encT y.part);have T:=byL_len (encI y.size);have w:=byV_cells (encI y.id);have C:=byV_cells (encT y.part);have E:=byV_cells (encI y.size);generalize (encI y.id).map byV=Y1 at*;generalize (encT y.part).map byV=Y2 at*;generalize (encI y.size).map byV=Y3 at*;generalize (P++cMade.many D).map byV=X at*;have e3:3*(D.length+1)+5=3*D.length+5+1+1+1:=Aa;repeat' ((conv=>whnf);first|omega|refine aF (l:=x.cuts) (A:=D) (x:=y) (B:=R) hp Aa ?_|refine zc j ?_|refine zc n ?_|refine zc r ?_|refine iH rfl (.inl rfl) rfl (Q9 rfl) w Fq ?_|refine iH rfl (.inl rfl) rfl (Q9 rfl) C BH ?_|refine iH rfl (.inl rfl) rfl (Q9 rfl) E CW ?_|refine zS ?_|refine zm (λx hx=>?_)|refine zT ?_ ?_<;>intro _|fail)
   all_goals conv=>whnf
   refine⟨(D++[y],R),?_,Ae,Af⟩;exact PN
 intro G _;all_goals conv=>whnf
 have h6:Sp 33 [I (x.rests.map bY).length] (.own 5 ((encI x.rests.length).map byV)):=by
  rw[L];exact rInt_spec x.rests.length (w_len Aa)
 have mM:=byL_len (P++cMade.many x.cuts);have ab:(P++cMade.many x.cuts).length=P.length+(cMade.many x.cuts).length:=Q5;have v:=byL_len (encI x.rests.length);have c6:=byV_cells (encI x.rests.length);have hQ:(P++cMade.many x.cuts++encI x.rests.length).length=P.length+(cMade.many x.cuts).length+(encI x.rests.length).length:=by simp only[Q5]
 have eQ:(P++cMade.many x.cuts++encI x.rests.length).map byV=(P++cMade.many x.cuts).map byV++(encI x.rests.length).map byV:=Ti;generalize J:P++cMade.many x.cuts++encI x.rests.length=Q at*;refine dJ4 Unit (λg=>mkSt [(1, .box 1 0),(3, .arr 11 (G+1))] [(1,iJ x)] [(11,⟨G+1, .own,5,Q.map byV⟩)]) (λ_=>True) ?_ ?_;rw[eQ];generalize (P++cMade.many x.cuts).map byV=X1 at*;generalize (encI x.rests.length).map byV=X2 at*;exact OJ;intro _ _;clear h6 mM v c6 eQ;all_goals conv=>whnf
 refine dJ4 Nat (λg=>mkSt [(1, .box 1 0),(3, .arr 11 g)] [(1,iJ x)] [(11,⟨g, .own,5,(Q++cRest.many x.rests).map byV⟩)]) (λ_=>True) ?_ ?_
 ·repeat' ((conv=>whnf);first|refine zS ?_|refine zm (λx hx=>?_)|refine zT ?_ ?_<;>intro _|fail)
  all_goals conv=>whnf
  refine aU (A:=List Rest) (B:=List Rest) (λD R=>mkSt [(1, .box 1 0),(7,I D.length),(3, .arr 11 (5*D.length+(G+1)))] [(1,iJ x)] [(11,⟨5*D.length+(G+1), .own,5,(Q++cRest.many D).map byV⟩)]) (λD R=>x.rests=D++R) (λD R=>R.length) [] x.rests ?_ rfl (λD R hp=>?_);have e:Q++cRest.many [] =Q:=SB _;have e0:5*List.length ([] :List Rest)+(G+1)=G+1:=Af;rw[e,e0];exact zj;cases R with
  |nil=>
   have U:x.rests.length=D.length:=Ae;have e:Q++cRest.many x.rests=Q++cRest.many D:=Bz;rw[e];repeat' ((conv=>whnf);first|omega|refine zS ?_|refine zm (λx hx=>?_)|refine zT ?_ ?_<;>intro _|fail)
   all_goals conv=>whnf
   refine⟨5*D.length+(G+1),?_,trivial⟩;exact zj
  |cons y R=>
   have U:=aO hp;have N:y∈x.rests:=Ae;obtain⟨_,W,⟨⟨y2,u⟩,Y,y5⟩,y6,y7⟩:=r7 y N
   have e:(Q++cRest.many (D++[y])).map byV=(Q++cRest.many D).map byV++(encI y.id).map byV++(cVec.enc y.box.1).map byV++(cVec.enc y.box.2).map byV++(encI y.lo).map byV++(encI y.hi).map byV:=by
    rw[many_next,rest_enc];simp only[Ti,Sv]
   have hm:=many_split cRest hp
   have M:(cRest.enc y).length=(encI y.id).length+(((cVec.enc y.box.1).length+(cVec.enc y.box.2).length)+((encI y.lo).length+(encI y.hi).length)):=by
    rw[rest_enc];simp only[Q5]
   have j:=rInt_spec y.id W;have n:=rVec_spec y.box.1 y2 u;have r:=rVec_spec y.box.2 Y y5;have F:=rInt_spec y.lo y6;have g5:=rInt_spec y.hi y7;have m0:((Q++cRest.many D).map byV).length=Q.length+(cRest.many D).length:=CQ;have O:=byL_len (encI y.id);have S:=byL_len (cVec.enc y.box.1);have T:=byL_len (cVec.enc y.box.2);have m4:=byL_len (encI y.lo);have m5:=byL_len (encI y.hi);have w:=byV_cells (encI y.id);have C:=byV_cells (cVec.enc y.box.1);have E:=byV_cells (cVec.enc y.box.2);have d4:=byV_cells (encI y.lo);have d5:=byV_cells (encI y.hi);generalize (encI y.id).map byV=Y1 at*;generalize (cVec.enc y.box.1).map byV=Y2 at*;generalize (cVec.enc y.box.2).map byV=Y3 at*;generalize (encI y.lo).map byV=Y4 at*;generalize (encI y.hi).map byV=Y5 at*;generalize (Q++cRest.many D).map byV=X at*;have e3:5*(D.length+1)+(G+1)=5*D.length+(G+1)+1+1+1+1+1:=Aa;repeat' ((conv=>whnf);first|omega|refine cC0 [(8,8),(106,8),(107,8),(111,8),(112,8),(117,8),(121,8)] Ad Ak ?_|refine aF (l:=x.rests) (A:=D) (x:=y) (B:=R) hp Aa ?_|refine zc j ?_|refine zc n ?_|refine zc r ?_|refine zc F ?_|refine zc g5 ?_|refine iH rfl (.inl rfl) rfl (Q9 rfl) w Fq ?_|refine iH rfl (.inl rfl) rfl (Q9 rfl) C BH ?_|refine iH rfl (.inl rfl) rfl (Q9 rfl) E CW ?_|refine iH rfl (.inl rfl) rfl (Q9 rfl) d4 (by show(X++Y1++Y2++Y3).length+Y4.length<=_;simp only[Q5];omega) ?_|refine iH rfl (.inl rfl) rfl (Q9 rfl) d5 (by show(X++Y1++Y2++Y3++Y4).length+Y5.length<=_;simp only[Q5];omega) ?_|refine zS ?_|refine zm (λx hx=>?_)|refine zT ?_ ?_<;>intro _|fail)
   all_goals conv=>whnf
   refine⟨(D++[y],R),?_,Ae,Af⟩;exact PN
 intro G2 _;all_goals conv=>whnf
 have h7:=rInt_spec x.scrap r8;have eZ:(P++cMade.many x.cuts++encI x.rests.length++cRest.many x.rests++encI x.scrap).map byV=(Q++cRest.many x.rests).map byV++(encI x.scrap).map byV:=by rw[J,app2 _ (encI x.scrap)]
 have eZ2:(Q++cRest.many x.rests++encI x.scrap).map byV=(Q++cRest.many x.rests).map byV++(encI x.scrap).map byV:=app2 _ _;have mM:((Q++cRest.many x.rests).map byV).length=Q.length+(cRest.many x.rests).length:=CQ;have v:=byL_len (encI x.scrap);have c6:=byV_cells (encI x.scrap);first|rw[eZ] |rw[eZ2]
 generalize (Q++cRest.many x.rests).map byV=X1 at*;generalize (encI x.scrap).map byV=X2 at*;repeat' ((conv=>whnf);first|refine zc h7 ?_|refine iH rfl (.inl rfl) rfl (Q9 rfl) c6 Bf ?_|refine zS ?_|refine zm (λx hx=>?_)|refine zT ?_ ?_<;>intro _|fail)
 all_goals exact zE
end Go.Proofs.Led
