/- Lemmas. -/
import Derived.Test.YtcmgfjaiegpddaaGreatB36
import Derived.Test.YtcmgfjaiegpddaaGreatB22
set_option linter.all false
set_option maxRecDepth 100000
set_option maxHeartbeats 8000000
noncomputable section
namespace Go.Proofs.Led
open Go Go.Proofs Go.Ab
def shE(x:Event):List Int:=optE cSheet dN x.sheet
def brE(x:Event):List Int:=optE cBar bar0 x.bar
def evH(x:Event):List Int:=encI x.kind++encI x.id++encT x.text
def evM(x:Event):List Int:=evH x++(encI (shE x).length++shE x)++(encI (brE x).length++brE x)
theorem ev_enc(m:Int)(x:Event):(cEvent m).enc x=evM x++encI x.cuts.length++cMade.many x.cuts++encI x.rests.length++cRest.many x.rests++encI x.scrap:=by
 have:(cEvent m).enc x=encI x.kind++(encI x.id++((cText 16).enc x.text++((cBytes m).enc (shE x)++((cBytes m).enc (brE x)++((encI x.cuts.length++cMade.many x.cuts)++((encI x.rests.length++cRest.many x.rests)++encI x.scrap)))))):=rfl;rw[this,cText_enc,cBytes_enc,cBytes_enc];unfold evM evH encT;simp only[Pq]
theorem made_enc(x:Made):cMade.enc x=encI x.id++(encT x.part++encI x.size):=by
 show encI x.id++((cText 16).enc x.part++encI x.size)=_;rw[cText_enc];rfl
theorem rest_enc(x:Rest):cRest.enc x=encI x.id++((cVec.enc x.box.1++cVec.enc x.box.2)++(encI x.lo++encI x.hi)):=rfl
def made_pos(x:Made):1<=(cMade.enc x).length:=by
 have:=encI_pos x.id;rw[made_enc,OY];omega
def rest_pos(x:Rest):1<=(cRest.enc x).length:=by
 have:=encI_pos x.id;rw[rest_enc,OY];omega
abbrev nilS:V:= .lit (.slice none 0 0)
def NilOr(l:List Int)(c:V):Prop:=(c=nilS/\l=[])\/c= .sl (l.map byV)
def encEvent_spec(x:Event)(m:Int)(he:iY x)(hr:(cEvent m).rng x)(hb:((cEvent m).enc x).length<=100000000):Sp 7 [aS x] (.own 5 (((cEvent m).enc x).map byV)):=by
 refine zsp Tryz.func7 ?_;obtain⟨_,r1,r2,⟨_,r3,_⟩,⟨r4,_⟩,⟨r5,_⟩,⟨_,r6⟩,⟨_,r7⟩,r8⟩:=hr;have w:(x.cuts.map dK).length=x.cuts.length:=Af;have C:(x.rests.map bY).length=x.rests.length:=Af;have lc:=many_len cMade made_pos x.cuts;have lr:=many_len cRest rest_pos x.rests;have r:=bM6 x.sheet;have s:=cV3 x.bar;rw[ev_enc]at hb⊢
 have hM:(evM x).length=(encI x.kind).length+(encI x.id).length+((encI x.text.size).length+x.text.size)+((encI (shE x).length).length+(shE x).length)+((encI (brE x).length).length+(brE x).length):=by
  unfold evM evH encT;simp only[OY,bys_len]
 simp only[OY]at hb;have hS:¬pJ x.sheet->shE x=cSheet.enc x.sheet:=λh=>optE_f (λe=>h (no_sheet.2 e));have hB:¬yT x.bar->brE x=cBar.enc x.bar:=λh=>optE_f (λe=>h (no_bar.2 e));have X:pJ x.sheet->shE x=[] :=λh=>optE_t (no_sheet.1 h);have W:yT x.bar->brE x=[] :=λh=>optE_t (no_bar.1 h);generalize ab:pJ x.sheet=Ps at*;generalize aa:yT x.bar=Pb at*;all_goals conv=>whnf
 refine eY7 ?_;repeat' ((conv=>whnf);first|omega|refine zU ?_|refine zd (λi=>?_) (λi=>?_)|refine zl (λf=>?_) (λf=>?_)|refine zk (λd=>?_) (λd=>?_)|refine ze (λb=>?_) (λb=>?_)|refine zm (λx j=>?_)|refine zb (λa=>?_) (λa=>?_))
 refine eY7 ?_;repeat' ((conv=>whnf);first|omega|refine zU ?_|refine zd (λi=>?_) (λi=>?_)|refine zl (λf=>?_) (λf=>?_)|refine zk (λd=>?_) (λd=>?_)|refine ze (λb=>?_) (λb=>?_)|refine zm (λx j=>?_)|refine zb (λa=>?_) (λa=>?_))
 all_goals conv=>whnf
 refine dJ4 V (λc=>mkSt [(1, .box 1 0),(3,c),(4,nilS)] [(1,iJ x)] []) (NilOr (shE x)) ?_ ?_
 ·by_cases hp:Ps
  ·repeat' ((conv=>whnf);first|(exfalso;contradiction)|refine zS ?_|refine zd (λi=>?_) (λi=>?_)|refine zl (λf=>?_) (λf=>?_)|refine zk (λd=>?_) (λd=>?_)|refine ze (λb=>?_) (λb=>?_)|refine zm (λx j=>?_)|refine zb (λa=>?_) (λa=>?_))
   all_goals conv=>whnf
   refine⟨nilS,?_, .inl ⟨rfl,X hp⟩⟩;exact zj
  have t:=encSheet_spec x.sheet r4 (by rw[<-hS hp];omega);repeat' ((conv=>whnf);first|(exfalso;contradiction)|refine zS ?_|refine zd (λi=>?_) (λi=>?_)|refine zl (λf=>?_) (λf=>?_)|refine zk (λd=>?_) (λd=>?_)|refine ze (λb=>?_) (λb=>?_)|refine zm (λx j=>?_)|refine zb (λa=>?_) (λa=>?_))
  all_goals conv=>whnf
  refine⟨.sl ((shE x).map byV),?_, .inr rfl⟩;rw[hS hp];refine Le.trans (fB (k:=16) rfl (.inl rfl)) ?_;exact zj
 intro J l;all_goals conv=>whnf
 refine dJ4 V (λc=>mkSt [(1, .box 1 0),(3,J),(4,c)] [(1,iJ x)] []) (NilOr (brE x)) ?_ ?_
 ·by_cases hp:Pb
  ·repeat' ((conv=>whnf);first|(exfalso;contradiction)|refine zS ?_|refine zd (λi=>?_) (λi=>?_)|refine zl (λf=>?_) (λf=>?_)|refine zk (λd=>?_) (λd=>?_)|refine ze (λb=>?_) (λb=>?_)|refine zm (λx j=>?_)|refine zb (λa=>?_) (λa=>?_))
   all_goals conv=>whnf
   rcases l with⟨n,_⟩|n;all_goals subst n
   all_goals refine⟨nilS,?_, .inl ⟨rfl,W hp⟩⟩
   all_goals refine dV ?_ ?_ ?_ ?_
   all_goals repeat' (first|exact trivial|refine And.intro ?_ ?_|with_reducible rfl|exact(λh=>Ag)|exact Po _|omega|exact rfl)
  have g4:=encBar_spec x.bar r5 (by rw[<-hB hp];omega);repeat' ((conv=>whnf);first|(exfalso;contradiction)|refine zS ?_|refine zd (λi=>?_) (λi=>?_)|refine zl (λf=>?_) (λf=>?_)|refine zk (λd=>?_) (λd=>?_)|refine ze (λb=>?_) (λb=>?_)|refine zm (λx j=>?_)|refine zb (λa=>?_) (λa=>?_))
  all_goals conv=>whnf
  rcases l with⟨n,_⟩|n;all_goals subst n
  all_goals refine⟨.sl ((brE x).map byV),?_, .inr rfl⟩
  all_goals rw[hB hp]
  all_goals refine Le.trans (fB (k:=23) rfl (.inl rfl)) ?_
  all_goals refine dV ?_ ?_ ?_ ?_
  all_goals repeat' (first|exact trivial|refine And.intro ?_ ?_|with_reducible rfl|exact(λh=>Ag)|exact Po _|omega|exact rfl)
 intro O o;all_goals conv=>whnf
 have l1:=enc_len9 x.kind;have l2:=enc_len9 x.id;have L:=wInt_spec [] x.kind r1 Af;have T:=wInt_spec (encI x.kind) x.id r2 Aa;have n:=wText_spec (encI x.kind++encI x.id) x.text AA Aa;have K:evH x=encI x.kind++encI x.id++(encI x.text.size++bys x.text):=rfl
 have hH:(evH x).length=(encI x.kind).length+(encI x.id).length+((encI x.text.size).length+x.text.size):=by
  rw[K];simp only[OY,bys_len]
 rw[<-K]at n;rw[Rh]at L;have U:=wBytes_spec (evH x) (shE x) Aa Aa;have M:=wBytes_spec (evH x++(encI (shE x).length++shE x)) (brE x) Bv Aa;have S:evM x=evH x++(encI (shE x).length++shE x)++(encI (brE x).length++brE x):=rfl;rw[<-S]at M
 have N:Sp 30 [.own 5 ((evM x).map byV),I (x.cuts.map dK).length] (.own 5 ((evM x++encI x.cuts.length).map byV)):=by
  rw[w];exact wInt_spec _ x.cuts.length (w_len Aa) Aa
 refine dJ4 Unit (λ_=>mkSt [(1, .box 1 0),(5, .arr 26 2),(3,J),(4,O)] [(1,iJ x)] [(26,⟨2, .own,5,(evH x).map byV⟩)]) (λ_=>True) ?_ ?_
 ·clear U M N K S
  generalize (evH x).map byV=X3 at*;generalize (encI x.kind++encI x.id).map byV=X2 at*;generalize (encI x.kind).map byV=X1 at*;rcases l with⟨F,_⟩|F;all_goals rcases o with⟨H,_⟩|H
  all_goals subst F H
  all_goals repeat' ((conv=>whnf);first|refine bW8 [(1,1),(24,1),(27,1),(30,1)] [(26,[]),(29,[]),(32,[])] Ae Ak ?_|(refine fC9 (xX L) [] rfl ⟨⟨⟨OZ Ac,rfl⟩,rfl,trivial⟩,trivial⟩ rfl ?_)|refine zh (xX T) [] ?_|refine zh (xX n) [] ?_|refine zS ?_|refine zd (λi=>?_) (λi=>?_)|refine zl (λf=>?_) (λf=>?_)|refine zk (λd=>?_) (λd=>?_)|refine ze (λb=>?_) (λb=>?_)|refine zm (λx j=>?_)|refine zb (λa=>?_) (λa=>?_))
  all_goals conv=>whnf
  all_goals refine⟨(),?_,trivial⟩
  all_goals refine dV ?_ ?_ ?_ ?_
  all_goals repeat' (first|exact trivial|refine And.intro ?_ ?_|with_reducible rfl|exact(λh=>Ag)|exact Po _|omega|exact rfl)
 intro _ _;all_goals conv=>whnf
 refine dJ4 Unit (λ_=>mkSt [(1, .box 1 0),(5, .arr 26 5)] [(1,iJ x)] [(26,⟨5, .own,5,(evM x++encI x.cuts.length).map byV⟩)]) (λ_=>True) ?_ ?_
 ·have u:(J=nilS/\(shE x).map byV=[])\/J= .sl ((shE x).map byV):=by
   rcases l with⟨z,y⟩|z;exact .inl ⟨z,by rw[y];rfl⟩;exact .inr z
  have v:(O=nilS/\(brE x).map byV=[])\/O= .sl ((brE x).map byV):=by
   rcases o with⟨z,y⟩|z;exact .inl ⟨z,by rw[y];rfl⟩;exact .inr z
  clear l o L T n K S;generalize (evM x++encI x.cuts.length).map byV=X6 at*;generalize (evM x).map byV=X5 at*;generalize (evH x++(encI (shE x).length++shE x)).map byV=X4 at*;generalize (evH x).map byV=X3 at*;generalize (shE x).map byV=L3 at*;generalize (brE x).map byV=L4 at*;rcases u with⟨F,E⟩|F;all_goals rcases v with⟨H,y4⟩|H
  all_goals subst F H
  all_goals first|subst E|skip
  all_goals first|subst y4|skip
  all_goals repeat' ((conv=>whnf);first|refine bW8 [(1,1),(38,1)] [(35,[]),(37,[]),(41,[])] Ae Ak ?_|refine zh (xX U) [] ?_|refine zh (xX M) [] ?_|refine zh (xX N) [] ?_|refine zS ?_|refine zd (λi=>?_) (λi=>?_)|refine zl (λf=>?_) (λf=>?_)|refine zk (λd=>?_) (λd=>?_)|refine ze (λb=>?_) (λb=>?_)|refine zm (λx j=>?_)|refine zb (λa=>?_) (λa=>?_))
  all_goals conv=>whnf
  all_goals refine⟨(),?_,trivial⟩
  all_goals refine dV ?_ ?_ ?_ ?_
  all_goals repeat' (first|exact trivial|refine And.intro ?_ ?_|with_reducible rfl|exact(λh=>Ag)|exact Po _|omega|exact rfl)
 intro _ _;all_goals conv=>whnf
 clear L T n U M N l o r s;have hP:(evM x++encI x.cuts.length).length=(evM x).length+(encI x.cuts.length).length:=OY;generalize evM x++encI x.cuts.length=P at*;refine dJ4 Nat (λg=>mkSt [(1, .box 1 0),(5, .arr 26 g)] [(1,iJ x)] [(26,⟨g, .own,5,(P++cMade.many x.cuts).map byV⟩)]) (λ_=>True) ?_ ?_
 ·repeat' ((conv=>whnf);first|refine zS ?_|refine zd (λi=>?_) (λi=>?_)|refine zl (λf=>?_) (λf=>?_)|refine zk (λd=>?_) (λd=>?_)|refine ze (λb=>?_) (λb=>?_)|refine zm (λx j=>?_)|refine zb (λa=>?_) (λa=>?_))
  all_goals conv=>whnf
  refine aU (A:=List Made) (B:=List Made) (λD R=>mkSt [(1, .box 1 0),(43, .sl (x.cuts.map dK)),(44,I x.cuts.length),(45,I D.length),(5, .arr 26 (3*D.length+5))] [(1,iJ x)] [(26,⟨3*D.length+5, .own,5,(P++cMade.many D).map byV⟩)]) (λD R=>x.cuts=D++R) (λD R=>R.length) [] x.cuts ?_ rfl (λD R hp=>?_);have e:P++cMade.many [] =P:=Pz _;rw[e,<-w];exact zj;cases R with
  |nil=>
   have q2:x.cuts.length=D.length:=Ad;have e:P++cMade.many x.cuts=P++cMade.many D:=C9;rw[e];repeat' ((conv=>whnf);first|omega|refine zS ?_|refine zd (λi=>?_) (λi=>?_)|refine zl (λf=>?_) (λf=>?_)|refine zk (λd=>?_) (λd=>?_)|refine ze (λb=>?_) (λb=>?_)|refine zm (λx j=>?_)|refine zb (λa=>?_) (λa=>?_))
   all_goals conv=>whnf
   refine⟨3*D.length+5,?_,trivial⟩;exact zj
  |cons y R=>
   have q2:=aO hp;have Z:y∈x.cuts:=Ad;obtain⟨_,y1,⟨_,y2,_⟩,E⟩:=r6 y Z
   have e:P++cMade.many (D++[y])=P++cMade.many D++encI y.id++(encI y.part.size++bys y.part)++encI y.size:=by
    rw[many_app,many_one,made_enc];unfold encT;simp only[Pq]
   have a:(P++cMade.many D).length+((encI y.id).length+((encI y.part.size).length+y.part.size)+(encI y.size).length)<=200000000:=by
    have Y:cMade.many x.cuts=cMade.many D++((encI y.id++(encT y.part++encI y.size))++cMade.many R):=by rw[hp,many_app,<-made_enc];rfl
    have q:=PN List.length Y;unfold encT at q;simp only[OY,bys_len]at q;rw[OY];omega
   have r:=wInt_spec (P++cMade.many D) y.id y1 Aa;have s:=wText_spec (P++cMade.many D++encI y.id) y.part AA Aa;have t:=wInt_spec (P++cMade.many D++encI y.id++(encI y.part.size++bys y.part)) y.size E (by simp only[OY,bys_len]at a⊢;omega);rw[<-e]at t;generalize (P++cMade.many D++encI y.id++(encI y.part.size++bys y.part)).map byV=Y2 at*;generalize (P++cMade.many D++encI y.id).map byV=Y1 at*;have e3:3*(D.length+1)+5=3*D.length+5+1+1+1:=Aa;repeat' ((conv=>whnf);first|omega|refine bW8 [(7,7),(50,7),(53,7),(56,7)] [(52,[]),(55,[]),(58,[])] Ae Ak ?_|refine zh (xX r) [] ?_|refine zh (xX s) [] ?_|refine zh (xX t) [] ?_|refine zS ?_|refine zd (λi=>?_) (λi=>?_)|refine zl (λf=>?_) (λf=>?_)|refine zk (λd=>?_) (λd=>?_)|refine ze (λb=>?_) (λb=>?_)|refine zm (λx j=>?_)|refine zb (λa=>?_) (λa=>?_))
   all_goals conv=>whnf
   refine⟨(D++[y],R),?_,Ad,Af⟩;exact Ny
 intro G _;all_goals conv=>whnf
 have N:Sp 30 [.own 5 ((P++cMade.many x.cuts).map byV),I (x.rests.map bY).length] (.own 5 ((P++cMade.many x.cuts++encI x.rests.length).map byV)):=by
  rw[C];exact wInt_spec _ x.rests.length (w_len Aa) AA
 have hQ:(P++cMade.many x.cuts++encI x.rests.length).length=P.length+(cMade.many x.cuts).length+(encI x.rests.length).length:=by simp only[OY]
 generalize ac:P++cMade.many x.cuts++encI x.rests.length=Q at*;generalize hX:(P++cMade.many x.cuts).map byV=X6 at*;refine dJ4 Unit (λg=>mkSt [(1, .box 1 0),(5, .arr 26 (G+1))] [(1,iJ x)] [(26,⟨G+1, .own,5,Q.map byV⟩)]) (λ_=>True) ?_ ?_
 ·repeat' ((conv=>whnf);first|refine zS ?_|refine zd (λi=>?_) (λi=>?_)|refine zl (λf=>?_) (λf=>?_)|refine zk (λd=>?_) (λd=>?_)|refine ze (λb=>?_) (λb=>?_)|refine zm (λx j=>?_)|refine zb (λa=>?_) (λa=>?_))
  all_goals conv=>whnf
  refine⟨(),?_,trivial⟩;exact zj
 intro _ _;all_goals conv=>whnf
 refine dJ4 Nat (λg=>mkSt [(1, .box 1 0),(5, .arr 26 g)] [(1,iJ x)] [(26,⟨g, .own,5,(Q++cRest.many x.rests).map byV⟩)]) (λ_=>True) ?_ ?_
 ·repeat' ((conv=>whnf);first|refine zS ?_|refine zd (λi=>?_) (λi=>?_)|refine zl (λf=>?_) (λf=>?_)|refine zk (λd=>?_) (λd=>?_)|refine ze (λb=>?_) (λb=>?_)|refine zm (λx j=>?_)|refine zb (λa=>?_) (λa=>?_))
  all_goals conv=>whnf
  refine aU (A:=List Rest) (B:=List Rest) (λD R=>mkSt [(1, .box 1 0),(66, .sl (x.rests.map bY)),(67,I x.rests.length),(68,I D.length),(5, .arr 26 (5*D.length+(G+1)))] [(1,iJ x)] [(26,⟨5*D.length+(G+1), .own,5,(Q++cRest.many D).map byV⟩)]) (λD R=>x.rests=D++R) (λD R=>R.length) [] x.rests ?_ rfl (λD R hp=>?_);have e:Q++cRest.many [] =Q:=Pz _;have e0:5*List.length ([] :List Rest)+(G+1)=G+1:=Af;rw[e,<-C,e0];exact zj;cases R with
  |nil=>
   have q2:x.rests.length=D.length:=Ad;have e:Q++cRest.many x.rests=Q++cRest.many D:=C9;rw[e];repeat' ((conv=>whnf);first|omega|refine zS ?_|refine zd (λi=>?_) (λi=>?_)|refine zl (λf=>?_) (λf=>?_)|refine zk (λd=>?_) (λd=>?_)|refine ze (λb=>?_) (λb=>?_)|refine zm (λx j=>?_)|refine zb (λa=>?_) (λa=>?_))
   all_goals conv=>whnf
   refine⟨5*D.length+(G+1),?_,trivial⟩;exact zj
  |cons y R=>
   have q2:=aO hp;have Z:y∈x.rests:=Ad;obtain⟨_,y1,⟨⟨y2,E⟩,y4,y5⟩,y6,y7⟩:=r7 y Z
   have e:Q++cRest.many (D++[y])=Q++cRest.many D++encI y.id++cVec.enc y.box.1++cVec.enc y.box.2++encI y.lo++encI y.hi:=by
    rw[many_app,many_one,rest_enc];simp only[Pq]
   have a:(Q++cRest.many D).length+((encI y.id).length+(cVec.enc y.box.1).length+(cVec.enc y.box.2).length+(encI y.lo).length+(encI y.hi).length)<=200000000:=by
    have Y:cRest.many x.rests=cRest.many D++((encI y.id++((cVec.enc y.box.1++cVec.enc y.box.2)++(encI y.lo++encI y.hi)))++cRest.many R):=by rw[hp,many_app,<-rest_enc];rfl
    have q:=PN List.length Y;simp only[OY]at q;rw[OY];omega
   have r:=wInt_spec (Q++cRest.many D) y.id y1 Aa;have s:=wVec_spec (Q++cRest.many D++encI y.id) y.box.1 y2 E BR;have t:=wVec_spec (Q++cRest.many D++encI y.id++cVec.enc y.box.1) y.box.2 y4 y5 BR;have g4:=wInt_spec (Q++cRest.many D++encI y.id++cVec.enc y.box.1++cVec.enc y.box.2) y.lo y6 BR;have g5:=wInt_spec (Q++cRest.many D++encI y.id++cVec.enc y.box.1++cVec.enc y.box.2++encI y.lo) y.hi y7 BR;rw[<-e]at g5;generalize (Q++cRest.many D++encI y.id++cVec.enc y.box.1++cVec.enc y.box.2++encI y.lo).map byV=Y4 at*;generalize (Q++cRest.many D++encI y.id++cVec.enc y.box.1++cVec.enc y.box.2).map byV=Y3 at*;generalize (Q++cRest.many D++encI y.id++cVec.enc y.box.1).map byV=Y2 at*;generalize (Q++cRest.many D++encI y.id).map byV=Y1 at*;have e3:5*(D.length+1)+(G+1)=5*D.length+(G+1)+1+1+1+1+1:=Aa;repeat' ((conv=>whnf);first|omega|refine bW8 [(9,9),(73,9),(76,9),(77,9),(80,9),(81,9),(85,9),(88,9)] [(75,[]),(79,[]),(83,[]),(87,[]),(90,[])] Ae Ak ?_|refine zh (xX r) [] ?_|refine zh (xX s) [] ?_|refine zh (xX t) [] ?_|refine zh (xX g4) [] ?_|refine zh (xX g5) [] ?_|refine zS ?_|refine zd (λi=>?_) (λi=>?_)|refine zl (λf=>?_) (λf=>?_)|refine zk (λd=>?_) (λd=>?_)|refine ze (λb=>?_) (λb=>?_)|refine zm (λx j=>?_)|refine zb (λa=>?_) (λa=>?_))
   all_goals conv=>whnf
   refine⟨(D++[y],R),?_,Ad,Af⟩;exact Ny
 intro G2 _;all_goals conv=>whnf
 have h7:=wInt_spec (Q++cRest.many x.rests) x.scrap r8 AA;have e:P++cMade.many x.cuts++encI x.rests.length=Q:=Ah;repeat' ((conv=>whnf);first|refine zS ?_|refine zd (λi=>?_) (λi=>?_)|refine zl (λf=>?_) (λf=>?_)|refine zk (λd=>?_) (λd=>?_)|refine ze (λb=>?_) (λb=>?_)|refine zm (λx j=>?_)|refine zb (λa=>?_) (λa=>?_))
 all_goals exact zE
end Go.Proofs.Led
