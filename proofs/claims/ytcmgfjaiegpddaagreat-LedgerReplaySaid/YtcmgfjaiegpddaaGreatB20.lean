/- Lemmas. -/
import Derived.Test.YtcmgfjaiegpddaaGreatB16
set_option linter.all false
set_option maxRecDepth 100000
set_option maxHeartbeats 8000000
noncomputable section
namespace Go.Proofs.Led
open Go Go.Proofs Go.Ab
def fO(e:Event):List Int:=e.cuts.map Made.id++e.rests.map Rest.id
def sub1(n c:Int):Int:=W (n-minI c (W (n+1)))
def subL(n:Int)(l:List Int):Int:=l.foldl sub1 n
def bQ6(n:Int)(D:List Int)(c:Int):subL n (D++[c])=sub1 (subL n D) c:=by unfold subL;simp
def nJ(old:aN)(e:Event):Int:=subL (subL (gG old) (e.cuts.map Made.size)) ((eG old e.rests).map gG)
def fZ(e:Event)(old:aN)(c:Made):Piece:=⟨c.id,e.id,c.part,if old.isBar then old.bar.grade else old.sheet.grade,if old.isBar then old.bar.heat else old.sheet.heat,c.size,old.isBar,1,aI⟩
def putP(l:List Piece)(x:Piece):List Piece:=putAt l (bs Piece.id l x.id) x
def cut1(s:aJ)(e:Event):aJ:={s with used:=cO s.used (fO e)}
def cut2(s:aJ)(e:Event)(k:Nat):aJ:={cut1 s e with stocks:=nN s.stocks k}
def cut3(s:aJ)(e:Event)(k:Nat)(l:List aN):aJ:={cut2 s e k with stocks:=l.foldl putS (nN s.stocks k)}
def cut4(s:aJ)(e:Event)(k:Nat)(old:aN)(l:List aN)(c:List Made):aJ:={cut3 s e k l with pieces:=c.foldl (λp x=>putP p (fZ e old x)) s.pieces}
def cut5(s:aJ)(e:Event)(k:Nat)(old:aN):aJ:={cut4 s e k old (eG old e.rests) e.cuts with scrap:=plus old.isBar s.scrap e.scrap}
def eL3(s:aJ)(e:Event)(k:Nat)(r:Int)(bs':List (List V)):Prop:=
 (¬dP s.used (fO e)/\r=7/\bs'=[bots])\/
 (dP s.used (fO e)/\((¬(∃m∈s.stocks,sid m=e.id)/\r=8/\bs'=[bots])\/
  ∃m,(∃m∈s.stocks,sid m=e.id)/\s.stocks[k]? =some m/\((m.program=aI/\r=10/\bs'=[bots])\/
   (m.program≠aI/\eY m/\((cZ m [] e.rests≠0/\r=cZ m [] e.rests/\bs'=[bots])\/
     (cZ m [] e.rests=0/\(∀x∈eG m e.rests,eY x)/\(eG m e.rests).length<=1000000/\((nJ m e≠e.scrap/\r=29/\bs'=[bots])\/
      (nJ m e=e.scrap/\(∀D R,eG m e.rests=D++R->Gd (cut3 s e k D))/\(∀D R,e.cuts=D++R->Gd (cut4 s e k m (eG m e.rests) D))/\r=0/\bs'=[stC (cut5 s e k m)]))))))))
def aA8:∀(ids used:List Int),(used.map id).Pairwise (·<·)->dP used ids->((cO used ids).map id).Pairwise (·<·)/\(cO used ids).length=used.length+ids.length
 | [],used,h,_=>⟨h,rfl⟩
 |n::r,used,h,⟨a,b⟩=>by
  obtain⟨c,d⟩:=aA8 r (putN used n) (rF h a) b;refine⟨c,?_⟩;show(cO (putN used n) r).length=_;grind [mQ,PE,putN]
def eQ6{s:aJ}{e:Event}(a:Gd s)(b:s.used.length+(fO e).length<=1000000)(h:dP s.used (fO e)):Gd (cut1 s e):=by
 obtain⟨c,d⟩:=aA8 _ _ a.su h;exact⟨a.ls,a.lp,by show(cO s.used (fO e)).length<=_;rw[d];exact b,a.ss,a.sp,c⟩
def stB3(s:aJ)(a b c:Nat):List V:=[.arr 100000 a, .arr 100001 b, .arr 100002 c,I s.received.1,I s.received.2,I s.scrap.1,I s.scrap.2]
def stA3(s:aJ)(a b c:Nat):List (Nat×AE):=[(100000,⟨a, .own,90,s.stocks.map aQ⟩),(100001,⟨b, .own,127,s.pieces.map aZ⟩),(100002,⟨c, .own,3,s.used.map I⟩)]
def eX3(s:aJ)(e:Event){r:Int}{u:List (List V)}(N:Gd s)(he:iY e)(X:s.used.length+(fO e).length<=1000000)(i:eL3 s e (bs sid s.stocks e.id) r u):
 jR T Tryz.prog Tryz.f72 [.box 100000 0,aS e] [stC s] (I r) u:=by
 have hc:=he.ct;have ab:=he.rs;have hm1:(e.cuts.map dK).length=e.cuts.length:=Af;have Z:(e.rests.map bY).length=e.rests.length:=Af;repeat' ((conv=>whnf);first|refine zS ?_|fail)
 refine aU (A:=List Made) (B:=List Made) (λD R=>mkSt [(0, .box 100000 0),(3, .box 3 0),(5, .arr 40 D.length),(30, .sl (e.cuts.map dK)),(31,I e.cuts.length),(32,I D.length)] [(100000,stB s 0),(3,iJ e)] ((40,⟨D.length, .own,3,(D.map Made.id).map I⟩)::stA s s.used 0)) (λD R=>e.cuts=D++R) (λD R=>R.length) [] e.cuts ?_ rfl (λD R hp=>?_)
 ·exact I4
 cases R with
 |cons c R=>
  have y:=aO hp;have af:((D++[c]).length:Int)=(D.length:Int)+1:=Af;have O:((D.map Made.id).map I).length=D.length:=Af;repeat' ((conv=>whnf);first|omega|refine iH rfl (.inl rfl) rfl (OZ rfl) (dA rfl) (show((D.map Made.id).map I).length+1<=1000000000 from Aa) ?_|refine zS ?_|refine zT ?_ ?_<;>intro _|fail)
  all_goals conv=>whnf
  refine⟨(D++[c],R),?_,Ad,Af⟩;simp only[OY,PL,Qa,PW,QC];exact zj
 |nil=>
  have y:e.cuts.length=D.length:=Ad;have eD:e.cuts=D:=Ad;have O:((D.map Made.id).map I).length=D.length:=Af;have j:fO e=D.map Made.id++e.rests.map Rest.id:=by unfold fO;rw[eD]
  clear hp;repeat' ((conv=>whnf);first|omega|refine zS ?_|refine zT ?_ ?_<;>intro _|fail)
  refine aU (A:=List Rest) (B:=List Rest) (λE R=>mkSt [(0, .box 100000 0),(3, .box 3 0),(5, .arr 40 (D.length+E.length)),(43, .sl (e.rests.map bY)),(44,I e.rests.length),(45,I E.length)] [(100000,stB s 0),(3,iJ e)] ((40,⟨D.length+E.length, .own,3,(D.map Made.id++E.map Rest.id).map I⟩)::stA s s.used 0)) (λE R=>e.rests=E++R) (λE R=>R.length) [] e.rests ?_ rfl (λE R hp=>?_)
  ·simp only[QC,Pz,SE,Rq]
   refine dV ?_ ?_ ?_ ?_;all_goals repeat' (first|exact trivial|refine And.intro ?_ ?_|with_reducible rfl|exact(λh=>Ag)|exact Po _|omega|exact rfl)
   all_goals (try rw[Z])
  cases R with
  |cons c R=>
   have n:=aO hp;have ag:((E++[c]).length:Int)=(E.length:Int)+1:=Af;have ae:((D.map Made.id++E.map Rest.id).map I).length=D.length+E.length:=Af;repeat' ((conv=>whnf);first|omega|refine iH rfl (.inl rfl) rfl (OZ rfl) (dA rfl) (show((D.map Made.id++E.map Rest.id).map I).length+1<=1000000000 from Aa) ?_|refine zS ?_|refine zT ?_ ?_<;>intro _|fail)
   all_goals conv=>whnf
   refine⟨(E++[c],R),?_,Ad,Af⟩;simp only[OY,PL,Qa,PW,QC,<-Pq];exact zj
  |nil=>
   have n:e.rests.length=E.length:=Ad;have eE:e.rests=E:=Ad;rw[eE]at j;rw[<-j];have hk:=bQ8 sid s.stocks e.id;have ah:(s.stocks.map aQ).length=s.stocks.length:=Af;have aj:=N.ls;rcases i with⟨G,rfl,rfl⟩|⟨K,i⟩
   ·have l:=aU4 s (fO e) N X G
    repeat' ((conv=>whnf);first|omega|refine zh (l) [100000] ?_|refine zS ?_|refine zT ?_ ?_<;>intro _|fail)
    all_goals conv=>whnf
    all_goals first|exact⟨_,rfl,zc1⟩|exact zc1
   have l:=aT7 s (fO e) N X K;have v:=find_spec (cut1 s e) e.id (eQ6 N X K);change SpB _ _ _ _ [stC (cut1 s e)]at l;change SpB _ _ [stC (cut1 s e)] (.tup [I (bs sid s.stocks e.id),DB (∃m∈s.stocks,sid m=e.id)]) [stC (cut1 s e)]at v;generalize bs sid s.stocks e.id=k at*;generalize (∃m∈s.stocks,sid m=e.id)=P at*;rcases i with⟨G,rfl,rfl⟩|⟨m,hP,hm,i⟩
   ·repeat' ((conv=>whnf);first|(exfalso;contradiction)|omega|refine zh (l) [100000] ?_|refine zh (v) [100000] ?_|refine zS ?_|refine zT ?_ ?_<;>intro _|fail)
    all_goals conv=>whnf
    all_goals first|exact⟨_,rfl,zc1⟩|exact zc1
   have W:=(Pg.1 hm).1;rcases i with⟨aa,rfl,rfl⟩|⟨aa,C,i⟩
   ·repeat' ((conv=>whnf);first|(exfalso;contradiction)|omega|refine jI (λf=>?_) (λf=>?_)|refine zh (l) [100000] ?_|refine zh (v) [100000] ?_|refine dS rfl rfl Am ?_|refine zS ?_|refine zT ?_ ?_<;>intro _|fail)
    all_goals conv=>whnf
    all_goals first|exact⟨_,rfl,zc1⟩|exact zc1
   have f3:=cU2 m e C ab;have f4:=vF m C;rcases i with⟨L,rfl,rfl⟩|⟨L,Y,ai,i⟩
   ·generalize cZ m [] e.rests=RE at*
    generalize eG m e.rests=RL at*;repeat' ((conv=>whnf);first|(exfalso;contradiction)|omega|refine jI (λf=>?_) (λf=>?_)|refine zh (l) [100000] ?_|refine zh (v) [100000] ?_|refine dS rfl rfl Am ?_|refine zS ?_|refine zT ?_ ?_<;>intro _|fail)
    all_goals conv=>whnf
    all_goals first|exact⟨_,rfl,zc1⟩|exact zc1
   rw[L]at f3;have M:((eG m e.rests).map aQ).length=(eG m e.rests).length:=Af;generalize w:eG m e.rests=RL at*;repeat' ((conv=>whnf);first|(exfalso;contradiction)|omega|refine jI (λf=>?_) (λf=>?_)|refine zh (l) [100000] ?_|refine zh (v) [100000] ?_|refine dS rfl rfl Am ?_|refine zS ?_|refine zT ?_ ?_<;>intro _|fail)
   all_goals conv=>whnf
   have z:nJ m e=subL (subL (gG m) (e.cuts.map Made.size)) (RL.map gG):=by unfold nJ;rw[w]
   generalize gG m=n0 at*;refine aU (A:=List Made) (B:=List Made) (λF R=>mkSt [(0, .box 100000 0),(3, .box 3 0),(11,I k),(13, .box 13 0),(14, .arr 91 0),(16,I (subL n0 (F.map Made.size))),(100, .sl (e.cuts.map dK)),(101,I e.cuts.length),(102,I F.length)] [(100000,stB3 (cut1 s e) 2 2 2),(3,iJ e),(13,gB m)] ((91,⟨0, .own,90,RL.map aQ⟩)::stA3 (cut1 s e) 2 2 2)) (λF R=>e.cuts=F++R) (λF R=>R.length) [] e.cuts ?_ rfl (λF R hp=>?_);exact I4;cases R with
   |cons c R=>
    have o:=aO hp;have hsn:=bQ6 n0 (F.map Made.size) c.size;repeat' ((conv=>whnf);first|omega|refine zS ?_|refine zT ?_ ?_<;>intro _|fail)
    all_goals conv=>whnf
    refine⟨(F++[c],R),?_,Ad,Af⟩;simp only[OY,PL,Qa,PW,QC,hsn];exact zj
   |nil=>
    have o:e.cuts.length=F.length:=Ad;have eF:e.cuts=F:=Ad;rw[eF]at z;generalize subL n0 (F.map Made.size)=n1 at*;repeat' ((conv=>whnf);first|omega|refine zS ?_|refine zT ?_ ?_<;>intro _|fail)
    clear hp;refine aU (A:=List aN) (B:=List aN) (λH R=>mkSt [(0, .box 100000 0),(3, .box 3 0),(11,I k),(13, .box 13 0),(14, .arr 91 0),(16,I (subL n1 (H.map gG))),(114, .arr 91 0),(115,I RL.length),(116,I H.length)] [(100000,stB3 (cut1 s e) 2 2 2),(3,iJ e),(13,gB m)] ((91,⟨0, .own,90,RL.map aQ⟩)::stA3 (cut1 s e) 2 2 2)) (λH R=>RL=H++R) (λH R=>R.length) [] RL ?_ rfl (λH R hp=>?_)
    ·refine dV ?_ ?_ ?_ ?_
     all_goals repeat' (first|exact trivial|refine And.intro ?_ ?_|with_reducible rfl|exact(λh=>Ag)|exact Po _|omega|exact rfl)
     all_goals (try rw[M])
    cases R with
    |cons x R=>
     have q:=aO hp;have g1:=vF x (Y x Ad);have hsn:=bQ6 n1 (H.map gG) (gG x);generalize ad:gG x=zx at*;repeat' ((conv=>whnf);first|omega|refine dS rfl rfl EL ?_|refine zS ?_|refine zT ?_ ?_<;>intro _|fail)
     all_goals conv=>whnf
     refine⟨(H++[x],R),?_,Ad,Af⟩;simp only[OY,PL,Qa,PW,QC,ad,hsn];exact zj
    |nil=>
     have q:RL.length=H.length:=Ad;have eH:RL=H:=Ad;rw[<-eH];rw[<-z];clear hp;rcases i with⟨ac,rfl,rfl⟩|⟨ac,U,g,rfl,rfl⟩;generalize nJ m e=n2 at*;exact Nb;generalize nJ m e=n2 at*;have f5:=bK1 s.stocks k W Aa;repeat' ((conv=>whnf);first|omega|refine zS ?_|refine zT ?_ ?_<;>intro _|fail)
     all_goals conv=>whnf
     have h5:cut5 s e k m={cut4 s e k m RL e.cuts with scrap:=plus m.isBar s.scrap e.scrap}:=by unfold cut5;rw[w]
     rw[h5];refine aU (A:=List aN) (B:=List aN) (λJ R=>mkSt [(0, .box 100000 0),(3, .box 3 0),(13, .box 13 0),(143, .arr 91 0),(144,I RL.length),(145,I J.length)] [(100000,stB3 (cut3 s e k J) (3+J.length) (2+J.length) (2+J.length)),(3,iJ e),(13,gB m)] ((91,⟨0, .own,90,RL.map aQ⟩)::stA3 (cut3 s e k J) (3+J.length) (2+J.length) (2+J.length))) (λJ R=>RL=J++R) (λJ R=>R.length) [] RL ?_ rfl (λJ R hp=>?_)
     ·show Le T _ (mkSt [(0, .box 100000 0),(3, .box 3 0),(13, .box 13 0),(143, .arr 91 0),(144,I RL.length),(145,I 0)] [(100000,stB3 (cut2 s e k) 3 2 2),(3,iJ e),(13,gB m)] ((91,⟨0, .own,90,RL.map aQ⟩)::stA3 (cut2 s e k) 3 2 2))
      refine dV ?_ ?_ ?_ ?_;all_goals repeat' (first|exact trivial|refine And.intro ?_ ?_|with_reducible rfl|exact(λh=>Ag)|exact Po _|omega|exact rfl)
      all_goals (try rw[M])
     cases R with
     |cons x R=>
      have t:=aO hp;have g1:=cF7 (cut3 s e k J) x (U J (x::R) hp);have hsn:addS (cut3 s e k J) x=cut3 s e k (J++[x]):=by unfold addS cut3;simp only[QN,QO,List.foldl_nil]
      rw[hsn]at g1;repeat' ((conv=>whnf);first|omega|refine dS rfl rfl EL ?_|refine zh (g1) [100000] ?_|refine zS ?_|refine zT ?_ ?_<;>intro _|fail)
      all_goals conv=>whnf
      refine⟨(J++[x],R),?_,Ad,Af⟩;exact L8
     |nil=>
      have t:RL.length=J.length:=Ad;have eJ:RL=J:=Ad;rw[<-eJ];clear hp;obtain⟨b,d,a,p⟩:=m;cases b
      ·have f6:=oL false
       repeat' ((conv=>whnf);first|omega|refine zS ?_|refine zT ?_ ?_<;>intro _|fail)
       refine aU (A:=List Made) (B:=List Made) (λQ R=>mkSt [(0, .box 100000 0),(3, .box 3 0),(13, .box 13 0),(23,S d.grade),(24,S d.heat),(168, .sl (e.cuts.map dK)),(169,I e.cuts.length),(170,I Q.length)] [(100000,stB3 (cut4 s e k ⟨false,d,a,p⟩ RL Q) (3+RL.length+Q.length) (2+RL.length+2*Q.length) (2+RL.length+Q.length)),(3,iJ e),(13,gB ⟨false,d,a,p⟩)] (stA3 (cut4 s e k ⟨false,d,a,p⟩ RL Q) (3+RL.length+Q.length) (2+RL.length+2*Q.length) (2+RL.length+Q.length))) (λQ R=>e.cuts=Q++R) (λQ R=>R.length) [] e.cuts ?_ rfl (λQ R hp=>?_);show Le T _ (mkSt [(0, .box 100000 0),(3, .box 3 0),(13, .box 13 0),(23,S d.grade),(24,S d.heat),(168, .sl (e.cuts.map dK)),(169,I e.cuts.length),(170,I 0)] [(100000,stB3 (cut3 s e k RL) (3+RL.length) (2+RL.length) (2+RL.length)),(3,iJ e),(13,gB ⟨false,d,a,p⟩)] (stA3 (cut3 s e k RL) (3+RL.length) (2+RL.length) (2+RL.length)));exact MR;cases R with
       |cons c R=>
        have hlen6:=aO hp;have g1:=uQ (cut4 s e k ⟨false,d,a,p⟩ RL Q) c.id (g Q (c::R) hp);have g2:=bU8 (cut4 s e k ⟨false,d,a,p⟩ RL Q).pieces (bs Piece.id (cut4 s e k ⟨false,d,a,p⟩ RL Q).pieces c.id) (fZ e ⟨false,d,a,p⟩ c) (bQ8 _ _ _) (by have:=(g Q (c::R) hp).lp;omega);have hsn:(cut4 s e k ⟨false,d,a,p⟩ RL (Q++[c])).pieces=putAt (cut4 s e k ⟨false,d,a,p⟩ RL Q).pieces (bs Piece.id (cut4 s e k ⟨false,d,a,p⟩ RL Q).pieces c.id) (fZ e ⟨false,d,a,p⟩ c):=BU;generalize bs Piece.id (cut4 s e k ⟨false,d,a,p⟩ RL Q).pieces c.id=kk at*;generalize (∃m∈(cut4 s e k ⟨false,d,a,p⟩ RL Q).pieces,m.id=c.id)=PP at*;exact LQ
       |nil=>exact Jb
      have f6:=oL true;repeat' ((conv=>whnf);first|omega|refine zS ?_|refine zT ?_ ?_<;>intro _|fail)
      refine aU (A:=List Made) (B:=List Made) (λQ R=>mkSt [(0, .box 100000 0),(3, .box 3 0),(13, .box 13 0),(23,S a.grade),(24,S a.heat),(168, .sl (e.cuts.map dK)),(169,I e.cuts.length),(170,I Q.length)] [(100000,stB3 (cut4 s e k ⟨true,d,a,p⟩ RL Q) (3+RL.length+Q.length) (2+RL.length+2*Q.length) (2+RL.length+Q.length)),(3,iJ e),(13,gB ⟨true,d,a,p⟩)] (stA3 (cut4 s e k ⟨true,d,a,p⟩ RL Q) (3+RL.length+Q.length) (2+RL.length+2*Q.length) (2+RL.length+Q.length))) (λQ R=>e.cuts=Q++R) (λQ R=>R.length) [] e.cuts ?_ rfl (λQ R hp=>?_);show Le T _ (mkSt [(0, .box 100000 0),(3, .box 3 0),(13, .box 13 0),(23,S a.grade),(24,S a.heat),(168, .sl (e.cuts.map dK)),(169,I e.cuts.length),(170,I 0)] [(100000,stB3 (cut3 s e k RL) (3+RL.length) (2+RL.length) (2+RL.length)),(3,iJ e),(13,gB ⟨true,d,a,p⟩)] (stA3 (cut3 s e k RL) (3+RL.length) (2+RL.length) (2+RL.length)));exact MR;cases R with
      |cons c R=>
       have hlen6:=aO hp;have g1:=uQ (cut4 s e k ⟨true,d,a,p⟩ RL Q) c.id (g Q (c::R) hp);have g2:=bU8 (cut4 s e k ⟨true,d,a,p⟩ RL Q).pieces (bs Piece.id (cut4 s e k ⟨true,d,a,p⟩ RL Q).pieces c.id) (fZ e ⟨true,d,a,p⟩ c) (bQ8 _ _ _) (by have:=(g Q (c::R) hp).lp;omega);have hsn:(cut4 s e k ⟨true,d,a,p⟩ RL (Q++[c])).pieces=putAt (cut4 s e k ⟨true,d,a,p⟩ RL Q).pieces (bs Piece.id (cut4 s e k ⟨true,d,a,p⟩ RL Q).pieces c.id) (fZ e ⟨true,d,a,p⟩ c):=BU;generalize bs Piece.id (cut4 s e k ⟨true,d,a,p⟩ RL Q).pieces c.id=kk at*;generalize (∃m∈(cut4 s e k ⟨true,d,a,p⟩ RL Q).pieces,m.id=c.id)=PP at*;exact LQ
      |nil=>exact Jb
def xP(s:aJ)(e:Event){r:Int}{a:List (List V)}(i:Gd s)(f:iY e)(g:s.used.length+(fO e).length<=1000000)(c:eL3 s e (bs sid s.stocks e.id) r a)(d:a=[bots]\/∃b,a=[stC b]):
 SpB 72 [.box 100000 0,aS e] [stC s] (I r) a:=
 b_of Tryz.func72 Ac Ac rfl (by rcases d with rfl|⟨b,rfl⟩<;>rfl) (eX3 s e i f g c)
def uP:List V:=[.tup [.lit (.int .i64 8), .fn 75 []], .tup [.lit (.int .i64 7), .fn 74 []], .tup [.lit (.int .i64 6), .fn 73 []], .tup [.lit (.int .i64 5), .fn 72 []],
 .tup [.lit (.int .i64 4), .fn 71 []], .tup [.lit (.int .i64 3), .fn 70 []], .tup [.lit (.int .i64 2), .fn 69 []], .tup [.lit (.int .i64 1), .fn 68 []]]
def dM0(s:aJ)(e:Event)(a:iY e)(c:¬iD e):fnVC T Tryz.prog Tryz.f16 [invV s,aS e] (.tup [invV inv0,I 1]):=by
 have b:=aE0 e a;exact zF
def dL3(s a:aJ)(e:Event)(hs:Gd s)(he:iY e)(b:iD e){f:FuncId}(hg:jG (.int .i64 e.kind) uP=some (.fn f []))(hm:SpB f [.box 100000 0,aS e] [stC s] (I 0) [stC a]):
 fnVC T Tryz.prog Tryz.f16 [invV s,aS e] (.tup [invV a,I 0]):=by
 exact LU
def dR7(s:aJ)(e:Event)(hs:Gd s)(he:iY e)(a:iD e){f:FuncId}{r:Int}(hg:jG (.int .i64 e.kind) uP=some (.fn f []))(b:r≠0)(hm:SpB f [.box 100000 0,aS e] [stC s] (I r) [bots]):
 fnVC T Tryz.prog Tryz.f16 [invV s,aS e] (.tup [invV inv0,I r]):=by
 exact LU
open Classical in
def aD6(s:aJ)(n:Int)(f:aN->aJ×Int):aJ×Int:=
 if(∃m∈s.stocks,sid m=n)then(match s.stocks[bs sid s.stocks n]? with|some m=>f m|none=>(inv0,8))else(inv0,8)
open Classical in
def nM(s:aJ)(x:aN):aJ×Int:=if sid x∈s.used then(inv0,7)else(aX7 s x,0)
open Classical in
def relR(s:aJ)(e:Event):aJ×Int:=aD6 s e.id λm=>if m.program=aI then(setK s (bs sid s.stocks e.id) (prog m e.text),0)else(inv0,27)
open Classical in
def bP3(s:aJ)(e:Event):aJ×Int:=aD6 s e.id λm=>if m.program≠aI then(setK s (bs sid s.stocks e.id) (prog m aI),0)else(inv0,10)
open Classical in
def bQ0(s:aJ)(e:Event):aJ×Int:=aD6 s e.id λm=>if m.program=aI then(aX4 s (bs sid s.stocks e.id) m,0)else(inv0,27)
open Classical in
def nK(s:aJ)(n st:Int)(o:ByteArray):aJ×Int:=
 if(∃m∈s.pieces,m.id=n)then(match s.pieces[bs Piece.id s.pieces n]? with|some m=>(if m.status=1 then(setP s (bs Piece.id s.pieces n) (marked m st o),0)else(inv0,10))|none=>(inv0,8))else(inv0,8)
open Classical in
def cutR(s:aJ)(e:Event):aJ×Int:=
 if¬dP s.used (fO e)then(inv0,7)else aD6 s e.id λm=>if m.program=aI then(inv0,10)else
  if cZ m [] e.rests≠0 then(inv0,cZ m [] e.rests)else if nJ m e≠e.scrap then(inv0,29)else(cut5 s e (bs sid s.stocks e.id) m,0)
def bP2(s:aJ)(e:Event):aJ×Int:=
 if e.kind=1 then nM s ⟨false,e.sheet,bar0,aI⟩else if e.kind=2 then nM s ⟨true,dN,e.bar,aI⟩else if e.kind=3 then relR s e else if e.kind=4 then bP3 s e
 else if e.kind=5 then cutR s e else if e.kind=6 then nK s e.id 2 aI else if e.kind=7 then nK s e.id 3 e.text else bQ0 s e
open Classical in
def appR(s:aJ)(e:Event):aJ×Int:=if iD e then bP2 s e else(inv0,1)
def putK{α:Type}(key:α->Int)(l:List α)(x:α):List α:=putAt l (bs key l (key x)) x
def bE9{f:Type}{key:f->Int}:∀ {xs l:List f},(l.map key).Pairwise (·<·)->(∀x∈xs,∀y∈l,key y≠key x)->(xs.map key).Pairwise (·≠·)->
 ((xs.foldl (putK key) l).map key).Pairwise (·<·)/\(∀y,y∈xs.foldl (putK key) l↔y∈l\/y∈xs)/\(xs.foldl (putK key) l).length=l.length+xs.length
 | [],l,c,_,_=>⟨c,Af,Af⟩
 |x::xs,l,c,e,i=>by
  obtain⟨a,b⟩:=Ro.1 i;have g:((putK key l x).map key).Pairwise (·<·):=yR c (λm j=>e x Af m j)
  obtain⟨k,n,o⟩:=bE9 (xs:=xs) (l:=putK key l x) g (λz hz y d=>by
   rcases fH.1 d with rfl|d;exact a _ (Q7 hz)
   exact e z GK y d) b
  refine⟨k,λy=>?_,?_⟩;rw[QO,n,show(y∈putK key l x↔y=x\/y∈l)from fH,P5];constructor;rintro((h|h)|h);exact .inr (.inl h);exact .inl h;exact .inr (.inr h);rintro(h|h|h);exact .inl (.inr h);exact .inl (.inl h);exact .inr h;rw[QO,o,show(putK key l x).length=l.length+1 from mQ,PE];omega
theorem qJ:∀ {ids used:List Int},dP used ids↔(∀n∈ids,n∉used)/\ids.Pairwise (·≠·)
 | [],used=>⟨λ_=>⟨Af,List.Pairwise.nil⟩,λ_=>trivial⟩
 |n::ids,used=>by
  show(n∉used/\dP (putN used n) ids)↔_;rw[qJ,Ro];constructor;rintro⟨b,c,d⟩;refine⟨λm a=>?_,λm a e=>?_,d⟩;rcases P5.1 a with rfl|a;exact b;exact λh=>c m a (fH.2 (.inr h));exact c m a (fH.2 (.inl e.symm));rintro⟨b,c,d⟩;refine⟨b n Af,λm a h=>?_,d⟩;rcases fH.1 h with e|h;exact c m a e.symm;exact b m (by simp[a]) h
theorem tY{y:Int}:∀ {ids used:List Int},y∈cO used ids↔y∈used\/y∈ids
 | [],used=>by simp[cO]
 |n::ids,used=>by
  show y∈cO (putN used n) ids↔_;rw[tY,show(y∈putN used n↔y=n\/y∈used)from fH,P5];constructor;rintro((h|h)|h);exact .inr (.inl h);exact .inl h;exact .inr (.inr h);rintro(h|h|h);exact .inl (.inr h);exact .inl (.inl h);exact .inr h
def kM{a:Type}(l:List a)(i:Nat):(nN l i).Sublist l:=by
 grind [List.Sublist.append,List.drop_drop,List.drop_sublist,Qq,nN]
def bB0{a:Type}{key:a->Int}{l:List a}(h:(l.map key).Pairwise (·<·))(i:Nat):((nN l i).map key).Pairwise (·<·):=h.sublist ((kM l i).map key)
def bY6{a:Type}{key:a->Int}{l:List a}{k:Nat}{m x:a}(b:l[k]? =some m)(c:key x=key m):(l.set k x).map key=l.map key:=by
 apply List.ext_getElem?;grind
theorem tZ{x:aN}:∀ {R D:List Rest},cZ x D R=0->∀r∈R,iG x r=0
 | [],D,_=>Af
 |r::R,D,h=>by
  unfold cZ at h;split at h;rename_i a;exact absurd h a;rename_i a;split at h;cases h;intro q b;rcases P5.1 b with rfl|b;exact QB.1 a;exact tZ h q b
theorem cL1{x:aN}{r:Rest}(h:iG x r=0):sid (dZ x r)=r.id:=by
 unfold dZ;unfold iG at h;by_cases a:x.isBar=false;rw[Pm a]at h⊢;by_cases b:r.lo≠0\/r.hi≠0;rw[Pm b]at h;cases h;rw[Ph b]at h⊢;show(remS x.sheet r.box r.id).id=_;unfold remS;rw[Pm h];rw[Ph a];have c:iG x r=0:=by unfold iG;rw[Ph a];rw[Ph a]at h;exact h
 rw[Pm c];rfl
def dL4{s:jL}{b:Bx}{id:Int}(e:lK s):lK (remS s b id):=by
 unfold remS;split;refine⟨aD2 _ _,PD (yK b s.defects) e.2.1,λd a=>?_⟩;obtain⟨q,f,a⟩:=List.mem_flatMap.1 a;grind [Py,aD2,aK2,Py.1];exact⟨⟨Ho,Ho,λr c=>by simp[dN,sh0]at c⟩,by simp[dN],λd a=>by simp[dN]at a⟩
def xZ:lK dN:=⟨⟨Ho,Ho,λr b=>by simp[dN,sh0]at b⟩,by simp[dN],λd a=>by simp[dN]at a⟩
theorem aX5{x:aN}{r:Rest}(a:eY x):eY (dZ x r):=by
 unfold dZ;split;split;exact⟨xZ,by simp[wS,bar0]⟩;exact⟨dL4 a.1,by simp[bar0]⟩;split;exact⟨xZ,PD (aG5 r _) a.2⟩;exact⟨xZ,by simp[wS,bar0]⟩
theorem mV{x:aN}{l:List Rest}(h:cZ x [] l=0):eG x l=l.map (dZ x):=by unfold eG;rw[Pm h]
theorem aG9{x:aN}{l:List Rest}(h:cZ x [] l=0):(eG x l).map sid=l.map Rest.id:=by
 grind [mV,Sr,Ru,cL1,tZ]
end Go.Proofs.Led
