/-
  The inventory as a variable: a stock that is cut.
-/
import Derived.Test.YtdjgbagnajikeaaGreatDoorB11
set_option linter.unusedVariables false
set_option linter.unusedSimpArgs false
set_option maxRecDepth 100000
set_option maxHeartbeats 8000000
noncomputable section
namespace Go.Proofs.Led
open Go Go.Proofs Go.Ab
def fO(e:Event):List Int:=e.cuts.map Made.id++e.rests.map Rest.id
def sub1(n c:Int):Int:=W (n-minI c (W (n+1)))
def subL(n:Int)(l:List Int):Int:=l.foldl sub1 n
theorem bQ6(n:Int)(D:List Int)(c:Int):subL n (D++[c])=sub1 (subL n D) c:=by unfold subL;simp
def nJ(old:aN)(e:Event):Int:=subL (subL (gG old) (e.cuts.map Made.size)) ((eG old e.rests).map gG)
def fZ(e:Event)(old:aN)(c:Made):Piece:=⟨c.id,e.id,c.part,if old.isBar then old.bar.grade else old.sheet.grade,if old.isBar then old.bar.heat else old.sheet.heat,c.size,old.isBar,1,aI⟩
def putP(l:List Piece)(x:Piece):List Piece:=putAt l (bs Piece.id l x.id) x
def cut1(s:aJ)(e:Event):aJ:={s with used:=cO s.used (fO e)}
def cut2(s:aJ)(e:Event)(k:Nat):aJ:={cut1 s e with stocks:=nN s.stocks k}
def cut3(s:aJ)(e:Event)(k:Nat)(l:List aN):aJ:={cut2 s e k with stocks:=l.foldl putS (nN s.stocks k)}
def cut4(s:aJ)(e:Event)(k:Nat)(old:aN)(l:List aN)(c:List Made):aJ:={cut3 s e k l with pieces:=c.foldl (fun p x=>putP p (fZ e old x)) s.pieces}
def cut5(s:aJ)(e:Event)(k:Nat)(old:aN):aJ:={cut4 s e k old (eG old e.rests) e.cuts with scrap:=plus old.isBar s.scrap e.scrap}
def eL3(s:aJ)(e:Event)(k:Nat)(r:Int)(bs':List (List V)):Prop:=
 (¬dP s.used (fO e)/\r=7/\bs'=[bots])\/
 (dP s.used (fO e)/\((¬(∃m∈s.stocks,sid m=e.id)/\r=8/\bs'=[bots])\/
  ∃m,(∃m∈s.stocks,sid m=e.id)/\s.stocks[k]? =some m/\((m.program=aI/\r=10/\bs'=[bots])\/
   (m.program≠aI/\eY m/\((cZ m [] e.rests≠0/\r=cZ m [] e.rests/\bs'=[bots])\/
     (cZ m [] e.rests=0/\(∀x∈eG m e.rests,eY x)/\(eG m e.rests).length<=1000000/\((nJ m e≠e.scrap/\r=29/\bs'=[bots])\/
      (nJ m e=e.scrap/\(∀D R,eG m e.rests=D++R->Gd (cut3 s e k D))/\(∀D R,e.cuts=D++R->Gd (cut4 s e k m (eG m e.rests) D))/\r=0/\bs'=[stC (cut5 s e k m)]))))))))
theorem aA8:∀(ids used:List Int),(used.map id).Pairwise (·<·)->dP used ids->((cO used ids).map id).Pairwise (·<·)/\(cO used ids).length=used.length+ids.length
 | [],used,h,_=>⟨h,rfl⟩
 |n::r,used,h,⟨h1,h2⟩=>by
  obtain⟨q1,q2⟩:=aA8 r (putN used n) (rF h h1) h2;refine⟨q1,?_⟩;show(cO (putN used n) r).length=_;rw[q2,show(putN used n).length=used.length+1 from mQ,List.length_cons];omega
theorem eQ6{s:aJ}{e:Event}(hs:Gd s)(hl:s.used.length+(fO e).length<=1000000)(h:dP s.used (fO e)):Gd (cut1 s e):=by
 obtain⟨q1,q2⟩:=aA8 _ _ hs.su h;exact⟨hs.ls,hs.lp,by show(cO s.used (fO e)).length<=_;rw[q2];exact hl,hs.ss,hs.sp,q1⟩
def stB3(s:aJ)(a b c:Nat):List V:=[.arr 100000 a, .arr 100001 b, .arr 100002 c,I s.received.1,I s.received.2,I s.scrap.1,I s.scrap.2]
def stA3(s:aJ)(a b c:Nat):List (Nat×AE):=[(100000,⟨a, .own,86,s.stocks.map aQ⟩),(100001,⟨b, .own,71,s.pieces.map aZ⟩),(100002,⟨c, .own,3,s.used.map I⟩)]
theorem eX3(s:aJ)(e:Event){r:Int}{bs':List (List V)}(hs:Gd s)(he:iY e)(hl:s.used.length+(fO e).length<=1000000)(hR:eL3 s e (bs sid s.stocks e.id) r bs'):
 jR T Tryz.prog Tryz.f79 [.box 100000 0,aS e] [stC s] (I r) bs':=by
 have hc:=he.ct;have hrs:=he.rs
 have hm1:(e.cuts.map dK).length=e.cuts.length:=Ae;have hm2:(e.rests.map bY).length=e.rests.length:=Ae
 repeat' ((conv=>whnf);first|refine zS ?_|fail)
 refine aU (A:=List Made) (B:=List Made) (fun D R=>mkSt [(0, .box 100000 0),(3, .box 3 0),(5, .arr 40 D.length),(30, .sl (e.cuts.map dK)),(31,I e.cuts.length),(32,I D.length)] [(100000,stB s 0),(3,iJ e)] ((40,⟨D.length, .own,3,(D.map Made.id).map I⟩)::stA s s.used 0)) (fun D R=>e.cuts=D++R) (fun D R=>R.length) [] e.cuts ?_ rfl (fun D R hp=>?_)
 ·exact IC
 cases R with
 |cons c R=>
  have hlen:=aO hp;have hlD:((D++[c]).length:Int)=(D.length:Int)+1:=Ae
  have hDl:((D.map Made.id).map I).length=D.length:=Ae
  repeat' ((conv=>whnf);first|(exfalso;omega)|refine iH rfl (.inl rfl) rfl (of_decide_eq_true rfl) (dA rfl) (show((D.map Made.id).map I).length+1<=1000000000 from Aa) ?_|refine zS ?_|refine zT ?_ ?_<;>intro _|fail)
  all_goals conv=>whnf
  refine⟨(D++[c],R),?_,Af,Ae⟩;simp only[List.length_append,List.length_singleton,List.map_append,List.map_cons,List.map_nil];exact zj
 |nil=>
  have hlen:e.cuts.length=D.length:=Af;have eD:e.cuts=D:=Af
  have hDl:((D.map Made.id).map I).length=D.length:=Ae;have hids:fO e=D.map Made.id++e.rests.map Rest.id:=by unfold fO;rw[eD]
  clear hp
  repeat' ((conv=>whnf);first|(exfalso;omega)|refine zS ?_|refine zT ?_ ?_<;>intro _|fail)
  refine aU (A:=List Rest) (B:=List Rest) (fun E R=>mkSt [(0, .box 100000 0),(3, .box 3 0),(5, .arr 40 (D.length+E.length)),(43, .sl (e.rests.map bY)),(44,I e.rests.length),(45,I E.length)] [(100000,stB s 0),(3,iJ e)] ((40,⟨D.length+E.length, .own,3,(D.map Made.id++E.map Rest.id).map I⟩)::stA s s.used 0)) (fun E R=>e.rests=E++R) (fun E R=>R.length) [] e.rests ?_ rfl (fun E R hp=>?_)
  ·simp only[List.map_nil,List.append_nil,List.length_nil,Nat.add_zero]
   refine dV ?_ ?_ ?_ ?_;all_goals repeat' (first|exact trivial|refine And.intro ?_ ?_|with_reducible rfl|exact(fun h=>Ag)|exact Nat.le_refl _|omega|exact rfl)
   all_goals (try rw[hm2])
  cases R with
  |cons c R=>
   have hlen2:=aO hp;have hlE:((E++[c]).length:Int)=(E.length:Int)+1:=Ae
   have hEl:((D.map Made.id++E.map Rest.id).map I).length=D.length+E.length:=Ae
   repeat' ((conv=>whnf);first|(exfalso;omega)|refine iH rfl (.inl rfl) rfl (of_decide_eq_true rfl) (dA rfl) (show((D.map Made.id++E.map Rest.id).map I).length+1<=1000000000 from Aa) ?_|refine zS ?_|refine zT ?_ ?_<;>intro _|fail)
   all_goals conv=>whnf
   refine⟨(E++[c],R),?_,Af,Ae⟩;simp only[List.length_append,List.length_singleton,List.map_append,List.map_cons,List.map_nil,<-List.append_assoc];exact zj
  |nil=>
   have hlen2:e.rests.length=E.length:=Af;have eE:e.rests=E:=Af
   rw[eE]at hids;rw[<-hids];have hk:=bQ8 sid s.stocks e.id;have hll:(s.stocks.map aQ).length=s.stocks.length:=Ae
   have hls:=hs.ls;rcases hR with⟨hno,rfl,rfl⟩|⟨hok,hR⟩
   ·have f1:=aU4 s (fO e) hs hl hno
    repeat' ((conv=>whnf);first|(exfalso;omega)|refine zh (f1) [100000] ?_|refine zS ?_|refine zT ?_ ?_<;>intro _|fail)
    all_goals conv=>whnf
    all_goals first|exact⟨_,rfl,zc1⟩|exact zc1
   have f1:=aT7 s (fO e) hs hl hok;have f2:=find_spec (cut1 s e) e.id (eQ6 hs hl hok)
   change SpB _ _ _ _ [stC (cut1 s e)]at f1;change SpB _ _ [stC (cut1 s e)] (.tup [I (bs sid s.stocks e.id),DB (∃m∈s.stocks,sid m=e.id)]) [stC (cut1 s e)]at f2;generalize bs sid s.stocks e.id=k at*;generalize (∃m∈s.stocks,sid m=e.id)=P at*;rcases hR with⟨hno,rfl,rfl⟩|⟨m,hP,hm,hR⟩
   ·repeat' ((conv=>whnf);first|(exfalso;contradiction)|(exfalso;omega)|refine zh (f1) [100000] ?_|refine zh (f2) [100000] ?_|refine zS ?_|refine zT ?_ ?_<;>intro _|fail)
    all_goals conv=>whnf
    all_goals first|exact⟨_,rfl,zc1⟩|exact zc1
   have hkl:=(List.getElem?_eq_some_iff.1 hm).1;rcases hR with⟨hpe,rfl,rfl⟩|⟨hpe,hmz,hR⟩
   ·repeat' ((conv=>whnf);first|(exfalso;contradiction)|(exfalso;omega)|refine jI (fun heq=>?_) (fun heq=>?_)|refine zh (f1) [100000] ?_|refine zh (f2) [100000] ?_|refine dS rfl rfl Ap ?_|refine zS ?_|refine zT ?_ ?_<;>intro _|fail)
    all_goals conv=>whnf
    all_goals first|exact⟨_,rfl,zc1⟩|exact zc1
   have f3:=cU2 m e hmz hrs;have f4:=vF m hmz
   rcases hR with⟨hrE,rfl,rfl⟩|⟨hrE,hlz,hln,hR⟩
   ·generalize cZ m [] e.rests=RE at*
    generalize eG m e.rests=RL at*
    repeat' ((conv=>whnf);first|(exfalso;contradiction)|(exfalso;omega)|refine jI (fun heq=>?_) (fun heq=>?_)|refine zh (f1) [100000] ?_|refine zh (f2) [100000] ?_|refine dS rfl rfl Ap ?_|refine zS ?_|refine zT ?_ ?_<;>intro _|fail)
    all_goals conv=>whnf
    all_goals first|exact⟨_,rfl,zc1⟩|exact zc1
   rw[hrE]at f3;have hrl:((eG m e.rests).map aQ).length=(eG m e.rests).length:=Ae;generalize hRL:eG m e.rests=RL at*
   repeat' ((conv=>whnf);first|(exfalso;contradiction)|(exfalso;omega)|refine jI (fun heq=>?_) (fun heq=>?_)|refine zh (f1) [100000] ?_|refine zh (f2) [100000] ?_|refine dS rfl rfl Ap ?_|refine zS ?_|refine zT ?_ ?_<;>intro _|fail)
   all_goals conv=>whnf
   have hlk:nJ m e=subL (subL (gG m) (e.cuts.map Made.size)) (RL.map gG):=by unfold nJ;rw[hRL]
   generalize gG m=n0 at*;refine aU (A:=List Made) (B:=List Made) (fun F R=>mkSt [(0, .box 100000 0),(3, .box 3 0),(11,I k),(13, .box 13 0),(14, .arr 91 0),(16,I (subL n0 (F.map Made.size))),(100, .sl (e.cuts.map dK)),(101,I e.cuts.length),(102,I F.length)] [(100000,stB3 (cut1 s e) 2 2 2),(3,iJ e),(13,gB m)] ((91,⟨0, .own,86,RL.map aQ⟩)::stA3 (cut1 s e) 2 2 2)) (fun F R=>e.cuts=F++R) (fun F R=>R.length) [] e.cuts ?_ rfl (fun F R hp=>?_)
   ·exact IC
   cases R with
   |cons c R=>
    have hlen3:=aO hp;have hsn:=bQ6 n0 (F.map Made.size) c.size
    repeat' ((conv=>whnf);first|(exfalso;omega)|refine zS ?_|refine zT ?_ ?_<;>intro _|fail)
    all_goals conv=>whnf
    refine⟨(F++[c],R),?_,Af,Ae⟩;simp only[List.length_append,List.length_singleton,List.map_append,List.map_cons,List.map_nil,hsn];exact zj
   |nil=>
    have hlen3:e.cuts.length=F.length:=Af;have eF:e.cuts=F:=Af
    rw[eF]at hlk;generalize subL n0 (F.map Made.size)=n1 at*
    repeat' ((conv=>whnf);first|(exfalso;omega)|refine zS ?_|refine zT ?_ ?_<;>intro _|fail)
    clear hp;refine aU (A:=List aN) (B:=List aN) (fun H R=>mkSt [(0, .box 100000 0),(3, .box 3 0),(11,I k),(13, .box 13 0),(14, .arr 91 0),(16,I (subL n1 (H.map gG))),(114, .arr 91 0),(115,I RL.length),(116,I H.length)] [(100000,stB3 (cut1 s e) 2 2 2),(3,iJ e),(13,gB m)] ((91,⟨0, .own,86,RL.map aQ⟩)::stA3 (cut1 s e) 2 2 2)) (fun H R=>RL=H++R) (fun H R=>R.length) [] RL ?_ rfl (fun H R hp=>?_)
    ·refine dV ?_ ?_ ?_ ?_
     all_goals repeat' (first|exact trivial|refine And.intro ?_ ?_|with_reducible rfl|exact(fun h=>Ag)|exact Nat.le_refl _|omega|exact rfl)
     all_goals (try rw[hrl])
    cases R with
    |cons x R=>
     have hlen4:=aO hp;have g1:=vF x (hlz x Af)
     have hsn:=bQ6 n1 (H.map gG) (gG x);generalize hzx:gG x=zx at*
     repeat' ((conv=>whnf);first|(exfalso;omega)|refine dS rfl rfl EC ?_|refine zS ?_|refine zT ?_ ?_<;>intro _|fail)
     all_goals conv=>whnf
     refine⟨(H++[x],R),?_,Af,Ae⟩;simp only[List.length_append,List.length_singleton,List.map_append,List.map_cons,List.map_nil,hzx,hsn];exact zj
    |nil=>
     have hlen4:RL.length=H.length:=Af;have eH:RL=H:=Af
     rw[<-eH];rw[<-hlk];clear hp;rcases hR with⟨hsc,rfl,rfl⟩|⟨hsc,hG5,hG6,rfl,rfl⟩
     ·generalize nJ m e=n2 at*
      exact MJ
     generalize nJ m e=n2 at*;have f5:=bK1 s.stocks k hkl Aa
     repeat' ((conv=>whnf);first|(exfalso;omega)|refine zS ?_|refine zT ?_ ?_<;>intro _|fail)
     all_goals conv=>whnf
     have h5:cut5 s e k m={cut4 s e k m RL e.cuts with scrap:=plus m.isBar s.scrap e.scrap}:=by unfold cut5;rw[hRL]
     rw[h5];refine aU (A:=List aN) (B:=List aN) (fun J R=>mkSt [(0, .box 100000 0),(3, .box 3 0),(13, .box 13 0),(143, .arr 91 0),(144,I RL.length),(145,I J.length)] [(100000,stB3 (cut3 s e k J) (3+J.length) (2+J.length) (2+J.length)),(3,iJ e),(13,gB m)] ((91,⟨0, .own,86,RL.map aQ⟩)::stA3 (cut3 s e k J) (3+J.length) (2+J.length) (2+J.length))) (fun J R=>RL=J++R) (fun J R=>R.length) [] RL ?_ rfl (fun J R hp=>?_)
     ·show Le T _ (mkSt [(0, .box 100000 0),(3, .box 3 0),(13, .box 13 0),(143, .arr 91 0),(144,I RL.length),(145,I 0)] [(100000,stB3 (cut2 s e k) 3 2 2),(3,iJ e),(13,gB m)] ((91,⟨0, .own,86,RL.map aQ⟩)::stA3 (cut2 s e k) 3 2 2))
      refine dV ?_ ?_ ?_ ?_;all_goals repeat' (first|exact trivial|refine And.intro ?_ ?_|with_reducible rfl|exact(fun h=>Ag)|exact Nat.le_refl _|omega|exact rfl)
      all_goals (try rw[hrl])
     cases R with
     |cons x R=>
      have hlen5:=aO hp;have g1:=cF7 (cut3 s e k J) x (hG5 J (x::R) hp)
      have hsn:addS (cut3 s e k J) x=cut3 s e k (J++[x]):=by unfold addS cut3;simp only[List.foldl_append,List.foldl_cons,List.foldl_nil]
      rw[hsn]at g1
      repeat' ((conv=>whnf);first|(exfalso;omega)|refine dS rfl rfl EC ?_|refine zh (g1) [100000] ?_|refine zS ?_|refine zT ?_ ?_<;>intro _|fail)
      all_goals conv=>whnf
      refine⟨(J++[x],R),?_,Af,Ae⟩;exact Ll
     |nil=>
      have hlen5:RL.length=J.length:=Af;have eJ:RL=J:=Af
      rw[<-eJ];clear hp;obtain⟨b,sh,br,p⟩:=m;cases b
      ·have f6:=oL false
       repeat' ((conv=>whnf);first|(exfalso;omega)|refine zS ?_|refine zT ?_ ?_<;>intro _|fail)
       refine aU (A:=List Made) (B:=List Made) (fun Q R=>mkSt [(0, .box 100000 0),(3, .box 3 0),(13, .box 13 0),(23,S sh.grade),(24,S sh.heat),(168, .sl (e.cuts.map dK)),(169,I e.cuts.length),(170,I Q.length)] [(100000,stB3 (cut4 s e k ⟨false,sh,br,p⟩ RL Q) (3+RL.length+Q.length) (2+RL.length+2*Q.length) (2+RL.length+Q.length)),(3,iJ e),(13,gB ⟨false,sh,br,p⟩)] (stA3 (cut4 s e k ⟨false,sh,br,p⟩ RL Q) (3+RL.length+Q.length) (2+RL.length+2*Q.length) (2+RL.length+Q.length))) (fun Q R=>e.cuts=Q++R) (fun Q R=>R.length) [] e.cuts ?_ rfl (fun Q R hp=>?_)
       ·show Le T _ (mkSt [(0, .box 100000 0),(3, .box 3 0),(13, .box 13 0),(23,S sh.grade),(24,S sh.heat),(168, .sl (e.cuts.map dK)),(169,I e.cuts.length),(170,I 0)] [(100000,stB3 (cut3 s e k RL) (3+RL.length) (2+RL.length) (2+RL.length)),(3,iJ e),(13,gB ⟨false,sh,br,p⟩)] (stA3 (cut3 s e k RL) (3+RL.length) (2+RL.length) (2+RL.length)))
        exact MC
       cases R with
       |cons c R=>
        have hlen6:=aO hp;have g1:=uQ (cut4 s e k ⟨false,sh,br,p⟩ RL Q) c.id (hG6 Q (c::R) hp)
        have g2:=bU8 (cut4 s e k ⟨false,sh,br,p⟩ RL Q).pieces (bs Piece.id (cut4 s e k ⟨false,sh,br,p⟩ RL Q).pieces c.id) (fZ e ⟨false,sh,br,p⟩ c) (bQ8 _ _ _) (by have:=(hG6 Q (c::R) hp).lp;omega)
        have hsn:(cut4 s e k ⟨false,sh,br,p⟩ RL (Q++[c])).pieces=putAt (cut4 s e k ⟨false,sh,br,p⟩ RL Q).pieces (bs Piece.id (cut4 s e k ⟨false,sh,br,p⟩ RL Q).pieces c.id) (fZ e ⟨false,sh,br,p⟩ c):=BQ;generalize bs Piece.id (cut4 s e k ⟨false,sh,br,p⟩ RL Q).pieces c.id=kk at*;generalize (∃m∈(cut4 s e k ⟨false,sh,br,p⟩ RL Q).pieces,m.id=c.id)=PP at*;exact L9
       |nil=>exact Ir
      ·have f6:=oL true
       repeat' ((conv=>whnf);first|(exfalso;omega)|refine zS ?_|refine zT ?_ ?_<;>intro _|fail)
       refine aU (A:=List Made) (B:=List Made) (fun Q R=>mkSt [(0, .box 100000 0),(3, .box 3 0),(13, .box 13 0),(23,S br.grade),(24,S br.heat),(168, .sl (e.cuts.map dK)),(169,I e.cuts.length),(170,I Q.length)] [(100000,stB3 (cut4 s e k ⟨true,sh,br,p⟩ RL Q) (3+RL.length+Q.length) (2+RL.length+2*Q.length) (2+RL.length+Q.length)),(3,iJ e),(13,gB ⟨true,sh,br,p⟩)] (stA3 (cut4 s e k ⟨true,sh,br,p⟩ RL Q) (3+RL.length+Q.length) (2+RL.length+2*Q.length) (2+RL.length+Q.length))) (fun Q R=>e.cuts=Q++R) (fun Q R=>R.length) [] e.cuts ?_ rfl (fun Q R hp=>?_)
       ·show Le T _ (mkSt [(0, .box 100000 0),(3, .box 3 0),(13, .box 13 0),(23,S br.grade),(24,S br.heat),(168, .sl (e.cuts.map dK)),(169,I e.cuts.length),(170,I 0)] [(100000,stB3 (cut3 s e k RL) (3+RL.length) (2+RL.length) (2+RL.length)),(3,iJ e),(13,gB ⟨true,sh,br,p⟩)] (stA3 (cut3 s e k RL) (3+RL.length) (2+RL.length) (2+RL.length)))
        exact MC
       cases R with
       |cons c R=>
        have hlen6:=aO hp;have g1:=uQ (cut4 s e k ⟨true,sh,br,p⟩ RL Q) c.id (hG6 Q (c::R) hp)
        have g2:=bU8 (cut4 s e k ⟨true,sh,br,p⟩ RL Q).pieces (bs Piece.id (cut4 s e k ⟨true,sh,br,p⟩ RL Q).pieces c.id) (fZ e ⟨true,sh,br,p⟩ c) (bQ8 _ _ _) (by have:=(hG6 Q (c::R) hp).lp;omega)
        have hsn:(cut4 s e k ⟨true,sh,br,p⟩ RL (Q++[c])).pieces=putAt (cut4 s e k ⟨true,sh,br,p⟩ RL Q).pieces (bs Piece.id (cut4 s e k ⟨true,sh,br,p⟩ RL Q).pieces c.id) (fZ e ⟨true,sh,br,p⟩ c):=BQ;generalize bs Piece.id (cut4 s e k ⟨true,sh,br,p⟩ RL Q).pieces c.id=kk at*;generalize (∃m∈(cut4 s e k ⟨true,sh,br,p⟩ RL Q).pieces,m.id=c.id)=PP at*;exact L9
       |nil=>exact Ir
theorem xP(s:aJ)(e:Event){r:Int}{bs':List (List V)}(hs:Gd s)(he:iY e)(hl:s.used.length+(fO e).length<=1000000)(hR:eL3 s e (bs sid s.stocks e.id) r bs')(hb:bs'=[bots]\/∃s',bs'=[stC s']):
 SpB 79 [.box 100000 0,aS e] [stC s] (I r) bs':=
 b_of Tryz.func79 Ac Ac rfl (by rcases hb with rfl|⟨s',rfl⟩<;>rfl) (eX3 s e hs he hl hR)
def MethOk(s:aJ)(e:Event)(k:Int)(f:FuncId)(r:Int)(bs':List (List V)):Prop:=e.kind=k/\SpB f [.box 100000 0,aS e] [stC s] (I r) bs'
theorem assoc_hit{k:Value}{x:V}{r:List V}:jG k (.tup [.lit k,x] ::r)=some x:=by simp[jG]
theorem assoc_miss{k k':Value}{x:V}{r:List V}(h:k'≠k):jG k (.tup [.lit k',x] ::r)=jG k r:=by simp[jG,h]
def uP:List V:=[.tup [.lit (.int .i64 8), .fn 82 []], .tup [.lit (.int .i64 7), .fn 81 []], .tup [.lit (.int .i64 6), .fn 80 []], .tup [.lit (.int .i64 5), .fn 79 []],
 .tup [.lit (.int .i64 4), .fn 78 []], .tup [.lit (.int .i64 3), .fn 77 []], .tup [.lit (.int .i64 2), .fn 76 []], .tup [.lit (.int .i64 1), .fn 75 []]]
theorem dM0(s:aJ)(e:Event)(he:iY e)(hf:¬iD e):fnVC T Tryz.prog Tryz.f39 [invV s,aS e] (.tup [invV inv0,I 1]):=by
 have h1:=aE0 e he;exact zF
theorem dL3(s s':aJ)(e:Event)(hs:Gd s)(he:iY e)(hf:iD e){f:FuncId}(hg:jG (.int .i64 e.kind) uP=some (.fn f []))(hm:SpB f [.box 100000 0,aS e] [stC s] (I 0) [stC s']):
 fnVC T Tryz.prog Tryz.f39 [invV s,aS e] (.tup [invV s',I 0]):=by
 exact LC
theorem dR7(s:aJ)(e:Event)(hs:Gd s)(he:iY e)(hf:iD e){f:FuncId}{r:Int}(hg:jG (.int .i64 e.kind) uP=some (.fn f []))(hr:r≠0)(hm:SpB f [.box 100000 0,aS e] [stC s] (I r) [bots]):
 fnVC T Tryz.prog Tryz.f39 [invV s,aS e] (.tup [invV inv0,I r]):=by
 exact LC
open Classical in
def aD6(s:aJ)(n:Int)(f:aN->aJ×Int):aJ×Int:=
 if(∃m∈s.stocks,sid m=n)then(match s.stocks[bs sid s.stocks n]? with|some m=>f m|none=>(inv0,8))else(inv0,8)
open Classical in
def nM(s:aJ)(x:aN):aJ×Int:=if sid x∈s.used then(inv0,7)else(aX7 s x,0)
open Classical in
def relR(s:aJ)(e:Event):aJ×Int:=aD6 s e.id fun m=>if m.program=aI then(setK s (bs sid s.stocks e.id) (prog m e.text),0)else(inv0,27)
open Classical in
def bP3(s:aJ)(e:Event):aJ×Int:=aD6 s e.id fun m=>if m.program≠aI then(setK s (bs sid s.stocks e.id) (prog m aI),0)else(inv0,10)
open Classical in
def bQ0(s:aJ)(e:Event):aJ×Int:=aD6 s e.id fun m=>if m.program=aI then(aX4 s (bs sid s.stocks e.id) m,0)else(inv0,27)
open Classical in
def nK(s:aJ)(n st:Int)(o:ByteArray):aJ×Int:=
 if(∃m∈s.pieces,m.id=n)then(match s.pieces[bs Piece.id s.pieces n]? with|some m=>(if m.status=1 then(setP s (bs Piece.id s.pieces n) (marked m st o),0)else(inv0,10))|none=>(inv0,8))else(inv0,8)
open Classical in
def cutR(s:aJ)(e:Event):aJ×Int:=
 if¬dP s.used (fO e)then(inv0,7)else aD6 s e.id fun m=>if m.program=aI then(inv0,10)else
  if cZ m [] e.rests≠0 then(inv0,cZ m [] e.rests)else if nJ m e≠e.scrap then(inv0,29)else(cut5 s e (bs sid s.stocks e.id) m,0)
def bP2(s:aJ)(e:Event):aJ×Int:=
 if e.kind=1 then nM s ⟨false,e.sheet,bar0,aI⟩else if e.kind=2 then nM s ⟨true,dN,e.bar,aI⟩else if e.kind=3 then relR s e else if e.kind=4 then bP3 s e
 else if e.kind=5 then cutR s e else if e.kind=6 then nK s e.id 2 aI else if e.kind=7 then nK s e.id 3 e.text else bQ0 s e
open Classical in
def appR(s:aJ)(e:Event):aJ×Int:=if iD e then bP2 s e else(inv0,1)
def putK{α:Type}(key:α->Int)(l:List α)(x:α):List α:=putAt l (bs key l (key x)) x
theorem bE9{α:Type}{key:α->Int}:∀ {xs l:List α},(l.map key).Pairwise (·<·)->(∀x∈xs,∀y∈l,key y≠key x)->(xs.map key).Pairwise (·≠·)->
 ((xs.foldl (putK key) l).map key).Pairwise (·<·)/\(∀y,y∈xs.foldl (putK key) l↔y∈l\/y∈xs)/\(xs.foldl (putK key) l).length=l.length+xs.length
 | [],l,hs,_,_=>⟨hs,Ae,Ae⟩
 |x::xs,l,hs,hn,hd=>by
  obtain⟨hd1,hd2⟩:=List.pairwise_cons.1 hd;have h1:((putK key l x).map key).Pairwise (·<·):=yR hs (fun m hm=>hn x Ae m hm)
  obtain⟨q1,q2,q3⟩:=bE9 (xs:=xs) (l:=putK key l x) h1 (fun z hz y hy=>by
   rcases fH.1 hy with rfl|hy
   ·exact hd1 _ (List.mem_map_of_mem hz)
   ·exact hn z (by simp[hz]) y hy) hd2
  refine⟨q1,fun y=>?_,?_⟩
  ·rw[List.foldl_cons,q2,show(y∈putK key l x↔y=x\/y∈l)from fH,List.mem_cons]
   constructor
   ·rintro((h|h)|h)
    ·exact .inr (.inl h)
    ·exact .inl h
    ·exact .inr (.inr h)
   ·rintro(h|h|h)
    ·exact .inl (.inr h)
    ·exact .inl (.inl h)
    ·exact .inr h
  ·rw[List.foldl_cons,q3,show(putK key l x).length=l.length+1 from mQ,List.length_cons]
   omega
theorem qJ:∀ {ids used:List Int},dP used ids↔(∀n∈ids,n∉used)/\ids.Pairwise (·≠·)
 | [],used=>⟨fun _=>⟨Ae,List.Pairwise.nil⟩,fun _=>trivial⟩
 |n::ids,used=>by
  show(n∉used/\dP (putN used n) ids)↔_;rw[qJ,List.pairwise_cons];constructor
  ·rintro⟨h1,h2,h3⟩
   refine⟨fun m hm=>?_,fun m hm e=>?_,h3⟩
   ·rcases List.mem_cons.1 hm with rfl|hm
    ·exact h1
    ·exact fun h=>h2 m hm (fH.2 (.inr h))
   ·exact h2 m hm (fH.2 (.inl e.symm))
  ·rintro⟨h1,h2,h3⟩
   refine⟨h1 n Ae,fun m hm h=>?_,h3⟩;rcases fH.1 h with e|h
   ·exact h2 m hm e.symm
   ·exact h1 m (by simp[hm]) h
theorem tY{y:Int}:∀ {ids used:List Int},y∈cO used ids↔y∈used\/y∈ids
 | [],used=>by simp[cO]
 |n::ids,used=>by
  show y∈cO (putN used n) ids↔_;rw[tY,show(y∈putN used n↔y=n\/y∈used)from fH,List.mem_cons];constructor
  ·rintro((h|h)|h)
   ·exact .inr (.inl h)
   ·exact .inl h
   ·exact .inr (.inr h)
  ·rintro(h|h|h)
   ·exact .inl (.inr h)
   ·exact .inl (.inl h)
   ·exact .inr h
theorem kM{α:Type}(l:List α)(i:Nat):(nN l i).Sublist l:=by
 unfold nN
 have h:(l.take i++l.drop (i+1)).Sublist (l.take i++l.drop i):=List.Sublist.append (List.Sublist.refl _) (by
  rw[<-List.drop_drop];exact List.drop_sublist _ _)
 rwa [List.take_append_drop]at h
theorem bB0{α:Type}{key:α->Int}{l:List α}(h:(l.map key).Pairwise (·<·))(i:Nat):((nN l i).map key).Pairwise (·<·):=h.sublist ((kM l i).map key)
theorem bY6{α:Type}{key:α->Int}{l:List α}{k:Nat}{m x:α}(hm:l[k]? =some m)(hx:key x=key m):(l.set k x).map key=l.map key:=by
 apply List.ext_getElem?;intro i;rw[List.getElem?_map,List.getElem?_map,List.getElem?_set];split
 ·rename_i h
  subst h;split
  ·rw[hm];simp[hx]
  ·rename_i h2
   rw[List.getElem?_eq_none Aa]
 ·rfl
theorem tZ{x:aN}:∀ {R D:List Rest},cZ x D R=0->∀r∈R,iG x r=0
 | [],D,_=>Ae
 |r::R,D,h=>by
  unfold cZ at h;split at h
  ·rename_i h1;exact absurd h h1
  ·rename_i h1
   split at h
   ·cases h
   ·intro q hq
    rcases List.mem_cons.1 hq with rfl|hq
    ·exact Classical.not_not.1 h1
    ·exact tZ h q hq
theorem cL1{x:aN}{r:Rest}(h:iG x r=0):sid (dZ x r)=r.id:=by
 unfold dZ;unfold iG at h;by_cases hb:x.isBar=false
 ·rw[if_pos hb]at h⊢
  by_cases h1:r.lo≠0\/r.hi≠0
  ·rw[if_pos h1]at h;cases h
  ·rw[if_neg h1]at h⊢
   show(remS x.sheet r.box r.id).id=_;unfold remS;rw[if_pos h]
 ·rw[if_neg hb]
  have h':iG x r=0:=by unfold iG;rw[if_neg hb];rw[if_neg hb]at h;exact h
  rw[if_pos h'];rfl
theorem dL4{s:jL}{b:Bx}{id:Int}(hs:lK s):lK (remS s b id):=by
 unfold remS;split
 ·refine⟨aD2 _ _,Nat.le_trans (yK b s.defects) hs.2.1,fun d hd=>?_⟩
  obtain⟨q,hq,hd⟩:=List.mem_flatMap.1 hd;unfold aK2 at hd;split at hd
  ·rw[List.mem_singleton.1 hd]
   exact aD2 _ _
  ·cases hd
 ·exact⟨⟨G9,G9,fun r hr=>by simp[dN,sh0]at hr⟩,by simp[dN],fun d hd=>by simp[dN]at hd⟩
theorem xZ:lK dN:=⟨⟨G9,G9,fun r hr=>by simp[dN,sh0]at hr⟩,by simp[dN],fun d hd=>by simp[dN]at hd⟩
theorem aX5{x:aN}{r:Rest}(hx:eY x):eY (dZ x r):=by
 unfold dZ;split
 ·split
  ·exact⟨xZ,by simp[wS,bar0]⟩
  ·exact⟨dL4 hx.1,by simp[bar0]⟩
 ·split
  ·exact⟨xZ,Nat.le_trans (aG5 r _) hx.2⟩
  ·exact⟨xZ,by simp[wS,bar0]⟩
theorem mV{x:aN}{l:List Rest}(h:cZ x [] l=0):eG x l=l.map (dZ x):=by unfold eG;rw[if_pos h]
theorem aG9{x:aN}{l:List Rest}(h:cZ x [] l=0):(eG x l).map sid=l.map Rest.id:=by
 rw[mV h,List.map_map];exact List.map_congr_left fun r hr=>cL1 (tZ h r hr)
end Go.Proofs.Led
