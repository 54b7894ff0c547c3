/-
  The inventory as a variable: a stock that is cut.
-/
import Derived.Test.YtkhhdojgbkophaaGreatDoorBB8
set_option linter.unusedVariables false
set_option linter.unusedSimpArgs false
set_option maxRecDepth 100000
set_option maxHeartbeats 8000000
noncomputable section
namespace Go.Proofs.Led
open Go Go.Proofs Go.Ab
def fO(e:Event):List Int:=e.cuts.map Made.id++e.rests.map Rest.id
def sub1(n c:Int):Int:=W (n-minI c (W (n+1)))
def subL(n:Int)(l:List Int):Int:=l.foldl sub1 n
theorem bQ6(n:Int)(D:List Int)(c:Int):subL n (D++[c])=sub1 (subL n D) c:=by unfold subL;simp
def nJ(old:aN)(e:Event):Int:=subL (subL (gG old) (e.cuts.map Made.size)) ((eG old e.rests).map gG)
def fZ(e:Event)(old:aN)(c:Made):Piece:=⟨c.id,e.id,c.part,if old.isBar then old.bar.grade else old.sheet.grade,if old.isBar then old.bar.heat else old.sheet.heat,c.size,old.isBar,1,aI⟩
def putP(l:List Piece)(x:Piece):List Piece:=putAt l (bs Piece.id l x.id) x
def cut1(s:aJ)(e:Event):aJ:={s with used:=cO s.used (fO e)}
def cut2(s:aJ)(e:Event)(k:Nat):aJ:={cut1 s e with stocks:=nN s.stocks k}
def cut3(s:aJ)(e:Event)(k:Nat)(l:List aN):aJ:={cut2 s e k with stocks:=l.foldl putS (nN s.stocks k)}
def cut4(s:aJ)(e:Event)(k:Nat)(old:aN)(l:List aN)(c:List Made):aJ:={cut3 s e k l with pieces:=c.foldl (fun p x=>putP p (fZ e old x)) s.pieces}
def cut5(s:aJ)(e:Event)(k:Nat)(old:aN):aJ:={cut4 s e k old (eG old e.rests) e.cuts with scrap:=plus old.isBar s.scrap e.scrap}
def eL3(s:aJ)(e:Event)(k:Nat)(r:Int)(bs':List (List V)):Prop:=
 (¬dP s.used (fO e)/\r=7/\bs'=[bots])\/
 (dP s.used (fO e)/\((¬(∃m∈s.stocks,sid m=e.id)/\r=8/\bs'=[bots])\/
  ∃m,(∃m∈s.stocks,sid m=e.id)/\s.stocks[k]? =some m/\((m.program=aI/\r=10/\bs'=[bots])\/
   (m.program≠aI/\eY m/\((cZ m [] e.rests≠0/\r=cZ m [] e.rests/\bs'=[bots])\/
     (cZ m [] e.rests=0/\(∀x∈eG m e.rests,eY x)/\(eG m e.rests).length<=1000000/\((nJ m e≠e.scrap/\r=29/\bs'=[bots])\/
      (nJ m e=e.scrap/\(∀D R,eG m e.rests=D++R->Gd (cut3 s e k D))/\(∀D R,e.cuts=D++R->Gd (cut4 s e k m (eG m e.rests) D))/\r=0/\bs'=[stC (cut5 s e k m)]))))))))
theorem aA8:∀(ids used:List Int),(used.map id).Pairwise (·<·)->dP used ids->((cO used ids).map id).Pairwise (·<·)/\(cO used ids).length=used.length+ids.length
 | [],used,h,_=>⟨h,rfl⟩
 |n::r,used,h,⟨h1,h2⟩=>by
  obtain⟨q1,q2⟩:=aA8 r (putN used n) (rF h h1) h2;refine⟨q1,?_⟩;show(cO (putN used n) r).length=_;rw[q2,show(putN used n).length=used.length+1 from mQ,List.length_cons];omega
theorem eQ6{s:aJ}{e:Event}(hs:Gd s)(hl:s.used.length+(fO e).length<=1000000)(h:dP s.used (fO e)):Gd (cut1 s e):=by
 obtain⟨q1,q2⟩:=aA8 _ _ hs.su h;exact⟨hs.ls,hs.lp,by show(cO s.used (fO e)).length<=_;rw[q2];exact hl,hs.ss,hs.sp,q1⟩
def stB3(s:aJ)(a b c:Nat):List V:=[.arr 100000 a, .arr 100001 b, .arr 100002 c,I s.received.1,I s.received.2,I s.scrap.1,I s.scrap.2]
def stA3(s:aJ)(a b c:Nat):List (Nat×AE):=[(100000,⟨a, .own,87,s.stocks.map aQ⟩),(100001,⟨b, .own,78,s.pieces.map aZ⟩),(100002,⟨c, .own,3,s.used.map I⟩)]
theorem eX3(s:aJ)(e:Event){r:Int}{bs':List (List V)}(hs:Gd s)(he:iY e)(hl:s.used.length+(fO e).length<=1000000)(hR:eL3 s e (bs sid s.stocks e.id) r bs'):
 jR T Tryz.prog Tryz.f40 [.box 100000 0,aS e] [stC s] (I r) bs':=by
 have hc:=he.ct;have hrs:=he.rs
 have hm1:(e.cuts.map dK).length=e.cuts.length:=Ae;have hm2:(e.rests.map bY).length=e.rests.length:=Ae
 repeat' ((conv=>whnf);first|refine zS ?_|fail)
 refine aU (A:=List Made) (B:=List Made) (fun D R=>mkSt [(0, .box 100000 0),(3, .box 3 0),(5, .arr 40 D.length),(30, .sl (e.cuts.map dK)),(31,I e.cuts.length),(32,I D.length)] [(100000,stB s 0),(3,iJ e)] ((40,⟨D.length, .own,3,(D.map Made.id).map I⟩)::stA s s.used 0)) (fun D R=>e.cuts=D++R) (fun D R=>R.length) [] e.cuts ?_ rfl (fun D R hp=>?_)
 ·exact J6
 cases R with
 |cons c R=>
  have hlen:=aO hp;have hlD:((D++[c]).length:Int)=(D.length:Int)+1:=Ae
  have hDl:((D.map Made.id).map I).length=D.length:=Ae
  repeat' ((conv=>whnf);first|(exfalso;omega)|refine iH rfl (.inl rfl) rfl (of_decide_eq_true rfl) (dA rfl) (show((D.map Made.id).map I).length+1<=1000000000 from Aa) ?_|refine zS ?_|refine zT ?_ ?_<;>intro _|fail)
  all_goals conv=>whnf
  refine⟨(D++[c],R),?_,Af,Ae⟩;simp only[List.length_append,List.length_singleton,List.map_append,List.map_cons,List.map_nil];exact zj
 |nil=>
  have hlen:e.cuts.length=D.length:=Af;have eD:e.cuts=D:=Af
  have hDl:((D.map Made.id).map I).length=D.length:=Ae;have hids:fO e=D.map Made.id++e.rests.map Rest.id:=by unfold fO;rw[eD]
  clear hp
  repeat' ((conv=>whnf);first|(exfalso;omega)|refine zS ?_|refine zT ?_ ?_<;>intro _|fail)
  refine aU (A:=List Rest) (B:=List Rest) (fun E R=>mkSt [(0, .box 100000 0),(3, .box 3 0),(5, .arr 40 (D.length+E.length)),(43, .sl (e.rests.map bY)),(44,I e.rests.length),(45,I E.length)] [(100000,stB s 0),(3,iJ e)] ((40,⟨D.length+E.length, .own,3,(D.map Made.id++E.map Rest.id).map I⟩)::stA s s.used 0)) (fun E R=>e.rests=E++R) (fun E R=>R.length) [] e.rests ?_ rfl (fun E R hp=>?_)
  ·simp only[List.map_nil,List.append_nil,List.length_nil,Nat.add_zero]
   refine dV ?_ ?_ ?_ ?_;all_goals repeat' (first|exact trivial|refine And.intro ?_ ?_|with_reducible rfl|exact(fun h=>Ad)|exact Nat.le_refl _|omega|exact rfl)
   all_goals (try rw[hm2])
  cases R with
  |cons c R=>
   have hlen2:=aO hp;have hlE:((E++[c]).length:Int)=(E.length:Int)+1:=Ae
   have hEl:((D.map Made.id++E.map Rest.id).map I).length=D.length+E.length:=Ae
   repeat' ((conv=>whnf);first|(exfalso;omega)|refine iH rfl (.inl rfl) rfl (of_decide_eq_true rfl) (dA rfl) (show((D.map Made.id++E.map Rest.id).map I).length+1<=1000000000 from Aa) ?_|refine zS ?_|refine zT ?_ ?_<;>intro _|fail)
   all_goals conv=>whnf
   refine⟨(E++[c],R),?_,Af,Ae⟩;simp only[List.length_append,List.length_singleton,List.map_append,List.map_cons,List.map_nil,<-List.append_assoc];exact zj
  |nil=>
   have hlen2:e.rests.length=E.length:=Af;have eE:e.rests=E:=Af
   rw[eE]at hids;rw[<-hids];have hk:=bQ8 sid s.stocks e.id;have hll:(s.stocks.map aQ).length=s.stocks.length:=Ae
   have hls:=hs.ls;rcases hR with⟨hno,rfl,rfl⟩|⟨hok,hR⟩
   ·have f1:=aU4 s (fO e) hs hl hno
    repeat' ((conv=>whnf);first|(exfalso;omega)|refine zh (f1) [100000] ?_|refine zS ?_|refine zT ?_ ?_<;>intro _|fail)
    all_goals conv=>whnf
    all_goals first|exact⟨_,rfl,zc1⟩|exact zc1
   have f1:=aT7 s (fO e) hs hl hok;have f2:=find_spec (cut1 s e) e.id (eQ6 hs hl hok)
   change SpB _ _ _ _ [stC (cut1 s e)]at f1;change SpB _ _ [stC (cut1 s e)] (.tup [I (bs sid s.stocks e.id),DB (∃m∈s.stocks,sid m=e.id)]) [stC (cut1 s e)]at f2;generalize bs sid s.stocks e.id=k at*;generalize (∃m∈s.stocks,sid m=e.id)=P at*;rcases hR with⟨hno,rfl,rfl⟩|⟨m,hP,hm,hR⟩
   ·repeat' ((conv=>whnf);first|(exfalso;contradiction)|(exfalso;omega)|refine zh (f1) [100000] ?_|refine zh (f2) [100000] ?_|refine zS ?_|refine zT ?_ ?_<;>intro _|fail)
    all_goals conv=>whnf
    all_goals first|exact⟨_,rfl,zc1⟩|exact zc1
   have hkl:=(List.getElem?_eq_some_iff.1 hm).1;rcases hR with⟨hpe,rfl,rfl⟩|⟨hpe,hmz,hR⟩
   ·repeat' ((conv=>whnf);first|(exfalso;contradiction)|(exfalso;omega)|refine jI (fun heq=>?_) (fun heq=>?_)|refine zh (f1) [100000] ?_|refine zh (f2) [100000] ?_|refine dS rfl rfl Aj ?_|refine zS ?_|refine zT ?_ ?_<;>intro _|fail)
    all_goals conv=>whnf
    all_goals first|exact⟨_,rfl,zc1⟩|exact zc1
   have f3:=cU2 m e hmz hrs;have f4:=vF m hmz
   rcases hR with⟨hrE,rfl,rfl⟩|⟨hrE,hlz,hln,hR⟩
   ·generalize cZ m [] e.rests=RE at*
    generalize eG m e.rests=RL at*
    repeat' ((conv=>whnf);first|(exfalso;contradiction)|(exfalso;omega)|refine jI (fun heq=>?_) (fun heq=>?_)|refine zh (f1) [100000] ?_|refine zh (f2) [100000] ?_|refine dS rfl rfl Aj ?_|refine zS ?_|refine zT ?_ ?_<;>intro _|fail)
    all_goals conv=>whnf
    all_goals first|exact⟨_,rfl,zc1⟩|exact zc1
   rw[hrE]at f3;have hrl:((eG m e.rests).map aQ).length=(eG m e.rests).length:=Ae;generalize hRL:eG m e.rests=RL at*
   repeat' ((conv=>whnf);first|(exfalso;contradiction)|(exfalso;omega)|refine jI (fun heq=>?_) (fun heq=>?_)|refine zh (f1) [100000] ?_|refine zh (f2) [100000] ?_|refine dS rfl rfl Aj ?_|refine zS ?_|refine zT ?_ ?_<;>intro _|fail)
   all_goals conv=>whnf
   have hlk:nJ m e=subL (subL (gG m) (e.cuts.map Made.size)) (RL.map gG):=by unfold nJ;rw[hRL]
   generalize gG m=n0 at*;refine aU (A:=List Made) (B:=List Made) (fun F R=>mkSt [(0, .box 100000 0),(3, .box 3 0),(11,I k),(13, .box 13 0),(14, .arr 91 0),(16,I (subL n0 (F.map Made.size))),(100, .sl (e.cuts.map dK)),(101,I e.cuts.length),(102,I F.length)] [(100000,stB3 (cut1 s e) 2 2 2),(3,iJ e),(13,gB m)] ((91,⟨0, .own,87,RL.map aQ⟩)::stA3 (cut1 s e) 2 2 2)) (fun F R=>e.cuts=F++R) (fun F R=>R.length) [] e.cuts ?_ rfl (fun F R hp=>?_)
   ·exact J6
   cases R with
   |cons c R=>
    have hlen3:=aO hp;have hsn:=bQ6 n0 (F.map Made.size) c.size
    repeat' ((conv=>whnf);first|(exfalso;omega)|refine zS ?_|refine zT ?_ ?_<;>intro _|fail)
    all_goals conv=>whnf
    refine⟨(F++[c],R),?_,Af,Ae⟩;simp only[List.length_append,List.length_singleton,List.map_append,List.map_cons,List.map_nil,hsn];exact zj
   |nil=>
    have hlen3:e.cuts.length=F.length:=Af;have eF:e.cuts=F:=Af
    rw[eF]at hlk;generalize subL n0 (F.map Made.size)=n1 at*
    repeat' ((conv=>whnf);first|(exfalso;omega)|refine zS ?_|refine zT ?_ ?_<;>intro _|fail)
    clear hp;refine aU (A:=List aN) (B:=List aN) (fun H R=>mkSt [(0, .box 100000 0),(3, .box 3 0),(11,I k),(13, .box 13 0),(14, .arr 91 0),(16,I (subL n1 (H.map gG))),(114, .arr 91 0),(115,I RL.length),(116,I H.length)] [(100000,stB3 (cut1 s e) 2 2 2),(3,iJ e),(13,gB m)] ((91,⟨0, .own,87,RL.map aQ⟩)::stA3 (cut1 s e) 2 2 2)) (fun H R=>RL=H++R) (fun H R=>R.length) [] RL ?_ rfl (fun H R hp=>?_)
    ·refine dV ?_ ?_ ?_ ?_
     all_goals repeat' (first|exact trivial|refine And.intro ?_ ?_|with_reducible rfl|exact(fun h=>Ad)|exact Nat.le_refl _|omega|exact rfl)
     all_goals (try rw[hrl])
    cases R with
    |cons x R=>
     have hlen4:=aO hp;have g1:=vF x (hlz x Af)
     have hsn:=bQ6 n1 (H.map gG) (gG x);generalize hzx:gG x=zx at*
     repeat' ((conv=>whnf);first|(exfalso;omega)|refine dS rfl rfl ES ?_|refine zS ?_|refine zT ?_ ?_<;>intro _|fail)
     all_goals conv=>whnf
     refine⟨(H++[x],R),?_,Af,Ae⟩;simp only[List.length_append,List.length_singleton,List.map_append,List.map_cons,List.map_nil,hzx,hsn];exact zj
    |nil=>
     have hlen4:RL.length=H.length:=Af;have eH:RL=H:=Af
     rw[<-eH];rw[<-hlk];clear hp;rcases hR with⟨hsc,rfl,rfl⟩|⟨hsc,hG5,hG6,rfl,rfl⟩
     ·generalize nJ m e=n2 at*
      exact NP
     generalize nJ m e=n2 at*;have f5:=bK1 s.stocks k hkl Aa
     repeat' ((conv=>whnf);first|(exfalso;omega)|refine zS ?_|refine zT ?_ ?_<;>intro _|fail)
     all_goals conv=>whnf
     have h5:cut5 s e k m={cut4 s e k m RL e.cuts with scrap:=plus m.isBar s.scrap e.scrap}:=by unfold cut5;rw[hRL]
     rw[h5];refine aU (A:=List aN) (B:=List aN) (fun J R=>mkSt [(0, .box 100000 0),(3, .box 3 0),(13, .box 13 0),(143, .arr 91 0),(144,I RL.length),(145,I J.length)] [(100000,stB3 (cut3 s e k J) (3+J.length) (2+J.length) (2+J.length)),(3,iJ e),(13,gB m)] ((91,⟨0, .own,87,RL.map aQ⟩)::stA3 (cut3 s e k J) (3+J.length) (2+J.length) (2+J.length))) (fun J R=>RL=J++R) (fun J R=>R.length) [] RL ?_ rfl (fun J R hp=>?_)
     ·show Le T _ (mkSt [(0, .box 100000 0),(3, .box 3 0),(13, .box 13 0),(143, .arr 91 0),(144,I RL.length),(145,I 0)] [(100000,stB3 (cut2 s e k) 3 2 2),(3,iJ e),(13,gB m)] ((91,⟨0, .own,87,RL.map aQ⟩)::stA3 (cut2 s e k) 3 2 2))
      refine dV ?_ ?_ ?_ ?_;all_goals repeat' (first|exact trivial|refine And.intro ?_ ?_|with_reducible rfl|exact(fun h=>Ad)|exact Nat.le_refl _|omega|exact rfl)
      all_goals (try rw[hrl])
     cases R with
     |cons x R=>
      have hlen5:=aO hp;have g1:=cF7 (cut3 s e k J) x (hG5 J (x::R) hp)
      have hsn:addS (cut3 s e k J) x=cut3 s e k (J++[x]):=by unfold addS cut3;simp only[List.foldl_append,List.foldl_cons,List.foldl_nil]
      rw[hsn]at g1
      repeat' ((conv=>whnf);first|(exfalso;omega)|refine dS rfl rfl ES ?_|refine zh (g1) [100000] ?_|refine zS ?_|refine zT ?_ ?_<;>intro _|fail)
      all_goals conv=>whnf
      refine⟨(J++[x],R),?_,Af,Ae⟩;exact Nh
     |nil=>
      have hlen5:RL.length=J.length:=Af;have eJ:RL=J:=Af
      rw[<-eJ];clear hp;obtain⟨b,sh,br,p⟩:=m;cases b
      ·have f6:=oL false
       repeat' ((conv=>whnf);first|(exfalso;omega)|refine zS ?_|refine zT ?_ ?_<;>intro _|fail)
       refine aU (A:=List Made) (B:=List Made) (fun Q R=>mkSt [(0, .box 100000 0),(3, .box 3 0),(13, .box 13 0),(23,S sh.grade),(24,S sh.heat),(168, .sl (e.cuts.map dK)),(169,I e.cuts.length),(170,I Q.length)] [(100000,stB3 (cut4 s e k ⟨false,sh,br,p⟩ RL Q) (3+RL.length+Q.length) (2+RL.length+2*Q.length) (2+RL.length+Q.length)),(3,iJ e),(13,gB ⟨false,sh,br,p⟩)] (stA3 (cut4 s e k ⟨false,sh,br,p⟩ RL Q) (3+RL.length+Q.length) (2+RL.length+2*Q.length) (2+RL.length+Q.length))) (fun Q R=>e.cuts=Q++R) (fun Q R=>R.length) [] e.cuts ?_ rfl (fun Q R hp=>?_)
       ·show Le T _ (mkSt [(0, .box 100000 0),(3, .box 3 0),(13, .box 13 0),(23,S sh.grade),(24,S sh.heat),(168, .sl (e.cuts.map dK)),(169,I e.cuts.length),(170,I 0)] [(100000,stB3 (cut3 s e k RL) (3+RL.length) (2+RL.length) (2+RL.length)),(3,iJ e),(13,gB ⟨false,sh,br,p⟩)] (stA3 (cut3 s e k RL) (3+RL.length) (2+RL.length) (2+RL.length)))
        exact NI
       cases R with
       |cons c R=>
        have hlen6:=aO hp;have g1:=uQ (cut4 s e k ⟨false,sh,br,p⟩ RL Q) c.id (hG6 Q (c::R) hp)
        have g2:=bU8 (cut4 s e k ⟨false,sh,br,p⟩ RL Q).pieces (bs Piece.id (cut4 s e k ⟨false,sh,br,p⟩ RL Q).pieces c.id) (fZ e ⟨false,sh,br,p⟩ c) (bQ8 _ _ _) (by have:=(hG6 Q (c::R) hp).lp;omega)
        have hsn:(cut4 s e k ⟨false,sh,br,p⟩ RL (Q++[c])).pieces=putAt (cut4 s e k ⟨false,sh,br,p⟩ RL Q).pieces (bs Piece.id (cut4 s e k ⟨false,sh,br,p⟩ RL Q).pieces c.id) (fZ e ⟨false,sh,br,p⟩ c):=BR;generalize bs Piece.id (cut4 s e k ⟨false,sh,br,p⟩ RL Q).pieces c.id=kk at*;generalize (∃m∈(cut4 s e k ⟨false,sh,br,p⟩ RL Q).pieces,m.id=c.id)=PP at*;exact Np
       |nil=>exact Jo
      ·have f6:=oL true
       repeat' ((conv=>whnf);first|(exfalso;omega)|refine zS ?_|refine zT ?_ ?_<;>intro _|fail)
       refine aU (A:=List Made) (B:=List Made) (fun Q R=>mkSt [(0, .box 100000 0),(3, .box 3 0),(13, .box 13 0),(23,S br.grade),(24,S br.heat),(168, .sl (e.cuts.map dK)),(169,I e.cuts.length),(170,I Q.length)] [(100000,stB3 (cut4 s e k ⟨true,sh,br,p⟩ RL Q) (3+RL.length+Q.length) (2+RL.length+2*Q.length) (2+RL.length+Q.length)),(3,iJ e),(13,gB ⟨true,sh,br,p⟩)] (stA3 (cut4 s e k ⟨true,sh,br,p⟩ RL Q) (3+RL.length+Q.length) (2+RL.length+2*Q.length) (2+RL.length+Q.length))) (fun Q R=>e.cuts=Q++R) (fun Q R=>R.length) [] e.cuts ?_ rfl (fun Q R hp=>?_)
       ·show Le T _ (mkSt [(0, .box 100000 0),(3, .box 3 0),(13, .box 13 0),(23,S br.grade),(24,S br.heat),(168, .sl (e.cuts.map dK)),(169,I e.cuts.length),(170,I 0)] [(100000,stB3 (cut3 s e k RL) (3+RL.length) (2+RL.length) (2+RL.length)),(3,iJ e),(13,gB ⟨true,sh,br,p⟩)] (stA3 (cut3 s e k RL) (3+RL.length) (2+RL.length) (2+RL.length)))
        exact NI
       cases R with
       |cons c R=>
        have hlen6:=aO hp;have g1:=uQ (cut4 s e k ⟨true,sh,br,p⟩ RL Q) c.id (hG6 Q (c::R) hp)
        have g2:=bU8 (cut4 s e k ⟨true,sh,br,p⟩ RL Q).pieces (bs Piece.id (cut4 s e k ⟨true,sh,br,p⟩ RL Q).pieces c.id) (fZ e ⟨true,sh,br,p⟩ c) (bQ8 _ _ _) (by have:=(hG6 Q (c::R) hp).lp;omega)
        have hsn:(cut4 s e k ⟨true,sh,br,p⟩ RL (Q++[c])).pieces=putAt (cut4 s e k ⟨true,sh,br,p⟩ RL Q).pieces (bs Piece.id (cut4 s e k ⟨true,sh,br,p⟩ RL Q).pieces c.id) (fZ e ⟨true,sh,br,p⟩ c):=BR;generalize bs Piece.id (cut4 s e k ⟨true,sh,br,p⟩ RL Q).pieces c.id=kk at*;generalize (∃m∈(cut4 s e k ⟨true,sh,br,p⟩ RL Q).pieces,m.id=c.id)=PP at*;exact Np
       |nil=>exact Jo
theorem xP(s:aJ)(e:Event){r:Int}{bs':List (List V)}(hs:Gd s)(he:iY e)(hl:s.used.length+(fO e).length<=1000000)(hR:eL3 s e (bs sid s.stocks e.id) r bs')(hb:bs'=[bots]\/∃s',bs'=[stC s']):
 SpB 40 [.box 100000 0,aS e] [stC s] (I r) bs':=
 b_of Tryz.func40 Ac Ac rfl (by rcases hb with rfl|⟨s',rfl⟩<;>rfl) (eX3 s e hs he hl hR)
end Go.Proofs.Led
