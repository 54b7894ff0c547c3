/-
  The statement on the books behind events, walked.
-/
import Derived.Test.YtkhhdojgbkophaaGreatDoorBK16
set_option linter.unusedVariables false
set_option linter.unusedSimpArgs false
set_option maxRecDepth 100000
set_option maxHeartbeats 8000000
noncomputable section
namespace Go.Proofs.Cost58
open Go Go.Proofs Go.Ab Go.Proofs.Led
theorem bH2{l:List Led.Event}(h:∀e∈l,more e<=21):moreL l<=21*l.length:=by
 induction l with
 |nil=>exact Nat.le_refl 0
 |cons e l ih=>
  have h1:=ih (fun x hx=>h x BO);have h2:=h e Ae
  unfold moreL at*;rw[List.map_cons,List.sum_cons,List.length_cons];omega
theorem aQ4{e:Led.Event}(hb:bI1 e)(hf:fewE e):iY e/\e.cuts.length<=12/\e.rests.length<=8/\more e<=21:=by
 obtain⟨⟨h1,h2,h3,h4,h5⟩,h6⟩:=hf;obtain⟨⟨⟨b1,b2,b3⟩,b4,b5⟩,b6,b7,b8⟩:=hb;obtain⟨s1,s2,s3,s4,s5⟩:=h4;have h1':e.cuts.length<=12:=Aa;have h2':e.rests.length<=8:=Aa
 refine⟨⟨⟨⟨b1,?_,b3⟩,Aa,fun d hd=>⟨(b5 d hd).1,?_,(b5 d hd).2.2⟩⟩,by have:=h5.2.2;omega,Aa,Aa⟩,h1',h2',Gq⟩
 ·have:=s5.1;omega
 ·have:=(s1 d hd).1;omega
theorem szd_bg{x:aN}(h:eY x):shBg x.sheet.shape:=by
 obtain⟨h1,h2,h3⟩:=h.1.1;exact⟨Aa,Aa,fun r hr=>by have:=h3 r hr;omega⟩
theorem inv_call{s:aJ}{n:Nat}(r:Rt)(hr:rtOk r)(h:Led.Good s n)(hn:n<=1000000)(hp:Shp s){o:ByteArray}(ho:o∈ordL s.pieces):
 Sp 10 [rtV r,invV s,S o] (.tup [.sl ((linesI r o (lsOf s).pieces).map S),I (runI r o (lsOf s).pieces).sum,I 0]):=by
 have hlp:=Nat.le_trans h.ok.lp hn;obtain⟨p,hp1,hp2,hp3⟩:=((ord_ok s.pieces).2.2 o).1 ho;have hon:iM o:=by rw[<-hp3];exact(hp p hp1).od hp2
 have k:=invoice_spec r (lsOf s) o hr hon (by show(s.pieces.map pcOf).length<=_;simpa using hlp) (fun p hp'=>by
  obtain⟨q,hq,rfl⟩:=List.mem_map.1 (show p∈s.pieces.map pcOf from hp');have:=(hp q hq).nm.2.1;show q.part.size<=_;omega)
 rw[lsV_of]at k;exact k
theorem lawBooks_vc(r:Rt)(l:List Led.Event)(hl:l.length<=9223372036854775807)(hb:∀e∈l,bI1 e):fnVC T Tryz.prog Tryz.f4 [rtV r, .sl (l.map aS)] (.lit (.bool true)):=by
 have hm:(l.map aS).length=l.length:=Ae;have g0:=zB
 have g1:=aS2 l 15 hl hb;have g2:=rvalid_spec r
 by_cases hf:fewL l 15;rotate_left
 ·rw[dpF hf]at g1
  repeat' ((conv=>whnf);first
   |(refine aS5 (g0) false ?_ rfl ?_;focus ((repeat' (first|exact trivial|refine And.intro ?_ ?_|with_reducible rfl|exact(fun h=>Ad)|exact rfl));done))
   |(refine aS5 (g1) false ?_ rfl ?_;focus ((repeat' (first|exact trivial|refine And.intro ?_ ?_|with_reducible rfl|exact(fun h=>Ad)|exact rfl));done))
   |refine eY7 ?_
   |refine eZ1 Ac ?_
   |refine eH4 Aa ?_
   |refine bW7 ?_
   |refine fU (p:=(T.row _).eq=true) Ac ?_
   |refine fU Aa ?_
   |refine fU rfl ?_
   |refine eZ2 ?_
   |refine eZ0 (fun hd=>?_) (fun hd=>?_)
   |refine br_lt (fun hlt=>?_) (fun hlt=>?_)
   |refine br_le (fun hle=>?_) (fun hle=>?_)
   |refine eV7 (fun heq=>?_) (fun heq=>?_)
   |refine eQ9 Aa (fun x hx=>?_)
   |refine eY0 rfl (fun h=>Ad) ?_
   |refine jU (fun hbb=>?_) (fun hbb=>?_)
   |refine ret_i ?_
   |refine fA7 ?_)
  all_goals conv=>whnf
  all_goals first
   |exact aG rfl
   |exact aK rfl
   |exact aP rfl
   |(refine⟨?_,rfl,fun rs h=>V.noConfusion h⟩;(repeat' (first|exact trivial|refine And.intro ?_ ?_|with_reducible rfl|exact(fun h=>Ad)|exact rfl));done)
   |(refine⟨_,rfl,?_⟩;(repeat' (first|exact trivial|refine And.intro ?_ ?_|with_reducible rfl|exact(fun h=>Ad)|exact rfl));done)
 rw[dpT hf]at g1;by_cases hr:rtOk r;rotate_left
 ·rw[dW.2 hr]at g2
  repeat' ((conv=>whnf);first
   |(refine aS5 (g0) false ?_ rfl ?_;focus ((repeat' (first|exact trivial|refine And.intro ?_ ?_|with_reducible rfl|exact(fun h=>Ad)|exact rfl));done))
   |(refine aS5 (g1) false ?_ rfl ?_;focus ((repeat' (first|exact trivial|refine And.intro ?_ ?_|with_reducible rfl|exact(fun h=>Ad)|exact rfl));done))
   |(refine aS5 (g2) false ?_ rfl ?_;focus ((repeat' (first|exact trivial|refine And.intro ?_ ?_|with_reducible rfl|exact(fun h=>Ad)|exact rfl));done))
   |refine eY7 ?_
   |refine eZ1 Ac ?_
   |refine eH4 Aa ?_
   |refine bW7 ?_
   |refine fU (p:=(T.row _).eq=true) Ac ?_
   |refine fU Aa ?_
   |refine fU rfl ?_
   |refine eZ2 ?_
   |refine eZ0 (fun hd=>?_) (fun hd=>?_)
   |refine br_lt (fun hlt=>?_) (fun hlt=>?_)
   |refine br_le (fun hle=>?_) (fun hle=>?_)
   |refine eV7 (fun heq=>?_) (fun heq=>?_)
   |refine eQ9 Aa (fun x hx=>?_)
   |refine eY0 rfl (fun h=>Ad) ?_
   |refine jU (fun hbb=>?_) (fun hbb=>?_)
   |refine ret_i ?_
   |refine fA7 ?_)
  all_goals conv=>whnf
  all_goals first
   |exact aG rfl
   |exact aK rfl
   |exact aP rfl
   |(refine⟨?_,rfl,fun rs h=>V.noConfusion h⟩;(repeat' (first|exact trivial|refine And.intro ?_ ?_|with_reducible rfl|exact(fun h=>Ad)|exact rfl));done)
   |(refine⟨_,rfl,?_⟩;(repeat' (first|exact trivial|refine And.intro ?_ ?_|with_reducible rfl|exact(fun h=>Ad)|exact rfl));done)
 rw[dH.2 hr]at g2;obtain⟨hf1,hf2⟩:=hf;have hfs:∀e∈l,iY e/\e.cuts.length<=12/\e.rests.length<=8/\more e<=21:=fun e he=>aQ4 (hb e he) (hf1 e he);have hml:=bH2 (fun e he=>(hfs e he).2.2.2)
 repeat' ((conv=>whnf);first
  |(refine aS5 (g0) false ?_ rfl ?_;focus ((repeat' (first|exact trivial|refine And.intro ?_ ?_|with_reducible rfl|exact(fun h=>Ad)|exact rfl));done))
  |(refine aS5 (g1) false ?_ rfl ?_;focus ((repeat' (first|exact trivial|refine And.intro ?_ ?_|with_reducible rfl|exact(fun h=>Ad)|exact rfl));done))
  |(refine aS5 (g2) false ?_ rfl ?_;focus ((repeat' (first|exact trivial|refine And.intro ?_ ?_|with_reducible rfl|exact(fun h=>Ad)|exact rfl));done))
  |refine eY7 ?_
  |refine eZ1 Ac ?_
  |refine eH4 Aa ?_
  |refine bW7 ?_
  |refine fU (p:=(T.row _).eq=true) Ac ?_
  |refine fU Aa ?_
  |refine fU rfl ?_
  |refine eZ2 ?_
  |refine eZ0 (fun hd=>?_) (fun hd=>?_)
  |refine br_lt (fun hlt=>?_) (fun hlt=>?_)
  |refine br_le (fun hle=>?_) (fun hle=>?_)
  |refine eV7 (fun heq=>?_) (fun heq=>?_)
  |refine eQ9 Aa (fun x hx=>?_)
  |refine eY0 rfl (fun h=>Ad) ?_
  |refine jU (fun hbb=>?_) (fun hbb=>?_)
  |refine ret_i ?_
  |refine fA7 ?_)
 refine oU (A:=aJ) (B:=List Led.Event) (C:=List Led.Event) (fun s D R=>mkSt [(2, .box 2 0),(5, .box 5 0),(37, .sl (l.map aS)),(38,I l.length),(39,I D.length)] [(2,(rtV r).cells),(5,invC s)] []) (fun s D R=>l=D++R/\∃n,Led.Good s n/\Shp s/\n+moreL R<=1000) (fun s D R=>R.length) inv0 [] l ?_ ⟨rfl,0,cN2,shp0,Aa⟩ (fun s D R hp=>?_)
 ·show Le T _ (mkSt [(2, .box 2 0),(5, .box 5 0),(37, .sl (l.map aS)),(38,I l.length),(39,I 0)] [(2,(rtV r).cells),(5,invC inv0)] [])
  refine dV ?_ ?_ ?_ ?_;all_goals repeat' (first|exact trivial|refine And.intro ?_ ?_|with_reducible rfl|exact(fun h=>Ad)|exact Nat.le_refl _|omega|exact rfl)
  all_goals (try rw[hm])
 obtain⟨hp,n,hn,hsp,hnl⟩:=hp
 cases R with
 |cons e R=>
  have hlen:=aO hp;have em:moreL (e::R)=more e+moreL R:=by unfold moreL;simp
  obtain⟨z1,z2,z3,z4⟩:=hfs e Af;have k1:=bB8 e Aa Aa;have k2:=(kG hn.ok (e:=e) Aa z1).1
  have k3:=good_step (e:=e) hn;have k5:=aZ6 (e:=e) hn.ok
  have hlD:((D++[e]).length:Int)=(D.length:Int)+1:=Ae;have kk:∀s',Led.Good s' (n+more e)->Shp s'->∃n',Led.Good s' n'/\Shp s'/\n'+moreL R<=1000:=fun s' h h'=>⟨_,h,h',Aa⟩
  have kk0:∃n',Led.Good s n'/\Shp s/\n'+moreL R<=1000:=⟨n,hn,hsp,Aa⟩;by_cases c:(appR s e).2=0
  ·have hG:=k3 c
   have hS:=shp_step hsp (k5 c).1 (k5 c).2;rw[c]at k2;clear k3 k5 c;generalize appR s e=a at*
   repeat' ((conv=>whnf);first
    |(exfalso;omega)
    |refine aB (l:=l) Aa ?_
    |refine aF (l:=l) (A:=D) (x:=e) (B:=R) hp Aa ?_
    |(refine aS5 (k1) false ?_ rfl ?_;focus ((repeat' (first|exact trivial|refine And.intro ?_ ?_|with_reducible rfl|exact(fun h=>Ad)|exact rfl));done))
    |(refine aS5 (k2) false ?_ rfl ?_;focus ((repeat' (first|exact trivial|refine And.intro ?_ ?_|with_reducible rfl|exact(fun h=>Ad)|exact rfl));done))
    |refine eY7 ?_
    |refine eZ1 Ac ?_
    |refine eH4 Aa ?_
    |refine bW7 ?_
    |refine fU (p:=(T.row _).eq=true) Ac ?_
    |refine fU Aa ?_
    |refine fU rfl ?_
    |refine eZ2 ?_
    |refine eZ0 (fun hd=>?_) (fun hd=>?_)
    |refine br_lt (fun hlt=>?_) (fun hlt=>?_)
    |refine br_le (fun hle=>?_) (fun hle=>?_)
    |refine eV7 (fun heq=>?_) (fun heq=>?_)
    |refine eQ9 Aa (fun x hx=>?_)
    |refine eY0 rfl (fun h=>Ad) ?_
    |refine jU (fun hbb=>?_) (fun hbb=>?_)
    |refine ret_i ?_
    |refine fA7 ?_)
   all_goals conv=>whnf
   refine⟨(a.1,D++[e],R),?_,⟨Af,kk _ hG hS⟩,Ae⟩;simp only[List.length_append,List.length_singleton];exact MO
  ·clear k3 k5
   generalize appR s e=a at*
   repeat' ((conv=>whnf);first
    |(exfalso;omega)
    |(exfalso;contradiction)
    |refine aB (l:=l) Aa ?_
    |refine aF (l:=l) (A:=D) (x:=e) (B:=R) hp Aa ?_
    |(refine aS5 (k1) false ?_ rfl ?_;focus ((repeat' (first|exact trivial|refine And.intro ?_ ?_|with_reducible rfl|exact(fun h=>Ad)|exact rfl));done))
    |(refine aS5 (k2) false ?_ rfl ?_;focus ((repeat' (first|exact trivial|refine And.intro ?_ ?_|with_reducible rfl|exact(fun h=>Ad)|exact rfl));done))
    |refine eY7 ?_
    |refine eZ1 Ac ?_
    |refine eH4 Aa ?_
    |refine bW7 ?_
    |refine fU (p:=(T.row _).eq=true) Ac ?_
    |refine fU Aa ?_
    |refine fU rfl ?_
    |refine eZ2 ?_
    |refine eZ0 (fun hd=>?_) (fun hd=>?_)
    |refine br_lt (fun hlt=>?_) (fun hlt=>?_)
    |refine br_le (fun hle=>?_) (fun hle=>?_)
    |refine eV7 (fun heq=>?_) (fun heq=>?_)
    |refine eQ9 Aa (fun x hx=>?_)
    |refine eY0 rfl (fun h=>Ad) ?_
    |refine jU (fun hbb=>?_) (fun hbb=>?_)
    |refine ret_i ?_
    |refine fA7 ?_)
   all_goals conv=>whnf
   refine⟨(s,D++[e],R),?_,⟨Af,kk0⟩,Ae⟩;simp only[List.length_append,List.length_singleton];exact MO
 |nil=>
  have hlen:l.length=D.length:=Af;clear hp hfs hf1 hml hb;have hn6:n<=1000000:=Aa
  have hls:=Nat.le_trans hn.ok.ls hn6;have hlp:=Nat.le_trans hn.ok.lp hn6
  have hmp:(s.pieces.map aZ).length=s.pieces.length:=Ae;have ka:=accY_spec r s hr hls hlp (fun x hx=>szd_bg (hn.ok.sz x hx))
  have hbal:=books_bal r s hn.bal hsp;have hos:=orders_sum r s.pieces
  have hoc:=fun o ho=>inv_call r hr hn hn6 hsp (o:=o) ho;have hlpos:=fun o ho=>lines_pos r s.pieces hlp (o:=o) ho
  rw[books_mk]at ka;generalize hb1:stA r s.stocks=b1 at*;generalize hb2:pcA r 1 s.pieces=b2 at*;generalize hb3:pcA r 2 s.pieces=b3 at*;generalize hb4:pcA r 3 s.pieces=b4 at*;generalize hb5:scA r s.scrap=b5 at*;generalize hb6:scA r s.received=b6 at*;clear hn hsp hnl
  repeat' ((conv=>whnf);first
   |(exfalso;omega)
   |(refine aS5 (ka) false ?_ rfl ?_;focus ((repeat' (first|exact trivial|refine And.intro ?_ ?_|with_reducible rfl|exact(fun h=>Ad)|exact rfl));done))
   |(exfalso;contradiction)
   |refine eY7 ?_
   |refine eZ1 Ac ?_
   |refine eH4 Aa ?_
   |refine bW7 ?_
   |refine fU (p:=(T.row _).eq=true) Ac ?_
   |refine fU Aa ?_
   |refine fU rfl ?_
   |refine eZ2 ?_
   |refine eZ0 (fun hd=>?_) (fun hd=>?_)
   |refine br_lt (fun hlt=>?_) (fun hlt=>?_)
   |refine br_le (fun hle=>?_) (fun hle=>?_)
   |refine eV7 (fun heq=>?_) (fun heq=>?_)
   |refine eQ9 Aa (fun x hx=>?_)
   |refine eY0 rfl (fun h=>Ad) ?_
   |refine jU (fun hbb=>?_) (fun hbb=>?_)
   |refine ret_i ?_
   |refine fA7 ?_)
  all_goals conv=>whnf
  refine aU (A:=List Piece) (B:=List Piece) (fun D R=>mkSt [(2, .box 2 0),(5, .box 5 0),(10, .box 10 0),(12, .arr 111 (ordL D).length),(82, .sl (s.pieces.map aZ)),(83,I s.pieces.length),(84,I D.length)] [(2,(rtV r).cells),(5,invC s),(10,[I b1,I b2,I b3,I b4,I b5,I b6])] [(111,⟨(ordL D).length, .own,9,(ordL D).map S⟩)]) (fun D R=>s.pieces=D++R) (fun D R=>R.length) [] s.pieces ?_ rfl (fun D R hp=>?_)
  ·refine dV ?_ ?_ ?_ ?_
   all_goals repeat' (first|exact trivial|refine And.intro ?_ ?_|with_reducible rfl|exact(fun h=>Ad)|exact Nat.le_refl _|omega|exact rfl)
   all_goals (try rw[hmp])
  cases R with
  |cons p R=>
   have hlen2:=aO hp;have hlD:((D++[p]).length:Int)=(D.length:Int)+1:=Ae
   have hsn:=ordL_snoc D p;have hOl:=(ord_ok D).2.1
   generalize ordL D=O at*;have hOm:(O.map S).length=O.length:=Ae
   repeat' ((conv=>whnf);first
    |(exfalso;omega)
    |refine aB (l:=s.pieces) Aa ?_
    |refine aF (l:=s.pieces) (A:=D) (x:=p) (B:=R) hp Aa ?_
    |refine eY7 ?_
    |refine eZ1 Ac ?_
    |refine eH4 Aa ?_
    |refine bW7 ?_
    |refine fU (p:=(T.row _).eq=true) Ac ?_
    |refine fU Aa ?_
    |refine fU rfl ?_
    |refine eZ2 ?_
    |refine eZ0 (fun hd=>?_) (fun hd=>?_)
    |refine br_lt (fun hlt=>?_) (fun hlt=>?_)
    |refine br_le (fun hle=>?_) (fun hle=>?_)
    |refine eV7 (fun heq=>?_) (fun heq=>?_)
    |refine eQ9 Aa (fun x hx=>?_)
    |refine eY0 rfl (fun h=>Ad) ?_
    |refine jU (fun hbb=>?_) (fun hbb=>?_)
    |refine ret_i ?_
    |refine fA7 ?_)
   refine oU (A:=List ByteArray) (B:=List ByteArray) (C:=Bool) (fun A B k=>mkSt [(2, .box 2 0),(5, .box 5 0),(10, .box 10 0),(12, .arr 111 O.length),(14, .box 14 0),(15, .lit (.bool k)),(82, .sl (s.pieces.map aZ)),(83,I s.pieces.length),(84,I D.length),(91, .arr 111 O.length),(92,I O.length),(93,I A.length)] [(2,(rtV r).cells),(5,invC s),(10,[I b1,I b2,I b3,I b4,I b5,I b6]),(14,dZ8 p)] [(111,⟨O.length, .own,9,O.map S⟩)]) (fun A B k=>O=A++B/\(k=true↔p.status≠3\/p.order∈A)) (fun A B k=>B.length) [] O (!eqB p.status 3) ?_ ⟨rfl,by rw[Bool.not_eq_true',eqB_d,dW];simp⟩ (fun A B k hq=>?_)
   ·refine dV ?_ ?_ ?_ ?_
    all_goals repeat' (first|exact trivial|refine And.intro ?_ ?_|with_reducible rfl|exact(fun h=>Ad)|exact Nat.le_refl _|omega|exact rfl)
    all_goals (show((O.map S).length:Int)=O.length;rw[List.length_map])
   obtain⟨hq,hk⟩:=hq
   cases B with
   |cons o B=>
    have hlen3:=aO hq;have hlA:((A++[o]).length:Int)=(A.length:Int)+1:=Ae
    have heo:=eG4 (a:=o) (b:=p.order);cases k
    ·have hk0:¬(p.status≠3\/p.order∈A):=fun h=>absurd (hk.2 h) Ak
     generalize hz:eqS o p.order=z at*
     repeat' ((conv=>whnf);first
      |(exfalso;omega)
      |refine aF (l:=O) (A:=A) (x:=o) (B:=B) hq Aa ?_
      |refine fU ⟨rfl,(fun h=>Ad),Aa,EU⟩ ?_
      |refine fU rfl ?_
      |refine eY7 ?_
      |refine eZ1 Ac ?_
      |refine eH4 Aa ?_
      |refine bW7 ?_
      |refine fU (p:=(T.row _).eq=true) Ac ?_
      |refine fU Aa ?_
      |refine fU rfl ?_
      |refine eZ2 ?_
      |refine eZ0 (fun hd=>?_) (fun hd=>?_)
      |refine br_lt (fun hlt=>?_) (fun hlt=>?_)
      |refine br_le (fun hle=>?_) (fun hle=>?_)
      |refine eV7 (fun heq=>?_) (fun heq=>?_)
      |refine eQ9 Aa (fun x hx=>?_)
      |refine eY0 rfl (fun h=>Ad) ?_
      |refine jU (fun hbb=>?_) (fun hbb=>?_)
      |refine ret_i ?_
      |refine fA7 ?_)
     all_goals conv=>whnf
     refine⟨(A++[o],B,z),?_,⟨AL,?_⟩,Ae⟩
     ·simp only[List.length_append,List.length_singleton]
      refine dV ?_ ?_ ?_ ?_;all_goals repeat' (first|exact trivial|refine And.intro ?_ ?_|with_reducible rfl|exact(fun h=>Ad)|exact Nat.le_refl _|omega|exact rfl)
      all_goals exact hz
     ·rw[heo]
      exact⟨fun h=> .inr Ie,fun h=>h.elim (fun q=>absurd (.inl q) hk0) (fun q=>by
       rcases List.mem_append.1 q with q|q
       ·exact absurd (.inr q) hk0
       ·exact(List.mem_singleton.1 q).symm)⟩
    ·have hk0:=hk.1 rfl
     repeat' ((conv=>whnf);first
      |(exfalso;omega)
      |refine aF (l:=O) (A:=A) (x:=o) (B:=B) hq Aa ?_
      |refine fU ⟨rfl,(fun h=>Ad),Aa,EU⟩ ?_
      |refine fU rfl ?_
      |refine eY7 ?_
      |refine eZ1 Ac ?_
      |refine eH4 Aa ?_
      |refine bW7 ?_
      |refine fU (p:=(T.row _).eq=true) Ac ?_
      |refine fU Aa ?_
      |refine fU rfl ?_
      |refine eZ2 ?_
      |refine eZ0 (fun hd=>?_) (fun hd=>?_)
      |refine br_lt (fun hlt=>?_) (fun hlt=>?_)
      |refine br_le (fun hle=>?_) (fun hle=>?_)
      |refine eV7 (fun heq=>?_) (fun heq=>?_)
      |refine eQ9 Aa (fun x hx=>?_)
      |refine eY0 rfl (fun h=>Ad) ?_
      |refine jU (fun hbb=>?_) (fun hbb=>?_)
      |refine ret_i ?_
      |refine fA7 ?_)
     all_goals conv=>whnf
     refine⟨(A++[o],B,true),?_,⟨AL,fun _=>hk0.imp id (fun h=>Ie),fun _=>rfl⟩,Ae⟩;simp only[List.length_append,List.length_singleton];exact MO
   |nil=>
    have e:O=A:=AL;subst e;clear hq;have hy:p.status=3/\p.order∉O->ordL (D++[p])=O++[p.order] :=fun h=>by rw[hsn];exact if_pos h
    have hno:¬(p.status=3/\p.order∉O)->ordL (D++[p])=O:=fun h=>by rw[hsn];exact if_neg h
    cases k
    ·have hk0:¬(p.status≠3\/p.order∈O):=fun h=>absurd (hk.2 h) Ak
     have hsn2:=hy ⟨Classical.byContradiction fun h=>hk0 (.inl h),fun h=>hk0 (.inr h)⟩
     repeat' ((conv=>whnf);first
      |(exfalso;omega)
      |refine iH rfl (.inl rfl) rfl (of_decide_eq_true rfl) (dA rfl) (by show(O.map S).length+1<=_;rw[List.length_map];omega) ?_
      |refine eY7 ?_
      |refine eZ1 Ac ?_
      |refine eH4 Aa ?_
      |refine bW7 ?_
      |refine fU (p:=(T.row _).eq=true) Ac ?_
      |refine fU Aa ?_
      |refine fU rfl ?_
      |refine eZ2 ?_
      |refine eZ0 (fun hd=>?_) (fun hd=>?_)
      |refine br_lt (fun hlt=>?_) (fun hlt=>?_)
      |refine br_le (fun hle=>?_) (fun hle=>?_)
      |refine eV7 (fun heq=>?_) (fun heq=>?_)
      |refine eQ9 Aa (fun x hx=>?_)
      |refine eY0 rfl (fun h=>Ad) ?_
      |refine jU (fun hbb=>?_) (fun hbb=>?_)
      |refine ret_i ?_
      |refine fA7 ?_)
     all_goals conv=>whnf
     refine⟨(D++[p],R),?_,Af,Ae⟩;simp only[hsn2,List.length_append,List.length_singleton,List.map_append,List.map_cons,List.map_nil];exact MO
    ·have hk0:=hk.1 rfl
     have hsn2:=hno (fun h=>hk0.elim (fun q=>q h.1) h.2)
     repeat' ((conv=>whnf);first
      |(exfalso;omega)
      |refine eY7 ?_
      |refine eZ1 Ac ?_
      |refine eH4 Aa ?_
      |refine bW7 ?_
      |refine fU (p:=(T.row _).eq=true) Ac ?_
      |refine fU Aa ?_
      |refine fU rfl ?_
      |refine eZ2 ?_
      |refine eZ0 (fun hd=>?_) (fun hd=>?_)
      |refine br_lt (fun hlt=>?_) (fun hlt=>?_)
      |refine br_le (fun hle=>?_) (fun hle=>?_)
      |refine eV7 (fun heq=>?_) (fun heq=>?_)
      |refine eQ9 Aa (fun x hx=>?_)
      |refine eY0 rfl (fun h=>Ad) ?_
      |refine jU (fun hbb=>?_) (fun hbb=>?_)
      |refine ret_i ?_
      |refine fA7 ?_)
     all_goals conv=>whnf
     refine⟨(D++[p],R),?_,Af,Ae⟩;simp only[hsn2,List.length_append,List.length_singleton];exact MO
  |nil=>
   have hlen2:s.pieces.length=D.length:=Af;have e:s.pieces=D:=Af
   have hOl:=(ord_ok s.pieces).2.1;rw[<-e];clear hp e;generalize hO:ordL s.pieces=O at*;have hOm:(O.map S).length=O.length:=Ae
   repeat' ((conv=>whnf);first
    |(exfalso;omega)
    |refine eY7 ?_
    |refine eZ1 Ac ?_
    |refine eH4 Aa ?_
    |refine bW7 ?_
    |refine fU (p:=(T.row _).eq=true) Ac ?_
    |refine fU Aa ?_
    |refine fU rfl ?_
    |refine eZ2 ?_
    |refine eZ0 (fun hd=>?_) (fun hd=>?_)
    |refine br_lt (fun hlt=>?_) (fun hlt=>?_)
    |refine br_le (fun hle=>?_) (fun hle=>?_)
    |refine eV7 (fun heq=>?_) (fun heq=>?_)
    |refine eQ9 Aa (fun x hx=>?_)
    |refine eY0 rfl (fun h=>Ad) ?_
    |refine jU (fun hbb=>?_) (fun hbb=>?_)
    |refine ret_i ?_
    |refine fA7 ?_)
   refine aU (A:=List ByteArray) (B:=List ByteArray) (fun A B=>mkSt [(2, .box 2 0),(5, .box 5 0),(10, .box 10 0),(18,I (invSum r s.pieces A)),(113, .sl (O.map S)),(114,I O.length),(115,I A.length)] [(2,(rtV r).cells),(5,invC s),(10,[I b1,I b2,I b3,I b4,I b5,I b6])] []) (fun A B=>O=A++B) (fun A B=>B.length) [] O ?_ rfl (fun A B hq=>?_)
   ·refine Le.trans (fB (k:=111) rfl (.inl rfl)) ?_
    refine dV ?_ ?_ ?_ ?_;all_goals repeat' (first|exact trivial|refine And.intro ?_ ?_|with_reducible rfl|exact(fun h=>Ad)|exact Nat.le_refl _|omega|exact rfl)
    all_goals (try rw[hOm])
   cases B with
   |cons o B=>
    have hlen3:=aO hq;have hlA:((A++[o]).length:Int)=(A.length:Int)+1:=Ae
    have ho:o∈O:=AL;have k1:=hoc o ho
    have k2:=hlpos o ho;have k3:=invSum_snoc r s.pieces A o
    change Sp _ _ (.tup [.sl ((linesI r o (s.pieces.map pcOf)).map S),I (runI r o (s.pieces.map pcOf)).sum,I 0])at k1;generalize (runI r o (s.pieces.map pcOf)).sum=y at*;generalize linesI r o (s.pieces.map pcOf)=L at*;have hLm:(L.map S).length=L.length:=Ae;generalize invSum r s.pieces A=z at*
    repeat' ((conv=>whnf);first
     |(exfalso;omega)
     |refine aB (l:=O) Aa ?_
     |refine aF (l:=O) (A:=A) (x:=o) (B:=B) hq Aa ?_
     |(refine aS5 (k1) false ?_ rfl ?_;focus ((repeat' (first|exact trivial|refine And.intro ?_ ?_|with_reducible rfl|exact(fun h=>Ad)|exact rfl));done))
     |refine eY7 ?_
     |refine eZ1 Ac ?_
     |refine eH4 Aa ?_
     |refine bW7 ?_
     |refine fU (p:=(T.row _).eq=true) Ac ?_
     |refine fU Aa ?_
     |refine fU rfl ?_
     |refine eZ2 ?_
     |refine eZ0 (fun hd=>?_) (fun hd=>?_)
     |refine br_lt (fun hlt=>?_) (fun hlt=>?_)
     |refine br_le (fun hle=>?_) (fun hle=>?_)
     |refine eV7 (fun heq=>?_) (fun heq=>?_)
     |refine eQ9 Aa (fun x hx=>?_)
     |refine eY0 rfl (fun h=>Ad) ?_
     |refine jU (fun hbb=>?_) (fun hbb=>?_)
     |refine ret_i ?_
     |refine fA7 ?_)
    all_goals conv=>whnf
    refine⟨(A++[o],B),?_,AL,Ae⟩;simp only[k3,List.length_append,List.length_singleton];exact MO
   |nil=>
    have e:O=A:=AL;subst e;rw[hos]
    repeat' ((conv=>whnf);first
     |(exfalso;omega)
     |refine eY7 ?_
     |refine eZ1 Ac ?_
     |refine eH4 Aa ?_
     |refine bW7 ?_
     |refine fU (p:=(T.row _).eq=true) Ac ?_
     |refine fU Aa ?_
     |refine fU rfl ?_
     |refine eZ2 ?_
     |refine eZ0 (fun hd=>?_) (fun hd=>?_)
     |refine br_lt (fun hlt=>?_) (fun hlt=>?_)
     |refine br_le (fun hle=>?_) (fun hle=>?_)
     |refine eV7 (fun heq=>?_) (fun heq=>?_)
     |refine eQ9 Aa (fun x hx=>?_)
     |refine eY0 rfl (fun h=>Ad) ?_
     |refine jU (fun hbb=>?_) (fun hbb=>?_)
     |refine ret_i ?_
     |refine fA7 ?_)
    all_goals conv=>whnf
    exact aK (aA1.2 rfl)
theorem lawBooks_spec(r:Rt)(l:List Led.Event)(hl:l.length<=9223372036854775807)(hb:∀e∈l,bI1 e):Sp 4 [rtV r, .sl (l.map aS)] (.lit (.bool true)):=zsp Tryz.func4 (lawBooks_vc r l hl hb)
end Go.Proofs.Cost58
