/-
  The reference's Apply, walked (library 10): IDs that are new.
-/
import Derived.Test.YtdjgbagnajikeaaGreatDoorB12
set_option linter.unusedVariables false
set_option linter.unusedSimpArgs false
set_option maxRecDepth 100000
set_option maxHeartbeats 8000000
noncomputable section
namespace Go.Proofs.Led
open Go Go.Proofs Go.Ab
open Classical in
def cutW(s:aJ)(e:Event):aJ×Int:=aD6 s e.id λm=>if m.program≠aI then cutQ s (bs sid s.stocks e.id) m e else(inv0,10)
def apSt(s:aJ)(e:Event)(L:List Int)(i:Nat):St:=
 mkSt [(2, .box 2 0),(3, .box 3 0),(4, .box 4 0),(5,I 0),(6, .sl (L.map I)),(7,I i)] [(2,invC s),(3,iJ e),(4,zInv)] []
theorem fX9(s:aJ)(e:Event)(r:aJ×Int)(aa:s.used.length<=900000)(hc:e.cuts.length<=10000)(hr:e.rests.length<=10000)(hF:Sp 85 [aS e] (.lit (.bool true)))
 (i:¬dP s.used (idsR e)->r=(inv0,7))(Y:s.stocks.length<=900000)(Z:s.pieces.length<=900000)(hz:e.kind=1->gV e.sheet.shape)
 (t:e.kind=1->dP s.used (idsR e)->r=(aX7 s ⟨false,e.sheet,bar0,aI⟩,0))
 (d:(s.stocks.map sid).Pairwise (·<·))
 (v:e.kind=3->dP s.used (idsR e)->r=relR s e)
 (w:e.kind=4->dP s.used (idsR e)->r=bP3 s e)
 (M:∀m∈s.stocks,eY m)
 (H:e.kind=8->dP s.used (idsR e)->r=bQ0 s e)
 (C:e.kind=5->dP s.used (idsR e)->r=cutW s e)
 (u:e.kind=2->dP s.used (idsR e)->r=(aX7 s ⟨true,dN,e.bar,aI⟩,0))
 (J:(s.pieces.map Piece.id).Pairwise (·<·))
 (F:e.kind=6->dP s.used (idsR e)->r=nK s e.id 2 aI)
 (G:e.kind=7->dP s.used (idsR e)->r=nK s e.id 3 e.text)(ad:1<=e.kind)(ab:e.kind<=8):fnVC T Tryz.prog Tryz.f42 [invV s,aS e] (.tup [invV r.1,I r.2]):=by
 have g1:=gC6 e hc hr
 have ac:(idsR e).length<=20000:=by
  unfold idsR fO;split
  ·simp
  ·split
   ·simp
   ·simp;omega
 rw[fJ1]at i t u v w C F G H;generalize hL:idsR e=L at*;have ae:(L.map I).length=L.length:=Af;have ag:(s.used.map I).length=s.used.length:=Af
 repeat' ((conv=>whnf);first|refine zc hF ?_|refine zc g1 ?_|refine zS ?_|fail)
 refine aU (A:=List Int) (B:=List Int) (λD R=>apSt s e L D.length) (λD R=>L=D++R/\(∀x∈D,x∉s.used)/\D.Pairwise (·≠·)) (λD R=>R.length) [] L ?_ ⟨rfl,Af, .nil⟩ (λD R hp=>?_)
 ·refine Le.trans (fB (k:=19) rfl (.inl rfl)) ?_
  show Le T _ (apSt s e L 0);exact zj
 obtain⟨hp,hU,hP⟩:=hp
 cases R with
 |cons n R=>
  have K:=aO hp;have V:n∈L:=Ae
  have O:n∈s.used->r=(inv0,7):=λh=>i (λq=>q.1 n V h)
  have P:n∈D->r=(inv0,7):=λh=>i (λq=>by
   have:=q.2;rw[hp,RQ]at this;exact this.2.2 n h n Af rfl)
  repeat' ((conv=>whnf);first|omega|refine zS ?_|refine zl (λhlt=>?_) (λhlt=>?_))
  refine aU (A:=List Int) (B:=List Int) (λE S=>mkSt [(2, .box 2 0),(3, .box 3 0),(4, .box 4 0),(5,I 0),(6, .sl (L.map I)),(7,I D.length),(8,I E.length)] [(2,invC s),(3,iJ e),(4,zInv)] []) (λE S=>s.used=E++S/\n∉E) (λE S=>S.length) [] s.used ?_ ⟨rfl,Af⟩ (λE S hq=>?_)
  ·exact zj
  obtain⟨hq,hE⟩:=hq
  cases S with
  |cons m S=>
   have g:=aO hq
   repeat' ((conv=>whnf);first|omega|refine eZ1 Aj ?_|refine aB (l:=s.used) Aa ?_|refine aB (l:=L) Aa ?_|refine aF (l:=s.used) (A:=E) (x:=m) (B:=S) hq Aa ?_|refine aF (l:=L) (A:=D) (x:=n) (B:=R) hp Aa ?_|refine zS ?_|refine zl (λhlt=>?_) (λhlt=>?_)|refine ze (λheq=>?_) (λheq=>?_))
   all_goals conv=>whnf
   ·rw[O (by rw[hq];simp[heq])]
    all_goals exact zE
   ·exact Nh
  |nil=>
   have g:s.used.length=E.length:=Aq;have W:n∉s.used:=by rw[hq,Rn];exact hE
   repeat' ((conv=>whnf);first|omega|refine zS ?_|refine zl (λhlt=>?_) (λhlt=>?_))
   refine aU (A:=List Int) (B:=List Int) (λE S=>mkSt [(2, .box 2 0),(3, .box 3 0),(4, .box 4 0),(5,I 0),(6, .sl (L.map I)),(7,I D.length),(9,I E.length)] [(2,invC s),(3,iJ e),(4,zInv)] []) (λE S=>D=E++S/\n∉E) (λE S=>S.length) [] D ?_ ⟨rfl,Af⟩ (λE S hq=>?_)
   ·exact zj
   obtain⟨hq,hE⟩:=hq
   cases S with
   |cons m S=>
    have g:=aO hq;have X:L=E++m::(S++n::R):=Ib
    repeat' ((conv=>whnf);first|omega|refine eZ1 Aj ?_|refine aB (l:=L) Aa ?_|refine aF (l:=L) (A:=D) (x:=n) (B:=R) hp Aa ?_|refine aF (l:=L) (A:=E) (x:=m) (B:=S++n::R) X Aa ?_|refine zS ?_|refine zl (λhlt=>?_) (λhlt=>?_)|refine ze (λheq=>?_) (λheq=>?_))
    all_goals conv=>whnf
    ·rw[P (by rw[hq];simp[heq])]
     all_goals exact zE
    ·exact Nh
   |nil=>
    have g:D.length=E.length:=Aq;have U:n∉D:=by rw[hq,Rn];exact hE
    repeat' ((conv=>whnf);first|omega|refine zS ?_|refine zl (λhlt=>?_) (λhlt=>?_))
    all_goals conv=>whnf
    refine⟨(D++[n],R),?_,⟨Ae,λx c=>?_,?_⟩,Af⟩
    ·show Le T _ (apSt s e L (D++[n]).length)
     rw[QU,QY];unfold apSt;exact zj
    ·rcases QX.1 c with c|c
     ·exact hU x c
     ·rw[QW.1 c];exact W
    ·rw[RQ]
     exact⟨hP,Ub _ _,λx c y hy=>by rw[QW.1 hy];exact λq=>U (q▸c)⟩
 |nil=>
  have K:L.length=D.length:=Ae;have hDe:L=D:=Ae
  replace t:=λh=>t h ⟨DC,DF⟩;replace u:=λh=>u h ⟨DC,DF⟩;replace v:=λh=>v h ⟨DC,DF⟩;replace w:=λh=>w h ⟨DC,DF⟩;replace H:=λh=>H h ⟨DC,DF⟩;replace C:=λh=>C h ⟨DC,DF⟩;replace F:=λh=>F h ⟨DC,DF⟩;replace G:=λh=>G h ⟨DC,DF⟩;clear i hU hP;have g2:=fV4 s Aa Aa Aa
  by_cases k1:e.kind=1
  ·rw[t k1]
   have g3:=fN8 s ⟨false,e.sheet,bar0,aI⟩ Aa Aa;have g4:=fK5 e.sheet.shape (hz k1)
   repeat' ((conv=>whnf);first|omega|refine eZ1 Aj ?_|refine zc g2 ?_|refine zc g3 ?_|refine zc g4 ?_|refine zS ?_|refine zl (λhlt=>?_) (λhlt=>?_)|refine ze (λheq=>?_) (λheq=>?_))
   all_goals exact zE
  by_cases k2:e.kind=2
  ·rw[u k2]
   have g3:=fN8 s ⟨true,dN,e.bar,aI⟩ Aa Aa;exact Nl
  have af:(s.stocks.map aQ).length=s.stocks.length:=Af;have g3:=fZ7 s e.id Aa
  by_cases k3:e.kind=3
  ·rw[v k3]
   by_cases a:∃m∈s.stocks,sid m=e.id;rotate_left
   ·have e1:relR s e=(inv0,8):=by unfold relR aD6;rw[Q5 a]
    have j:aC2 sid s.stocks e.id= -1:=aB5 (λx c q=>a ⟨x,c,q⟩);rw[e1];rw[j]at g3;exact Nl
   obtain⟨m,hm,o⟩:=aB8 d a;have f:=(QR.1 hm).1;rw[fF9 d a]at g3;by_cases b:m.program=aI;rotate_left
   ·have e1:relR s e=(inv0,27):=by unfold relR aD6;rw[QO a,hm];exact Q5 b
    exact Np
   ·have e1:relR s e=(setK s (bs sid s.stocks e.id) (prog m e.text),0):=by unfold relR aD6;rw[QO a,hm];exact QO b
    rw[e1];generalize bs sid s.stocks e.id=k at*;have N:(s.stocks.set k (prog m e.text)).map aQ=(s.stocks.map aQ).set (k:Int).toNat (aQ (prog m e.text)):=Ho;have eR:invV (setK s k (prog m e.text))= .agg [.sl ((s.stocks.map aQ).set (k:Int).toNat (aQ (prog m e.text))), .sl (s.pieces.map aZ), .sl (s.used.map I),I s.received.1,I s.received.2,I s.scrap.1,I s.scrap.2] :=by rw[<-N];rfl
    exact NS
  by_cases k4:e.kind=4
  ·rw[w k4]
   by_cases a:∃m∈s.stocks,sid m=e.id;rotate_left
   ·have e1:bP3 s e=(inv0,8):=by unfold bP3 aD6;rw[Q5 a]
    have j:aC2 sid s.stocks e.id= -1:=aB5 (λx c q=>a ⟨x,c,q⟩);rw[e1];rw[j]at g3;exact Nl
   obtain⟨m,hm,o⟩:=aB8 d a;have f:=(QR.1 hm).1;rw[fF9 d a]at g3;by_cases b:m.program≠aI;rotate_left
   ·have e1:bP3 s e=(inv0,10):=by unfold bP3 aD6;rw[QO a,hm];exact Q5 b
    exact Np
   ·have e1:bP3 s e=(setK s (bs sid s.stocks e.id) (prog m aI),0):=by unfold bP3 aD6;rw[QO a,hm];exact QO b
    rw[e1];generalize bs sid s.stocks e.id=k at*;have N:(s.stocks.set k (prog m aI)).map aQ=(s.stocks.map aQ).set (k:Int).toNat (aQ (prog m aI)):=Ho;have eR:invV (setK s k (prog m aI))= .agg [.sl ((s.stocks.map aQ).set (k:Int).toNat (aQ (prog m aI))), .sl (s.pieces.map aZ), .sl (s.used.map I),I s.received.1,I s.received.2,I s.scrap.1,I s.scrap.2] :=by rw[<-N];rfl
    exact NS
  by_cases k8:e.kind=8
  ·rw[H k8]
   by_cases a:∃m∈s.stocks,sid m=e.id;rotate_left
   ·have e1:bQ0 s e=(inv0,8):=by unfold bQ0 aD6;rw[Q5 a]
    have j:aC2 sid s.stocks e.id= -1:=aB5 (λx c q=>a ⟨x,c,q⟩);rw[e1];rw[j]at g3;exact Nl
   obtain⟨m,hm,o⟩:=aB8 d a;have f:=(QR.1 hm).1;rw[fF9 d a]at g3;by_cases b:m.program=aI;rotate_left
   ·have e1:bQ0 s e=(inv0,27):=by unfold bQ0 aD6;rw[QO a,hm];exact Q5 b
    exact Np
   ·have e1:bQ0 s e=(aX4 s (bs sid s.stocks e.id) m,0):=by unfold bQ0 aD6;rw[QO a,hm];exact QO b
    rw[e1];generalize bs sid s.stocks e.id=k at*;have g5:=fJ6 m (M m (QT hm));unfold aX4;rcases Bool.eq_false_or_eq_true m.isBar with hb|hb
    ·have g4:Sp 92 [B m.isBar] (I 1):=by rw[hb];exact fG6 true
     have g6:=fG9 {s with scrap:=plus true s.scrap (gG m)} k f (by show s.stocks.length<=_;omega)
     exact NR
    ·have g4:Sp 92 [B m.isBar] (I 0):=by rw[hb];exact fG6 false
     have g6:=fG9 {s with scrap:=plus false s.scrap (gG m)} k f (by show s.stocks.length<=_;omega)
     exact NR
  by_cases k5:e.kind=5
  ·rw[C k5]
   by_cases a:∃m∈s.stocks,sid m=e.id;rotate_left
   ·have e1:cutW s e=(inv0,8):=by unfold cutW aD6;rw[Q5 a]
    have j:aC2 sid s.stocks e.id= -1:=aB5 (λx c q=>a ⟨x,c,q⟩);rw[e1];rw[j]at g3;exact Nl
   obtain⟨m,hm,o⟩:=aB8 d a;have f:=(QR.1 hm).1;rw[fF9 d a]at g3;by_cases b:m.program≠aI;rotate_left
   ·have e1:cutW s e=(inv0,10):=by unfold cutW aD6;rw[QO a,hm];exact Q5 b
    exact Np
   ·have e1:cutW s e=cutQ s (bs sid s.stocks e.id) m e:=by unfold cutW aD6;rw[QO a,hm];exact QO b
    rw[e1];generalize bs sid s.stocks e.id=k at*;have g5:=gD2 s k m e hm Y Z aa (M m (QT hm)) hc hr;generalize cutQ s k m e=Q at*
    repeat' ((conv=>whnf);first|omega|(exfalso;contradiction)|refine jI (λheq=>?_) (λheq=>?_)|refine aB (l:=s.stocks) Aa ?_|refine gK (l:=s.stocks) hm Aa ?_|refine zc g2 ?_|refine zc g3 ?_|refine zc g5 ?_|refine zS ?_|refine zl (λhlt=>?_) (λhlt=>?_)|refine ze (λheq=>?_) (λheq=>?_))
    all_goals exact zE
  have hmp:(s.pieces.map aZ).length=s.pieces.length:=Af;by_cases k6:e.kind=6
  ·rw[F k6]
   have g3:=fO3 s e.id Aa;by_cases a:∃m∈s.pieces,m.id=e.id;rotate_left
   ·have e1:nK s e.id 2 aI=(inv0,8):=by unfold nK;rw[Q5 a]
    have j:aC2 Piece.id s.pieces e.id= -1:=aB5 (λx c q=>a ⟨x,c,q⟩);rw[e1];rw[j]at g3;exact Nl
   obtain⟨m,hm,o⟩:=aB8 J a;have f:=(QR.1 hm).1;rw[fF9 J a]at g3;by_cases b:m.status=1;rotate_left
   ·have e1:nK s e.id 2 aI=(inv0,10):=by unfold nK;rw[QO a,hm];exact Q5 b
    exact Ob
   ·have e1:nK s e.id 2 aI=(setP s (bs Piece.id s.pieces e.id) (marked m 2 aI),0):=by unfold nK;rw[QO a,hm];exact QO b
    rw[e1];generalize bs Piece.id s.pieces e.id=k at*;have eR:invV (setP s k (marked m 2 aI))= .agg [.sl (s.stocks.map aQ), .sl (((s.pieces.map aZ).set (k:Int).toNat (aZ {m with status:=2})).set (k:Int).toNat (aZ (marked m 2 aI))), .sl (s.used.map I),I s.received.1,I s.received.2,I s.scrap.1,I s.scrap.2] :=by rw[Sz,List.set_set];unfold setP;rw[<-UQ];rfl
    simp only;rw[eR]
    repeat' ((conv=>whnf);first|omega|refine cC0 [(10,10),(116,10),(119,10),(122,77777),(123,77777),(124,77777),(125,77777)] Ad Aj ?_|refine aB (l:=s.pieces) Aa ?_|refine dS rfl rfl BJ ?_|refine dS rfl rfl BV ?_|refine dB8 rfl rfl ?_|refine gK (l:=s.pieces) hm Aa ?_|refine cV1 rfl Gn ?_|refine zc g2 ?_|refine zc g3 ?_|refine zS ?_|refine zl (λhlt=>?_) (λhlt=>?_)|refine ze (λheq=>?_) (λheq=>?_))
    all_goals exact zE
  by_cases k7:e.kind=7
  ·rw[G k7]
   have g3:=fO3 s e.id Aa;by_cases a:∃m∈s.pieces,m.id=e.id;rotate_left
   ·have e1:nK s e.id 3 e.text=(inv0,8):=by unfold nK;rw[Q5 a]
    have j:aC2 Piece.id s.pieces e.id= -1:=aB5 (λx c q=>a ⟨x,c,q⟩);rw[e1];rw[j]at g3;exact Nl
   obtain⟨m,hm,o⟩:=aB8 J a;have f:=(QR.1 hm).1;rw[fF9 J a]at g3;by_cases b:m.status=1;rotate_left
   ·have e1:nK s e.id 3 e.text=(inv0,10):=by unfold nK;rw[QO a,hm];exact Q5 b
    exact Ob
   ·have e1:nK s e.id 3 e.text=(setP s (bs Piece.id s.pieces e.id) (marked m 3 e.text),0):=by unfold nK;rw[QO a,hm];exact QO b
    rw[e1];generalize bs Piece.id s.pieces e.id=k at*;have eR:invV (setP s k (marked m 3 e.text))= .agg [.sl (s.stocks.map aQ), .sl (((((s.pieces.map aZ).set (k:Int).toNat (aZ {m with status:=2})).set (k:Int).toNat (aZ (marked m 2 aI))).set (k:Int).toNat (aZ (marked m 3 aI))).set (k:Int).toNat (aZ (marked m 3 e.text))), .sl (s.used.map I),I s.received.1,I s.received.2,I s.scrap.1,I s.scrap.2] :=by rw[Sz,List.set_set,List.set_set,List.set_set];unfold setP;rw[<-UQ];rfl
    simp only;rw[eR]
    repeat' ((conv=>whnf);first|omega|refine cC0 [(10,10),(116,10),(119,10),(122,77777),(123,77777),(124,77777),(125,77777)] Ad Aj ?_|refine cC0 [(10,10),(129,10),(132,10),(3,3),(135,3),(137,77777),(138,77777),(139,77777),(140,77777)] Ad Aj ?_|refine aB (l:=s.pieces) Aa ?_|refine dS rfl rfl BJ ?_|refine dS rfl rfl BV ?_|refine dB8 rfl rfl ?_|refine gK (l:=s.pieces) hm Aa ?_|refine cV1 rfl Gn ?_|refine zc g2 ?_|refine zc g3 ?_|refine zS ?_|refine zl (λhlt=>?_) (λhlt=>?_)|refine ze (λheq=>?_) (λheq=>?_))
    all_goals exact zE
  exfalso;omega
end Go.Proofs.Led
