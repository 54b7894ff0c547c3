/-
  The reference's Apply, walked (library 10): IDs that are new.
-/
import Derived.Test.YtdjgbagnajikeaaGreatDoorB23
import Derived.Test.YtdjgbagnajikeaaGreatDoorB17
set_option linter.unusedVariables false
set_option linter.unusedSimpArgs false
set_option maxRecDepth 100000
set_option maxHeartbeats 8000000
noncomputable section
namespace Go.Proofs.Led
open Go Go.Proofs Go.Ab
open Classical in
def cutW(s:aJ)(e:Event):aJ×Int:=aD6 s e.id λm=>if m.program≠aI then cutQ s (bs sid s.stocks e.id) m e else(inv0,10)
def apSt(s:aJ)(e:Event)(L:List Int)(i:Nat):St:=
 mkSt [(2, .box 2 0),(3, .box 3 0),(4, .box 4 0),(5,I 0),(6, .sl (L.map I)),(7,I i)] [(2,invC s),(3,iJ e),(4,zInv)] []
theorem fX9(s:aJ)(e:Event)(r:aJ×Int)(O:s.used.length<=900000)(hc:e.cuts.length<=10000)(hr:e.rests.length<=10000)(hF:Sp 85 [aS e] (.lit (.bool true)))
 (i:¬dP s.used (idsR e)->r=(inv0,7))(X:s.stocks.length<=900000)(Y:s.pieces.length<=900000)(hz:e.kind=1->gV e.sheet.shape)
 (G:e.kind=1->dP s.used (idsR e)->r=(aX7 s ⟨false,e.sheet,bar0,aI⟩,0))
 (d:(s.stocks.map sid).Pairwise (·<·))
 (F:e.kind=3->dP s.used (idsR e)->r=relR s e)
 (J:e.kind=4->dP s.used (idsR e)->r=bP3 s e)
 (M:∀m∈s.stocks,eY m)
 (t:e.kind=8->dP s.used (idsR e)->r=bQ0 s e)
 (w:e.kind=5->dP s.used (idsR e)->r=cutW s e)
 (H:e.kind=2->dP s.used (idsR e)->r=(aX7 s ⟨true,dN,e.bar,aI⟩,0))
 (C:(s.pieces.map Piece.id).Pairwise (·<·))
 (u:e.kind=6->dP s.used (idsR e)->r=nK s e.id 2 aI)
 (v:e.kind=7->dP s.used (idsR e)->r=nK s e.id 3 e.text)(ae:1<=e.kind)(af:e.kind<=8):fnVC T Tryz.prog Tryz.f42 [invV s,aS e] (.tup [invV r.1,I r.2]):=by
 have g1:=gC6 e hc hr
 have ad:(idsR e).length<=20000:=by
  unfold idsR fO;split
  ·simp
  ·split
   ·simp
   ·simp;omega
 rw[fJ1]at i G H F J w u v t;generalize hL:idsR e=L at*;have ac:(L.map I).length=L.length:=Ae;have ab:(s.used.map I).length=s.used.length:=Ae
 repeat' ((conv=>whnf);first|refine zc hF ?_|refine zc g1 ?_|refine zS ?_|fail)
 refine aU (A:=List Int) (B:=List Int) (λD R=>apSt s e L D.length) (λD R=>L=D++R/\(∀x∈D,x∉s.used)/\D.Pairwise (·≠·)) (λD R=>R.length) [] L ?_ ⟨rfl,Ae, .nil⟩ (λD R hp=>?_)
 ·refine Le.trans (fB (k:=19) rfl (.inl rfl)) ?_
  show Le T _ (apSt s e L 0);exact zj
 obtain⟨hp,hU,hP⟩:=hp
 cases R with
 |cons n R=>
  have K:=aO hp;have N:n∈L:=Ad
  have Z:n∈s.used->r=(inv0,7):=λh=>i (λq=>q.1 n N h)
  have V:n∈D->r=(inv0,7):=λh=>i (λq=>by
   have:=q.2;rw[hp,Rx]at this;exact this.2.2 n h n Ae rfl)
  repeat' ((conv=>whnf);first|omega|refine zS ?_|refine zl (λhlt=>?_) (λhlt=>?_))
  refine aU (A:=List Int) (B:=List Int) (λE S=>mkSt [(2, .box 2 0),(3, .box 3 0),(4, .box 4 0),(5,I 0),(6, .sl (L.map I)),(7,I D.length),(8,I E.length)] [(2,invC s),(3,iJ e),(4,zInv)] []) (λE S=>s.used=E++S/\n∉E) (λE S=>S.length) [] s.used ?_ ⟨rfl,Ae⟩ (λE S hq=>?_)
  ·exact zj
  obtain⟨hq,hE⟩:=hq
  cases S with
  |cons m S=>
   have f:=aO hq
   repeat' ((conv=>whnf);first|omega|refine eZ1 Ak ?_|refine aB (l:=s.used) Aa ?_|refine aB (l:=L) Aa ?_|refine aF (l:=s.used) (A:=E) (x:=m) (B:=S) hq Aa ?_|refine aF (l:=L) (A:=D) (x:=n) (B:=R) hp Aa ?_|refine zS ?_|refine zl (λhlt=>?_) (λhlt=>?_)|refine ze (λheq=>?_) (λheq=>?_))
   all_goals conv=>whnf
   ·rw[Z (by rw[hq];simp[heq])]
    all_goals exact zE
   ·exact MP
  |nil=>
   have f:s.used.length=E.length:=Ap;have W:n∉s.used:=by rw[hq,QU];exact hE
   repeat' ((conv=>whnf);first|omega|refine zS ?_|refine zl (λhlt=>?_) (λhlt=>?_))
   refine aU (A:=List Int) (B:=List Int) (λE S=>mkSt [(2, .box 2 0),(3, .box 3 0),(4, .box 4 0),(5,I 0),(6, .sl (L.map I)),(7,I D.length),(9,I E.length)] [(2,invC s),(3,iJ e),(4,zInv)] []) (λE S=>D=E++S/\n∉E) (λE S=>S.length) [] D ?_ ⟨rfl,Ae⟩ (λE S hq=>?_)
   ·exact zj
   obtain⟨hq,hE⟩:=hq
   cases S with
   |cons m S=>
    have f:=aO hq;have U:L=E++m::(S++n::R):=HY
    repeat' ((conv=>whnf);first|omega|refine eZ1 Ak ?_|refine aB (l:=L) Aa ?_|refine aF (l:=L) (A:=D) (x:=n) (B:=R) hp Aa ?_|refine aF (l:=L) (A:=E) (x:=m) (B:=S++n::R) U Aa ?_|refine zS ?_|refine zl (λhlt=>?_) (λhlt=>?_)|refine ze (λheq=>?_) (λheq=>?_))
    all_goals conv=>whnf
    ·rw[V (by rw[hq];simp[heq])]
     all_goals exact zE
    ·exact MP
   |nil=>
    have f:D.length=E.length:=Ap;have P:n∉D:=by rw[hq,QU];exact hE
    repeat' ((conv=>whnf);first|omega|refine zS ?_|refine zl (λhlt=>?_) (λhlt=>?_))
    all_goals conv=>whnf
    refine⟨(D++[n],R),?_,⟨Ad,λx c=>?_,?_⟩,Ae⟩
    ·show Le T _ (apSt s e L (D++[n]).length)
     rw[QG,QK];unfold apSt;exact zj
    ·rcases QJ.1 c with c|c
     ·exact hU x c
     ·rw[QI.1 c];exact W
    ·rw[Rx]
     exact⟨hP,TL _ _,λx c y hy=>by rw[QI.1 hy];exact λq=>P (q▸c)⟩
 |nil=>
  have K:L.length=D.length:=Ad;have hDe:L=D:=Ad
  replace G:=λh=>G h ⟨Dz,D5⟩;replace H:=λh=>H h ⟨Dz,D5⟩;replace F:=λh=>F h ⟨Dz,D5⟩;replace J:=λh=>J h ⟨Dz,D5⟩;replace t:=λh=>t h ⟨Dz,D5⟩;replace w:=λh=>w h ⟨Dz,D5⟩;replace u:=λh=>u h ⟨Dz,D5⟩;replace v:=λh=>v h ⟨Dz,D5⟩;clear i hU hP;have g2:=fV4 s Aa Aa Aa
  by_cases k1:e.kind=1
  ·rw[G k1]
   have g3:=fN8 s ⟨false,e.sheet,bar0,aI⟩ Aa Aa;have g4:=fK5 e.sheet.shape (hz k1)
   repeat' ((conv=>whnf);first|omega|refine eZ1 Ak ?_|refine zc g2 ?_|refine zc g3 ?_|refine zc g4 ?_|refine zS ?_|refine zl (λhlt=>?_) (λhlt=>?_)|refine ze (λheq=>?_) (λheq=>?_))
   all_goals exact zE
  by_cases k2:e.kind=2
  ·rw[H k2]
   have g3:=fN8 s ⟨true,dN,e.bar,aI⟩ Aa Aa;exact MS
  have aa:(s.stocks.map aQ).length=s.stocks.length:=Ae;have g3:=fZ7 s e.id Aa
  by_cases k3:e.kind=3
  ·rw[F k3]
   by_cases a:∃m∈s.stocks,sid m=e.id;rotate_left
   ·have e1:relR s e=(inv0,8):=by unfold relR aD6;rw[Q5 a]
    have o:aC2 sid s.stocks e.id= -1:=aB5 (λx c q=>a ⟨x,c,q⟩);rw[e1];rw[o]at g3;exact MS
   obtain⟨m,hm,j⟩:=aB8 d a;have g:=(QD.1 hm).1;rw[fF9 d a]at g3;by_cases b:m.program=aI;rotate_left
   ·have e1:relR s e=(inv0,27):=by unfold relR aD6;rw[Q9 a,hm];exact Q5 b
    exact MV
   ·have e1:relR s e=(setK s (bs sid s.stocks e.id) (prog m e.text),0):=by unfold relR aD6;rw[Q9 a,hm];exact Q9 b
    rw[e1];generalize bs sid s.stocks e.id=k at*;have eS:(s.stocks.set k (prog m e.text)).map aQ=(s.stocks.map aQ).set (k:Int).toNat (aQ (prog m e.text)):=Hg;have eR:invV (setK s k (prog m e.text))= .agg [.sl ((s.stocks.map aQ).set (k:Int).toNat (aQ (prog m e.text))), .sl (s.pieces.map aZ), .sl (s.used.map I),I s.received.1,I s.received.2,I s.scrap.1,I s.scrap.2] :=by rw[<-eS];rfl
    exact NC
  by_cases k4:e.kind=4
  ·rw[J k4]
   by_cases a:∃m∈s.stocks,sid m=e.id;rotate_left
   ·have e1:bP3 s e=(inv0,8):=by unfold bP3 aD6;rw[Q5 a]
    have o:aC2 sid s.stocks e.id= -1:=aB5 (λx c q=>a ⟨x,c,q⟩);rw[e1];rw[o]at g3;exact MS
   obtain⟨m,hm,j⟩:=aB8 d a;have g:=(QD.1 hm).1;rw[fF9 d a]at g3;by_cases b:m.program≠aI;rotate_left
   ·have e1:bP3 s e=(inv0,10):=by unfold bP3 aD6;rw[Q9 a,hm];exact Q5 b
    exact MV
   ·have e1:bP3 s e=(setK s (bs sid s.stocks e.id) (prog m aI),0):=by unfold bP3 aD6;rw[Q9 a,hm];exact Q9 b
    rw[e1];generalize bs sid s.stocks e.id=k at*;have eS:(s.stocks.set k (prog m aI)).map aQ=(s.stocks.map aQ).set (k:Int).toNat (aQ (prog m aI)):=Hg;have eR:invV (setK s k (prog m aI))= .agg [.sl ((s.stocks.map aQ).set (k:Int).toNat (aQ (prog m aI))), .sl (s.pieces.map aZ), .sl (s.used.map I),I s.received.1,I s.received.2,I s.scrap.1,I s.scrap.2] :=by rw[<-eS];rfl
    exact NC
  by_cases k8:e.kind=8
  ·rw[t k8]
   by_cases a:∃m∈s.stocks,sid m=e.id;rotate_left
   ·have e1:bQ0 s e=(inv0,8):=by unfold bQ0 aD6;rw[Q5 a]
    have o:aC2 sid s.stocks e.id= -1:=aB5 (λx c q=>a ⟨x,c,q⟩);rw[e1];rw[o]at g3;exact MS
   obtain⟨m,hm,j⟩:=aB8 d a;have g:=(QD.1 hm).1;rw[fF9 d a]at g3;by_cases b:m.program=aI;rotate_left
   ·have e1:bQ0 s e=(inv0,27):=by unfold bQ0 aD6;rw[Q9 a,hm];exact Q5 b
    exact MV
   ·have e1:bQ0 s e=(aX4 s (bs sid s.stocks e.id) m,0):=by unfold bQ0 aD6;rw[Q9 a,hm];exact Q9 b
    rw[e1];generalize bs sid s.stocks e.id=k at*;have g5:=fJ6 m (M m (QF hm));unfold aX4;rcases Bool.eq_false_or_eq_true m.isBar with hb|hb
    ·have g4:Sp 92 [B m.isBar] (I 1):=by rw[hb];exact fG6 true
     have g6:=fG9 {s with scrap:=plus true s.scrap (gG m)} k g (by show s.stocks.length<=_;omega)
     exact N9
    ·have g4:Sp 92 [B m.isBar] (I 0):=by rw[hb];exact fG6 false
     have g6:=fG9 {s with scrap:=plus false s.scrap (gG m)} k g (by show s.stocks.length<=_;omega)
     exact N9
  by_cases k5:e.kind=5
  ·rw[w k5]
   by_cases a:∃m∈s.stocks,sid m=e.id;rotate_left
   ·have e1:cutW s e=(inv0,8):=by unfold cutW aD6;rw[Q5 a]
    have o:aC2 sid s.stocks e.id= -1:=aB5 (λx c q=>a ⟨x,c,q⟩);rw[e1];rw[o]at g3;exact MS
   obtain⟨m,hm,j⟩:=aB8 d a;have g:=(QD.1 hm).1;rw[fF9 d a]at g3;by_cases b:m.program≠aI;rotate_left
   ·have e1:cutW s e=(inv0,10):=by unfold cutW aD6;rw[Q9 a,hm];exact Q5 b
    exact MV
   ·have e1:cutW s e=cutQ s (bs sid s.stocks e.id) m e:=by unfold cutW aD6;rw[Q9 a,hm];exact Q9 b
    rw[e1];generalize bs sid s.stocks e.id=k at*;have g5:=gD2 s k m e hm X Y O (M m (QF hm)) hc hr;generalize cutQ s k m e=Q at*
    repeat' ((conv=>whnf);first|omega|(exfalso;contradiction)|refine jI (λheq=>?_) (λheq=>?_)|refine aB (l:=s.stocks) Aa ?_|refine gK (l:=s.stocks) hm Aa ?_|refine zc g2 ?_|refine zc g3 ?_|refine zc g5 ?_|refine zS ?_|refine zl (λhlt=>?_) (λhlt=>?_)|refine ze (λheq=>?_) (λheq=>?_))
    all_goals exact zE
  have hmp:(s.pieces.map aZ).length=s.pieces.length:=Ae;by_cases k6:e.kind=6
  ·rw[u k6]
   have g3:=fO3 s e.id Aa;by_cases a:∃m∈s.pieces,m.id=e.id;rotate_left
   ·have e1:nK s e.id 2 aI=(inv0,8):=by unfold nK;rw[Q5 a]
    have o:aC2 Piece.id s.pieces e.id= -1:=aB5 (λx c q=>a ⟨x,c,q⟩);rw[e1];rw[o]at g3;exact MS
   obtain⟨m,hm,j⟩:=aB8 C a;have g:=(QD.1 hm).1;rw[fF9 C a]at g3;by_cases b:m.status=1;rotate_left
   ·have e1:nK s e.id 2 aI=(inv0,10):=by unfold nK;rw[Q9 a,hm];exact Q5 b
    exact NM
   ·have e1:nK s e.id 2 aI=(setP s (bs Piece.id s.pieces e.id) (marked m 2 aI),0):=by unfold nK;rw[Q9 a,hm];exact Q9 b
    rw[e1];generalize bs Piece.id s.pieces e.id=k at*;have eR:invV (setP s k (marked m 2 aI))= .agg [.sl (s.stocks.map aQ), .sl (((s.pieces.map aZ).set (k:Int).toNat (aZ {m with status:=2})).set (k:Int).toNat (aZ (marked m 2 aI))), .sl (s.used.map I),I s.received.1,I s.received.2,I s.scrap.1,I s.scrap.2] :=by rw[RP,List.set_set];unfold setP;rw[<-UE];rfl
    simp only;rw[eR]
    repeat' ((conv=>whnf);first|omega|refine cC0 [(10,10),(116,10),(119,10),(122,77777),(123,77777),(124,77777),(125,77777)] Af Ak ?_|refine aB (l:=s.pieces) Aa ?_|refine dS rfl rfl BI ?_|refine dS rfl rfl BR ?_|refine dB8 rfl rfl ?_|refine gK (l:=s.pieces) hm Aa ?_|refine cV1 rfl Gj ?_|refine zc g2 ?_|refine zc g3 ?_|refine zS ?_|refine zl (λhlt=>?_) (λhlt=>?_)|refine ze (λheq=>?_) (λheq=>?_))
    all_goals exact zE
  by_cases k7:e.kind=7
  ·rw[v k7]
   have g3:=fO3 s e.id Aa;by_cases a:∃m∈s.pieces,m.id=e.id;rotate_left
   ·have e1:nK s e.id 3 e.text=(inv0,8):=by unfold nK;rw[Q5 a]
    have o:aC2 Piece.id s.pieces e.id= -1:=aB5 (λx c q=>a ⟨x,c,q⟩);rw[e1];rw[o]at g3;exact MS
   obtain⟨m,hm,j⟩:=aB8 C a;have g:=(QD.1 hm).1;rw[fF9 C a]at g3;by_cases b:m.status=1;rotate_left
   ·have e1:nK s e.id 3 e.text=(inv0,10):=by unfold nK;rw[Q9 a,hm];exact Q5 b
    exact NM
   ·have e1:nK s e.id 3 e.text=(setP s (bs Piece.id s.pieces e.id) (marked m 3 e.text),0):=by unfold nK;rw[Q9 a,hm];exact Q9 b
    rw[e1];generalize bs Piece.id s.pieces e.id=k at*;have eR:invV (setP s k (marked m 3 e.text))= .agg [.sl (s.stocks.map aQ), .sl (((((s.pieces.map aZ).set (k:Int).toNat (aZ {m with status:=2})).set (k:Int).toNat (aZ (marked m 2 aI))).set (k:Int).toNat (aZ (marked m 3 aI))).set (k:Int).toNat (aZ (marked m 3 e.text))), .sl (s.used.map I),I s.received.1,I s.received.2,I s.scrap.1,I s.scrap.2] :=by rw[RP,List.set_set,List.set_set,List.set_set];unfold setP;rw[<-UE];rfl
    simp only;rw[eR]
    repeat' ((conv=>whnf);first|omega|refine cC0 [(10,10),(116,10),(119,10),(122,77777),(123,77777),(124,77777),(125,77777)] Af Ak ?_|refine cC0 [(10,10),(129,10),(132,10),(3,3),(135,3),(137,77777),(138,77777),(139,77777),(140,77777)] Af Ak ?_|refine aB (l:=s.pieces) Aa ?_|refine dS rfl rfl BI ?_|refine dS rfl rfl BR ?_|refine dB8 rfl rfl ?_|refine gK (l:=s.pieces) hm Aa ?_|refine cV1 rfl Gj ?_|refine zc g2 ?_|refine zc g3 ?_|refine zS ?_|refine zl (λhlt=>?_) (λhlt=>?_)|refine ze (λheq=>?_) (λheq=>?_))
    all_goals exact zE
  exfalso;omega
end Go.Proofs.Led
