/-
  The reference's Apply, walked (library 10): IDs that are new.
-/
import Derived.Test.YtkhhdojgbkophaaGreatQB25
set_option linter.unusedVariables false
set_option linter.unusedSimpArgs false
set_option maxRecDepth 100000
set_option maxHeartbeats 8000000
noncomputable section
namespace Go.Proofs.Led
open Go Go.Proofs Go.Ab
open Classical in
def cutW(s:aJ)(e:Event):aJ×Int:=aD6 s e.id fun m=>if m.program≠aI then cutQ s (bs sid s.stocks e.id) m e else(inv0,10)
def apSt(s:aJ)(e:Event)(L:List Int)(i:Nat):St:=
 mkSt [(2, .box 2 0),(3, .box 3 0),(4, .box 4 0),(5,I 0),(6, .sl (L.map I)),(7,I i)] [(2,invC s),(3,iJ e),(4,zInv)] []
theorem fX9(s:aJ)(e:Event)(r:aJ×Int)(hs3:s.used.length<=900000)(hc:e.cuts.length<=10000)(hr:e.rests.length<=10000)(hF:Sp 20 [aS e] (.lit (.bool true)))
 (hdup:¬dP s.used (idsR e)->r=(inv0,7))(hs1:s.stocks.length<=900000)(hs2:s.pieces.length<=900000)(hz:e.kind=1->gV e.sheet.shape)
 (hk1:e.kind=1->dP s.used (idsR e)->r=(aX7 s ⟨false,e.sheet,bar0,aI⟩,0))
 (hss:(s.stocks.map sid).Pairwise (·<·))
 (hk3:e.kind=3->dP s.used (idsR e)->r=relR s e)
 (hk4:e.kind=4->dP s.used (idsR e)->r=bP3 s e)
 (hsz:∀m∈s.stocks,eY m)
 (hk8:e.kind=8->dP s.used (idsR e)->r=bQ0 s e)
 (hk5:e.kind=5->dP s.used (idsR e)->r=cutW s e)
 (hk2:e.kind=2->dP s.used (idsR e)->r=(aX7 s ⟨true,dN,e.bar,aI⟩,0))
 (hsp:(s.pieces.map Piece.id).Pairwise (·<·))
 (hk6:e.kind=6->dP s.used (idsR e)->r=nK s e.id 2 aI)
 (hk7:e.kind=7->dP s.used (idsR e)->r=nK s e.id 3 e.text)(hlo:1<=e.kind)(hhi:e.kind<=8):fnVC T Tryz.prog Tryz.f16 [invV s,aS e] (.tup [invV r.1,I r.2]):=by
 have g1:=gC6 e hc hr
 have hll:(idsR e).length<=20000:=by
  unfold idsR fO;split
  ·simp
  ·split
   ·simp
   ·simp;omega
 rw[fJ1]at hdup hk1 hk2 hk3 hk4 hk5 hk6 hk7 hk8;generalize hL:idsR e=L at*;have hml:(L.map I).length=L.length:=Af;have hmu:(s.used.map I).length=s.used.length:=Af
 repeat' ((conv=>whnf);first|refine zc hF ?_|refine zc g1 ?_|refine zS ?_|fail)
 refine aU (A:=List Int) (B:=List Int) (fun D R=>apSt s e L D.length) (fun D R=>L=D++R/\(∀x∈D,x∉s.used)/\D.Pairwise (·≠·)) (fun D R=>R.length) [] L ?_ ⟨rfl,Af, .nil⟩ (fun D R hp=>?_)
 ·refine Le.trans (fB (k:=19) rfl (.inl rfl)) ?_
  show Le T _ (apSt s e L 0);exact zj
 obtain⟨hp,hU,hP⟩:=hp
 cases R with
 |cons n R=>
  have hlen:=aO hp;have hnm:n∈L:=Ac
  have hb1:n∈s.used->r=(inv0,7):=fun h=>hdup (fun q=>q.1 n hnm h)
  have hb2:n∈D->r=(inv0,7):=fun h=>hdup (fun q=>by
   have:=q.2;rw[hp,List.pairwise_append]at this;exact this.2.2 n h n Af rfl)
  repeat' ((conv=>whnf);first|(exfalso;omega)|refine zS ?_|refine zl (fun hlt=>?_) (fun hlt=>?_))
  refine aU (A:=List Int) (B:=List Int) (fun E S=>mkSt [(2, .box 2 0),(3, .box 3 0),(4, .box 4 0),(5,I 0),(6, .sl (L.map I)),(7,I D.length),(8,I E.length)] [(2,invC s),(3,iJ e),(4,zInv)] []) (fun E S=>s.used=E++S/\n∉E) (fun E S=>S.length) [] s.used ?_ ⟨rfl,Af⟩ (fun E S hq=>?_)
  ·exact zj
  obtain⟨hq,hE⟩:=hq
  cases S with
  |cons m S=>
   have hlen2:=aO hq
   repeat' ((conv=>whnf);first|(exfalso;omega)|refine eZ1 Ak ?_|refine aB (l:=s.used) Aa ?_|refine aB (l:=L) Aa ?_|refine aF (l:=s.used) (A:=E) (x:=m) (B:=S) hq Aa ?_|refine aF (l:=L) (A:=D) (x:=n) (B:=R) hp Aa ?_|refine zS ?_|refine zl (fun hlt=>?_) (fun hlt=>?_)|refine ze (fun heq=>?_) (fun heq=>?_))
   all_goals conv=>whnf
   ·rw[hb1 (by rw[hq];simp[heq])]
    all_goals exact zE
   ·exact P5
  |nil=>
   have hlen2:s.used.length=E.length:=Am;have hnu:n∉s.used:=by rw[hq,List.append_nil];exact hE
   repeat' ((conv=>whnf);first|(exfalso;omega)|refine zS ?_|refine zl (fun hlt=>?_) (fun hlt=>?_))
   refine aU (A:=List Int) (B:=List Int) (fun E S=>mkSt [(2, .box 2 0),(3, .box 3 0),(4, .box 4 0),(5,I 0),(6, .sl (L.map I)),(7,I D.length),(9,I E.length)] [(2,invC s),(3,iJ e),(4,zInv)] []) (fun E S=>D=E++S/\n∉E) (fun E S=>S.length) [] D ?_ ⟨rfl,Af⟩ (fun E S hq=>?_)
   ·exact zj
   obtain⟨hq,hE⟩:=hq
   cases S with
   |cons m S=>
    have hlen2:=aO hq;have hp2:L=E++m::(S++n::R):=GI
    repeat' ((conv=>whnf);first|(exfalso;omega)|refine eZ1 Ak ?_|refine aB (l:=L) Aa ?_|refine aF (l:=L) (A:=D) (x:=n) (B:=R) hp Aa ?_|refine aF (l:=L) (A:=E) (x:=m) (B:=S++n::R) hp2 Aa ?_|refine zS ?_|refine zl (fun hlt=>?_) (fun hlt=>?_)|refine ze (fun heq=>?_) (fun heq=>?_))
    all_goals conv=>whnf
    ·rw[hb2 (by rw[hq];simp[heq])]
     all_goals exact zE
    ·exact P5
   |nil=>
    have hlen2:D.length=E.length:=Am;have hnD:n∉D:=by rw[hq,List.append_nil];exact hE
    repeat' ((conv=>whnf);first|(exfalso;omega)|refine zS ?_|refine zl (fun hlt=>?_) (fun hlt=>?_))
    all_goals conv=>whnf
    refine⟨(D++[n],R),?_,⟨Ac,fun x hx=>?_,?_⟩,Af⟩
    ·show Le T _ (apSt s e L (D++[n]).length)
     rw[List.length_append,List.length_singleton];unfold apSt;exact zj
    ·rcases List.mem_append.1 hx with hx|hx
     ·exact hU x hx
     ·rw[List.mem_singleton.1 hx];exact hnu
    ·rw[List.pairwise_append]
     exact⟨hP,List.pairwise_singleton _ _,fun x hx y hy=>by rw[List.mem_singleton.1 hy];exact fun q=>hnD (q▸hx)⟩
 |nil=>
  have hlen:L.length=D.length:=Ac;have hDe:L=D:=Ac
  replace hk1:=fun h=>hk1 h ⟨DL,DN⟩;replace hk2:=fun h=>hk2 h ⟨DL,DN⟩;replace hk3:=fun h=>hk3 h ⟨DL,DN⟩;replace hk4:=fun h=>hk4 h ⟨DL,DN⟩;replace hk8:=fun h=>hk8 h ⟨DL,DN⟩;replace hk5:=fun h=>hk5 h ⟨DL,DN⟩;replace hk6:=fun h=>hk6 h ⟨DL,DN⟩;replace hk7:=fun h=>hk7 h ⟨DL,DN⟩;clear hdup hU hP;have g2:=fV4 s Aa Aa Aa
  by_cases k1:e.kind=1
  ·rw[hk1 k1]
   have g3:=fN8 s ⟨false,e.sheet,bar0,aI⟩ Aa Aa;have g4:=fK5 e.sheet.shape (hz k1)
   repeat' ((conv=>whnf);first|(exfalso;omega)|refine eZ1 Ak ?_|refine zc g2 ?_|refine zc g3 ?_|refine zc g4 ?_|refine zS ?_|refine zl (fun hlt=>?_) (fun hlt=>?_)|refine ze (fun heq=>?_) (fun heq=>?_))
   all_goals exact zE
  by_cases k2:e.kind=2
  ·rw[hk2 k2]
   have g3:=fN8 s ⟨true,dN,e.bar,aI⟩ Aa Aa;exact P7
  have hms:(s.stocks.map aQ).length=s.stocks.length:=Af;have g3:=fZ7 s e.id Aa
  by_cases k3:e.kind=3
  ·rw[hk3 k3]
   by_cases hex:∃m∈s.stocks,sid m=e.id;rotate_left
   ·have e1:relR s e=(inv0,8):=by unfold relR aD6;rw[if_neg hex]
    have e2:aC2 sid s.stocks e.id= -1:=aB5 (fun x hx q=>hex ⟨x,hx,q⟩);rw[e1];rw[e2]at g3;exact P7
   obtain⟨m,hm,hmi⟩:=aB8 hss hex;have hkl:=(List.getElem?_eq_some_iff.1 hm).1;rw[fF9 hss hex]at g3;by_cases hst:m.program=aI;rotate_left
   ·have e1:relR s e=(inv0,27):=by unfold relR aD6;rw[if_pos hex,hm];exact if_neg hst
    exact P8
   ·have e1:relR s e=(setK s (bs sid s.stocks e.id) (prog m e.text),0):=by unfold relR aD6;rw[if_pos hex,hm];exact if_pos hst
    rw[e1];generalize bs sid s.stocks e.id=k at*;have eS:(s.stocks.set k (prog m e.text)).map aQ=(s.stocks.map aQ).set (k:Int).toNat (aQ (prog m e.text)):=Iw;have eR:invV (setK s k (prog m e.text))= .agg [.sl ((s.stocks.map aQ).set (k:Int).toNat (aQ (prog m e.text))), .sl (s.pieces.map aZ), .sl (s.used.map I),I s.received.1,I s.received.2,I s.scrap.1,I s.scrap.2] :=by rw[<-eS];rfl
    exact Qj
  by_cases k4:e.kind=4
  ·rw[hk4 k4]
   by_cases hex:∃m∈s.stocks,sid m=e.id;rotate_left
   ·have e1:bP3 s e=(inv0,8):=by unfold bP3 aD6;rw[if_neg hex]
    have e2:aC2 sid s.stocks e.id= -1:=aB5 (fun x hx q=>hex ⟨x,hx,q⟩);rw[e1];rw[e2]at g3;exact P7
   obtain⟨m,hm,hmi⟩:=aB8 hss hex;have hkl:=(List.getElem?_eq_some_iff.1 hm).1;rw[fF9 hss hex]at g3;by_cases hst:m.program≠aI;rotate_left
   ·have e1:bP3 s e=(inv0,10):=by unfold bP3 aD6;rw[if_pos hex,hm];exact if_neg hst
    exact P8
   ·have e1:bP3 s e=(setK s (bs sid s.stocks e.id) (prog m aI),0):=by unfold bP3 aD6;rw[if_pos hex,hm];exact if_pos hst
    rw[e1];generalize bs sid s.stocks e.id=k at*;have eS:(s.stocks.set k (prog m aI)).map aQ=(s.stocks.map aQ).set (k:Int).toNat (aQ (prog m aI)):=Iw;have eR:invV (setK s k (prog m aI))= .agg [.sl ((s.stocks.map aQ).set (k:Int).toNat (aQ (prog m aI))), .sl (s.pieces.map aZ), .sl (s.used.map I),I s.received.1,I s.received.2,I s.scrap.1,I s.scrap.2] :=by rw[<-eS];rfl
    exact Qj
  by_cases k8:e.kind=8
  ·rw[hk8 k8]
   by_cases hex:∃m∈s.stocks,sid m=e.id;rotate_left
   ·have e1:bQ0 s e=(inv0,8):=by unfold bQ0 aD6;rw[if_neg hex]
    have e2:aC2 sid s.stocks e.id= -1:=aB5 (fun x hx q=>hex ⟨x,hx,q⟩);rw[e1];rw[e2]at g3;exact P7
   obtain⟨m,hm,hmi⟩:=aB8 hss hex;have hkl:=(List.getElem?_eq_some_iff.1 hm).1;rw[fF9 hss hex]at g3;by_cases hst:m.program=aI;rotate_left
   ·have e1:bQ0 s e=(inv0,27):=by unfold bQ0 aD6;rw[if_pos hex,hm];exact if_neg hst
    exact P8
   ·have e1:bQ0 s e=(aX4 s (bs sid s.stocks e.id) m,0):=by unfold bQ0 aD6;rw[if_pos hex,hm];exact if_pos hst
    rw[e1];generalize bs sid s.stocks e.id=k at*;have g5:=fJ6 m (hsz m (List.mem_of_getElem? hm));unfold aX4;rcases Bool.eq_false_or_eq_true m.isBar with hb|hb
    ·have g4:Sp 70 [B m.isBar] (I 1):=by rw[hb];exact fG6 true
     have g6:=fG9 {s with scrap:=plus true s.scrap (gG m)} k hkl (by show s.stocks.length<=_;omega)
     exact Qi
    ·have g4:Sp 70 [B m.isBar] (I 0):=by rw[hb];exact fG6 false
     have g6:=fG9 {s with scrap:=plus false s.scrap (gG m)} k hkl (by show s.stocks.length<=_;omega)
     exact Qi
  by_cases k5:e.kind=5
  ·rw[hk5 k5]
   by_cases hex:∃m∈s.stocks,sid m=e.id;rotate_left
   ·have e1:cutW s e=(inv0,8):=by unfold cutW aD6;rw[if_neg hex]
    have e2:aC2 sid s.stocks e.id= -1:=aB5 (fun x hx q=>hex ⟨x,hx,q⟩);rw[e1];rw[e2]at g3;exact P7
   obtain⟨m,hm,hmi⟩:=aB8 hss hex;have hkl:=(List.getElem?_eq_some_iff.1 hm).1;rw[fF9 hss hex]at g3;by_cases hst:m.program≠aI;rotate_left
   ·have e1:cutW s e=(inv0,10):=by unfold cutW aD6;rw[if_pos hex,hm];exact if_neg hst
    exact P8
   ·have e1:cutW s e=cutQ s (bs sid s.stocks e.id) m e:=by unfold cutW aD6;rw[if_pos hex,hm];exact if_pos hst
    rw[e1];generalize bs sid s.stocks e.id=k at*;have g5:=gD2 s k m e hm hs1 hs2 hs3 (hsz m (List.mem_of_getElem? hm)) hc hr;generalize cutQ s k m e=Q at*
    repeat' ((conv=>whnf);first|(exfalso;omega)|(exfalso;contradiction)|refine jI (fun heq=>?_) (fun heq=>?_)|refine aB (l:=s.stocks) Aa ?_|refine gK (l:=s.stocks) hm Aa ?_|refine zc g2 ?_|refine zc g3 ?_|refine zc g5 ?_|refine zS ?_|refine zl (fun hlt=>?_) (fun hlt=>?_)|refine ze (fun heq=>?_) (fun heq=>?_))
    all_goals exact zE
  have hmp:(s.pieces.map aZ).length=s.pieces.length:=Af;by_cases k6:e.kind=6
  ·rw[hk6 k6]
   have g3:=fO3 s e.id Aa;by_cases hex:∃m∈s.pieces,m.id=e.id;rotate_left
   ·have e1:nK s e.id 2 aI=(inv0,8):=by unfold nK;rw[if_neg hex]
    have e2:aC2 Piece.id s.pieces e.id= -1:=aB5 (fun x hx q=>hex ⟨x,hx,q⟩);rw[e1];rw[e2]at g3;exact P7
   obtain⟨m,hm,hmi⟩:=aB8 hsp hex;have hkl:=(List.getElem?_eq_some_iff.1 hm).1;rw[fF9 hsp hex]at g3;by_cases hst:m.status=1;rotate_left
   ·have e1:nK s e.id 2 aI=(inv0,10):=by unfold nK;rw[if_pos hex,hm];exact if_neg hst
    exact Qu
   ·have e1:nK s e.id 2 aI=(setP s (bs Piece.id s.pieces e.id) (marked m 2 aI),0):=by unfold nK;rw[if_pos hex,hm];exact if_pos hst
    rw[e1];generalize bs Piece.id s.pieces e.id=k at*;have eR:invV (setP s k (marked m 2 aI))= .agg [.sl (s.stocks.map aQ), .sl (((s.pieces.map aZ).set (k:Int).toNat (aZ {m with status:=2})).set (k:Int).toNat (aZ (marked m 2 aI))), .sl (s.used.map I),I s.received.1,I s.received.2,I s.scrap.1,I s.scrap.2] :=by rw[Int.toNat_natCast,List.set_set];unfold setP;rw[<-List.map_set];rfl
    simp only;rw[eR]
    repeat' ((conv=>whnf);first|(exfalso;omega)|refine cC0 [(10,10),(116,10),(119,10),(122,77777),(123,77777),(124,77777),(125,77777)] Ae Ak ?_|refine aB (l:=s.pieces) Aa ?_|refine dS rfl rfl BP ?_|refine dS rfl rfl Ce ?_|refine dB8 rfl rfl ?_|refine gK (l:=s.pieces) hm Aa ?_|refine cV1 rfl Hl ?_|refine zc g2 ?_|refine zc g3 ?_|refine zS ?_|refine zl (fun hlt=>?_) (fun hlt=>?_)|refine ze (fun heq=>?_) (fun heq=>?_))
    all_goals exact zE
  by_cases k7:e.kind=7
  ·rw[hk7 k7]
   have g3:=fO3 s e.id Aa;by_cases hex:∃m∈s.pieces,m.id=e.id;rotate_left
   ·have e1:nK s e.id 3 e.text=(inv0,8):=by unfold nK;rw[if_neg hex]
    have e2:aC2 Piece.id s.pieces e.id= -1:=aB5 (fun x hx q=>hex ⟨x,hx,q⟩);rw[e1];rw[e2]at g3;exact P7
   obtain⟨m,hm,hmi⟩:=aB8 hsp hex;have hkl:=(List.getElem?_eq_some_iff.1 hm).1;rw[fF9 hsp hex]at g3;by_cases hst:m.status=1;rotate_left
   ·have e1:nK s e.id 3 e.text=(inv0,10):=by unfold nK;rw[if_pos hex,hm];exact if_neg hst
    exact Qu
   ·have e1:nK s e.id 3 e.text=(setP s (bs Piece.id s.pieces e.id) (marked m 3 e.text),0):=by unfold nK;rw[if_pos hex,hm];exact if_pos hst
    rw[e1];generalize bs Piece.id s.pieces e.id=k at*;have eR:invV (setP s k (marked m 3 e.text))= .agg [.sl (s.stocks.map aQ), .sl (((((s.pieces.map aZ).set (k:Int).toNat (aZ {m with status:=2})).set (k:Int).toNat (aZ (marked m 2 aI))).set (k:Int).toNat (aZ (marked m 3 aI))).set (k:Int).toNat (aZ (marked m 3 e.text))), .sl (s.used.map I),I s.received.1,I s.received.2,I s.scrap.1,I s.scrap.2] :=by rw[Int.toNat_natCast,List.set_set,List.set_set,List.set_set];unfold setP;rw[<-List.map_set];rfl
    simp only;rw[eR]
    repeat' ((conv=>whnf);first|(exfalso;omega)|refine cC0 [(10,10),(116,10),(119,10),(122,77777),(123,77777),(124,77777),(125,77777)] Ae Ak ?_|refine cC0 [(10,10),(129,10),(132,10),(3,3),(135,3),(137,77777),(138,77777),(139,77777),(140,77777)] Ae Ak ?_|refine aB (l:=s.pieces) Aa ?_|refine dS rfl rfl BP ?_|refine dS rfl rfl Ce ?_|refine dB8 rfl rfl ?_|refine gK (l:=s.pieces) hm Aa ?_|refine cV1 rfl Hl ?_|refine zc g2 ?_|refine zc g3 ?_|refine zS ?_|refine zl (fun hlt=>?_) (fun hlt=>?_)|refine ze (fun heq=>?_) (fun heq=>?_))
    all_goals exact zE
  exfalso;omega
end Go.Proofs.Led
