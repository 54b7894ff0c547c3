/-
  The inventory: all sizes add up.
-/
import Derived.Test.YtkhhdojgbkophaaGreatQB9
set_option linter.unusedVariables false
set_option linter.unusedSimpArgs false
set_option maxRecDepth 100000
set_option maxHeartbeats 4000000
noncomputable section
namespace Go.Proofs.Led
open Go Go.Proofs Go.Ab
theorem eqIv(a b c d:Int):eqT T 4 28 [I a,I b] [I c,I d] =some (andB (eqB a c) (andB (eqB b d) true)):=Ad
theorem eqIv_i{a b c d:Int}{K:Bool->Prop}(h:K (andB (eqB a c) (andB (eqB b d) true))):aL1.match_1 (fun _=>Prop) (eqT T 4 28 [I a,I b] [I c,I d]) K (fun _=>False):=by
 rw[eqIv];exact h
def upS(r:Iv)(l:List aN):Iv:=l.foldl (fun r x=>plus x.isBar r (gG x)) r
def upP(r:Iv)(l:List Piece):Iv:=l.foldl (fun r x=>plus x.isBar r x.size) r
def tK(s:aJ):Prop:=upP (upS s.scrap s.stocks) s.pieces=s.received
theorem eC9(r:Iv)(D:List aN)(x:aN):upS r (D++[x])=plus x.isBar (upS r D) (gG x):=by unfold upS;simp
theorem eL4(r:Iv)(D:List Piece)(x:Piece):upP r (D++[x])=plus x.isBar (upP r D) x.size:=by unfold upP;simp
theorem eS4{a b:Iv}{p:Prop}(h:a=b↔p):andB (eqB a.1 b.1) (andB (eqB a.2 b.2) true)=decB p:=Bool.eq_iff_iff.2 (by rw[dU0,dH];exact h)
theorem bN0(s:aJ)(hl1:s.stocks.length<=1000000)(hl2:s.pieces.length<=1000000)(hz:∀x∈s.stocks,eY x):Sp 24 [invV s] (DB (tK s)):=by
 refine zsp Tryz.func24 ?_;have hm1:(s.stocks.map aQ).length=s.stocks.length:=Af;have hm2:(s.pieces.map aZ).length=s.pieces.length:=Af
 have hr:upP (upS s.scrap s.stocks) s.pieces=s.received↔tK s:=Iff.rfl;generalize tK s=P at*
 repeat' ((conv=>whnf);first|refine zS ?_|fail)
 refine aU (A:=List aN) (B:=List aN) (fun D R=>mkSt [(1, .box 1 0),(3, .box 3 0),(11, .sl (s.stocks.map aQ)),(12,I s.stocks.length),(13,I D.length)] [(1,invC s),(3,[I (upS s.scrap D).1,I (upS s.scrap D).2])] []) (fun D R=>s.stocks=D++R) (fun D R=>R.length) [] s.stocks ?_ rfl (fun D R hp=>?_)
 ·exact Ko
 cases R with
 |cons x R=>
  have hlen:=aO hp;have g1:=oL x.isBar
  have g2:=vF x (hz x Ac);have hsn:=eC9 s.scrap D x
  have hlD:((D++[x]).length:Int)=(D.length:Int)+1:=Af;generalize upS s.scrap D=r at*;generalize gG x=z at*;unfold plus at hsn;obtain⟨b,sh,br,p⟩:=x;cases b;all_goals simp only[if_true,Bool.false_eq_true,if_false]at hsn
  ·repeat' ((conv=>whnf);first|(exfalso;omega)|refine zS ?_|refine zT ?_ ?_<;>intro _|fail)
   all_goals conv=>whnf
   refine⟨(D++[⟨false,sh,br,p⟩],R),?_,Ac,Af⟩;exact Qc
  ·repeat' ((conv=>whnf);first|(exfalso;omega)|refine zS ?_|refine zT ?_ ?_<;>intro _|fail)
   all_goals conv=>whnf
   refine⟨(D++[⟨true,sh,br,p⟩],R),?_,Ac,Af⟩;exact Qc
 |nil=>
  have hlen:s.stocks.length=D.length:=Ac;have e:s.stocks=D:=Ac
  rw[e]at hr;generalize upS s.scrap D=r0 at*
  repeat' ((conv=>whnf);first|(exfalso;omega)|refine zS ?_|refine zT ?_ ?_<;>intro _|fail)
  clear hp;refine aU (A:=List Piece) (B:=List Piece) (fun D R=>mkSt [(1, .box 1 0),(3, .box 3 0),(28, .sl (s.pieces.map aZ)),(29,I s.pieces.length),(30,I D.length)] [(1,invC s),(3,[I (upP r0 D).1,I (upP r0 D).2])] []) (fun D R=>s.pieces=D++R) (fun D R=>R.length) [] s.pieces ?_ rfl (fun D R hp=>?_)
  ·refine dV ?_ ?_ ?_ ?_
   all_goals repeat' (first|exact trivial|refine And.intro ?_ ?_|with_reducible rfl|exact(fun h=>Ah)|exact Nat.le_refl _|omega|exact rfl)
   all_goals (try rw[hm2])
  cases R with
  |cons x R=>
   have hlen2:=aO hp;have g1:=oL x.isBar
   have hsn:=eL4 r0 D x;have hlD:((D++[x]).length:Int)=(D.length:Int)+1:=Af
   generalize upP r0 D=r at*;unfold plus at hsn;obtain⟨i1,i2,i3,i4,i5,i6,b,i8,i9⟩:=x;cases b;all_goals simp only[if_true,Bool.false_eq_true,if_false]at hsn
   ·repeat' ((conv=>whnf);first|(exfalso;omega)|refine zS ?_|refine zT ?_ ?_<;>intro _|fail)
    all_goals conv=>whnf
    refine⟨(D++[⟨i1,i2,i3,i4,i5,i6,false,i8,i9⟩],R),?_,Ac,Af⟩;exact Qc
   ·repeat' ((conv=>whnf);first|(exfalso;omega)|refine zS ?_|refine zT ?_ ?_<;>intro _|fail)
    all_goals conv=>whnf
    refine⟨(D++[⟨i1,i2,i3,i4,i5,i6,true,i8,i9⟩],R),?_,Ac,Af⟩;exact Qc
  |nil=>
   have hlen2:s.pieces.length=D.length:=Ac;have e2:s.pieces=D:=Ac
   rw[e2]at hr;generalize upP r0 D=r1 at*
   repeat' ((conv=>whnf);first|(exfalso;omega)|refine zS ?_|refine zT ?_ ?_<;>intro _|fail)
   all_goals conv=>whnf
   all_goals exact aA (eS4 hr)
end Go.Proofs.Led
