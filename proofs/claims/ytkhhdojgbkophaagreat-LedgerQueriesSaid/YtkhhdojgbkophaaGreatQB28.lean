/-
  Find, FindPiece, Size, Count and Balanced are the reference's.
-/
import Derived.Test.YtkhhdojgbkophaaGreatQB27
set_option linter.unusedVariables false
set_option linter.unusedSimpArgs false
set_option maxRecDepth 100000
set_option maxHeartbeats 8000000
noncomputable section
namespace Go.Proofs.Led
open Go Go.Proofs Go.Ab
theorem eqPs_i{i1 i2 i6 i8:Int}{s3 s4 s5 s9:ByteArray}{b:Bool}{K:Bool->Prop}(h:K true):
 aL1.match_1 (fun _=>Prop) (eqT T 4 98 [I i1,I i2,S s3,S s4,S s5,I i6,B b,I i8,S s9] [I i1,I i2,S s3,S s4,S s5,I i6,B b,I i8,S s9]) K (fun _=>False):=by
 rw[eqPc];have e:=(eV1 (a:=⟨i1,i2,s3,s4,s5,i6,b,i8,s9⟩) (b:=⟨i1,i2,s3,s4,s5,i6,b,i8,s9⟩)).2 rfl;simp only at e;show K _;rw[e];exact h
theorem eqC3(a b c d e f:Int):eqT T 4 103 [I a,I b,I c] [I d,I e,I f] =some (andB (eqB a d) (andB (eqB b e) (andB (eqB c f) true))):=Ad
theorem eqC3_i{a b c:Int}{K:Bool->Prop}(h:K true):aL1.match_1 (fun _=>Prop) (eqT T 4 103 [I a,I b,I c] [I a,I b,I c]) K (fun _=>False):=by
 rw[eqC3]
 have e:andB (eqB a a) (andB (eqB b b) (andB (eqB c c) true))=true:=by
  simp only[dE9,aA1,and_true]
 show K _;rw[e];exact h
theorem br_c3{a b c:Int}{A B:Prop}(h:A):branch (andB (eqB a a) (andB (eqB b b) (andB (eqB c c) true))) A B:=by
 have e:andB (eqB a a) (andB (eqB b b) (andB (eqB c c) true))=true:=by
  simp only[dE9,aA1,and_true]
 rw[e];exact h
theorem find_sized{s:aJ}{n:Int}(hz:∀x∈s.stocks,eY x):eY (bF5 s n):=by
 unfold bF5
 cases h:s.stocks[fst (fun x=>sid x=n) s.stocks]? with
 |none=>exact⟨xZ,Nat.zero_le _⟩
 |some x=>exact hz x (List.mem_of_getElem? h)
theorem lawQueries_spec(l:List Event)(n:Int)(p:ByteArray)(hl:Len6 l)(hb:∀e∈l,bI1 e):Sp 9 [.sl (l.map aS),I n,S p] (.lit (.bool true)):=by
 refine zsp Tryz.func9 ?_;have hm:(l.map aS).length=l.length:=Af;have g0:=zB
 have g1:=aS2 l 16 hl hb;by_cases hf:fewL l 16/\(p.size:Int)<=40;rotate_left
 ·repeat' ((conv=>whnf);first|(exfalso;exact hf ⟨Ag,Aa⟩)|(exfalso;contradiction)|refine zS ?_|refine zm (fun x hx=>?_)|refine zT ?_ ?_<;>intro _|fail)
  all_goals exact zE
 obtain⟨⟨hf1,hf2⟩,hp40⟩:=hf;have hfs:∀e∈l,iY e/\e.cuts.length<=12/\e.rests.length<=8/\more e<=21:=fun e he=>aQ4 (hb e he) (hf1 e he);have hml:=bH2 (fun e he=>(hfs e he).2.2.2)
 have hf':fewL l 16:=⟨hf1,hf2⟩;have g2:=gD4 l Aa (fun e he=>⟨by have:=(hfs e he).2.1;omega,by have:=(hfs e he).2.2.1;omega⟩)
 have g3:=vX l (fun e he=>(hfs e he).1) Aa Aa;have g4:=fV2 l (fun e he=>⟨(hfs e he).1,(hb e he).1,by have:=(hfs e he).2.1;omega,by have:=(hfs e he).2.2.1;omega⟩) Aa Aa
 obtain⟨m,hm1,hm2⟩:=fO9 l inv0 0 0 gG6;generalize kL inv0 0 l=q at*;have l1:q.1.stocks.length<=1000000:=by have:=hm2.ok.ls;omega
 have l2:q.1.pieces.length<=1000000:=by have:=hm2.ok.lp;omega
 have hzz:=hm2.ok.sz;have hfz:=find_sized (n:=n) hzz
 have k1:=bH9 q.1 n l1;have k2:=rFindS_spec q.1 n l1
 have k3:=bG3 q.1 n l2;have k4:=rFindP_spec q.1 n l2
 have k5:=cK0 (bF5 q.1 n) (bF5 q.1 n) (bU0 hfz);rw[DB_t rfl]at k5;have k6:=vF _ hfz
 have k7:=fJ6 _ hfz;have k8:=count_spec q.1 p l2
 have k9:=rcount_spec q.1 p l2;obtain⟨b3,k10,k11⟩:∃b:Bool,Sp 24 [invV q.1] (B b)/\Sp 41 [invV q.1] (B b):=⟨decB (tK q.1),bN0 q.1 l1 l2 hzz,rbalanced_spec q.1 l1 l2 hzz⟩;obtain⟨b1,k1,k2⟩:∃b:Bool,Sp 31 [invV q.1,I n] (.tup [aQ (bF5 q.1 n),B b])/\Sp 34 [invV q.1,I n] (.tup [aQ (bF5 q.1 n),B b]):=⟨_,k1,k2⟩;obtain⟨b2,k3,k4⟩:∃b:Bool,Sp 30 [invV q.1,I n] (.tup [aZ (bF0 q.1 n),B b])/\Sp 35 [invV q.1,I n] (.tup [aZ (bF0 q.1 n),B b]):=⟨_,k3,k4⟩;generalize gG (bF5 q.1 n)=z at*;generalize cntL p q.1.pieces=c at*;clear hzz hfz hml hm1 hm2 hfs;generalize bF5 q.1 n=fs at*;generalize bF0 q.1 n=fp at*;obtain⟨c1,c2,c3⟩:=c;unfold c3V at k8 k9;obtain⟨i1,i2,i3,i4,i5,i6,i7,i8,i9⟩:=fp
 repeat' ((conv=>whnf);first|(exfalso;omega)|(exfalso;contradiction)|refine eZ1 Ak ?_|refine eqPs_i ?_|refine eqC3_i ?_|refine br_c3 ?_|refine eK5 (fun heq=>?_) (fun hne=>?_)|refine zS ?_|refine zm (fun x hx=>?_)|refine zT ?_ ?_<;>intro _|fail)
 all_goals conv=>whnf
 all_goals first
  |exact aK rfl
  |exact aK (by rw[cA1];simp)
end Go.Proofs.Led
