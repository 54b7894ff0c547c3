/-
  The law of the genealogy's queries: right forests, a node that is there.
-/
import Derived.Test.YtdjgbagnajikeaaGreatDoorSHQ3
set_option linter.unusedVariables false
set_option linter.unusedSimpArgs false
set_option maxRecDepth 100000
set_option maxHeartbeats 8000000
noncomputable section
namespace Go.Proofs.Led
open Go Go.Proofs Go.Ab
theorem lawGQ_Y(f:List Node)(n:Int)(s:ByteArray)(x:Node)(haw:Sp 10 [] (.lit (.bool true)))(hl:f.length<=30)(hz:SzN f)(hw:WfN f)(hk:∀y∈f,NOk y)(hf:fewF f 30)(hs:s.size<=40)(h:RightF f)(hn:getN f n=some x):Sp 8 [.sl (f.map nodeV),I n,S s] (.lit (.bool true)):=by
 refine zsp Tryz.func8 ?_;have hl':f.length<=1000000:=Aa;obtain⟨hx,hid⟩:=getN_mem hn;have h0:n≠0:=by have:=(h.own x hx).1;omega
 have h1:=fewF_spec f 30 Aa;have h2:=ownF_spec f hl'
 have c1:=pathY_spec f n x hl' hz h hn;have c2:=rpathY_spec f n x hl' hz h hn
 have c3:=kidsY_spec f n x hl' hz hw h hn h0;have c4:=rkidsY_spec f n x hl' hz h hn
 rw[kidsL_rev]at c3;have c5:=sumY_spec f n x hl' hz hw h hn;have c6:=rsumY_spec f n x hl' hz h hn
 unfold acC at c5 c6;have c7:=certY_spec f n x Aa hz h hn hk;have c8:=rcertY_spec f n x Aa hz h hn hk
 have c9:=rightG_spec f hl' hz;have c10:=rrightF_spec f hl' hz
 have c11:=heatY_spec f s hl' hz h;have c12:=rheatY_spec f s hl' hz h
 have hpl:(pathL f x).length<=1000000:=by
  unfold pathL;have:=ch_le (f:=f) (x:=x);simp;omega
 have c13:=sI_spec (pathL f x) hpl;have c14:=sI_spec (heatL s f) (Nat.le_trans (heat_len s f) hl')
 have c15:=sI_spec ((kidsN f n).map Node.id) (by rw[List.length_map];exact Nat.le_trans (List.length_filter_le _ _) hl')
 cases f with
 |nil=>cases hx
 |cons a r=>
  clear hn hx hk hw hz;generalize pathL (a::r) x=L at*;generalize certL (chN (a::r) x).reverse=Z at*;generalize W (allU (a::r) g0N n)=w0 at*;generalize W (allU (a::r) g1N n)=w1 at*;generalize W (allU (a::r) g2N n)=w2 at*;generalize heatL s (a::r)=K at*;generalize (kidsN (a::r) n).map Node.id=M at*;generalize fewF (a::r) 30=q at*;generalize RightF (a::r)=P at*;unfold groNR at h2;replace h2:=own_sl h2;cases K;all_goals cases M
  all_goals unfold groR at c12 c4
  all_goals repeat' ((conv=>whnf);first|(exfalso;contradiction)|(exfalso;omega)|(refine aS5 (c13) true ?_ rfl ?_;focus ((repeat' (first|exact trivial|refine And.intro ?_ ?_|with_reducible rfl|exact(fun h=>Ag)|exact rfl));done))|(refine aS5 (c15) true ?_ rfl ?_;focus ((repeat' (first|exact trivial|refine And.intro ?_ ?_|with_reducible rfl|exact(fun h=>Ag)|exact rfl));done))|(refine aS5 (c14) true ?_ rfl ?_;focus ((repeat' (first|exact trivial|refine And.intro ?_ ?_|with_reducible rfl|exact(fun h=>Ag)|exact rfl));done))|refine eqAc_i ?_|refine jI (fun _=>?_) (fun heq=>absurd rfl heq)|refine br_BBs ?_|refine zS ?_|refine zd (fun hd=>?_) (fun hd=>?_)|refine zl (fun hlt=>?_) (fun hlt=>?_)|refine zk (fun hle=>?_) (fun hle=>?_)|refine ze (fun heq=>?_) (fun heq=>?_)|refine zm (fun x hx=>?_)|refine zb (fun hbb=>?_) (fun hbb=>?_))
  all_goals conv=>whnf
  all_goals exact aK rfl
end Go.Proofs.Led
