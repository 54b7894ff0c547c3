/-
  The statement on books and invoices, walked.
-/
import Derived.Test.YtkhhdojgbkophaaGreatDoorSA3
set_option linter.unusedVariables false
set_option linter.unusedSimpArgs false
set_option maxRecDepth 100000
set_option maxHeartbeats 4000000
noncomputable section
namespace Go.Proofs.Cost58
open Go Go.Proofs Go.Ab Go.Proofs.Led
abbrev bk6(a b c d e f:Int):List V:=[I a,I b,I c,I d,I e,I f]
theorem eqBk(a b c d e f a' b' c' d' e' f':Int):eqT T 4 43 (bk6 a b c d e f) (bk6 a' b' c' d' e' f')=some (andB (eqB a a') (andB (eqB b b') (andB (eqB c c') (andB (eqB d d') (andB (eqB e e') (andB (eqB f f') true)))))):=by kernel_rfl
theorem eqBk_i{a b c d e f:Int}{K:Bool->Prop}(h:K true):aL1.match_1 (fun _=>Prop) (eqT T 4 43 (bk6 a b c d e f) (bk6 a b c d e f)) K (fun _=>False):=by
 rw[eqBk]
 have e:andB (eqB a a) (andB (eqB b b) (andB (eqB c c) (andB (eqB d d) (andB (eqB e e) (andB (eqB f f) true)))))=true:=by
  simp only[dE9,aA1,and_true]
 show K _
 rw[e]
 exact h
theorem invA_vc(r:Rt)(s:Ls)(o:ByteArray)(hr:¬rtOk r):fnVC T Tryz.prog Tryz.f10 [rtV r,lsV s,S o] (.tup [.sl [],I 0,I 1]):=by
 have hv:=valid_spec r
 rw[dW.2 hr]at hv
 repeat' ((conv=>whnf);first
  |(refine aS5 (hv) false ?_ rfl ?_;focus ((repeat' (first|exact trivial|refine And.intro ?_ ?_|with_reducible rfl|exact(fun h=>by cases h)|exact rfl));done))
  |refine eY7 ?_
  |refine eZ1 (by kernel_rfl) ?_
  |refine eH4 (by omega) ?_
  |refine bW7 ?_
  |refine fU (p:=(T.row _).eq=true) (by kernel_rfl) ?_
  |refine fU (by omega) ?_
  |refine fU rfl ?_
  |refine eZ2 ?_
  |refine eZ0 (fun hd=>?_) (fun hd=>?_)
  |refine br_lt (fun hlt=>?_) (fun hlt=>?_)
  |refine br_le (fun hle=>?_) (fun hle=>?_)
  |refine eV7 (fun heq=>?_) (fun heq=>?_)
  |refine eQ9 (by omega) (fun x hx=>?_)
  |refine eY0 rfl (fun h=>by cases h) ?_
  |refine jU (fun hbb=>?_) (fun hbb=>?_)
  |refine ret_i ?_
  |refine fA7 ?_)
 all_goals conv=>whnf
 all_goals first
  |exact aG rfl
  |exact aK rfl
  |exact aP rfl
  |(refine⟨?_,rfl,fun rs h=>V.noConfusion h⟩;(repeat' (first|exact trivial|refine And.intro ?_ ?_|with_reducible rfl|exact(fun h=>by cases h)|exact rfl));done)
  |(refine⟨_,rfl,?_⟩;(repeat' (first|exact trivial|refine And.intro ?_ ?_|with_reducible rfl|exact(fun h=>by cases h)|exact rfl));done)
theorem invA_spec(r:Rt)(s:Ls)(o:ByteArray)(hr:¬rtOk r):Sp 10 [rtV r,lsV s,S o] (.tup [.sl [],I 0,I 1]):=zsp Tryz.func10 (invA_vc r s o hr)
theorem invB_vc(r:Rt)(s:Ls)(o:ByteArray)(hr:rtOk r)(ho:¬iM o):fnVC T Tryz.prog Tryz.f10 [rtV r,lsV s,S o] (.tup [.sl [],I 0,I 6]):=by
 have hv:=valid_spec r
 rw[dH.2 hr]at hv
 have hn:=aG6 o
 rw[dW.2 ho]at hn
 repeat' ((conv=>whnf);first
  |(refine aS5 (hv) false ?_ rfl ?_;focus ((repeat' (first|exact trivial|refine And.intro ?_ ?_|with_reducible rfl|exact(fun h=>by cases h)|exact rfl));done))
  |(refine aS5 (hn) false ?_ rfl ?_;focus ((repeat' (first|exact trivial|refine And.intro ?_ ?_|with_reducible rfl|exact(fun h=>by cases h)|exact rfl));done))
  |refine eY7 ?_
  |refine eZ1 (by kernel_rfl) ?_
  |refine eH4 (by omega) ?_
  |refine bW7 ?_
  |refine fU (p:=(T.row _).eq=true) (by kernel_rfl) ?_
  |refine fU (by omega) ?_
  |refine fU rfl ?_
  |refine eZ2 ?_
  |refine eZ0 (fun hd=>?_) (fun hd=>?_)
  |refine br_lt (fun hlt=>?_) (fun hlt=>?_)
  |refine br_le (fun hle=>?_) (fun hle=>?_)
  |refine eV7 (fun heq=>?_) (fun heq=>?_)
  |refine eQ9 (by omega) (fun x hx=>?_)
  |refine eY0 rfl (fun h=>by cases h) ?_
  |refine jU (fun hbb=>?_) (fun hbb=>?_)
  |refine ret_i ?_
  |refine fA7 ?_)
 all_goals conv=>whnf
 all_goals first
  |exact aG rfl
  |exact aK rfl
  |exact aP rfl
  |(refine⟨?_,rfl,fun rs h=>V.noConfusion h⟩;(repeat' (first|exact trivial|refine And.intro ?_ ?_|with_reducible rfl|exact(fun h=>by cases h)|exact rfl));done)
  |(refine⟨_,rfl,?_⟩;(repeat' (first|exact trivial|refine And.intro ?_ ?_|with_reducible rfl|exact(fun h=>by cases h)|exact rfl));done)
theorem invB_spec(r:Rt)(s:Ls)(o:ByteArray)(hr:rtOk r)(ho:¬iM o):Sp 10 [rtV r,lsV s,S o] (.tup [.sl [],I 0,I 6]):=zsp Tryz.func10 (invB_vc r s o hr ho)
structure Four(r:Rt)(s:aJ)(o:ByteArray)(a b c d e f x:Int)(l:List V)(n y:Int):Prop where
 acc:Sp 7 [rtV r,invV s] (.tup [.agg (bk6 a b c d e f),I x])
 racc:Sp 9 [rtV r,invV s] (.tup [.agg (bk6 a b c d e f),I x])
 inv:Sp 10 [rtV r,invV s,S o] (.tup [.sl l,I n,I y])
 rinv:Sp 11 [rtV r,invV s,S o] (.tup [.sl l,I n,I y])
 same:Sp 12 [.sl l, .sl l] (.lit (.bool true))
theorem same_nil:Sp 12 [.sl [], .sl []] (.lit (.bool true)):=by
 have h:=sameLines_spec [] [] (by decide)
 rw[dH.2 rfl]at h
 exact h
theorem four(r:Rt)(s:aJ)(o:ByteArray)(h1:s.stocks.length<=1000000)(h2:s.pieces.length<=1000000)(hz:∀x∈s.stocks,shBg x.sheet.shape)(hn:∀p∈s.pieces,p.part.size<=4000000000000000000):
 ∃a b c d e f x l n y,Four r s o a b c d e f x l n y:=by
 have hm:(lsOf s).pieces.length<=1000000:=by show(s.pieces.map pcOf).length<=_;simpa using h2
 have hmn:∀p∈(lsOf s).pieces,p.part.size<=4000000000000000000:=fun p hp=>by
  obtain⟨q,hq,rfl⟩:=List.mem_map.1 (show p∈s.pieces.map pcOf from hp)
  exact hn q hq
 by_cases hr:rtOk r
 rotate_left
 ·have k1:=invA_spec r (lsOf s) o hr
  have k2:=rinvA_spec r (lsOf s) o hr
  rw[lsV_of]at k1 k2
  exact⟨0,0,0,0,0,0,1,[],0,1,accN_spec r s hr,raccN_spec r s hr,k1,k2,same_nil⟩
 by_cases ho:iM o
 rotate_left
 ·have k1:=invB_spec r (lsOf s) o hr ho
  have k2:=rinvB_spec r (lsOf s) o hr ho
  rw[lsV_of]at k1 k2
  exact⟨_,_,_,_,_,_,0,[],0,6,accY_spec r s hr h1 h2 hz,raccY_spec r s hr h1 h2 hz,k1,k2,same_nil⟩
 have k1:=invoice_spec r (lsOf s) o hr ho hm hmn
 have k2:=rinvC_spec r (lsOf s) o hr ho hm hmn
 rw[lsV_of]at k1 k2
 rw[<-eC4 r o _ hm,sum_eq]at k2
 have hL:(linesI r o (lsOf s).pieces).length<=1000000:=by
  unfold linesI
  rw[List.length_map,(sortB_perm _).length_eq]
  exact Nat.le_trans (names_ok r o _ hm).len hm
 have k3:=sameLines_spec (linesI r o (lsOf s).pieces) (linesI r o (lsOf s).pieces) hL
 rw[dH.2 rfl]at k3
 exact⟨_,_,_,_,_,_,0,_,_,0,accY_spec r s hr h1 h2 hz,raccY_spec r s hr h1 h2 hz,k1,k2,k3⟩
theorem lawAccount_vc(r:Rt)(s:aJ)(o:ByteArray)(hz:∀x∈s.stocks,shBg x.sheet.shape)(hn:∀p∈s.pieces,p.part.size<=4000000000000000000):fnVC T Tryz.prog Tryz.f3 [rtV r,invV s,S o] (.lit (.bool true)):=by
 have g0:=zB
 have g1:=few_spec (lsOf s)
 by_cases hf:fewP (lsOf s)
 rotate_left
 ·rw[dW.2 hf,lsV_of]at g1
  repeat' ((conv=>whnf);first
   |(refine aS5 (g0) false ?_ rfl ?_;focus ((repeat' (first|exact trivial|refine And.intro ?_ ?_|with_reducible rfl|exact(fun h=>by cases h)|exact rfl));done))
   |(refine aS5 (g1) false ?_ rfl ?_;focus ((repeat' (first|exact trivial|refine And.intro ?_ ?_|with_reducible rfl|exact(fun h=>by cases h)|exact rfl));done))
   |refine eY7 ?_
   |refine eZ1 (by kernel_rfl) ?_
   |refine eH4 (by omega) ?_
   |refine bW7 ?_
   |refine fU (p:=(T.row _).eq=true) (by kernel_rfl) ?_
   |refine fU (by omega) ?_
   |refine fU rfl ?_
   |refine eZ2 ?_
   |refine eZ0 (fun hd=>?_) (fun hd=>?_)
   |refine br_lt (fun hlt=>?_) (fun hlt=>?_)
   |refine br_le (fun hle=>?_) (fun hle=>?_)
   |refine eV7 (fun heq=>?_) (fun heq=>?_)
   |refine eQ9 (by omega) (fun x hx=>?_)
   |refine eY0 rfl (fun h=>by cases h) ?_
   |refine jU (fun hbb=>?_) (fun hbb=>?_)
   |refine ret_i ?_
   |refine fA7 ?_)
  all_goals conv=>whnf
  all_goals first
   |exact aG rfl
   |exact aK rfl
   |exact aP rfl
   |(refine⟨?_,rfl,fun rs h=>V.noConfusion h⟩;(repeat' (first|exact trivial|refine And.intro ?_ ?_|with_reducible rfl|exact(fun h=>by cases h)|exact rfl));done)
   |(refine⟨_,rfl,?_⟩;(repeat' (first|exact trivial|refine And.intro ?_ ?_|with_reducible rfl|exact(fun h=>by cases h)|exact rfl));done)
 have g2:=state_spec (lsOf s) hf
 rw[dH.2 hf]at g1
 rw[lsV_of]at g1 g2
 have h1:s.stocks.length<=1000000:=by
  have:=hf.1
  have e:(lsOf s).stocks.length=s.stocks.length:=by show(s.stocks.map skOf).length=_;simp
  omega
 have h2:s.pieces.length<=1000000:=by
  have:=hf.2
  have e:(lsOf s).pieces.length=s.pieces.length:=by show(s.pieces.map pcOf).length=_;simp
  omega
 obtain⟨a,b,c,d,e,f,x,l,n,y,q1,q2,q3,q4,q5⟩:=four r s o h1 h2 hz hn
 clear hz hn hf h1 h2
 repeat' ((conv=>whnf);first
  |(refine aS5 (g0) false ?_ rfl ?_;focus ((repeat' (first|exact trivial|refine And.intro ?_ ?_|with_reducible rfl|exact(fun h=>by cases h)|exact rfl));done))
  |(refine aS5 (g1) false ?_ rfl ?_;focus ((repeat' (first|exact trivial|refine And.intro ?_ ?_|with_reducible rfl|exact(fun h=>by cases h)|exact rfl));done))
  |(refine aS5 (g2) false ?_ rfl ?_;focus ((repeat' (first|exact trivial|refine And.intro ?_ ?_|with_reducible rfl|exact(fun h=>by cases h)|exact rfl));done))
  |(refine aS5 (q1) false ?_ rfl ?_;focus ((repeat' (first|exact trivial|refine And.intro ?_ ?_|with_reducible rfl|exact(fun h=>by cases h)|exact rfl));done))
  |(refine aS5 (q2) false ?_ rfl ?_;focus ((repeat' (first|exact trivial|refine And.intro ?_ ?_|with_reducible rfl|exact(fun h=>by cases h)|exact rfl));done))
  |(refine aS5 (q3) false ?_ rfl ?_;focus ((repeat' (first|exact trivial|refine And.intro ?_ ?_|with_reducible rfl|exact(fun h=>by cases h)|exact rfl));done))
  |(refine aS5 (q4) false ?_ rfl ?_;focus ((repeat' (first|exact trivial|refine And.intro ?_ ?_|with_reducible rfl|exact(fun h=>by cases h)|exact rfl));done))
  |(refine aS5 (q5) false ?_ rfl ?_;focus ((repeat' (first|exact trivial|refine And.intro ?_ ?_|with_reducible rfl|exact(fun h=>by cases h)|exact rfl));done))
  |refine eqBk_i ?_
  |refine eY7 ?_
  |refine eZ1 (by kernel_rfl) ?_
  |refine eH4 (by omega) ?_
  |refine bW7 ?_
  |refine fU (p:=(T.row _).eq=true) (by kernel_rfl) ?_
  |refine fU (by omega) ?_
  |refine fU rfl ?_
  |refine eZ2 ?_
  |refine eZ0 (fun hd=>?_) (fun hd=>?_)
  |refine br_lt (fun hlt=>?_) (fun hlt=>?_)
  |refine br_le (fun hle=>?_) (fun hle=>?_)
  |refine eV7 (fun heq=>?_) (fun heq=>?_)
  |refine eQ9 (by omega) (fun x hx=>?_)
  |refine eY0 rfl (fun h=>by cases h) ?_
  |refine jU (fun hbb=>?_) (fun hbb=>?_)
  |refine ret_i ?_
  |refine fA7 ?_)
 all_goals conv=>whnf
 all_goals first
  |exact aK rfl
  |exact aK (aA1.2 rfl)
  |(exfalso;contradiction)
  |(exfalso;omega)
theorem lawAccount_spec(r:Rt)(s:aJ)(o:ByteArray)(hz:∀x∈s.stocks,shBg x.sheet.shape)(hn:∀p∈s.pieces,p.part.size<=4000000000000000000):Sp 3 [rtV r,invV s,S o] (.lit (.bool true)):=zsp Tryz.func3 (lawAccount_vc r s o hz hn)
end Go.Proofs.Cost58
