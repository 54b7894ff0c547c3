/-
  The reference's invoice, walked.
-/
import Derived.Test.YtkhhdojgbkophaaGreatDoorK16
import Derived.Test.YtkhhdojgbkophaaGreatDoorK17
set_option linter.unusedVariables false
set_option linter.unusedSimpArgs false
set_option maxRecDepth 100000
set_option maxHeartbeats 4000000
noncomputable section
namespace Go.Proofs.Cost58
open Go Go.Proofs Go.Ab Go.Proofs.Led
theorem capK_or(l:List V):capK l= .own\/capK l= .ap:=by cases l<;>simp[capK]
theorem insN_cut(n:ByteArray):∀(A B:List ByteArray),(∀a∈A,ltS a n=true)->insN n (A++B)=A++insN n B
 | [],_,_=>rfl
 |a::A,B,h=>by
  rw[List.cons_append,insN,if_pos (h a (by simp)),insN_cut n A B (fun x hx=>h x (by simp[hx])),List.cons_append]
theorem str_td{K:List ByteArray}{n m:Nat}:∀y∈((K.map S).take n).drop m,y.cells.length=1:=fun y hy=>by
 obtain⟨x,_,rfl⟩:=List.mem_map.1 (List.mem_of_mem_take (List.mem_of_mem_drop hy));rfl
theorem str_cells(K:List ByteArray):∀y∈K.map S,y.cells.length=1:=fun y hy=>by
 obtain⟨x,_,rfl⟩:=List.mem_map.1 hy;rfl
theorem need_capS{bytes size:Nat}{l xs:List V}{K:Prop}(hb:bytes<=10000)(h5:∀x∈l++xs,x.cells.length=size)(h4:l.length+xs.length<=1000000000)(hk:K):
 need ((l.length+xs.length)*bytes<=140737488355328/\l.length+xs.length<=140737488355328/\∀x∈l++xs,x.cells.length=size) K:=
 fU ⟨Nat.le_trans (Nat.mul_le_mul h4 hb) (by decide),by omega,h5⟩ hk
theorem cells_insS{K:List ByteArray}{a b c d:Nat}{n:ByteArray}:∀y∈((K.map S).take a).drop b++([S n] ++((K.map S).take c).drop d),y.cells.length=1:=fun y hy=>by
 rcases List.mem_append.1 hy with hy|hy
 ·exact str_td y hy
 ·rcases List.mem_append.1 hy with hy|hy
  ·rw[List.mem_singleton.1 hy];rfl
  ·exact str_td y hy
theorem insS_list{A B:List ByteArray}{K:List ByteArray}(n:ByteArray)(h:K=A++B):((K.map S).take (A.length:Int).toNat).drop (0:Int).toNat++([S n] ++((K.map S).take ((K.map S).length:Int).toNat).drop (A.length:Int).toNat)=(A++n::B).map S:=by
 subst h
 have e:(((A++B).map S).length:Int).toNat=((A++B).map S).length:=Int.toNat_natCast _
 rw[e,List.take_length]
 simp
theorem namS_yes{o:ByteArray}{l:List ByteArray}{p:Pc}(h:shipped o p):namS o l p=insN p.part l:=if_pos h
theorem namS_no{o:ByteArray}{l:List ByteArray}{p:Pc}(h:¬shipped o p):namS o l p=l:=if_neg h
theorem cntS_yes{o n:ByteArray}{c:Int}{p:Pc}(h:shipped o p/\p.part=n):Cost58.cntS o n c p=W64 (c+1):=if_pos h
theorem cntS_no{o n:ByteArray}{c:Int}{p:Pc}(h:¬(shipped o p/\p.part=n)):Cost58.cntS o n c p=c:=if_neg h
theorem valS_yes{r:Rt}{o n:ByteArray}{c:Int}{p:Pc}(h:shipped o p/\p.part=n):valS r o n c p=W64 (c+valR r p.size p.bar):=if_pos h
theorem valS_no{r:Rt}{o n:ByteArray}{c:Int}{p:Pc}(h:¬(shipped o p/\p.part=n)):valS r o n c p=c:=if_neg h
theorem cntR_range(o:ByteArray)(D:List Pc)(n:ByteArray): -9223372036854775808<=cntR o D n/\cntR o D n<=9223372036854775807:=by
 rcases List.eq_nil_or_concat D with rfl|⟨E,p,rfl⟩
 ·show-9223372036854775808<=(0:Int)/\(0:Int)<=_;decide
 ·rw[List.concat_eq_append]
  suffices h:∀(D:List Pc) (c:Int),-9223372036854775808<=c/\c<=9223372036854775807->-9223372036854775808<=D.foldl (Cost58.cntS o n) c/\D.foldl (Cost58.cntS o n) c<=9223372036854775807 from h _ 0 (by decide)
  intro D
  induction D with
  |nil=>exact fun c h=>h
  |cons p D ih=>
   intro c h
   rw[List.foldl_cons]
   refine ih _ ?_
   by_cases q:shipped o p/\p.part=n
   ·rw[cntS_yes q];exact w64_range _
   ·rw[cntS_no q];exact h
theorem valN_range(r:Rt)(o:ByteArray)(D:List Pc)(n:ByteArray): -9223372036854775808<=valN r o D n/\valN r o D n<=9223372036854775807:=by
 suffices h:∀(D:List Pc) (c:Int),-9223372036854775808<=c/\c<=9223372036854775807->-9223372036854775808<=D.foldl (valS r o n) c/\D.foldl (valS r o n) c<=9223372036854775807 from h _ 0 (by decide)
 intro D
 induction D with
 |nil=>exact fun c h=>h
 |cons p D ih=>
  intro c h
  rw[List.foldl_cons]
  refine ih _ ?_
  by_cases q:shipped o p/\p.part=n
  ·rw[valS_yes q];exact w64_range _
  ·rw[valS_no q];exact h
noncomputable def sumK(r:Rt)(o:ByteArray)(D:List Pc)(K:List ByteArray):Int:=sumR r o D K
theorem sumK_snoc(r:Rt)(o:ByteArray)(D:List Pc)(K:List ByteArray)(n:ByteArray):sumR r o D (K++[n])=W64 (sumR r o D K+valN r o D n):=by simp[sumR]
theorem mem_namesR_size{o:ByteArray}{D:List Pc}{z:Nat}(h:∀p∈D,p.part.size<=z):∀n∈namesR o D,n.size<=z:=fun n hn=>by
 obtain⟨p,hp,_,rfl⟩:=(mem_names o D n).1 hn
 exact h p hp
theorem rinvA_vc(r:Rt)(s:Ls)(o:ByteArray)(hr:¬rtOk r):fnVC T Tryz.prog Tryz.f11 [rtV r,lsV s,S o] (.tup [.sl [],I 0,I 1]):=by
 have hv:=rvalid_spec r
 rw[dW.2 hr]at hv
 repeat' ((conv=>whnf);first
  |(refine aS5 (hv) false ?_ rfl ?_;focus ((repeat' (first|exact trivial|refine And.intro ?_ ?_|with_reducible rfl|exact(fun h=>by cases h)|exact rfl));done))
  |refine eY7 ?_
  |refine eZ1 (by kernel_rfl) ?_
  |refine eH4 (by omega) ?_
  |refine bW7 ?_
  |refine fU (p:=(T.row _).eq=true) (by kernel_rfl) ?_
  |refine fU (by omega) ?_
  |refine fU rfl ?_
  |refine eZ2 ?_
  |refine eZ0 (fun hd=>?_) (fun hd=>?_)
  |refine br_lt (fun hlt=>?_) (fun hlt=>?_)
  |refine br_le (fun hle=>?_) (fun hle=>?_)
  |refine eV7 (fun heq=>?_) (fun heq=>?_)
  |refine eQ9 (by omega) (fun x hx=>?_)
  |refine eY0 rfl (fun h=>by cases h) ?_
  |refine jU (fun hbb=>?_) (fun hbb=>?_)
  |refine ret_i ?_
  |refine fA7 ?_)
 all_goals conv=>whnf
 all_goals first
  |exact aG rfl
  |exact aK rfl
  |exact aP rfl
  |(refine⟨?_,rfl,fun rs h=>V.noConfusion h⟩;(repeat' (first|exact trivial|refine And.intro ?_ ?_|with_reducible rfl|exact(fun h=>by cases h)|exact rfl));done)
  |(refine⟨_,rfl,?_⟩;(repeat' (first|exact trivial|refine And.intro ?_ ?_|with_reducible rfl|exact(fun h=>by cases h)|exact rfl));done)
theorem rinvA_spec(r:Rt)(s:Ls)(o:ByteArray)(hr:¬rtOk r):Sp 11 [rtV r,lsV s,S o] (.tup [.sl [],I 0,I 1]):=zsp Tryz.func11 (rinvA_vc r s o hr)
theorem rinvB_vc(r:Rt)(s:Ls)(o:ByteArray)(hr:rtOk r)(ho:¬iM o):fnVC T Tryz.prog Tryz.f11 [rtV r,lsV s,S o] (.tup [.sl [],I 0,I 6]):=by
 have hv:=rvalid_spec r
 rw[dH.2 hr]at hv
 have hn:=bD8 o
 rw[dW.2 ho]at hn
 repeat' ((conv=>whnf);first
  |(refine aS5 (hv) false ?_ rfl ?_;focus ((repeat' (first|exact trivial|refine And.intro ?_ ?_|with_reducible rfl|exact(fun h=>by cases h)|exact rfl));done))
  |(refine aS5 (hn) false ?_ rfl ?_;focus ((repeat' (first|exact trivial|refine And.intro ?_ ?_|with_reducible rfl|exact(fun h=>by cases h)|exact rfl));done))
  |refine eY7 ?_
  |refine eZ1 (by kernel_rfl) ?_
  |refine eH4 (by omega) ?_
  |refine bW7 ?_
  |refine fU (p:=(T.row _).eq=true) (by kernel_rfl) ?_
  |refine fU (by omega) ?_
  |refine fU rfl ?_
  |refine eZ2 ?_
  |refine eZ0 (fun hd=>?_) (fun hd=>?_)
  |refine br_lt (fun hlt=>?_) (fun hlt=>?_)
  |refine br_le (fun hle=>?_) (fun hle=>?_)
  |refine eV7 (fun heq=>?_) (fun heq=>?_)
  |refine eQ9 (by omega) (fun x hx=>?_)
  |refine eY0 rfl (fun h=>by cases h) ?_
  |refine jU (fun hbb=>?_) (fun hbb=>?_)
  |refine ret_i ?_
  |refine fA7 ?_)
 all_goals conv=>whnf
 all_goals first
  |exact aG rfl
  |exact aK rfl
  |exact aP rfl
  |(refine⟨?_,rfl,fun rs h=>V.noConfusion h⟩;(repeat' (first|exact trivial|refine And.intro ?_ ?_|with_reducible rfl|exact(fun h=>by cases h)|exact rfl));done)
  |(refine⟨_,rfl,?_⟩;(repeat' (first|exact trivial|refine And.intro ?_ ?_|with_reducible rfl|exact(fun h=>by cases h)|exact rfl));done)
theorem rinvB_spec(r:Rt)(s:Ls)(o:ByteArray)(hr:rtOk r)(ho:¬iM o):Sp 11 [rtV r,lsV s,S o] (.tup [.sl [],I 0,I 6]):=zsp Tryz.func11 (rinvB_vc r s o hr ho)
theorem rinvC_vc(r:Rt)(s:Ls)(o:ByteArray)(hr:rtOk r)(ho:iM o)(hs:s.pieces.length<=1000000)(hz:∀p∈s.pieces,p.part.size<=4000000000000000000):fnVC T Tryz.prog Tryz.f11 [rtV r,lsV s,S o] (.tup [.sl ((linesR r o s.pieces).map S),I (sumR r o s.pieces (namesR o s.pieces)),I 0]):=by
 have hv:=rvalid_spec r
 rw[dH.2 hr]at hv
 have hnm:=bD8 o
 rw[dH.2 ho]at hnm
 obtain⟨sk,pc,us,r0,r1,s0,s1⟩:=s
 simp only at hs hz⊢
 have hm:(pc.map pcV).length=pc.length:=by simp
 have hmp:((⟨sk,pc,us,r0,r1,s0,s1⟩:Ls).pieces.map pcV).length=pc.length:=hm
 repeat' ((conv=>whnf);first
  |(refine aS5 (hv) false ?_ rfl ?_;focus ((repeat' (first|exact trivial|refine And.intro ?_ ?_|with_reducible rfl|exact(fun h=>by cases h)|exact rfl));done))
  |(refine aS5 (hnm) false ?_ rfl ?_;focus ((repeat' (first|exact trivial|refine And.intro ?_ ?_|with_reducible rfl|exact(fun h=>by cases h)|exact rfl));done))
  |refine eY7 ?_
  |refine eZ1 (by kernel_rfl) ?_
  |refine eH4 (by omega) ?_
  |refine bW7 ?_
  |refine fU (p:=(T.row _).eq=true) (by kernel_rfl) ?_
  |refine fU (by omega) ?_
  |refine fU rfl ?_
  |refine eZ2 ?_
  |refine eZ0 (fun hd=>?_) (fun hd=>?_)
  |refine br_lt (fun hlt=>?_) (fun hlt=>?_)
  |refine br_le (fun hle=>?_) (fun hle=>?_)
  |refine eV7 (fun heq=>?_) (fun heq=>?_)
  |refine eQ9 (by omega) (fun x hx=>?_)
  |refine eY0 rfl (fun h=>by cases h) ?_
  |refine jU (fun hbb=>?_) (fun hbb=>?_)
  |refine ret_i ?_
  |refine fA7 ?_)
 refine aU (A:=List Pc) (B:=List Pc) (fun D R=>mkSt [(2,S o),(3, .box 3 0),(4, .box 4 0),(9, .sl ((namesR o D).map S)),(10,nilV),(11,I D.length)] [(3,(rtV r).cells),(4,(lsV ⟨sk,pc,us,r0,r1,s0,s1⟩).cells)] [])
  (fun D R=>pc=D++R) (fun D R=>R.length) [] pc ?_ rfl (fun D R hp=>?_)
 ·refine dV ?_ ?_ ?_ ?_
  all_goals repeat' (first|exact trivial|refine And.intro ?_ ?_|with_reducible rfl|exact(fun h=>by cases h)|exact Nat.le_refl _|omega|exact rfl)
 have hlen:pc.length=D.length+R.length:=by rw[show pc=D++R from hp];simp
 cases R with
 |cons x R=>
  rw[List.length_cons]at hlen
  have hnew:=namesR_snoc o D x
  have hKl:=(asc_names o D).2
  have hlD:((D++[x]).length:Int)=(D.length:Int)+1:=by simp
  generalize namesR o D=K at*
  have hKm:(K.map S).length=K.length:=by simp
  by_cases hsh:shipped o x
  rotate_left
  ·rw[namS_no hsh]at hnew
   unfold shipped at hsh
   repeat' ((conv=>whnf);first
    |(exfalso;omega)
    |refine aB (l:=pc) (by omega) ?_
    |refine aF (l:=pc) (A:=D) (x:=x) (B:=R) hp (by omega) ?_
    |refine jI (fun heqS=>?_) (fun heqS=>?_)
    |(exfalso;exact hsh ⟨by omega,heqS⟩)
    |refine eY7 ?_
    |refine eZ1 (by kernel_rfl) ?_
    |refine eH4 (by omega) ?_
    |refine bW7 ?_
    |refine fU (p:=(T.row _).eq=true) (by kernel_rfl) ?_
    |refine fU (by omega) ?_
    |refine fU rfl ?_
    |refine eZ2 ?_
    |refine eZ0 (fun hd=>?_) (fun hd=>?_)
    |refine br_lt (fun hlt=>?_) (fun hlt=>?_)
    |refine br_le (fun hle=>?_) (fun hle=>?_)
    |refine eV7 (fun heq=>?_) (fun heq=>?_)
    |refine eQ9 (by omega) (fun x hx=>?_)
    |refine eY0 rfl (fun h=>by cases h) ?_
    |refine jU (fun hbb=>?_) (fun hbb=>?_)
    |refine ret_i ?_
    |refine fA7 ?_)
   all_goals conv=>whnf
   all_goals refine⟨(D++[x],R),?_,by rw[show pc=D++x::R from hp];simp,by simp⟩
   all_goals simp only[hnew,List.length_append,List.length_singleton]
   all_goals
    refine dV ?_ ?_ ?_ ?_
    all_goals repeat' (first|exact trivial|refine And.intro ?_ ?_|with_reducible rfl|exact(fun h=>by cases h)|exact Nat.le_refl _|omega|exact rfl)
  rw[namS_yes hsh]at hnew
  have hs1:=hsh.1
  have hs2:=hsh.2
  repeat' ((conv=>whnf);first
   |(exfalso;omega)
   |refine aB (l:=pc) (by omega) ?_
   |refine aF (l:=pc) (A:=D) (x:=x) (B:=R) hp (by omega) ?_
   |refine jI (fun heqS=>?_) (fun heqS=>?_)
   |(exfalso;contradiction)
   |refine eY7 ?_
   |refine eZ1 (by kernel_rfl) ?_
   |refine eH4 (by omega) ?_
   |refine bW7 ?_
   |refine fU (p:=(T.row _).eq=true) (by kernel_rfl) ?_
   |refine fU (by omega) ?_
   |refine fU rfl ?_
   |refine eZ2 ?_
   |refine eZ0 (fun hd=>?_) (fun hd=>?_)
   |refine br_lt (fun hlt=>?_) (fun hlt=>?_)
   |refine br_le (fun hle=>?_) (fun hle=>?_)
   |refine eV7 (fun heq=>?_) (fun heq=>?_)
   |refine eQ9 (by omega) (fun x hx=>?_)
   |refine eY0 rfl (fun h=>by cases h) ?_
   |refine jU (fun hbb=>?_) (fun hbb=>?_)
   |refine ret_i ?_
   |refine fA7 ?_)
  refine aU (A:=List ByteArray) (B:=List ByteArray) (fun A B=>mkSt [(2,S o),(3, .box 3 0),(4, .box 4 0),(9, .sl (K.map S)),(10,nilV),(11,I D.length),(12, .box 12 0),(13,I A.length)] [(3,(rtV r).cells),(4,(lsV ⟨sk,pc,us,r0,r1,s0,s1⟩).cells),(12,(pcV x).cells)] [])
   (fun A B=>K=A++B/\∀a∈A,ltS a x.part=true) (fun A B=>B.length) [] K ?_ ⟨rfl,by simp⟩ (fun A B hq=>?_)
  ·refine dV ?_ ?_ ?_ ?_
   all_goals repeat' (first|exact trivial|refine And.intro ?_ ?_|with_reducible rfl|exact(fun h=>by cases h)|exact Nat.le_refl _|omega|exact rfl)
  obtain⟨g1,g2⟩:=hq
  have hKlen:K.length=A.length+B.length:=by rw[g1];simp
  have hcut:=insN_cut x.part A B g2
  rw[<-g1]at hcut
  rw[hcut]at hnew
  have hA1:∀b,((A++[b]).length:Int)=(A.length:Int)+1:=fun b=>by simp
  have hil:=insS_list (K:=K) x.part g1
  cases B with
  |nil=>
   simp at hKlen
   rw[insN]at hnew
   repeat' ((conv=>whnf);first
    |(exfalso;omega)
    |refine fU ⟨by omega,by omega,by omega, .inr (str_cells K)⟩ ?_
    |refine iH rfl (.inl rfl) rfl (of_decide_eq_true rfl) str_td (by show 1+(List.drop _ (List.take _ (List.map S K))).length<=_;rw[List.length_drop,List.length_take,List.length_map];omega) ?_
    |refine need_capS (of_decide_eq_true rfl) (cells_insS (K:=K) (n:=x.part)) (by show(List.drop _ (List.take _ (List.map S K))).length+((List.drop _ (List.take _ (List.map S K))).length+1)<=_;rw[List.length_drop,List.length_take,List.length_drop,List.length_take,List.length_map];omega) ?_
    |refine eY7 ?_
    |refine eZ1 (by kernel_rfl) ?_
    |refine eH4 (by omega) ?_
    |refine bW7 ?_
    |refine fU (p:=(T.row _).eq=true) (by kernel_rfl) ?_
    |refine fU (by omega) ?_
    |refine fU rfl ?_
    |refine eZ2 ?_
    |refine eZ0 (fun hd=>?_) (fun hd=>?_)
    |refine br_lt (fun hlt=>?_) (fun hlt=>?_)
    |refine br_le (fun hle=>?_) (fun hle=>?_)
    |refine eV7 (fun heq=>?_) (fun heq=>?_)
    |refine eQ9 (by omega) (fun x hx=>?_)
    |refine eY0 rfl (fun h=>by cases h) ?_
    |refine jU (fun hbb=>?_) (fun hbb=>?_)
    |refine ret_i ?_
    |refine fA7 ?_)
   all_goals conv=>whnf
   refine⟨(D++[x],R),?_,by rw[show pc=D++x::R from hp];simp,by simp⟩
   simp only[hnew,List.length_append,List.length_singleton]
   refine Le.trans (fB (k:=88) rfl (capK_or _)) ?_
   refine dV ?_ ?_ ?_ ?_
   all_goals repeat' (first|exact trivial|refine And.intro ?_ ?_|with_reducible rfl|exact(fun h=>by cases h)|exact Nat.le_refl _|omega|exact rfl)
   all_goals exact hil
  |cons b B=>
   rw[List.length_cons]at hKlen
   rw[insN]at hnew
   repeat' ((conv=>whnf);first
    |(exfalso;omega)
    |refine aF (l:=K) (A:=A) (x:=b) (B:=B) g1 (by omega) ?_
    |refine jI (fun heqS=>?_) (fun heqS=>?_)
    |refine fU ⟨by omega,by omega,by omega, .inr (str_cells K)⟩ ?_
    |refine iH rfl (.inl rfl) rfl (of_decide_eq_true rfl) str_td (by show 1+(List.drop _ (List.take _ (List.map S K))).length<=_;rw[List.length_drop,List.length_take,List.length_map];omega) ?_
    |refine need_capS (of_decide_eq_true rfl) (cells_insS (K:=K) (n:=x.part)) (by show(List.drop _ (List.take _ (List.map S K))).length+((List.drop _ (List.take _ (List.map S K))).length+1)<=_;rw[List.length_drop,List.length_take,List.length_drop,List.length_take,List.length_map];omega) ?_
    |refine eY7 ?_
    |refine eZ1 (by kernel_rfl) ?_
    |refine eH4 (by omega) ?_
    |refine bW7 ?_
    |refine fU (p:=(T.row _).eq=true) (by kernel_rfl) ?_
    |refine fU (by omega) ?_
    |refine fU rfl ?_
    |refine eZ2 ?_
    |refine eZ0 (fun hd=>?_) (fun hd=>?_)
    |refine br_lt (fun hlt=>?_) (fun hlt=>?_)
    |refine br_le (fun hle=>?_) (fun hle=>?_)
    |refine eV7 (fun heq=>?_) (fun heq=>?_)
    |refine eQ9 (by omega) (fun x hx=>?_)
    |refine eY0 rfl (fun h=>by cases h) ?_
    |refine jU (fun hbb=>?_) (fun hbb=>?_)
    |refine ret_i ?_
    |refine fA7 ?_)
   all_goals conv=>whnf
   ·refine⟨(A++[b],B),?_,⟨by rw[g1];simp,fun m hm=>?_⟩,by simp⟩
    ·simp only[hA1]
     refine dV ?_ ?_ ?_ ?_
     all_goals repeat' (first|exact trivial|refine And.intro ?_ ?_|with_reducible rfl|exact(fun h=>by cases h)|exact Nat.le_refl _|omega|exact rfl)
    ·rcases List.mem_append.1 hm with hm|hm
     ·exact g2 m hm
     ·rw[List.mem_singleton.1 hm];assumption
   ·rw[if_neg (by simp only[Bool.not_eq_true];assumption),if_pos (by assumption),<-g1]at hnew
    refine⟨(D++[x],R),?_,by rw[show pc=D++x::R from hp];simp,by simp⟩
    simp only[hnew,List.length_append,List.length_singleton]
    refine dV ?_ ?_ ?_ ?_
    all_goals repeat' (first|exact trivial|refine And.intro ?_ ?_|with_reducible rfl|exact(fun h=>by cases h)|exact Nat.le_refl _|omega|exact rfl)
   ·rw[if_neg (by simp only[Bool.not_eq_true];assumption),if_neg (by assumption)]at hnew
    refine⟨(D++[x],R),?_,by rw[show pc=D++x::R from hp];simp,by simp⟩
    simp only[hnew,List.length_append,List.length_singleton]
    refine Le.trans (fB (k:=88) rfl (capK_or _)) ?_
    refine dV ?_ ?_ ?_ ?_
    all_goals repeat' (first|exact trivial|refine And.intro ?_ ?_|with_reducible rfl|exact(fun h=>by cases h)|exact Nat.le_refl _|omega|exact rfl)
    all_goals exact hil
 |nil=>
  have e:pc=D:=by rw[show pc=D++[]from hp];simp
  subst e
  have hKz:=mem_namesR_size (o:=o) hz
  have hKl:=(asc_names o pc).2
  unfold linesR
  generalize namesR o pc=K at*
  have hKm:(K.map S).length=K.length:=by simp
  clear hp
  repeat' ((conv=>whnf);first
   |(exfalso;omega)
   |refine eY7 ?_
   |refine eZ1 (by kernel_rfl) ?_
   |refine eH4 (by omega) ?_
   |refine bW7 ?_
   |refine fU (p:=(T.row _).eq=true) (by kernel_rfl) ?_
   |refine fU (by omega) ?_
   |refine fU rfl ?_
   |refine eZ2 ?_
   |refine eZ0 (fun hd=>?_) (fun hd=>?_)
   |refine br_lt (fun hlt=>?_) (fun hlt=>?_)
   |refine br_le (fun hle=>?_) (fun hle=>?_)
   |refine eV7 (fun heq=>?_) (fun heq=>?_)
   |refine eQ9 (by omega) (fun x hx=>?_)
   |refine eY0 rfl (fun h=>by cases h) ?_
   |refine jU (fun hbb=>?_) (fun hbb=>?_)
   |refine ret_i ?_
   |refine fA7 ?_)
  refine aU (A:=List ByteArray) (B:=List ByteArray) (fun A B=>mkSt [(2,S o),(3, .box 3 0),(4, .box 4 0),(9, .sl (K.map S)),(10, .arr 150 A.length),(14,I (sumR r o pc A)),(15,I A.length)] [(3,(rtV r).cells),(4,(lsV ⟨sk,pc,us,r0,r1,s0,s1⟩).cells)] [(150,⟨A.length, .own,9,(A.map (rline r o pc)).map S⟩)])
   (fun A B=>K=A++B) (fun A B=>B.length) [] K ?_ rfl (fun A B hp=>?_)
  ·refine dV ?_ ?_ ?_ ?_
   all_goals repeat' (first|exact trivial|refine And.intro ?_ ?_|with_reducible rfl|exact(fun h=>by cases h)|exact Nat.le_refl _|omega|exact rfl)
  have hKlen:K.length=A.length+B.length:=by rw[show K=A++B from hp];simp
  cases B with
  |nil=>
   have e:K=A:=by rw[show K=A++[]from hp];simp
   subst e
   repeat' ((conv=>whnf);first
    |(exfalso;omega)
    |refine eY7 ?_
    |refine eZ1 (by kernel_rfl) ?_
    |refine eH4 (by omega) ?_
    |refine bW7 ?_
    |refine fU (p:=(T.row _).eq=true) (by kernel_rfl) ?_
    |refine fU (by omega) ?_
    |refine fU rfl ?_
    |refine eZ2 ?_
    |refine eZ0 (fun hd=>?_) (fun hd=>?_)
    |refine br_lt (fun hlt=>?_) (fun hlt=>?_)
    |refine br_le (fun hle=>?_) (fun hle=>?_)
    |refine eV7 (fun heq=>?_) (fun heq=>?_)
    |refine eQ9 (by omega) (fun x hx=>?_)
    |refine eY0 rfl (fun h=>by cases h) ?_
    |refine jU (fun hbb=>?_) (fun hbb=>?_)
    |refine ret_i ?_
    |refine fA7 ?_)
   all_goals conv=>whnf
   all_goals first
    |exact aG rfl
    |exact aK rfl
    |exact aP rfl
    |(refine⟨?_,rfl,fun rs h=>V.noConfusion h⟩;(repeat' (first|exact trivial|refine And.intro ?_ ?_|with_reducible rfl|exact(fun h=>by cases h)|exact rfl));done)
    |(refine⟨_,rfl,?_⟩;(repeat' (first|exact trivial|refine And.intro ?_ ?_|with_reducible rfl|exact(fun h=>by cases h)|exact rfl));done)
  |cons n B=>
   rw[List.length_cons]at hKlen
   have hn:=hKz n (by rw[show K=A++n::B from hp];simp)
   have hsn:=sumK_snoc r o pc A n
   have hlA:((A++[n]).length:Int)=(A.length:Int)+1:=by simp
   generalize sumR r o pc A=z at*
   repeat' ((conv=>whnf);first
    |(exfalso;omega)
    |refine eY7 ?_
    |refine eZ1 (by kernel_rfl) ?_
    |refine eH4 (by omega) ?_
    |refine bW7 ?_
    |refine fU (p:=(T.row _).eq=true) (by kernel_rfl) ?_
    |refine fU (by omega) ?_
    |refine fU rfl ?_
    |refine eZ2 ?_
    |refine eZ0 (fun hd=>?_) (fun hd=>?_)
    |refine br_lt (fun hlt=>?_) (fun hlt=>?_)
    |refine br_le (fun hle=>?_) (fun hle=>?_)
    |refine eV7 (fun heq=>?_) (fun heq=>?_)
    |refine eQ9 (by omega) (fun x hx=>?_)
    |refine eY0 rfl (fun h=>by cases h) ?_
    |refine jU (fun hbb=>?_) (fun hbb=>?_)
    |refine ret_i ?_
    |refine fA7 ?_)
   refine aU (A:=List Pc) (B:=List Pc) (fun X Y=>mkSt [(2,S o),(3, .box 3 0),(4, .box 4 0),(9, .sl (K.map S)),(10, .arr 150 A.length),(14,I z),(15,I A.length),(16,I (cntR o X n)),(17,I (valN r o X n)),(18,I X.length)] [(3,(rtV r).cells),(4,(lsV ⟨sk,pc,us,r0,r1,s0,s1⟩).cells)] [(150,⟨A.length, .own,9,(A.map (rline r o pc)).map S⟩)])
    (fun X Y=>pc=X++Y) (fun X Y=>Y.length) [] pc ?_ rfl (fun X Y hq=>?_)
   ·refine dV ?_ ?_ ?_ ?_
    all_goals repeat' (first|exact trivial|refine And.intro ?_ ?_|with_reducible rfl|exact(fun h=>by cases h)|exact Nat.le_refl _|omega|exact rfl)
   have hLlen:pc.length=X.length+Y.length:=by rw[show pc=X++Y from hq];simp
   cases Y with
   |cons y Y=>
    rw[List.length_cons]at hLlen
    have hc:=cntR_snoc o X n y
    have hv2:=valN_snoc r o X n y
    have hlX:((X++[y]).length:Int)=(X.length:Int)+1:=by simp
    have g3:=rate_spec r y.bar
    by_cases hy:shipped o y/\y.part=n
    ·rw[cntS_yes hy]at hc
     rw[valS_yes hy,valR_eq]at hv2
     obtain⟨⟨y1,y2⟩,y3⟩:=hy
     generalize cntR o X n=c at*
     generalize valN r o X n=v at*
     generalize rtF r y.bar=w at*
     repeat' ((conv=>whnf);first
      |(exfalso;omega)
      |refine aB (l:=pc) (by omega) ?_
      |refine aF (l:=pc) (A:=X) (x:=y) (B:=Y) hq (by omega) ?_
      |refine aB (l:=K) (by omega) ?_
      |refine aF (l:=K) (A:=A) (x:=n) (B:=B) hp (by omega) ?_
      |refine jI (fun heqS=>?_) (fun heqS=>?_)
      |(exfalso;contradiction)
      |(refine aS5 (g3) false ?_ rfl ?_;focus ((repeat' (first|exact trivial|refine And.intro ?_ ?_|with_reducible rfl|exact(fun h=>by cases h)|exact rfl));done))
      |refine eY7 ?_
      |refine eZ1 (by kernel_rfl) ?_
      |refine eH4 (by omega) ?_
      |refine bW7 ?_
      |refine fU (p:=(T.row _).eq=true) (by kernel_rfl) ?_
      |refine fU (by omega) ?_
      |refine fU rfl ?_
      |refine eZ2 ?_
      |refine eZ0 (fun hd=>?_) (fun hd=>?_)
      |refine br_lt (fun hlt=>?_) (fun hlt=>?_)
      |refine br_le (fun hle=>?_) (fun hle=>?_)
      |refine eV7 (fun heq=>?_) (fun heq=>?_)
      |refine eQ9 (by omega) (fun x hx=>?_)
      |refine eY0 rfl (fun h=>by cases h) ?_
      |refine jU (fun hbb=>?_) (fun hbb=>?_)
      |refine ret_i ?_
      |refine fA7 ?_)
     all_goals conv=>whnf
     refine⟨(X++[y],Y),?_,by rw[show pc=X++y::Y from hq];simp,by simp⟩
     simp only[hc,hv2,List.length_append,List.length_singleton]
     refine dV ?_ ?_ ?_ ?_
     all_goals repeat' (first|exact trivial|refine And.intro ?_ ?_|with_reducible rfl|exact(fun h=>by cases h)|exact Nat.le_refl _|omega|exact rfl)
    ·rw[cntS_no hy]at hc
     rw[valS_no hy]at hv2
     unfold shipped at hy
     generalize cntR o X n=c at*
     generalize valN r o X n=v at*
     repeat' ((conv=>whnf);first
      |(exfalso;omega)
      |refine aB (l:=pc) (by omega) ?_
      |refine aF (l:=pc) (A:=X) (x:=y) (B:=Y) hq (by omega) ?_
      |refine aB (l:=K) (by omega) ?_
      |refine aF (l:=K) (A:=A) (x:=n) (B:=B) hp (by omega) ?_
      |refine jI (fun heqS=>?_) (fun heqS=>?_)
      |(exfalso;exact hy ⟨⟨by omega,by assumption⟩,by assumption⟩)
      |refine eY7 ?_
      |refine eZ1 (by kernel_rfl) ?_
      |refine eH4 (by omega) ?_
      |refine bW7 ?_
      |refine fU (p:=(T.row _).eq=true) (by kernel_rfl) ?_
      |refine fU (by omega) ?_
      |refine fU rfl ?_
      |refine eZ2 ?_
      |refine eZ0 (fun hd=>?_) (fun hd=>?_)
      |refine br_lt (fun hlt=>?_) (fun hlt=>?_)
      |refine br_le (fun hle=>?_) (fun hle=>?_)
      |refine eV7 (fun heq=>?_) (fun heq=>?_)
      |refine eQ9 (by omega) (fun x hx=>?_)
      |refine eY0 rfl (fun h=>by cases h) ?_
      |refine jU (fun hbb=>?_) (fun hbb=>?_)
      |refine ret_i ?_
      |refine fA7 ?_)
     all_goals conv=>whnf
     all_goals refine⟨(X++[y],Y),?_,by rw[show pc=X++y::Y from hq];simp,by simp⟩
     all_goals simp only[hc,hv2,List.length_append,List.length_singleton]
     all_goals
      refine dV ?_ ?_ ?_ ?_
      all_goals repeat' (first|exact trivial|refine And.intro ?_ ?_|with_reducible rfl|exact(fun h=>by cases h)|exact Nat.le_refl _|omega|exact rfl)
   |nil=>
    have e:pc=X:=by rw[show pc=X++[]from hq];simp
    subst e
    have hrl:rline r o pc n=n++xB++itoaB (cntR o pc n)++csB++itoaB (valN r o pc n):=rfl
    obtain⟨c1,c2⟩:=cntR_range o pc n
    obtain⟨t1,t2⟩:=valN_range r o pc n
    generalize cntR o pc n=c at*
    generalize valN r o pc n=v at*
    have z1:=itoaB_size c c1 c2
    have z2:=itoaB_size v t1 t2
    have z3:xB.size=3:=rfl
    have z4:csB.size=2:=rfl
    have y1:(n++xB).size<=4000000000000000003:=by rw[cat_size];omega
    have y2:(n++xB++itoaB c).size<=4000000000000000103:=by rw[cat_size];omega
    have y3:(n++xB++itoaB c++csB).size<=4000000000000000203:=by rw[cat_size];omega
    have k1:=ritoa_spec c c1 c2
    have k2:=ritoa_spec v t1 t2
    repeat' ((conv=>whnf);first
     |(exfalso;omega)
     |refine aB (l:=K) (by omega) ?_
     |refine aF (l:=K) (A:=A) (x:=n) (B:=B) hp (by omega) ?_
     |(refine aS5 (k1) false ?_ rfl ?_;focus ((repeat' (first|exact trivial|refine And.intro ?_ ?_|with_reducible rfl|exact(fun h=>by cases h)|exact rfl));done))
     |(refine aS5 (k2) false ?_ rfl ?_;focus ((repeat' (first|exact trivial|refine And.intro ?_ ?_|with_reducible rfl|exact(fun h=>by cases h)|exact rfl));done))
     |refine need_cat2 (a:=n) (b:=xB) (by omega) (by omega) ?_
     |refine need_cat2 (b:=itoaB c) (Nat.le_trans y1 (by decide)) (by omega) ?_
     |refine need_cat2 (b:=csB) (Nat.le_trans y2 (by decide)) (by omega) ?_
     |refine need_cat2 (b:=itoaB v) (Nat.le_trans y3 (by decide)) (by omega) ?_
     |refine iH rfl (.inl rfl) rfl (of_decide_eq_true rfl) (dA rfl) (by show(List.map S (List.map (rline r o pc) A)).length+1<=_;rw[List.length_map,List.length_map];omega) ?_
     |refine eY7 ?_
     |refine eZ1 (by kernel_rfl) ?_
     |refine eH4 (by omega) ?_
     |refine bW7 ?_
     |refine fU (p:=(T.row _).eq=true) (by kernel_rfl) ?_
     |refine fU (by omega) ?_
     |refine fU rfl ?_
     |refine eZ2 ?_
     |refine eZ0 (fun hd=>?_) (fun hd=>?_)
     |refine br_lt (fun hlt=>?_) (fun hlt=>?_)
     |refine br_le (fun hle=>?_) (fun hle=>?_)
     |refine eV7 (fun heq=>?_) (fun heq=>?_)
     |refine eQ9 (by omega) (fun x hx=>?_)
     |refine eY0 rfl (fun h=>by cases h) ?_
     |refine jU (fun hbb=>?_) (fun hbb=>?_)
     |refine ret_i ?_
     |refine fA7 ?_)
    all_goals conv=>whnf
    refine⟨(A++[n],B),?_,by rw[show K=A++n::B from hp];simp,by simp⟩
    simp only[List.length_append,List.map_append,List.length_singleton,List.map_cons,List.map_nil,hsn,hrl]
    refine dV ?_ ?_ ?_ ?_
    all_goals repeat' (first|exact trivial|refine And.intro ?_ ?_|with_reducible rfl|exact(fun h=>by cases h)|exact Nat.le_refl _|omega|exact rfl)
theorem rinvC_spec(r:Rt)(s:Ls)(o:ByteArray)(hr:rtOk r)(ho:iM o)(hs:s.pieces.length<=1000000)(hz:∀p∈s.pieces,p.part.size<=4000000000000000000):Sp 11 [rtV r,lsV s,S o] (.tup [.sl ((linesR r o s.pieces).map S),I (sumR r o s.pieces (namesR o s.pieces)),I 0]):=zsp Tryz.func11 (rinvC_vc r s o hr ho hs hz)
end Go.Proofs.Cost58
