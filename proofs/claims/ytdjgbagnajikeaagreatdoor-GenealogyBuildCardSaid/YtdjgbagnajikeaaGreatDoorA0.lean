/-
  Proofs that stand in many places, each as a default of a hypothesis.
-/
import Derived.WalkKit
import Derived.Deep.Draws
import Derived.Laws.AppendOwn
namespace Go.Ab
theorem Q5:type_of%@if_neg:=@if_neg
theorem Q9:type_of%@of_decide_eq_true:=@of_decide_eq_true
theorem QO:type_of%@if_pos:=@if_pos
theorem QR:type_of%@List.getElem?_eq_some_iff:=@List.getElem?_eq_some_iff
theorem QS:type_of%@List.getElem?_eq_getElem:=@List.getElem?_eq_getElem
theorem QT:type_of%@List.mem_of_getElem?:=@List.mem_of_getElem?
theorem QU:type_of%@List.length_append:=@List.length_append
theorem QV:type_of%@Nat.le_refl:=@Nat.le_refl
theorem QW:type_of%@List.mem_singleton:=@List.mem_singleton
theorem QX:type_of%@List.mem_append:=@List.mem_append
theorem QY:type_of%@List.length_singleton:=@List.length_singleton
theorem QZ:type_of%@List.length_take:=@List.length_take
theorem Rf:type_of%@List.length_cons:=@List.length_cons
theorem Rh:type_of%@List.mem_cons:=@List.mem_cons
theorem Ri:type_of%@Bool.and_eq_true:=@Bool.and_eq_true
theorem Rj:type_of%@Array.getElem?_eq_some_iff:=@Array.getElem?_eq_some_iff
theorem Rk:type_of%@AllReady.cons:=@AllReady.cons
theorem Rl:type_of%@List.length_map:=@List.length_map
theorem Rn:type_of%@List.append_nil:=@List.append_nil
theorem Ro:type_of%@Nat.le_trans:=@Nat.le_trans
theorem Rq:type_of%@List.map_cons:=@List.map_cons
theorem Rt:type_of%@Result.andThen_ok:=@Result.andThen_ok
theorem Ru:type_of%@List.mem_map:=@List.mem_map
theorem Rw:type_of%@run_underlying:=@run_underlying
theorem Rx:type_of%@List.getElem?_of_mem:=@List.getElem?_of_mem
theorem Ry:type_of%@congrArg:=@congrArg
theorem Rz:type_of%@List.mem_of_mem_drop:=@List.mem_of_mem_drop
theorem RD:type_of%@List.getElem?_map:=@List.getElem?_map
theorem RF:type_of%@List.map_append:=@List.map_append
theorem RG:type_of%@List.mem_of_mem_take:=@List.mem_of_mem_take
theorem RH:type_of%@List.length_eq_zero_iff:=@List.length_eq_zero_iff
theorem RI:type_of%@Nat.zero_le:=@Nat.zero_le
theorem RJ:type_of%@List.mem_map_of_mem:=@List.mem_map_of_mem
theorem RN:type_of%@Iff.rfl:=@Iff.rfl
theorem RP:type_of%@AllReady.nil:=@AllReady.nil
theorem RQ:type_of%@List.pairwise_append:=@List.pairwise_append
theorem RS:type_of%@wpAny_ready:=@wpAny_ready
theorem RU:type_of%@List.length_drop:=@List.length_drop
theorem RV:type_of%@Array.length_toList:=@Array.length_toList
theorem RX:type_of%@Nat.lt_or_ge:=@Nat.lt_or_ge
theorem RY:type_of%@List.foldl_cons:=@List.foldl_cons
theorem RZ:type_of%@List.getElem?_cons_succ:=@List.getElem?_cons_succ
theorem Si:type_of%@List.getElem?_drop:=@List.getElem?_drop
theorem Sj:type_of%@List.getD_eq_getElem?_getD:=@List.getD_eq_getElem?_getD
theorem Sl:type_of%@List.pairwise_cons:=@List.pairwise_cons
theorem Sr:type_of%@Sem.run_bind:=@Sem.run_bind
theorem Sv:type_of%@Option.some.injEq:=@Option.some.injEq
theorem Sz:type_of%@Int.toNat_natCast:=@Int.toNat_natCast
theorem SA:type_of%@Nat.mod_lt:=@Nat.mod_lt
theorem SB:type_of%@Nat.lt_of_lt_of_le:=@Nat.lt_of_lt_of_le
theorem SC:type_of%@List.map_nil:=@List.map_nil
theorem SE:type_of%@List.append_assoc:=@List.append_assoc
theorem SG:type_of%@Nat.eq_of_beq_eq_true:=@Nat.eq_of_beq_eq_true
theorem SH:type_of%@List.mem_range:=@List.mem_range
theorem SI:type_of%@List.take_append_drop:=@List.take_append_drop
theorem SK:type_of%@Option.map_some:=@Option.map_some
theorem SL:type_of%@List.length_nil:=@List.length_nil
theorem SN:type_of%@Classical.not_not:=@Classical.not_not
theorem SQ:type_of%@Sem.run_pure:=@Sem.run_pure
theorem SS:type_of%@List.flatMap_cons:=@List.flatMap_cons
theorem SX:type_of%@cond_false:=@cond_false
theorem SY:type_of%@ByteArray.size_append:=@ByteArray.size_append
theorem Tc:type_of%@List.map_congr_left:=@List.map_congr_left
theorem Td:type_of%@cond_true:=@cond_true
theorem Tf:type_of%@List.size_toArray:=@List.size_toArray
theorem Ti:type_of%@setRow_other:=@setRow_other
theorem Tj:type_of%@List.mem_cons_of_mem:=@List.mem_cons_of_mem
theorem Tm:type_of%@Nat.zero_add:=@Nat.zero_add
theorem Tq:type_of%@Array.getD_eq_getD_getElem?:=@Array.getD_eq_getD_getElem?
theorem Tt:type_of%@List.getElem?_eq_none:=@List.getElem?_eq_none
theorem Tv:type_of%@Nat.beq_eq:=@Nat.beq_eq
theorem Tz:type_of%@List.length_set:=@List.length_set
theorem TA:type_of%@List.getElem_mem:=@List.getElem_mem
theorem TB:type_of%@setRow_heap:=@setRow_heap
theorem TD:type_of%@List.eq_nil_of_length_eq_zero:=@List.eq_nil_of_length_eq_zero
theorem TF:type_of%@List.sum_cons:=@List.sum_cons
theorem TG:type_of%@Array.getElem?_toList:=@Array.getElem?_toList
theorem TI:type_of%@Bool.eq_iff_iff:=@Bool.eq_iff_iff
theorem TJ:type_of%@List.mem_cons_self:=@List.mem_cons_self
theorem TK:type_of%@List.getElem?_take:=@List.getElem?_take
theorem TL:type_of%@List.take_length:=@List.take_length
theorem TM:type_of%@Nat.add_zero:=@Nat.add_zero
theorem TN:type_of%@Nat.add_assoc:=@Nat.add_assoc
theorem TP:type_of%@Nat.succ_mul:=@Nat.succ_mul
theorem TQ:type_of%@MapKept.run_getObj_map:=@MapKept.run_getObj_map
theorem TR:type_of%@List.foldl_append:=@List.foldl_append
theorem TS:type_of%@List.flatMap_append:=@List.flatMap_append
theorem TT:type_of%@Nat.le_of_ble_eq_true:=@Nat.le_of_ble_eq_true
theorem TU:type_of%@Bool.not_eq_true:=@Bool.not_eq_true
theorem TV:type_of%@wpIn_mono:=@wpIn_mono
theorem TW:type_of%@List.not_mem_nil:=@List.not_mem_nil
theorem TY:type_of%@if_true:=@if_true
theorem Ua:type_of%@MapKept.sameNow_of_keys:=@MapKept.sameNow_of_keys
theorem Ub:type_of%@List.pairwise_singleton:=@List.pairwise_singleton
theorem Uc:type_of%@List.nil_append:=@List.nil_append
theorem Ud:type_of%@Oper.upon_value:=@Oper.upon_value
theorem Ue:type_of%@Oper.apart_spec:=@Oper.apart_spec
theorem Uf:type_of%@Nat.le_of_lt:=@Nat.le_of_lt
theorem Ug:type_of%@List.take_of_length_le:=@List.take_of_length_le
theorem Uh:type_of%@List.all_eq_true:=@List.all_eq_true
theorem Ui:type_of%@List.cons_append:=@List.cons_append
theorem Uj:type_of%@Nat.sub_zero:=@Nat.sub_zero
theorem Uk:type_of%@List.takeWhile_cons:=@List.takeWhile_cons
theorem Ul:type_of%@if_false:=@if_false
theorem Um:type_of%@Option.getD_some:=@Option.getD_some
theorem Un:type_of%@heap_alloc_old:=@heap_alloc_old
theorem Uo:type_of%@Nat.mul_one:=@Nat.mul_one
theorem Ur:type_of%@List.map_map:=@List.map_map
theorem Us:type_of%@Bool.or_eq_true:=@Bool.or_eq_true
theorem Ut:type_of%@List.getElem?_append_right:=@List.getElem?_append_right
theorem Uu:type_of%@Array.getElem?_append_left:=@Array.getElem?_append_left
theorem Uw:type_of%@List.take_add_one:=@List.take_add_one
theorem Uy:type_of%@World.cell?_of_block:=@World.cell?_of_block
theorem Uz:type_of%@Array.mem_toList_iff:=@Array.mem_toList_iff
theorem U0:type_of%@Array.getElem?_eq_getElem:=@Array.getElem?_eq_getElem
theorem U1:type_of%@Classical.byContradiction:=@Classical.byContradiction
theorem U2:type_of%@Int.le_refl:=@Int.le_refl
theorem U3:type_of%@heap_alloc_new:=@heap_alloc_new
theorem U4:type_of%@and_true:=@and_true
theorem U5:type_of%@Array.getElem?_push_size:=@Array.getElem?_push_size
theorem U7:type_of%@MapKept.run_findKey:=@MapKept.run_findKey
theorem U8:type_of%@run_callFunc_extern:=@run_callFunc_extern
theorem U9:type_of%@List.getElem?_cons_zero:=@List.getElem?_cons_zero
theorem UA:type_of%@Nat.min_eq_left:=@Nat.min_eq_left
theorem UB:type_of%@List.drop_eq_nil_of_le:=@List.drop_eq_nil_of_le
theorem UC:type_of%@List.length_eq_one_iff:=@List.length_eq_one_iff
theorem UD:type_of%@Nat.lt_trichotomy:=@Nat.lt_trichotomy
theorem UE:type_of%@Array.size_append:=@Array.size_append
theorem UF:type_of%@Nat.mul_le_mul:=@Nat.mul_le_mul
theorem UH:type_of%@List.mem_flatMap:=@List.mem_flatMap
theorem UI:type_of%@List.getElem?_append:=@List.getElem?_append
theorem UJ:type_of%@Nat.mul_le_mul_right:=@Nat.mul_le_mul_right
theorem UK:type_of%@Int.add_assoc:=@Int.add_assoc
theorem UL:type_of%@World.grownBy_alloc:=@World.grownBy_alloc
theorem UM:type_of%@List.reverse_append:=@List.reverse_append
theorem UN:type_of%@Option.some.inj:=@Option.some.inj
theorem UO:type_of%@List.headD_cons:=@List.headD_cons
theorem UQ:type_of%@List.map_set:=@List.map_set
theorem UR:type_of%@Int.zero_add:=@Int.zero_add
theorem UU:type_of%@or_false:=@or_false
theorem UW:type_of%@List.take_take:=@List.take_take
theorem UX:type_of%@List.drop_take:=@List.drop_take
variable{p:Prop}
theorem Aa(h:p:=by omega):p:=h
theorem Ac(h:p:=by kernel_rfl):p:=h
theorem Ad(h:p:=by repeat' (first|exact trivial|exact rfl|refine And.intro ?_ ?_)):p:=h
theorem Ae(h:p:=by rw[hp];simp):p:=h
theorem Af(h:p:=by simp):p:=h
theorem Ag(h:p:=by assumption):p:=h
theorem Ah(h:p:=by cases h):p:=h
theorem Ai(h:p:=by decide):p:=h
theorem Aj(h:p:=by decide+kernel):p:=h
theorem Ak(h:p:=by simp[Op.operands]):p:=h
theorem Am(h:p:=by simp[intOf];omega):p:=h
theorem Ap(h:p:=by first|exact hl2|exact hl1):p:=h
theorem Aq(h:p:=by rw[hq];simp):p:=h
theorem Ar(h:p:=by simp only;omega):p:=h
theorem Au(h:p:=by show 0<=_/\_< ((s.stocks.map aQ).length:Int);omega):p:=h
theorem Aw(h:p:=by rw[IntKind.wrap_i64];omega):p:=h
theorem Az(h:p:=by simp only[V.pure,V.ok];exact hp):p:=h
theorem A7(h:p:=by simp[Act.eval,Act.put]):p:=h
theorem A8(h:p:=by show(List.take _ (s.stocks.map aQ)++[_]).length+(List.drop _ (List.take _ (s.stocks.map aQ))).length<=1000000000;rw[QU,QZ,QY,RU,QZ];omega):p:=h
theorem AA(h:p:=by show(List.take _ (s.pieces.map aZ)++[_]).length+(List.drop _ (List.take _ (s.pieces.map aZ))).length<=1000000000;rw[QU,QZ,QY,RU,QZ];omega):p:=h
theorem AB(h:p:=by show(List.take _ (s.used.map I)++[_]).length+(List.drop _ (List.take _ (s.used.map I))).length<=1000000000;rw[QU,QZ,QY,RU,QZ];omega):p:=h
theorem AL(h:p:=by unfold fst;rw[h1];exact wH hD (by rw[dH.2 hd];rfl)):p:=h
theorem AO(h:p:=by simp only[cls];decide):p:=h
theorem AP(h:p:=by rw[hb];simp):p:=h
theorem AQ(h:p:=by unfold rings;simp):p:=h
theorem AU(h:p:=by first|assumption|exact λh=>absurd h (by assumption)):p:=h
theorem AV(h:p:=by simp;omega):p:=h
theorem AX(h:p:=by obtain⟨m,_,rfl⟩:=Ru.1 hy;rfl):p:=h
theorem AY(h:p:=by simp only[V.ok]at h⊢;exact h):p:=h
theorem AZ(h:p:=by simp[Op.operands,Call.operands]):p:=h
theorem Ba(h:p:=by simp only[V.pure,V.ok]at hok⊢;exact hok):p:=h
theorem Be(h:p:=by simp only[Uo]):p:=h
theorem Bf(h:p:=by show 0+(List.take _ (s.stocks.map aQ)).length<=1000000000;rw[QZ];omega):p:=h
theorem Bg(h:p:=by unfold remS;rw[Q5 (by rw[e1];decide)]):p:=h
theorem Bh(h:p:=by rw[h1];simp):p:=h
theorem Bj(h:p:=by simpa using hu):p:=h
theorem Bl(h:p:=by simpa using hv):p:=h
theorem Bo(h:p:=by rw[<-h4];exact QW.2 rfl):p:=h
theorem Bq(h:p:=by show 0+(f.map nodeV).length<=1000000000;omega):p:=h
theorem Bv(h:p:=by show(if 100000<=100000+i/\100000+i<100000+bs.length then some (G.β (100000+i))else none)=_;rw[QO (by omega)]):p:=h
theorem Bz(h:p:=by rw[hSd];exact Int.mul_zero _):p:=h
theorem BA(h:p:=by rw[hSc];exact Int.mul_zero _):p:=h
theorem BB(h:p:=by rw[RV,e2,<-b3];exact(QR.1 hi).1):p:=h
theorem BD(h:p:=by rw[show N+1000*(q+1)=N+1000+1000*q by omega];exact hn):p:=h
theorem BF(h:p:=by simpa using hl):p:=h
theorem BG(h:p:=by rw[hp,Rn]at h;exact h):p:=h
theorem BH(h:p:=by first|exact .inl ‹_› |exact .inr (.inl ‹_›)|exact .inr (.inr (.inl ‹_›))|exact .inr (.inr (.inr ‹_›))):p:=h
theorem BI(h:p:=by simp[hx]):p:=h
theorem BJ(h:p:=by show 0<=_/\_< ((s.pieces.map aZ).length:Int);omega):p:=h
theorem BK(h:p:=by unfold dZ;rw[Q5 c1,Q5 (by rw[e1];decide)]):p:=h
theorem BL(h:p:=by simp only[V.ok]):p:=h
theorem BM(h:p:=by simp only[V.pure,V.ok];exact hok):p:=h
theorem BN(h:p:=by as_aux_lemma=>kernel_rfl):p:=h
theorem BO(h:p:=by {unfold restN;rw[Q5 (by simpa using ‹(y.parent==0)=false›)]}):p:=h
theorem BP(h:p:=by rw[kS (a:=k+1) (by omega)];omega):p:=h
theorem BQ(h:p:=by {unfold restN;rw[QO (by simpa using ‹(y.parent==0)=true›)]}):p:=h
theorem BR(h:p:=by unfold remE;rw[Q5 (λh=>h c1),Q5 (λh=>h ⟨c21,c22,c23,c24⟩),Q5 (λh=>h c3)]):p:=h
theorem BU(h:p:=by show 0<=_/\_< ((f.map nodeV).length:Int);omega):p:=h
theorem BV(h:p:=by refine⟨by omega,?_⟩;simp only[Tz];show _< ((s.pieces.map aZ).length:Int);omega):p:=h
theorem BX(h:p:=by simp only[Gc];rw[hb]):p:=h
theorem BZ(h:p:=by refine⟨by omega,?_⟩;show _< ((List.set _ _ _).length:Int);simp only[Tz];omega):p:=h
theorem Cb(h:p:=by simp only[V.okL]):p:=h
theorem Cc(h:p:=by rw[dW.2 (h2 y hy)];rfl):p:=h
theorem Ce(h:p:=by simp[World.frozen?,hv]):p:=h
theorem Cf(h:p:=by show 0<=_/\_< ((List.set (f.map nodeV) _ _).length:Int);simp only[Tz];omega):p:=h
theorem Ci(h:p:=by rw[show r.length-1+2=1+r.length by omega,Nat.add_mod_right,Nat.mod_eq_of_lt (by omega)]):p:=h
theorem Cj(h:p:=by show(if 100000<=i/\i<100000+bs.length then some (G.β i)else none)=_;rw[QO ⟨z1,z2⟩]):p:=h
theorem C9(h:p:=by rw[hs,Tt (by omega)];rfl):p:=h
theorem CB(h:p:=by unfold maxLen;omega):p:=h
theorem CG(h:p:=by rw[hsn,hpo,hq];exact⟨λh=>h.2,λh=>⟨λh'=>absurd (hmm.2 h') (by assumption),h⟩⟩):p:=h
theorem CJ(h:p:=by rw[Tt hk]at hm;cases hm):p:=h
theorem CO(h:p:=by unfold X dif;simp only;grind):p:=h
theorem CP(h:p:=by show 0+(List.take _ (s.pieces.map aZ)).length<=1000000000;rw[QZ];omega):p:=h
theorem CQ(h:p:=by rw[show l=D++[]from hp];simp):p:=h
theorem CS(h:p:=by show(List.take _ (s.stocks.map aQ)).length+1<=1000000000;rw[QZ];omega):p:=h
theorem CU(h:p:=by show(List.take _ (s.pieces.map aZ)).length+1<=1000000000;rw[QZ];omega):p:=h
theorem CV(h:p:=by grind):p:=h
theorem CW(h:p:=by obtain⟨m,hm,rfl⟩:=Ru.1 hy;have:=hc m hm;omega):p:=h
theorem CX(h:p:=by show 0+(List.take _ (s.used.map I)).length<=1000000000;rw[QZ];omega):p:=h
theorem CY(h:p:=by show(List.take _ (s.used.map I)).length+1<=1000000000;rw[QZ];omega):p:=h
theorem CZ(h:p:=by rw[hp2];simp):p:=h
theorem Dc(h:p:=by obtain⟨m,hm,rfl⟩:=Ru.1 hy;exact(hr m hm).1):p:=h
theorem Df(h:p:=by simp[Region.wanted,hg]):p:=h
theorem Dh(h:p:=by unfold hvO;rw[hop];rfl):p:=h
theorem Di(h:p:=by unfold dJ;rw[Q5 ‹¬r.getD k z0=p›,eN,QO ⟨by assumption,by assumption⟩]):p:=h
theorem Dj(h:p:=by rw[Ti _ b vb _ hvb];exact hv):p:=h
theorem Dk(h:p:=by unfold cut4;simp only[TR,RY,List.foldl_nil];rfl):p:=h
theorem Dl(h:p:=by rw[hs,QS c];rfl):p:=h
theorem Dn(h:p:=by unfold rings;simp[hr]):p:=h
theorem Dp(h:p:=by simp only[Nat.min_def];split<;>omega):p:=h
theorem Dq(h:p:=by rw[hk];simp[uP,jG]):p:=h
theorem Du(h:p:=by rw[hcs];exact(QR.1 hy).1):p:=h
theorem Dv(h:p:=by simpa using hy):p:=h
theorem Dw(h:p:=by show upd G.O _ _ b=_;rw[upd_ne _ _ (hne b (by rw[hb];simp))];exact hb):p:=h
theorem Dx(h:p:=by rw[QZ,RV];omega):p:=h
theorem Dy(h:p:=by simp[Op.operands,Call.operands,hx]):p:=h
theorem Dz(h:p:=by rw[show s.holes=D++[]from hp];simp):p:=h
theorem D5(h:p:=by show 0<=_/\_< ((rs.map rgV).length:Int);omega):p:=h
theorem D6(h:p:=by cases QW.1 hy;rfl):p:=h
theorem D7(h:p:=by obtain⟨v,hv,q⟩:=hr.1 h;rw[hp,Rn]at hv;exact hD v hv q):p:=h
theorem D8(h:p:=by rcases hl with rfl|⟨s',rfl⟩<;>rfl):p:=h
theorem D9(h:p:=by rw[hV,Q5 ‹¬vb=p›,Q5 (λh=>absurd h.2 (by assumption))]):p:=h
theorem DC(h:p:=by rw[hDe];exact hU):p:=h
theorem DF(h:p:=by rw[hDe];exact hP):p:=h
theorem DI(h:p:=by show 0<=_/\_< ((A.map sgV).length:Int);rw[Rl];omega):p:=h
theorem DJ(h:p:=by show 0<=_/\_< ((B.map sgV).length:Int);rw[Rl];omega):p:=h
theorem DK(h:p:=by simpa using hq):p:=h
theorem DL(h:p:=by simpa using hc):p:=h
theorem DN(h:p:=by rw[Rl];omega):p:=h
theorem DR(h:p:=by rw[show t+1+i=t+(i+1) by omega];exact hb (i+1) (by simp;omega)):p:=h
theorem DT(h:p:=by rw[hp,Rn];exact hD):p:=h
theorem DU(h:p:=by rw[hsn,hlp,hpl,QU,QY];omega):p:=h
theorem DV(h:p:=by rw[Rl,Rl];omega):p:=h
theorem DW(h:p:=by rw[Sj,QS h];rfl):p:=h
theorem DX(h:p:=by rw[hsn];exact hps2 (λh=>absurd (hmm.2 h) (by assumption))):p:=h
theorem DY(h:p:=by show V.ok _ _ (.ae k g z i' o);simp only[V.ok]at h⊢;exact h):p:=h
theorem DZ(h:p:=by unfold cmpI;split<;>(try split)<;>omega):p:=h
theorem Ea(h:p:=by simp only[Gc];rw[hb];simp[hk]):p:=h
theorem Eb(h:p:=by rw[hV,Q5 ‹¬vb=p›,QO ⟨by assumption,by assumption⟩]):p:=h
theorem Ec(h:p:=by simpa using Ry List.length hlens):p:=h
theorem Ed(h:p:=by simp only[V.ok]at h h'⊢;exact aL2 h h'):p:=h
theorem Ee(h:p:=by rw[hV,Q5 ‹¬vb=p›,Q5 (λh=>h.1 (by assumption))]):p:=h
theorem Ef(h:p:=by subst e;rw[hd]at hx;cases hx):p:=h
theorem Eg(h:p:=by rw[e];exact h2):p:=h
theorem Eh(h:p:=by rw[show v.1-c.1=0 by omega,show d.1-c.1=0 by omega];simp):p:=h
theorem Ei(h:p:=by unfold strV;rw[Rl,RV];rfl):p:=h
theorem Ej(h:p:=by rw[hcy,QO (hC.2 ⟨by assumption,by assumption⟩)];rfl):p:=h
theorem Em(h:p:=by show _<=(w.heap.push _).size;rw[Array.size_push];omega):p:=h
theorem En(h:p:=by rcases q with q|q<;>cases q):p:=h
theorem Eo(h:p:=by rw[ha];exact Int.zero_mul _):p:=h
theorem Ep(h:p:=by rw[hb];exact Int.zero_mul _):p:=h
theorem Es(h:p:=by rw[hz];exact Int.zero_mul _):p:=h
theorem Et(h:p:=by rw[hy];exact Int.zero_mul _):p:=h
theorem Eu(h:p:=by unfold iG;rw[Q5 c1,Q5 (λh=>h c2),Q5 c3]):p:=h
theorem Ew(h:p:=by show V.ok _ _ (.own e l);simp only[V.ok]at h⊢;exact h):p:=h
theorem Ey(h:p:=by show V.ok _ _ (.arr k g);simp only[V.ok]at h⊢;exact h):p:=h
theorem Ez(h:p:=by rw[hbl,<-hil];exact(QR.1 hj).1):p:=h
theorem E5(h:p:=by simp only[V.ok,V.okL]):p:=h
theorem E8(h:p:=by rw[hno]at hq;cases hq):p:=h
theorem EC(h:p:=by rw[hnp]at hq;cases hq):p:=h
theorem ED(h:p:=by simp only[V.ok]at h h'⊢;exact⟨h,h'⟩):p:=h
theorem EF(h:p:=by show V.ok _ _ (.ap e l);simp only[V.ok]at h⊢;exact h):p:=h
theorem EG(h:p:=by unfold maxLen at hle;omega):p:=h
theorem EH(h:p:=by rw[show r.length-1+1=r.length by omega,Nat.mod_self]):p:=h
theorem EI(h:p:=by show V.ok _ _ (.cap l);simp only[V.ok]at h⊢;exact h):p:=h
theorem EJ(h:p:=by rw[hop];simp[cls]):p:=h
theorem EK(h:p:=by rw[<-e,hen]at hn;cases hn):p:=h
theorem EL(h:p:=by rw[<-hlen];exact(QR.1 hq).1):p:=h
theorem EM(h:p:=by show V.ok _ _ (.sl l);simp only[V.ok]at h⊢;exact h):p:=h
theorem EN(h:p:=by show V.ok _ _ (.fp l);simp only[V.ok]at h⊢;exact h):p:=h
theorem EO(h:p:=by rw[hΦr];rfl):p:=h
theorem EP(h:p:=by show upd σ.ar k _ k'=_;rw[upd_ne _ _ e1];exact hx):p:=h
theorem EQ(h:p:=by rw[e2,hl];exact(QR.1 hi).1):p:=h
theorem ER(h:p:=by rw[<-hil];exact(QR.1 hj).1):p:=h
theorem ES(h:p:=by unfold onL X dif;simp only;rw[Int.mul_comm];omega):p:=h
theorem ET(h:p:=by replace h:=h.out;exact h):p:=h
theorem EU(h:p:=by rw[hlen];exact(QR.1 hy).1):p:=h
theorem EW(h:p:=by simp[FW,Fence.wide]at hh):p:=h
theorem EX(h:p:=by simpa only[V.ok]using h2):p:=h
theorem EY(h:p:=by unfold World.setCell;split<;>rfl):p:=h
theorem EZ(h:p:=by rw[hcy,Q5 (λh=>by have:=hC.1 h;simp_all)]):p:=h
theorem Fa(h:p:=by simpa using max6 hl):p:=h
theorem Fb(h:p:=by simp only[V.ok]at h⊢;exact V.okL.imp hp hq cs h):p:=h
theorem Fe(h:p:=by simp only[V.pure,V.ok];exact q2):p:=h
theorem Ff(h:p:=by unfold World.freeze;split<;>rfl):p:=h
theorem Fg(h:p:=by rw[hl];exact(QR.1 hy).1):p:=h
theorem Fh(h:p:=by rw[q1];exact(QR.1 hy).1):p:=h
theorem Fj(h:p:=by unfold rings;simp;omega):p:=h
theorem Fp(h:p:=by simpa using h):p:=h
theorem Fq(h:p:=by rw[hΦr]):p:=h
theorem Fv(h:p:=by simp only[V.pure,V.ok,V.okL]at hok⊢;exact hok):p:=h
theorem Fz(h:p:=by rw[lT];rfl):p:=h
theorem F5(h:p:=by rw[nX];rfl):p:=h
theorem F6(h:p:=by unfold X dif;simp only;rw[Int.mul_comm];omega):p:=h
theorem F7(h:p:=by obtain⟨m,_,rfl⟩:=Ru.1 hy;exact hf m):p:=h
theorem F8(h:p:=by unfold bF;split<;>simp<;>omega):p:=h
theorem F9(h:p:=by obtain⟨q1,q2⟩:=q;contradiction):p:=h
theorem FB(h:p:=by simp[List.getD,QS hj']):p:=h
theorem FC(h:p:=by rw[hO vb hvw];exact hv):p:=h
theorem FD(h:p:=by show 0<=_/\_< ((E.map vcV).length:Int);omega):p:=h
theorem FH(h:p:=by show 0<=_/\_< ((E.map sgV).length:Int);omega):p:=h
theorem FI(h:p:=by show 0<=_/\_< ((RL.map aQ).length:Int);omega):p:=h
theorem FK(h:p:=by rcases q with q|q|q<;>cases q):p:=h
theorem FM(h:p:=by simpa using hb):p:=h
theorem FN(h:p:=by simp[World.shape?,hv]):p:=h
theorem FO(h:p:=by simp[World.shape?,hb]):p:=h
theorem FP(h:p:=by rw[hO b hbw];exact hb):p:=h
theorem FQ(h:p:=by unfold dJ;rw[QO ‹r.getD k z0=p›,eN,eL]):p:=h
theorem FT(h:p:=by rw[<-TU,Tv];exact h):p:=h
theorem FU(h:p:=by simp[binOp,Op.shift,Int.not_lt.2 h0,shrI]):p:=h
theorem FV(h:p:=by simp[binOp,Op.shift,Int.not_lt.2 h0,shlI]):p:=h
theorem FX(h:p:=by rw[hp,Rn]at hv;exact hD v hv):p:=h
theorem FY(h:p:=by rw[kS (a:=k+r.length-1) (by omega)];omega):p:=h
theorem FZ(h:p:=by unfold Addr.add;split<;>rfl):p:=h
theorem Gf(h:p:=by simpa [Op.operands]using hx):p:=h
theorem Gg(h:p:=by rcases h with h|h<;>cases h):p:=h
theorem Gj(h:p:=by rw[show t+(i+1)=t+1+i by omega];exact hb):p:=h
theorem Gl(h:p:=by rw[hx];simp[frzE,hk]):p:=h
theorem Gm(h:p:=by simp only[Tz];rw[hll];omega):p:=h
theorem Gn(h:p:=by simp only[Tz];rw[hmp];omega):p:=h
theorem Gs(h:p:=by rw[hO];intro e;have:=Tag.ar.inj e;omega):p:=h
theorem Gt(h:p:=by simpa [Tv]using c1):p:=h
theorem Gu(h:p:=by unfold maxLen at hcm;omega):p:=h
theorem Gv(h:p:=by rw[QZ];omega):p:=h
theorem Gw(h:p:=by rw[Tm];exact hrb i u y hu hy):p:=h
theorem Gy(h:p:=by show V.ok _ _ (.lit u);simp only[V.ok]):p:=h
theorem Gz(h:p:=by simp only[bM,V.okL]):p:=h
theorem G6(h:p:=by unfold corners;simp):p:=h
theorem G7(h:p:=by unfold jA;omega):p:=h
theorem G8(h:p:=by rw[TR];rfl):p:=h
theorem G9(h:p:=by rw[keepO b (by rw[hb];simp)];exact hb):p:=h
theorem GH(h:p:=by simp at q):p:=h
theorem GI(h:p:=by rw[hr];simp[q3,q4]):p:=h
theorem GK(h:p:=by rw[hP]):p:=h
theorem GL(h:p:=by first|exact .inl ‹_› |exact .inr ‹_›):p:=h
theorem GN(h:p:=by simpa using e2):p:=h
theorem GR(h:p:=by rw[h];simp):p:=h
theorem GU(h:p:=by rw[size_setRow];exact QV _):p:=h
theorem GV(h:p:=by simp only[V.ok]at h⊢;exact hq _ _ h):p:=h
theorem GX(h:p:=by rw[<-hcs];exact RV):p:=h
theorem GY(h:p:=by simp[binOp,Op.intArith]):p:=h
theorem GZ(h:p:=by rw[aG2];simp only;omega):p:=h
theorem He(h:p:=by unfold more;omega):p:=h
theorem Hf(h:p:=by show V.ok _ _ .bot;simp only[V.ok]):p:=h
theorem Hg(h:p:=by simp[Op.operands,Call.operands,hy]):p:=h
theorem Hl(h:p:=by unfold moreL;simp):p:=h
theorem Ho(h:p:=by rw[Sz,UQ]):p:=h
theorem Hq(h:p:=by rw[q3];simp):p:=h
theorem Hr(h:p:=by simp[h2]):p:=h
theorem Ht(h:p:=by cases hx):p:=h
theorem Hu(h:p:=by simpa using hs.1):p:=h
theorem Hw(h:p:=by simp at h):p:=h
theorem Hy(h:p:=by cases q):p:=h
theorem Hz(h:p:=by rw[hp,hq]):p:=h
theorem H6(h:p:=by simp only[V.okL];exact⟨hfpp,q5⟩):p:=h
theorem H7(h:p:=by rw[<-hok];exact aP0.2 ⟨γ,q,hp⟩):p:=h
theorem H8(h:p:=by simpa using hn):p:=h
theorem H9(h:p:=by simpa using hi):p:=h
theorem HY(h:p:=by cases hm):p:=h
theorem Ia(h:p:=by rw[e1,hd];simp):p:=h
theorem Ib(h:p:=by rw[hp,hq];simp):p:=h
theorem Ic(h:p:=by unfold iI;simp):p:=h
theorem Ie(h:p:=by rw[hO];simp):p:=h
theorem Ig(h:p:=by rw[<-hwr];simp[hp]):p:=h
theorem Ih(h:p:=by rw[b1]):p:=h
theorem Ii(h:p:=by rw[a1]):p:=h
theorem Ij(h:p:=by rw[hbs,m1.2];omega):p:=h
theorem Ik(h:p:=by cases h';exact hyk):p:=h
theorem Il(h:p:=by simp[sh0]):p:=h
theorem Io(h:p:=by rw[hll];omega):p:=h
theorem Ip(h:p:=by rw[hpl];omega):p:=h
theorem Iq(h:p:=by simp at hc):p:=h
theorem Ir(h:p:=by simp at hx):p:=h
theorem Iu(h:p:=by rw[e]):p:=h
theorem Iw(h:p:=by simp[h1]):p:=h
theorem Iy(h:p:=by simp[hz]):p:=h
theorem Iz(h:p:=by rw[hl];omega):p:=h
theorem I4(h:p:=by simp[dN,sh0]):p:=h
theorem I5(h:p:=by simp[av']):p:=h
theorem I7(h:p:=by simp[hlt]):p:=h
theorem I8(h:p:=by
 obtain⟨v',W2,W3,hr,hx2,hr3,hown3,hnx3,hws3⟩:=hall
 refine step_ap rfl rfl rfl rfl hr ?_
 go_simp
 refine hK _ _ ?_;clear hK K
 refine RS (rs:=[11]) Ac Af ?_
 refine Rk rfl (λK hK=>?_) ?_
 ·refine step_mu rfl rfl rfl rfl rfl hr3 ?_
  go_simp
  refine hK _ _ ?_;clear hK K
  refine wpAny_done Ac ?_ _
  go_wp2;exact⟨⟨k+1,Aa,rfl,hown3,hnx3,hws3⟩,Am⟩
 exact RP):p:=h
theorem I9(h:p:=by
 obtain⟨h1,h2⟩:=hp
 have hlen:l.length=D.length+R.length:=Bh
 have hD:∀y∈D,(!decB (Q y))=true:=λy hy=>Cc
 cases R with
 |nil=>
  have e:l=D:=Bh
  simp at hlen
  repeat' ((conv=>whnf);first|omega|refine zS ?_|refine zl (λhlt=>?_) (λhlt=>?_))
  conv=>whnf
  refine aG ?_
  unfold fstI
  rw[Q5 (iO.2 Eg)]
 |cons x R=>
  rw[Rf]at hlen
  repeat' ((conv=>whnf);first|omega|refine zc (hg x) ?_|refine zS ?_|refine zd (λhd=>?_) (λhd=>?_)|refine zl (λhlt=>?_) (λhlt=>?_))
  ·conv=>whnf
   refine aG ?_
   have e:fst Q l=D.length:=AL
   unfold fstI
   rw[e,QO Aa]
  ·conv=>whnf
   refine⟨(D++[x],R),?_,⟨?_,?_⟩,?_⟩
   ·refine dV ?_ ?_ ?_ ?_
    all_goals repeat' (first|exact trivial|refine And.intro ?_ ?_|with_reducible rfl|exact(λh=>Ah)|exact QV _|omega|exact rfl)
    ·show(D.length:Int)+1=(D++[x]).length
     simp
   ·show l=D++[x] ++R
    rw[h1];simp
   ·intro m hm
    rcases QX.1 hm with hm|hm
    ·exact h2 m hm
    ·rw[QW.1 hm];exact hd
   ·show R.length< (x::R).length
    simp):p:=h
theorem IA(h:p:=by
 refine step_mu rfl rfl rfl rfl rfl hr3 ?_
 go_simp
 refine hK _ _ ?_;clear hK K
 refine wpAny_done Ac ?_ _
 go_wp2;exact⟨⟨k+1,Aa,rfl,hown3,hnx3,hws3⟩,Am⟩):p:=h
theorem IB(h:p:=by
 conv=>whnf
 refine⟨(D++[x],R),?_,⟨?_,?_⟩,?_⟩
 ·refine dV ?_ ?_ ?_ ?_
  all_goals repeat' (first|exact trivial|refine And.intro ?_ ?_|with_reducible rfl|exact(λh=>Ah)|exact QV _|omega|exact rfl)
  ·show(D.length:Int)+1=(D++[x]).length
   simp
 ·show l=D++[x] ++R
  rw[h1];simp
 ·intro m hm
  rcases QX.1 hm with hm|hm
  ·exact h2 m hm
  ·rw[QW.1 hm];exact hd
 ·show R.length< (x::R).length
  simp):p:=h
theorem IC(h:p:=by
 have hlen:a.length=D.length:=Ae
 have hS:S=[] :=by
  have h1:b.length=D.length+S.length:=Aq
  exact RH.1 Aa
 subst hS
 have hab:P:=hr.2 Hz
 clear hp hq hr
 repeat' ((conv=>whnf);first|omega|refine zS ?_|refine zT ?_ ?_<;>intro _|fail)
 all_goals conv=>whnf
 exact aA (fE hab)):p:=h
theorem IE(h:p:=by
 simp only[QU,QY]
 exact zj):p:=h
theorem IG(h:p:=by
 repeat' ((conv=>whnf);first|omega|refine zS ?_|refine zT ?_ ?_<;>intro _|fail)
 all_goals conv=>whnf
 all_goals first
  |exact aA (aC (λh=>by have:=hr.1 h;grind))
  |exact aA (fQ CV)
  |exact aA (qV CV)):p:=h
theorem II(h:p:=by
 rcases Int.lt_trichotomy Sc 0 with hSc|hSc|hSc<;>rcases Int.lt_trichotomy Sd 0 with hSd|hSd|hSd
 all_goals (rcases Int.lt_trichotomy a 0 with ha|ha|ha<;>rcases Int.lt_trichotomy b 0 with hb|hb|hb<;>rcases hz with hz|hz|hz<;>rcases hy with hy|hy|hy<;>first|omega|((first|have p1:=Int.mul_pos ha hSd|have p1:=Int.mul_pos_of_neg_of_neg ha hSd|have p1:=Int.mul_neg_of_neg_of_pos ha hSd|have p1:=Int.mul_neg_of_pos_of_neg ha hSd|have p1:a*Sd=0:=Eo|have p1:a*Sd=0:=Bz);(first|have p2:=Int.mul_pos hb hSc|have p2:=Int.mul_pos_of_neg_of_neg hb hSc|have p2:=Int.mul_neg_of_neg_of_pos hb hSc|have p2:=Int.mul_neg_of_pos_of_neg hb hSc|have p2:b*Sc=0:=Ep|have p2:b*Sc=0:=BA);(first|have p3:=Int.mul_pos hz hSd|have p3:=Int.mul_pos_of_neg_of_neg hz hSd|have p3:=Int.mul_neg_of_neg_of_pos hz hSd|have p3:=Int.mul_neg_of_pos_of_neg hz hSd|have p3:(a-w)*Sd=0:=Es|have p3:(a-w)*Sd=0:=Bz);(first|have p4:=Int.mul_pos hy hSc|have p4:=Int.mul_pos_of_neg_of_neg hy hSc|have p4:=Int.mul_neg_of_neg_of_pos hy hSc|have p4:=Int.mul_neg_of_pos_of_neg hy hSc|have p4:(b-w)*Sc=0:=Et|have p4:(b-w)*Sc=0:=BA);generalize a*Sd=m1 at*;generalize b*Sc=m2 at*;generalize (a-w)*Sd=m3 at*;generalize (b-w)*Sc=m4 at*;omega))):p:=h
theorem IJ(h:p:=by (rcases Int.lt_trichotomy a 0 with ha|ha|ha<;>rcases Int.lt_trichotomy b 0 with hb|hb|hb<;>rcases hz with hz|hz|hz<;>rcases hy with hy|hy|hy<;>first|omega|((first|have p1:=Int.mul_pos ha hSd|have p1:=Int.mul_pos_of_neg_of_neg ha hSd|have p1:=Int.mul_neg_of_neg_of_pos ha hSd|have p1:=Int.mul_neg_of_pos_of_neg ha hSd|have p1:a*Sd=0:=Eo|have p1:a*Sd=0:=Bz);(first|have p2:=Int.mul_pos hb hSc|have p2:=Int.mul_pos_of_neg_of_neg hb hSc|have p2:=Int.mul_neg_of_neg_of_pos hb hSc|have p2:=Int.mul_neg_of_pos_of_neg hb hSc|have p2:b*Sc=0:=Ep|have p2:b*Sc=0:=BA);(first|have p3:=Int.mul_pos hz hSd|have p3:=Int.mul_pos_of_neg_of_neg hz hSd|have p3:=Int.mul_neg_of_neg_of_pos hz hSd|have p3:=Int.mul_neg_of_pos_of_neg hz hSd|have p3:(a-w)*Sd=0:=Es|have p3:(a-w)*Sd=0:=Bz);(first|have p4:=Int.mul_pos hy hSc|have p4:=Int.mul_pos_of_neg_of_neg hy hSc|have p4:=Int.mul_neg_of_neg_of_pos hy hSc|have p4:=Int.mul_neg_of_pos_of_neg hy hSc|have p4:(b-w)*Sc=0:=Et|have p4:(b-w)*Sc=0:=BA);generalize a*Sd=m1 at*;generalize b*Sc=m2 at*;generalize (a-w)*Sd=m3 at*;generalize (b-w)*Sc=m4 at*;omega))):p:=h
theorem IK(h:p:=by
 have hb:(i+j)/2<l.length:=by omega
 have hm2:=QS hb
 generalize l[(i+j)/2] =m at hm2
 have g1:=hg m
 have hlt2:(i+j)/2<j:=Aa
 repeat' ((conv=>whnf);first|omega|refine fK (k:= .u64) (n:=(i:Int)+(j:Int)) (m:=(i:Int)+(j:Int)) (cD4 Aa) ?_|refine fK (k:= .i64) (n:=shrI .u64 ((i:Int)+(j:Int)) 1) (m:=(((i+j)/2:Nat):Int)) (bF1 Aa) ?_|refine zS ?_|refine zT ?_ ?_<;>intro _|fail)
 all_goals conv=>whnf
 ·have hc:=cK6.1 Ag
  refine⟨((i+j)/2+1,j),?_,⟨Aa,Aa,λk y hk hy=>?_,h2⟩,Aa⟩
  ·exact zj
  ·rcases RX k ((i+j)/2)with h|h
   ·exact Int.lt_trans (sorted_at hs hy hm2 h) hc
   ·have:k=(i+j)/2:=by omega
    subst this
    rw[hm2]at hy
    cases hy
    exact hc
 ·have hc:=aU8.1 Ag
  refine⟨(i,(i+j)/2),?_,⟨Aa,Aa,h1,λk y hk hy=>?_⟩,Aa⟩
  ·exact zj
  ·rcases RX ((i+j)/2) k with h|h
   ·exact Int.le_of_lt (Int.lt_of_le_of_lt hc (sorted_at hs hm2 hy h))
   ·have:k=(i+j)/2:=by omega
    subst this
    rw[hm2]at hy
    cases hy
    exact hc):p:=h
theorem IL(h:p:=by
 refine dV ?_ ?_ ?_ ?_
 all_goals repeat' (first|exact trivial|refine And.intro ?_ ?_|with_reducible rfl|exact(λh=>Ah)|exact QV _|omega|exact rfl)
 all_goals (try rw[Rl])):p:=h
theorem IQ(h:p:=by
 repeat' ((conv=>whnf);first|refine zh (h) [100000] ?_|refine zS ?_|fail)
 all_goals conv=>whnf
 all_goals first|exact⟨_,rfl,zc1⟩|exact zc1):p:=h
theorem IU(h:p:=by
 refine dV ?_ ?_ ?_ ?_
 all_goals repeat' (first|exact trivial|refine And.intro ?_ ?_|with_reducible rfl|exact(λh=>Ah)|exact QV _|omega|exact rfl)
 all_goals (rw[Rl])):p:=h
theorem IV(h:p:=by
 cases x with
 |tmp t=>
  refine bU _ _ _ _ (λe=>hp1 t e ?_)
  unfold Oper.looksAt
  rw[QX]
  left
  rw[List.mem_filterMap]
  exact⟨.tmp t,Uz.2 hx,rfl⟩
 |const v=>rfl
 |global g=>rfl
 |func f=>rfl):p:=h
theorem IW(h:p:=by
 by_cases c1:r.lo≠0\/r.hi≠0
 ·have e1:iG x r=1:=by unfold iG;rw[QO hb,QO c1]
  have e2:dZ x r=wS:=by unfold dZ;rw[QO hb,QO c1]
  rw[e1,e2]
  obtain⟨b,s,br,p⟩:=x
  cases hb
  exact zF
 ·have e1:iG x r=remE x.sheet r.box r.id:=by unfold iG;rw[QO hb,Q5 c1]
  have e2:dZ x r=⟨false,remS x.sheet r.box r.id,bar0,aI⟩:=by unfold dZ;rw[QO hb,Q5 c1]
  rw[e1,e2]
  obtain⟨b,s,br,p⟩:=x
  cases hb
  generalize remS s r.box r.id=q1 at*
  generalize remE s r.box r.id=q2 at*
  exact zF):p:=h
theorem IX(h:p:=by
 have hv:(cs++Array.replicate (fn.ntmps-cs.size) undef).getD s undef=cs.getD s undef:=by
  simp[Uu hs]
 have hy:ys[s]? =some ys[s] :=QS Aa
 rw[hv,hy]
 have hr:=hrb s _ hy
 generalize ys[s] =y at*
 simp only
 cases hl:linear y with
 |false=>
  have:y.pure/\Rv w G (cs.getD s undef) y:=by
   unfold Rb at hr
   grind [linear]
  exact this.2.aW hkeep this.1
 |true=>
  have h1:(cs.getD s undef).oneCell'=true:=by
   grind [oW,Rb]
  exact Rv.arr (w:=w) (G:=G0) s 0 h1):p:=h
theorem IY(h:p:=by
 conv=>whnf
 refine aG ?_
 have e:fst Q l=D.length:=AL
 unfold fstI
 rw[e,QO Aa]):p:=h
theorem IZ(h:p:=by
 obtain⟨rfl,rfl⟩:=hn rfl
 go_wp2_with (at_builtin;refine Lib.wpList_append_run _ rfl _ _ _ _ rfl _ _ rfl rfl _ _ (hA _) ?_)
 all_goals (go_ret;exact⟨rfl,rfl⟩)):p:=h
theorem Ja(h:p:=by
 obtain⟨ab,ao,asp⟩:=a
 go_wp2_with (at_builtin;refine Lib.wpList_append_run _ rfl _ _ _ _ rfl _ _ rfl rfl _ _ (hA _) ?_)
 all_goals (go_ret;exact⟨rfl,rfl⟩)):p:=h
theorem Jb(h:p:=by
 have hr:kP false p q↔(max p.box.1.1 q.box.1.1<min p.box.2.1 q.box.2.1/\max p.box.1.2 q.box.1.2<min p.box.2.2 q.box.2.2):=by unfold kP;rw[Q5 (by decide)]
 generalize kP false p q=P at*
 repeat' ((conv=>whnf);first|refine zS ?_|refine zT ?_ ?_<;>intro _|fail)
 all_goals conv=>whnf
 all_goals simp only[mG,lH]at*
 all_goals first
  |exact aA (aS1 ⟨λh=>hr.2 ⟨Aa,Aa⟩,λh=>by have:=hr.1 h;omega⟩)
  |exact aA (aC (λh=>by have:=hr.1 h;omega))):p:=h
theorem Jc(h:p:=by
 have h1:=hr.1 hP
 rw[hp,hq]at h1
 exact h (List.cons.inj (List.append_cancel_left h1)).1):p:=h
theorem Jd(h:p:=by
 have hy:ys[s]? =none:=Tt Aa
 rw[hy]
 have hv:(cs++Array.replicate (fn.ntmps-cs.size) undef).getD s undef=undef:=by
  rw[Tq,Array.getElem?_append_right Aa]
  grind
 rw[hv]
 exact xK w G0):p:=h
theorem Je(h:p:=by
 rename_i hlt
 exact U1 λhn=>(h.2 (λm hm hq=>hn ⟨m,hm,hq⟩)) hlt):p:=h
theorem Jf(h:p:=by
 rcases QX.1 hz with hz|hz
 ·exact hD z hz
 ·rw[QW.1 hz];exact h):p:=h
theorem Jg(h:p:=by
 rename_i hk
 have hu:∃dd,P.underlying t=some dd/\aggB (some dd)=true:=by
  cases hp:P.underlying t with
  |none=>rw[hp]at hk;simp[kdOf]at hk
  |some dd=>rw[hp]at hk;cases dd<;>simp[kdOf]at hk;exact⟨_,rfl,rfl⟩
 obtain⟨dd,hu,ha⟩:=hu
 by_cases ht:t<T.n t
 ·exact nested (aggOf dd hu ha ht) h'
 ·have:Nat.blt t (T.n t)=false:=by rw[<-TU];exact λh=>ht (blt h)
  rw[this]at h'
  cases h'):p:=h
theorem Jh(h:p:=by
 have:k=(i+j)/2:=by omega
 subst this
 rw[hm2]at hy
 cases hy
 exact hc):p:=h
theorem Ji(h:p:=by
 repeat' ((conv=>whnf);first|refine zS ?_|refine zd (λhd=>?_) (λhd=>?_)|refine zl (λhlt=>?_) (λhlt=>?_)|refine zk (λhle=>?_) (λhle=>?_)|refine ze (λheq=>?_) (λheq=>?_)|refine zm (λx hx=>?_)|refine zb (λhbb=>?_) (λhbb=>?_))
 refine⟨(),?_,trivial⟩
 refine Le.trans (bZ6 (i:=3) (cs:=[I n]) rfl Ai ⟨trivial,trivial⟩) ?_
 exact zj):p:=h
theorem Jj(h:p:=by
 have hlen:l.length=D.length:=Ae
 have e:q=(F,(D.length:Int),0):=by rw[<-hq];rfl
 rw[e]
 repeat' ((conv=>whnf);first|omega|refine zS ?_|refine zm (λx hx=>?_)|refine zT ?_ ?_<;>intro _|fail)
 all_goals conv=>whnf
 refine⟨_,rfl,?_⟩
 rw[hm,hlen]
 (repeat' (first|exact trivial|refine And.intro ?_ ?_|with_reducible rfl|exact(λh=>Ah)|exact rfl));done):p:=h
theorem Jk(h:p:=by
 have h1:(iI s).length=(rings s).length:=Ic
 have h2:(rings s).length=D.length+R.length:=Ae
 exact RH.1 Aa):p:=h
theorem Jl(h:p:=by
 refine Mo.cond ?_ Mo.false
 unfold iE
 rename_i t0 x0 y0 z0
 split
 ·rename_i k g s hx _
  split
  ·split
   ·refine Mo.need λhp=>Mo.cond (Mo.ret _ (h1 (.a k _) (.inr ⟨AO,λp q hok=>?_⟩))) Mo.false
    have:=hok x0 Ak
    rw[hx]at this
    simp only[V.ok]at this
    exact⟨g,this⟩
   ·exact Mo.false
  ·exact Mo.false
 ·exact Mo.false):p:=h
theorem Jm(h:p:=by
 have e:l=[] :=by
  cases l with
  |nil=>rfl
  |cons x l=>exact absurd (hb Af) Ai
 subst e
 refine⟨⟨⟨Q9 Ac,rfl⟩,trivial⟩,rfl,λrs h=>V.noConfusion h⟩):p:=h
theorem Jo(h:p:=by
 repeat' ((conv=>whnf);first|omega|refine zU ?_|refine zd (λhd=>?_) (λhd=>?_)|refine zl (λhlt=>?_) (λhlt=>?_)|refine zk (λhle=>?_) (λhle=>?_)|refine ze (λheq=>?_) (λheq=>?_)|refine zm (λx hx=>?_)|refine zb (λhbb=>?_) (λhbb=>?_))
 all_goals conv=>whnf
 refine⟨(),?_,trivial⟩
 exact zj):p:=h
theorem Jp(h:p:=by
 simp only at h
 split at h
 ·rename_i hd
  obtain⟨vs,ms,h1,h2,h3⟩:=ih h
  refine⟨_,_,h1,?_,λσ' hs K' hk=>?_⟩
  ·intro m hm
   rcases Rh.1 hm with rfl|hm
   ·exact hd
   ·exact h2 m hm
  ·rw[qL]
   simp only
   have h0:σ'.ar (d+1000*j)=σ.ar (d+1000*j):=hs _ (TJ ..)
   simp_all
 ·exact h.elim):p:=h
theorem Jq(h:p:=by
 simp only
 have hr:=hrb s y hy
 cases hl:linear y with
 |false=>
  have:y.pure:=by
   unfold Rb at hr
   grind [linear]
  exact V.pure.ok this _ _
 |true=>
  simp only[Td,V.ok]
  have:∃en,jK ys 0 s=some en/\0<=en.gen:=by
   rw[gY]
   simp only[RI,TY,Uj,hy]
   cases y<;>simp_all [linear]
  exact this):p:=h
theorem Jr(h:p:=by
 have e:A=D:=Ae
 cases D with
 |nil=>exact absurd e hne
 |cons d D=>
  clear hp
  subst e
  have hlen:(d::D).length=D.length+1:=rfl
  repeat' ((conv=>whnf);first|omega|refine zS ?_|refine zT ?_ ?_<;>intro _|fail)
  all_goals conv=>whnf
  exact⟨⟨⟨rfl,rfl,rfl,rfl⟩,trivial⟩,rfl,λ_ h=>Ah⟩):p:=h
theorem Js(h:p:=by
 have e1:DB (lI c s)= .lit (.bool false):=Ry (λb=>V.lit (.bool b)) (dW.2 (λh=>h2 h.2.1))
 have e2:pO c s=11:=Q5 (λh=>h2 h.2)
 rw[e1,e2]
 repeat' ((conv=>whnf);first|(exfalso;contradiction)|refine zc m1 ?_|refine zc m2 ?_|refine zS ?_|refine zT ?_ ?_<;>intro _|fail)
 all_goals exact zE):p:=h
theorem Jt(h:p:=by
 have e1:DB (lI c s)= .lit (.bool false):=Ry (λb=>V.lit (.bool b)) (dW.2 (λh=>h1 h.1))
 have e2:pO c s=11:=Q5 (λh=>h1 h.1)
 rw[e1,e2]
 repeat' ((conv=>whnf);first|(exfalso;contradiction)|refine zc m1 ?_|refine zS ?_|refine zT ?_ ?_<;>intro _|fail)
 all_goals exact zE):p:=h
theorem Ju(h:p:=by
 rcases q4 b hb with⟨h,h'⟩|⟨k,h⟩
 ·rcases inv'.fzm b h with h2|h2
  ·exact .inl ⟨h2,h'⟩
  ·exact .inr h2
 ·exact .inr (inv'.mineA b k h)):p:=h
theorem Jv(h:p:=by
 repeat' ((conv=>whnf);first|omega|refine zS ?_|refine zl (λhlt=>?_) (λhlt=>?_))
 all_goals conv=>whnf
 refine⟨?_,rfl,λrs h=>V.noConfusion h⟩
 (repeat' (first|exact trivial|refine And.intro ?_ ?_|with_reducible rfl|exact(λh=>Ah)|exact rfl));done):p:=h
theorem Jw(h:p:=by
 rcases QX.1 hz with hz|hz
 ·exact hD z hz
 ·rw[QW.1 hz,hBE]
  exact hE):p:=h
theorem Jy(h:p:=by
 refine mW (σ:=σ.put p.dst v []) (λ_=>⟨b1.symm,a1.symm⟩) ?_ ?_ ?_ h2
 ·grind [bU]
 ·intro _ x hx
  rw[cX5 hx hp1]
  exact V.ok.imp (λj _=>Ih) (λj _ _=>Ii) _ (wf x)
 ·intro m _
  cases m with
  |b j cs=>show σ.bx j=_;rw[b1]
  |a j cs=>show σ.ar j=_;rw[a1]):p:=h
theorem Jz(h:p:=by
 repeat' ((conv=>whnf);first|(exfalso;contradiction)|refine jI (λheq=>?_) (λheq=>?_)|refine zh (h1) [100000] ?_|refine dS rfl rfl Au ?_|refine zS ?_|refine zT ?_ ?_<;>intro _|fail)
 all_goals conv=>whnf
 all_goals first|exact⟨_,rfl,zc1⟩|exact zc1):p:=h
theorem J3(h:p:=by
 rw[hy]at hx
 simp only[SK,Sv]at hx
 subst hx
 exact ih j c y hc hy (aH.1 hok y (QT hy)) hp):p:=h
theorem J4(h:p:=by
 repeat' ((conv=>whnf);first|omega|refine zS ?_|refine zT ?_ ?_<;>intro _|fail)
 all_goals conv=>whnf
 refine⟨i+1,?_,⟨Aa,λi' k' h1 h2 h3=>?_⟩,Aa⟩
 ·exact zj
 ·by_cases e:i'=i
  ·subst e
   exact hin k' h2 Aa
  ·exact hap i' k' Aa h2 h3):p:=h
theorem J5(h:p:=by
 refine mW (σ:=σ) (λhq=>EC) ?_ ?_ ?_ h1
 ·grind [bU]
 ·intro _ x hx
  exact V.ok.imp (λj _=>Ih) (λj _ _=>Ii) _ (wf x)
 ·intro m _
  cases m with
  |b j cs=>show(σ.put o.dst v' []).bx j=_;rw[b1]
  |a j cs=>show(σ.put o.dst v' []).ar j=_;rw[a1]):p:=h
theorem J6(h:p:=by
 have hlen':l.length=D.length:=CQ
 have e:l=D:=CQ
 rw[hb]
 rw[show l.foldl gU (x,x)=D.foldl gU (x,x) from Iu]
 generalize D.foldl gU (x,x)=b
 repeat' ((conv=>whnf);first|omega|refine zS ?_|refine zl (λhlt=>?_) (λhlt=>?_))
 all_goals exact zE):p:=h
theorem J7(h:p:=by
 obtain⟨_,z,hz,h⟩:=h
 rw[bC]at h
 simp only[V.ok]at hx
 cases hb:(Nat.beq (lenR z.cells) (T.row r.elem).size&&Nat.blt r.elem (T.n r.elem))with
 |false=>rw[hb]at h;exact h.elim
 |true=>
  rw[hb]at h
  obtain⟨rfl,_⟩:=h
  simp only[V.ok]
  exact el hx hz):p:=h
theorem J8(h:p:=by
 have e:gcdI x y=gcdI y (x.tmod y):=by rw[gcdI,dif_neg h0]
 repeat' ((conv=>whnf);first|refine uM h0 ?_|omega|refine zS ?_|refine zT ?_ ?_<;>intro _|fail)
 all_goals conv=>whnf
 refine⟨(y,x.tmod y),?_,by rw[<-hp,e],tmod_lt x y h0⟩
 exact zj):p:=h
theorem J9(h:p:=by
 rcases QX.1 hy with hy|hy
 ·exact hD y hy
 ·rw[QW.1 hy];exact h):p:=h
theorem JA(h:p:=by
 repeat' ((conv=>whnf);first|omega|refine jI (λheq=>?_) (λheq=>?_)|refine zS ?_|refine zT ?_ ?_<;>intro _|fail)
 all_goals conv=>whnf
 all_goals first
  |exact aA (aC (λh=>by have:=hr.1 h;grind))
  |exact aA (fQ CV)
  |exact aA (qV CV)):p:=h
theorem JB(h:p:=by
 rw[hy]at hx
 simp only[SK,Sv]at hx
 subst hx
 exact ih j c y hc hy (aH.1 hok y (QT hy))):p:=h
theorem JC(h:p:=by
 rename_i j g'
 cases hj:Nat.beq j k with
 |false=>exact h
 |true=>
  have ej:j=k:=SG hj
  subst ej
  cases hg:Nat.beq g' g with
  |false=>exact .bot _
  |true=>
   have eg:g'=g:=SG hg
   subst eg
   rw[h.oQ]
   exact hl):p:=h
theorem JD(h:p:=by
 have hr:kP true p q↔max p.lo q.lo<min p.hi q.hi:=by unfold kP;rw[QO rfl]
 generalize kP true p q=P at*
 repeat' ((conv=>whnf);first|refine zS ?_|fail)
 all_goals conv=>whnf
 all_goals exact aA (aS1 (by simp only[mG,lH];exact hr.symm))):p:=h
theorem JE(h:p:=by
 have hlen6:e.cuts.length=Q.length:=Ae
 have eQ:e.cuts=Q:=Ae
 rw[eQ]
 rw[eQ]at hm1
 repeat' ((conv=>whnf);first|omega|refine zS ?_|refine zT ?_ ?_<;>intro _|fail)
 all_goals conv=>whnf
 all_goals first|exact⟨_,rfl,zc1⟩|exact zc1):p:=h
theorem JF(h:p:=by
 have h1:b.length=D.length:=Aq
 have h2:=aO hp
 exfalso;omega):p:=h
theorem JG(h:p:=by
 have hlen:A.length=D.length:=Ae
 repeat' ((conv=>whnf);first|omega|refine zS ?_|refine zT ?_ ?_<;>intro _|fail)
 all_goals conv=>whnf
 refine aA (aC ?_)
 rw[hr,hp,Rn]
 rintro⟨x,hx,y,hy,hm⟩
 exact hD x hx y hy hm):p:=h
theorem JH(h:p:=by
 refine mW (σ:=σ) (λ_=>⟨b1,a1⟩) ?_ ?_ ?_ h1
 ·grind [bU]
 ·intro _ x hx
  exact V.ok.imp (λj _=>Ih) (λj _ _=>Ii) _ (wf x)
 ·intro m _
  cases m with
  |b j cs=>show _=σ.bx j;rw[b1]
  |a j cs=>show _=σ.ar j;rw[a1]):p:=h
theorem JI(h:p:=by
 refine⟨k+1,?_,⟨Aa,λj hj=>?_⟩,Aa⟩
 ·exact zj
 ·rcases RX j k with h|h
  ·exact hN j h
  ·have:j=k:=by omega
   subst this
   unfold dJ
   rw[Q5 ‹¬r.getD j z0=p›,eN,Q5 (λh=>absurd h.2 Ag)]):p:=h
theorem JJ(h:p:=by
 cases u with
 |slice b n c=>
  cases b with
  |none=>
   cases n with
   |zero=>
    cases c with
    |zero=>exact h []
    |succ c=>exact Det.false
   |succ n=>exact Det.false
  |some b=>exact Det.false
 |_=>exact Det.false):p:=h
theorem JK(h:p:=by
 refine⟨k+1,?_,⟨Aa,λj hj=>?_⟩,Aa⟩
 ·exact zj
 ·rcases RX j k with h|h
  ·exact hN j h
  ·have:j=k:=by omega
   subst this
   unfold dJ
   rw[Q5 ‹¬r.getD j z0=p›,eN,Q5 (λh=>h.1 Ag)]):p:=h
theorem JL(h:p:=by
 have e:k+1=r.length:=by omega
 rw[<-e]
 repeat' ((conv=>whnf);first|omega|refine zS ?_|refine zT ?_ ?_<;>intro _|fail)
 all_goals conv=>whnf
 exact⟨⟨⟨rfl,rfl,rfl,rfl⟩,trivial⟩,rfl,λ_ h=>Ah⟩):p:=h
theorem JM(h:p:=by
 repeat' ((conv=>whnf);first|omega|refine zh (h2) [100000] ?_|refine zh (h3) [100000] ?_|refine zS ?_|refine zT ?_ ?_<;>intro _|fail)
 all_goals conv=>whnf
 all_goals first|exact⟨_,rfl,zc1⟩|exact zc1):p:=h
theorem JO(h:p:=by
 rename_i e l hy
 cases hen'
 have hr:=hrb k _ hy
 obtain⟨q1,q2,q3⟩:=hr
 refine⟨q1,?_⟩
 rcases q3 with q|q
 ·exact .inl (q.keep hkeep q2 (λb hb=>⟨hb,rfl⟩))
 ·exact .inr ⟨q.1.aW hkeep Fe,q.2⟩):p:=h
theorem JP(h:p:=by
 refine⟨(D++[x],R),?_,⟨Ae,hgood heq⟩,Af⟩
 simp only[QU,QY]
 exact zj):p:=h
theorem JQ(h:p:=by
 have hlen2:e.rests.length=D.length:=CZ
 have eD:e.rests=D:=CZ
 rw[eD]
 repeat' ((conv=>whnf);first|omega|refine zS ?_|refine zm (λx hx=>?_)|refine zT ?_ ?_<;>intro _|fail)
 all_goals exact zE):p:=h
theorem JR(h:p:=by
 cases x with
 |lit u=>simp only[V.pure,V.ok]
 |sl l=>simp only[V.pure,V.ok]at hok⊢;exact hok
 |cap l=>simp only[V.pure,V.ok]at hok⊢;exact hok
 |fn g l=>exact fn_atom_pure h hok
 |_=>simp[V.atom]at h):p:=h
theorem JS(h:p:=by
 refine⟨(D++[x],R),?_,⟨Ae,hN heq⟩,Af⟩
 simp only[QU,QY]
 exact zj):p:=h
theorem JU(h:p:=by
 refine aL3 (w:=dif s.2 s.1) ?_ ?_ hw
 ·unfold xD at hd;unfold X at*;rw[Int.mul_comm,Int.mul_comm (dif t.2 t.1).2];omega
 ·have e:=xR hp lc
  unfold X
  show(p.1-t.1.1)*_- (p.2-t.1.2)*_=0
  grind):p:=h
theorem JV(h:p:=by
 rw[h1 hr]
 repeat' ((conv=>whnf);first|omega|refine zS ?_|refine zT ?_ ?_<;>intro _|fail)
 all_goals conv=>whnf
 exact⟨⟨⟨Q9 Ac,rfl⟩,trivial⟩,rfl,λ_ h=>Ah⟩):p:=h
theorem JW(h:p:=by
 simp only[V.ok]
 exact⟨_,upd_same _ _ _,QV _⟩):p:=h
theorem JY(h:p:=by
 refine dV ?_ ?_ ?_ ?_
 all_goals repeat' (first|exact trivial|refine And.intro ?_ ?_|with_reducible rfl|exact(λh=>Ah)|exact QV _|omega|exact rfl)
 all_goals (try rw[hll])):p:=h
theorem JZ(h:p:=by
 refine dV ?_ ?_ ?_ ?_
 all_goals repeat' (first|exact trivial|refine And.intro ?_ ?_|with_reducible rfl|exact(λh=>Ah)|exact QV _|omega|exact rfl)
 all_goals (try rw[hm1])):p:=h
theorem Ko(h:p:=by
 refine dV ?_ ?_ ?_ ?_
 all_goals repeat' (first|exact trivial|refine And.intro ?_ ?_|with_reducible rfl|exact(λh=>Ah)|exact QV _|omega|exact rfl)
 all_goals (try rw[hl])):p:=h
theorem Kq(h:p:=by
 rw[hms]
 simp only[V.ok]
 refine aH.2 λx hx=>?_
 obtain⟨i,hi⟩:=Rx hx
 have hlt2:i<vs'.toList.length:=BB
 exact(b4 i _ x (QS hlt2) hi).2):p:=h
theorem Kr(h:p:=by
 rw[d_else b hc]
 cases hO:G.O b with
 |ext=>exact .inl rfl
 |fz=>exact .inr (.inl rfl)
 |bx i=>exact .inl rfl
 |ar k=>
  by_cases h1:k∈ok
  ·exact .inr (.inl Iw)
  ·exact .inl Iw):p:=h
theorem Kt(h:p:=by
 rw[QO hk1]at hen
 cases hs:σ.ar k with
 |none=>rw[hs]at hen;cases hen
 |some en0=>
  rw[hs]at hen
  simp at hen
  subst hen
  exact .inr ⟨trivial,by simp only[bJ2,V.okL]⟩):p:=h
theorem Ku(h:p:=by
 refine Det.cond ?_ Det.false
 unfold iE
 split
 ·split
  ·split
   ·exact Det.need (Det.cond (Det.ret _ _) Det.false)
   ·exact Det.false
  ·exact Det.false
 ·exact Det.false):p:=h
theorem Kv(h:p:=by
 rcases QX.1 hv with hv|hv
 ·exact hD v hv
 ·rw[QW.1 hv];exact h):p:=h
theorem Kw(h:p:=by
 exfalso
 obtain⟨z1,z2,z3⟩:=hbx b i h2
 obtain⟨e1,_,cs0,hcs0⟩:=inv'.argb i (G.β i) Cj
 obtain⟨_,_,_,_,hO⟩:=inv'.box _ cs0 hcs0
 rw[e1,<-z3,h]at hO
 cases hO):p:=h
theorem Ky(h:p:=by
 unfold chN
 cases f.length with
 |zero=>exact⟨[],rfl⟩
 |succ k=>
  unfold chainR
  split
  ·exact⟨[],rfl⟩
  ·split
   ·exact⟨_,rfl⟩
   ·exact⟨[],rfl⟩):p:=h
theorem Kz(h:p:=by
 cases r with
 |nil=>exact absurd rfl hne
 |cons y l=>
  intro x hx
  obtain⟨q1,q2⟩:=fL2 l y
  rcases Rh.1 hx with rfl|hx
  ·exact q1
  ·exact q2 x hx):p:=h
theorem KA(h:p:=by
 have h2:σ.bx i=some xs:=by
  have h2:upd σ.bx d (some cs) i=some xs:=hi
  rwa [upd_ne _ _ e]at h2
 obtain⟨c',t',g1,g2,g3⟩:=inv.box i xs h2
 grind [upd_ne]):p:=h
theorem KC(h:p:=by
 have e:br.defects=D:=Ae
 have hlen:br.defects.length=D.length:=Iu
 simp only
 rw[e]
 generalize kH r D=X at*
 cases X with
 |nil=>
  exact zF
 |cons y X=>
  exact zF):p:=h
theorem KD(h:p:=by
 have hd:(d::D).length=D.length+1:=rfl
 repeat' ((conv=>whnf);first|omega|refine zS ?_|refine zl (λhlt=>?_) (λhlt=>?_))
 all_goals exact zE):p:=h
theorem KE(h:p:=by
 refine Le.trans (fB (k:=7) rfl (.inl rfl)) ?_
 show Le T _ (mkSt [(3,nilV),(4, .sl (A.map rgV)),(5,I 0)] [] [(7,⟨0, .frz,75,A.map rgV⟩)])
 exact zj):p:=h
theorem KF(h:p:=by refine⟨⟨⟨rfl,rfl,rfl,rfl⟩,trivial⟩,rfl,λrs h=>V.noConfusion h⟩):p:=h
theorem KG(h:p:=by
 split at h
 ·rename_i hd
  obtain⟨_,_,h4⟩:=dX h
  have:=hm _ Bo
  simp only[show σ'.ar d=none from this.trans hd]
  exact h
 ·exact h.elim):p:=h
theorem KH(h:p:=by
 have hP:¬P:=hex.2 (Tt Aa)
 have eP:DB P=V.lit (.bool false):=Ry (λb=>V.lit (.bool b)) (dW.2 hP)
 rw[eP]
 exact zF):p:=h
theorem KI(h:p:=by
 rw[hp]
 repeat' ((conv=>whnf);first|refine zS ?_|fail)
 all_goals conv=>whnf
 exact⟨⟨⟨rfl,rfl,rfl,rfl⟩,trivial⟩,rfl,λ_ h=>Ah⟩):p:=h
theorem KJ(h:p:=by
 refine he t ?_
 unfold Oper.looksAt
 rw[QX]
 left
 rw[List.mem_filterMap]
 exact⟨.tmp t,Uz.2 hx,rfl⟩):p:=h
theorem KL(h:p:=by
 obtain⟨_,z,hz,h⟩:=h
 rw[bC]at h
 simp only[V.ok]at hx
 obtain⟨_,h⟩:=aT h
 obtain⟨rfl,_⟩:=h
 simp only[V.ok]
 exact el hx hz):p:=h
theorem KN(h:p:=by
 rename_i e l hy
 cases hen'
 have hr:=hrb k _ hy
 obtain⟨q1,q2,q3⟩:=hr
 exact⟨q1,q3.keep hkeep q2 (λb hb=>⟨hb,rfl⟩)⟩):p:=h
theorem KO(h:p:=by
 by_cases e1:k'=k
 ·subst e1;exact⟨_,upd_same _ _ _,Uf (hno g' hh)⟩
 ·obtain⟨x,hx,hg⟩:=hh
  exact⟨x,EP,hg⟩):p:=h
theorem KP(h:p:=by
 have hh':cond (iC x) (iC y) false=true:=hh
 simp_all):p:=h
theorem KQ(h:p:=by
 repeat' ((conv=>whnf);first|omega|refine zc hso ?_|refine zS ?_|refine zT ?_ ?_<;>intro _|fail)
 all_goals exact zE):p:=h
theorem KR(h:p:=by
 rw[Q5 h]
 refine⟨⟨λh=>Ah,?_⟩,⟨?_,λh=>Gg⟩,⟨λh=>Ah,λh=>absurd h.2 hcr⟩⟩
 ·simp_all
 ·simp_all):p:=h
theorem KT(h:p:=by
 repeat' ((conv=>whnf);first|(exfalso;exact heq rfl)|refine zS ?_|refine ze (λheq=>?_) (λheq=>?_))
 all_goals exact zE):p:=h
theorem KU(h:p:=by
 unfold followN growN goneAt
 rw[Q5 Aa,Q5 Aa,QO (.inr hk),hx,hF]
 simp only[Q5 (show¬e.kind=8 from Aa)]):p:=h
theorem KW(h:p:=by
 rename_i e l hy
 cases hen'
 exact(hrb k _ hy).2.1):p:=h
theorem KX(h:p:=by
 split
 ·exact Mo.need λ_=>Mo.ret _ (one _ _)
 ·exact Mo.false):p:=h
theorem KY(h:p:=by
 split
 ·rename_i hd
  exact Mo.need λ_=>Mo.ret _ (one _ _ (λen he=>by rw[hd]at he;cases he))
 ·exact Mo.false):p:=h
theorem KZ(h:p:=by
 repeat' ((conv=>whnf);first|omega|refine zS ?_|refine zl (λhlt=>?_) (λhlt=>?_))
 all_goals exact zE):p:=h
theorem La(h:p:=by
 have:kidsL (x::l) n=kidsL l n:=by conv=>lhs;unfold kidsL
                                   rw[Q5 Aa]
 rw[this]):p:=h
theorem Lc(h:p:=by
 refine⟨k+1,?_,⟨Aa,λi hi=>?_⟩,Aa⟩
 ·exact zj
 ·by_cases e:i=k
  ·subst e;assumption
  ·exact ht i Aa):p:=h
theorem Ld(h:p:=by
 rcases hc.2.2 with h|h
 ·rw[h];rfl
 ·rw[Tv,iL]at h
  rw[RH.1 h]
  cases lend<;>rfl):p:=h
theorem Lh(h:p:=by
 split at h
 ·rename_i h0 _;cases h0
 ·exact h):p:=h
theorem Lj(h:p:=by
 repeat' ((conv=>whnf);first|omega|refine zS ?_|refine zT ?_ ?_<;>intro _|fail)
 all_goals exact zE):p:=h
theorem Ll(h:p:=by split<;>first|exact Det.need (Det.ret _ _)|exact Det.false):p:=h
theorem Lm(h:p:=by
 unfold followN growN goneAt
 rw[Q5 Aa,Q5 Aa,QO (.inl hk),hx,c1,c2]
 simp only[QO hk]
 rfl):p:=h
theorem Lp(h:p:=by
 unfold wf1 at hw
 simp only at hw
 split at hw
 ·rename_i en hen;exact⟨en,hen,hw⟩
 ·exact hw.elim):p:=h
theorem Lr(h:p:=by
 have hb:Nat.beq s j=false:=by rw[<-TU,Tv];exact e
 rw[hb,SX,ih]
 grind):p:=h
theorem Ls(h:p:=by
 cases m with
 |b j' cs'=>cases hbm;have h':σ.bx j=none:=h;rw[h']at hj;cases hj
 |a j' en=>exact hbm):p:=h
theorem Lu(h:p:=by
 rcases QX.1 hz with hz|hz
 ·exact hD z hz
 ·rw[QW.1 hz,hq];assumption):p:=h
theorem L6(h:p:=by
 rename_i t x y z
 obtain⟨h1,h2⟩:=aT h
 rw[h1,he x Ak,he y Ak,he z Ak]
 exact aH2 (ha AO x Ak) h2):p:=h
theorem L8(h:p:=by
 rcases QX.1 hz with hz|hz
 ·exact hE z hz
 ·rw[QW.1 hz]
  assumption):p:=h
theorem L9(h:p:=by
 have hO:=inv.ext_size h1
 exact⟨by rw[d_else b hne,hO], .inl (Ro inv.size h1),hsz⟩):p:=h
theorem LC(h:p:=by
 rw[hkd]at hokk
 refine .inr ⟨?_,hp⟩
 rcases hokk.2 with q|q
 ·exact own q
 ·exact slr q.1.wK):p:=h
theorem LD(h:p:=by
 refine Le.trans (Le.trans (fB (k:=10) rfl (.inl rfl)) (fB (k:=12) rfl (.inl rfl))) ?_
 exact zj):p:=h
theorem LG(h:p:=by
 obtain⟨_,_,rfl,⟨a,rfl,ra⟩,_,_,rfl,⟨b,rfl,rb⟩,rfl⟩:=h
 exact⟨(a,b),rfl,trivial⟩):p:=h
theorem LH(h:p:=by
 split
 ·rename_i hd
  exact Mo.need λhp=>Mo.ret _ (h1 (.a d _) (.inl hd))
 ·exact Mo.false):p:=h
theorem LJ(h:p:=by
 rcases QX.1 hz with hz|hz
 ·exact hE z hz
 ·rw[QW.1 hz];exact h):p:=h
theorem LK(h:p:=by
 rw[force_eq]at h
 obtain⟨h1,h2⟩:=inv.ev x
 exact .plain inv (by simp[execOp,ho]) h h1 h2):p:=h
theorem LM(h:p:=by
 rcases QX.1 h with h|h
 ·exact hE h
 ·exact heq (QW.1 h).symm):p:=h
theorem LP(h:p:=by
 simp only[h1,h2,Ul,Rh,or_self]
 show upd σ'.ar x _ k=_
 rw[upd_ne _ _ h2]):p:=h
theorem LQ(h:p:=by
 obtain⟨_,h'⟩:=aT h'
 generalize (T.row t).kd=kd at h'
 cases kd<;>exact(h':False).elim):p:=h
theorem LU(h:p:=by
 show(w.heap.push _)[q]? =_
 rw[Array.getElem?_push_lt hq,U0 hq]):p:=h
theorem LV(h:p:=by
 simp only
 cases σ.ar k with
 |none=>exact Det.false
 |some en=>exact Det.need (h _)):p:=h
theorem LW(h:p:=by exact⟨Ai,Ai,Ai,Ai,Ai,Ai,λ_=>rfl,λ_=>⟨hn,Ai,rfl⟩,λh=>absurd rfl h⟩):p:=h
theorem LX(h:p:=by
 rw[Sj,QS h]
 exact TA h):p:=h
theorem LY(h:p:=by
 rw[hkd]at hokk
 refine .inr ⟨?_,hp⟩
 simp only
 unfold gW
 rw[hkd]
 exact slr hokk):p:=h
theorem LZ(h:p:=by exact Mo.need (λhp=>Mo.idx λx=>Mo.bJ λl=>Mo.cond (Mo.ret _ hn) Mo.false)):p:=h
theorem Mc(h:p:=by rw[hA];exact jD (λq=>q1 ((cC3 hv heo).1 q)) (λq=>q2 ((fJ9 heo hv q1).1 q))):p:=h
theorem Me(h:p:=by
 simp only[Bool.true_eq_false,Ul,SQ,Rt]
 exact ih'):p:=h
theorem MB(h:p:=by exact Mo.need λ_=>Mo.idx λx=>Mo.bJ λl=>Mo.cond (Mo.ret _ rfl) Mo.false):p:=h
theorem MC(h:p:=by exact Det.need (Det.idx λx=>Det.bJ λl=>Det.cond (Det.ret _ _) Det.false)):p:=h
theorem MF(h:p:=by grind [Bool.or_eq_false_iff,Bool.and_eq_false_iff,Nat.ble_eq_true_of_le,clash]):p:=h
theorem MG(h:p:=by
 have hp:PosG gs γ q k:=⟨g,hg,x,y,hx,hy,hl,hk⟩
 rw[c_ok b k hb H7,hpos hp]):p:=h
theorem MH(h:p:=by
 obtain⟨dd,h1,h2,_⟩:=h.und
 rw[hk]at h2
 cases dd<;>simp[kdOf]at h2
 exact h1):p:=h
theorem MI(h:p:=by
 split
 ·refine⟨_,rfl,?_⟩
  unfold frzE;split<;>rfl
 ·exact⟨_,rfl,rfl⟩):p:=h
theorem MJ(h:p:=by
 rw[e1]
 refine .tup vs' vs (by rw[e2,b3]) λi c x hc hx=>(b4 i c x DL hx).1):p:=h
theorem MK(h:p:=by
 cases u with
 |none=>simp[kdOf]at h
 |some dd=>cases dd<;>simp[kdOf]at h;rfl):p:=h
theorem ML(h:p:=by
 cases m with
 |b j' cs'=>cases hbm;cases h;exact hi hi'
 |a j' en=>exact hbm):p:=h
theorem MN(h:p:=by
 refine Mo.need λ_=>?_
 split<;>first|exact Mo.ret _ hn|exact Mo.false):p:=h
theorem MO(h:p:=by exact Det.force λy=>ih _ _ (λvs ms K=>Φ _ _ K) λvs ms=>h _ _):p:=h
theorem MP(h:p:=by exact same hx0 (empty hx0 none 0 0 (QV _)) rfl (.inr trivial)):p:=h
theorem MQ(h:p:=by
 unfold followN growN
 rw[Q5 hk.1,Q5 hk.2.1,Q5 Aa,c1,c2]
 rfl):p:=h
theorem MR(h:p:=by
 obtain⟨l,e⟩:=ch_self (f:=f) (x:=x)
 exact⟨x,by rw[e];simp,rfl⟩):p:=h
theorem MS(h:p:=by rw[hA];exact rE (λq=>q1 ((cC3 hv heo).1 q)) ((fJ9 heo hv q1).2 q2)):p:=h
theorem MV(h:p:=by
 have hx:=hF _ (by rw[hV,QO ‹vb=p›])
 rw[hx]
 all_goals exact zE):p:=h
theorem MW(h:p:=by
 go_simp
 refine hK _ _ ?_;clear hK K
 refine RS (rs:=[6,9]) Ac Af ?_
 refine Rk rfl (λK hK=>?_) ?_
 ·refine step_lk rfl rfl rfl rfl (hlk _ Ap) ?_
  go_simp
  refine hK _ _ ?_;clear hK K
  refine RS (rs:=[9]) Ac Af ?_
  refine Rk rfl (λK hK=>?_) ?_
  ·go_simp
   refine hK _ _ ?_;clear hK K
   refine RS (rs:=[10]) Ac Af ?_
   refine Rk rfl (λK hK=>?_) ?_
   ·exact I8
   exact RP
  exact RP
 refine Rk rfl (λK hK=>?_) ?_
 ·go_simp
  refine hK _ _ ?_;clear hK K
  refine RS (rs:=[6]) Ac Af ?_
  refine Rk rfl (λK hK=>?_) ?_
  ·refine step_lk rfl rfl rfl rfl (hlk _ Ap) ?_
   go_simp
   refine hK _ _ ?_;clear hK K
   refine RS (rs:=[10]) Ac Af ?_
   refine Rk rfl (λK hK=>?_) ?_
   ·exact I8
   exact RP
  exact RP
 exact RP):p:=h
theorem MX(h:p:=by
 go_simp
 refine hK _ _ ?_;clear hK K
 refine RS (rs:=[6]) Ac Af ?_
 refine Rk rfl (λK hK=>?_) ?_
 ·refine step_lk rfl rfl rfl rfl (hlk _ Ap) ?_
  go_simp
  refine hK _ _ ?_;clear hK K
  refine RS (rs:=[10]) Ac Af ?_
  refine Rk rfl (λK hK=>?_) ?_
  ·exact I8
  exact RP
 exact RP):p:=h
theorem MZ(h:p:=by
 go_simp
 refine hK _ _ ?_;clear hK K
 refine RS (rs:=[10]) Ac Af ?_
 refine Rk rfl (λK hK=>?_) ?_
 ·exact I8
 exact RP):p:=h
theorem Na(h:p:=by
 obtain⟨v',W2,W3,hr,hx2,hr3,hown3,hnx3,hws3⟩:=hall
 refine step_ap rfl rfl rfl rfl hr ?_
 go_simp
 refine hK _ _ ?_;clear hK K
 refine RS (rs:=[2]) Ac Af ?_
 refine Rk rfl (λK hK=>?_) ?_
 ·go_simp
  refine hK _ _ ?_;clear hK K
  refine RS (rs:=[11]) Ac Af ?_
  refine Rk rfl (λK hK=>?_) ?_
  ·exact IA
  exact RP
 exact RP):p:=h
theorem Nb(h:p:=by
 have hlen2:B.length=E.length:=Aq
 have hBE:B=E:=Aq
 repeat' ((conv=>whnf);first|omega|refine zS ?_|refine zT ?_ ?_<;>intro _|fail)
 all_goals conv=>whnf
 refine⟨(D++[x],R),?_,⟨Ae,λz hz=>?_⟩,Af⟩
 ·exact IE
 ·exact Jw):p:=h
theorem Nc(h:p:=by
 refine mW (σ:=σ.put p.dst v []) (λhq=>E8) ?_ ?_ ?_ h2
 ·grind [bU]
 ·intro _ x hx
  have e:(σ.put p.dst v []).ev x=σ.ev x:=IV
  rw[e]
  exact V.ok.imp (λj _=>Ih) (λj _ _=>Ii) _ (wf x)
 ·intro m _
  cases m with
  |b j cs=>show σ.bx j=_;rw[b1]
  |a j cs=>show σ.ar j=_;rw[a1]):p:=h
theorem Nh(h:p:=by
 refine⟨(E++[m],S),?_,⟨Aq,λh=>?_⟩,Af⟩
 ·exact IE
 ·exact LM):p:=h
theorem Nj(h:p:=by
 simp only[QU,QY]
 exact zj):p:=h
theorem Nk(h:p:=by
 refine hK _ _ ?_;clear hK K
 refine RS (rs:=[2,6,9]) Ac Af ?_
 refine Rk rfl (λK hK=>?_) ?_
 ·exact MW
 refine Rk rfl (λK hK=>?_) ?_
 ·refine step_lk rfl rfl rfl rfl (hlk _ Ap) ?_
  go_simp
  refine hK _ _ ?_;clear hK K
  refine RS (rs:=[2,9]) Ac Af ?_
  refine Rk rfl (λK hK=>?_) ?_
  ·go_simp
   refine hK _ _ ?_;clear hK K
   refine RS (rs:=[9]) Ac Af ?_
   refine Rk rfl (λK hK=>?_) ?_
   ·exact MZ
   exact RP
  refine Rk rfl (λK hK=>?_) ?_
  ·go_simp
   refine hK _ _ ?_;clear hK K
   refine RS (rs:=[2,10]) Ac Af ?_
   refine Rk rfl (λK hK=>?_) ?_
   ·exact MZ
   refine Rk rfl (λK hK=>?_) ?_
   ·exact Na
   exact RP
  exact RP
 refine Rk rfl (λK hK=>?_) ?_
 ·go_simp
  refine hK _ _ ?_;clear hK K
  refine RS (rs:=[2,6]) Ac Af ?_
  refine Rk rfl (λK hK=>?_) ?_
  ·exact MX
  refine Rk rfl (λK hK=>?_) ?_
  ·refine step_lk rfl rfl rfl rfl (hlk _ Ap) ?_
   go_simp
   refine hK _ _ ?_;clear hK K
   refine RS (rs:=[2,10]) Ac Af ?_
   refine Rk rfl (λK hK=>?_) ?_
   ·exact MZ
   refine Rk rfl (λK hK=>?_) ?_
   ·exact Na
   exact RP
  exact RP
 exact RP):p:=h
theorem Nl(h:p:=by
 repeat' ((conv=>whnf);first|omega|refine zc g2 ?_|refine zc g3 ?_|refine zS ?_|refine zl (λhlt=>?_) (λhlt=>?_)|refine ze (λheq=>?_) (λheq=>?_))
 all_goals exact zE):p:=h
theorem Np(h:p:=by
 rw[e1]
 generalize bs sid s.stocks e.id=k at*
 repeat' ((conv=>whnf);first|omega|(exfalso;contradiction)|refine jI (λheq=>?_) (λheq=>?_)|refine aB (l:=s.stocks) Aa ?_|refine gK (l:=s.stocks) hm Aa ?_|refine zc g2 ?_|refine zc g3 ?_|refine zS ?_|refine zl (λhlt=>?_) (λhlt=>?_)|refine ze (λheq=>?_) (λheq=>?_))
 all_goals exact zE):p:=h
theorem Nq(h:p:=by
 conv=>whnf
 refine aA (le_dec ?_)
 have h:=iO (Q:=Q) (l:=l)
 unfold fstI
 constructor
 ·intro h0
  split at h0
  ·exact Je
  ·omega
 ·rintro⟨m,hm,hq⟩
  split
  ·omega
  ·rename_i hlt
   exact(h.1 hlt m hm hq).elim):p:=h
theorem Nr(h:p:=by
 repeat' ((conv=>whnf);first|omega|refine zS ?_|refine zm (λx hx=>?_)|refine zT ?_ ?_<;>intro _|fail)
 all_goals exact zE):p:=h
theorem Ns(h:p:=by
 refine hK _ _ ?_;clear hK K
 refine RS (rs:=[2,10]) Ac Af ?_
 refine Rk rfl (λK hK=>?_) ?_
 ·exact MZ
 refine Rk rfl (λK hK=>?_) ?_
 ·exact Na
 exact RP):p:=h
theorem Nu(h:p:=by
 have hA2:=hcp2 (w.drew.setRow b X1) _ (n+1-i) 3 (c-i) (TB w.drew b cur X1 _ _ hb) Dj rfl Aa
 try simp only[Uo]at hA2
 go_wp2_with (first|simp only[hA2,Rt] |(at_builtin;refine wpList_copy_runI _ rfl _ _ _ _ rfl _ _ rfl rfl hA2 ?_))
 go_ret
 first|exact⟨rfl,rfl⟩|exact⟨rfl,Be⟩):p:=h
theorem Nv(h:p:=by
 clear neg pos
 repeat' ((conv=>whnf);first|omega|refine zc (fF s.2 s.1) ?_|refine zc (fF t.2 t.1) ?_|refine zc (fF t.1 s.1) ?_|refine zc hA ?_|refine zc hB ?_|refine zc g1 ?_|refine zc g2 ?_|refine uM hg ?_|refine bW7 ?_|refine zS ?_|refine zl (λhlt=>?_) (λhlt=>?_)|refine ze (λheq=>?_) (λheq=>?_))
 all_goals conv=>whnf
 all_goals first
  |(rw[l0 Aa];refine⟨?_,rfl,λrs h=>V.noConfusion h⟩;(repeat' (first|exact trivial|refine And.intro ?_ ?_|with_reducible rfl|exact(λh=>Ah)|exact rfl));done)
  |(rw[l1 Aa,dI2 Aa];refine⟨?_,rfl,λrs h=>V.noConfusion h⟩;(repeat' (first|exact trivial|refine And.intro ?_ ?_|with_reducible rfl|exact(λh=>Ah)|exact rfl));done)
  |(rw[l1 Aa,dD5 Aa];refine⟨?_,rfl,λrs h=>V.noConfusion h⟩;(repeat' (first|exact trivial|refine And.intro ?_ ?_|with_reducible rfl|exact(λh=>Ah)|exact rfl));done)):p:=h
theorem Nw(h:p:=by
 rw[hfl,hfl]at hV
 repeat' ((conv=>whnf);first|omega|refine cC0 [(8,999),(9,999),(32,999),(33,999),(34,999),(36,999),(41,999),(39,999),(42,999),(44,999),(47,999),(49,999),(50,999),(10,10),(11,11),(12,12)] Ad Ac ?_|refine uM Aa ?_|refine aB (l:=r) BP ?_|refine aB (l:=r) (by rw[kS (a:=k+2) (by omega)];omega) ?_|refine aB (l:=r) Aa ?_|(refine sW (k:=(k+1)% r.length) (kS Aa) hm1 ?_;rw[hvb])|(refine sW (k:=(k+2)% r.length) (kS Aa) hm2 ?_;rw[hvc])|(refine aU3 (k:=k) Aa hkr ?_;rw[hva])|refine aT1 ?_|refine aB4 (λhv=>?_) (λhv=>?_)|refine zc c1 ?_|refine zc c2 ?_|refine zc c3 ?_|refine zc c4 ?_|refine zc c5 ?_|refine zS ?_|refine zT ?_ ?_<;>intro _|fail)
 all_goals conv=>whnf
 ·exact MV
 ·refine⟨k+1,?_,⟨Aa,hN1 Ee⟩,Aa⟩
  exact zj
 ·have hx:=hF _ Eb
  rw[hx]
  all_goals exact zE
 ·refine⟨k+1,?_,⟨Aa,hN1 D9⟩,Aa⟩
  exact zj):p:=h
theorem Ny(h:p:=by
 simp only[QU,QY,Rq,RF,SC]
 exact zj):p:=h
theorem Nz(h:p:=by
 generalize bs sid s.stocks e.id=k at*
 generalize (∃m∈s.stocks,sid m=e.id)=P at*
 repeat' ((conv=>whnf);first|(exfalso;contradiction)|refine jI (λheq=>?_) (λheq=>?_)|refine zh (h1) [100000] ?_|refine dS rfl rfl Au ?_|refine zS ?_|refine zT ?_ ?_<;>intro _|fail)
 all_goals conv=>whnf
 all_goals first|exact⟨_,rfl,zc1⟩|exact zc1):p:=h
theorem N7(h:p:=by
 refine hK _ _ ?_;clear hK K
 refine RS (rs:=[9]) Ac Af ?_
 refine Rk rfl (λK hK=>?_) ?_
 ·exact MZ
 exact RP):p:=h
theorem N8(h:p:=by
 have hA:=el.room (vc:=vc) hroom hb hv hbs hvs h2
 go_enter fF,nF
 go_wp2_with (at_builtin;refine Lib.wpList_append_run _ rfl _ _ _ _ rfl _ _ rfl rfl _ _ (hA _) ?_)
 all_goals (go_ret;first|exact⟨rfl,rfl⟩|exact⟨rfl,Be⟩)):p:=h
theorem N9(h:p:=by
 have h1:=find_spec s e.id hs
 generalize bs sid s.stocks e.id=k at*
 generalize (∃m∈s.stocks,sid m=e.id)=P at*
 repeat' ((conv=>whnf);first|(exfalso;contradiction)|refine zh (h1) [100000] ?_|refine zS ?_|refine zT ?_ ?_<;>intro _|fail)
 all_goals conv=>whnf
 all_goals first|exact⟨_,rfl,zc1⟩|exact zc1):p:=h
theorem NC(h:p:=by
 have hr2:P↔¬(s1\/s2)/\0<c:=GI
 repeat' ((conv=>whnf);first|(exfalso;revert hq;decide)|refine gC4 (λhq=>?_) (λhq=>?_)|refine zc h1 ?_|refine zc h2 ?_|refine zc h3 ?_|refine zc h4 ?_|refine zc h5 ?_|refine zS ?_|refine zT ?_ ?_<;>intro _|fail)
 all_goals conv=>whnf
 all_goals refine aA ?_
 all_goals first
  |exact aC (λh=>absurd (hr2.1 h).1 (λq=>q (.inl Ag)))
  |exact aC (λh=>absurd (hr2.1 h).1 (λq=>q (.inr Ag)))
  |exact aC (λh=>(hr2.1 h).2)
  |exact fE (hr2.2 ⟨λq=>q.elim Ag Ag,trivial⟩)
  |(refine aS1 ⟨λh=>hr2.2 ⟨λq=>q.elim Ag Ag,h⟩,λh=>(hr2.1 h).2⟩)):p:=h
theorem ND(h:p:=by
 subst e
 repeat' ((conv=>whnf);first|omega|refine bW8 [(2,2),(3,3),(4,4)] [(42,[88888])] Ad Aj ?_|refine cC0 [(2,2),(3,3),(25,2),(33,2),(38,2)] Ad Aj ?_|refine iH rfl (.inl rfl) rfl (Q9 rfl) (fL0 (f:=aZ) (n:=9) (λ_=>rfl) s.pieces _) CP ?_|refine iH rfl (.inl rfl) rfl (Q9 rfl) (dA rfl) CU ?_|refine iH rfl (.inl rfl) rfl (Q9 rfl) (f_dt (f:=aZ) (n:=9) (λ_=>rfl) s.pieces _ _) AA ?_|refine fU ⟨Aa,Aa,Aa, .inr (fF6 (f:=aZ) (n:=9) (λ_=>rfl) s.pieces)⟩ ?_|refine zS ?_|refine zT ?_ ?_<;>intro _|fail)
 all_goals exact zE):p:=h
theorem NE(h:p:=by
 refine⟨?_,rfl,λrs h=>V.noConfusion h⟩
 (repeat' (first|exact trivial|refine And.intro ?_ ?_|with_reducible rfl|exact(λh=>Ah)|exact rfl));done):p:=h
theorem NF(h:p:=by
 repeat' ((conv=>whnf);first|(exfalso;revert hq;decide)|refine gC4 (λhq=>?_) (λhq=>?_)|refine zc h1 ?_|refine zc h2 ?_|refine zc h3 ?_|refine zc h4 ?_|refine zS ?_|refine zT ?_ ?_<;>intro _|fail)
 all_goals conv=>whnf
 all_goals refine aA ?_
 all_goals first
  |exact aC (λh=>absurd (hr2.1 h).1 (λq=>q (.inl Ag)))
  |exact aC (λh=>absurd (hr2.1 h).1 (λq=>q (.inr Ag)))
  |exact aC (λh=>(hr2.1 h).2)
  |exact fE (hr2.2 ⟨λq=>q.elim Ag Ag,trivial⟩)
  |(refine aS1 ⟨λh=>hr2.2 ⟨λq=>q.elim Ag Ag,h⟩,λh=>(hr2.1 h).2⟩)):p:=h
theorem NG(h:p:=by
 refine⟨_,rfl,⟨?_,Ry (λb=>Value.bool b) (fE hP),trivial⟩,rfl⟩
 (repeat' (first|exact trivial|refine And.intro ?_ ?_|with_reducible rfl|exact(λh=>Ah)|exact rfl));done):p:=h
theorem NH(h:p:=by
 refine⟨_,rfl,⟨?_,Ry (λb=>Value.bool b) (aC hP),trivial⟩,rfl⟩
 (repeat' (first|exact trivial|refine And.intro ?_ ?_|with_reducible rfl|exact(λh=>Ah)|exact rfl));done):p:=h
theorem NI(h:p:=by
 refine dV ?_ ?_ ?_ ?_
 all_goals repeat' (first|exact trivial|refine And.intro ?_ ?_|with_reducible rfl|exact(λh=>Ah)|exact QV _|omega|exact rfl)
 all_goals (try rw[hl])):p:=h
theorem NJ(h:p:=by
 have h1:=find_spec s e.id hs
 have hkl:=(QR.1 hm).1
 have hll:(s.stocks.map aQ).length=s.stocks.length:=Af
 have hl:=hs.ls
 generalize bs sid s.stocks e.id=k at*
 generalize (∃m∈s.stocks,sid m=e.id)=P at*
 rw[cP1]
 repeat' ((conv=>whnf);first|(exfalso;contradiction)|refine jI (λheq=>?_) (λheq=>?_)|refine zh (h1) [100000] ?_|refine dS rfl rfl Au ?_|refine dB8 rfl rfl ?_|refine zS ?_|refine zT ?_ ?_<;>intro _|fail)
 all_goals conv=>whnf
 all_goals first|exact⟨_,rfl,zc1⟩|exact zc1):p:=h
theorem NK(h:p:=by
 repeat' ((conv=>whnf);first|refine zg ?_|refine zi ?_|refine zw ?_|refine zy ?_|refine zo ?_|refine zn ?_|refine zm (λx hx=>?_)|refine zv ?_|refine zz (λ_=>?_) λ_=>?_|refine zb (λ_=>?_) λ_=>?_|refine zr ?_|refine zq ?_)
 all_goals exact zE):p:=h
theorem NM(h:p:=by
 cases e with
 |normal=>exact⟨.inl rfl,fin .normal σ a' w' G' hq inv'⟩
 |ret=>exact⟨.inr rfl,fin .ret σ a' w' G' hq inv'⟩
 |exit id=>exact(hq:False).elim
 |goto l=>exact(hq:False).elim
 |panic c=>exact(hq:False).elim
 |outgrown=>exact(hq:False).elim):p:=h
theorem NP(h:p:=by
 refine⟨(D++[x],R,S),?_,⟨Ae,?_⟩,Af⟩
 ·exact IE
 ·have hxy:x=y:=by assumption
  rw[hq,hxy];simp):p:=h
theorem NQ(h:p:=by
 repeat' ((conv=>whnf);first|omega|refine iH rfl (.inl rfl) rfl (Q9 rfl) (fF6 (f:=nodeV) (n:=9) (λ_=>rfl) f) Bq ?_|refine zS ?_|refine zm (λx hx=>?_)|refine zT ?_ ?_<;>intro _|fail)
 all_goals exact zE):p:=h
theorem NR(h:p:=by
 rw[hb]
 unfold plus at g6⊢
 generalize gG m=z at*
 repeat' ((conv=>whnf);first|omega|(exfalso;contradiction)|refine eZ1 Aj ?_|refine jI (λheq=>?_) (λheq=>?_)|refine aB (l:=s.stocks) Aa ?_|refine gK (l:=s.stocks) hm Aa ?_|refine zc g2 ?_|refine zc g3 ?_|refine zc g4 ?_|refine zc g5 ?_|refine zc g6 ?_|refine zS ?_|refine zl (λhlt=>?_) (λhlt=>?_)|refine ze (λheq=>?_) (λheq=>?_))
 all_goals exact zE):p:=h
theorem NS(h:p:=by
 simp only
 rw[eR]
 repeat' ((conv=>whnf);first|omega|(exfalso;contradiction)|refine jI (λheq=>?_) (λheq=>?_)|refine aB (l:=s.stocks) Aa ?_|refine dS rfl rfl Au ?_|refine dB8 rfl rfl ?_|refine gK (l:=s.stocks) hm Aa ?_|refine zc g2 ?_|refine zc g3 ?_|refine zS ?_|refine zl (λhlt=>?_) (λhlt=>?_)|refine ze (λheq=>?_) (λheq=>?_))
 all_goals exact zE):p:=h
theorem NT(h:p:=by
 refine hK _ _ ?_;clear hK K
 refine RS (rs:=[5,9]) Ac Af ?_
 refine Rk rfl (λK hK=>?_) ?_
 ·exact MW
 refine Rk rfl (λK hK=>?_) ?_
 ·go_simp
  refine hK _ _ ?_;clear hK K
  refine RS (rs:=[5]) Ac Af ?_
  refine Rk rfl (λK hK=>?_) ?_
  ·exact MX
  exact RP
 exact RP):p:=h
theorem NU(h:p:=by
 repeat' ((conv=>whnf);first|omega|refine zS ?_|refine zl (λhlt=>?_) (λhlt=>?_))
 all_goals exact zE):p:=h
theorem NV(h:p:=by
 repeat' ((conv=>whnf);first|omega|refine zh (g1) [100000] ?_|refine bW8 [] [(201,[88888])] trivial Ac ?_|refine zh (xX g2) [] ?_|refine zS ?_|refine zT ?_ ?_<;>intro _|fail)
 all_goals conv=>whnf
 refine⟨(Q++[c],R),?_,Ae,Af⟩
 simp only[stA3,stB3,hsn,QU,QY]
 exact zj):p:=h
theorem NW(h:p:=by
 have h1:=aE0 e he
 have h2:=aV4 s.stocks hs.ls
 have h3:=aV7 s.pieces hs.lp
 have h4:=aT5 s.used hs.lu
 repeat' ((conv=>whnf);first|(exfalso;contradiction)|refine eV6 (v:= .fn f []) (Ry (λo=>Option.getD o _) hg) ?_|refine zh (hm) [6] ?_|refine zS ?_|refine zT ?_ ?_<;>intro _|fail)
 all_goals exact zE):p:=h
theorem NY(h:p:=by
 refine dV ?_ ?_ ?_ ?_
 all_goals repeat' (first|exact trivial|refine And.intro ?_ ?_|with_reducible rfl|exact(λh=>Ah)|exact QV _|omega|exact rfl)):p:=h
theorem NZ(h:p:=by
 rw[hb9]
 repeat' ((conv=>whnf);first|omega|(exfalso;contradiction)|refine eZ1 Aj ?_|refine cC0 [(8,8),(9,9),(5,5),(142,8),(145,9),(146,9),(148,5),(151,9),(152,9)] Ad Aj ?_|refine zc g2 ?_|refine zc gi ?_|refine zS ?_|refine zm (λx hx=>?_)|refine zT ?_ ?_<;>intro _|fail)
 all_goals exact zE):p:=h
theorem Oa(h:p:=by
 repeat' ((conv=>whnf);first|omega|refine zS ?_|refine zT ?_ ?_<;>intro _|fail)
 all_goals exact zE):p:=h
theorem Ob(h:p:=by
 rw[e1]
 generalize bs Piece.id s.pieces e.id=k at*
 repeat' ((conv=>whnf);first|omega|refine aB (l:=s.pieces) Aa ?_|refine gK (l:=s.pieces) hm Aa ?_|refine zc g2 ?_|refine zc g3 ?_|refine zS ?_|refine zl (λhlt=>?_) (λhlt=>?_)|refine ze (λheq=>?_) (λheq=>?_))
 all_goals exact zE):p:=h
theorem Oc(h:p:=by
 have slr:Rv w G (G.av k en0.gen) (.sl en0.l)->Rv w1 G2 (G.av k en0.gen) (.sl en0.l):=λh=>h.aW hkeep Az
 subst hen
 unfold gW at hokk
 unfold frzE
 cases hkd:en0.kind with
 |own=>rw[hkd]at hokk;exact .inr ⟨own hokk.2,hp⟩
 |ap=>exact LC
 |frz=>exact LY
 |dead=>exact .inr ⟨trivial,trivial⟩):p:=h
theorem Oe(h:p:=by
 repeat' ((conv=>whnf);first|omega|refine zS ?_|refine zd (λhd=>?_) (λhd=>?_)|refine zl (λhlt=>?_) (λhlt=>?_)|refine zk (λhle=>?_) (λhle=>?_)|refine ze (λheq=>?_) (λheq=>?_)|refine zm (λx hx=>?_)|refine zb (λhbb=>?_) (λhbb=>?_))
 all_goals exact zE):p:=h
theorem Og(h:p:=by
 refine⟨(D++[h],R),?_,Ae,Af⟩
 show Le T _ (fQ8 s (D++[h]).length (srtH ((D++[h]).map wL)))
 rw[hsn,hins k hk',QU,QY]
 unfold fQ8
 rw[gC2 (X:=List.take k (y::Y)++x::List.drop k (y::Y)) Af,fI6]
 refine Le.trans (fB (k:=44) rfl (.inl rfl)) ?_
 exact zj):p:=h
theorem Oh(h:p:=by
 rw[<-hs0,Tm]at hw
 have e:(((whS fG s 0:Nat):Int)=(s.size:Int))↔whS fG s 0=s.size:=Aa
 show(((whS fG s 0:Nat):Int)=(s.size:Int))↔_
 rw[e,hw]
 constructor
 ·intro h
  exact⟨Aa,hsm,hd,λi hi=>dH.1 (h i (RI _) Aa)⟩
 ·intro h j _ hj
  exact dH.2 (h.2.2.2 j Aa)):p:=h
theorem Oi(h:p:=by
 cases hO:G.O b with
 |ext=>exact absurd hO hb
 |fz=>exact .inl ⟨rfl,rfl⟩
 |bx i=>exact absurd hO (h3 b i)
 |ar j=>exact .inr (.inr ⟨j,rfl⟩)):p:=h
theorem Oj(h:p:=by
 have hdef:∀(σ:St) K,oI place σ (p::r) cs K=(match place p.1 with
  |some (o,z)=>cond (Nat.beq (lenR (σ.ev p.2).cells) z&&Nat.ble (o+z) (lenR cs)&&allR V.one (σ.ev p.2).cells) (oI place σ r (splice cs o (σ.ev p.2).cells) K) False
  |none=>False):=λσ K=>rfl
 grind):p:=h
theorem Ol(h:p:=by
 repeat' ((conv=>whnf);first|(refine aS5 (h1) true ?_ rfl ?_;focus ((repeat' (first|exact trivial|refine And.intro ?_ ?_|with_reducible rfl|exact(λh=>Ah)|exact rfl));done))|refine zS ?_|fail)
 all_goals conv=>whnf
 all_goals first|exact⟨_,rfl,zc1⟩|exact zc1):p:=h
theorem Om(h:p:=by
 repeat' ((conv=>whnf);first|(exfalso;contradiction)|refine zc h1 ?_|refine zS ?_|refine zT ?_ ?_<;>intro _|fail)
 all_goals exact zE):p:=h
theorem Oo(h:p:=by refine⟨_,rfl,⟨⟨Q9 Ac,rfl⟩,rfl,trivial⟩,rfl⟩):p:=h
theorem Oq(h:p:=by exact⟨sG hs he hf Dq q1,λh=>(q2 h).mono Aa⟩):p:=h
theorem Ot(h:p:=by
 repeat' ((conv=>whnf);first|omega|(exfalso;contradiction)|refine bW8 [] [(32,[88888])] trivial Aj ?_|refine zS ?_|refine zm (λx hx=>?_)|refine zT ?_ ?_<;>intro _|fail)
 all_goals conv=>whnf
 all_goals first|exact⟨_,rfl,zc1⟩|exact zc1):p:=h
theorem Ou(h:p:=by
 repeat' ((conv=>whnf);first|refine zg ?_|refine zw ?_|refine zr ?_)
 all_goals exact zE):p:=h
theorem Ov(h:p:=by
 cases xs with
 |nil=>exact⟨rfl,λi x y hx=>Ir⟩
 |cons x r=>exact(h:False).elim):p:=h
theorem Ox(h:p:=by
 generalize (a.defects=b.defects)=p2 at*
 repeat' ((conv=>whnf);first|refine jI (λheq=>?_) (λheq=>?_)|refine zS ?_|refine zT ?_ ?_<;>intro _|fail)
 all_goals conv=>whnf
 all_goals first
  |exact aA (fQ CV)
  |exact aA (aC CV)):p:=h
theorem Oy(h:p:=by
 have:(none:Option (List V))=some cs':=hi
 cases this):p:=h
theorem Oz(h:p:=by
 unfold Com
 rw[gZ hs,gZ ht]
 have k1:=dE8 hw la lb hp
 have k2:=dE8 hw lc ld hp
 constructor
 ·rintro⟨q1,q2⟩
  exact⟨k1.1 q1.1,k2.1 q2.1⟩
 ·rintro⟨q1,q2⟩
  exact⟨⟨k1.2 q1,hp⟩,⟨k2.2 q2,lt' p hp⟩⟩):p:=h
theorem O0(h:p:=by
 repeat' ((conv=>whnf);first|refine zS ?_|refine zT ?_ ?_<;>intro _|fail)
 all_goals conv=>whnf
 all_goals first
  |exact aA (le_dec ⟨λh=>⟨Aa,Aa⟩,λh=>h.2⟩)
  |exact aA (aC (λh=>by have:=h.1;omega))):p:=h
theorem O1(h:p:=by
 repeat' ((conv=>whnf);first|omega|(exfalso;contradiction)|refine zS ?_|refine zm (λx hx=>?_)|refine zT ?_ ?_<;>intro _|fail)
 all_goals conv=>whnf
 all_goals first|exact⟨_,rfl,zc1⟩|exact zc1):p:=h
theorem O3(h:p:=by
 repeat' ((conv=>whnf);first|(exfalso;contradiction)|omega|refine cC5 ?_|refine cA4 (a:=r.box) (b:=bx0) (λhv=>?_) (λhv=>?_)|refine zS ?_|refine zT ?_ ?_<;>intro _|fail)
 all_goals exact zE):p:=h
theorem O4(h:p:=by
 repeat' ((conv=>whnf);first|omega|refine zS ?_|refine zl (λhlt=>?_) (λhlt=>?_))
 all_goals conv=>whnf
 exact⟨⟨⟨Q9 Ac,rfl⟩,trivial⟩,rfl,λrs h=>V.noConfusion h⟩):p:=h
theorem O5(h:p:=by
 repeat' ((conv=>whnf);first|omega|refine zS ?_|refine zl (λhlt=>?_) (λhlt=>?_)|refine ze (λheq=>?_) (λheq=>?_))
 all_goals conv=>whnf
 ·exact aG (hS heq).symm
 ·exact JS):p:=h
theorem O6(h:p:=by
 repeat' ((conv=>whnf);first|refine zc g0 ?_|refine zc g1 ?_|refine zS ?_|fail)
 all_goals exact zE):p:=h
theorem O7(h:p:=by
 show Rv w G0 ((cs++Array.replicate (fn.ntmps-cs.size) undef).getD s undef) (pF ys 0 s)
 rw[lY]
 simp only[RI,TY,Uj]
 by_cases hs:s<cs.size
 ·exact IX
 ·exact Jd):p:=h
theorem O8(h:p:=by
 rw[yN Ar Ar Ar,tC]
 simp only
 have:=uY (x:=c-a) (y:=d-b) Aa Aa
 grind):p:=h
theorem O9(h:p:=by
 refine dV ?_ ?_ ?_ ?_
 all_goals repeat' (first|exact trivial|refine And.intro ?_ ?_|with_reducible rfl|exact(λh=>Ah)|exact QV _|omega|exact rfl)
 all_goals (try rw[hm1])):p:=h
theorem OA(h:p:=by
 repeat' ((conv=>whnf);first|refine zS ?_|fail)
 all_goals exact zE):p:=h
theorem OB(h:p:=by
 rw[e1,e2]
 repeat' ((conv=>whnf);first|(exfalso;contradiction)|refine zc m1 ?_|refine zc m2 ?_|refine zc m3 ?_|refine zS ?_|refine zT ?_ ?_<;>intro _|fail)
 all_goals exact zE):p:=h
theorem OC(h:p:=by
 have hne1:vs.length≠1:=λh1=>by
  grind [UC]
 cases vs with
 |nil=>rfl
 |cons v rr=>
  cases rr with
  |nil=>exact absurd rfl hne1
  |cons u rr=>rfl):p:=h
theorem OD(h:p:=by
 have h1:opVC T σ d o.op (Is v ms):=by
  simp_all
 obtain⟨v',w1,v1,ms1,G',hr,⟨rfl,rfl⟩,inv',hv,hvo⟩:=xQ hT inv o h1
 exact⟨_,_,_,Inv.put' _ inv' hd hv hvo⟩):p:=h
theorem OE(h:p:=by
 repeat' ((conv=>whnf);first|omega|refine zS ?_|refine zT ?_ ?_<;>intro _|fail)
 all_goals conv=>whnf
 all_goals first|exact⟨_,rfl,zc1⟩|exact zc1):p:=h
theorem OG(h:p:=by
 refine cA7 ?_
 conv=>whnf
 exact⟨[],rfl,⟨⟨rfl,rfl,rfl,rfl⟩,trivial⟩,rfl⟩):p:=h
theorem OH(h:p:=by
 repeat' ((conv=>whnf);first|refine zc g0 ?_|refine zS ?_|fail)
 all_goals exact zE):p:=h
theorem OI(h:p:=by
 have hen':jK ys 0 k=some en:=hen
 rw[gY]at hen'
 simp only[RI,TY,Uj]at hen'
 split at hen'
 ·exact KN
 ·exact JO
 ·cases hen'):p:=h
theorem OJ(h:p:=by
 have hen':jK ys 0 k=some en:=hen
 rw[gY]at hen'
 simp only[RI,TY,Uj]at hen'
 split at hen'
 ·exact KW
 ·exact KW
 ·cases hen'):p:=h
theorem OL(h:p:=by
 refine Le.trans (fB (k:=44) rfl (.inl rfl)) ?_
 exact zj):p:=h
theorem OM(h:p:=by
 show(pF ys 0 s).ok _ _
 rw[lY]
 simp only[RI,TY,Uj]
 cases hy:ys[s]? with
 |none=>simp only[V.ok,V.okL]
 |some y=>exact Jq):p:=h
theorem OO(h:p:=by
 repeat' ((conv=>whnf);first|(exfalso;contradiction)|refine zS ?_|refine zm (λx hx=>?_)|refine zT ?_ ?_<;>intro _|fail)
 all_goals exact zE):p:=h
theorem OQ(h:p:=by
 obtain⟨v1,ms1,⟨_,h2⟩,h3⟩:=hm _ h'
 rw[<-h2,h3]):p:=h
theorem OT(h:p:=by
 obtain⟨b,s,br,p⟩:=x
 cases b
 ·exact zF
 ·exact zF):p:=h
theorem OU(h:p:=by
 rcases hl with rfl|⟨s',rfl⟩
 ·exact IQ
 ·exact IQ):p:=h
theorem OV(h:p:=by
 have h2:upd σ.bx i (some cs) i=some xs:=hi
 rw[upd_same]at h2;cases h2;rfl):p:=h
theorem OW(h:p:=by
 split at h
 all_goals first|exact h|exact h.elim|skip
 simp_all [V.agr,V.ok]):p:=h
theorem OX(h:p:=by
 rw[ev]
 cases E with
 |nil=>
  have h00:([] :List Rest).length=0:=rfl
  exact zF
 |cons d E=>
  have h00:(d::E).length=E.length+1:=rfl
  exact zF):p:=h
theorem OY(h:p:=by
 rw[hA]
 cases ins
 all_goals
  repeat' ((conv=>whnf);first|omega|refine zS ?_|refine zT ?_ ?_<;>intro _|fail)
 all_goals exact zE):p:=h
theorem OZ(h:p:=by
 rw[range_split hk,List.findSome?_append,List.findSome?_eq_none_iff.2 (λj hj=>h j (SH.1 hj)),List.findSome?_cons,hx]
 rfl):p:=h
theorem Pe(h:p:=by
 repeat' ((conv=>whnf);first|omega|refine zS ?_|refine zl (λhlt=>?_) (λhlt=>?_))
 conv=>whnf
 refine aG ?_
 rw[<-hk,hks]):p:=h
theorem Pg(h:p:=by
 rcases h with⟨h,_⟩|⟨b,cap,cur,h,_⟩
 ·exact aP2 h
 ·rw[h];rfl):p:=h
theorem Ph(h:p:=by
 rcases h.bK8 with h|⟨ad,c,sz,cc,h1,h2,h3,h4,h5,h6,h7⟩
 ·exact .inl h
 ·exact .inr ⟨ad,c,sz,h1,h2,h3,h5,⟨cc,h6,h7⟩⟩):p:=h
theorem Pj(h:p:=by
 obtain⟨e,w',fr,⟨v',rfl,v1,ms1,G',⟨rfl,rfl⟩,inv',hv,hvo⟩,_⟩:=hcalls []
 exact⟨_,_,_,Inv.put' _ inv' hd hv hvo⟩):p:=h
theorem Pm(h:p:=by
 rw[h]
 repeat' ((conv=>whnf);first|omega|refine zS ?_|refine ze (λheq=>?_) (λheq=>?_))
 all_goals exact zE):p:=h
theorem Pn(h:p:=by
 refine⟨(D++[y],R),?_,by rw[show l=D++y::R from hp];simp,Af⟩
 simp only[es,eD]
 unfold gU
 simp only[<-lH,<-mG]
 exact zj):p:=h
theorem Po(h:p:=by
 repeat' ((conv=>whnf);first|refine zS ?_|refine zm (λx hx=>?_)|refine zT ?_ ?_<;>intro _|fail)
 all_goals exact zE):p:=h
theorem Pq(h:p:=by
 unfold Oper.looksAt
 rw[QX]
 left
 rw[List.mem_filterMap]
 exact⟨.tmp t,Uz.2 hx,rfl⟩):p:=h
theorem Pv(h:p:=by exact⟨⟨⟨rfl,rfl,rfl,rfl⟩,trivial⟩,rfl,λ_ h=>Ah⟩):p:=h
theorem Px(h:p:=by simp[execOp,ho,ex,ey,Instr.lookup,dI u1,TQ q3,hc,U7 u2 r1,Result.andThen]):p:=h
theorem Py(h:p:=by
 simp only
 by_cases h:e.1.2<e.2.2
 ·simp_all [QO,le_mul,Int.mul_sub]
 ·simp_all [Q5,le_mul,Int.mul_sub]):p:=h
theorem Pz(h:p:=by
 obtain⟨v1,ms1,⟨_,h2⟩,h3⟩:=hm _ h'
 rw[<-h2];exact h3):p:=h
theorem P5(h:p:=by
 have hp:z.pure:=aH.1 hl z (QT hz)
 cases z<;>simp_all [U4,V.pure,V.ok,V.cells,V.okL]):p:=h
theorem P6(h:p:=by rcases h.vP with⟨h,_⟩|⟨ad,sz,cc,h,_⟩<;>(rw[h];rfl)):p:=h
theorem P7(h:p:=by
 refine⟨v,ms,G',hk,?_⟩
 exact Inv.put' ms inv' hd hv hvo):p:=h
theorem P8(h:p:=by
 cases x with
 |sl l=>exact h l
 |cap l=>exact h l
 |lit u=>exact JJ
 |arr k g=>exact LV
 |_=>exact Det.false):p:=h
theorem P9(h:p:=by
 have:=q1 0 v r rfl rfl
 unfold Rr
 split
 ·exact absurd rfl (g3 _)
 ·exact absurd rfl (g3 _)
 ·exact this):p:=h
theorem PD(h:p:=by
 rw[yN Ar Ar Ar,tC]
 simp only
 have:=uY (x:=c-a) (y:=d-b) Aa Aa
 rw[show b-b=0 from Aa,Int.zero_mul]
 omega):p:=h
theorem PE(h:p:=by
 have hj:j<cs.size:=Du
 exact hargs j _ y (by simp[hj]) hy):p:=h
theorem PG(h:p:=by
 repeat' ((conv=>whnf);first|refine zS ?_|fail)
 all_goals conv=>whnf
 all_goals exact aA (sK RN)):p:=h
theorem PI(h:p:=by
 simp only[SY,mkB_size,Tf,Rf,SL]
 omega):p:=h
theorem PK(h:p:=by
 rw[dI7 hs ht hd,hA,hB]
 split
 ·unfold uJ;rw[Q5 Aa,QO Aa]
 ·simp_all [Q5,QO,uJ]):p:=h
theorem PL(h:p:=by
 rw[RD]at hx
 cases hy:xs[j]? with
 |none=>rw[hy]at hx;cases hx
 |some y=>exact J3):p:=h
theorem PN(h:p:=by
 rw[RD]at hx
 cases hy:xs[j]? with
 |none=>rw[hy]at hx;cases hx
 |some y=>exact JB):p:=h
theorem PO(h:p:=by
 have h1:w.1≠0:=λh'=>hw (Prod.ext h' h2)
 rw[h2,Int.zero_mul]at e
 grind [Int.mul_eq_zero]):p:=h
theorem PS(h:p:=by
 obtain⟨v',ms',⟨rfl,rfl⟩,q2,q3⟩:=yX (aN7 hh rfl) h
 exact λm hm=> .inl (q2 m hm)):p:=h
theorem PU(h:p:=by
 obtain⟨cs,rfl,_⟩:=h
 rw[hu]
 exact⟨λ_=>⟨cs,rfl⟩,λh=>by simp[aggB]at h⟩):p:=h
theorem PV(h:p:=by
 have hex:∃t,∃γ q,t=100000*γ+q/\PosG gs γ q k:=⟨_,γ,q,rfl,hp⟩
 grind [aA3]):p:=h
theorem PW(h:p:=by
 have:b=true:=by
  have h':some true=some b:=h
  simpa using h'.symm
 subst this
 simp):p:=h
theorem PX(h:p:=by
 cases hq:ar k with
 |none=>rw[hq]at h';exact h'.elim
 |some en=>exact⟨en,rfl⟩):p:=h
theorem PY(h:p:=by
 split
 ·exact Det.bJ λl=>Det.cond (Det.ret _ _) Det.false
 ·exact Det.false):p:=h
theorem PZ(h:p:=by
 have h2:=(vH ha.oa hf).2
 exact((zD ha.ob (vN ha.oa.2.2.1 h2)).1 (hin _ h2)).2):p:=h
theorem Qa(h:p:=by
 show Le T _ (fM4 E s t ((D++[y]).length) (comL s t (D++[y])))
 rw[e]
 exact zj):p:=h
theorem Qb(h:p:=by
 refine aA (fE ?_)
 rw[ek,TL,hab,TL]at ht
 exact ht):p:=h
theorem Qc(h:p:=by
 subst ho
 cases p with
 |none=>exact(h:False).elim
 |some x=>exact⟨x,rfl⟩):p:=h
theorem Qd(h:p:=by exact .plain inv (run _ _ _ hb) hk hnv (by simp only[V.ok];exact hsub _ _)):p:=h
theorem Qe(h:p:=by
 have hp:=(Uz.1 hp)
 simp[Op.operands]
 exact⟨p.1,hp⟩):p:=h
theorem Qg(h:p:=by
 refine Rk rfl (λK hK=>?_) ?_
 ·exact MW
 exact RP):p:=h
theorem Qh(h:p:=by
 refine⟨(E++[y],S),?_,⟨Aq,λz hz=>?_⟩,Af⟩
 ·exact IE
 ·exact L8):p:=h
theorem Qi(h:p:=by
 cases x with
 |tmp t=>exact KJ
 |const v=>rfl
 |global g=>rfl
 |func f=>rfl):p:=h
theorem Qj(h:p:=by
 split
 ·rename_i u
  split
  ·rw[h.bH];exact .slN
  ·exact h
 ·exact h):p:=h
theorem Qk(h:p:=by
 rcases Rh.1 hr with rfl|hr
 ·exact h.1
 ·exact h.2.2 r hr):p:=h
theorem Ql(h:p:=by
 rcases Rh.1 hp with rfl|hp
 ·exact h1
 ·exact ih h2 p hp):p:=h
theorem Qm(h:p:=by
 obtain⟨ns,⟨_,h4⟩,q2⟩:=bE6 h4
 rw[<-h4]
 exact hfin _ _ q1 q2):p:=h
theorem Qn(h:p:=by
 simp only[hsn,QU,QY]
 exact zj):p:=h
theorem Qo(h:p:=by exact V.ok.imp (λ_ h=>h) (λ_ _ h=>h.elim) _ (bC3 hui h')):p:=h
theorem Qp(h:p:=by
 obtain⟨v',ms',⟨rfl,rfl⟩,q⟩:=bY1 T σ d _ _ h1
 exact q):p:=h
theorem Qq(h:p:=by
 unfold X dif at hx
 simp only at hx
 unfold pN pK
 split<;>grind):p:=h
theorem Qu(h:p:=by rw[Sj,QS h];rfl):p:=h
theorem Qv(h:p:=by
 split
 ·exact λK hk=>⟨_,_,hk.out,hn⟩
 ·exact Mo.false):p:=h
theorem Qw(h:p:=by
 obtain⟨rfl,_⟩:=h
 grind [lQ,aH,Rz,V.ok]):p:=h
theorem Qx(h:p:=by exact QO (SN.1 λq=>hd ⟨q,trivial⟩)):p:=h
theorem Qy(h:p:=by exact⟨v,ns++ms,G',hk1 _ _ hk,Inv.put' _ inv' hd hv hvo⟩):p:=h
theorem Qz(h:p:=by
 rcases hmo m hm with h|⟨i',hi',h⟩
 ·exact Ls
 ·exact ML):p:=h
theorem Q7(h:p:=by
 split
 ·exact Det.map λv=>Det.ret _ _
 ·exact Det.false):p:=h
theorem Q8(h:p:=by exact⟨ys,k1,by simpa using k2,k3,by simpa using k4,k5⟩):p:=h
theorem QA(h:p:=by
 unfold itoaB Lib.itoa
 simp_all [Q5,itoa_more,itoa_dig]):p:=h
theorem QB(h:p:=by
 cases D with
 |nil=>exact absurd hp AQ
 |cons d D=>exact KI):p:=h
theorem QC(h:p:=by
 obtain⟨en2,q1,q2⟩:=hgen k en h1
 exact⟨en2,q1,Aa⟩):p:=h
theorem QD(h:p:=by
 obtain⟨j,hj⟩:=Rx hy
 exact dF hp hj):p:=h
theorem QE(h:p:=by
 conv=>whnf
 refine aG ?_
 unfold fstI
 rw[Q5 (iO.2 Eg)]):p:=h
theorem QF(h:p:=by
 rw[force_eq]at h'
 obtain⟨rfl,_⟩:=h'
 exact aC5 hg hc):p:=h
theorem QG(h:p:=by exact U1 λhn=>h ⟨v,hv,hn⟩):p:=h
theorem QH(h:p:=by
 rw[hx]at this
 simp only[V.ok]at this
 exact⟨g,this⟩):p:=h
theorem QI(h:p:=by exact⟨_,_,G,hk,Inv.put' [] inv hd (B_ok _ _ _) dL⟩):p:=h
theorem QJ(h:p:=by
 rw[har2,hen]
 split
 ·exact⟨_,rfl,rfl⟩
 ·exact MI):p:=h
theorem QK(h:p:=by
 show upd _ _ _ _=upd _ _ _ _
 grind [upd_same,upd_ne]):p:=h
theorem QL(h:p:=by
 simp[IntKind.wrap,IntKind.signed,IntKind.bits]
 omega):p:=h
theorem QM(h:p:=by cases x<;>simp only at h⊢<;>simp_all [V.agr,V.ok]):p:=h
theorem QN(h:p:=by
 have:=hc c Af
 grind [lH,Int.min_eq_right,sub1,w_in]):p:=h
end Go.Ab
