/- Lemmas. -/
import Derived.WalkKit
import Derived.Deep.Draws
import Derived.Laws.AppendOwn
set_option linter.all false
set_option autoImplicit true
set_option relaxedAutoImplicit true
namespace Go.Ab
theorem Q9:type_of%@if_neg:=@if_neg
theorem QU:type_of%@if_pos:=@if_pos
theorem QV:type_of%@of_decide_eq_true:=@of_decide_eq_true
def QW:=@List.getElem?_eq_some_iff
def QX:=@List.getElem?_eq_getElem
theorem QY:type_of%@List.length_append:=@List.length_append
theorem QZ:type_of%@List.mem_of_getElem?:=@List.mem_of_getElem?
def Rf:=@Nat.le_refl
theorem Rh:type_of%@List.mem_append:=@List.mem_append
theorem Ri:type_of%@List.mem_singleton:=@List.mem_singleton
theorem Rj:type_of%@List.length_singleton:=@List.length_singleton
theorem Rk:type_of%@List.length_take:=@List.length_take
theorem Rl:type_of%@List.mem_cons:=@List.mem_cons
theorem Rn:type_of%@List.mem_map:=@List.mem_map
theorem Ro:type_of%@List.length_cons:=@List.length_cons
theorem Rq:type_of%@List.append_nil:=@List.append_nil
theorem Rt:type_of%@List.map_cons:=@List.map_cons
theorem Ru:type_of%@Bool.and_eq_true:=@Bool.and_eq_true
theorem Rw:type_of%@List.length_map:=@List.length_map
def Rx:=@AllReady.cons
def Ry:=@Array.getElem?_eq_some_iff
def Rz:=@Nat.le_trans
theorem RD:type_of%@List.mem_map_of_mem:=@List.mem_map_of_mem
def RF:=@List.getElem?_of_mem
theorem RG:type_of%@Result.andThen_ok:=@Result.andThen_ok
theorem RH:type_of%@List.map_append:=@List.map_append
def RI:=@congrArg
def RJ:=@run_underlying
theorem RN:type_of%@List.getElem?_map:=@List.getElem?_map
theorem RP:type_of%@List.mem_of_mem_take:=@List.mem_of_mem_take
theorem RQ:type_of%@List.mem_of_mem_drop:=@List.mem_of_mem_drop
theorem RS:type_of%@List.length_eq_zero_iff:=@List.length_eq_zero_iff
def RU:=@Iff.rfl
theorem RV:type_of%@List.foldl_cons:=@List.foldl_cons
def RX:=@AllReady.nil
theorem RY:type_of%@Nat.zero_le:=@Nat.zero_le
theorem RZ:type_of%@List.mem_cons_of_mem:=@List.mem_cons_of_mem
theorem Si:type_of%@List.pairwise_append:=@List.pairwise_append
theorem Sj:type_of%@Nat.lt_or_ge:=@Nat.lt_or_ge
def Sl:=@wpAny_ready
theorem Sr:type_of%@List.length_drop:=@List.length_drop
theorem Sv:type_of%@List.sum_cons:=@List.sum_cons
theorem Sz:type_of%@List.getD_eq_getElem?_getD:=@List.getD_eq_getElem?_getD
theorem S9:type_of%@List.pairwise_cons:=@List.pairwise_cons
theorem SA:type_of%@List.getElem?_drop:=@List.getElem?_drop
theorem SB:type_of%@Array.length_toList:=@Array.length_toList
theorem SC:type_of%@Nat.mod_lt:=@Nat.mod_lt
theorem SE:type_of%@List.getElem?_cons_succ:=@List.getElem?_cons_succ
theorem SG:type_of%@List.take_append_drop:=@List.take_append_drop
theorem SH:type_of%@Sem.run_bind:=@Sem.run_bind
theorem SI:type_of%@Option.some.injEq:=@Option.some.injEq
theorem SK:type_of%@Int.toNat_natCast:=@Int.toNat_natCast
def SN:=@Classical.not_not
def SQ:=@List.mem_cons_self
def SS:=@Nat.lt_of_lt_of_le
theorem SX:type_of%@Nat.zero_add:=@Nat.zero_add
theorem SY:type_of%@List.map_nil:=@List.map_nil
theorem Tc:type_of%@List.length_nil:=@List.length_nil
theorem Td:type_of%@Nat.eq_of_beq_eq_true:=@Nat.eq_of_beq_eq_true
theorem Tf:type_of%@List.mem_range:=@List.mem_range
theorem Ti:type_of%@List.map_congr_left:=@List.map_congr_left
theorem Tj:type_of%@Option.map_some:=@Option.map_some
theorem Tm:type_of%@List.flatMap_cons:=@List.flatMap_cons
theorem Tn:type_of%@List.append_assoc:=@List.append_assoc
theorem Tq:type_of%@Sem.run_pure:=@Sem.run_pure
theorem Tt:type_of%@cond_false:=@cond_false
theorem Tv:type_of%@ByteArray.size_append:=@ByteArray.size_append
theorem Tz:type_of%@List.size_toArray:=@List.size_toArray
def TA:=@setRow_other
def TB:=@Int.le_refl
theorem TD:type_of%@cond_true:=@cond_true
def TG:=@List.getElem?_eq_none
theorem TI:type_of%@List.map_map:=@List.map_map
theorem TJ:type_of%@Nat.beq_eq:=@Nat.beq_eq
theorem TK:type_of%@List.length_set:=@List.length_set
theorem TL:type_of%@List.getElem_mem:=@List.getElem_mem
theorem TM:type_of%@List.take_length:=@List.take_length
def TN:=@setRow_heap
theorem TP:type_of%@List.not_mem_nil:=@List.not_mem_nil
def TQ:=@List.eq_nil_of_length_eq_zero
theorem TR:type_of%@List.foldl_append:=@List.foldl_append
theorem TS:type_of%@Nat.add_assoc:=@Nat.add_assoc
theorem TT:type_of%@Bool.eq_iff_iff:=@Bool.eq_iff_iff
theorem TU:type_of%@Array.getD_eq_getD_getElem?:=@Array.getD_eq_getD_getElem?
theorem TV:type_of%@List.getElem?_take:=@List.getElem?_take
theorem TW:type_of%@Nat.add_zero:=@Nat.add_zero
theorem TY:type_of%@Nat.succ_mul:=@Nat.succ_mul
def Ua:=@MapKept.run_getObj_map
theorem Ub:type_of%@List.flatMap_append:=@List.flatMap_append
def Uc:=@Nat.le_of_ble_eq_true
theorem Ud:type_of%@Array.getElem?_toList:=@Array.getElem?_toList
theorem Ue:type_of%@Bool.not_eq_true:=@Bool.not_eq_true
def Uf:=@Nat.le_of_lt
def Ug:=@wpIn_mono
def Uh:=@MapKept.sameNow_of_keys
theorem Ui:type_of%@List.pairwise_singleton:=@List.pairwise_singleton
theorem Uj:type_of%@List.nil_append:=@List.nil_append
theorem Uk:type_of%@Oper.upon_value:=@Oper.upon_value
def Ul:=@Oper.apart_spec
def Um:=@List.take_of_length_le
theorem Uo:type_of%@List.all_eq_true:=@List.all_eq_true
theorem Ur:type_of%@List.cons_append:=@List.cons_append
theorem Us:type_of%@Int.add_zero:=@Int.add_zero
theorem Ut:type_of%@List.takeWhile_cons:=@List.takeWhile_cons
theorem Uu:type_of%@if_false:=@if_false
def Uw:=@heap_alloc_old
theorem Ux:type_of%@Nat.mul_one:=@Nat.mul_one
theorem Uy:type_of%@if_true:=@if_true
theorem Uz:type_of%@Bool.or_eq_true:=@Bool.or_eq_true
def U0:=@List.length_filter_le
theorem U1:type_of%@List.getElem?_append_right:=@List.getElem?_append_right
theorem U2:type_of%@List.take_add_one:=@List.take_add_one
def U3:=@Array.mem_toList_iff
def U4:=@Array.getElem?_eq_getElem
def U5:=@Classical.byContradiction
theorem U6:type_of%@heap_alloc_new:=@heap_alloc_new
theorem U7:type_of%@Int.zero_add:=@Int.zero_add
def U8:=@Int.lt_or_le
theorem U9:type_of%@Option.getD_some:=@Option.getD_some
def UA:=@Array.getElem?_push_size
def UB:=@MapKept.run_findKey
def UC:=@run_callFunc_extern
theorem UD:type_of%@List.getElem?_cons_zero:=@List.getElem?_cons_zero
theorem UE:type_of%@Int.add_assoc:=@Int.add_assoc
theorem UF:type_of%@List.range_succ:=@List.range_succ
def UG:=@Option.some.inj
theorem UH:type_of%@Nat.min_eq_left:=@Nat.min_eq_left
def UI:=@List.drop_eq_nil_of_le
theorem UJ:type_of%@and_true:=@and_true
def UK:=@List.length_eq_one_iff
theorem UL:type_of%@or_false:=@or_false
theorem UM:type_of%@Bool.not_eq_true':=@Bool.not_eq_true'
theorem UN:type_of%@Nat.lt_trichotomy:=@Nat.lt_trichotomy
theorem UO:type_of%@Array.size_append:=@Array.size_append
def UQ:=@Nat.mul_le_mul
def UR:=@List.mem_flatMap
def UU:=@World.cell?_of_block
theorem UW:type_of%@List.getElem?_append:=@List.getElem?_append
def UX:=@Nat.mul_le_mul_right
def UY:=@World.grownBy_alloc
theorem UZ:type_of%@List.reverse_append:=@List.reverse_append
theorem Va:type_of%@List.nodup_cons:=@List.nodup_cons
theorem Vb:type_of%@List.headD_cons:=@List.headD_cons
theorem Vd:type_of%@List.map_set:=@List.map_set
theorem Ve:type_of%@List.take_take:=@List.take_take
theorem Vf:type_of%@List.drop_take:=@List.drop_take
variable{p:Prop}
def Aa(h:p:=by omega):p:=h
def Ac(h:p:=by kernel_rfl):p:=h
def Ad(h:p:=by simp):p:=h
def Ae(h:p:=by rw[hp];simp):p:=h
def Af(h:p:=by repeat' (first|exact trivial|exact rfl|refine And.intro ?_ ?_)):p:=h
def Ag(h:p:=by assumption):p:=h
def Ah(h:p:=by cases h):p:=h
def Ai(h:p:=by decide):p:=h
def Aj(h:p:=by simp only;omega):p:=h
def Ak(h:p:=by decide+kernel):p:=h
def Am(h:p:=by simp[Op.operands]):p:=h
def Aq(h:p:=by simp[intOf];omega):p:=h
def Ar(h:p:=by first|exact hl2|exact hl1):p:=h
def Au(h:p:=by rw[hq];simp):p:=h
def Aw(h:p:=by show 0<=_/\_< ((s.stocks.map aQ).length:Int);omega):p:=h
def Az(h:p:=by rw[IntKind.wrap_i64];omega):p:=h
def A7(h:p:=by simp[Act.eval,Act.put]):p:=h
def A8(h:p:=by show(List.take _ (s.stocks.map aQ)++[_]).length+(List.drop _ (List.take _ (s.stocks.map aQ))).length<=1000000000;rw[QY,Rk,Rj,Sr,Rk];omega):p:=h
def AA(h:p:=by show(List.take _ (s.pieces.map aZ)++[_]).length+(List.drop _ (List.take _ (s.pieces.map aZ))).length<=1000000000;rw[QY,Rk,Rj,Sr,Rk];omega):p:=h
def AB(h:p:=by show(List.take _ (s.used.map I)++[_]).length+(List.drop _ (List.take _ (s.used.map I))).length<=1000000000;rw[QY,Rk,Rj,Sr,Rk];omega):p:=h
def AL(h:p:=by unfold fst;rw[h1];exact wH hD (by rw[dH.2 hd];rfl)):p:=h
def AO(h:p:=by simp only[cls];decide):p:=h
def AP(h:p:=by simp only[V.pure,V.ok];exact hp):p:=h
def AQ(h:p:=by unfold X dif;simp only;grind):p:=h
def AU(h:p:=by unfold rings;simp):p:=h
def AV(h:p:=by rw[hb];simp):p:=h
def AX(h:p:=by first|assumption|exact λh=>absurd h (by assumption)):p:=h
def AY(h:p:=by simp;omega):p:=h
def AZ(h:p:=by obtain⟨m,_,rfl⟩:=Rn.1 hy;rfl):p:=h
def Ba(h:p:=by simp only[V.ok]at h⊢;exact h):p:=h
def Be(h:p:=by simp[Op.operands,Call.operands]):p:=h
def Bf(h:p:=by simp only[V.pure,V.ok]at hok⊢;exact hok):p:=h
def Bg(h:p:=by grind):p:=h
def Bh(h:p:=by simp only[Ux]):p:=h
def Bj(h:p:=by show 0+(List.take _ (s.stocks.map aQ)).length<=1000000000;rw[Rk];omega):p:=h
def Bl(h:p:=by unfold remS;rw[Q9 (by rw[e1];decide)]):p:=h
def Bo(h:p:=by rw[h1];simp):p:=h
def Bq(h:p:=by rw[<-h4];exact Ri.2 rfl):p:=h
def Bv(h:p:=by simpa using hu):p:=h
def Bz(h:p:=by rw[hSd];exact Int.mul_zero _):p:=h
def BA(h:p:=by rw[hSc];exact Int.mul_zero _):p:=h
def BB(h:p:=by rw[hTe];unfold X dif;simp only;grind):p:=h
def BD(h:p:=by rw[SB,e2,<-b3];exact(QW.1 hi).1):p:=h
def BF(h:p:=by rw[show N+1000*(q+1)=N+1000+1000*q by omega];exact hn):p:=h
def BG(h:p:=by simpa using hl):p:=h
def BH(h:p:=by simpa using hv):p:=h
def BI(h:p:=by simp[hx]):p:=h
def BJ(h:p:=by rw[hp,Rq]at h;exact h):p:=h
def BK(h:p:=by first|exact .inl ‹_› |exact .inr (.inl ‹_›)|exact .inr (.inr (.inl ‹_›))|exact .inr (.inr (.inr ‹_›))):p:=h
def BL(h:p:=by show 0<=_/\_< ((s.pieces.map aZ).length:Int);omega):p:=h
def BM(h:p:=by unfold dZ;rw[Q9 c1,Q9 (by rw[e1];decide)]):p:=h
def BN(h:p:=by simp only[V.ok]):p:=h
def BO(h:p:=by simp only[V.pure,V.ok];exact hok):p:=h
def BP(h:p:=by as_aux_lemma=>kernel_rfl):p:=h
def BQ(h:p:=by {unfold restN;rw[Q9 (by simpa using ‹(y.parent==0)=false›)]}):p:=h
def BR(h:p:=by rw[kS (a:=k+1) (by omega)];omega):p:=h
def BU(h:p:=by unfold rings;simp[hr]):p:=h
def BV(h:p:=by {unfold restN;rw[QU (by simpa using ‹(y.parent==0)=true›)]}):p:=h
def BX(h:p:=by unfold remE;rw[Q9 (λh=>h c1),Q9 (λh=>h ⟨c21,c22,c23,c24⟩),Q9 (λh=>h c3)]):p:=h
def BZ(h:p:=by refine⟨by omega,?_⟩;simp only[TK];show _< ((s.pieces.map aZ).length:Int);omega):p:=h
def Cb(h:p:=by refine⟨by omega,?_⟩;show _< ((List.set _ _ _).length:Int);simp only[TK];omega):p:=h
def Cc(h:p:=by simp only[V.okL]):p:=h
def Ce(h:p:=by rw[dW.2 (h2 y hy)];rfl):p:=h
def Cf(h:p:=by simp[World.frozen?,hv]):p:=h
def Ci(h:p:=by rw[show r.length-1+2=1+r.length by omega,Nat.add_mod_right,Nat.mod_eq_of_lt (by omega)]):p:=h
def Cj(h:p:=by unfold maxLen;omega):p:=h
def C9(h:p:=by rw[hsn,hpo,hq];exact⟨λh=>h.2,λh=>⟨λh'=>absurd (hmm.2 h') (by assumption),h⟩⟩):p:=h
def CB(h:p:=by rw[TG hk]at hm;cases hm):p:=h
def CG(h:p:=by show 0+(List.take _ (s.pieces.map aZ)).length<=1000000000;rw[Rk];omega):p:=h
def CJ(h:p:=by rw[show l=D++[]from hp];simp):p:=h
def CO(h:p:=by show(List.take _ (s.stocks.map aQ)).length+1<=1000000000;rw[Rk];omega):p:=h
def CP(h:p:=by show(List.take _ (s.pieces.map aZ)).length+1<=1000000000;rw[Rk];omega):p:=h
def CQ(h:p:=by obtain⟨m,hm,rfl⟩:=Rn.1 hy;have:=hc m hm;omega):p:=h
def CS(h:p:=by show 0+(List.take _ (s.used.map I)).length<=1000000000;rw[Rk];omega):p:=h
def CU(h:p:=by show(List.take _ (s.used.map I)).length+1<=1000000000;rw[Rk];omega):p:=h
def CV(h:p:=by rw[e];simp only;rw[<-Int.mul_assoc,Int.mul_comm M 2]):p:=h
def CW(h:p:=by obtain⟨m,hm,rfl⟩:=Rn.1 hy;exact(hr m hm).1):p:=h
def CX(h:p:=by simp[Region.wanted,hg]):p:=h
def CY(h:p:=by unfold hvO;rw[hop];rfl):p:=h
def CZ(h:p:=by unfold dJ;rw[Q9 ‹¬r.getD k z0=p›,eN,QU ⟨by assumption,by assumption⟩]):p:=h
def Dc(h:p:=by rw[TA _ b vb _ hvb];exact hv):p:=h
def Df(h:p:=by unfold cut4;simp only[TR,RV,List.foldl_nil];rfl):p:=h
def Dh(h:p:=by simp only[Nat.min_def];split<;>omega):p:=h
def Di(h:p:=by rw[hk];simp[uP,jG]):p:=h
def Dj(h:p:=by simpa using hy):p:=h
def Dk(h:p:=by rw[Rk,SB];omega):p:=h
def Dl(h:p:=by simp[Op.operands,Call.operands,hx]):p:=h
def Dn(h:p:=by rw[show s.holes=D++[]from hp];simp):p:=h
def Dp(h:p:=by show 0<=_/\_< ((rs.map rgV).length:Int);omega):p:=h
def Dq(h:p:=by cases Ri.1 hy;rfl):p:=h
def Du(h:p:=by obtain⟨v,hv,q⟩:=hr.1 h;rw[hp,Rq]at hv;exact hD v hv q):p:=h
def Dv(h:p:=by rcases hl with rfl|⟨s',rfl⟩<;>rfl):p:=h
def Dw(h:p:=by unfold heatL;rw[Rw];exact U0 _ _):p:=h
def Dx(h:p:=by rw[hV,Q9 ‹¬vb=p›,Q9 (λh=>absurd h.2 (by assumption))]):p:=h
def Dy(h:p:=by rw[hDe];exact hU):p:=h
def Dz(h:p:=by rw[hDe];exact hP):p:=h
def D5(h:p:=by show 0<=_/\_< ((A.map sgV).length:Int);rw[Rw];omega):p:=h
def D6(h:p:=by show 0<=_/\_< ((B.map sgV).length:Int);rw[Rw];omega):p:=h
def D7(h:p:=by simpa using hq):p:=h
def D8(h:p:=by simpa using hc):p:=h
def D9(h:p:=by rw[Rw];omega):p:=h
def DC(h:p:=by rw[show t+1+i=t+(i+1) by omega];exact hb (i+1) (by simp;omega)):p:=h
def DF(h:p:=by rw[hsn,hlp,hpl,QY,Rj];omega):p:=h
def DI(h:p:=by rw[Rw,Rw];omega):p:=h
def DJ(h:p:=by rw[Sz,QX h];rfl):p:=h
def DK(h:p:=by rw[hsn];exact hps2 (λh=>absurd (hmm.2 h) (by assumption))):p:=h
def DL(h:p:=by show V.ok _ _ (.ae k g z i' o);simp only[V.ok]at h⊢;exact h):p:=h
def DN(h:p:=by unfold cmpI;split<;>(try split)<;>omega):p:=h
def DR(h:p:=by rw[hV,Q9 ‹¬vb=p›,QU ⟨by assumption,by assumption⟩]):p:=h
def DT(h:p:=by simpa using RI List.length hlens):p:=h
def DU(h:p:=by simp only[V.ok]at h h'⊢;exact aL2 h h'):p:=h
def DV(h:p:=by rw[Int.zero_sub,<-Int.mul_neg,Int.mul_comm];congr 1;omega):p:=h
def DW(h:p:=by rw[hV,Q9 ‹¬vb=p›,Q9 (λh=>h.1 (by assumption))]):p:=h
def DX(h:p:=by rw[e];exact h2):p:=h
def DY(h:p:=by rw[show v.1-c.1=0 by omega,show d.1-c.1=0 by omega];simp):p:=h
def DZ(h:p:=by rw[hm];simp only;omega):p:=h
def Ea(h:p:=by unfold strV;rw[Rw,SB];rfl):p:=h
def Eb(h:p:=by simp[inv0]):p:=h
def Ec(h:p:=by rw[hcy,QU (hC.2 ⟨by assumption,by assumption⟩)];rfl):p:=h
def Ed(h:p:=by show _<=(w.heap.push _).size;rw[Array.size_push];omega):p:=h
def Ee(h:p:=by rcases q with q|q<;>cases q):p:=h
def Ef(h:p:=by rw[ha];exact Int.zero_mul _):p:=h
def Eg(h:p:=by rw[hb];exact Int.zero_mul _):p:=h
def Eh(h:p:=by rw[hz];exact Int.zero_mul _):p:=h
def Ei(h:p:=by rw[hy];exact Int.zero_mul _):p:=h
def Ej(h:p:=by unfold iG;rw[Q9 c1,Q9 (λh=>h c2),Q9 c3]):p:=h
def Em(h:p:=by rcases hw with q|q|q<;>first|omega|exact absurd d q.1):p:=h
def En(h:p:=by rcases hw with q|q|q<;>first|exact absurd q.1 d|omega):p:=h
def Eo(h:p:=by show V.ok _ _ (.own e l);simp only[V.ok]at h⊢;exact h):p:=h
def Ep(h:p:=by show V.ok _ _ (.arr k g);simp only[V.ok]at h⊢;exact h):p:=h
def Es(h:p:=by rw[hbl,<-hil];exact(QW.1 hj).1):p:=h
def Et(h:p:=by simp only[V.ok,V.okL]):p:=h
def Eu(h:p:=by rw[hno]at hq;cases hq):p:=h
def Ew(h:p:=by rw[hnp]at hq;cases hq):p:=h
def Ey(h:p:=by simp only[V.ok]at h h'⊢;exact⟨h,h'⟩):p:=h
def Ez(h:p:=by show V.ok _ _ (.ap e l);simp only[V.ok]at h⊢;exact h):p:=h
def E5(h:p:=by show(nodeOf _ _).id=_;rw[nodeOf_id];exact hrid r hr'):p:=h
def E8(h:p:=by unfold maxLen at hle;omega):p:=h
def EC(h:p:=by rw[show r.length-1+1=r.length by omega,Nat.mod_self]):p:=h
def ED(h:p:=by unfold moreL;simp):p:=h
def EF(h:p:=by show V.ok _ _ (.cap l);simp only[V.ok]at h⊢;exact h):p:=h
def EG(h:p:=by rw[hop];simp[cls]):p:=h
def EH(h:p:=by rw[<-e,hen]at hn;cases hn):p:=h
def EI(h:p:=by rw[<-hlen];exact(QW.1 hq).1):p:=h
def EJ(h:p:=by show V.ok _ _ (.sl l);simp only[V.ok]at h⊢;exact h):p:=h
def EK(h:p:=by show V.ok _ _ (.fp l);simp only[V.ok]at h⊢;exact h):p:=h
def EL(h:p:=by rw[hΦr];rfl):p:=h
def EM(h:p:=by show upd σ.ar k _ k'=_;rw[upd_ne _ _ e1];exact hx):p:=h
def EN(h:p:=by rw[e2,hl];exact(QW.1 hi).1):p:=h
def EO(h:p:=by rw[<-hil];exact(QW.1 hj).1):p:=h
def EP(h:p:=by cases q):p:=h
def EQ(h:p:=by unfold onL X dif;simp only;rw[Int.mul_comm];omega):p:=h
def ER(h:p:=by replace h:=h.out;exact h):p:=h
def ES(h:p:=by simp[FW,Fence.wide]at hh):p:=h
def ET(h:p:=by simpa only[V.ok]using h2):p:=h
def EU(h:p:=by unfold World.setCell;split<;>rfl):p:=h
def EW(h:p:=by rw[hcy,Q9 (λh=>by have:=hC.1 h;simp_all)]):p:=h
def EX(h:p:=by simpa using max6 hl):p:=h
def EY(h:p:=by simp only[V.ok]at h⊢;exact V.okL.imp hp hq cs h):p:=h
def EZ(h:p:=by unfold World.freeze;split<;>rfl):p:=h
def Fa(h:p:=by rw[<-Int.neg_mul];congr 1;omega):p:=h
def Fb(h:p:=by rw[hp,Rq];exact hD):p:=h
def Fe(h:p:=by rw[hl];exact(QW.1 hy).1):p:=h
def Ff(h:p:=by rw[q1];exact(QW.1 hy).1):p:=h
def Fg(h:p:=by show 0<=_/\_< ((f.map nodeV).length:Int);omega):p:=h
def Fh(h:p:=by unfold rings;simp;omega):p:=h
def Fj(h:p:=by simpa using h):p:=h
def Fp(h:p:=by rw[hΦr]):p:=h
def Fq(h:p:=by simp only[V.pure,V.ok,V.okL]at hok⊢;exact hok):p:=h
def Fv(h:p:=by rw[h];simp):p:=h
def Fz(h:p:=by rw[lT];rfl):p:=h
def F5(h:p:=by rw[nX];rfl):p:=h
def F6(h:p:=by unfold X dif;simp only;rw[Int.mul_comm];omega):p:=h
def F7(h:p:=by obtain⟨m,_,rfl⟩:=Rn.1 hy;exact hf m):p:=h
def F8(h:p:=by unfold bF;split<;>simp<;>omega):p:=h
def F9(h:p:=by obtain⟨q1,q2⟩:=q;contradiction):p:=h
def FB(h:p:=by simp[List.getD,QX hj']):p:=h
def FC(h:p:=by rw[hO vb hvw];exact hv):p:=h
def FD(h:p:=by rw[<-Int.neg_mul,Int.mul_comm];congr 1;omega):p:=h
def FH(h:p:=by rw[<-Int.mul_neg,Int.mul_comm];congr 1;omega):p:=h
def FI(h:p:=by show 0<=_/\_< ((E.map vcV).length:Int);omega):p:=h
def FK(h:p:=by show 0<=_/\_< ((E.map sgV).length:Int);omega):p:=h
def FM(h:p:=by show 0<=_/\_< ((RL.map aQ).length:Int);omega):p:=h
def FN(h:p:=by rcases q with q|q|q<;>cases q):p:=h
def FO(h:p:=by rw[hs,TG (by omega)];rfl):p:=h
def FP(h:p:=by simpa using hb):p:=h
def FQ(h:p:=by simp[World.shape?,hv]):p:=h
def FT(h:p:=by simp[World.shape?,hb]):p:=h
def FU(h:p:=by rw[hO b hbw];exact hb):p:=h
def FV(h:p:=by unfold dJ;rw[QU ‹r.getD k z0=p›,eN,eL]):p:=h
def FX(h:p:=by rw[<-Ue,TJ];exact h):p:=h
def FY(h:p:=by simp[binOp,Op.shift,Int.not_lt.2 h0,shrI]):p:=h
def FZ(h:p:=by simp[binOp,Op.shift,Int.not_lt.2 h0,shlI]):p:=h
def Gf(h:p:=by rw[hp,Rq]at hv;exact hD v hv):p:=h
def Gg(h:p:=by rw[kS (a:=k+r.length-1) (by omega)];omega):p:=h
def Gj(h:p:=by unfold Addr.add;split<;>rfl):p:=h
def Gl(h:p:=by simpa [Op.operands]using hx):p:=h
def Gm(h:p:=by rcases h with h|h<;>cases h):p:=h
def Gn(h:p:=by rw[show t+(i+1)=t+1+i by omega];exact hb):p:=h
def Gs(h:p:=by rw[hx];simp[frzE,hk]):p:=h
def Gt(h:p:=by simp[hy]):p:=h
def Gu(h:p:=by rw[<-h.ids];exact RD hx):p:=h
def Gv(h:p:=by simp only[TK];rw[hll];omega):p:=h
def Gw(h:p:=by simp only[TK];rw[hmp];omega):p:=h
def Gy(h:p:=by rw[hO];intro e;have:=Tag.ar.inj e;omega):p:=h
def Gz(h:p:=by simpa [TJ]using c1):p:=h
def G6(h:p:=by unfold maxLen at hcm;omega):p:=h
def G7(h:p:=by rw[Rk];omega):p:=h
def G8(h:p:=by show V.ok _ _ (.lit u);simp only[V.ok]):p:=h
def G9(h:p:=by rw[SX];exact hrb i u y hu hy):p:=h
def GH(h:p:=by simp only[bM,V.okL]):p:=h
def GI(h:p:=by unfold corners;simp):p:=h
def GK(h:p:=by unfold jA;omega):p:=h
def GL(h:p:=by rw[TR];rfl):p:=h
def GN(h:p:=by rw[keepO b (by rw[hb];simp)];exact hb):p:=h
def GR(h:p:=by rw[hs,QX c];rfl):p:=h
def GU(h:p:=by rw[hp2];simp):p:=h
def GV(h:p:=by show n+more e+moreL R<=1000000;omega):p:=h
def GX(h:p:=by simp at q):p:=h
def GY(h:p:=by rw[hr];simp[q3,q4]):p:=h
def GZ(h:p:=by rw[hP]):p:=h
def He(h:p:=by first|exact .inl ‹_› |exact .inr ‹_›):p:=h
def Hf(h:p:=by simpa using e2):p:=h
def Hg(h:p:=by rw[size_setRow];exact Rf _):p:=h
def Hl(h:p:=by simp only[V.ok]at h⊢;exact hq _ _ h):p:=h
def Ho(h:p:=by rw[<-hcs];exact SB):p:=h
def Hq(h:p:=by simp[binOp,Op.intArith]):p:=h
def Hr(h:p:=by rw[aG2];simp only;omega):p:=h
def Ht(h:p:=by unfold more;omega):p:=h
def Hu(h:p:=by unfold X dif;simp only;rw[h];grind):p:=h
def Hw(h:p:=by unfold wt;rw[one_t hr,Int.mul_one]):p:=h
def Hy(h:p:=by show V.ok _ _ .bot;simp only[V.ok]):p:=h
def Hz(h:p:=by simp[Op.operands,Call.operands,hy]):p:=h
def H6(h:p:=by rw[SK,Vd]):p:=h
def H7(h:p:=by simp[h2]):p:=h
def H8(h:p:=by cases hx):p:=h
def H9(h:p:=by simpa using hs.1):p:=h
def HY(h:p:=by simp at h):p:=h
def Ia(h:p:=by rw[g1,g2]):p:=h
def Ib(h:p:=by rw[hp,hq]):p:=h
def Ic(h:p:=by simp only[V.okL];exact⟨hfpp,q5⟩):p:=h
def Ie(h:p:=by rw[gk];split<;>omega):p:=h
def Ig(h:p:=by simpa using hn):p:=h
def Ih(h:p:=by simpa using hi):p:=h
def Ii(h:p:=by cases hm):p:=h
def Ij(h:p:=by rw[e1,hd];simp):p:=h
def Ik(h:p:=by rw[hp,hq];simp):p:=h
def Il(h:p:=by unfold iI;simp):p:=h
def Io(h:p:=by rw[e]):p:=h
def Ip(h:p:=by rw[q3];simp):p:=h
def Iq(h:p:=by rw[<-hwr];simp[hp]):p:=h
def Ir(h:p:=by rw[b1]):p:=h
def Iu(h:p:=by rw[a1]):p:=h
def Iw(h:p:=by rw[hbs,m1.2];omega):p:=h
def Iy(h:p:=by simp[sh0]):p:=h
def Iz(h:p:=by rw[hpl];omega):p:=h
def I4(h:p:=by unfold X dif;simp):p:=h
def I5(h:p:=by simp at hc):p:=h
def I7(h:p:=by simp at hx):p:=h
def I8(h:p:=by simp at hb):p:=h
def I9(h:p:=by simp[hk]):p:=h
def IA(h:p:=by simp[hz]):p:=h
def IB(h:p:=by rw[hl];omega):p:=h
def IC(h:p:=by simp[dN,sh0]):p:=h
def IE(h:p:=by simp[av']):p:=h
def IG(h:p:=by simp[hlt]):p:=h
def II(h:p:=by
 obtain⟨v',W2,W3,hr,hx2,hr3,hown3,hnx3,hws3⟩:=hall;refine step_ap rfl rfl rfl rfl hr ?_
 go_simp
 refine hK _ _ ?_;clear hK K;refine Sl (rs:=[11]) Ac Ad ?_;refine Rx rfl (λK hK=>?_) ?_
 ·refine step_mu rfl rfl rfl rfl rfl hr3 ?_
  go_simp
  refine hK _ _ ?_;clear hK K;refine wpAny_done Ac ?_ _
  go_wp2;exact⟨⟨k+1,Aa,rfl,hown3,hnx3,hws3⟩,Aq⟩
 exact RX):p:=h
def IJ(h:p:=by
 obtain⟨h1,h2⟩:=hp;have hlen:l.length=D.length+R.length:=Bo;have hD:∀y∈D,(!decB (Q y))=true:=λy hy=>Ce;cases R with
 |nil=>
  have e:l=D:=Bo;simp at hlen;repeat' ((conv=>whnf);first|omega|refine zS ?_|refine zl (λhlt=>?_) (λhlt=>?_))
  conv=>whnf
  refine aG ?_;unfold fstI;rw[Q9 (iO.2 DX)]
 |cons x R=>
  rw[Ro]at hlen;repeat' ((conv=>whnf);first|omega|refine zc (hg x) ?_|refine zS ?_|refine zd (λhd=>?_) (λhd=>?_)|refine zl (λhlt=>?_) (λhlt=>?_))
  conv=>whnf
  refine aG ?_;have e:fst Q l=D.length:=AL;unfold fstI;rw[e,QU Aa];conv=>whnf
  refine⟨(D++[x],R),?_,⟨?_,?_⟩,?_⟩
  ·refine dV ?_ ?_ ?_ ?_
   all_goals repeat' (first|exact trivial|refine And.intro ?_ ?_|with_reducible rfl|exact(λh=>Ah)|exact Rf _|omega|exact rfl)
   show(D.length:Int)+1=(D++[x]).length;simp
  show l=D++[x] ++R;rw[h1];simp;intro m hm;rcases Rh.1 hm with hm|hm;exact h2 m hm;rw[Ri.1 hm];exact hd;show R.length< (x::R).length
  simp):p:=h
def IK(h:p:=by
 refine step_mu rfl rfl rfl rfl rfl hr3 ?_
 go_simp
 refine hK _ _ ?_;clear hK K;refine wpAny_done Ac ?_ _
 go_wp2;exact⟨⟨k+1,Aa,rfl,hown3,hnx3,hws3⟩,Aq⟩):p:=h
def IL(h:p:=by
 conv=>whnf
 refine⟨(D++[x],R),?_,⟨?_,?_⟩,?_⟩
 ·refine dV ?_ ?_ ?_ ?_
  all_goals repeat' (first|exact trivial|refine And.intro ?_ ?_|with_reducible rfl|exact(λh=>Ah)|exact Rf _|omega|exact rfl)
  show(D.length:Int)+1=(D++[x]).length;simp
 show l=D++[x] ++R;rw[h1];simp;intro m hm;rcases Rh.1 hm with hm|hm;exact h2 m hm;rw[Ri.1 hm];exact hd;show R.length< (x::R).length
 simp):p:=h
def IQ(h:p:=by
 have hlen:a.length=D.length:=Ae
 have hS:S=[] :=by
  have h1:b.length=D.length+S.length:=Au;exact RS.1 Aa
 subst hS;have hab:P:=hr.2 Ib;clear hp hq hr;repeat' ((conv=>whnf);first|omega|refine zS ?_|refine zT ?_ ?_<;>intro _|fail)
 all_goals conv=>whnf
 exact aA (fE hab)):p:=h
def IU(h:p:=by
 repeat' ((conv=>whnf);first|omega|refine zS ?_|refine zT ?_ ?_<;>intro _|fail)
 all_goals conv=>whnf
 all_goals first
  |exact aA (aC (λh=>by have:=hr.1 h;grind))
  |exact aA (fQ Bg)
  |exact aA (qV Bg)):p:=h
def IV(h:p:=by
 rcases Int.lt_trichotomy Sc 0 with hSc|hSc|hSc<;>rcases Int.lt_trichotomy Sd 0 with hSd|hSd|hSd
 all_goals (rcases Int.lt_trichotomy a 0 with ha|ha|ha<;>rcases Int.lt_trichotomy b 0 with hb|hb|hb<;>rcases hz with hz|hz|hz<;>rcases hy with hy|hy|hy<;>first|omega|((first|have p1:=Int.mul_pos ha hSd|have p1:=Int.mul_pos_of_neg_of_neg ha hSd|have p1:=Int.mul_neg_of_neg_of_pos ha hSd|have p1:=Int.mul_neg_of_pos_of_neg ha hSd|have p1:a*Sd=0:=Ef|have p1:a*Sd=0:=Bz);(first|have p2:=Int.mul_pos hb hSc|have p2:=Int.mul_pos_of_neg_of_neg hb hSc|have p2:=Int.mul_neg_of_neg_of_pos hb hSc|have p2:=Int.mul_neg_of_pos_of_neg hb hSc|have p2:b*Sc=0:=Eg|have p2:b*Sc=0:=BA);(first|have p3:=Int.mul_pos hz hSd|have p3:=Int.mul_pos_of_neg_of_neg hz hSd|have p3:=Int.mul_neg_of_neg_of_pos hz hSd|have p3:=Int.mul_neg_of_pos_of_neg hz hSd|have p3:(a-w)*Sd=0:=Eh|have p3:(a-w)*Sd=0:=Bz);(first|have p4:=Int.mul_pos hy hSc|have p4:=Int.mul_pos_of_neg_of_neg hy hSc|have p4:=Int.mul_neg_of_neg_of_pos hy hSc|have p4:=Int.mul_neg_of_pos_of_neg hy hSc|have p4:(b-w)*Sc=0:=Ei|have p4:(b-w)*Sc=0:=BA);generalize a*Sd=m1 at*;generalize b*Sc=m2 at*;generalize (a-w)*Sd=m3 at*;generalize (b-w)*Sc=m4 at*;omega))):p:=h
def IW(h:p:=by
 simp only[QY,Rj]
 exact zj):p:=h
def IX(h:p:=by (rcases Int.lt_trichotomy a 0 with ha|ha|ha<;>rcases Int.lt_trichotomy b 0 with hb|hb|hb<;>rcases hz with hz|hz|hz<;>rcases hy with hy|hy|hy<;>first|omega|((first|have p1:=Int.mul_pos ha hSd|have p1:=Int.mul_pos_of_neg_of_neg ha hSd|have p1:=Int.mul_neg_of_neg_of_pos ha hSd|have p1:=Int.mul_neg_of_pos_of_neg ha hSd|have p1:a*Sd=0:=Ef|have p1:a*Sd=0:=Bz);(first|have p2:=Int.mul_pos hb hSc|have p2:=Int.mul_pos_of_neg_of_neg hb hSc|have p2:=Int.mul_neg_of_neg_of_pos hb hSc|have p2:=Int.mul_neg_of_pos_of_neg hb hSc|have p2:b*Sc=0:=Eg|have p2:b*Sc=0:=BA);(first|have p3:=Int.mul_pos hz hSd|have p3:=Int.mul_pos_of_neg_of_neg hz hSd|have p3:=Int.mul_neg_of_neg_of_pos hz hSd|have p3:=Int.mul_neg_of_pos_of_neg hz hSd|have p3:(a-w)*Sd=0:=Eh|have p3:(a-w)*Sd=0:=Bz);(first|have p4:=Int.mul_pos hy hSc|have p4:=Int.mul_pos_of_neg_of_neg hy hSc|have p4:=Int.mul_neg_of_neg_of_pos hy hSc|have p4:=Int.mul_neg_of_pos_of_neg hy hSc|have p4:(b-w)*Sc=0:=Ei|have p4:(b-w)*Sc=0:=BA);generalize a*Sd=m1 at*;generalize b*Sc=m2 at*;generalize (a-w)*Sd=m3 at*;generalize (b-w)*Sc=m4 at*;omega))):p:=h
def IY(h:p:=by
 have hb:(i+j)/2<l.length:=by omega
 have hm2:=QX hb;generalize l[(i+j)/2] =m at hm2;have g1:=hg m;have hlt2:(i+j)/2<j:=Aa;repeat' ((conv=>whnf);first|omega|refine fK (k:= .u64) (n:=(i:Int)+(j:Int)) (m:=(i:Int)+(j:Int)) (cD4 Aa) ?_|refine fK (k:= .i64) (n:=shrI .u64 ((i:Int)+(j:Int)) 1) (m:=(((i+j)/2:Nat):Int)) (bF1 Aa) ?_|refine zS ?_|refine zT ?_ ?_<;>intro _|fail)
 all_goals conv=>whnf
 have hc:=cK6.1 Ag;refine⟨((i+j)/2+1,j),?_,⟨Aa,Aa,λk y hk hy=>?_,h2⟩,Aa⟩;exact zj;rcases Sj k ((i+j)/2)with h|h;exact Int.lt_trans (sorted_at hs hy hm2 h) hc;have:k=(i+j)/2:=by omega
 subst this;rw[hm2]at hy;cases hy;exact hc;have hc:=aU8.1 Ag;refine⟨(i,(i+j)/2),?_,⟨Aa,Aa,h1,λk y hk hy=>?_⟩,Aa⟩;exact zj;rcases Sj ((i+j)/2) k with h|h;exact Int.le_of_lt (Int.lt_of_le_of_lt hc (sorted_at hs hm2 hy h));have:k=(i+j)/2:=by omega
 subst this;rw[hm2]at hy;cases hy
 exact hc):p:=h
def IZ(h:p:=by
 refine dV ?_ ?_ ?_ ?_;all_goals repeat' (first|exact trivial|refine And.intro ?_ ?_|with_reducible rfl|exact(λh=>Ah)|exact Rf _|omega|exact rfl)
 all_goals (try rw[Rw])):p:=h
def Ja(h:p:=by
 repeat' ((conv=>whnf);first|refine zh (h) [100000] ?_|refine zS ?_|fail)
 all_goals conv=>whnf
 all_goals first|exact⟨_,rfl,zc1⟩|exact zc1):p:=h
def Jb(h:p:=by
 refine dV ?_ ?_ ?_ ?_;all_goals repeat' (first|exact trivial|refine And.intro ?_ ?_|with_reducible rfl|exact(λh=>Ah)|exact Rf _|omega|exact rfl)
 all_goals (rw[Rw])):p:=h
def Jc(h:p:=by
 cases x with
 |tmp t=>
  refine bU _ _ _ _ (λe=>hp1 t e ?_);unfold Oper.looksAt;rw[Rh];left;rw[List.mem_filterMap];exact⟨.tmp t,U3.2 hx,rfl⟩
 |const v=>rfl
 |global g=>rfl
 |func f=>rfl):p:=h
def Jd(h:p:=by
 by_cases c1:r.lo≠0\/r.hi≠0;have e1:iG x r=1:=by unfold iG;rw[QU hb,QU c1]
 have e2:dZ x r=wS:=by unfold dZ;rw[QU hb,QU c1]
 rw[e1,e2];obtain⟨b,s,br,p⟩:=x;cases hb;exact zF;have e1:iG x r=remE x.sheet r.box r.id:=by unfold iG;rw[QU hb,Q9 c1]
 have e2:dZ x r=⟨false,remS x.sheet r.box r.id,bar0,aI⟩:=by unfold dZ;rw[QU hb,Q9 c1]
 rw[e1,e2];obtain⟨b,s,br,p⟩:=x;cases hb;generalize remS s r.box r.id=q1 at*;generalize remE s r.box r.id=q2 at*
 exact zF):p:=h
def Je(h:p:=by
 conv=>whnf
 refine aG ?_;have e:fst Q l=D.length:=AL;unfold fstI
 rw[e,QU Aa]):p:=h
def Jf(h:p:=by
 obtain⟨rfl,rfl⟩:=hn rfl
 go_wp2_with (at_builtin;refine Lib.wpList_append_run _ rfl _ _ _ _ rfl _ _ rfl rfl _ _ (hA _) ?_)
 all_goals (go_ret;exact⟨rfl,rfl⟩)):p:=h
def Jg(h:p:=by
 obtain⟨ab,ao,asp⟩:=a
 go_wp2_with (at_builtin;refine Lib.wpList_append_run _ rfl _ _ _ _ rfl _ _ rfl rfl _ _ (hA _) ?_)
 all_goals (go_ret;exact⟨rfl,rfl⟩)):p:=h
def Jh(h:p:=by
 have hr:kP false p q↔(max p.box.1.1 q.box.1.1<min p.box.2.1 q.box.2.1/\max p.box.1.2 q.box.1.2<min p.box.2.2 q.box.2.2):=by unfold kP;rw[Q9 (by decide)]
 generalize kP false p q=P at*;repeat' ((conv=>whnf);first|refine zS ?_|refine zT ?_ ?_<;>intro _|fail)
 all_goals conv=>whnf
 all_goals simp only[mG,lH]at*
 all_goals first
  |exact aA (aS1 ⟨λh=>hr.2 ⟨Aa,Aa⟩,λh=>by have:=hr.1 h;omega⟩)
  |exact aA (aC (λh=>by have:=hr.1 h;omega))):p:=h
def Ji(h:p:=by
 have h1:=hr.1 hP;rw[hp,hq]at h1
 exact h (List.cons.inj (List.append_cancel_left h1)).1):p:=h
def Jj(h:p:=by
 rename_i hlt
 exact U5 λhn=>(h.2 (λm hm hq=>hn ⟨m,hm,hq⟩)) hlt):p:=h
def Jk(h:p:=by
 rcases Rh.1 hz with hz|hz;exact hD z hz
 rw[Ri.1 hz];exact h):p:=h
def Jl(h:p:=by
 rename_i hk
 have hu:∃dd,P.underlying t=some dd/\aggB (some dd)=true:=by
  cases hp:P.underlying t with
  |none=>rw[hp]at hk;simp[kdOf]at hk
  |some dd=>rw[hp]at hk;cases dd<;>simp[kdOf]at hk;exact⟨_,rfl,rfl⟩
 obtain⟨dd,hu,ha⟩:=hu;by_cases ht:t<T.n t;exact nested (aggOf dd hu ha ht) h';have:Nat.blt t (T.n t)=false:=by rw[<-Ue];exact λh=>ht (blt h)
 rw[this]at h'
 cases h'):p:=h
def Jm(h:p:=by
 have:k=(i+j)/2:=by omega
 subst this;rw[hm2]at hy;cases hy
 exact hc):p:=h
def Jo(h:p:=by
 repeat' ((conv=>whnf);first|refine zS ?_|refine zd (λhd=>?_) (λhd=>?_)|refine zl (λhlt=>?_) (λhlt=>?_)|refine zk (λhle=>?_) (λhle=>?_)|refine ze (λheq=>?_) (λheq=>?_)|refine zm (λx hx=>?_)|refine zb (λhbb=>?_) (λhbb=>?_))
 refine⟨(),?_,trivial⟩;refine Le.trans (bZ6 (i:=3) (cs:=[I n]) rfl Ai ⟨trivial,trivial⟩) ?_
 exact zj):p:=h
def Jp(h:p:=by
 have h1:(iI s).length=(rings s).length:=Il;have h2:(rings s).length=D.length+R.length:=Ae
 exact RS.1 Aa):p:=h
def Jq(h:p:=by
 refine Mo.cond ?_ Mo.false;unfold iE;rename_i t0 x0 y0 z0;split;rename_i k g s hx _;split;split;refine Mo.need λhp=>Mo.cond (Mo.ret _ (h1 (.a k _) (.inr ⟨AO,λp q hok=>?_⟩))) Mo.false;have:=hok x0 Am;rw[hx]at this;simp only[V.ok]at this;exact⟨g,this⟩;exact Mo.false;exact Mo.false
 exact Mo.false):p:=h
def Jr(h:p:=by
 have e:l=[] :=by
  cases l with
  |nil=>rfl
  |cons x l=>exact absurd (hb Ad) Ai
 subst e
 refine⟨⟨⟨QV Ac,rfl⟩,trivial⟩,rfl,λrs h=>V.noConfusion h⟩):p:=h
def Js(h:p:=by
 simp only at h;split at h;rename_i hd;obtain⟨vs,ms,h1,h2,h3⟩:=ih h;refine⟨_,_,h1,?_,λσ' hs K' hk=>?_⟩;intro m hm;rcases Rl.1 hm with rfl|hm;exact hd;exact h2 m hm;rw[qL];simp only;have h0:σ'.ar (d+1000*j)=σ.ar (d+1000*j):=hs _ (SQ ..);simp_all
 exact h.elim):p:=h
def Jt(h:p:=by
 have e:A=D:=Ae;cases D with
 |nil=>exact absurd e hne
 |cons d D=>
  clear hp;subst e;have hlen:(d::D).length=D.length+1:=rfl;repeat' ((conv=>whnf);first|omega|refine zS ?_|refine zT ?_ ?_<;>intro _|fail)
  all_goals conv=>whnf
  exact⟨⟨⟨rfl,rfl,rfl,rfl⟩,trivial⟩,rfl,λ_ h=>Ah⟩):p:=h
def Ju(h:p:=by
 have e1:DB (lI c s)= .lit (.bool false):=RI (λb=>V.lit (.bool b)) (dW.2 (λh=>h2 h.2.1));have e2:pO c s=11:=Q9 (λh=>h2 h.2);rw[e1,e2];repeat' ((conv=>whnf);first|(exfalso;contradiction)|refine zc m1 ?_|refine zc m2 ?_|refine zS ?_|refine zT ?_ ?_<;>intro _|fail)
 all_goals exact zE):p:=h
def Jv(h:p:=by
 have e1:DB (lI c s)= .lit (.bool false):=RI (λb=>V.lit (.bool b)) (dW.2 (λh=>h1 h.1));have e2:pO c s=11:=Q9 (λh=>h1 h.1);rw[e1,e2];repeat' ((conv=>whnf);first|(exfalso;contradiction)|refine zc m1 ?_|refine zS ?_|refine zT ?_ ?_<;>intro _|fail)
 all_goals exact zE):p:=h
def Jw(h:p:=by
 repeat' ((conv=>whnf);first|omega|refine zS ?_|refine zl (λhlt=>?_) (λhlt=>?_))
 all_goals conv=>whnf
 refine⟨?_,rfl,λrs h=>V.noConfusion h⟩
 (repeat' (first|exact trivial|refine And.intro ?_ ?_|with_reducible rfl|exact(λh=>Ah)|exact rfl));done):p:=h
def Jy(h:p:=by
 rcases Rh.1 hz with hz|hz;exact hD z hz;rw[Ri.1 hz,hBE]
 exact hE):p:=h
def Jz(h:p:=by
 refine mW (σ:=σ.put p.dst v []) (λ_=>⟨b1.symm,a1.symm⟩) ?_ ?_ ?_ h2;grind [bU];intro _ x hx;rw[cX5 hx hp1];exact V.ok.imp (λj _=>Ir) (λj _ _=>Iu) _ (wf x);intro m _;cases m with
 |b j cs=>show σ.bx j=_;rw[b1]
 |a j cs=>show σ.ar j=_;rw[a1]):p:=h
def J3(h:p:=by
 repeat' ((conv=>whnf);first|(exfalso;contradiction)|refine jI (λheq=>?_) (λheq=>?_)|refine zh (h1) [100000] ?_|refine dS rfl rfl Aw ?_|refine zS ?_|refine zT ?_ ?_<;>intro _|fail)
 all_goals conv=>whnf
 all_goals first|exact⟨_,rfl,zc1⟩|exact zc1):p:=h
def J4(h:p:=by
 rw[hy]at hx;simp only[Tj,SI]at hx;subst hx
 exact ih j c y hc hy (aH.1 hok y (QZ hy)) hp):p:=h
def J5(h:p:=by
 repeat' ((conv=>whnf);first|omega|refine zS ?_|refine zT ?_ ?_<;>intro _|fail)
 all_goals conv=>whnf
 refine⟨i+1,?_,⟨Aa,λi' k' h1 h2 h3=>?_⟩,Aa⟩;exact zj;by_cases e:i'=i;subst e;exact hin k' h2 Aa
 exact hap i' k' Aa h2 h3):p:=h
def J6(h:p:=by
 refine mW (σ:=σ) (λhq=>Ew) ?_ ?_ ?_ h1;grind [bU];intro _ x hx;exact V.ok.imp (λj _=>Ir) (λj _ _=>Iu) _ (wf x);intro m _;cases m with
 |b j cs=>show(σ.put o.dst v' []).bx j=_;rw[b1]
 |a j cs=>show(σ.put o.dst v' []).ar j=_;rw[a1]):p:=h
def J7(h:p:=by
 have hlen':l.length=D.length:=CJ;have e:l=D:=CJ;rw[hb];rw[show l.foldl gU (x,x)=D.foldl gU (x,x) from Io];generalize D.foldl gU (x,x)=b;repeat' ((conv=>whnf);first|omega|refine zS ?_|refine zl (λhlt=>?_) (λhlt=>?_))
 all_goals exact zE):p:=h
def J8(h:p:=by
 obtain⟨_,z,hz,h⟩:=h;rw[bC]at h;simp only[V.ok]at hx;cases hb:(Nat.beq (lenR z.cells) (T.row r.elem).size&&Nat.blt r.elem (T.n r.elem))with
 |false=>rw[hb]at h;exact h.elim
 |true=>
  rw[hb]at h;obtain⟨rfl,_⟩:=h;simp only[V.ok]
  exact el hx hz):p:=h
def J9(h:p:=by
 have e:gcdI x y=gcdI y (x.tmod y):=by rw[gcdI,dif_neg h0]
 repeat' ((conv=>whnf);first|refine uM h0 ?_|omega|refine zS ?_|refine zT ?_ ?_<;>intro _|fail)
 all_goals conv=>whnf
 refine⟨(y,x.tmod y),?_,by rw[<-hp,e],tmod_lt x y h0⟩
 exact zj):p:=h
def JA(h:p:=by
 repeat' ((conv=>whnf);first|omega|refine jI (λheq=>?_) (λheq=>?_)|refine zS ?_|refine zT ?_ ?_<;>intro _|fail)
 all_goals conv=>whnf
 all_goals first
  |exact aA (aC (λh=>by have:=hr.1 h;grind))
  |exact aA (fQ Bg)
  |exact aA (qV Bg)):p:=h
def JB(h:p:=by
 rw[hy]at hx;simp only[Tj,SI]at hx;subst hx
 exact ih j c y hc hy (aH.1 hok y (QZ hy))):p:=h
def JC(h:p:=by
 rename_i j g';cases hj:Nat.beq j k with
 |false=>exact h
 |true=>
  have ej:j=k:=Td hj;subst ej;cases hg:Nat.beq g' g with
  |false=>exact .bot _
  |true=>
   have eg:g'=g:=Td hg;subst eg;rw[h.oQ]
   exact hl):p:=h
def JD(h:p:=by
 have hr:kP true p q↔max p.lo q.lo<min p.hi q.hi:=by unfold kP;rw[QU rfl]
 generalize kP true p q=P at*;repeat' ((conv=>whnf);first|refine zS ?_|fail)
 all_goals conv=>whnf
 all_goals exact aA (aS1 (by simp only[mG,lH];exact hr.symm))):p:=h
def JE(h:p:=by
 have hlen6:e.cuts.length=Q.length:=Ae;have eQ:e.cuts=Q:=Ae;rw[eQ];rw[eQ]at hm1;repeat' ((conv=>whnf);first|omega|refine zS ?_|refine zT ?_ ?_<;>intro _|fail)
 all_goals conv=>whnf
 all_goals first|exact⟨_,rfl,zc1⟩|exact zc1):p:=h
def JF(h:p:=by
 have h1:b.length=D.length:=Au;have h2:=aO hp
 exfalso;omega):p:=h
def JG(h:p:=by
 have hlen:A.length=D.length:=Ae;repeat' ((conv=>whnf);first|omega|refine zS ?_|refine zT ?_ ?_<;>intro _|fail)
 all_goals conv=>whnf
 refine aA (aC ?_);rw[hr,hp,Rq];rintro⟨x,hx,y,hy,hm⟩
 exact hD x hx y hy hm):p:=h
def JH(h:p:=by
 refine mW (σ:=σ) (λ_=>⟨b1,a1⟩) ?_ ?_ ?_ h1;grind [bU];intro _ x hx;exact V.ok.imp (λj _=>Ir) (λj _ _=>Iu) _ (wf x);intro m _;cases m with
 |b j cs=>show _=σ.bx j;rw[b1]
 |a j cs=>show _=σ.ar j;rw[a1]):p:=h
def JI(h:p:=by
 refine⟨k+1,?_,⟨Aa,λj hj=>?_⟩,Aa⟩;exact zj;rcases Sj j k with h|h;exact hN j h;have:j=k:=by omega
 subst this;unfold dJ
 rw[Q9 ‹¬r.getD j z0=p›,eN,Q9 (λh=>absurd h.2 Ag)]):p:=h
def JJ(h:p:=by
 cases u with
 |slice b n c=>
  cases b with
  |none=>
   cases n with
   |zero=>
    cases c with
    |zero=>exact h []
    |succ c=>exact Det.false
   |succ n=>exact Det.false
  |some b=>exact Det.false
 |_=>exact Det.false):p:=h
def JK(h:p:=by
 refine⟨k+1,?_,⟨Aa,λj hj=>?_⟩,Aa⟩;exact zj;rcases Sj j k with h|h;exact hN j h;have:j=k:=by omega
 subst this;unfold dJ
 rw[Q9 ‹¬r.getD j z0=p›,eN,Q9 (λh=>h.1 Ag)]):p:=h
def JL(h:p:=by
 have e:k+1=r.length:=by omega
 rw[<-e];repeat' ((conv=>whnf);first|omega|refine zS ?_|refine zT ?_ ?_<;>intro _|fail)
 all_goals conv=>whnf
 exact⟨⟨⟨rfl,rfl,rfl,rfl⟩,trivial⟩,rfl,λ_ h=>Ah⟩):p:=h
def JM(h:p:=by
 repeat' ((conv=>whnf);first|omega|refine zh (h2) [100000] ?_|refine zh (h3) [100000] ?_|refine zS ?_|refine zT ?_ ?_<;>intro _|fail)
 all_goals conv=>whnf
 all_goals first|exact⟨_,rfl,zc1⟩|exact zc1):p:=h
def JO(h:p:=by
 simp only[QY,Rj];refine dV ?_ ?_ ?_ ?_
 all_goals repeat' (first|exact trivial|refine And.intro ?_ ?_|with_reducible rfl|exact(λh=>Ah)|exact Rf _|omega|exact rfl)):p:=h
def JP(h:p:=by
 refine⟨(D++[x],R),?_,⟨Ae,hgood heq⟩,Ad⟩;simp only[QY,Rj]
 exact zj):p:=h
def JQ(h:p:=by
 cases x with
 |lit u=>simp only[V.pure,V.ok]
 |sl l=>simp only[V.pure,V.ok]at hok⊢;exact hok
 |cap l=>simp only[V.pure,V.ok]at hok⊢;exact hok
 |fn g l=>exact fn_atom_pure h hok
 |_=>simp[V.atom]at h):p:=h
def JR(h:p:=by
 refine aL3 (w:=dif s.2 s.1) ?_ ?_ hw;unfold xD at hd;unfold X at*;rw[Int.mul_comm,Int.mul_comm (dif t.2 t.1).2];omega;have e:=xR hp lc;unfold X;show(p.1-t.1.1)*_- (p.2-t.1.2)*_=0
 grind):p:=h
def JS(h:p:=by
 rw[h1 hr];repeat' ((conv=>whnf);first|omega|refine zS ?_|refine zT ?_ ?_<;>intro _|fail)
 all_goals conv=>whnf
 exact⟨⟨⟨QV Ac,rfl⟩,trivial⟩,rfl,λ_ h=>Ah⟩):p:=h
def JU(h:p:=by
 simp only[V.ok]
 exact⟨_,upd_same _ _ _,Rf _⟩):p:=h
def JV(h:p:=by
 refine dV ?_ ?_ ?_ ?_;all_goals repeat' (first|exact trivial|refine And.intro ?_ ?_|with_reducible rfl|exact(λh=>Ah)|exact Rf _|omega|exact rfl)
 all_goals (try rw[hll])):p:=h
def JW(h:p:=by
 refine dV ?_ ?_ ?_ ?_;all_goals repeat' (first|exact trivial|refine And.intro ?_ ?_|with_reducible rfl|exact(λh=>Ah)|exact Rf _|omega|exact rfl)
 all_goals (try rw[hm1])):p:=h
def JY(h:p:=by
 refine dV ?_ ?_ ?_ ?_;all_goals repeat' (first|exact trivial|refine And.intro ?_ ?_|with_reducible rfl|exact(λh=>Ah)|exact Rf _|omega|exact rfl)
 all_goals (try rw[hl])):p:=h
def JZ(h:p:=by
 rw[hms];simp only[V.ok];refine aH.2 λx hx=>?_;obtain⟨i,hi⟩:=RF hx;have hlt2:i<vs'.toList.length:=BD
 exact(b4 i _ x (QX hlt2) hi).2):p:=h
def Ko(h:p:=by clear u1 u2 g1 g2;split at h1<;>split at h2<;>split<;>split<;>omega):p:=h
def Kq(h:p:=by
 refine Det.cond ?_ Det.false;unfold iE;split;split;split;exact Det.need (Det.cond (Det.ret _ _) Det.false);exact Det.false;exact Det.false
 exact Det.false):p:=h
def Kr(h:p:=by
 rcases Rh.1 hy with hy|hy;exact hD y hy
 rw[Ri.1 hy];exact h):p:=h
def Kt(h:p:=by
 rcases Rh.1 hv with hv|hv;exact hD v hv
 rw[Ri.1 hv];exact h):p:=h
def Ku(h:p:=by
 unfold chN;cases f.length with
 |zero=>exact⟨[],rfl⟩
 |succ k=>
  unfold chainR;split;exact⟨[],rfl⟩;split;exact⟨_,rfl⟩
  exact⟨[],rfl⟩):p:=h
def Kv(h:p:=by
 cases r with
 |nil=>exact absurd rfl hne
 |cons y l=>
  intro x hx;obtain⟨q1,q2⟩:=fL2 l y;rcases Rl.1 hx with rfl|hx;exact q1
  exact q2 x hx):p:=h
def Kw(h:p:=by
 rw[QU c]
 rcases p1 with p|p|p<;>rcases q1 with q|q<;>omega):p:=h
def Ky(h:p:=by
 rw[Q9 c]
 rcases p1 with p|p|p<;>rcases q1 with q|q<;>omega):p:=h
def Kz(h:p:=by
 have e:br.defects=D:=Ae;have hlen:br.defects.length=D.length:=Io;simp only;rw[e];generalize kH r D=X at*;cases X with
 |nil=>
  exact zF
 |cons y X=>
  exact zF):p:=h
def KA(h:p:=by
 refine Le.trans (fB (k:=7) rfl (.inl rfl)) ?_;show Le T _ (mkSt [(3,nilV),(4, .sl (A.map rgV)),(5,I 0)] [] [(7,⟨0, .frz,46,A.map rgV⟩)])
 exact zj):p:=h
def KC(h:p:=by refine⟨⟨⟨rfl,rfl,rfl,rfl⟩,trivial⟩,rfl,λrs h=>V.noConfusion h⟩):p:=h
def KD(h:p:=by
 split at h;rename_i hd;obtain⟨_,_,h4⟩:=dX h;have:=hm _ Bq;simp only[show σ'.ar d=none from this.trans hd];exact h
 exact h.elim):p:=h
def KE(h:p:=by
 have hP:¬P:=hex.2 (TG Aa);have eP:DB P=V.lit (.bool false):=RI (λb=>V.lit (.bool b)) (dW.2 hP);rw[eP]
 exact zF):p:=h
def KF(h:p:=by
 rw[hp];repeat' ((conv=>whnf);first|refine zS ?_|fail)
 all_goals conv=>whnf
 exact⟨⟨⟨rfl,rfl,rfl,rfl⟩,trivial⟩,rfl,λ_ h=>Ah⟩):p:=h
def KG(h:p:=by
 refine he t ?_;unfold Oper.looksAt;rw[Rh];left;rw[List.mem_filterMap]
 exact⟨.tmp t,U3.2 hx,rfl⟩):p:=h
def KH(h:p:=by
 obtain⟨_,z,hz,h⟩:=h;rw[bC]at h;simp only[V.ok]at hx;obtain⟨_,h⟩:=aT h;obtain⟨rfl,_⟩:=h;simp only[V.ok]
 exact el hx hz):p:=h
def KI(h:p:=by
 by_cases e1:k'=k;subst e1;exact⟨_,upd_same _ _ _,Uf (hno g' hh)⟩;obtain⟨x,hx,hg⟩:=hh
 exact⟨x,EM,hg⟩):p:=h
def KJ(h:p:=by
 have hh':cond (iC x) (iC y) false=true:=hh
 simp_all):p:=h
def KL(h:p:=by
 repeat' ((conv=>whnf);first|omega|refine zc hso ?_|refine zS ?_|refine zT ?_ ?_<;>intro _|fail)
 all_goals exact zE):p:=h
def KN(h:p:=by
 rw[Q9 h];refine⟨⟨λh=>Ah,?_⟩,⟨?_,λh=>Gm⟩,⟨λh=>Ah,λh=>absurd h.2 hcr⟩⟩;simp_all
 simp_all):p:=h
def KO(h:p:=by
 repeat' ((conv=>whnf);first|(exfalso;exact heq rfl)|refine zS ?_|refine ze (λheq=>?_) (λheq=>?_))
 all_goals exact zE):p:=h
def KP(h:p:=by
 split;exact Mo.need λ_=>Mo.ret _ (one _ _)
 exact Mo.false):p:=h
def KQ(h:p:=by
 split;rename_i hd;exact Mo.need λ_=>Mo.ret _ (one _ _ (λen he=>by rw[hd]at he;cases he))
 exact Mo.false):p:=h
def KR(h:p:=by
 repeat' ((conv=>whnf);first|omega|refine zS ?_|refine zl (λhlt=>?_) (λhlt=>?_))
 all_goals exact zE):p:=h
def KT(h:p:=by
 have:kidsL (x::l) n=kidsL l n:=by conv=>lhs;unfold kidsL
                                   rw[Q9 Aa]
 rw[this]):p:=h
def KU(h:p:=by
 refine⟨k+1,?_,⟨Aa,λi hi=>?_⟩,Aa⟩;exact zj;by_cases e:i=k;subst e;assumption
 exact ht i Aa):p:=h
def KW(h:p:=by
 rcases hc.2.2 with h|h;rw[h];rfl;rw[TJ,iL]at h;rw[RS.1 h]
 cases lend<;>rfl):p:=h
def KX(h:p:=by
 split at h;rename_i h0 _;cases h0
 exact h):p:=h
def KY(h:p:=by
 repeat' ((conv=>whnf);first|omega|refine zS ?_|refine zT ?_ ?_<;>intro _|fail)
 all_goals exact zE):p:=h
def KZ(h:p:=by
 refine⟨(D++[x],R),?_,⟨Ae,hN heq⟩,Ad⟩;simp only[QY,Rj]
 exact zj):p:=h
def La(h:p:=by
 unfold fO;rw[RH,TI,TI];congr 1
 exact Ti λr hr'=>E5):p:=h
def Lc(h:p:=by split<;>first|exact Det.need (Det.ret _ _)|exact Det.false):p:=h
def Ld(h:p:=by
 unfold wf1 at hw;simp only at hw;split at hw;rename_i en hen;exact⟨en,hen,hw⟩
 exact hw.elim):p:=h
def Lh(h:p:=by
 have hb:Nat.beq s j=false:=by rw[<-Ue,TJ];exact e
 rw[hb,Tt,ih]
 grind):p:=h
def Lj(h:p:=by
 cases m with
 |b j' cs'=>cases hbm;have h':σ.bx j=none:=h;rw[h']at hj;cases hj
 |a j' en=>exact hbm):p:=h
def Ll(h:p:=by
 rcases Rh.1 hz with hz|hz;exact hD z hz
 rw[Ri.1 hz,hq];assumption):p:=h
def Lm(h:p:=by
 rename_i t x y z;obtain⟨h1,h2⟩:=aT h;rw[h1,he x Am,he y Am,he z Am]
 exact aH2 (ha AO x Am) h2):p:=h
def Lr(h:p:=by
 rcases fH.1 h with rfl|h;exact .inr Ad
 exact .inl h):p:=h
def Ls(h:p:=by
 rcases Rh.1 hz with hz|hz;exact hE z hz;rw[Ri.1 hz]
 assumption):p:=h
def Lu(h:p:=by
 refine Le.trans (Le.trans (fB (k:=10) rfl (.inl rfl)) (fB (k:=12) rfl (.inl rfl))) ?_
 exact zj):p:=h
def L6(h:p:=by
 obtain⟨_,_,rfl,⟨a,rfl,ra⟩,_,_,rfl,⟨b,rfl,rb⟩,rfl⟩:=h
 exact⟨(a,b),rfl,trivial⟩):p:=h
def L8(h:p:=by
 split;rename_i hd;exact Mo.need λhp=>Mo.ret _ (h1 (.a d _) (.inl hd))
 exact Mo.false):p:=h
def L9(h:p:=by
 rcases Rh.1 hz with hz|hz;exact hE z hz
 rw[Ri.1 hz];exact h):p:=h
def LC(h:p:=by
 refine⟨l-1,?_⟩
 rw[q,e2,show 2*(l-1)+1=2*l-1 from Aa,Int.mul_sub M (2*l) 1,Int.mul_one]):p:=h
def LD(h:p:=by
 rw[force_eq]at h;obtain⟨h1,h2⟩:=inv.ev x
 exact .plain inv (by simp[execOp,ho]) h h1 h2):p:=h
def LG(h:p:=by
 rcases Rh.1 h with h|h;exact hE h
 exact heq (Ri.1 h).symm):p:=h
def LH(h:p:=by
 simp only[h1,h2,Uu,Rl,or_self];show upd σ'.ar x _ k=_
 rw[upd_ne _ _ h2]):p:=h
def LJ(h:p:=by
 obtain⟨_,h'⟩:=aT h';generalize (T.row t).kd=kd at h'
 cases kd<;>exact(h':False).elim):p:=h
def LK(h:p:=by
 show(w.heap.push _)[q]? =_
 rw[Array.getElem?_push_lt hq,U4 hq]):p:=h
def LM(h:p:=by
 induction n with
 |zero=>rfl
 |succ n ih=>rw[sumI_succ,sumI_succ,sumI_succ,ih];omega):p:=h
def LP(h:p:=by clear u1 g1;have:=u2 hb;clear u2;split at h1<;>split at h2<;>split<;>split<;>omega):p:=h
def LQ(h:p:=by clear u2 g2;have:=u1 ha;clear u1;split at h1<;>split at h2<;>split<;>split<;>omega):p:=h
def LU(h:p:=by
 simp only;cases σ.ar k with
 |none=>exact Det.false
 |some en=>exact Det.need (h _)):p:=h
def LV(h:p:=by exact⟨Ai,Ai,Ai,Ai,Ai,Ai,λ_=>rfl,λ_=>⟨hn,Ai,rfl⟩,λh=>absurd rfl h⟩):p:=h
def LW(h:p:=by
 rw[Sz,QX h]
 exact TL h):p:=h
def LX(h:p:=by exact Mo.need (λhp=>Mo.idx λx=>Mo.bJ λl=>Mo.cond (Mo.ret _ hn) Mo.false)):p:=h
def LY(h:p:=by
 have:p=x:=bB9 hs hp hxf e;subst this
 exact Bool.noConfusion (g1.symm.trans e2.1)):p:=h
def LZ(h:p:=by rw[hA];exact jD (λq=>q1 ((cC3 hv heo).1 q)) (λq=>q2 ((fJ9 heo hv q1).1 q))):p:=h
def Mc(h:p:=by
 simp only[Bool.true_eq_false,Uu,Tq,RG]
 exact ih'):p:=h
def Me(h:p:=by exact Mo.need λ_=>Mo.idx λx=>Mo.bJ λl=>Mo.cond (Mo.ret _ rfl) Mo.false):p:=h
def MB(h:p:=by exact Det.need (Det.idx λx=>Det.bJ λl=>Det.cond (Det.ret _ _) Det.false)):p:=h
def MC(h:p:=by grind [Bool.or_eq_false_iff,Bool.and_eq_false_iff,Nat.ble_eq_true_of_le,clash]):p:=h
def MF(h:p:=by
 obtain⟨dd,h1,h2,_⟩:=h.und;rw[hk]at h2;cases dd<;>simp[kdOf]at h2
 exact h1):p:=h
def MG(h:p:=by
 split;refine⟨_,rfl,?_⟩;unfold frzE;split<;>rfl
 exact⟨_,rfl,rfl⟩):p:=h
def MH(h:p:=by
 rw[e1]
 refine .tup vs' vs (by rw[e2,b3]) λi c x hc hx=>(b4 i c x D8 hx).1):p:=h
def MI(h:p:=by
 cases u with
 |none=>simp[kdOf]at h
 |some dd=>cases dd<;>simp[kdOf]at h;rfl):p:=h
def MJ(h:p:=by
 cases m with
 |b j' cs'=>cases hbm;cases h;exact hi hi'
 |a j' en=>exact hbm):p:=h
def MK(h:p:=by
 refine Mo.need λ_=>?_
 split<;>first|exact Mo.ret _ hn|exact Mo.false):p:=h
def ML(h:p:=by exact Det.force λy=>ih _ _ (λvs ms K=>Φ _ _ K) λvs ms=>h _ _):p:=h
def MN(h:p:=by exact same hx0 (empty hx0 none 0 0 (Rf _)) rfl (.inr trivial)):p:=h
def MO(h:p:=by
 obtain⟨l,e⟩:=ch_self (f:=f) (x:=x)
 exact⟨x,by rw[e];simp,rfl⟩):p:=h
def MP(h:p:=by rw[hA];exact rE (λq=>q1 ((cC3 hv heo).1 q)) ((fJ9 heo hv q1).2 q2)):p:=h
def MQ(h:p:=by
 have hx:=hF _ (by rw[hV,QU ‹vb=p›]);rw[hx]
 all_goals exact zE):p:=h
def MR(h:p:=by
 go_simp
 refine hK _ _ ?_;clear hK K;refine Sl (rs:=[6,9]) Ac Ad ?_;refine Rx rfl (λK hK=>?_) ?_
 ·refine step_lk rfl rfl rfl rfl (hlk _ Ar) ?_
  go_simp
  refine hK _ _ ?_;clear hK K;refine Sl (rs:=[9]) Ac Ad ?_;refine Rx rfl (λK hK=>?_) ?_
  ·go_simp
   refine hK _ _ ?_;clear hK K;refine Sl (rs:=[10]) Ac Ad ?_;refine Rx rfl (λK hK=>?_) ?_;exact II;exact RX
  exact RX
 refine Rx rfl (λK hK=>?_) ?_
 ·go_simp
  refine hK _ _ ?_;clear hK K;refine Sl (rs:=[6]) Ac Ad ?_;refine Rx rfl (λK hK=>?_) ?_
  ·refine step_lk rfl rfl rfl rfl (hlk _ Ar) ?_
   go_simp
   refine hK _ _ ?_;clear hK K;refine Sl (rs:=[10]) Ac Ad ?_;refine Rx rfl (λK hK=>?_) ?_;exact II;exact RX
  exact RX
 exact RX):p:=h
def MS(h:p:=by
 go_simp
 refine hK _ _ ?_;clear hK K;refine Sl (rs:=[6]) Ac Ad ?_;refine Rx rfl (λK hK=>?_) ?_
 ·refine step_lk rfl rfl rfl rfl (hlk _ Ar) ?_
  go_simp
  refine hK _ _ ?_;clear hK K;refine Sl (rs:=[10]) Ac Ad ?_;refine Rx rfl (λK hK=>?_) ?_;exact II;exact RX
 exact RX):p:=h
def MV(h:p:=by
 go_simp
 refine hK _ _ ?_;clear hK K;refine Sl (rs:=[10]) Ac Ad ?_;refine Rx rfl (λK hK=>?_) ?_;exact II
 exact RX):p:=h
def MW(h:p:=by
 obtain⟨v',W2,W3,hr,hx2,hr3,hown3,hnx3,hws3⟩:=hall;refine step_ap rfl rfl rfl rfl hr ?_
 go_simp
 refine hK _ _ ?_;clear hK K;refine Sl (rs:=[2]) Ac Ad ?_;refine Rx rfl (λK hK=>?_) ?_
 ·go_simp
  refine hK _ _ ?_;clear hK K;refine Sl (rs:=[11]) Ac Ad ?_;refine Rx rfl (λK hK=>?_) ?_;exact IK;exact RX
 exact RX):p:=h
def MX(h:p:=by
 have hlen2:B.length=E.length:=Au;have hBE:B=E:=Au;repeat' ((conv=>whnf);first|omega|refine zS ?_|refine zT ?_ ?_<;>intro _|fail)
 all_goals conv=>whnf
 refine⟨(D++[x],R),?_,⟨Ae,λz hz=>?_⟩,Ad⟩;exact IW
 exact Jy):p:=h
def MZ(h:p:=by
 refine mW (σ:=σ.put p.dst v []) (λhq=>Eu) ?_ ?_ ?_ h2;grind [bU];intro _ x hx;have e:(σ.put p.dst v []).ev x=σ.ev x:=Jc;rw[e];exact V.ok.imp (λj _=>Ir) (λj _ _=>Iu) _ (wf x);intro m _;cases m with
 |b j cs=>show σ.bx j=_;rw[b1]
 |a j cs=>show σ.ar j=_;rw[a1]):p:=h
def Na(h:p:=by
 refine⟨(E++[m],S),?_,⟨Au,λh=>?_⟩,Ad⟩;exact IW
 exact LG):p:=h
def Nb(h:p:=by
 refine dV ?_ ?_ ?_ ?_
 all_goals repeat' (first|exact trivial|refine And.intro ?_ ?_|with_reducible rfl|exact(λh=>Ah)|exact Rf _|omega|exact rfl)):p:=h
def Nc(h:p:=by
 refine hK _ _ ?_;clear hK K;refine Sl (rs:=[2,6,9]) Ac Ad ?_;refine Rx rfl (λK hK=>?_) ?_;exact MR;refine Rx rfl (λK hK=>?_) ?_
 ·refine step_lk rfl rfl rfl rfl (hlk _ Ar) ?_
  go_simp
  refine hK _ _ ?_;clear hK K;refine Sl (rs:=[2,9]) Ac Ad ?_;refine Rx rfl (λK hK=>?_) ?_
  ·go_simp
   refine hK _ _ ?_;clear hK K;refine Sl (rs:=[9]) Ac Ad ?_;refine Rx rfl (λK hK=>?_) ?_;exact MV;exact RX
  refine Rx rfl (λK hK=>?_) ?_
  ·go_simp
   refine hK _ _ ?_;clear hK K;refine Sl (rs:=[2,10]) Ac Ad ?_;refine Rx rfl (λK hK=>?_) ?_;exact MV;refine Rx rfl (λK hK=>?_) ?_;exact MW;exact RX
  exact RX
 refine Rx rfl (λK hK=>?_) ?_
 ·go_simp
  refine hK _ _ ?_;clear hK K;refine Sl (rs:=[2,6]) Ac Ad ?_;refine Rx rfl (λK hK=>?_) ?_;exact MS;refine Rx rfl (λK hK=>?_) ?_
  ·refine step_lk rfl rfl rfl rfl (hlk _ Ar) ?_
   go_simp
   refine hK _ _ ?_;clear hK K;refine Sl (rs:=[2,10]) Ac Ad ?_;refine Rx rfl (λK hK=>?_) ?_;exact MV;refine Rx rfl (λK hK=>?_) ?_;exact MW;exact RX
  exact RX
 exact RX):p:=h
def Nh(h:p:=by
 simp only[QY,Rj]
 exact zj):p:=h
def Nj(h:p:=by
 repeat' ((conv=>whnf);first|omega|refine zS ?_|refine zm (λx hx=>?_)|refine zT ?_ ?_<;>intro _|fail)
 all_goals exact zE):p:=h
def Nk(h:p:=by
 repeat' ((conv=>whnf);first|omega|refine zc g2 ?_|refine zc g3 ?_|refine zS ?_|refine zl (λhlt=>?_) (λhlt=>?_)|refine ze (λheq=>?_) (λheq=>?_))
 all_goals exact zE):p:=h
def Nl(h:p:=by
 rw[e1];generalize bs sid s.stocks e.id=k at*;repeat' ((conv=>whnf);first|omega|(exfalso;contradiction)|refine jI (λheq=>?_) (λheq=>?_)|refine aB (l:=s.stocks) Aa ?_|refine gK (l:=s.stocks) hm Aa ?_|refine zc g2 ?_|refine zc g3 ?_|refine zS ?_|refine zl (λhlt=>?_) (λhlt=>?_)|refine ze (λheq=>?_) (λheq=>?_))
 all_goals exact zE):p:=h
def Np(h:p:=by
 conv=>whnf
 refine aA (le_dec ?_);have h:=iO (Q:=Q) (l:=l);unfold fstI;constructor;intro h0;split at h0;exact Jj;omega;rintro⟨m,hm,hq⟩;split;omega;rename_i hlt
 exact(h.1 hlt m hm hq).elim):p:=h
def Nq(h:p:=by
 refine hK _ _ ?_;clear hK K;refine Sl (rs:=[2,10]) Ac Ad ?_;refine Rx rfl (λK hK=>?_) ?_;exact MV;refine Rx rfl (λK hK=>?_) ?_;exact MW
 exact RX):p:=h
def Nr(h:p:=by
 have hA2:=hcp2 (w.drew.setRow b X1) _ (n+1-i) 3 (c-i) (TN w.drew b cur X1 _ _ hb) Dc rfl Aa;try simp only[Ux]at hA2
 go_wp2_with (first|simp only[hA2,RG] |(at_builtin;refine wpList_copy_runI _ rfl _ _ _ _ rfl _ _ rfl rfl hA2 ?_))
 go_ret
 first|exact⟨rfl,rfl⟩|exact⟨rfl,Bh⟩):p:=h
def Ns(h:p:=by
 clear neg pos;repeat' ((conv=>whnf);first|omega|refine zc (fF s.2 s.1) ?_|refine zc (fF t.2 t.1) ?_|refine zc (fF t.1 s.1) ?_|refine zc hA ?_|refine zc hB ?_|refine zc g1 ?_|refine zc g2 ?_|refine uM hg ?_|refine bW7 ?_|refine zS ?_|refine zl (λhlt=>?_) (λhlt=>?_)|refine ze (λheq=>?_) (λheq=>?_))
 all_goals conv=>whnf
 all_goals first
  |(rw[l0 Aa];refine⟨?_,rfl,λrs h=>V.noConfusion h⟩;(repeat' (first|exact trivial|refine And.intro ?_ ?_|with_reducible rfl|exact(λh=>Ah)|exact rfl));done)
  |(rw[l1 Aa,dI2 Aa];refine⟨?_,rfl,λrs h=>V.noConfusion h⟩;(repeat' (first|exact trivial|refine And.intro ?_ ?_|with_reducible rfl|exact(λh=>Ah)|exact rfl));done)
  |(rw[l1 Aa,dD5 Aa];refine⟨?_,rfl,λrs h=>V.noConfusion h⟩;(repeat' (first|exact trivial|refine And.intro ?_ ?_|with_reducible rfl|exact(λh=>Ah)|exact rfl));done)):p:=h
def Nu(h:p:=by
 rw[hfl,hfl]at hV;repeat' ((conv=>whnf);first|omega|refine cC0 [(8,999),(9,999),(32,999),(33,999),(34,999),(36,999),(41,999),(39,999),(42,999),(44,999),(47,999),(49,999),(50,999),(10,10),(11,11),(12,12)] Af Ac ?_|refine uM Aa ?_|refine aB (l:=r) BR ?_|refine aB (l:=r) (by rw[kS (a:=k+2) (by omega)];omega) ?_|refine aB (l:=r) Aa ?_|(refine sW (k:=(k+1)% r.length) (kS Aa) hm1 ?_;rw[hvb])|(refine sW (k:=(k+2)% r.length) (kS Aa) hm2 ?_;rw[hvc])|(refine aU3 (k:=k) Aa hkr ?_;rw[hva])|refine aT1 ?_|refine aB4 (λhv=>?_) (λhv=>?_)|refine zc c1 ?_|refine zc c2 ?_|refine zc c3 ?_|refine zc c4 ?_|refine zc c5 ?_|refine zS ?_|refine zT ?_ ?_<;>intro _|fail)
 all_goals conv=>whnf
 exact MQ;refine⟨k+1,?_,⟨Aa,hN1 DW⟩,Aa⟩;exact zj
 ·have hx:=hF _ DR
  rw[hx];all_goals exact zE
 refine⟨k+1,?_,⟨Aa,hN1 Dx⟩,Aa⟩
 exact zj):p:=h
def Nv(h:p:=by
 generalize bs sid s.stocks e.id=k at*;generalize (∃m∈s.stocks,sid m=e.id)=P at*;repeat' ((conv=>whnf);first|(exfalso;contradiction)|refine jI (λheq=>?_) (λheq=>?_)|refine zh (h1) [100000] ?_|refine dS rfl rfl Aw ?_|refine zS ?_|refine zT ?_ ?_<;>intro _|fail)
 all_goals conv=>whnf
 all_goals first|exact⟨_,rfl,zc1⟩|exact zc1):p:=h
def Nw(h:p:=by
 simp only[QY,Rj,Rt,RH,SY]
 exact zj):p:=h
def Ny(h:p:=by
 refine hK _ _ ?_;clear hK K;refine Sl (rs:=[9]) Ac Ad ?_;refine Rx rfl (λK hK=>?_) ?_;exact MV
 exact RX):p:=h
def Nz(h:p:=by
 have hA:=el.room (vc:=vc) hroom hb hv hbs hvs h2
 go_enter fF,nF
 go_wp2_with (at_builtin;refine Lib.wpList_append_run _ rfl _ _ _ _ rfl _ _ rfl rfl _ _ (hA _) ?_)
 all_goals (go_ret;first|exact⟨rfl,rfl⟩|exact⟨rfl,Bh⟩)):p:=h
def N7(h:p:=by
 have h1:=find_spec s e.id hs;generalize bs sid s.stocks e.id=k at*;generalize (∃m∈s.stocks,sid m=e.id)=P at*;repeat' ((conv=>whnf);first|(exfalso;contradiction)|refine zh (h1) [100000] ?_|refine zS ?_|refine zT ?_ ?_<;>intro _|fail)
 all_goals conv=>whnf
 all_goals first|exact⟨_,rfl,zc1⟩|exact zc1):p:=h
def N8(h:p:=by
 have hr2:P↔¬(s1\/s2)/\0<c:=GY;repeat' ((conv=>whnf);first|(exfalso;revert hq;decide)|refine gC4 (λhq=>?_) (λhq=>?_)|refine zc h1 ?_|refine zc h2 ?_|refine zc h3 ?_|refine zc h4 ?_|refine zc h5 ?_|refine zS ?_|refine zT ?_ ?_<;>intro _|fail)
 all_goals conv=>whnf
 all_goals refine aA ?_
 all_goals first
  |exact aC (λh=>absurd (hr2.1 h).1 (λq=>q (.inl Ag)))
  |exact aC (λh=>absurd (hr2.1 h).1 (λq=>q (.inr Ag)))
  |exact aC (λh=>(hr2.1 h).2)
  |exact fE (hr2.2 ⟨λq=>q.elim Ag Ag,trivial⟩)
  |(refine aS1 ⟨λh=>hr2.2 ⟨λq=>q.elim Ag Ag,h⟩,λh=>(hr2.1 h).2⟩)):p:=h
def N9(h:p:=by
 subst e;repeat' ((conv=>whnf);first|omega|refine bW8 [(2,2),(3,3),(4,4)] [(42,[88888])] Af Ak ?_|refine cC0 [(2,2),(3,3),(25,2),(33,2),(38,2)] Af Ak ?_|refine iH rfl (.inl rfl) rfl (QV rfl) (fL0 (f:=aZ) (n:=9) (λ_=>rfl) s.pieces _) CG ?_|refine iH rfl (.inl rfl) rfl (QV rfl) (dA rfl) CP ?_|refine iH rfl (.inl rfl) rfl (QV rfl) (f_dt (f:=aZ) (n:=9) (λ_=>rfl) s.pieces _ _) AA ?_|refine fU ⟨Aa,Aa,Aa, .inr (fF6 (f:=aZ) (n:=9) (λ_=>rfl) s.pieces)⟩ ?_|refine zS ?_|refine zT ?_ ?_<;>intro _|fail)
 all_goals exact zE):p:=h
def NC(h:p:=by
 refine⟨?_,rfl,λrs h=>V.noConfusion h⟩
 (repeat' (first|exact trivial|refine And.intro ?_ ?_|with_reducible rfl|exact(λh=>Ah)|exact rfl));done):p:=h
def ND(h:p:=by
 repeat' ((conv=>whnf);first|(exfalso;revert hq;decide)|refine gC4 (λhq=>?_) (λhq=>?_)|refine zc h1 ?_|refine zc h2 ?_|refine zc h3 ?_|refine zc h4 ?_|refine zS ?_|refine zT ?_ ?_<;>intro _|fail)
 all_goals conv=>whnf
 all_goals refine aA ?_
 all_goals first
  |exact aC (λh=>absurd (hr2.1 h).1 (λq=>q (.inl Ag)))
  |exact aC (λh=>absurd (hr2.1 h).1 (λq=>q (.inr Ag)))
  |exact aC (λh=>(hr2.1 h).2)
  |exact fE (hr2.2 ⟨λq=>q.elim Ag Ag,trivial⟩)
  |(refine aS1 ⟨λh=>hr2.2 ⟨λq=>q.elim Ag Ag,h⟩,λh=>(hr2.1 h).2⟩)):p:=h
def NE(h:p:=by
 refine dV ?_ ?_ ?_ ?_;all_goals repeat' (first|exact trivial|refine And.intro ?_ ?_|with_reducible rfl|exact(λh=>Ah)|exact Rf _|omega|exact rfl)
 all_goals (try rw[hl])):p:=h
def NF(h:p:=by
 have h1:=find_spec s e.id hs;have hkl:=(QW.1 hm).1;have hll:(s.stocks.map aQ).length=s.stocks.length:=Ad;have hl:=hs.ls;generalize bs sid s.stocks e.id=k at*;generalize (∃m∈s.stocks,sid m=e.id)=P at*;rw[cP1];repeat' ((conv=>whnf);first|(exfalso;contradiction)|refine jI (λheq=>?_) (λheq=>?_)|refine zh (h1) [100000] ?_|refine dS rfl rfl Aw ?_|refine dB8 rfl rfl ?_|refine zS ?_|refine zT ?_ ?_<;>intro _|fail)
 all_goals conv=>whnf
 all_goals first|exact⟨_,rfl,zc1⟩|exact zc1):p:=h
def NG(h:p:=by
 repeat' ((conv=>whnf);first|refine zg ?_|refine zi ?_|refine zw ?_|refine zy ?_|refine zo ?_|refine zn ?_|refine zm (λx hx=>?_)|refine zv ?_|refine zz (λ_=>?_) λ_=>?_|refine zb (λ_=>?_) λ_=>?_|refine zr ?_|refine zq ?_)
 all_goals exact zE):p:=h
def NH(h:p:=by
 refine⟨(D++[x],R,S),?_,⟨Ae,?_⟩,Ad⟩;exact IW;have hxy:x=y:=by assumption
 rw[hq,hxy];simp):p:=h
def NI(h:p:=by
 repeat' ((conv=>whnf);first|omega|refine zS ?_|refine zl (λhlt=>?_) (λhlt=>?_))
 all_goals exact zE):p:=h
def NJ(h:p:=by
 rw[hb];unfold plus at g6⊢;generalize gG m=z at*;repeat' ((conv=>whnf);first|omega|(exfalso;contradiction)|refine eZ1 Ak ?_|refine jI (λheq=>?_) (λheq=>?_)|refine aB (l:=s.stocks) Aa ?_|refine gK (l:=s.stocks) hm Aa ?_|refine zc g2 ?_|refine zc g3 ?_|refine zc g4 ?_|refine zc g5 ?_|refine zc g6 ?_|refine zS ?_|refine zl (λhlt=>?_) (λhlt=>?_)|refine ze (λheq=>?_) (λheq=>?_))
 all_goals exact zE):p:=h
def NK(h:p:=by
 simp only;rw[eR];repeat' ((conv=>whnf);first|omega|(exfalso;contradiction)|refine jI (λheq=>?_) (λheq=>?_)|refine aB (l:=s.stocks) Aa ?_|refine dS rfl rfl Aw ?_|refine dB8 rfl rfl ?_|refine gK (l:=s.stocks) hm Aa ?_|refine zc g2 ?_|refine zc g3 ?_|refine zS ?_|refine zl (λhlt=>?_) (λhlt=>?_)|refine ze (λheq=>?_) (λheq=>?_))
 all_goals exact zE):p:=h
def NM(h:p:=by
 repeat' ((conv=>whnf);first|(exfalso;contradiction)|omega|refine zc gP ?_|refine zc gS ?_|refine eZ1 Ak ?_|refine jI (λheq=>?_) (λheq=>?_)|refine zS ?_|refine zm (λx hx=>?_)|refine zT ?_ ?_<;>intro _|fail)
 all_goals conv=>whnf
 refine⟨(D++[x],R),?_,Ae,Ad⟩;simp only[QY,Rj];rw[r3,r5]
 exact zj):p:=h
def NP(h:p:=by
 refine hK _ _ ?_;clear hK K;refine Sl (rs:=[5,9]) Ac Ad ?_;refine Rx rfl (λK hK=>?_) ?_;exact MR;refine Rx rfl (λK hK=>?_) ?_
 ·go_simp
  refine hK _ _ ?_;clear hK K;refine Sl (rs:=[5]) Ac Ad ?_;refine Rx rfl (λK hK=>?_) ?_;exact MS;exact RX
 exact RX):p:=h
def NQ(h:p:=by
 rw[hi]at h1;rw[hg];repeat' ((conv=>whnf);first|omega|refine zS ?_|refine zl (λhlt=>?_) (λhlt=>?_))
 all_goals conv=>whnf
 refine⟨_,rfl,⟨?_,RI (λb=>Value.bool b) (aC hP),trivial⟩,rfl⟩
 (repeat' (first|exact trivial|refine And.intro ?_ ?_|with_reducible rfl|exact(λh=>Ah)|exact rfl));done):p:=h
def NR(h:p:=by
 rw[hi]at h1;repeat' ((conv=>whnf);first|omega|refine zS ?_|refine zl (λhlt=>?_) (λhlt=>?_))
 all_goals conv=>whnf
 refine⟨_,rfl,⟨?_,RI (λb=>Value.bool b) (fE hP),trivial⟩,rfl⟩
 (repeat' (first|exact trivial|refine And.intro ?_ ?_|with_reducible rfl|exact(λh=>Ah)|exact rfl));done):p:=h
def NS(h:p:=by
 repeat' ((conv=>whnf);first|omega|refine zh (g1) [100000] ?_|refine bW8 [] [(201,[88888])] trivial Ac ?_|refine zh (xX g2) [] ?_|refine zS ?_|refine zT ?_ ?_<;>intro _|fail)
 all_goals conv=>whnf
 refine⟨(Q++[c],R),?_,Ae,Ad⟩;simp only[stA3,stB3,hsn,QY,Rj]
 exact zj):p:=h
def NT(h:p:=by
 have h1:=aE0 e he;have h2:=aV4 s.stocks hs.ls;have h3:=aV7 s.pieces hs.lp;have h4:=aT5 s.used hs.lu;repeat' ((conv=>whnf);first|(exfalso;contradiction)|refine eV6 (v:= .fn f []) (RI (λo=>Option.getD o _) hg) ?_|refine zh (hm) [6] ?_|refine zS ?_|refine zT ?_ ?_<;>intro _|fail)
 all_goals exact zE):p:=h
def NU(h:p:=by
 rw[hb9];repeat' ((conv=>whnf);first|omega|(exfalso;contradiction)|refine eZ1 Ak ?_|refine cC0 [(8,8),(9,9),(5,5),(142,8),(145,9),(146,9),(148,5),(151,9),(152,9)] Af Ak ?_|refine zc g2 ?_|refine zc gi ?_|refine zS ?_|refine zm (λx hx=>?_)|refine zT ?_ ?_<;>intro _|fail)
 all_goals exact zE):p:=h
def NV(h:p:=by
 repeat' ((conv=>whnf);first|omega|refine zS ?_|refine zT ?_ ?_<;>intro _|fail)
 all_goals exact zE):p:=h
def NW(h:p:=by
 rw[e1];generalize bs Piece.id s.pieces e.id=k at*;repeat' ((conv=>whnf);first|omega|refine aB (l:=s.pieces) Aa ?_|refine gK (l:=s.pieces) hm Aa ?_|refine zc g2 ?_|refine zc g3 ?_|refine zS ?_|refine zl (λhlt=>?_) (λhlt=>?_)|refine ze (λheq=>?_) (λheq=>?_))
 all_goals exact zE):p:=h
def NY(h:p:=by
 refine⟨(D++[x],R),?_,Ae,Ad⟩;simp only[QY,Rj];rw[r3,r5]
 exact zj):p:=h
def NZ(h:p:=by
 refine⟨(D++[h],R),?_,Ae,Ad⟩;show Le T _ (fQ8 s (D++[h]).length (srtH ((D++[h]).map wL)));rw[hsn,hins k hk',QY,Rj];unfold fQ8;rw[gC2 (X:=List.take k (y::Y)++x::List.drop k (y::Y)) Ad,fI6];refine Le.trans (fB (k:=44) rfl (.inl rfl)) ?_
 exact zj):p:=h
def Oa(h:p:=by
 rw[e];repeat' ((conv=>whnf);first|omega|refine zS ?_|refine zm (λx hx=>?_)|refine zT ?_ ?_<;>intro _|fail)
 all_goals conv=>whnf
 refine⟨_,rfl,?_⟩;rw[hm,hlen]
 (repeat' (first|exact trivial|refine And.intro ?_ ?_|with_reducible rfl|exact(λh=>Ah)|exact rfl));done):p:=h
def Ob(h:p:=by
 rw[<-hs0,SX]at hw;have e:(((whS fG s 0:Nat):Int)=(s.size:Int))↔whS fG s 0=s.size:=Aa;show(((whS fG s 0:Nat):Int)=(s.size:Int))↔_;rw[e,hw];constructor;intro h;exact⟨Aa,hsm,hd,λi hi=>dH.1 (h i (RY _) Aa)⟩;intro h j _ hj
 exact dH.2 (h.2.2.2 j Aa)):p:=h
def Oc(h:p:=by
 cases hO:G.O b with
 |ext=>exact absurd hO hb
 |fz=>exact .inl ⟨rfl,rfl⟩
 |bx i=>exact absurd hO (h3 b i)
 |ar j=>exact .inr (.inr ⟨j,rfl⟩)):p:=h
def Oe(h:p:=by
 repeat' ((conv=>whnf);first|(exfalso;contradiction)|refine cC0 [(14,14),(57,14),(62,14),(10,10),(60,10),(65,10)] Af Ak ?_|refine fK e1 ?_|refine zS ?_|refine zm (λx hx=>?_)|refine zT ?_ ?_<;>intro _|fail)
 all_goals conv=>whnf
 refine⟨(),?_,trivial⟩;rw[r1,r2]
 exact zj):p:=h
def Og(h:p:=by
 have hdef:∀(σ:St) K,oI place σ (p::r) cs K=(match place p.1 with
  |some (o,z)=>cond (Nat.beq (lenR (σ.ev p.2).cells) z&&Nat.ble (o+z) (lenR cs)&&allR V.one (σ.ev p.2).cells) (oI place σ r (splice cs o (σ.ev p.2).cells) K) False
  |none=>False):=λσ K=>rfl
 grind):p:=h
def Oh(h:p:=by
 repeat' ((conv=>whnf);first|(refine aS5 (h1) true ?_ rfl ?_;focus ((repeat' (first|exact trivial|refine And.intro ?_ ?_|with_reducible rfl|exact(λh=>Ah)|exact rfl));done))|refine zS ?_|fail)
 all_goals conv=>whnf
 all_goals first|exact⟨_,rfl,zc1⟩|exact zc1):p:=h
def Oi(h:p:=by
 repeat' ((conv=>whnf);first|(exfalso;contradiction)|refine zc h1 ?_|refine zS ?_|refine zT ?_ ?_<;>intro _|fail)
 all_goals exact zE):p:=h
def Oj(h:p:=by refine⟨_,rfl,⟨⟨QV Ac,rfl⟩,rfl,trivial⟩,rfl⟩):p:=h
def Ol(h:p:=by exact⟨sG hs he hf Di q1,λh=>(q2 h).mono Aa⟩):p:=h
def Om(h:p:=by
 repeat' ((conv=>whnf);first|omega|(exfalso;contradiction)|refine bW8 [] [(32,[88888])] trivial Ak ?_|refine zS ?_|refine zm (λx hx=>?_)|refine zT ?_ ?_<;>intro _|fail)
 all_goals conv=>whnf
 all_goals first|exact⟨_,rfl,zc1⟩|exact zc1):p:=h
def Oo(h:p:=by
 unfold sc;simp only[g1,Int.mul_zero,Int.mul_one,Int.sub_self,Int.mul_neg]
 congr 2;omega):p:=h
def Oq(h:p:=by
 repeat' ((conv=>whnf);first|refine zg ?_|refine zw ?_|refine zr ?_)
 all_goals exact zE):p:=h
def Ot(h:p:=by
 rw[e2]at q2 q3;rw[e3]at q3;rw[e4]at q4 q5;rw[e5]at q5;have k1:=key _ _ _ ⟨q2,q3⟩;have k2:=key _ _ _ ⟨q4,q5⟩
 omega):p:=h
def Ou(h:p:=by
 cases xs with
 |nil=>exact⟨rfl,λi x y hx=>I7⟩
 |cons x r=>exact(h:False).elim):p:=h
def Ov(h:p:=by
 generalize (a.defects=b.defects)=p2 at*;repeat' ((conv=>whnf);first|refine jI (λheq=>?_) (λheq=>?_)|refine zS ?_|refine zT ?_ ?_<;>intro _|fail)
 all_goals conv=>whnf
 all_goals first
  |exact aA (fQ Bg)
  |exact aA (aC Bg)):p:=h
def Ox(h:p:=by
 unfold Com;rw[gZ hs,gZ ht];have k1:=dE8 hw la lb hp;have k2:=dE8 hw lc ld hp;constructor;rintro⟨q1,q2⟩;exact⟨k1.1 q1.1,k2.1 q2.1⟩;rintro⟨q1,q2⟩
 exact⟨⟨k1.2 q1,hp⟩,⟨k2.2 q2,lt' p hp⟩⟩):p:=h
def Oy(h:p:=by
 repeat' ((conv=>whnf);first|refine zS ?_|refine zT ?_ ?_<;>intro _|fail)
 all_goals conv=>whnf
 all_goals first
  |exact aA (le_dec ⟨λh=>⟨Aa,Aa⟩,λh=>h.2⟩)
  |exact aA (aC (λh=>by have:=h.1;omega))):p:=h
def Oz(h:p:=by
 repeat' ((conv=>whnf);first|omega|(exfalso;contradiction)|refine zS ?_|refine zm (λx hx=>?_)|refine zT ?_ ?_<;>intro _|fail)
 all_goals conv=>whnf
 all_goals first|exact⟨_,rfl,zc1⟩|exact zc1):p:=h
def O0(h:p:=by
 repeat' ((conv=>whnf);first|(exfalso;contradiction)|omega|refine cC5 ?_|refine cA4 (a:=r.box) (b:=bx0) (λhv=>?_) (λhv=>?_)|refine zS ?_|refine zT ?_ ?_<;>intro _|fail)
 all_goals exact zE):p:=h
def O1(h:p:=by
 repeat' ((conv=>whnf);first|omega|refine zS ?_|refine zl (λhlt=>?_) (λhlt=>?_)|refine ze (λheq=>?_) (λheq=>?_))
 all_goals conv=>whnf
 exact aG (hS heq).symm
 exact KZ):p:=h
def O3(h:p:=by
 repeat' ((conv=>whnf);first|refine zc g0 ?_|refine zc g1 ?_|refine zS ?_|fail)
 all_goals exact zE):p:=h
def O4(h:p:=by
 rw[yN Aj Aj Aj,tC];simp only;have:=uY (x:=c-a) (y:=d-b) Aa Aa
 grind):p:=h
def O5(h:p:=by
 refine dV ?_ ?_ ?_ ?_;all_goals repeat' (first|exact trivial|refine And.intro ?_ ?_|with_reducible rfl|exact(λh=>Ah)|exact Rf _|omega|exact rfl)
 all_goals (try rw[hm1])):p:=h
def O6(h:p:=by
 repeat' ((conv=>whnf);first|refine zS ?_|fail)
 all_goals exact zE):p:=h
def O7(h:p:=by
 rw[e1,e2];repeat' ((conv=>whnf);first|(exfalso;contradiction)|refine zc m1 ?_|refine zc m2 ?_|refine zc m3 ?_|refine zS ?_|refine zT ?_ ?_<;>intro _|fail)
 all_goals exact zE):p:=h
def O8(h:p:=by
 have h1:opVC T σ d o.op (Is v ms):=by
  simp_all
 obtain⟨v',w1,v1,ms1,G',hr,⟨rfl,rfl⟩,inv',hv,hvo⟩:=xQ hT inv o h1
 exact⟨_,_,_,Inv.put' _ inv' hd hv hvo⟩):p:=h
def O9(h:p:=by
 repeat' ((conv=>whnf);first|omega|refine zS ?_|refine zT ?_ ?_<;>intro _|fail)
 all_goals conv=>whnf
 all_goals first|exact⟨_,rfl,zc1⟩|exact zc1):p:=h
def OA(h:p:=by
 refine cA7 ?_;conv=>whnf
 exact⟨[],rfl,⟨⟨rfl,rfl,rfl,rfl⟩,trivial⟩,rfl⟩):p:=h
def OB(h:p:=by
 repeat' ((conv=>whnf);first|refine zc g0 ?_|refine zS ?_|fail)
 all_goals exact zE):p:=h
def OC(h:p:=by
 have e2:(u i).2=M*(2*l):=CV;rcases hz2 with q|q|q;exact absurd q.2 hne;exact LC;refine⟨l,?_⟩
 rw[q,e2,Int.mul_add M (2*l) 1,Int.mul_one]):p:=h
def OD(h:p:=by
 obtain⟨x,rfl⟩:=UK.1 (hl1.symm.trans h)
 exact hne x rfl):p:=h
def OE(h:p:=by
 refine Le.trans (fB (k:=44) rfl (.inl rfl)) ?_
 exact zj):p:=h
def OG(h:p:=by
 obtain⟨v1,ms1,⟨_,h2⟩,h3⟩:=hm _ h'
 rw[<-h2,h3]):p:=h
def OH(h:p:=by
 obtain⟨b,s,br,p⟩:=x;cases b;exact zF
 exact zF):p:=h
def OI(h:p:=by
 rcases hl with rfl|⟨s',rfl⟩;exact Ja
 exact Ja):p:=h
def OJ(h:p:=by
 split at h;all_goals first|exact h|exact h.elim|skip
 simp_all [V.agr,V.ok]):p:=h
def OL(h:p:=by
 rw[ev];cases E with
 |nil=>
  have h00:([] :List Rest).length=0:=rfl;exact zF
 |cons d E=>
  have h00:(d::E).length=E.length+1:=rfl
  exact zF):p:=h
def OM(h:p:=by
 rw[hA];cases ins
 all_goals
  repeat' ((conv=>whnf);first|omega|refine zS ?_|refine zT ?_ ?_<;>intro _|fail)
 all_goals exact zE):p:=h
def OO(h:p:=by
 rw[range_split hk,List.findSome?_append,List.findSome?_eq_none_iff.2 (λj hj=>h j (Tf.1 hj)),List.findSome?_cons,hx]
 rfl):p:=h
def OQ(h:p:=by
 repeat' ((conv=>whnf);first|omega|refine zS ?_|refine zl (λhlt=>?_) (λhlt=>?_))
 conv=>whnf
 refine aG ?_
 rw[<-hk,hks]):p:=h
def OT(h:p:=by
 obtain⟨cs,hcs⟩:=hisb i (QZ hj);obtain⟨c,t,q1,q2,q3⟩:=inv.box i cs hcs
 exact⟨cs,c,t,hcs,q1,q2,q3⟩):p:=h
def OU(h:p:=by
 rcases h.bK8 with h|⟨ad,c,sz,cc,h1,h2,h3,h4,h5,h6,h7⟩;exact .inl h
 exact .inr ⟨ad,c,sz,h1,h2,h3,h5,⟨cc,h6,h7⟩⟩):p:=h
def OV(h:p:=by
 obtain⟨e,w',fr,⟨v',rfl,v1,ms1,G',⟨rfl,rfl⟩,inv',hv,hvo⟩,_⟩:=hcalls []
 exact⟨_,_,_,Inv.put' _ inv' hd hv hvo⟩):p:=h
def OW(h:p:=by
 obtain⟨v,rfl⟩:∃v,vs=[v] :=UK.1 hl1
 exact⟨[r],g1,g2,λGr q1=>rr_one g3 (q1 0 v r rfl rfl)⟩):p:=h
def OX(h:p:=by
 rw[h];repeat' ((conv=>whnf);first|omega|refine zS ?_|refine ze (λheq=>?_) (λheq=>?_))
 all_goals exact zE):p:=h
def OY(h:p:=by
 refine⟨(D++[y],R),?_,by rw[show l=D++y::R from hp];simp,Ad⟩;simp only[es,eD];unfold gU;simp only[<-lH,<-mG]
 exact zj):p:=h
def OZ(h:p:=by
 repeat' ((conv=>whnf);first|refine zS ?_|refine zm (λx hx=>?_)|refine zT ?_ ?_<;>intro _|fail)
 all_goals exact zE):p:=h
def Pg(h:p:=by
 unfold Oper.looksAt;rw[Rh];left;rw[List.mem_filterMap]
 exact⟨.tmp t,U3.2 hx,rfl⟩):p:=h
def Ph(h:p:=by exact⟨⟨⟨rfl,rfl,rfl,rfl⟩,trivial⟩,rfl,λ_ h=>Ah⟩):p:=h
def Pj(h:p:=by
 rcases hi.p.first hh.s ho.s hm with c|c|⟨j,z,hz,c⟩;omega;omega;rw[hi.q.const ho.s hh.s j hz]at c
 omega):p:=h
def Pm(h:p:=by simp[execOp,ho,ex,ey,Instr.lookup,dI u1,Ua q3,hc,UB u2 r1,Result.andThen]):p:=h
def Pn(h:p:=by
 simp only;by_cases h:e.1.2<e.2.2;simp_all [QU,le_mul,Int.mul_sub]
 simp_all [Q9,le_mul,Int.mul_sub]):p:=h
def Po(h:p:=by
 obtain⟨v1,ms1,⟨_,h2⟩,h3⟩:=hm _ h'
 rw[<-h2];exact h3):p:=h
def Pq(h:p:=by
 rcases ih _ h with h|h;exact Lr
 exact .inr (by simp[h])):p:=h
def Pv(h:p:=by
 have hp:z.pure:=aH.1 hl z (QZ hz)
 cases z<;>simp_all [UJ,V.pure,V.ok,V.cells,V.okL]):p:=h
def Px(h:p:=by
 refine⟨v,ms,G',hk,?_⟩
 exact Inv.put' ms inv' hd hv hvo):p:=h
def Py(h:p:=by
 cases x with
 |sl l=>exact h l
 |cap l=>exact h l
 |lit u=>exact JJ
 |arr k g=>exact LU
 |_=>exact Det.false):p:=h
def Pz(h:p:=by
 rw[yN Aj Aj Aj,tC];simp only;have:=uY (x:=c-a) (y:=d-b) Aa Aa;rw[show b-b=0 from Aa,Int.zero_mul]
 omega):p:=h
def P5(h:p:=by
 repeat' ((conv=>whnf);first|refine zS ?_|fail)
 all_goals conv=>whnf
 all_goals exact aA (sK RU)):p:=h
def P6(h:p:=by
 simp only[Tv,mkB_size,Tz,Ro,Tc]
 omega):p:=h
def P7(h:p:=by
 have:i+1+(l.length:Int)=i+((e::l).length:Nat):=by simp only[Ro];omega
 rw[this]
 rfl):p:=h
def P8(h:p:=by
 rw[dI7 hs ht hd,hA,hB];split;unfold uJ;rw[Q9 Aa,QU Aa]
 simp_all [Q9,QU,uJ]):p:=h
def P9(h:p:=by
 rw[RN]at hx;cases hy:xs[j]? with
 |none=>rw[hy]at hx;cases hx
 |some y=>exact J4):p:=h
def PD(h:p:=by
 rw[RN]at hx;cases hy:xs[j]? with
 |none=>rw[hy]at hx;cases hx
 |some y=>exact JB):p:=h
def PE(h:p:=by
 have h1:w.1≠0:=λh'=>hw (Prod.ext h' h2);rw[h2,Int.zero_mul]at e
 grind [Int.mul_eq_zero]):p:=h
def PG(h:p:=by
 have:N*X (dif d c) (dif z c)=0:=AQ;rcases Int.mul_eq_zero.1 this with q|q;omega
 exact q):p:=h
def PI(h:p:=by
 unfold sc;simp only[g1,g2,Int.mul_zero,Int.mul_one,Int.sub_self,Int.mul_neg]
 congr 2;omega):p:=h
def PK(h:p:=by
 obtain⟨v',ms',⟨rfl,rfl⟩,q2,q3⟩:=yX (aN7 hh rfl) h
 exact λm hm=> .inl (q2 m hm)):p:=h
def PL(h:p:=by
 have hpx:p.id≠x.id:=λe=>LY
 exact⟨p,(hfold p).2 (.inr (.inl ⟨hp,hpx⟩)),e1,e2⟩):p:=h
def PN(h:p:=by
 obtain⟨cs,rfl,_⟩:=h;rw[hu]
 exact⟨λ_=>⟨cs,rfl⟩,λh=>by simp[aggB]at h⟩):p:=h
def PO(h:p:=by exact⟨⟨⟨QV Ac,rfl⟩,trivial⟩,rfl,λrs h=>V.noConfusion h⟩):p:=h
def PU(h:p:=by
 clear q2 s6 t1;have h1:w2-w0=o5-o1:=Aa;by_cases c:v.2<a.2/\T<0;exact Kw
 exact Ky):p:=h
def PV(h:p:=by
 have:b=true:=by
  have h':some true=some b:=h;simpa using h'.symm
 subst this
 simp):p:=h
def PW(h:p:=by
 cases hq:ar k with
 |none=>rw[hq]at h';exact h'.elim
 |some en=>exact⟨en,rfl⟩):p:=h
def PX(h:p:=by
 split;exact Det.bJ λl=>Det.cond (Det.ret _ _) Det.false
 exact Det.false):p:=h
def PY(h:p:=by
 have h2:=(vH ha.oa hf).2
 exact((zD ha.ob (vN ha.oa.2.2.1 h2)).1 (hin _ h2)).2):p:=h
def PZ(h:p:=by
 rw[hrc,eD8 hrb];obtain⟨x0,x1,x2,y0,y1,y2⟩:=hrb;unfold dQ;simp only
 omega):p:=h
def Qa(h:p:=by
 show Le T _ (fM4 E s t ((D++[y]).length) (comL s t (D++[y])));rw[e]
 exact zj):p:=h
def Qb(h:p:=by
 refine aA (fE ?_);rw[ek,TM,hab,TM]at ht
 exact ht):p:=h
def Qc(h:p:=by
 have h2:upd σ.bx i (some cs) i=some xs:=hi
 rw[upd_same]at h2;cases h2;rfl):p:=h
def Qd(h:p:=by
 subst ho;cases p with
 |none=>exact(h:False).elim
 |some x=>exact⟨x,rfl⟩):p:=h
def Qe(h:p:=by exact .plain inv (run _ _ _ hb) hk hnv (by simp only[V.ok];exact hsub _ _)):p:=h
def Qg(h:p:=by
 rw[hgs,SE]
 exact(aR3 hil j _).2 ⟨i,b,h1,h2,rfl⟩):p:=h
def Qh(h:p:=by
 have hp:=(U3.1 hp);simp[Op.operands]
 exact⟨p.1,hp⟩):p:=h
def Qi(h:p:=by
 refine Rx rfl (λK hK=>?_) ?_;exact MR
 exact RX):p:=h
def Qj(h:p:=by
 refine⟨(E++[y],S),?_,⟨Au,λz hz=>?_⟩,Ad⟩;exact IW
 exact Ls):p:=h
def Qk(h:p:=by
 have:=dW.1 e;have k:big M (vr b) 0=mulV (2*M) (vr b 0):=rfl;rw[k]
 omega):p:=h
def Ql(h:p:=by
 cases x with
 |tmp t=>exact KG
 |const v=>rfl
 |global g=>rfl
 |func f=>rfl):p:=h
def Qm(h:p:=by
 split;rename_i u;split;rw[h.bH];exact .slN;exact h
 exact h):p:=h
def Qn(h:p:=by
 rw[TU,Array.getElem?_append_right Aa]
 grind):p:=h
def Qo(h:p:=by
 rcases Rl.1 hr with rfl|hr;exact h.1
 exact h.2.2 r hr):p:=h
def Qp(h:p:=by
 rcases Rl.1 hp with rfl|hp;exact h1
 exact ih h2 p hp):p:=h
def Qq(h:p:=by
 obtain⟨ns,⟨_,h4⟩,q2⟩:=bE6 h4;rw[<-h4]
 exact hfin _ _ q1 q2):p:=h
def Qu(h:p:=by
 rcases Rl.1 hz with rfl|hz;exact hp
 exact hl' z hz):p:=h
def Qv(h:p:=by
 simp only[hsn,QY,Rj]
 exact zj):p:=h
def Qw(h:p:=by exact V.ok.imp (λ_ h=>h) (λ_ _ h=>h.elim) _ (bC3 hui h')):p:=h
def Qx(h:p:=by
 obtain⟨v',ms',⟨rfl,rfl⟩,q⟩:=bY1 T σ d _ _ h1
 exact q):p:=h
def Qy(h:p:=by
 unfold X dif at hx;simp only at hx;unfold pN pK
 split<;>grind):p:=h
def Qz(h:p:=by rw[Sz,QX h];rfl):p:=h
def Q5(h:p:=by
 split;exact λK hk=>⟨_,_,hk.out,hn⟩
 exact Mo.false):p:=h
def Q7(h:p:=by
 obtain⟨rfl,_⟩:=h
 grind [lQ,aH,RQ,V.ok]):p:=h
def Q8(h:p:=by exact QU (SN.1 λq=>hd ⟨q,trivial⟩)):p:=h
def QA(h:p:=by exact⟨v,ns++ms,G',hk1 _ _ hk,Inv.put' _ inv' hd hv hvo⟩):p:=h
def QB(h:p:=by
 rcases hmo m hm with h|⟨i',hi',h⟩;exact Lj
 exact MJ):p:=h
def QC(h:p:=by
 split;rw[UE,bF8];congr 1;omega
 congr 1;omega):p:=h
def QD(h:p:=by
 split;exact Det.map λv=>Det.ret _ _
 exact Det.false):p:=h
def QE(h:p:=by exact⟨ys,k1,by simpa using k2,k3,by simpa using k4,k5⟩):p:=h
def QF(h:p:=by
 unfold itoaB Lib.itoa
 simp_all [Q9,itoa_more,itoa_dig]):p:=h
def QG(h:p:=by
 cases D with
 |nil=>exact absurd hp AU
 |cons d D=>exact KF):p:=h
def QH(h:p:=by
 obtain⟨j,hj⟩:=RF hy
 exact dF hp hj):p:=h
def QI(h:p:=by
 conv=>whnf
 refine aG ?_;unfold fstI
 rw[Q9 (iO.2 DX)]):p:=h
def QJ(h:p:=by
 rw[force_eq]at h';obtain⟨rfl,_⟩:=h'
 exact aC5 hg hc):p:=h
def QK(h:p:=by exact U5 λhn=>h ⟨v,hv,hn⟩):p:=h
def QL(h:p:=by
 rw[hx]at this;simp only[V.ok]at this
 exact⟨g,this⟩):p:=h
def QM(h:p:=by exact⟨_,_,G,hk,Inv.put' [] inv hd (B_ok _ _ _) dL⟩):p:=h
def QN(h:p:=by
 show upd _ _ _ _=upd _ _ _ _
 grind [upd_same,upd_ne]):p:=h
def QO(h:p:=by
 simp[IntKind.wrap,IntKind.signed,IntKind.bits]
 omega):p:=h
def QR(h:p:=by
 have:(none:Option (List V))=some cs':=hi
 cases this):p:=h
def QS(h:p:=by cases x<;>simp only at h⊢<;>simp_all [V.agr,V.ok]):p:=h
def QT(h:p:=by
 have:=hc c Ad
 grind [lH,Int.min_eq_right,sub1,w_in]):p:=h
end Go.Ab
