/- Lemmas. -/
import Derived.WalkKit
import Derived.Deep.Draws
import Derived.Laws.AppendOwn
set_option linter.all false
namespace Go.Ab
theorem OY:type_of%@List.length_append:=@List.length_append
def OZ:=@of_decide_eq_true
def Pg:=@List.getElem?_eq_some_iff
theorem Ph:type_of%@if_neg:=@if_neg
def Pj:=@List.getElem?_eq_getElem
theorem Pm:type_of%@if_pos:=@if_pos
theorem Pn:type_of%@List.mem_of_getElem?:=@List.mem_of_getElem?
def Po:=@Nat.le_refl
theorem Pq:type_of%@List.append_assoc:=@List.append_assoc
theorem Pv:type_of%@List.mem_append:=@List.mem_append
theorem Px:type_of%@Bool.and_eq_true:=@Bool.and_eq_true
theorem Py:type_of%@List.mem_singleton:=@List.mem_singleton
theorem Pz:type_of%@List.append_nil:=@List.append_nil
theorem P5:type_of%@List.mem_cons:=@List.mem_cons
theorem P6:type_of%@List.length_map:=@List.length_map
def P7:=@List.getElem?_of_mem
theorem P8:type_of%@Nat.zero_le:=@Nat.zero_le
theorem P9:type_of%@Result.andThen_ok:=@Result.andThen_ok
def PD:=@Nat.le_trans
theorem PE:type_of%@List.length_cons:=@List.length_cons
theorem PG:type_of%@List.length_take:=@List.length_take
theorem PI:type_of%@List.mem_map:=@List.mem_map
theorem PK:type_of%@List.getElem?_map:=@List.getElem?_map
theorem PL:type_of%@List.length_singleton:=@List.length_singleton
def PN:=@congrArg
theorem PO:type_of%@List.mem_of_mem_take:=@List.mem_of_mem_take
def PS:=@Array.getElem?_eq_some_iff
theorem PU:type_of%@List.mem_of_mem_drop:=@List.mem_of_mem_drop
theorem PV:type_of%@List.length_eq_zero_iff:=@List.length_eq_zero_iff
theorem PW:type_of%@List.map_cons:=@List.map_cons
theorem PX:type_of%@Array.length_toList:=@Array.length_toList
theorem PY:type_of%@List.getD_eq_getElem?_getD:=@List.getD_eq_getElem?_getD
def PZ:=@List.eq_nil_of_length_eq_zero
theorem Qa:type_of%@List.map_append:=@List.map_append
def Qb:=@run_underlying
theorem Qc:type_of%@Int.toNat_natCast:=@Int.toNat_natCast
theorem Qd:type_of%@Sem.run_bind:=@Sem.run_bind
theorem Qe:type_of%@List.getElem?_drop:=@List.getElem?_drop
theorem Qg:type_of%@Option.map_some:=@Option.map_some
theorem Qh:type_of%@List.mem_range:=@List.mem_range
theorem Qi:type_of%@List.getElem?_cons_succ:=@List.getElem?_cons_succ
def Qj:=@List.getElem?_eq_none
theorem Qk:type_of%@List.flatMap_cons:=@List.flatMap_cons
theorem Ql:type_of%@Option.some.injEq:=@Option.some.injEq
theorem Qm:type_of%@List.length_drop:=@List.length_drop
def Qn:=@Iff.rfl
theorem Qo:type_of%@cond_true:=@cond_true
theorem Qp:type_of%@Nat.eq_of_beq_eq_true:=@Nat.eq_of_beq_eq_true
theorem Qq:type_of%@List.take_append_drop:=@List.take_append_drop
theorem Qu:type_of%@cond_false:=@cond_false
theorem Qv:type_of%@Bool.eq_iff_iff:=@Bool.eq_iff_iff
theorem Qw:type_of%@List.mem_cons_of_mem:=@List.mem_cons_of_mem
def Qx:=@Nat.lt_or_ge
theorem Qy:type_of%@Array.getD_eq_getD_getElem?:=@Array.getD_eq_getD_getElem?
theorem Qz:type_of%@Sem.run_pure:=@Sem.run_pure
theorem Q5:type_of%@Option.some.inj:=@Option.some.inj
theorem Q7:type_of%@List.mem_map_of_mem:=@List.mem_map_of_mem
def Q8:=@List.take_of_length_le
def Q9:=@setRow_other
def QA:=@Nat.le_of_ble_eq_true
def QB:=@Classical.not_not
theorem QC:type_of%@List.map_nil:=@List.map_nil
theorem QD:type_of%@Nat.zero_add:=@Nat.zero_add
theorem QE:type_of%@Nat.mod_lt:=@Nat.mod_lt
theorem QF:type_of%@List.flatMap_append:=@List.flatMap_append
theorem QG:type_of%@Bool.or_eq_true:=@Bool.or_eq_true
def QH:=@setRow_heap
def QI:=@Oper.apart_spec
theorem QJ:type_of%@Nat.beq_eq:=@Nat.beq_eq
theorem QL:type_of%@Nat.succ_mul:=@Nat.succ_mul
theorem QM:type_of%@if_true:=@if_true
theorem QN:type_of%@List.foldl_append:=@List.foldl_append
theorem QO:type_of%@List.foldl_cons:=@List.foldl_cons
theorem QR:type_of%@List.all_eq_true:=@List.all_eq_true
theorem QS:type_of%@Bool.not_eq_true:=@Bool.not_eq_true
theorem QT:type_of%@Option.getD_some:=@Option.getD_some
def QU:=@List.mem_cons_self
def QV:=@wpIn_mono
def QW:=@Nat.lt_of_lt_of_le
theorem QY:type_of%@Prod.mk.injEq:=@Prod.mk.injEq
def QZ:=@Array.mem_toList_iff
def Rf:=@MapKept.sameNow_of_keys
theorem Rh:type_of%@List.nil_append:=@List.nil_append
def Ri:=@Nat.le_of_lt
theorem Rj:type_of%@Nat.sub_zero:=@Nat.sub_zero
theorem Rk:type_of%@Array.all_eq_true_iff_forall_mem:=@Array.all_eq_true_iff_forall_mem
theorem Rl:type_of%@List.getElem_mem:=@List.getElem_mem
theorem Rn:type_of%@List.take_length:=@List.take_length
theorem Ro:type_of%@List.pairwise_cons:=@List.pairwise_cons
theorem Rq:type_of%@Nat.add_zero:=@Nat.add_zero
theorem Rt:type_of%@List.pairwise_append:=@List.pairwise_append
theorem Ru:type_of%@List.map_congr_left:=@List.map_congr_left
def Rw:=@List.length_pos_iff
theorem Rx:type_of%@if_false:=@if_false
def Ry:=@heap_alloc_old
theorem Rz:type_of%@List.drop_take:=@List.drop_take
theorem RD:type_of%@List.length_eq_one_iff:=@List.length_eq_one_iff
def RF:=@MapKept.run_getObj_map
def RG:=@Array.getElem?_append_right
def RH:=@Array.getElem?_append_left
theorem RI:type_of%@Bool.not_eq_true':=@Bool.not_eq_true'
theorem RJ:type_of%@Nat.mul_one:=@Nat.mul_one
theorem RN:type_of%@List.cons_append:=@List.cons_append
def RP:=@Array.getElem?_push_size
def RQ:=@MapKept.run_findKey
theorem RS:type_of%@List.sum_cons:=@List.sum_cons
theorem RU:type_of%@List.getElem?_take:=@List.getElem?_take
theorem RV:type_of%@List.length_set:=@List.length_set
theorem RX:type_of%@Oper.upon_value:=@Oper.upon_value
theorem RY:type_of%@Nat.min_eq_left:=@Nat.min_eq_left
def RZ:=@Array.getElem?_eq_none
theorem Si:type_of%@Nat.lt_trichotomy:=@Nat.lt_trichotomy
theorem Sj:type_of%@Array.size_append:=@Array.size_append
theorem Sl:type_of%@Array.getElem?_toList:=@Array.getElem?_toList
theorem Sr:type_of%@List.map_map:=@List.map_map
def Sv:=@Nat.mul_le_mul
theorem Sz:type_of%@List.getElem?_append:=@List.getElem?_append
theorem S9:type_of%@List.take_append:=@List.take_append
def SA:=@Nat.mul_le_mul_right
theorem SB:type_of%@List.map_take:=@List.map_take
theorem SC:type_of%@List.headD_cons:=@List.headD_cons
theorem SE:type_of%@List.length_nil:=@List.length_nil
theorem SG:type_of%@Nat.beq_refl:=@Nat.beq_refl
theorem SH:type_of%@List.take_take:=@List.take_take
theorem SI:type_of%@List.drop_zero:=@List.drop_zero
theorem SK:type_of%@List.take_left:=@List.take_left
variable{p:Prop}
def Aa(h:p:=by omega):p:=h
def Ac(h:p:=by kernel_rfl):p:=h
def Ad(h:p:=by rw[hp];simp):p:=h
def Ae(h:p:=by repeat' (first|exact trivial|exact rfl|refine And.intro ?_ ?_)):p:=h
def Af(h:p:=by simp):p:=h
def Ag(h:p:=by cases h):p:=h
def Ah(h:p:=by assumption):p:=h
def Ai(h:p:=by decide):p:=h
def Aj(h:p:=by simp[Op.operands]):p:=h
def Ak(h:p:=by decide+kernel):p:=h
def Am(h:p:=by show 0<=_/\_< ((s.stocks.map aQ).length:Int);omega):p:=h
def Ap(h:p:=by rw[IntKind.wrap_i64];omega):p:=h
def Aq(h:p:=by simp only[V.pure,V.ok];exact hp):p:=h
def Ar(h:p:=by simp only[cls];decide):p:=h
def Au(h:p:=by simp[Act.eval,Act.put]):p:=h
def Aw(h:p:=by rw[hb];simp):p:=h
def Az(h:p:=by rw[hq];simp):p:=h
def A7(h:p:=by cases f' with|true=>exact absurd (.inl rfl) he|false=>rfl):p:=h
def A8(h:p:=by simp only[V.ok]at h⊢;exact h):p:=h
def AA(h:p:=by rw[OY];omega):p:=h
def AB(h:p:=by simp[Op.operands,Call.operands]):p:=h
def AL(h:p:=by simp only[V.pure,V.ok]at hok⊢;exact hok):p:=h
def AO(h:p:=by first|assumption|exact λh=>absurd h (by assumption)):p:=h
def AP(h:p:=by obtain⟨m,_,rfl⟩:=PI.1 hy;rfl):p:=h
def AQ(h:p:=by simpa using hl):p:=h
def AU(h:p:=by unfold fst;rw[h1];exact wH hD (by rw[dH.2 hd];rfl)):p:=h
def AV(h:p:=by simp only;omega):p:=h
def AX(h:p:=by show 1<=1000000000;omega):p:=h
def AY(h:p:=by simpa using hu):p:=h
def AZ(h:p:=by simpa using hv):p:=h
def Ba(h:p:=by rw[<-h4];exact Py.2 rfl):p:=h
def Bd(h:p:=by rw[PG];omega):p:=h
def Be(h:p:=by simp;omega):p:=h
def Bf(h:p:=by show(if 100000<=100000+i/\100000+i<100000+bs.length then some (G.β (100000+i))else none)=_;rw[Pm (by omega)]):p:=h
def Bg(h:p:=by rw[hSd];exact Int.mul_zero _):p:=h
def Bh(h:p:=by rw[hSc];exact Int.mul_zero _):p:=h
def Bj(h:p:=by unfold hvO;rw[hop];rfl):p:=h
def Bl(h:p:=by rw[PX,e2,<-b3];exact(Pg.1 hi).1):p:=h
def Bo(h:p:=by rw[show N+1000*(q+1)=N+1000+1000*q by omega];exact hn):p:=h
def Bq(h:p:=by simp only[V.ok]):p:=h
def Bv(h:p:=by simp only[OY];omega):p:=h
def Bz(h:p:=by simp only[RJ]):p:=h
def BA(h:p:=by simp only[V.pure,V.ok];exact hok):p:=h
def BB(h:p:=by rw[hcs];exact(Pg.1 hy).1):p:=h
def BD(h:p:=by rw[h1];simp):p:=h
def BF(h:p:=by unfold rings;simp):p:=h
def BG(h:p:=by simp only[Gc];rw[hb]):p:=h
def BH(h:p:=by simp only[V.okL]):p:=h
def BI(h:p:=by rw[show r.length-1+2=1+r.length by omega,Nat.add_mod_right,Nat.mod_eq_of_lt (by omega)]):p:=h
def BJ(h:p:=by show(if 100000<=i/\i<100000+bs.length then some (G.β i)else none)=_;rw[Pm ⟨z1,z2⟩]):p:=h
def BK(h:p:=by grind):p:=h
def BL(h:p:=by rw[hsn,hpo,hq];exact⟨λh=>h.2,λh=>⟨λh'=>absurd (hmm.2 h') (by assumption),h⟩⟩):p:=h
def BM(h:p:=by unfold X dif;simp only;grind):p:=h
def BN(h:p:=by rw[<-List.drop_drop,h2,Pq,List.drop_left]):p:=h
def BO(h:p:=by simp[hx]):p:=h
def BP(h:p:=by show rem<rem+1;omega):p:=h
def BQ(h:p:=by unfold dJ;rw[Ph ‹¬r.getD k z0=p›,eN,Pm ⟨by assumption,by assumption⟩]):p:=h
def BR(h:p:=by simp only[OY]at*;omega):p:=h
def BU(h:p:=by unfold cut4;simp only[QN,QO,List.foldl_nil];rfl):p:=h
def BV(h:p:=by rw[hk];simp[uP,jG]):p:=h
def BX(h:p:=by show upd G.O _ _ b=_;rw[upd_ne _ _ (hne b (by rw[hb];simp))];exact hb):p:=h
def BZ(h:p:=by rw[PG,PX];omega):p:=h
def Cb(h:p:=by simp[Op.operands,Call.operands,hx]):p:=h
def Cc(h:p:=by rw[hp,Pz]at h;exact h):p:=h
def Ce(h:p:=by show 0<=_/\_< ((rs.map rgV).length:Int);omega):p:=h
def Cf(h:p:=by cases Py.1 hy;rfl):p:=h
def Ci(h:p:=by simp[World.frozen?,hv]):p:=h
def Cj(h:p:=by rcases hl with rfl|⟨s',rfl⟩<;>rfl):p:=h
def C9(h:p:=by rw[hp,Pz]):p:=h
def CB(h:p:=by rw[Qm];omega):p:=h
def CG(h:p:=by rw[PG,Qm];omega):p:=h
def CJ(h:p:=by show 0<=_/\_< ((A.map sgV).length:Int);rw[P6];omega):p:=h
def CO(h:p:=by show 0<=_/\_< ((B.map sgV).length:Int);rw[P6];omega):p:=h
def CP(h:p:=by simpa using hq):p:=h
def CQ(h:p:=by simpa using hc):p:=h
def CS(h:p:=by rw[Qj hk]at hm;cases hm):p:=h
def CU(h:p:=by rw[show t+1+i=t+(i+1) by omega];exact hb (i+1) (by simp;omega)):p:=h
def CV(h:p:=by simp only[V.pure,V.ok];exact q2):p:=h
def CW(h:p:=by rw[hsn,hlp,hpl,OY,PL];omega):p:=h
def CX(h:p:=by unfold remS;rw[Ph (by rw[e1];decide)]):p:=h
def CY(h:p:=by as_aux_lemma=>kernel_rfl):p:=h
def CZ(h:p:=by show 1+rem=n;simp at hDr;omega):p:=h
def Dc(h:p:=by rw[hsn];exact hps2 (λh=>absurd (hmm.2 h) (by assumption))):p:=h
def Df(h:p:=by rw[hop];simp[cls]):p:=h
def Dh(h:p:=by show V.ok _ _ (.ae k g z i' o);simp only[V.ok]at h⊢;exact h):p:=h
def Di(h:p:=by unfold cmpI;split<;>(try split)<;>omega):p:=h
def Dj(h:p:=by simp only[Gc];rw[hb];simp[hk]):p:=h
def Dk(h:p:=by simpa using PN List.length hlens):p:=h
def Dl(h:p:=by unfold maxLen;omega):p:=h
def Dn(h:p:=by simp only[V.ok]at h h'⊢;exact aL2 h h'):p:=h
def Dp(h:p:=by rw[Q9 _ b vb _ hvb];exact hv):p:=h
def Dq(h:p:=by subst e;rw[hd]at hx;cases hx):p:=h
def Du(h:p:=by rw[show v.1-c.1=0 by omega,show d.1-c.1=0 by omega];simp):p:=h
def Dv(h:p:=by show _< ((5:Nat):Int);decide):p:=h
def Dw(h:p:=by simp[Region.wanted,hg]):p:=h
def Dx(h:p:=by unfold strV;rw[P6,PX];rfl):p:=h
def Dy(h:p:=by rw[dW.2 (h2 y hy)];rfl):p:=h
def Dz(h:p:=by simpa [Op.operands]using hx):p:=h
def D5(h:p:=by show _<=(w.heap.push _).size;rw[Array.size_push];omega):p:=h
def D6(h:p:=by simp only[Nat.min_def];split<;>omega):p:=h
def D7(h:p:=by rcases q with q|q<;>cases q):p:=h
def D8(h:p:=by rw[ha];exact Int.zero_mul _):p:=h
def D9(h:p:=by rw[hb];exact Int.zero_mul _):p:=h
def DC(h:p:=by rw[hz];exact Int.zero_mul _):p:=h
def DF(h:p:=by rw[hy];exact Int.zero_mul _):p:=h
def DI(h:p:=by show V.ok _ _ (.own e l);simp only[V.ok]at h⊢;exact h):p:=h
def DJ(h:p:=by show V.ok _ _ (.arr k g);simp only[V.ok]at h⊢;exact h):p:=h
def DK(h:p:=by rw[hbl,<-hil];exact(Pg.1 hj).1):p:=h
def DL(h:p:=by simp only[V.ok,V.okL]):p:=h
def DN(h:p:=by rw[hno]at hq;cases hq):p:=h
def DR(h:p:=by rw[hnp]at hq;cases hq):p:=h
def DT(h:p:=by simp only[V.ok]at h h'⊢;exact⟨h,h'⟩):p:=h
def DU(h:p:=by show V.ok _ _ (.ap e l);simp only[V.ok]at h⊢;exact h):p:=h
def DV(h:p:=by rw[show r.length-1+1=r.length by omega,Nat.mod_self]):p:=h
def DW(h:p:=by show(D++[x]).length+1+rem=n;rw[el];simp at hDr;omega):p:=h
def DX(h:p:=by show V.ok _ _ (.cap l);simp only[V.ok]at h⊢;exact h):p:=h
def DY(h:p:=by rw[hinv];show(D++[],k',false)=_;rw[Pz]):p:=h
def DZ(h:p:=by rw[<-e,hen]at hn;cases hn):p:=h
def Ea(h:p:=by rw[<-hlen];exact(Pg.1 hq).1):p:=h
def Eb(h:p:=by show V.ok _ _ (.sl l);simp only[V.ok]at h⊢;exact h):p:=h
def Ec(h:p:=by show V.ok _ _ (.fp l);simp only[V.ok]at h⊢;exact h):p:=h
def Ed(h:p:=by rw[h];simp):p:=h
def Ee(h:p:=by rw[lT];rfl):p:=h
def Ef(h:p:=by rw[nX];rfl):p:=h
def Eg(h:p:=by show 0<=_/\_< ((s.pieces.map aZ).length:Int);omega):p:=h
def Eh(h:p:=by rw[hΦr];rfl):p:=h
def Ei(h:p:=by show upd σ.ar k _ k'=_;rw[upd_ne _ _ e1];exact hx):p:=h
def Ej(h:p:=by rw[e2,hl];exact(Pg.1 hi).1):p:=h
def Em(h:p:=by rw[<-hil];exact(Pg.1 hj).1):p:=h
def En(h:p:=by unfold onL X dif;simp only;rw[Int.mul_comm];omega):p:=h
def Eo(h:p:=by unfold dZ;rw[Ph c1,Ph (by rw[e1];decide)]):p:=h
def Ep(h:p:=by replace h:=h.out;exact h):p:=h
def Es(h:p:=by rw[hlen];exact(Pg.1 hy).1):p:=h
def Et(h:p:=by simp[FW,Fence.wide]at hh):p:=h
def Eu(h:p:=by simpa only[V.ok]using h2):p:=h
def Ew(h:p:=by simp only[V.ok]at h⊢;exact V.okL.imp hp hq cs h):p:=h
def Ey(h:p:=by show((d::D).map vcV).length+1<=1000000000;omega):p:=h
def Ez(h:p:=by show((d::D).map rgV).length+1<=1000000000;omega):p:=h
def E5(h:p:=by rw[hl];exact(Pg.1 hy).1):p:=h
def E8(h:p:=by rw[q1];exact(Pg.1 hy).1):p:=h
def EC(h:p:=by rw[hΦr]):p:=h
def ED(h:p:=by simp only[V.pure,V.ok,V.okL]at hok⊢;exact hok):p:=h
def EF(h:p:=by show cls b r=W (cls b r+0);rw[Int.add_zero,h]):p:=h
def EG(h:p:=by simp[inv0]):p:=h
def EH(h:p:=by unfold X dif;simp only;rw[Int.mul_comm];omega):p:=h
def EI(h:p:=by unfold flI atI;rw[Qv];simp;omega):p:=h
def EJ(h:p:=by obtain⟨q1,q2⟩:=q;contradiction):p:=h
def EK(h:p:=by simp[List.getD,Pj hj']):p:=h
def EL(h:p:=by show 0<=_/\_< ((RL.map aQ).length:Int);omega):p:=h
def EM(h:p:=by rcases q with q|q|q<;>cases q):p:=h
def EN(h:p:=by show 0+(r.map byV).length<=1000000000;omega):p:=h
def EO(h:p:=by simpa using hy):p:=h
def EP(h:p:=by simpa using hb):p:=h
def EQ(h:p:=by unfold dJ;rw[Pm ‹r.getD k z0=p›,eN,eL]):p:=h
def ER(h:p:=by rw[<-QS,QJ];exact h):p:=h
def ES(h:p:=by simp[binOp,Op.shift,Int.not_lt.2 h0,shrI]):p:=h
def ET(h:p:=by simp[binOp,Op.shift,Int.not_lt.2 h0,shlI]):p:=h
def EU(h:p:=by rw[kS (a:=k+r.length-1) (by omega)];omega):p:=h
def EW(h:p:=by unfold Addr.add;split<;>rfl):p:=h
def EX(h:p:=by rcases h with h|h<;>cases h):p:=h
def EY(h:p:=by rw[show t+(i+1)=t+1+i by omega];exact hb):p:=h
def EZ(h:p:=by rw[hx];simp[frzE,hk]):p:=h
def Fa(h:p:=by rw[hd]at he;cases he):p:=h
def Fb(h:p:=by rw[hop]at hy;simpa [Op.operands]using hy):p:=h
def Fe(h:p:=by unfold R64;omega):p:=h
def Ff(h:p:=by unfold atI;omega):p:=h
def Fg(h:p:=by rw[hO];intro e;have:=Tag.ar.inj e;omega):p:=h
def Fh(h:p:=by simpa [QJ]using c1):p:=h
def Fj(h:p:=by rw[hop];simp[Op.operands,Call.operands]):p:=h
def Fp(h:p:=by unfold maxLen at hle;omega):p:=h
def Fq(h:p:=by rw[QD];exact hrb i u y hu hy):p:=h
def Fv(h:p:=by show V.ok _ _ (.lit u);simp only[V.ok]):p:=h
def Fz(h:p:=by rw[keepO b (by rw[hb];simp)];exact hb):p:=h
def F5(h:p:=by simp only[DataW.weights,ht];exact hk):p:=h
def F6(h:p:=by show n-1<n-0;omega):p:=h
def F7(h:p:=by simp at c hD;omega):p:=h
def F8(h:p:=by first|exact .inl ‹_› |exact .inr ‹_›):p:=h
def F9(h:p:=by rw[BitVec.toNat_ofInt];congr 1;omega):p:=h
def FB(h:p:=by simpa using e2):p:=h
def FC(h:p:=by simpa using h1):p:=h
def FD(h:p:=by rw[size_setRow];exact Po _):p:=h
def FH(h:p:=by simp only[V.ok]at h⊢;exact hq _ _ h):p:=h
def FI(h:p:=by rw[<-hcs];exact PX):p:=h
def FK(h:p:=by rw[e];exact h2):p:=h
def FM(h:p:=by simp[binOp,Op.intArith]):p:=h
def FN(h:p:=by show V.ok _ _ .bot;simp only[V.ok]):p:=h
def FO(h:p:=by simp[Op.operands,Call.operands,hy]):p:=h
def FP(h:p:=by unfold more;omega):p:=h
def FQ(h:p:=by simp at hDr;omega):p:=h
def FT(h:p:=by unfold moreL;simp):p:=h
def FU(h:p:=by rw[q3];simp):p:=h
def FV(h:p:=by rw[hO vb hvw];exact hv):p:=h
def FX(h:p:=by rw[hP]):p:=h
def FY(h:p:=by simpa using h):p:=h
def FZ(h:p:=by simp[h1]):p:=h
def Gf(h:p:=by simp[h2]):p:=h
def Gg(h:p:=by simpa using hs.1):p:=h
def Gj(h:p:=by unfold isB;omega):p:=h
def Gl(h:p:=by rw[<-e,<-e4];rfl):p:=h
def Gm(h:p:=by simp[World.shape?,hv]):p:=h
def Gn(h:p:=by simp[World.shape?,hb]):p:=h
def Gs(h:p:=by rw[hO b hbw];exact hb):p:=h
def Gt(h:p:=by simp only[V.okL];exact⟨hfpp,q5⟩):p:=h
def Gu(h:p:=by rw[<-hok];exact aP0.2 ⟨γ,q,hp⟩):p:=h
def Gv(h:p:=by rw[b1]):p:=h
def Gw(h:p:=by rw[a1]):p:=h
def Gy(h:p:=by rw[hl];omega):p:=h
def Gz(h:p:=by simp at c;omega):p:=h
def G6(h:p:=by rw[hq1];simp):p:=h
def G7(h:p:=by simp only[bM,V.okL]):p:=h
def G8(h:p:=by rw[hp,many_app];rfl):p:=h
def G9(h:p:=by simpa using hn):p:=h
def GH(h:p:=by simp[hj]):p:=h
def GI(h:p:=by cases hm):p:=h
def GK(h:p:=by simp[hz]):p:=h
def GL(h:p:=by simp[hy]):p:=h
def GN(h:p:=by rw[e1,hd];simp):p:=h
def GR(h:p:=by unfold iI;simp):p:=h
def GU(h:p:=by rw[<-hwr];simp[hp]):p:=h
def GV(h:p:=by rw[hbs,m1.2];omega):p:=h
def GX(h:p:=by rw[u64_wrap];omega):p:=h
def GY(h:p:=by rw[<-hA];simp):p:=h
def GZ(h:p:=by rw[hpl];omega):p:=h
def He(h:p:=by simp at hc):p:=h
def Hf(h:p:=by simp at hx):p:=h
def Hg(h:p:=by rw[e,<-hn]):p:=h
def Hl(h:p:=by cases q):p:=h
def Ho(h:p:=by simp[dN,sh0]):p:=h
def Hq(h:p:=by rw[hq2];simp):p:=h
def Hr(h:p:=by simp[av']):p:=h
def Ht(h:p:=by simp[hlt]):p:=h
def Hu(h:p:=by simp at h):p:=h
def Hw(h:p:=by rw[h];rfl):p:=h
def Hy(h:p:=by rw[hp,hq]):p:=h
def Hz(h:p:=by
 obtain⟨h1,h2⟩:=hp;have hlen:l.length=D.length+R.length:=BD;have hD:∀y∈D,(!decB (Q y))=true:=λy hy=>Dy;cases R with
 |nil=>
  have e:l=D:=BD;simp at hlen;repeat' ((conv=>whnf);first|omega|refine zS ?_|refine zl (λhlt=>?_) (λhlt=>?_))
  conv=>whnf
  refine aG ?_;unfold fstI;rw[Ph (iO.2 FK)]
 |cons x R=>
  rw[PE]at hlen;repeat' ((conv=>whnf);first|omega|refine zc (hg x) ?_|refine zS ?_|refine zd (λhd=>?_) (λhd=>?_)|refine zl (λhlt=>?_) (λhlt=>?_))
  conv=>whnf
  refine aG ?_;have e:fst Q l=D.length:=AU;unfold fstI;rw[e,Pm Aa];conv=>whnf
  refine⟨(D++[x],R),?_,⟨?_,?_⟩,?_⟩
  ·refine dV ?_ ?_ ?_ ?_
   all_goals repeat' (first|exact trivial|refine And.intro ?_ ?_|with_reducible rfl|exact(λh=>Ag)|exact Po _|omega|exact rfl)
   show(D.length:Int)+1=(D++[x]).length;simp
  show l=D++[x] ++R;rw[h1];simp;intro m hm;rcases Pv.1 hm with hm|hm;exact h2 m hm;rw[Py.1 hm];exact hd;show R.length< (x::R).length
  simp):p:=h
def H6(h:p:=by
 all_goals conv=>whnf
 repeat' ((conv=>whnf);first|omega|refine zS ?_|refine zm (λx hx=>?_)|refine zT ?_ ?_<;>intro _|fail)
 all_goals conv=>whnf
 all_goals (repeat' (first|exact trivial|refine And.intro ?_ ?_|with_reducible rfl|exact(λ_ h=>Ag)|exact(λh=>Ag)|exact rfl))):p:=h
def H7(h:p:=by
 repeat' ((conv=>whnf);first|omega|refine zS ?_|refine zT ?_ ?_<;>intro _|fail)
 all_goals conv=>whnf
 all_goals first
  |exact aA (aC (λh=>by have:=hr.1 h;grind))
  |exact aA (fQ BK)
  |exact aA (qV BK)):p:=h
def H8(h:p:=by
 rcases Int.lt_trichotomy Sc 0 with hSc|hSc|hSc<;>rcases Int.lt_trichotomy Sd 0 with hSd|hSd|hSd
 all_goals (rcases Int.lt_trichotomy a 0 with ha|ha|ha<;>rcases Int.lt_trichotomy b 0 with hb|hb|hb<;>rcases hz with hz|hz|hz<;>rcases hy with hy|hy|hy<;>first|omega|((first|have p1:=Int.mul_pos ha hSd|have p1:=Int.mul_pos_of_neg_of_neg ha hSd|have p1:=Int.mul_neg_of_neg_of_pos ha hSd|have p1:=Int.mul_neg_of_pos_of_neg ha hSd|have p1:a*Sd=0:=D8|have p1:a*Sd=0:=Bg);(first|have p2:=Int.mul_pos hb hSc|have p2:=Int.mul_pos_of_neg_of_neg hb hSc|have p2:=Int.mul_neg_of_neg_of_pos hb hSc|have p2:=Int.mul_neg_of_pos_of_neg hb hSc|have p2:b*Sc=0:=D9|have p2:b*Sc=0:=Bh);(first|have p3:=Int.mul_pos hz hSd|have p3:=Int.mul_pos_of_neg_of_neg hz hSd|have p3:=Int.mul_neg_of_neg_of_pos hz hSd|have p3:=Int.mul_neg_of_pos_of_neg hz hSd|have p3:(a-w)*Sd=0:=DC|have p3:(a-w)*Sd=0:=Bg);(first|have p4:=Int.mul_pos hy hSc|have p4:=Int.mul_pos_of_neg_of_neg hy hSc|have p4:=Int.mul_neg_of_neg_of_pos hy hSc|have p4:=Int.mul_neg_of_pos_of_neg hy hSc|have p4:(b-w)*Sc=0:=DF|have p4:(b-w)*Sc=0:=Bh);generalize a*Sd=m1 at*;generalize b*Sc=m2 at*;generalize (a-w)*Sd=m3 at*;generalize (b-w)*Sc=m4 at*;omega))):p:=h
def H9(h:p:=by
 have hlen:a.length=D.length:=Ad
 have hS:S=[] :=by
  have h1:b.length=D.length+S.length:=Az;exact PV.1 Aa
 subst hS;have hab:P:=hr.2 Hy;clear hp hq hr;repeat' ((conv=>whnf);first|omega|refine zS ?_|refine zT ?_ ?_<;>intro _|fail)
 all_goals conv=>whnf
 exact aA (fE hab)):p:=h
def HY(h:p:=by (rcases Int.lt_trichotomy a 0 with ha|ha|ha<;>rcases Int.lt_trichotomy b 0 with hb|hb|hb<;>rcases hz with hz|hz|hz<;>rcases hy with hy|hy|hy<;>first|omega|((first|have p1:=Int.mul_pos ha hSd|have p1:=Int.mul_pos_of_neg_of_neg ha hSd|have p1:=Int.mul_neg_of_neg_of_pos ha hSd|have p1:=Int.mul_neg_of_pos_of_neg ha hSd|have p1:a*Sd=0:=D8|have p1:a*Sd=0:=Bg);(first|have p2:=Int.mul_pos hb hSc|have p2:=Int.mul_pos_of_neg_of_neg hb hSc|have p2:=Int.mul_neg_of_neg_of_pos hb hSc|have p2:=Int.mul_neg_of_pos_of_neg hb hSc|have p2:b*Sc=0:=D9|have p2:b*Sc=0:=Bh);(first|have p3:=Int.mul_pos hz hSd|have p3:=Int.mul_pos_of_neg_of_neg hz hSd|have p3:=Int.mul_neg_of_neg_of_pos hz hSd|have p3:=Int.mul_neg_of_pos_of_neg hz hSd|have p3:(a-w)*Sd=0:=DC|have p3:(a-w)*Sd=0:=Bg);(first|have p4:=Int.mul_pos hy hSc|have p4:=Int.mul_pos_of_neg_of_neg hy hSc|have p4:=Int.mul_neg_of_neg_of_pos hy hSc|have p4:=Int.mul_neg_of_pos_of_neg hy hSc|have p4:(b-w)*Sc=0:=DF|have p4:(b-w)*Sc=0:=Bh);generalize a*Sd=m1 at*;generalize b*Sc=m2 at*;generalize (a-w)*Sd=m3 at*;generalize (b-w)*Sc=m4 at*;omega))):p:=h
def Ia(h:p:=by
 repeat' ((conv=>whnf);first|omega|refine zh (hg) [100000,100001] ?_|refine zS ?_|refine zm (λx hx=>?_)|refine zT ?_ ?_<;>intro _|fail)
 all_goals conv=>whnf
 all_goals first|exact⟨_,rfl,zc1⟩|exact zc1):p:=h
def Ib(h:p:=by
 repeat' ((conv=>whnf);first|omega|refine zS ?_|refine zm (λx hx=>?_)|refine zT ?_ ?_<;>intro _|fail)
 all_goals conv=>whnf
 all_goals first|exact⟨_,rfl,zc1⟩|exact zc1):p:=h
def Ic(h:p:=by
 have hb:(i+j)/2<l.length:=by omega
 have hm2:=Pj hb;generalize l[(i+j)/2] =m at hm2;have g1:=hg m;have hlt2:(i+j)/2<j:=Aa;repeat' ((conv=>whnf);first|omega|refine fK (k:= .u64) (n:=(i:Int)+(j:Int)) (m:=(i:Int)+(j:Int)) (cD4 Aa) ?_|refine fK (k:= .i64) (n:=shrI .u64 ((i:Int)+(j:Int)) 1) (m:=(((i+j)/2:Nat):Int)) (bF1 Aa) ?_|refine zS ?_|refine zT ?_ ?_<;>intro _|fail)
 all_goals conv=>whnf
 have hc:=cK6.1 Ah;refine⟨((i+j)/2+1,j),?_,⟨Aa,Aa,λk y hk hy=>?_,h2⟩,Aa⟩;exact zj;rcases Qx k ((i+j)/2)with h|h;exact Int.lt_trans (sorted_at hs hy hm2 h) hc;have:k=(i+j)/2:=by omega
 subst this;rw[hm2]at hy;cases hy;exact hc;have hc:=aU8.1 Ah;refine⟨(i,(i+j)/2),?_,⟨Aa,Aa,h1,λk y hk hy=>?_⟩,Aa⟩;exact zj;rcases Qx ((i+j)/2) k with h|h;exact Int.le_of_lt (Int.lt_of_le_of_lt hc (sorted_at hs hm2 hy h));have:k=(i+j)/2:=by omega
 subst this;rw[hm2]at hy;cases hy
 exact hc):p:=h
def Ie(h:p:=by
 refine dV ?_ ?_ ?_ ?_;all_goals repeat' (first|exact trivial|refine And.intro ?_ ?_|with_reducible rfl|exact(λh=>Ag)|exact Po _|omega|exact rfl)
 all_goals (try rw[P6])):p:=h
def Ig(h:p:=by
 repeat' ((conv=>whnf);first|refine zh (h) [100000] ?_|refine zS ?_|fail)
 all_goals conv=>whnf
 all_goals first|exact⟨_,rfl,zc1⟩|exact zc1):p:=h
def Ih(h:p:=by
 simp only[OY,PL]
 exact zj):p:=h
def Ii(h:p:=by
 cases hf:f' with
 |true=>rcases hS.2.2 hf with q|q
        ·cases q
        ·rw[q]at e2;cases e2
 |false=>
  rw[(hS.2.1 hf).2]at e2;have:=PN Prod.snd (Q5 e2);have:m=b.length:=this
  omega):p:=h
def Ij(h:p:=by
 refine dV ?_ ?_ ?_ ?_;all_goals repeat' (first|exact trivial|refine And.intro ?_ ?_|with_reducible rfl|exact(λh=>Ag)|exact Po _|omega|exact rfl)
 all_goals (rw[P6])):p:=h
def Ik(h:p:=by
 repeat' ((conv=>whnf);first|omega|refine zh (hg) [100000,100001,100002,100003] ?_|refine zS ?_|refine zm (λx hx=>?_)|refine zT ?_ ?_<;>intro _|fail)
 all_goals conv=>whnf
 all_goals first|exact⟨_,rfl,zc1⟩|exact zc1):p:=h
def Il(h:p:=by
 cases x with
 |tmp t=>
  refine bU _ _ _ _ (λe=>hp1 t e ?_);unfold Oper.looksAt;rw[Pv];left;rw[List.mem_filterMap];exact⟨.tmp t,QZ.2 hx,rfl⟩
 |const v=>rfl
 |global g=>rfl
 |func f=>rfl):p:=h
def Io(h:p:=by
 repeat' ((conv=>whnf);first|refine zh (g) [100000,1] ?_|refine zS ?_|refine zm (λx hx=>?_)|refine zT ?_ ?_<;>intro _|fail)
 all_goals conv=>whnf
 all_goals first|exact⟨_,rfl,zc1⟩|exact zc1):p:=h
def Ip(h:p:=by
 have hv:(cs++Array.replicate (fn.ntmps-cs.size) undef).getD s undef=cs.getD s undef:=by
  simp[RH hs]
 have hy:ys[s]? =some ys[s] :=Pj Aa;rw[hv,hy];have hr:=hrb s _ hy;generalize ys[s] =y at*;simp only;cases hl:linear y with
 |false=>
  have:y.pure/\Rv w G (cs.getD s undef) y:=by
   unfold Rb at hr;grind [linear]
  exact this.2.aW hkeep this.1
 |true=>
  have h1:(cs.getD s undef).oneCell'=true:=by
   grind [oW,Rb]
  exact Rv.arr (w:=w) (G:=G0) s 0 h1):p:=h
def Iq(h:p:=by
 have e:l=[] :=by
  cases l with
  |nil=>rfl
  |cons x l=>exact absurd (hb Af) Ai
 subst e
 refine⟨⟨⟨OZ Ac,rfl⟩,trivial⟩,rfl,λrs h=>V.noConfusion h⟩):p:=h
def Ir(h:p:=by
 refine mW (σ:=σ) (λ_=>⟨b1,a1⟩) ?_ ?_ ?_ h1;grind [bU];intro _ x hx;exact V.ok.imp (λj _=>Gv) (λj _ _=>Gw) _ (wf x);intro m _;cases m with
 |b j cs=>show _=σ.bx j;rw[b1]
 |a j cs=>show _=σ.ar j;rw[a1]):p:=h
def Iu(h:p:=by
 have hy:ys[s]? =none:=Qj Aa;rw[hy]
 have hv:(cs++Array.replicate (fn.ntmps-cs.size) undef).getD s undef=undef:=by
  rw[Qy,RG Aa];grind
 rw[hv]
 exact xK w G0):p:=h
def Iw(h:p:=by
 rename_i hk
 have hu:∃dd,P.underlying t=some dd/\aggB (some dd)=true:=by
  cases hp:P.underlying t with
  |none=>rw[hp]at hk;simp[kdOf]at hk
  |some dd=>rw[hp]at hk;cases dd<;>simp[kdOf]at hk;exact⟨_,rfl,rfl⟩
 obtain⟨dd,hu,ha⟩:=hu;by_cases ht:t<T.n t;exact nested (aggOf dd hu ha ht) h';have:Nat.blt t (T.n t)=false:=by rw[<-QS];exact λh=>ht (blt h)
 rw[this]at h'
 cases h'):p:=h
def Iy(h:p:=by
 rename_i e l hy;cases hen';have hr:=hrb k _ hy;obtain⟨q1,q2,q3⟩:=hr;refine⟨q1,?_⟩;rcases q3 with q|q;exact .inl (q.keep hkeep q2 (λb hb=>⟨hb,rfl⟩))
 exact .inr ⟨q.1.aW hkeep CV,q.2⟩):p:=h
def Iz(h:p:=by
 repeat' ((conv=>whnf);first|refine zh (g) [100000,3,4,5] ?_|refine zS ?_|refine zm (λx hx=>?_)|refine zT ?_ ?_<;>intro _|fail)
 all_goals conv=>whnf
 all_goals first|exact⟨_,rfl,zc1⟩|exact zc1):p:=h
def I4(h:p:=by
 refine dV ?_ ?_ ?_ ?_;all_goals repeat' (first|exact trivial|refine And.intro ?_ ?_|with_reducible rfl|exact(λh=>Ag)|exact Po _|omega|exact rfl)
 all_goals (try rw[hm1])):p:=h
def I5(h:p:=by
 have h1:(iI s).length=(rings s).length:=GR;have h2:(rings s).length=D.length+R.length:=Ad
 exact PV.1 Aa):p:=h
def I7(h:p:=by
 refine Mo.cond ?_ Mo.false;unfold iE;rename_i t0 x0 y0 z0;split;rename_i k g s hx _;split;split;refine Mo.need λhp=>Mo.cond (Mo.ret _ (h1 (.a k _) (.inr ⟨Ar,λp q hok=>?_⟩))) Mo.false;have:=hok x0 Aj;rw[hx]at this;simp only[V.ok]at this;exact⟨g,this⟩;exact Mo.false;exact Mo.false
 exact Mo.false):p:=h
def I8(h:p:=by
 rename_i hlt
 exact Classical.byContradiction λhn=>(h.2 (λm hm hq=>hn ⟨m,hm,hq⟩)) hlt):p:=h
def I9(h:p:=by
 simp only at h;split at h;rename_i hd;obtain⟨vs,ms,h1,h2,h3⟩:=ih h;refine⟨_,_,h1,?_,λσ' hs K' hk=>?_⟩;intro m hm;rcases P5.1 hm with rfl|hm;exact hd;exact h2 m hm;rw[qL];simp only;have h0:σ'.ar (d+1000*j)=σ.ar (d+1000*j):=hs _ (QU ..);simp_all
 exact h.elim):p:=h
def IA(h:p:=by
 simp only;have hr:=hrb s y hy;cases hl:linear y with
 |false=>
  have:y.pure:=by
   unfold Rb at hr;grind [linear]
  exact V.pure.ok this _ _
 |true=>
  simp only[Qo,V.ok]
  have:∃en,jK ys 0 s=some en/\0<=en.gen:=by
   rw[gY];simp only[P8,QM,Rj,hy];cases y<;>simp_all [linear]
  exact this):p:=h
def IB(h:p:=by
 obtain⟨rfl,rfl⟩:=hn rfl
 go_wp2_with (at_builtin;refine Lib.wpList_append_run _ rfl _ _ _ _ rfl _ _ rfl rfl _ _ (hA _) ?_)
 all_goals (go_ret;exact⟨rfl,rfl⟩)):p:=h
def IC(h:p:=by
 obtain⟨ab,ao,asp⟩:=a
 go_wp2_with (at_builtin;refine Lib.wpList_append_run _ rfl _ _ _ _ rfl _ _ rfl rfl _ _ (hA _) ?_)
 all_goals (go_ret;exact⟨rfl,rfl⟩)):p:=h
def IE(h:p:=by
 have h1:=hr.1 hP;rw[hp,hq]at h1
 exact h (List.cons.inj (List.append_cancel_left h1)).1):p:=h
def IG(h:p:=by
 rcases q4 b hb with⟨h,h'⟩|⟨k,h⟩;rcases inv'.fzm b h with h2|h2;exact .inl ⟨h2,h'⟩;exact .inr h2
 exact .inr (inv'.mineA b k h)):p:=h
def II(h:p:=by
 rw[Cod.at_iff,Cod.at_iff]
 exact⟨λ⟨h1,h2,h3,h4⟩=>⟨h1,h2,h3.2,h4.1⟩,λ⟨h1,h2,h3,h4⟩=>⟨h1,h2,⟨trivial,h3⟩,h4,trivial⟩⟩):p:=h
def IJ(h:p:=by
 refine mW (σ:=σ.put p.dst v []) (λ_=>⟨b1.symm,a1.symm⟩) ?_ ?_ ?_ h2;grind [bU];intro _ x hx;rw[cX5 hx hp1];exact V.ok.imp (λj _=>Gv) (λj _ _=>Gw) _ (wf x);intro m _;cases m with
 |b j cs=>show σ.bx j=_;rw[b1]
 |a j cs=>show σ.ar j=_;rw[a1]):p:=h
def IK(h:p:=by
 repeat' ((conv=>whnf);first|omega|refine zS ?_|refine zm (λx hx=>?_)|refine zT ?_ ?_<;>intro _|fail)
 all_goals conv=>whnf
 all_goals (repeat' (first|exact trivial|refine And.intro ?_ ?_|with_reducible rfl|exact(λ_ h=>Ag)|exact(λh=>Ag)|exact rfl))):p:=h
def IL(h:p:=by
 repeat' ((conv=>whnf);first|(exfalso;contradiction)|refine jI (λheq=>?_) (λheq=>?_)|refine zh (h1) [100000] ?_|refine dS rfl rfl Am ?_|refine zS ?_|refine zT ?_ ?_<;>intro _|fail)
 all_goals conv=>whnf
 all_goals first|exact⟨_,rfl,zc1⟩|exact zc1):p:=h
def IQ(h:p:=by
 rw[hy]at hx;simp only[Qg,Ql]at hx;subst hx
 exact ih j c y hc hy (aH.1 hok y (Pn hy)) hp):p:=h
def IU(h:p:=by
 split;rename_i hd;exact Mo.need λ_=>Mo.ret _ (one _ _ (λen he=>Fa))
 exact Mo.false):p:=h
def IV(h:p:=by
 refine mW (σ:=σ) (λhq=>DR) ?_ ?_ ?_ h1;grind [bU];intro _ x hx;exact V.ok.imp (λj _=>Gv) (λj _ _=>Gw) _ (wf x);intro m _;cases m with
 |b j cs=>show(σ.put o.dst v' []).bx j=_;rw[b1]
 |a j cs=>show(σ.put o.dst v' []).ar j=_;rw[a1]):p:=h
def IW(h:p:=by
 obtain⟨_,z,hz,h⟩:=h;rw[bC]at h;simp only[V.ok]at hx;cases hb:(Nat.beq (lenR z.cells) (T.row r.elem).size&&Nat.blt r.elem (T.n r.elem))with
 |false=>rw[hb]at h;exact h.elim
 |true=>
  rw[hb]at h;obtain⟨rfl,_⟩:=h;simp only[V.ok]
  exact el hx hz):p:=h
def IX(h:p:=by
 repeat' ((conv=>whnf);first|omega|refine jI (λheq=>?_) (λheq=>?_)|refine zS ?_|refine zT ?_ ?_<;>intro _|fail)
 all_goals conv=>whnf
 all_goals first
  |exact aA (aC (λh=>by have:=hr.1 h;grind))
  |exact aA (fQ BK)
  |exact aA (qV BK)):p:=h
def IY(h:p:=by
 rw[hy]at hx;simp only[Qg,Ql]at hx;subst hx
 exact ih j c y hc hy (aH.1 hok y (Pn hy))):p:=h
def IZ(h:p:=by
 rename_i e l hy;cases hen';have hr:=hrb k _ hy;obtain⟨q1,q2,q3⟩:=hr
 exact⟨q1,q3.keep hkeep q2 (λb hb=>⟨hb,rfl⟩)⟩):p:=h
def Ja(h:p:=by
 repeat' ((conv=>whnf);first|omega|refine zh (hg) [100000,100001,100002,100003,100004] ?_|refine zS ?_|refine zm (λx hx=>?_)|refine zT ?_ ?_<;>intro _|fail)
 all_goals conv=>whnf
 all_goals first|exact⟨_,rfl,zc1⟩|exact zc1):p:=h
def Jb(h:p:=by
 have hlen6:e.cuts.length=Q.length:=Ad;have eQ:e.cuts=Q:=Ad;rw[eQ];rw[eQ]at hm1;repeat' ((conv=>whnf);first|omega|refine zS ?_|refine zT ?_ ?_<;>intro _|fail)
 all_goals conv=>whnf
 all_goals first|exact⟨_,rfl,zc1⟩|exact zc1):p:=h
def Jc(h:p:=by
 repeat' ((conv=>whnf);first|omega|refine zh (hg) [100000,100001,100002] ?_|refine zS ?_|refine zm (λx hx=>?_)|refine zT ?_ ?_<;>intro _|fail)
 all_goals conv=>whnf
 all_goals first|exact⟨_,rfl,zc1⟩|exact zc1):p:=h
def Jd(h:p:=by
 refine⟨k+1,?_,⟨Aa,λj hj=>?_⟩,Aa⟩;exact zj;rcases Qx j k with h|h;exact hN j h;have:j=k:=by omega
 subst this;unfold dJ
 rw[Ph ‹¬r.getD j z0=p›,eN,Ph (λh=>absurd h.2 Ah)]):p:=h
def Je(h:p:=by
 rw[gY];simp only[P8,QM,Rj,hy]
 cases y<;>simp_all [linear]):p:=h
def Jf(h:p:=by
 cases u with
 |slice b n c=>
  cases b with
  |none=>
   cases n with
   |zero=>
    cases c with
    |zero=>exact h []
    |succ c=>exact Det.false
   |succ n=>exact Det.false
  |some b=>exact Det.false
 |_=>exact Det.false):p:=h
def Jg(h:p:=by
 refine⟨k+1,?_,⟨Aa,λj hj=>?_⟩,Aa⟩;exact zj;rcases Qx j k with h|h;exact hN j h;have:j=k:=by omega
 subst this;unfold dJ
 rw[Ph ‹¬r.getD j z0=p›,eN,Ph (λh=>h.1 Ah)]):p:=h
def Jh(h:p:=by
 repeat' ((conv=>whnf);first|omega|refine zh (h2) [100000] ?_|refine zh (h3) [100000] ?_|refine zS ?_|refine zT ?_ ?_<;>intro _|fail)
 all_goals conv=>whnf
 all_goals first|exact⟨_,rfl,zc1⟩|exact zc1):p:=h
def Ji(h:p:=by refine⟨⟨⟨rfl,rfl,rfl,rfl⟩,trivial⟩,rfl,λrs h=>V.noConfusion h⟩):p:=h
def Jj(h:p:=by
 cases x with
 |lit u=>simp only[V.pure,V.ok]
 |sl l=>simp only[V.pure,V.ok]at hok⊢;exact hok
 |cap l=>simp only[V.pure,V.ok]at hok⊢;exact hok
 |fn g l=>exact fn_atom_pure h hok
 |_=>simp[V.atom]at h):p:=h
def Jk(h:p:=by
 refine aL3 (w:=dif s.2 s.1) ?_ ?_ hw;unfold xD at hd;unfold X at*;rw[Int.mul_comm,Int.mul_comm (dif t.2 t.1).2];omega;have e:=xR hp lc;unfold X;show(p.1-t.1.1)*_- (p.2-t.1.2)*_=0
 grind):p:=h
def Jl(h:p:=by
 repeat' ((conv=>whnf);first|refine zh (g) [100000] ?_|refine zS ?_|refine zm (λx hx=>?_)|refine zT ?_ ?_<;>intro _|fail)
 all_goals conv=>whnf
 all_goals first|exact⟨_,rfl,zc1⟩|exact zc1):p:=h
def Jm(h:p:=by
 have h1:b.length=D.length:=Az;have h2:=aO hp
 exfalso;omega):p:=h
def Jo(h:p:=by
 all_goals conv=>whnf
 repeat' ((conv=>whnf);first|omega|refine cC0 [(2,2),(3,3)] Ae Ak ?_|refine zS ?_|refine zm (λx hx=>?_)|refine zT ?_ ?_<;>intro _|fail)
 all_goals exact zE):p:=h
def Jp(h:p:=by
 simp only[V.ok]
 exact⟨_,upd_same _ _ _,Po _⟩):p:=h
def Jq(h:p:=by
 rcases hS.2.2 he with q|q;cases q
 rw[q]at e2;cases e2):p:=h
def Jr(h:p:=by
 obtain⟨x,hx,rfl⟩:=PI.1 hr
 exact rec_ok (hb x (hAl x hx)) (hf1 x (hAl x hx)) (hAf x hx)):p:=h
def Js(h:p:=by
 rename_i e l hy;cases hen'
 exact(hrb k _ hy).2.1):p:=h
def Jt(h:p:=by
 refine dV ?_ ?_ ?_ ?_;all_goals repeat' (first|exact trivial|refine And.intro ?_ ?_|with_reducible rfl|exact(λh=>Ag)|exact Po _|omega|exact rfl)
 all_goals (try rw[hll])):p:=h
def Ju(h:p:=by
 refine dV ?_ ?_ ?_ ?_;all_goals repeat' (first|exact trivial|refine And.intro ?_ ?_|with_reducible rfl|exact(λh=>Ag)|exact Po _|omega|exact rfl)
 all_goals (try rw[hl])):p:=h
def Jv(h:p:=by
 rw[hms];simp only[V.ok];refine aH.2 λx hx=>?_;obtain⟨i,hi⟩:=P7 hx;have hlt2:i<vs'.toList.length:=Bl
 exact(b4 i _ x (Pj hlt2) hi).2):p:=h
def Jw(h:p:=by
 rw[d_else b hc];cases hO:G.O b with
 |ext=>exact .inl rfl
 |fz=>exact .inr (.inl rfl)
 |bx i=>exact .inl rfl
 |ar k=>
  by_cases h1:k∈ok;exact .inr (.inl FZ)
  exact .inl FZ):p:=h
def Jy(h:p:=by
 rw[Pm hk1]at hen;cases hs:σ.ar k with
 |none=>rw[hs]at hen;cases hen
 |some en0=>
  rw[hs]at hen;simp at hen;subst hen
  exact .inr ⟨trivial,by simp only[bJ2,V.okL]⟩):p:=h
def Jz(h:p:=by
 refine Det.cond ?_ Det.false;unfold iE;split;split;split;exact Det.need (Det.cond (Det.ret _ _) Det.false);exact Det.false;exact Det.false
 exact Det.false):p:=h
def J3(h:p:=by
 split at h;rename_i en he;simp only[Live,V.ok];exact⟨en,he,(dX h).1.1⟩
 exact h.elim):p:=h
def J4(h:p:=by
 exfalso;obtain⟨z1,z2,z3⟩:=hbx b i h2;obtain⟨e1,_,cs0,hcs0⟩:=inv'.argb i (G.β i) BJ;obtain⟨_,_,_,_,hO⟩:=inv'.box _ cs0 hcs0;rw[e1,<-z3,h]at hO
 cases hO):p:=h
def J5(h:p:=by
 constructor;rintro rfl;exact⟨rfl,rfl,rfl,rfl,rfl⟩
 obtain⟨⟩:=a;obtain⟨⟩:=b;rintro⟨h1,h2,h3,h4,h5⟩;simp only at h1 h2 h3 h4 h5;rw[h1,h2,h3,h4,h5]):p:=h
def J6(h:p:=by
 rw[Cod.at_iff,Cod.at_iff]
 exact⟨λ⟨h1,h2,h3,h4⟩=>⟨⟨h1,h2,h3.2,h4.1⟩,h4.2⟩,λ⟨⟨h1,h2,h3,h4⟩,h5⟩=>⟨h1,h2,⟨trivial,h3⟩,h4,h5⟩⟩):p:=h
def J7(h:p:=by
 have h2:σ.bx i=some xs:=by
  have h2:upd σ.bx d (some cs) i=some xs:=hi;rwa [upd_ne _ _ e]at h2
 obtain⟨c',t',g1,g2,g3⟩:=inv.box i xs h2
 grind [upd_ne]):p:=h
def J8(h:p:=by
 rename_i hk;rcases P5.1 hm with rfl|hm;intro e0 h0;rw[he]at h0;cases h0;exact .inr (.inr ⟨rfl,rfl,by rw[hk];simp⟩)
 exact ih m hm):p:=h
def J9(h:p:=by
 split at h;rename_i hd;obtain⟨_,_,h4⟩:=dX h;have:=hm _ Ba;simp only[show σ'.ar d=none from this.trans hd];exact h
 exact h.elim):p:=h
def JA(h:p:=by
 have hP:¬P:=hex.2 (Qj Aa);have eP:DB P=V.lit (.bool false):=PN (λb=>V.lit (.bool b)) (dW.2 hP);rw[eP]
 exact zF):p:=h
def JB(h:p:=by
 rw[hp];repeat' ((conv=>whnf);first|refine zS ?_|fail)
 all_goals conv=>whnf
 exact⟨⟨⟨rfl,rfl,rfl,rfl⟩,trivial⟩,rfl,λ_ h=>Ag⟩):p:=h
def JC(h:p:=by
 refine he t ?_;unfold Oper.looksAt;rw[Pv];left;rw[List.mem_filterMap]
 exact⟨.tmp t,QZ.2 hx,rfl⟩):p:=h
def JD(h:p:=by
 refine he t ?_;unfold Oper.looksAt;rw[Pv];left;rw[List.mem_filterMap]
 exact⟨.tmp t,QZ.2 hz,rfl⟩):p:=h
def JE(h:p:=by
 obtain⟨_,z,hz,h⟩:=h;rw[bC]at h;simp only[V.ok]at hx;obtain⟨_,h⟩:=aT h;obtain⟨rfl,_⟩:=h;simp only[V.ok]
 exact el hx hz):p:=h
def JF(h:p:=by
 by_cases e1:k'=k;subst e1;exact⟨_,upd_same _ _ _,Ri (hno g' hh)⟩;obtain⟨x,hx,hg⟩:=hh
 exact⟨x,Ei,hg⟩):p:=h
def JG(h:p:=by
 have hh':cond (iC x) (iC y) false=true:=hh
 simp_all):p:=h
def JH(h:p:=by
 rw[Ph h];refine⟨⟨λh=>Ag,?_⟩,⟨?_,λh=>EX⟩,⟨λh=>Ag,λh=>absurd h.2 hcr⟩⟩;simp_all
 simp_all):p:=h
def JI(h:p:=by
 rename_i hw;rw[Ph hw]at hwp;obtain⟨G',σ',hk,inv'⟩:=hwp
 exact⟨λ_ _=>trivial,next _ _ σ' G' hk inv'⟩):p:=h
def JJ(h:p:=by
 split;exact Mo.need λ_=>Mo.ret _ (one _ _)
 exact Mo.false):p:=h
def JK(h:p:=by
 have h00:(d::E).length=E.length+1:=rfl
 exact zF):p:=h
def JL(h:p:=by
 rcases hc.2.2 with h|h;rw[h];rfl;rw[QJ,iL]at h;rw[PV.1 h]
 cases lend<;>rfl):p:=h
def JM(h:p:=by
 split at h;rename_i h0 _;cases h0
 exact h):p:=h
def JO(h:p:=by
 repeat' ((conv=>whnf);first|omega|refine zS ?_|refine zT ?_ ?_<;>intro _|fail)
 all_goals exact zE):p:=h
def JP(h:p:=by split<;>first|exact Det.need (Det.ret _ _)|exact Det.false):p:=h
def JQ(h:p:=by
 have:encI s.id++_=[] :=h;rw[List.append_eq_nil_iff]at this
 exact absurd this.1 (by unfold encI;simp)):p:=h
def JR(h:p:=by
 unfold wf1 at hw;simp only at hw;split at hw;rename_i en hen;exact⟨en,hen,hw⟩
 exact hw.elim):p:=h
def JS(h:p:=by
 have hb:Nat.beq s j=false:=by rw[<-QS,QJ];exact e
 rw[hb,Qu,ih]
 grind):p:=h
def JU(h:p:=by
 cases m with
 |b j' cs'=>cases hbm;have h':σ.bx j=none:=h;rw[h']at hj;cases hj
 |a j' en=>exact hbm):p:=h
def JV(h:p:=by
 rcases Pv.1 hz with hz|hz;exact hD z hz;rw[Py.1 hz,hBE]
 exact hE):p:=h
def JW(h:p:=by
 rename_i t x y z;obtain⟨h1,h2⟩:=aT h;rw[h1,he x Aj,he y Aj,he z Aj]
 exact aH2 (ha Ar x Aj) h2):p:=h
def JY(h:p:=by
 rcases Pv.1 hz with hz|hz;exact hE z hz;rw[Py.1 hz]
 assumption):p:=h
def JZ(h:p:=by
 have hO:=inv.ext_size h1
 exact⟨by rw[d_else b hne,hO], .inl (PD inv.size h1),hsz⟩):p:=h
def Ko(h:p:=by
 rcases Pv.1 hx with hx|hx;exact hAl x hx
 rw[Py.1 hx];exact hel):p:=h
def Kq(h:p:=by
 rw[hkd]at hokk;refine .inr ⟨?_,hp⟩;rcases hokk.2 with q|q;exact own q
 exact slr q.1.wK):p:=h
def Kr(h:p:=by rw[Qc,show((at0:Int)+5).toNat=at0+5 from Aa];exact cut_at (X:=frH r.length) hY):p:=h
def Kt(h:p:=by
 split;rename_i hd;exact Mo.need λhp=>Mo.ret _ (h1 (.a d _) (.inl hd))
 exact Mo.false):p:=h
def Ku(h:p:=by
 obtain⟨_,_,rfl,⟨a,rfl,ra⟩,_,_,rfl,⟨b,rfl,rb⟩,rfl⟩:=h
 exact⟨(a,b),rfl,ra,rb⟩):p:=h
def Kv(h:p:=by
 rw[force_eq]at h;obtain⟨h1,h2⟩:=inv.ev x
 exact .plain inv (by simp[execOp,ho]) h h1 h2):p:=h
def Kw(h:p:=by
 simp only[h1,h2,Rx,P5,or_self];show upd σ'.ar x _ k=_
 rw[upd_ne _ _ h2]):p:=h
def Ky(h:p:=by
 obtain⟨_,h'⟩:=aT h';generalize (T.row t).kd=kd at h'
 cases kd<;>exact(h':False).elim):p:=h
def Kz(h:p:=by
 show(w.heap.push _)[q]? =_
 rw[Array.getElem?_push_lt hq,Array.getElem?_eq_getElem hq]):p:=h
def KA(h:p:=by
 simp only;cases σ.ar k with
 |none=>exact Det.false
 |some en=>exact Det.need (h _)):p:=h
def KC(h:p:=by
 rw[PY,Pj h]
 exact Rl h):p:=h
def KD(h:p:=by
 rw[hkd]at hokk;refine .inr ⟨?_,hp⟩;simp only;unfold gW;rw[hkd]
 exact slr hokk):p:=h
def KE(h:p:=by exact Mo.need (λhp=>Mo.idx λx=>Mo.bJ λl=>Mo.cond (Mo.ret _ hn) Mo.false)):p:=h
def KF(h:p:=by
 rcases P5.1 hm with rfl|hm;exact λ_ _=> .inl rfl
 exact ih m hm):p:=h
def KG(h:p:=by
 simp only[Bool.true_eq_false,Rx,Qz,P9]
 exact ih'):p:=h
def KH(h:p:=by exact Mo.need λ_=>Mo.idx λx=>Mo.bJ λl=>Mo.cond (Mo.ret _ rfl) Mo.false):p:=h
def KI(h:p:=by exact Det.need (Det.idx λx=>Det.bJ λl=>Det.cond (Det.ret _ _) Det.false)):p:=h
def KJ(h:p:=by
 cases h:a.tmps[s]? with
 |none=>simp[h,undef]at hv
 |some u=>simp[h]at hv;rw[hv]):p:=h
def KL(h:p:=by grind [Bool.or_eq_false_iff,Bool.and_eq_false_iff,Nat.ble_eq_true_of_le,clash]):p:=h
def KN(h:p:=by
 have hp:PosG gs γ q k:=⟨g,hg,x,y,hx,hy,hl,hk⟩
 rw[c_ok b k hb Gu,hpos hp]):p:=h
def KO(h:p:=by
 obtain⟨dd,h1,h2,_⟩:=h.und;rw[hk]at h2;cases dd<;>simp[kdOf]at h2
 exact h1):p:=h
def KP(h:p:=by
 split;refine⟨_,rfl,?_⟩;unfold frzE;split<;>rfl
 exact⟨_,rfl,rfl⟩):p:=h
def KQ(h:p:=by
 rw[e1]
 refine .tup vs' vs (by rw[e2,b3]) λi c x hc hx=>(b4 i c x CQ hx).1):p:=h
def KR(h:p:=by
 cases u with
 |none=>simp[kdOf]at h
 |some dd=>cases dd<;>simp[kdOf]at h;rfl):p:=h
def KT(h:p:=by
 cases m with
 |b j' cs'=>cases hbm;cases h;exact hi hi'
 |a j' en=>exact hbm):p:=h
def KU(h:p:=by
 refine Mo.need λ_=>?_
 split<;>first|exact Mo.ret _ hn|exact Mo.false):p:=h
def KW(h:p:=by exact Det.force λy=>ih _ _ (λvs ms K=>Φ _ _ K) λvs ms=>h _ _):p:=h
def KX(h:p:=by exact same hx0 (empty hx0 none 0 0 (Po _)) rfl (.inr trivial)):p:=h
def KY(h:p:=by
 rw[Pm he]at hE
 have hr:=hn λs e=>by
  have e2:=(sheet_at.1 e).1;rcases he with he|he;exact Jq;exact Ii
 rw[hr];repeat' ((conv=>whnf);first|omega|(exfalso;contradiction)|refine zh (hE) [8] ?_|refine zS ?_|refine zm (λx hx=>?_)|refine zT ?_ ?_<;>intro _|fail)
 all_goals conv=>whnf
 all_goals (first|(refine⟨_,rfl,?_⟩;(repeat' (first|exact trivial|refine And.intro ?_ ?_|with_reducible rfl|exact(λ_ h=>Ag)|exact(λh=>Ag)|exact rfl))))):p:=h
def KZ(h:p:=by
 rw[Pm he]at hE
 have hr:=hn λs e=>by
  have e2:=(bar_at.1 e).1;rcases he with he|he;exact Jq;exact Ii
 rw[hr];repeat' ((conv=>whnf);first|omega|(exfalso;contradiction)|refine zh (hE) [9] ?_|refine zS ?_|refine zm (λx hx=>?_)|refine zT ?_ ?_<;>intro _|fail)
 all_goals conv=>whnf
 all_goals (first|(refine⟨_,rfl,?_⟩;(repeat' (first|exact trivial|refine And.intro ?_ ?_|with_reducible rfl|exact(λ_ h=>Ag)|exact(λh=>Ag)|exact rfl))))):p:=h
def La(h:p:=by
 refine mW (σ:=σ.put p.dst v []) (λhq=>DN) ?_ ?_ ?_ h2;grind [bU];intro _ x hx;have e:(σ.put p.dst v []).ev x=σ.ev x:=Il;rw[e];exact V.ok.imp (λj _=>Gv) (λj _ _=>Gw) _ (wf x);intro m _;cases m with
 |b j cs=>show σ.bx j=_;rw[b1]
 |a j cs=>show σ.ar j=_;rw[a1]):p:=h
def Lc(h:p:=by
 have hlen2:B.length=E.length:=Az;have hBE:B=E:=Az;repeat' ((conv=>whnf);first|omega|refine zS ?_|refine zT ?_ ?_<;>intro _|fail)
 all_goals conv=>whnf
 refine⟨(D++[x],R),?_,⟨Ad,λz hz=>?_⟩,Af⟩;exact Ih
 exact JV):p:=h
def Ld(h:p:=by
 rw[hr];repeat' ((conv=>whnf);first|omega|(exfalso;contradiction)|refine zh (g10) [14] ?_|refine zh (hE) [14] ?_|refine zS ?_|refine zd (λhd=>?_) (λhd=>?_)|refine zl (λhlt=>?_) (λhlt=>?_)|refine zk (λhle=>?_) (λhle=>?_)|refine ze (λheq=>?_) (λheq=>?_)|refine zm (λx hx=>?_)|refine zb (λhbb=>?_) (λhbb=>?_))
 all_goals conv=>whnf
 all_goals (first|(refine⟨_,rfl,?_⟩;(repeat' (first|exact trivial|refine And.intro ?_ ?_|with_reducible rfl|exact(λ_ h=>Ag)|exact(λh=>Ag)|exact rfl))))):p:=h
def Lh(h:p:=by
 repeat' ((conv=>whnf);first|omega|refine zS ?_|refine zd (λhd=>?_) (λhd=>?_)|refine zl (λhlt=>?_) (λhlt=>?_)|refine zk (λhle=>?_) (λhle=>?_)|refine ze (λheq=>?_) (λheq=>?_)|refine zm (λx hx=>?_)|refine zb (λhbb=>?_) (λhbb=>?_))
 all_goals exact zE):p:=h
def Lj(h:p:=by
 rw[hr];repeat' ((conv=>whnf);first|omega|(exfalso;contradiction)|refine zh (hE) [8] ?_|refine zS ?_|refine zm (λx hx=>?_)|refine zT ?_ ?_<;>intro _|fail)
 all_goals conv=>whnf
 all_goals (first|(refine⟨_,rfl,?_⟩;(repeat' (first|exact trivial|refine And.intro ?_ ?_|with_reducible rfl|exact(λ_ h=>Ag)|exact(λh=>Ag)|exact rfl))))):p:=h
def Ll(h:p:=by
 rw[hr];repeat' ((conv=>whnf);first|omega|(exfalso;contradiction)|refine zh (hE) [9] ?_|refine zS ?_|refine zm (λx hx=>?_)|refine zT ?_ ?_<;>intro _|fail)
 all_goals conv=>whnf
 all_goals (first|(refine⟨_,rfl,?_⟩;(repeat' (first|exact trivial|refine And.intro ?_ ?_|with_reducible rfl|exact(λ_ h=>Ag)|exact(λh=>Ag)|exact rfl))))):p:=h
def Lm(h:p:=by
 clear neg pos;repeat' ((conv=>whnf);first|omega|refine zc (fF s.2 s.1) ?_|refine zc (fF t.2 t.1) ?_|refine zc (fF t.1 s.1) ?_|refine zc hA ?_|refine zc hB ?_|refine zc g1 ?_|refine zc g2 ?_|refine uM hg ?_|refine bW7 ?_|refine zS ?_|refine zl (λhlt=>?_) (λhlt=>?_)|refine ze (λheq=>?_) (λheq=>?_))
 all_goals conv=>whnf
 all_goals first
  |(rw[l0 Aa];refine⟨?_,rfl,λrs h=>V.noConfusion h⟩;(repeat' (first|exact trivial|refine And.intro ?_ ?_|with_reducible rfl|exact(λh=>Ag)|exact rfl));done)
  |(rw[l1 Aa,dI2 Aa];refine⟨?_,rfl,λrs h=>V.noConfusion h⟩;(repeat' (first|exact trivial|refine And.intro ?_ ?_|with_reducible rfl|exact(λh=>Ag)|exact rfl));done)
  |(rw[l1 Aa,dD5 Aa];refine⟨?_,rfl,λrs h=>V.noConfusion h⟩;(repeat' (first|exact trivial|refine And.intro ?_ ?_|with_reducible rfl|exact(λh=>Ag)|exact rfl));done)):p:=h
def Lp(h:p:=by
 conv=>whnf
 refine aA (le_dec ?_);have h:=iO (Q:=Q) (l:=l);unfold fstI;constructor;intro h0;split at h0;exact I8;omega;rintro⟨m,hm,hq⟩;split;omega;rename_i hlt
 exact(h.1 hlt m hm hq).elim):p:=h
def Lr(h:p:=by
 cases e with
 |normal=>exact⟨.inl rfl,fin .normal σ a' w' G' hq inv'⟩
 |ret=>exact⟨.inr rfl,fin .ret σ a' w' G' hq inv'⟩
 |exit id=>exact(hq:False).elim
 |goto l=>exact(hq:False).elim
 |panic c=>exact(hq:False).elim
 |outgrown=>exact(hq:False).elim):p:=h
def Ls(h:p:=by
 repeat' ((conv=>whnf);first|omega|refine zS ?_|refine zm (λx hx=>?_)|refine zT ?_ ?_<;>intro _|fail)
 all_goals conv=>whnf
 all_goals first|exact⟨_,rfl,zc1⟩|exact zc1):p:=h
def Lu(h:p:=by
 generalize bs sid s.stocks e.id=k at*;generalize (∃m∈s.stocks,sid m=e.id)=P at*;repeat' ((conv=>whnf);first|(exfalso;contradiction)|refine jI (λheq=>?_) (λheq=>?_)|refine zh (h1) [100000] ?_|refine dS rfl rfl Am ?_|refine zS ?_|refine zT ?_ ?_<;>intro _|fail)
 all_goals conv=>whnf
 all_goals first|exact⟨_,rfl,zc1⟩|exact zc1):p:=h
def L6(h:p:=by
 have hA2:=hcp2 (w.drew.setRow b X1) _ (n+1-i) 3 (c-i) (QH w.drew b cur X1 _ _ hb) Dp rfl Aa;try simp only[RJ]at hA2
 go_wp2_with (first|simp only[hA2,P9] |(at_builtin;refine wpList_copy_runI _ rfl _ _ _ _ rfl _ _ rfl rfl hA2 ?_))
 go_ret
 first|exact⟨rfl,rfl⟩|exact⟨rfl,Bz⟩):p:=h
def L8(h:p:=by
 simp only[OY,PL]
 exact zj):p:=h
def L9(h:p:=by
 repeat' ((conv=>whnf);first|omega|refine zh (g) [100000] ?_|refine zS ?_|refine zm (λx hx=>?_)|refine zT ?_ ?_<;>intro _|fail)
 all_goals conv=>whnf
 all_goals first|exact⟨_,rfl,zc1⟩|exact zc1):p:=h
def LC(h:p:=by
 have h1:=find_spec s e.id hs;generalize bs sid s.stocks e.id=k at*;generalize (∃m∈s.stocks,sid m=e.id)=P at*;repeat' ((conv=>whnf);first|(exfalso;contradiction)|refine zh (h1) [100000] ?_|refine zS ?_|refine zT ?_ ?_<;>intro _|fail)
 all_goals conv=>whnf
 all_goals first|exact⟨_,rfl,zc1⟩|exact zc1):p:=h
def LD(h:p:=by
 refine⟨?_,rfl,λrs h=>V.noConfusion h⟩
 (repeat' (first|exact trivial|refine And.intro ?_ ?_|with_reducible rfl|exact(λh=>Ag)|exact rfl));done):p:=h
def LG(h:p:=by
 have h1:=find_spec s e.id hs;have hkl:=(Pg.1 hm).1;have hll:(s.stocks.map aQ).length=s.stocks.length:=Af;have hl:=hs.ls;generalize bs sid s.stocks e.id=k at*;generalize (∃m∈s.stocks,sid m=e.id)=P at*;rw[cP1];repeat' ((conv=>whnf);first|(exfalso;contradiction)|refine jI (λheq=>?_) (λheq=>?_)|refine zh (h1) [100000] ?_|refine dS rfl rfl Am ?_|refine dB8 rfl rfl ?_|refine zS ?_|refine zT ?_ ?_<;>intro _|fail)
 all_goals conv=>whnf
 all_goals first|exact⟨_,rfl,zc1⟩|exact zc1):p:=h
def LH(h:p:=by
 have hA:=el.room (vc:=vc) hroom hb hv hbs hvs h2
 go_enter fF,nF
 go_wp2_with (at_builtin;refine Lib.wpList_append_run _ rfl _ _ _ _ rfl _ _ rfl rfl _ _ (hA _) ?_)
 all_goals (go_ret;first|exact⟨rfl,rfl⟩|exact⟨rfl,Bz⟩)):p:=h
def LJ(h:p:=by
 refine⟨(D++[x],R,S),?_,⟨Ad,?_⟩,Af⟩;exact Ih;have hxy:x=y:=by assumption
 rw[hq,hxy];simp):p:=h
def LK(h:p:=by
 refine dV ?_ ?_ ?_ ?_;all_goals repeat' (first|exact trivial|refine And.intro ?_ ?_|with_reducible rfl|exact(λh=>Ag)|exact Po _|omega|exact rfl)
 all_goals (try rw[hl])):p:=h
def LM(h:p:=by
 repeat' ((conv=>whnf);first|omega|refine zS ?_|refine zd (λhd=>?_) (λhd=>?_)|refine zl (λhlt=>?_) (λhlt=>?_)|refine zk (λhle=>?_) (λhle=>?_)|refine ze (λheq=>?_) (λheq=>?_)|refine zm (λx hx=>?_)|refine zb (λhbb=>?_) (λhbb=>?_))
 all_goals conv=>whnf
 refine⟨(),?_,trivial⟩;rw[<-e]
 exact zj):p:=h
def LP(h:p:=by
 repeat' ((conv=>whnf);first|omega|(exfalso;contradiction)|refine cC0 [(5,5),(20,20),(128,5)] Ae Ak ?_|refine fU hW ?_|refine dE3 _ hY ?_|refine zS ?_|refine zm (λx hx=>?_)|refine zT ?_ ?_<;>intro _|fail)
 all_goals conv=>whnf
 all_goals first
  |exact aK rfl
  |omega
  |exact aK (aA1.2 (by have:=hall Aa;omega))):p:=h
def LQ(h:p:=by
 repeat' ((conv=>whnf);first|omega|refine zh (g1) [100000] ?_|refine bW8 [] [(201,[88888])] trivial Ac ?_|refine zh (xX g2) [] ?_|refine zS ?_|refine zT ?_ ?_<;>intro _|fail)
 all_goals conv=>whnf
 refine⟨(Q++[c],R),?_,Ad,Af⟩;simp only[stA3,stB3,hsn,OY,PL]
 exact zj):p:=h
def LU(h:p:=by
 have h1:=aE0 e he;have h2:=aV4 s.stocks hs.ls;have h3:=aV7 s.pieces hs.lp;have h4:=aT5 s.used hs.lu;repeat' ((conv=>whnf);first|(exfalso;contradiction)|refine eV6 (v:= .fn f []) (PN (λo=>Option.getD o _) hg) ?_|refine zh (hm) [6] ?_|refine zS ?_|refine zT ?_ ?_<;>intro _|fail)
 all_goals exact zE):p:=h
def LV(h:p:=by
 have:(none:Option (List V))=some cs':=hi
 cases this):p:=h
def LW(h:p:=by
 have slr:Rv w G (G.av k en0.gen) (.sl en0.l)->Rv w1 G2 (G.av k en0.gen) (.sl en0.l):=λh=>h.aW hkeep Aq;subst hen;unfold gW at hokk;unfold frzE;cases hkd:en0.kind with
 |own=>rw[hkd]at hokk;exact .inr ⟨own hokk.2,hp⟩
 |ap=>exact Kq
 |frz=>exact KD
 |dead=>exact .inr ⟨trivial,trivial⟩):p:=h
def LX(h:p:=by
 have hen':jK ys 0 k=some en:=hen;rw[gY]at hen';simp only[P8,QM,Rj]at hen';split at hen';exact IZ;exact Iy
 cases hen'):p:=h
def LY(h:p:=by
 have hen':jK ys 0 k=some en:=hen;rw[gY]at hen';simp only[P8,QM,Rj]at hen';split at hen';exact Js;exact Js
 cases hen'):p:=h
def LZ(h:p:=by
 simp only[hsn,OY,PL]
 exact zj):p:=h
def Mc(h:p:=by
 have hdef:∀(σ:St) K,oI place σ (p::r) cs K=(match place p.1 with
  |some (o,z)=>cond (Nat.beq (lenR (σ.ev p.2).cells) z&&Nat.ble (o+z) (lenR cs)&&allR V.one (σ.ev p.2).cells) (oI place σ r (splice cs o (σ.ev p.2).cells) K) False
  |none=>False):=λσ K=>rfl
 grind):p:=h
def Me(h:p:=by
 repeat' ((conv=>whnf);first|(refine aS5 (h1) true ?_ rfl ?_;focus ((repeat' (first|exact trivial|refine And.intro ?_ ?_|with_reducible rfl|exact(λh=>Ag)|exact rfl));done))|refine zS ?_|fail)
 all_goals conv=>whnf
 all_goals first|exact⟨_,rfl,zc1⟩|exact zc1):p:=h
def MB(h:p:=by
 repeat' ((conv=>whnf);first|omega|refine zS ?_|refine zm (λx hx=>?_)|refine zT ?_ ?_<;>intro _|fail)
 all_goals exact zE):p:=h
def MC(h:p:=by
 repeat' ((conv=>whnf);first|(exfalso;contradiction)|refine zc h1 ?_|refine zS ?_|refine zT ?_ ?_<;>intro _|fail)
 all_goals exact zE):p:=h
def MF(h:p:=by refine⟨_,rfl,⟨⟨OZ Ac,rfl⟩,rfl,trivial⟩,rfl⟩):p:=h
def MG(h:p:=by exact⟨sG hs he hf BV q1,λh=>(q2 h).mono Aa⟩):p:=h
def MH(h:p:=by
 repeat' ((conv=>whnf);first|refine zg ?_|refine zw ?_|refine zr ?_)
 all_goals exact zE):p:=h
def MI(h:p:=by
 cases xs with
 |nil=>exact⟨rfl,λi x y hx=>Hf⟩
 |cons x r=>exact(h:False).elim):p:=h
def MJ(h:p:=by
 generalize (a.defects=b.defects)=p2 at*;repeat' ((conv=>whnf);first|refine jI (λheq=>?_) (λheq=>?_)|refine zS ?_|refine zT ?_ ?_<;>intro _|fail)
 all_goals conv=>whnf
 all_goals first
  |exact aA (fQ BK)
  |exact aA (aC BK)):p:=h
def MK(h:p:=by
 unfold Com;rw[gZ hs,gZ ht];have k1:=dE8 hw la lb hp;have k2:=dE8 hw lc ld hp;constructor;rintro⟨q1,q2⟩;exact⟨k1.1 q1.1,k2.1 q2.1⟩;rintro⟨q1,q2⟩
 exact⟨⟨k1.2 q1,hp⟩,⟨k2.2 q2,lt' p hp⟩⟩):p:=h
def ML(h:p:=by
 repeat' ((conv=>whnf);first|omega|refine zh (g1) [100000] ?_|refine zS ?_|refine zm (λx hx=>?_)|refine zT ?_ ?_<;>intro _|fail)
 all_goals conv=>whnf
 all_goals first|exact⟨_,rfl,zc1⟩|exact zc1):p:=h
def MN(h:p:=by
 simp only[OY,PL,PW,Qa,QC]
 exact zj):p:=h
def MO(h:p:=by
 rcases h with⟨h,_⟩|⟨b,cap,cur,h,_⟩;exact aP2 h
 rw[h];rfl):p:=h
def MP(h:p:=by
 obtain⟨v1,ms1,⟨_,h2⟩,h3⟩:=hm _ h'
 rw[<-h2,h3]):p:=h
def MQ(h:p:=by
 show Rv w G0 ((cs++Array.replicate (fn.ntmps-cs.size) undef).getD s undef) (pF ys 0 s);rw[lY];simp only[P8,QM,Rj];by_cases hs:s<cs.size;exact Ip
 exact Iu):p:=h
def MR(h:p:=by
 refine dV ?_ ?_ ?_ ?_;all_goals repeat' (first|exact trivial|refine And.intro ?_ ?_|with_reducible rfl|exact(λh=>Ag)|exact Po _|omega|exact rfl)
 all_goals (try rw[hm1])):p:=h
def MS(h:p:=by
 repeat' ((conv=>whnf);first|omega|refine zS ?_|refine zT ?_ ?_<;>intro _|fail)
 all_goals conv=>whnf
 exact⟨⟨⟨rfl,rfl,rfl,rfl⟩,trivial⟩,rfl,λ_ h=>Ag⟩):p:=h
def MV(h:p:=by
 repeat' ((conv=>whnf);first|omega|refine fU ⟨Aa,Aa,Aa, .inl rfl⟩ ?_|refine zS ?_|refine zm (λx hx=>?_)|refine zT ?_ ?_<;>intro _|fail)
 all_goals exact zE):p:=h
def MW(h:p:=by
 have hne1:vs.length≠1:=λh1=>by
  grind [RD]
 cases vs with
 |nil=>rfl
 |cons v rr=>
  cases rr with
  |nil=>exact absurd rfl hne1
  |cons u rr=>rfl):p:=h
def MX(h:p:=by
 have h1:opVC T σ d o.op (Is v ms):=by
  simp_all
 obtain⟨v',w1,v1,ms1,G',hr,⟨rfl,rfl⟩,inv',hv,hvo⟩:=xQ hT inv o h1
 exact⟨_,_,_,Inv.put' _ inv' hd hv hvo⟩):p:=h
def MZ(h:p:=by
 obtain⟨v1,ms1,⟨_,h2⟩,h3⟩:=hm _ h'
 rw[<-h2];exact h3):p:=h
def Na(h:p:=by
 refine dV ?_ ?_ ?_ ?_
 all_goals repeat' (first|exact trivial|refine And.intro ?_ ?_|with_reducible rfl|exact(λh=>Ag)|exact Po _|omega|exact rfl)):p:=h
def Nb(h:p:=by
 repeat' ((conv=>whnf);first|omega|refine zS ?_|refine zT ?_ ?_<;>intro _|fail)
 all_goals conv=>whnf
 all_goals first|exact⟨_,rfl,zc1⟩|exact zc1):p:=h
def Nc(h:p:=by rcases h.vP with⟨h,_⟩|⟨ad,sz,cc,h,_⟩<;>(rw[h];rfl)):p:=h
def Nh(h:p:=by exact⟨by(repeat' (first|exact trivial|refine And.intro ?_ ?_|with_reducible rfl|exact(λh=>Ag)|exact rfl));done,rfl,λrs h=>V.noConfusion h⟩):p:=h
def Nj(h:p:=by
 repeat' ((conv=>whnf);first|(exfalso;contradiction)|refine zc m1 ?_|refine zc m2 ?_|refine zS ?_|refine zT ?_ ?_<;>intro _|fail)
 all_goals exact zE):p:=h
def Nk(h:p:=by
 obtain⟨e1,e2⟩:=sheet_at.1 e;rw[hat]at e1;have e3:=PN Prod.fst (Q5 e1);obtain⟨a1,a2,a3,a4,a5,a6⟩:=s;cases e3
 exact hv e2):p:=h
def Nl(h:p:=by
 cases hO:G.O b with
 |ext=>exact absurd hO hb
 |fz=>exact .inl ⟨rfl,rfl⟩
 |bx i=>exact absurd hO (h3 b i)
 |ar j=>exact .inr (.inr ⟨j,rfl⟩)):p:=h
def Np(h:p:=by
 show(pF ys 0 s).ok _ _;rw[lY];simp only[P8,QM,Rj];cases hy:ys[s]? with
 |none=>simp only[V.ok,V.okL]
 |some y=>exact IA):p:=h
def Nq(h:p:=by
 obtain⟨e1,e2⟩:=bar_at.1 e;rw[hat]at e1;have e3:=PN Prod.fst (Q5 e1);obtain⟨a1,a2,a3,a4,a5⟩:=s;cases e3
 exact hv e2):p:=h
def Nr(h:p:=by
 rcases hl with rfl|⟨s',rfl⟩;exact Ig
 exact Ig):p:=h
def Ns(h:p:=by
 have h2:upd σ.bx i (some cs) i=some xs:=hi
 rw[upd_same]at h2;cases h2;rfl):p:=h
def Nu(h:p:=by
 split at h;all_goals first|exact h|exact h.elim|skip
 simp_all [V.agr,V.ok]):p:=h
def Nv(h:p:=by
 rcases h.bK8 with h|⟨ad,c,sz,cc,h1,h2,h3,h4,h5,h6,h7⟩;exact .inl h
 exact .inr ⟨ad,c,sz,h1,h2,h3,h5,⟨cc,h6,h7⟩⟩):p:=h
def Nw(h:p:=by
 obtain⟨e,w',fr,⟨v',rfl,v1,ms1,G',⟨rfl,rfl⟩,inv',hv,hvo⟩,_⟩:=hcalls []
 exact⟨_,_,_,Inv.put' _ inv' hd hv hvo⟩):p:=h
def Ny(h:p:=by
 simp only[OY,PL];rw[e3]
 exact zj):p:=h
def Nz(h:p:=by
 rcases hmo m hm with h|h|⟨i',hi',h⟩;cases m with
 |b j' cs'=>exact h.elim
 |a j' en=>exact hbm
 exact JU
 exact KT):p:=h
def N7(h:p:=by
 refine⟨(d::(D++[x]),rem,k2,false),?_,⟨hk2,DW, .inl ⟨rfl,e⟩⟩,BP⟩;show Le T _ (mkSt _ _ _);rw[e9,ec,el]
 exact zj):p:=h
def N8(h:p:=by
 repeat' ((conv=>whnf);first|refine zS ?_|fail)
 all_goals exact zE):p:=h
def N9(h:p:=by
 unfold Oper.looksAt;rw[Pv];left;rw[List.mem_filterMap]
 exact⟨.tmp t,QZ.2 hx,rfl⟩):p:=h
def NC(h:p:=by
 repeat' ((conv=>whnf);first|omega|refine zS ?_|refine zl (λhlt=>?_) (λhlt=>?_))
 all_goals exact zE):p:=h
def ND(h:p:=by simp[execOp,ho,ex,ey,Instr.lookup,dI u1,RF q3,hc,RQ u2 r1,Result.andThen]):p:=h
def NE(h:p:=by
 simp only;by_cases h:e.1.2<e.2.2;simp_all [Pm,le_mul,Int.mul_sub]
 simp_all [Ph,le_mul,Int.mul_sub]):p:=h
def NF(h:p:=by
 rcases ih _ h with h|h;rcases fH.1 h with rfl|h;exact .inr Af;exact .inl h
 exact .inr (by simp[h])):p:=h
def NG(h:p:=by
 refine⟨([x],rem,k2,false),?_,⟨hk2,CZ, .inl ⟨rfl,e⟩⟩,BP⟩;show Le T _ (mkSt _ _ _);rw[e9]
 exact zj):p:=h
def NH(h:p:=by
 have hp:z.pure:=aH.1 hl z (Pn hz)
 cases z<;>simp_all [and_true,V.pure,V.ok,V.cells,V.okL]):p:=h
def NI(h:p:=by
 repeat' ((conv=>whnf);first|omega|refine zS ?_|refine zT ?_ ?_<;>intro _|fail)
 all_goals exact zE):p:=h
def NJ(h:p:=by
 refine⟨v,ms,G',hk,?_⟩
 exact Inv.put' ms inv' hd hv hvo):p:=h
def NK(h:p:=by
 cases x with
 |sl l=>exact h l
 |cap l=>exact h l
 |lit u=>exact Jf
 |arr k g=>exact KA
 |_=>exact Det.false):p:=h
def NM(h:p:=by
 have:=q1 0 v r rfl rfl;unfold Rr;split;exact absurd rfl (g3 _);exact absurd rfl (g3 _)
 exact this):p:=h
def NP(h:p:=by
 rw[ev];cases E with
 |nil=>
  have h00:([] :List Piece).length=0:=rfl;exact zF
 |cons d E=>exact JK):p:=h
def NQ(h:p:=by
 rw[ev];cases E with
 |nil=>
  have h00:([] :List Rest).length=0:=rfl;exact zF
 |cons d E=>exact JK):p:=h
def NR(h:p:=by
 rw[dI7 hs ht hd,hA,hB];split;unfold uJ;rw[Ph Aa,Pm Aa]
 simp_all [Ph,Pm,uJ]):p:=h
def NS(h:p:=by
 rw[PK]at hx;cases hy:xs[j]? with
 |none=>rw[hy]at hx;cases hx
 |some y=>exact IQ):p:=h
def NT(h:p:=by
 rw[PK]at hx;cases hy:xs[j]? with
 |none=>rw[hy]at hx;cases hx
 |some y=>exact IY):p:=h
def NU(h:p:=by
 have h1:w.1≠0:=λh'=>hw (Prod.ext h' h2);rw[h2,Int.zero_mul]at e
 grind [Int.mul_eq_zero]):p:=h
def NV(h:p:=by
 repeat' ((conv=>whnf);first|refine zS ?_|fail)
 all_goals conv=>whnf
 all_goals exact aA rfl):p:=h
def NW(h:p:=by
 obtain⟨v',ms',⟨rfl,rfl⟩,q2,q3⟩:=yX (aN7 hh rfl) h
 exact λm hm=> .inl (q2 m hm)):p:=h
def NY(h:p:=by
 obtain⟨cs,rfl,_⟩:=h;rw[hu]
 exact⟨λ_=>⟨cs,rfl⟩,λh=>by simp[aggB]at h⟩):p:=h
def NZ(h:p:=by
 have hex:∃t,∃γ q,t=100000*γ+q/\PosG gs γ q k:=⟨_,γ,q,rfl,hp⟩
 grind [aA3]):p:=h
def Oa(h:p:=by
 refine cA7 ?_;conv=>whnf
 exact⟨[],rfl,⟨⟨rfl,rfl,rfl,rfl⟩,trivial⟩,rfl⟩):p:=h
def Ob(h:p:=by
 have:b=true:=by
  have h':some true=some b:=h;simpa using h'.symm
 subst this
 simp):p:=h
def Oc(h:p:=by
 cases hq:ar k with
 |none=>rw[hq]at h';exact h'.elim
 |some en=>exact⟨en,rfl⟩):p:=h
def Oe(h:p:=by
 split;exact Det.bJ λl=>Det.cond (Det.ret _ _) Det.false
 exact Det.false):p:=h
def Og(h:p:=by
 have h2:=(vH ha.oa hf).2
 exact((zD ha.ob (vN ha.oa.2.2.1 h2)).1 (hin _ h2)).2):p:=h
def Oh(h:p:=by
 refine aA (fE ?_);rw[ek,Rn,hab,Rn]at ht
 exact ht):p:=h
def Oi(h:p:=by
 subst ho;cases p with
 |none=>exact(h:False).elim
 |some x=>exact⟨x,rfl⟩):p:=h
def Oj(h:p:=by exact .plain inv (run _ _ _ hb) hk hnv (by simp only[V.ok];exact hsub _ _)):p:=h
def Ol(h:p:=by
 have hp:=(QZ.1 hp);simp[Op.operands]
 exact⟨p.1,hp⟩):p:=h
def Om(h:p:=by
 refine⟨(E++[y],S),?_,⟨Az,λz hz=>?_⟩,Af⟩;exact Ih
 exact JY):p:=h
def Oo(h:p:=by
 cases x with
 |tmp t=>exact JC
 |const v=>rfl
 |global g=>rfl
 |func f=>rfl):p:=h
def Oq(h:p:=by
 cases z with
 |tmp t=>exact JD
 |const v=>rfl
 |global g=>rfl
 |func f=>rfl):p:=h
def Ot(h:p:=by
 rw[hq1,hq2]at h1
 exact h (List.cons.inj (List.append_cancel_left h1)).1):p:=h
def Ou(h:p:=by
 rcases P5.1 hr with rfl|hr;exact h.1
 exact h.2.2 r hr):p:=h
def Ov(h:p:=by
 rcases P5.1 hp with rfl|hp;exact h1
 exact ih h2 p hp):p:=h
def Ox(h:p:=by
 obtain⟨ns,⟨_,h4⟩,q2⟩:=bE6 h4;rw[<-h4]
 exact hfin _ _ q1 q2):p:=h
def Oy(h:p:=by
 rcases P5.1 hz with rfl|hz;exact hp
 exact hl' z hz):p:=h
def Oz(h:p:=by
 rw[Qk,OY,PE]
 omega):p:=h
def O0(h:p:=by exact V.ok.imp (λ_ h=>h) (λ_ _ h=>h.elim) _ (bC3 hui h')):p:=h
def O1(h:p:=by
 obtain⟨v',ms',⟨rfl,rfl⟩,q⟩:=bY1 T σ d _ _ h1
 exact q):p:=h
def O3(h:p:=by
 unfold X dif at hx;simp only at hx;unfold pN pK
 split<;>grind):p:=h
def O4(h:p:=by rw[PY,Pj h];rfl):p:=h
def O5(h:p:=by
 split;exact λK hk=>⟨_,_,hk.out,hn⟩
 exact Mo.false):p:=h
def O6(h:p:=by
 obtain⟨rfl,_⟩:=h
 grind [lQ,aH,PU,V.ok]):p:=h
def O7(h:p:=by exact⟨v,ns++ms,G',hk1 _ _ hk,Inv.put' _ inv' hd hv hvo⟩):p:=h
def O8(h:p:=by
 split;rw[Int.add_assoc,bF8];congr 1;omega
 congr 1;omega):p:=h
def O9(h:p:=by
 split;exact Det.map λv=>Det.ret _ _
 exact Det.false):p:=h
def OA(h:p:=by exact⟨ys,k1,by simpa using k2,k3,by simpa using k4,k5⟩):p:=h
def OB(h:p:=by
 cases D with
 |nil=>exact absurd hp BF
 |cons d D=>exact JB):p:=h
def OC(h:p:=by
 obtain⟨en2,q1,q2⟩:=hgen k en h1
 exact⟨en2,q1,Aa⟩):p:=h
def OD(h:p:=by
 obtain⟨j,hj⟩:=P7 hy
 exact dF hp hj):p:=h
def OE(h:p:=by rw[hll];exact wInt_spec _ s.defects.length (w_len Aa) Bv):p:=h
def OG(h:p:=by exact fin kk d hd rfl (wanted_of h.inv hA hg hs he) hk'):p:=h
def OH(h:p:=by
 rw[force_eq]at h';obtain⟨rfl,_⟩:=h'
 exact aC5 hg hc):p:=h
def OI(h:p:=by exact Classical.byContradiction λhn=>h ⟨v,hv,hn⟩):p:=h
def OJ(h:p:=by unfold encLb encT;simp only[OY,bys_len]):p:=h
def OL(h:p:=by
 rw[hx]at this;simp only[V.ok]at this
 exact⟨g,this⟩):p:=h
def OM(h:p:=by exact⟨_,_,G,hk,Inv.put' [] inv hd (B_ok _ _ _) dL⟩):p:=h
def OO(h:p:=by
 rw[e];cases D with
 |nil=>exact H6
 |cons d D=>exact H6):p:=h
def OQ(h:p:=by
 obtain⟨b,s,br,p⟩:=x;cases b;exact zF
 exact zF):p:=h
def OT(h:p:=by
 have:=fil_len_le l 1 hl
 rw[hb,PG];omega):p:=h
def OU(h:p:=by
 rw[har2,hen];split;exact⟨_,rfl,rfl⟩
 exact KP):p:=h
def OV(h:p:=by
 show upd _ _ _ _=upd _ _ _ _
 grind [upd_same,upd_ne]):p:=h
def OW(h:p:=by
 simp[IntKind.wrap,IntKind.signed,IntKind.bits]
 omega):p:=h
def OX(h:p:=by cases x<;>simp only at h⊢<;>simp_all [V.agr,V.ok]):p:=h
end Go.Ab
