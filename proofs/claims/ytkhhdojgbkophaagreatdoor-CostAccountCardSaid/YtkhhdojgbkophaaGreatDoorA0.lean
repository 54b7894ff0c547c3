/-
  Proofs that stand in many places, each as a default of a hypothesis.
-/
import Derived.WalkKit
import Derived.Deep.Draws
import Derived.Laws.AppendOwn
namespace Go.Ab
variable{p:Prop}
theorem Aa(h:p:=by omega):p:=h
theorem Ac(h:p:=by kernel_rfl):p:=h
theorem Ad(h:p:=by cases h):p:=h
theorem Ae(h:p:=by simp):p:=h
theorem Af(h:p:=by assumption):p:=h
theorem Ag(h:p:=by rw[hp];simp):p:=h
theorem Ah(h:p:=by simp[Op.operands]):p:=h
theorem Ai(h:p:=by simp;omega):p:=h
theorem Aj(h:p:=by decide):p:=h
theorem Ak(h:p:=by show(List.drop _ (List.take _ (List.map S K))).length+((List.drop _ (List.take _ (List.map S K))).length+1)<=_;rw[List.length_drop,List.length_take,List.length_drop,List.length_take,List.length_map];omega):p:=h
theorem Am(h:p:=by simp only[V.pure,V.ok];exact hp):p:=h
theorem Ap(h:p:=by simp only[cls];decide):p:=h
theorem Aq(h:p:=by repeat' (first|exact trivial|exact rfl|refine And.intro ?_ ?_)):p:=h
theorem Ar(h:p:=by rw[hb];simp):p:=h
theorem Au(h:p:=by rw[hq];simp):p:=h
theorem Aw(h:p:=by simp only[V.ok]at h⊢;exact h):p:=h
theorem Az(h:p:=by simp[Op.operands,Call.operands]):p:=h
theorem A7(h:p:=by simp only[V.pure,V.ok]at hok⊢;exact hok):p:=h
theorem A8(h:p:=by simp only;omega):p:=h
theorem AA(h:p:=by show((x::l).map I)[((D.length:Int)+1).toNat]? =_;rw[show((D.length:Int)+1).toNat=D.length+1 by omega,show l=D++y::R from hp];simp):p:=h
theorem AB(h:p:=by show 1+(List.drop _ (List.take _ (List.map S K))).length<=_;rw[List.length_drop,List.length_take,List.length_map];omega):p:=h
theorem AL(h:p:=by simpa using hu):p:=h
theorem AO(h:p:=by unfold rings;simp):p:=h
theorem AP(h:p:=by rw[hSd];exact Int.mul_zero _):p:=h
theorem AQ(h:p:=by rw[hSc];exact Int.mul_zero _):p:=h
theorem AU(h:p:=by cases hm):p:=h
theorem AV(h:p:=by rw[Array.length_toList,e2,<-b3];exact(List.getElem?_eq_some_iff.1 hi).1):p:=h
theorem AX(h:p:=by rw[show N+1000*(q+1)=N+1000+1000*q by omega];exact hn):p:=h
theorem AY(h:p:=by simp only[V.ok]):p:=h
theorem AZ(h:p:=by simp[IntKind.wrap,IntKind.signed,IntKind.bits];omega):p:=h
theorem Ba(h:p:=by unfold fst;rw[h1];exact wH hD (by rw[dH.2 hd];rfl)):p:=h
theorem Bd(h:p:=by simpa using hv):p:=h
theorem Be(h:p:=by rw[<-h4];exact List.mem_singleton.2 rfl):p:=h
theorem Bf(h:p:=by simp only[V.pure,V.ok];exact hok):p:=h
theorem Bg(h:p:=by rw[h1];simp):p:=h
theorem Bh(h:p:=by simp[hx]):p:=h
theorem Bj(h:p:=by rw[List.length_take];omega):p:=h
theorem Bl(h:p:=by have:colonB.size=1:=rfl;omega):p:=h
theorem Bo(h:p:=by simpa using hl):p:=h
theorem Bq(h:p:=by unfold X dif;simp only;grind):p:=h
theorem Bv(h:p:=by rw[show l=D++[]from hp];simp):p:=h
theorem Bz(h:p:=by cases List.mem_singleton.1 hy;rfl):p:=h
theorem BA(h:p:=by unfold itoaB Lib.itoa;simp[Lib.decDigits]):p:=h
theorem BB(h:p:=by rw[List.take_add_one,List.getElem?_eq_getElem hkl];rfl):p:=h
theorem BD(h:p:=by simp only[V.okL]):p:=h
theorem BF(h:p:=by simp only[Gc];rw[hb]):p:=h
theorem BG(h:p:=by unfold hvO;rw[hop];rfl):p:=h
theorem BH(h:p:=by unfold dJ;rw[if_neg ‹¬r.getD k z0=p›,eN,if_pos ⟨by assumption,by assumption⟩]):p:=h
theorem BI(h:p:=by rw[cat_size];omega):p:=h
theorem BJ(h:p:=by simp at h⊢;omega):p:=h
theorem BK(h:p:=by have:=hr.1 h;omega):p:=h
theorem BL(h:p:=by simp[Op.operands,Call.operands,hx]):p:=h
theorem BM(h:p:=by show 0<=_/\_< ((rs.map rgV).length:Int);omega):p:=h
theorem BN(h:p:=by rw[show pc=D++x::R from hp];simp):p:=h
theorem BO(h:p:=by simp only[V.ok]at hok⊢;exact hok):p:=h
theorem BP(h:p:=by show 0<=_/\_< ((A.map sgV).length:Int);rw[List.length_map];omega):p:=h
theorem BQ(h:p:=by show 0<=_/\_< ((B.map sgV).length:Int);rw[List.length_map];omega):p:=h
theorem BR(h:p:=by simpa using hq):p:=h
theorem BU(h:p:=by simpa using hc):p:=h
theorem BV(h:p:=by rw[hno]at hq;cases hq):p:=h
theorem BX(h:p:=by rw[hnp]at hq;cases hq):p:=h
theorem BZ(h:p:=by rw[show t+1+i=t+(i+1) by omega];exact hb (i+1) (by simp;omega)):p:=h
theorem Cb(h:p:=by rw[<-Int.mul_neg];congr 1;omega):p:=h
theorem Cc(h:p:=by unfold remS;rw[if_neg (by rw[e1];decide)]):p:=h
theorem Ce(h:p:=by rw[cX8,List.length_take];omega):p:=h
theorem Cf(h:p:=by show V.ok _ _ (.ae k g z i' o);simp only[V.ok]at h⊢;exact h):p:=h
theorem Ci(h:p:=by simp only[V.ok]at h h'⊢;exact aL2 h h'):p:=h
theorem Cj(h:p:=by obtain⟨m,_,rfl⟩:=List.mem_map.1 hy;rfl):p:=h
theorem C9(h:p:=by rw[show v.1-c.1=0 by omega,show d.1-c.1=0 by omega];simp):p:=h
theorem CB(h:p:=by rw[hcy,if_pos (hC.2 ⟨by assumption,by assumption⟩)];rfl):p:=h
theorem CG(h:p:=by rw[ha];exact Int.zero_mul _):p:=h
theorem CJ(h:p:=by rw[hb];exact Int.zero_mul _):p:=h
theorem CO(h:p:=by rw[hz];exact Int.zero_mul _):p:=h
theorem CP(h:p:=by rw[hy];exact Int.zero_mul _):p:=h
theorem CQ(h:p:=by rw[List.take_add_one,List.getElem?_eq_getElem hql];rfl):p:=h
theorem CS(h:p:=by show V.ok _ _ (.own e l);simp only[V.ok]at h⊢;exact h):p:=h
theorem CU(h:p:=by show V.ok _ _ (.arr k g);simp only[V.ok]at h⊢;exact h):p:=h
theorem CV(h:p:=by rw[hbl,<-hil];exact(List.getElem?_eq_some_iff.1 hj).1):p:=h
theorem CW(h:p:=by simp only[V.ok,V.okL]):p:=h
theorem CX(h:p:=by simp only[V.ok]at h h'⊢;exact⟨h,h'⟩):p:=h
theorem CY(h:p:=by first|exact hrd|(rw[hop];exact hrd)):p:=h
theorem CZ(h:p:=by show V.ok _ _ (.ap e l);simp only[V.ok]at h⊢;exact h):p:=h
theorem Dc(h:p:=by decide+kernel):p:=h
theorem Df(h:p:=by show V.ok _ _ (.cap l);simp only[V.ok]at h⊢;exact h):p:=h
theorem Dh(h:p:=by rw[hop];simp[cls]):p:=h
theorem Di(h:p:=by rw[<-e,hen]at hn;cases hn):p:=h
theorem Dj(h:p:=by rw[<-hlen];exact(List.getElem?_eq_some_iff.1 hq).1):p:=h
theorem Dk(h:p:=by show V.ok _ _ (.sl l);simp only[V.ok]at h⊢;exact h):p:=h
theorem Dl(h:p:=by show V.ok _ _ (.fp l);simp only[V.ok]at h⊢;exact h):p:=h
theorem Dn(h:p:=by have:=inv.size;omega):p:=h
theorem Dp(h:p:=by rw[List.length_map];omega):p:=h
theorem Dq(h:p:=by rw[hΦr];rfl):p:=h
theorem Dt(h:p:=by show upd σ.ar k _ k'=_;rw[upd_ne _ _ e1];exact hx):p:=h
theorem Du(h:p:=by rw[e2,hl];exact(List.getElem?_eq_some_iff.1 hi).1):p:=h
theorem Dv(h:p:=by rw[<-hil];exact(List.getElem?_eq_some_iff.1 hj).1):p:=h
theorem Dw(h:p:=by unfold onL X dif;simp only;rw[Int.mul_comm];omega):p:=h
theorem Dx(h:p:=by unfold dZ;rw[if_neg c1,if_neg (by rw[e1];decide)]):p:=h
theorem Dy(h:p:=by rw[h0,List.length_set,List.length_map];exact h3.2):p:=h
theorem Dz(h:p:=by replace h:=h.out;exact h):p:=h
theorem D5(h:p:=by rw[hlen];exact(List.getElem?_eq_some_iff.1 hy).1):p:=h
theorem D6(h:p:=by rw[show G.O b= .fz from hb];simp):p:=h
theorem D7(h:p:=by simp[FW,Fence.wide]at hh):p:=h
theorem D8(h:p:=by simpa only[V.ok]using h2):p:=h
theorem D9(h:p:=by rw[hcy,if_neg (fun h=>by have:=hC.1 h;simp_all)]):p:=h
theorem DC(h:p:=by rw[kS (a:=k+1) (by omega)];omega):p:=h
theorem DF(h:p:=by unfold corners;simp):p:=h
theorem DI(h:p:=by rw[hcs];exact(List.getElem?_eq_some_iff.1 hy).1):p:=h
theorem DJ(h:p:=by simp only[V.ok]at h⊢;exact V.okL.imp hp hq cs h):p:=h
theorem DK(h:p:=by rw[Int.tmod_eq_emod_of_nonneg (by omega)];omega):p:=h
theorem DL(h:p:=by rw[Int.tdiv_eq_ediv_of_nonneg (by omega)];omega):p:=h
theorem DN(h:p:=by rw[hl];exact(List.getElem?_eq_some_iff.1 hy).1):p:=h
theorem DR(h:p:=by rw[q1];exact(List.getElem?_eq_some_iff.1 hy).1):p:=h
theorem DT(h:p:=by have:=h40 s.outer (by unfold rings;simp);omega):p:=h
theorem DU(h:p:=by have:=(List.getElem?_eq_some_iff.1 h2).1;omega):p:=h
theorem DV(h:p:=by rw[hΦr]):p:=h
theorem DW(h:p:=by simp only[pos];rw[dif_pos hex]):p:=h
theorem DX(h:p:=by rw[lT];rfl):p:=h
theorem DY(h:p:=by rw[nX];rfl):p:=h
theorem DZ(h:p:=by unfold X dif;simp only;rw[Int.mul_comm];omega):p:=h
theorem Ea(h:p:=by rw[hr,e];exact⟨fun h=>h.2,fun h=>⟨trivial,h⟩⟩):p:=h
theorem Eb(h:p:=by obtain⟨q1,q2⟩:=q;contradiction):p:=h
theorem Ec(h:p:=by simp[List.getD,List.getElem?_eq_getElem hj']):p:=h
theorem Ed(h:p:=by have:=h40 r (by unfold rings;simp[hr]);omega):p:=h
theorem Ee(h:p:=by show 0<=_/\_< ((E.map vcV).length:Int);omega):p:=h
theorem Ef(h:p:=by show 0<=_/\_< ((E.map sgV).length:Int);omega):p:=h
theorem Eg(h:p:=by rw[dW.2 (h2 y hy)];rfl):p:=h
theorem Eh(h:p:=by simp only[Gc];rw[hb];simp[hk]):p:=h
theorem Ei(h:p:=by simpa using hy):p:=h
theorem Ej(h:p:=by simpa using hb):p:=h
theorem Em(h:p:=by simpa using h2):p:=h
theorem En(h:p:=by unfold dJ;rw[if_pos ‹r.getD k z0=p›,eN,eL]):p:=h
theorem Eo(h:p:=by rw[hk];have:=hA1 x hx;have:=hB2 y hy;omega):p:=h
theorem Ep(h:p:=by rw[show G.O b= .fz from hb]at hj;cases hj):p:=h
theorem Es(h:p:=by rw[<-Bool.not_eq_true,Nat.beq_eq];exact h):p:=h
theorem Et(h:p:=by rw[kS (a:=k+r.length-1) (by omega)];omega):p:=h
theorem Eu(h:p:=by rw[List.foldl_cons,dG7 xs,cE5];simp;omega):p:=h
theorem Ew(h:p:=by unfold Addr.add;split<;>rfl):p:=h
theorem Ey(h:p:=by simpa [Op.operands]using hx):p:=h
theorem Ez(h:p:=by rcases h with h|h<;>cases h):p:=h
theorem E5(h:p:=by rw[show t+(i+1)=t+1+i by omega];exact hb):p:=h
theorem E8(h:p:=by rw[hx];simp[frzE,hk]):p:=h
theorem EC(h:p:=by rw[<-hvk];exact nP.2 ⟨j,_,y,hx,hy,hl,hk⟩):p:=h
theorem ED(h:p:=by simp[hi]):p:=h
theorem EF(h:p:=by rw[List.length_drop]):p:=h
theorem EG(h:p:=by rw[hO];intro e;have:=Tag.ar.inj e;omega):p:=h
theorem EH(h:p:=by simpa [Nat.beq_eq]using c1):p:=h
theorem EI(h:p:=by rw[List.length_drop];omega):p:=h
theorem EJ(h:p:=by simp only[Bool.not_eq_true];assumption):p:=h
theorem EK(h:p:=by rw[Nat.zero_add];exact hrb i u y hu hy):p:=h
theorem EL(h:p:=by show V.ok _ _ (.lit u);simp only[V.ok]):p:=h
theorem EM(h:p:=by simpa using congrArg List.length hlens):p:=h
theorem EN(h:p:=by unfold maxLen;omega):p:=h
theorem EO(h:p:=by simpa using max6 hl):p:=h
theorem EP(h:p:=by simp only[V.ok];exact hwr):p:=h
theorem EQ(h:p:=by unfold jA;omega):p:=h
theorem ER(h:p:=by rw[keepO b (by rw[hb];simp)];exact hb):p:=h
theorem ES(h:p:=by unfold qA;rw[List.length_reverse,dH2]):p:=h
theorem ET(h:p:=by simp[h1]):p:=h
theorem EU(h:p:=by simp only[DataW.weights,ht];exact hk):p:=h
theorem EW(h:p:=by have:=inv.tag b hb;omega):p:=h
theorem EX(h:p:=by simp at q):p:=h
theorem EY(h:p:=by first|exact .inl ‹_› |exact .inr ‹_›):p:=h
theorem EZ(h:p:=by simpa using hj):p:=h
theorem Fa(h:p:=by simpa using hi):p:=h
theorem Fb(h:p:=by rw[h];simp):p:=h
theorem Fe(h:p:=by rw[size_setRow];exact Nat.le_refl _):p:=h
theorem Ff(h:p:=by simpa using hf):p:=h
theorem Fg(h:p:=by simp only[V.ok]at h⊢;exact hq _ _ h):p:=h
theorem Fh(h:p:=by unfold iI;simp):p:=h
theorem Fj(h:p:=by rw[List.getElem?_set_ne h];exact h1):p:=h
theorem Fp(h:p:=by rw[show ns=D2++n::R2 from hp2];simp):p:=h
theorem Fq(h:p:=by simp[binOp,Op.intArith]):p:=h
theorem Fv(h:p:=by show v- (w+1)<v-u;omega):p:=h
theorem Fz(h:p:=by rw[hok];exact hnd):p:=h
theorem F5(h:p:=by show V.ok _ _ .bot;simp only[V.ok]):p:=h
theorem F6(h:p:=by simp[Op.operands,Call.operands,hy]):p:=h
theorem F7(h:p:=by rw[show s.holes=D++[]from hp];simp):p:=h
theorem F8(h:p:=by unfold qA;rw[List.mem_reverse,dI0]):p:=h
theorem F9(h:p:=by have:=h.1 x (by rw[h1];simp);omega):p:=h
theorem FB(h:p:=by simp only[V.pure,V.ok]):p:=h
theorem FC(h:p:=by rw[q3];simp):p:=h
theorem FD(h:p:=by simp[Region.wanted,hg]):p:=h
theorem FH(h:p:=by simp[h2]):p:=h
theorem FI(h:p:=by simp[hy]):p:=h
theorem FK(h:p:=by simpa using hs.1):p:=h
theorem FM(h:p:=by rw[hDE];exact hE):p:=h
theorem FN(h:p:=by rw[h]at hl;omega):p:=h
theorem FO(h:p:=by simp only[V.okL];exact⟨hfpp,q5⟩):p:=h
theorem FP(h:p:=by simp only[bM,V.okL]):p:=h
theorem FQ(h:p:=by simpa using hn):p:=h
theorem FT(h:p:=by rw[e1,hd];simp):p:=h
theorem FU(h:p:=by rw[hp,hq];simp):p:=h
theorem FV(h:p:=by rw[e];exact h2):p:=h
theorem FX(h:p:=by rw[hO];simp):p:=h
theorem FY(h:p:=by rw[e1];simp):p:=h
theorem FZ(h:p:=by rw[<-hwr];simp[hp]):p:=h
theorem Gf(h:p:=by rw[b1]):p:=h
theorem Gg(h:p:=by rw[a1]):p:=h
theorem Gj(h:p:=by show w-u<v-u;omega):p:=h
theorem Gl(h:p:=by rw[this];exact hb):p:=h
theorem Gm(h:p:=by have:=h.2.1;omega):p:=h
theorem Gn(h:p:=by rw[hsl];exact hjl):p:=h
theorem Gs(h:p:=by show w+1<=v;omega):p:=h
theorem Gt(h:p:=by simp at hc):p:=h
theorem Gu(h:p:=by simp at hx):p:=h
theorem Gv(h:p:=by rw[hc];rfl):p:=h
theorem Gw(h:p:=by grind):p:=h
theorem Gy(h:p:=by simp[hlt]):p:=h
theorem Gz(h:p:=by simp at h):p:=h
theorem G6(h:p:=by rw[hP]):p:=h
theorem G7(h:p:=by
 refine dV ?_ ?_ ?_ ?_
 all_goals repeat' (first|exact trivial|refine And.intro ?_ ?_|with_reducible rfl|exact(fun h=>Ad)|exact Nat.le_refl _|omega|exact rfl)):p:=h
theorem G8(h:p:=by
 obtain⟨h1,h2⟩:=hp
 have hlen:l.length=D.length+R.length:=Bg
 have hD:∀y∈D,(!decB (Q y))=true:=fun y hy=>Eg
 cases R with
 |nil=>
  have e:l=D:=Bg
  simp at hlen
  repeat' ((conv=>whnf);first|(exfalso;omega)|refine zS ?_|refine zl (fun hlt=>?_) (fun hlt=>?_))
  conv=>whnf
  refine aG ?_
  unfold fstI
  rw[if_neg (iO.2 FV)]
 |cons x R=>
  rw[List.length_cons]at hlen
  repeat' ((conv=>whnf);first|(exfalso;omega)|refine zc (hg x) ?_|refine zS ?_|refine zd (fun hd=>?_) (fun hd=>?_)|refine zl (fun hlt=>?_) (fun hlt=>?_))
  ·conv=>whnf
   refine aG ?_
   have e:fst Q l=D.length:=Ba
   unfold fstI
   rw[e,if_pos Aa]
  ·conv=>whnf
   refine⟨(D++[x],R),?_,⟨?_,?_⟩,?_⟩
   ·refine dV ?_ ?_ ?_ ?_
    all_goals repeat' (first|exact trivial|refine And.intro ?_ ?_|with_reducible rfl|exact(fun h=>Ad)|exact Nat.le_refl _|omega|exact rfl)
    ·show(D.length:Int)+1=(D++[x]).length
     simp
   ·show l=D++[x] ++R
    rw[h1];simp
   ·intro m hm
    rcases List.mem_append.1 hm with hm|hm
    ·exact h2 m hm
    ·rw[List.mem_singleton.1 hm];exact hd
   ·show R.length< (x::R).length
    simp):p:=h
theorem G9(h:p:=by
 repeat' ((conv=>whnf);first
  |refine arith_half Aa ?_
  |refine arith_u Aa ?_
  |(exfalso;omega)
  |refine eY7 ?_
  |refine eZ1 Ac ?_
  |refine eH4 Aa ?_
  |refine fU (p:=(T.row _).eq=true) Ac ?_
  |refine fU Aa ?_
  |refine eZ2 ?_
  |refine eZ0 (fun hd=>?_) (fun hd=>?_)
  |refine br_lt (fun hlt=>?_) (fun hlt=>?_)
  |refine br_le (fun hle=>?_) (fun hle=>?_)
  |refine eV7 (fun heq=>?_) (fun heq=>?_)
  |refine eQ9 Aa (fun x hx=>?_)
  |refine eY0 rfl (fun h=>Ad) ?_
  |refine jU (fun hbb=>?_) (fun hbb=>?_)
  |refine ret_i ?_
  |refine fA7 ?_)
 conv=>whnf
 exact aA (aC (fun h=>FN))):p:=h
theorem GH(h:p:=by
 repeat' ((conv=>whnf);first
  |refine arith_half Aa ?_
  |refine arith_u Aa ?_
  |(exfalso;omega)
  |refine arith_u (show 0<=48+(u:Int).tmod 10/\48+(u:Int).tmod 10<=18446744073709551615 from Aa) ?_
  |refine arith_u8 (show 0<=48+(u:Int).tmod 10/\48+(u:Int).tmod 10<=255 from Aa) ?_
  |refine bytes_i [48+(u:Int).tmod 10] rfl ?_
  |refine fU (show(strOf [48+(u:Int).tmod 10]).size+s.size<=9223372036854775807 from Aa) ?_
  |refine arith_u (show 0<=(u:Int).tdiv 10/\(u:Int).tdiv 10<=18446744073709551615 from Aa) ?_
  |refine eY7 ?_
  |refine eZ1 Ac ?_
  |refine eH4 Aa ?_
  |refine fU (p:=(T.row _).eq=true) Ac ?_
  |refine fU Aa ?_
  |refine eZ2 ?_
  |refine eZ0 (fun hd=>?_) (fun hd=>?_)
  |refine br_lt (fun hlt=>?_) (fun hlt=>?_)
  |refine br_le (fun hle=>?_) (fun hle=>?_)
  |refine eV7 (fun heq=>?_) (fun heq=>?_)
  |refine eQ9 Aa (fun x hx=>?_)
  |refine eY0 rfl (fun h=>Ad) ?_
  |refine jU (fun hbb=>?_) (fun hbb=>?_)
  |refine ret_i ?_
  |refine fA7 ?_)
 conv=>whnf
 refine⟨(u/10,strOf [((48+u% 10:Nat):Int)] ++s),?_,digI_step hup hp,by show u/10<u;omega⟩
 refine dV ?_ ?_ ?_ ?_
 all_goals repeat' (first|exact trivial|refine And.intro ?_ ?_|with_reducible rfl|exact(fun h=>Ad)|exact Nat.le_refl _|omega|exact rfl)):p:=h
theorem GI(h:p:=by
 rcases Int.lt_trichotomy Sc 0 with hSc|hSc|hSc<;>rcases Int.lt_trichotomy Sd 0 with hSd|hSd|hSd
 all_goals (rcases Int.lt_trichotomy a 0 with ha|ha|ha<;>rcases Int.lt_trichotomy b 0 with hb|hb|hb<;>rcases hz with hz|hz|hz<;>rcases hy with hy|hy|hy<;>first|omega|((first|have p1:=Int.mul_pos ha hSd|have p1:=Int.mul_pos_of_neg_of_neg ha hSd|have p1:=Int.mul_neg_of_neg_of_pos ha hSd|have p1:=Int.mul_neg_of_pos_of_neg ha hSd|have p1:a*Sd=0:=CG|have p1:a*Sd=0:=AP);(first|have p2:=Int.mul_pos hb hSc|have p2:=Int.mul_pos_of_neg_of_neg hb hSc|have p2:=Int.mul_neg_of_neg_of_pos hb hSc|have p2:=Int.mul_neg_of_pos_of_neg hb hSc|have p2:b*Sc=0:=CJ|have p2:b*Sc=0:=AQ);(first|have p3:=Int.mul_pos hz hSd|have p3:=Int.mul_pos_of_neg_of_neg hz hSd|have p3:=Int.mul_neg_of_neg_of_pos hz hSd|have p3:=Int.mul_neg_of_pos_of_neg hz hSd|have p3:(a-w)*Sd=0:=CO|have p3:(a-w)*Sd=0:=AP);(first|have p4:=Int.mul_pos hy hSc|have p4:=Int.mul_pos_of_neg_of_neg hy hSc|have p4:=Int.mul_neg_of_neg_of_pos hy hSc|have p4:=Int.mul_neg_of_pos_of_neg hy hSc|have p4:(b-w)*Sc=0:=CP|have p4:(b-w)*Sc=0:=AQ);generalize a*Sd=m1 at*;generalize b*Sc=m2 at*;generalize (a-w)*Sd=m3 at*;generalize (b-w)*Sc=m4 at*;omega))):p:=h
theorem GK(h:p:=by
 refine dV ?_ ?_ ?_ ?_
 all_goals repeat' (first|exact trivial|refine And.intro ?_ ?_|with_reducible rfl|exact(fun h=>Ad)|exact Nat.le_refl _|omega|exact rfl)
 all_goals (try rw[List.length_map])):p:=h
theorem GL(h:p:=by (rcases Int.lt_trichotomy a 0 with ha|ha|ha<;>rcases Int.lt_trichotomy b 0 with hb|hb|hb<;>rcases hz with hz|hz|hz<;>rcases hy with hy|hy|hy<;>first|omega|((first|have p1:=Int.mul_pos ha hSd|have p1:=Int.mul_pos_of_neg_of_neg ha hSd|have p1:=Int.mul_neg_of_neg_of_pos ha hSd|have p1:=Int.mul_neg_of_pos_of_neg ha hSd|have p1:a*Sd=0:=CG|have p1:a*Sd=0:=AP);(first|have p2:=Int.mul_pos hb hSc|have p2:=Int.mul_pos_of_neg_of_neg hb hSc|have p2:=Int.mul_neg_of_neg_of_pos hb hSc|have p2:=Int.mul_neg_of_pos_of_neg hb hSc|have p2:b*Sc=0:=CJ|have p2:b*Sc=0:=AQ);(first|have p3:=Int.mul_pos hz hSd|have p3:=Int.mul_pos_of_neg_of_neg hz hSd|have p3:=Int.mul_neg_of_neg_of_pos hz hSd|have p3:=Int.mul_neg_of_pos_of_neg hz hSd|have p3:(a-w)*Sd=0:=CO|have p3:(a-w)*Sd=0:=AP);(first|have p4:=Int.mul_pos hy hSc|have p4:=Int.mul_pos_of_neg_of_neg hy hSc|have p4:=Int.mul_neg_of_neg_of_pos hy hSc|have p4:=Int.mul_neg_of_pos_of_neg hy hSc|have p4:(b-w)*Sc=0:=CP|have p4:(b-w)*Sc=0:=AQ);generalize a*Sd=m1 at*;generalize b*Sc=m2 at*;generalize (a-w)*Sd=m3 at*;generalize (b-w)*Sc=m4 at*;omega))):p:=h
theorem GN(h:p:=by
 have hlen2:B.length=E.length:=Au
 have hBE:B=E:=Au
 repeat' ((conv=>whnf);first|(exfalso;omega)|refine zS ?_|refine zT ?_ ?_<;>intro _|fail)
 all_goals conv=>whnf
 refine⟨(D++[x],R),?_,⟨Ag,fun z hz=>?_⟩,Ae⟩
 ·simp only[List.length_append,List.length_singleton]
  exact zj
 ·rcases List.mem_append.1 hz with hz|hz
  ·exact hD z hz
  ·rw[List.mem_singleton.1 hz,hBE]
   exact hE):p:=h
theorem GR(h:p:=by
 refine dV ?_ ?_ ?_ ?_
 all_goals repeat' (first|exact trivial|refine And.intro ?_ ?_|with_reducible rfl|exact(fun h=>Ad)|exact Nat.le_refl _|omega|exact rfl)
 all_goals (rw[List.length_map])):p:=h
theorem GU(h:p:=by
 have hv:(cs++Array.replicate (fn.ntmps-cs.size) undef).getD s undef=cs.getD s undef:=by
  simp[Array.getElem?_append_left hs]
 have hy:ys[s]? =some ys[s] :=List.getElem?_eq_getElem Aa
 rw[hv,hy]
 have hr:=hrb s _ hy
 generalize ys[s] =y at*
 simp only
 cases hl:linear y with
 |false=>
  have:y.pure/\Rv w G (cs.getD s undef) y:=by
   unfold Rb at hr
   split at hr
   ·simp[linear]at hl
   ·simp[linear]at hl
   ·exact hr
  exact this.2.aW hkeep this.1
 |true=>
  have h1:(cs.getD s undef).oneCell'=true:=by
   unfold Rb at hr
   split at hr
   ·exact own1 hr.2.2
   ·rcases hr.2.2 with q|q
    ·exact own1 q
    ·exact cap1 q.1
   ·rename_i hno1 hno2
    rw[oW hno1 hno2]at hl;cases hl
  exact Rv.arr (w:=w) (G:=G0) s 0 h1):p:=h
theorem GV(h:p:=by
 repeat' ((conv=>whnf);first
  |refine arith_half Aa ?_
  |refine arith_u Aa ?_
  |(exfalso;omega)
  |refine eY7 ?_
  |refine eZ1 Ac ?_
  |refine eH4 Aa ?_
  |refine fU (p:=(T.row _).eq=true) Ac ?_
  |refine fU Aa ?_
  |refine eZ2 ?_
  |refine eZ0 (fun hd=>?_) (fun hd=>?_)
  |refine br_lt (fun hlt=>?_) (fun hlt=>?_)
  |refine br_le (fun hle=>?_) (fun hle=>?_)
  |refine eV7 (fun heq=>?_) (fun heq=>?_)
  |refine eQ9 Aa (fun x hx=>?_)
  |refine eY0 rfl (fun h=>Ad) ?_
  |refine jU (fun hbb=>?_) (fun hbb=>?_)
  |refine ret_i ?_
  |refine fA7 ?_)
 conv=>whnf
 refine aA (fE ?_)
 apply List.ext_getElem?
 intro i
 rcases Nat.lt_or_ge i k with h|h
 ·exact hk2 i h
 ·rw[List.getElem?_eq_none Aa,List.getElem?_eq_none Aa]):p:=h
theorem GX(h:p:=by
 cases x with
 |tmp t=>
  refine bU _ _ _ _ (fun e=>hp1 t e ?_)
  unfold Oper.looksAt
  rw[List.mem_append]
  left
  rw[List.mem_filterMap]
  exact⟨.tmp t,Array.mem_toList_iff.2 hx,rfl⟩
 |const v=>rfl
 |global g=>rfl
 |func f=>rfl):p:=h
theorem GY(h:p:=by
 simp only[List.length_append,List.length_singleton]
 exact zj):p:=h
theorem GZ(h:p:=by
 have e:l=D:=Bv
 simp at hlen
 repeat' ((conv=>whnf);first
  |refine arith_half Aa ?_
  |refine arith_u Aa ?_
  |(exfalso;omega)
  |refine eY7 ?_
  |refine eZ1 Ac ?_
  |refine eH4 Aa ?_
  |refine fU (p:=(T.row _).eq=true) Ac ?_
  |refine fU Aa ?_
  |refine eZ2 ?_
  |refine eZ0 (fun hd=>?_) (fun hd=>?_)
  |refine br_lt (fun hlt=>?_) (fun hlt=>?_)
  |refine br_le (fun hle=>?_) (fun hle=>?_)
  |refine eV7 (fun heq=>?_) (fun heq=>?_)
  |refine eQ9 Aa (fun x hx=>?_)
  |refine eY0 rfl (fun h=>Ad) ?_
  |refine jU (fun hbb=>?_) (fun hbb=>?_)
  |refine ret_i ?_
  |refine fA7 ?_)
 conv=>whnf
 refine aG ?_
 rw[e]):p:=h
theorem He(h:p:=by
 repeat' ((conv=>whnf);first
  |refine arith_half Aa ?_
  |refine arith_u Aa ?_
  |refine bW7 ?_
  |refine eY7 ?_
  |refine eZ1 Ac ?_
  |refine eH4 Aa ?_
  |refine fU (p:=(T.row _).eq=true) Ac ?_
  |refine fU Aa ?_
  |refine eZ2 ?_
  |refine eZ0 (fun hd=>?_) (fun hd=>?_)
  |refine br_lt (fun hlt=>?_) (fun hlt=>?_)
  |refine br_le (fun hle=>?_) (fun hle=>?_)
  |refine eV7 (fun heq=>?_) (fun heq=>?_)
  |refine eQ9 Aa (fun x hx=>?_)
  |refine eY0 rfl (fun h=>Ad) ?_
  |refine jU (fun hbb=>?_) (fun hbb=>?_)
  |refine ret_i ?_
  |refine fA7 ?_)
 all_goals conv=>whnf
 exact aG rfl):p:=h
theorem Hf(h:p:=by
 repeat' ((conv=>whnf);first|refine zS ?_|refine zm (fun x hx=>?_)|refine zT ?_ ?_<;>intro _|fail)
 all_goals exact zE):p:=h
theorem Hg(h:p:=by
 have h1:(iI s).length=(rings s).length:=Fh
 have h2:(rings s).length=D.length+R.length:=Ag
 exact List.length_eq_zero_iff.1 Aa):p:=h
theorem Hl(h:p:=by
 rename_i hk
 have hu:∃dd,P.underlying t=some dd/\aggB (some dd)=true:=by
  cases hp:P.underlying t with
  |none=>rw[hp]at hk;simp[kdOf]at hk
  |some dd=>rw[hp]at hk;cases dd<;>simp[kdOf]at hk;exact⟨_,rfl,rfl⟩
 obtain⟨dd,hu,ha⟩:=hu
 by_cases ht:t<T.n t
 ·exact nested (aggOf dd hu ha ht) h'
 ·have:Nat.blt t (T.n t)=false:=by rw[<-Bool.not_eq_true];exact fun h=>ht (blt h)
  rw[this]at h'
  cases h'):p:=h
theorem Ho(h:p:=by
 simp only at h
 split at h
 ·rename_i hd
  obtain⟨vs,ms,h1,h2,h3⟩:=ih h
  refine⟨_,_,h1,?_,fun σ' hs K' hk=>?_⟩
  ·intro m hm
   rcases List.mem_cons.1 hm with rfl|hm
   ·exact hd
   ·exact h2 m hm
  ·rw[qL]
   simp only
   have h0:σ'.ar (d+1000*j)=σ.ar (d+1000*j):=hs _ (List.mem_cons_self ..)
   rw[h0,hd]
   exact h3 σ' (fun m hm=>hs m (List.mem_cons_of_mem _ hm)) _ hk
 ·exact h.elim):p:=h
theorem Hq(h:p:=by
 simp only
 have hr:=hrb s y hy
 cases hl:linear y with
 |false=>
  have:y.pure:=by
   unfold Rb at hr
   split at hr
   ·simp[linear]at hl
   ·simp[linear]at hl
   ·exact hr.1
  exact V.pure.ok this _ _
 |true=>
  simp only[cond_true,V.ok]
  have:∃en,jK ys 0 s=some en/\0<=en.gen:=by
   rw[gY]
   simp only[Nat.zero_le,if_true,Nat.sub_zero,hy]
   cases y<;>simp_all [linear]
  exact this):p:=h
theorem Hr(h:p:=by
 refine Mo.cond ?_ Mo.false
 unfold iE
 rename_i t0 x0 y0 z0
 split
 ·rename_i k g s hx _
  split
  ·split
   ·refine Mo.need fun hp=>Mo.cond (Mo.ret _ (h1 (.a k _) (.inr ⟨Ap,fun p q hok=>?_⟩))) Mo.false
    have:=hok x0 Ah
    rw[hx]at this
    simp only[V.ok]at this
    exact⟨g,this⟩
   ·exact Mo.false
  ·exact Mo.false
 ·exact Mo.false):p:=h
theorem Ht(h:p:=by
 have hlen:s.pieces.length=D.length:=Ag
 have e:s.pieces=D:=Ag
 generalize hP1:pcA r 1 s.pieces=q1
 generalize hP2:pcA r 2 s.pieces=q2
 generalize hP3:pcA r 3 s.pieces=q3
 rw[e]at hP1 hP2 hP3
 rw[hP1,hP2,hP3]
 repeat' ((conv=>whnf);first|(exfalso;omega)|refine zS ?_|refine zm (fun x hx=>?_)|refine zT ?_ ?_<;>intro _|fail)
 all_goals exact zE):p:=h
theorem Hu(h:p:=by
 refine mW (σ:=σ.put p.dst v []) (fun _=>⟨b1.symm,a1.symm⟩) ?_ ?_ ?_ h2
 ·intro t ht
  exact(bU _ _ _ _ (fun e=>hp1 t e ht)).symm
 ·intro _ x hx
  rw[cX5 hx hp1]
  exact V.ok.imp (fun j _=>Gf) (fun j _ _=>Gg) _ (wf x)
 ·intro m _
  cases m with
  |b j cs=>show σ.bx j=_;rw[b1]
  |a j cs=>show σ.ar j=_;rw[a1]):p:=h
theorem Hw(h:p:=by
 have hy:ys[s]? =none:=List.getElem?_eq_none Aa
 rw[hy]
 have hv:(cs++Array.replicate (fn.ntmps-cs.size) undef).getD s undef=undef:=by
  rw[Array.getD_eq_getD_getElem?,Array.getElem?_append_right Aa]
  by_cases h2:s-cs.size<fn.ntmps-cs.size
  ·simp[h2]
  ·rw[Array.getElem?_eq_none Ai];rfl
 rw[hv]
 exact xK w G0):p:=h
theorem Hy(h:p:=by exact put_comm (fun t e=>hp2 t e) (fun j ⟨m,hm,_⟩=>AU) (fun j ⟨m,hm,_⟩=>AU)):p:=h
theorem Hz(h:p:=by
 refine mW (σ:=σ) (fun hq=>BX) ?_ ?_ ?_ h1
 ·intro t ht
  exact bU _ _ _ _ (fun e=>hp3 t e ht)
 ·intro _ x hx
  exact V.ok.imp (fun j _=>Gf) (fun j _ _=>Gg) _ (wf x)
 ·intro m _
  cases m with
  |b j cs=>show(σ.put o.dst v' []).bx j=_;rw[b1]
  |a j cs=>show(σ.put o.dst v' []).ar j=_;rw[a1]):p:=h
theorem H6(h:p:=by
 rcases q4 b hb with⟨h,h'⟩|⟨k,h⟩
 ·rcases inv'.fzm b h with h2|h2
  ·exact .inl ⟨h2,h'⟩
  ·exact .inr h2
 ·exact .inr (inv'.mineA b k h)):p:=h
theorem H7(h:p:=by
 refine mW (σ:=σ) (fun _=>⟨b1,a1⟩) ?_ ?_ ?_ h1
 ·intro t ht
  exact bU _ _ _ _ (fun e=>hp3 t e ht)
 ·intro _ x hx
  exact V.ok.imp (fun j _=>Gf) (fun j _ _=>Gg) _ (wf x)
 ·intro m _
  cases m with
  |b j cs=>show _=σ.bx j;rw[b1]
  |a j cs=>show _=σ.ar j;rw[a1]):p:=h
theorem H8(h:p:=by
 rename_i hlt
 exact Classical.byContradiction fun hn=>(h.2 (fun m hm hq=>hn ⟨m,hm,hq⟩)) hlt):p:=h
theorem H9(h:p:=by
 rcases h7 with⟨_,h⟩|⟨_,h⟩
 ·rw[h];decide
 ·exact h.2.1):p:=h
theorem HY(h:p:=by
 rw[hy]at hx
 simp only[Option.map_some,Option.some.injEq]at hx
 subst hx
 exact ih j c y hc hy (aH.1 hok y (List.mem_of_getElem? hy)) hp):p:=h
theorem Ia(h:p:=by
 repeat' ((conv=>whnf);first|(exfalso;omega)|refine zS ?_|refine zT ?_ ?_<;>intro _|fail)
 all_goals conv=>whnf
 refine⟨i+1,?_,⟨Aa,fun i' k' h1 h2 h3=>?_⟩,Aa⟩
 ·exact zj
 ·by_cases e:i'=i
  ·subst e
   exact hin k' h2 Aa
  ·exact hap i' k' Aa h2 h3):p:=h
theorem Ib(h:p:=by
 obtain⟨_,z,hz,h⟩:=h
 rw[bC]at h
 simp only[V.ok]at hx
 cases hb:(Nat.beq (lenR z.cells) (T.row r.elem).size&&Nat.blt r.elem (T.n r.elem))with
 |false=>rw[hb]at h;exact h.elim
 |true=>
  rw[hb]at h
  obtain⟨rfl,_⟩:=h
  simp only[V.ok]
  exact el hx hz):p:=h
theorem Ic(h:p:=by
 have e:gcdI x y=gcdI y (x.tmod y):=by rw[gcdI,dif_neg h0]
 repeat' ((conv=>whnf);first|refine uM h0 ?_|(exfalso;omega)|refine zS ?_|refine zT ?_ ?_<;>intro _|fail)
 all_goals conv=>whnf
 refine⟨(y,x.tmod y),?_,by rw[<-hp,e],tmod_lt x y h0⟩
 exact zj):p:=h
theorem Ie(h:p:=by
 rw[hy]at hx
 simp only[Option.map_some,Option.some.injEq]at hx
 subst hx
 exact ih j c y hc hy (aH.1 hok y (List.mem_of_getElem? hy))):p:=h
theorem Ig(h:p:=by
 rename_i e l hy
 cases hen'
 have hr:=hrb k _ hy
 obtain⟨q1,q2,q3⟩:=hr
 refine⟨q1,?_⟩
 rcases q3 with q|q
 ·exact .inl (q.keep hkeep q2 (fun b hb=>⟨hb,rfl⟩))
 ·exact .inr ⟨q.1.aW hkeep (by simp only[V.pure,V.ok];exact q2),q.2⟩):p:=h
theorem Ih(h:p:=by
 refine aL3 (w:=dif s.2 s.1) ?_ ?_ hw
 ·unfold xD at hd;unfold X at*;rw[Int.mul_comm,Int.mul_comm (dif t.2 t.1).2];omega
 ·have e:=xR hp lc
  unfold X
  show(p.1-t.1.1)*_- (p.2-t.1.2)*_=0
  rw[Int.mul_comm,Int.mul_comm (p.2-t.1.2)]
  omega):p:=h
theorem Ii(h:p:=by
 have hb:Nat.beq s j=false:=by rw[<-Bool.not_eq_true,Nat.beq_eq];exact e
 rw[hb,cond_false,ih]
 by_cases h1:j+1<=s
 ·rw[if_pos h1,if_pos Aa]
  rw[show s-j=(s- (j+1))+1 from Aa,List.getElem?_cons_succ]
 ·rw[if_neg h1,if_neg Aa]):p:=h
theorem Ij(h:p:=by
 rw[if_neg h]
 refine⟨⟨fun h=>Ad,?_⟩,⟨?_,fun h=>Ez⟩,⟨fun h=>Ad,fun h=>absurd h.2 hcr⟩⟩
 ·rintro⟨p,q,_,_,hne,h1,h2⟩
  exact absurd ((hcom _).1 h1).2 h
 ·rintro⟨p,_,h1⟩
  exact absurd ((hcom _).1 h1).2 h):p:=h
theorem Ik(h:p:=by
 refine⟨k+1,?_,⟨Aa,fun j hj=>?_⟩,Aa⟩
 ·exact zj
 ·rcases Nat.lt_or_ge j k with h|h
  ·exact hN j h
  ·have:j=k:=by omega
   subst this
   unfold dJ
   rw[if_neg ‹¬r.getD j z0=p›,eN,if_neg (fun h=>absurd h.2 Af)]):p:=h
theorem Il(h:p:=by
 cases x with
 |lit u=>simp only[V.pure,V.ok]
 |sl l=>simp only[V.pure,V.ok]at hok⊢;exact hok
 |cap l=>simp only[V.pure,V.ok]at hok⊢;exact hok
 |fn g l=>simp only[V.pure,V.ok]at hok⊢;exact wC h hok
 |_=>simp[V.atom]at h):p:=h
theorem Io(h:p:=by
 cases u with
 |slice b n c=>
  cases b with
  |none=>
   cases n with
   |zero=>
    cases c with
    |zero=>exact h []
    |succ c=>exact Det.false
   |succ n=>exact Det.false
  |some b=>exact Det.false
 |_=>exact Det.false):p:=h
theorem Ip(h:p:=by
 refine⟨k+1,?_,⟨Aa,fun j hj=>?_⟩,Aa⟩
 ·exact zj
 ·rcases Nat.lt_or_ge j k with h|h
  ·exact hN j h
  ·have:j=k:=by omega
   subst this
   unfold dJ
   rw[if_neg ‹¬r.getD j z0=p›,eN,if_neg (fun h=>h.1 Af)]):p:=h
theorem Iq(h:p:=by
 have e:k+1=r.length:=by omega
 rw[<-e]
 repeat' ((conv=>whnf);first|(exfalso;omega)|refine zS ?_|refine zT ?_ ?_<;>intro _|fail)
 all_goals conv=>whnf
 exact⟨⟨⟨rfl,rfl,rfl,rfl⟩,trivial⟩,rfl,fun _ h=>Ad⟩):p:=h
theorem Ir(h:p:=by
 refine dV ?_ ?_ ?_ ?_
 all_goals repeat' (first|exact trivial|refine And.intro ?_ ?_|with_reducible rfl|exact(fun h=>Ad)|exact Nat.le_refl _|omega|exact rfl)
 all_goals (rw[List.length_map];rfl)):p:=h
theorem Iu(h:p:=by
 rw[h1 hr]
 repeat' ((conv=>whnf);first|(exfalso;omega)|refine zS ?_|refine zT ?_ ?_<;>intro _|fail)
 all_goals conv=>whnf
 exact⟨⟨⟨of_decide_eq_true Ac,rfl⟩,trivial⟩,rfl,fun _ h=>Ad⟩):p:=h
theorem Iw(h:p:=by
 refine he s ?_
 unfold Oper.looksAt
 rw[List.mem_append]
 right
 unfold tV at q1
 rw[uN]at q1
 simp[hg,q1]):p:=h
theorem Iy(h:p:=by exact put_comm (fun t e=>hp2 t e) (fun j _ m hm=>AU) (fun j _ m hm=>AU)):p:=h
theorem Iz(h:p:=by
 rw[hms]
 simp only[V.ok]
 refine aH.2 fun x hx=>?_
 obtain⟨i,hi⟩:=List.getElem?_of_mem hx
 have hlt2:i<vs'.toList.length:=AV
 exact(b4 i _ x (List.getElem?_eq_getElem hlt2) hi).2):p:=h
theorem I4(h:p:=by
 rcases List.mem_cons.1 hm with h|h
 ·exact⟨_,_,h⟩
 ·exact ih m h):p:=h
theorem I5(h:p:=by
 rw[d_else b hc]
 cases hO:G.O b with
 |ext=>exact .inl rfl
 |fz=>exact .inr (.inl rfl)
 |bx i=>exact .inl rfl
 |ar k=>
  by_cases h1:k∈ok
  ·exact .inr (.inl ET)
  ·exact .inl ET):p:=h
theorem I7(h:p:=by
 rw[if_pos hk1]at hen
 cases hs:σ.ar k with
 |none=>rw[hs]at hen;cases hen
 |some en0=>
  rw[hs]at hen
  simp at hen
  subst hen
  exact .inr ⟨trivial,by simp only[bJ2,V.okL]⟩):p:=h
theorem I8(h:p:=by
 refine Det.cond ?_ Det.false
 unfold iE
 split
 ·split
  ·split
   ·exact Det.need (Det.cond (Det.ret _ _) Det.false)
   ·exact Det.false
  ·exact Det.false
 ·exact Det.false):p:=h
theorem I9(h:p:=by
 refine⟨(D++[r],R'),?_,Ag,Ae,fun q hq=>?_⟩
 ·simp only[ec]
  exact zj
 ·rcases List.mem_append.1 hq with hq|hq
  ·exact hD q hq
  ·rw[List.mem_singleton.1 hq];assumption):p:=h
theorem IA(h:p:=by
 refine⟨by show r.length<=k;omega,fun z hz=>hp2 z (by simp[show z∈r from hz]),?_⟩
 show(insR c x R0).reverse=(insR c x r).reverse++y::M
 rw[hp3];simp[insR,hlt]):p:=h
theorem IB(h:p:=by
 rcases Nat.lt_or_ge i k with h|h
 ·exact hk2 i h
 ·obtain rfl:i=k:=by omega
  rw[List.getElem?_eq_getElem hka,List.getElem?_eq_getElem Aa]
  exact congrArg some heq):p:=h
theorem IC(h:p:=by
 have e:((s.outer.length+corners (D++[h]):Nat):Int)=((s.outer.length+corners D:Nat):Int)+((h.map vcV).length:Int):=by rw[hcs,List.length_map];omega
 rw[e]
 exact zj):p:=h
theorem IE(h:p:=by
 have:¬(k'=k/\g=gen):=by rintro⟨rfl,rfl⟩;exact absurd (hno g hg) Aa
 simp[av',this]):p:=h
theorem IG(h:p:=by
 split
 ·exact ih _ _ (fun vs ms K=>Φ _ _ K) fun vs ms=>h _ _
 ·split
  ·exact ih _ _ (fun vs ms K=>Φ _ _ K) fun vs ms=>h _ _
  ·exact Det.false):p:=h
theorem II(h:p:=by
 simp only[V.ok]
 exact⟨_,upd_same _ _ _,Nat.le_refl _⟩):p:=h
theorem IJ(h:p:=by exact bT4 (Φ:=fun v m K=>oJ ar is ok r xr (N+1000) fun vs ms=>Φ (v::vs) (m::ms) K) fun v m=>ih _ _ (fun vs ms K=>Φ _ _ K) fun vs ms=>h _ _):p:=h
theorem IK(h:p:=by
 split at h
 ·rename_i hd
  obtain⟨_,_,h4⟩:=dX h
  have:=hm _ Be
  simp only[show σ'.ar d=none from this.trans hd]
  exact h
 ·exact h.elim):p:=h
theorem IL(h:p:=by
 rw[hp]
 repeat' ((conv=>whnf);first|refine zS ?_|fail)
 all_goals conv=>whnf
 exact⟨⟨⟨rfl,rfl,rfl,rfl⟩,trivial⟩,rfl,fun _ h=>Ad⟩):p:=h
theorem IQ(h:p:=by
 refine he t ?_
 unfold Oper.looksAt
 rw[List.mem_append]
 left
 rw[List.mem_filterMap]
 exact⟨.tmp t,Array.mem_toList_iff.2 hx,rfl⟩):p:=h
theorem IU(h:p:=by
 obtain⟨_,z,hz,h⟩:=h
 rw[bC]at h
 simp only[V.ok]at hx
 obtain⟨_,h⟩:=aT h
 obtain⟨rfl,_⟩:=h
 simp only[V.ok]
 exact el hx hz):p:=h
theorem IV(h:p:=by
 rename_i e l hy
 cases hen'
 have hr:=hrb k _ hy
 obtain⟨q1,q2,q3⟩:=hr
 exact⟨q1,q3.keep hkeep q2 (fun b hb=>⟨hb,rfl⟩)⟩):p:=h
theorem IW(h:p:=by
 by_cases e1:k'=k
 ·subst e1;exact⟨_,upd_same _ _ _,Nat.le_of_lt (hno g' hh)⟩
 ·obtain⟨x,hx,hg⟩:=hh
  exact⟨x,Dt,hg⟩):p:=h
theorem IX(h:p:=by
 repeat' ((conv=>whnf);first|(exfalso;omega)|refine zc hso ?_|refine zS ?_|refine zT ?_ ?_<;>intro _|fail)
 all_goals exact zE):p:=h
theorem IY(h:p:=by
 have hh':cond (iC x) (iC y) false=true:=hh
 cases hx:iC x with
 |true=>rw[hx]at hh';exact hh'
 |false=>rw[hx]at hh';cases hh'):p:=h
theorem IZ(h:p:=by
 rename_i e l hy
 cases hen'
 exact(hrb k _ hy).2.1):p:=h
theorem Ja(h:p:=by
 rw[List.foldl_cons,dH5 (xs:=xs),cG2,List.mem_cons]
 constructor
 ·rintro((h|h)|h)<;>simp[h]
 ·rintro(h|h|h)<;>simp[h]):p:=h
theorem Jb(h:p:=by
 show upd _ _ _ _=upd _ _ _ _
 by_cases e:i=j
 ·subst e;rw[upd_same,upd_same]
 ·rw[upd_ne _ _ e,upd_ne _ _ e];exact h):p:=h
theorem Jc(h:p:=by
 split
 ·exact Mo.need fun _=>Mo.ret _ (one _ _)
 ·exact Mo.false):p:=h
theorem Jd(h:p:=by
 split
 ·rename_i hd
  exact Mo.need fun _=>Mo.ret _ (one _ _ (fun en he=>by rw[hd]at he;cases he))
 ·exact Mo.false):p:=h
theorem Je(h:p:=by
 refine⟨k+1,?_,⟨Aa,fun i hi=>?_⟩,Aa⟩
 ·exact zj
 ·by_cases e:i=k
  ·subst e;assumption
  ·exact ht i Aa):p:=h
theorem Jf(h:p:=by
 unfold insR;split
 ·rw[List.mem_cons,cG2 (R:=r),List.mem_cons]
  constructor<;>(rintro(h|h|h)<;>simp[h])
 ·simp):p:=h
theorem Jg(h:p:=by
 rcases hc.2.2 with h|h
 ·rw[h];rfl
 ·rw[Nat.beq_eq,iL]at h
  rw[List.length_eq_zero_iff.1 h]
  cases lend<;>rfl):p:=h
theorem Jh(h:p:=by
 refine⟨(D++[x],R),?_,⟨Ag,hgood heq⟩,Ae⟩
 simp only[List.length_append,List.length_singleton]
 exact zj):p:=h
theorem Ji(h:p:=by
 split at h
 ·rename_i h0 _;cases h0
 ·exact h):p:=h
theorem Jj(h:p:=by
 repeat' ((conv=>whnf);first|(exfalso;omega)|refine zS ?_|refine zT ?_ ?_<;>intro _|fail)
 all_goals exact zE):p:=h
theorem Jk(h:p:=by
 obtain⟨s,_,h2⟩:=h2
 rcases h2 with⟨_,h2⟩|⟨_,_,h2⟩
 ·exact key h2
 ·subst h2;intro m hm;cases hm):p:=h
theorem Jl(h:p:=by
 rcases List.mem_append.1 hz with hz|hz
 ·exact hE z hz
 ·rw[List.mem_singleton.1 hz]
  exact⟨Af,Af,Af⟩):p:=h
theorem Jm(h:p:=by
 have e:=(List.getElem?_eq_some_iff.1 hx).2
 rw[<-e,<-List.drop_eq_getElem_cons hwl,List.take_append_drop]):p:=h
theorem Jo(h:p:=by
 have hh':cond (iC x) (iC y) false=true:=hh
 cases hx:iC x with
 |true=>rfl
 |false=>rw[hx]at hh';cases hh'):p:=h
theorem Jp(h:p:=by
 simp only[Gc];rw[hb]
 have:k∉vk:=hdisj k hk
 simp[hk,this]):p:=h
theorem Jq(h:p:=by split<;>first|exact Det.need (Det.ret _ _)|exact Det.false):p:=h
theorem Jr(h:p:=by
 rw[d_else b hc]at hb
 have:G.O b≠ .ext:=by intro hO;rw[hO]at hb;exact hb rfl
 have:=hlt b this
 omega):p:=h
theorem Js(h:p:=by
 rw[bC]at h
 obtain⟨v',ms',⟨rfl,rfl⟩,q2,q3⟩:=yX (aN7 hh rfl) h
 exact fun m hm=> .inl (q2 m hm)):p:=h
theorem Jt(h:p:=by
 unfold wf1 at hw
 simp only at hw
 split at hw
 ·rename_i en hen;exact⟨en,hen,hw⟩
 ·exact hw.elim):p:=h
theorem Ju(h:p:=by
 cases m with
 |b j' cs'=>cases hbm;have h':σ.bx j=none:=h;rw[h']at hj;cases hj
 |a j' en=>exact hbm):p:=h
theorem Jv(h:p:=by
 rename_i t x y z
 obtain⟨h1,h2⟩:=aT h
 rw[h1,he x Ah,he y Ah,he z Ah]
 exact aH2 (ha Ap x Ah) h2):p:=h
theorem Jw(h:p:=by
 rcases List.mem_append.1 hz with hz|hz
 ·exact hE z hz
 ·rw[List.mem_singleton.1 hz]
  assumption):p:=h
theorem Jy(h:p:=by
 have hO:=inv.ext_size h1
 exact⟨by rw[d_else b hne,hO], .inl (Nat.le_trans inv.size h1),hsz⟩):p:=h
theorem Jz(h:p:=by
 rw[hkd]at hokk
 refine .inr ⟨?_,hp⟩
 rcases hokk.2 with q|q
 ·exact own q
 ·exact slr q.1.wK):p:=h
theorem J3(h:p:=by
 rcases List.mem_append.1 hk with hk|hk
 ·exact hD k hk
 ·rw[List.mem_singleton.1 hk];exact hok):p:=h
theorem J4(h:p:=by
 show upd _ _ _ _≠none
 by_cases e:i=j
 ·subst e;rw[upd_same];simp
 ·rw[upd_ne _ _ e];exact h):p:=h
theorem J5(h:p:=by exact same hx0 (kU hT ht hkd he ty none 0 0 (Nat.le_refl _) v (empty hx0)) rfl (.inr trivial)):p:=h
theorem J6(h:p:=by
 obtain⟨_,_,rfl,⟨a,rfl,ra⟩,_,_,rfl,⟨b,rfl,rb⟩,rfl⟩:=h
 exact⟨(a,b),rfl,trivial⟩):p:=h
theorem J7(h:p:=by rcases q4 b hb with⟨h,_⟩|⟨k,h⟩<;>(rw[h];simp)):p:=h
theorem J8(h:p:=by
 split
 ·rename_i hd
  exact Mo.need fun hp=>Mo.ret _ (h1 (.a d _) (.inl hd))
 ·exact Mo.false):p:=h
theorem J9(h:p:=by
 rcases List.mem_append.1 hz with hz|hz
 ·exact hE z hz
 ·rw[List.mem_singleton.1 hz];exact n):p:=h
theorem JA(h:p:=by
 rcases List.mem_append.1 hv with hv|hv
 ·exact hD v hv
 ·rw[List.mem_singleton.1 hv];exact h):p:=h
theorem JB(h:p:=by
 by_cases h2:k∈ok
 ·rw[c_ok b k hO h2]at hb;cases hb
 ·rw[c_no b k hO h1 h2]at hb;cases hb):p:=h
theorem JC(h:p:=by
 have hne:¬k=s:=fun e=>by
  have:=b2.2 (e.trans (c2.1 rfl));cases this
 simp only[if_neg hne]):p:=h
theorem JD(h:p:=by
 rw[force_eq]at h
 obtain⟨h1,h2⟩:=inv.ev x
 exact .plain inv (by simp[execOp,ho]) h h1 h2):p:=h
theorem JE(h:p:=by
 simp only[h1,h2,if_false,List.mem_cons,or_self]
 show upd σ'.ar x _ k=_
 rw[upd_ne _ _ h2]):p:=h
theorem JF(h:p:=by
 have:z.cells.toList.length=(T.row (T.row t).elem).size:=by rw[hzc,hz2]
 simpa using this):p:=h
theorem JG(h:p:=by
 simp only[V.ok]at h2⊢
 rw[aH]at h2⊢
 exact fun y hy=>h2 y (List.mem_of_mem_drop hy)):p:=h
theorem JH(h:p:=by
 have e:Gi.O b=(match G.O b with| .fz=>Tag.fz|_=> .ext):=rfl
 rw[e]
 cases G.O b<;>simp):p:=h
theorem JI(h:p:=by
 simp only
 cases σ.ar k with
 |none=>exact Det.false
 |some en=>exact Det.need (h _)):p:=h
theorem JJ(h:p:=by
 rw[List.getD_eq_getElem?_getD,List.getElem?_eq_getElem h]
 exact List.getElem_mem h):p:=h
theorem JK(h:p:=by
 rw[hkd]at hokk
 refine .inr ⟨?_,hp⟩
 simp only
 unfold gW
 rw[hkd]
 exact slr hokk):p:=h
theorem JL(h:p:=by exact Mo.need (fun hp=>Mo.idx fun x=>Mo.bJ fun l=>Mo.cond (Mo.ret _ hn) Mo.false)):p:=h
theorem JM(h:p:=by
 simp only[Bool.true_eq_false,if_false,Sem.run_pure,Result.andThen_ok]
 exact ih'):p:=h
theorem JO(h:p:=by exact Mo.need fun _=>Mo.idx fun x=>Mo.bJ fun l=>Mo.cond (Mo.ret _ rfl) Mo.false):p:=h
theorem JP(h:p:=by exact Det.need (Det.idx fun x=>Det.bJ fun l=>Det.cond (Det.ret _ _) Det.false)):p:=h
theorem JQ(h:p:=by
 obtain⟨dd,h1,h2,_⟩:=h.und
 rw[hk]at h2
 cases dd<;>simp[kdOf]at h2
 exact h1):p:=h
theorem JR(h:p:=by
 split
 ·refine⟨_,rfl,?_⟩
  unfold frzE;split<;>rfl
 ·exact⟨_,rfl,rfl⟩):p:=h
theorem JS(h:p:=by
 rw[e1]
 refine .tup vs' vs (by rw[e2,b3]) fun i c x hc hx=>(b4 i c x BU hx).1):p:=h
theorem JU(h:p:=by
 show(cs++Array.replicate (fn.ntmps-cs.size) undef).size=fn.ntmps
 simp;omega):p:=h
theorem JV(h:p:=by
 have:=hc.2.1
 rw[Nat.beq_eq,iL]at this
 exact List.length_eq_zero_iff.1 this):p:=h
theorem JW(h:p:=by
 cases u with
 |none=>simp[kdOf]at h
 |some dd=>cases dd<;>simp[kdOf]at h;rfl):p:=h
theorem JY(h:p:=by
 cases m with
 |b j' cs'=>cases hbm;cases h;exact hi hi'
 |a j' en=>exact hbm):p:=h
theorem JZ(h:p:=by
 rw[List.getElem?_eq_none (by rw[List.length_range];omega)]at hu
 cases hu):p:=h
theorem Ko(h:p:=by
 refine Mo.need fun _=>?_
 split<;>first|exact Mo.ret _ hn|exact Mo.false):p:=h
theorem Kq(h:p:=by exact Det.force fun y=>ih _ _ (fun vs ms K=>Φ _ _ K) fun vs ms=>h _ _):p:=h
theorem Kr(h:p:=by
 refine mW (σ:=σ.put p.dst v []) (fun hq=>BV) ?_ ?_ ?_ h2
 ·intro t ht
  exact(bU _ _ _ _ (fun e=>hp1 t e ht)).symm
 ·intro _ x hx
  have e:(σ.put p.dst v []).ev x=σ.ev x:=GX
  rw[e]
  exact V.ok.imp (fun j _=>Gf) (fun j _ _=>Gg) _ (wf x)
 ·intro m _
  cases m with
  |b j cs=>show σ.bx j=_;rw[b1]
  |a j cs=>show σ.ar j=_;rw[a1]):p:=h
theorem Kt(h:p:=by
 conv=>whnf
 refine⟨k+1,?_,⟨Aa,fun i hi=>?_⟩,Aa⟩
 ·exact G7
 ·exact IB):p:=h
theorem Ku(h:p:=by
 rw[<-hlb]at hj
 repeat' ((conv=>whnf);first
  |refine arith_half Aa ?_
  |refine arith_u Aa ?_
  |(refine aS5 (labelled_spec p) false ?_ rfl ?_;focus ((repeat' (first|exact trivial|refine And.intro ?_ ?_|with_reducible rfl|exact(fun h=>Ad)|exact rfl));done))
  |(exact(hd hl).elim)
  |(exfalso;omega)
  |refine branch_f hb ?_
  |(refine aS5 (itoa_spec p.id Aa Aa) false ?_ rfl ?_;focus ((repeat' (first|exact trivial|refine And.intro ?_ ?_|with_reducible rfl|exact(fun h=>Ad)|exact rfl));done))
  |(refine aS5 (itoa_spec p.par Aa Aa) false ?_ rfl ?_;focus ((repeat' (first|exact trivial|refine And.intro ?_ ?_|with_reducible rfl|exact(fun h=>Ad)|exact rfl));done))
  |(refine aS5 (itoa_spec p.size Aa Aa) false ?_ rfl ?_;focus ((repeat' (first|exact trivial|refine And.intro ?_ ?_|with_reducible rfl|exact(fun h=>Ad)|exact rfl));done))
  |refine fU (show(itoaB p.par).size+colonB.size<=9223372036854775807 from Bl) ?_
  |refine fU (show shippedB.size+p.order.size<=9223372036854775807 from Aa) ?_
  |(refine aS5 (hj) true ?_ rfl ?_;focus ((repeat' (first|exact trivial|refine And.intro ?_ ?_|with_reducible rfl|exact(fun h=>Ad)|exact rfl));done))
  |refine eY7 ?_
  |refine eZ1 Ac ?_
  |refine eH4 Aa ?_
  |refine fU (p:=(T.row _).eq=true) Ac ?_
  |refine fU Aa ?_
  |refine eZ2 ?_
  |refine eZ0 (fun hd=>?_) (fun hd=>?_)
  |refine br_lt (fun hlt=>?_) (fun hlt=>?_)
  |refine br_le (fun hle=>?_) (fun hle=>?_)
  |refine eV7 (fun heq=>?_) (fun heq=>?_)
  |refine eQ9 Aa (fun x hx=>?_)
  |refine eY0 rfl (fun h=>Ad) ?_
  |refine jU (fun hbb=>?_) (fun hbb=>?_)
  |refine ret_i ?_
  |refine fA7 ?_)
 conv=>whnf
 exact ret_two rfl rfl rfl):p:=h
theorem Kv(h:p:=by
 rw[<-hlb]at hj
 repeat' ((conv=>whnf);first
  |refine arith_half Aa ?_
  |refine arith_u Aa ?_
  |(refine aS5 (labelled_spec p) false ?_ rfl ?_;focus ((repeat' (first|exact trivial|refine And.intro ?_ ?_|with_reducible rfl|exact(fun h=>Ad)|exact rfl));done))
  |(exact(hd hl).elim)
  |(exfalso;omega)
  |refine xE hb ?_
  |(refine aS5 (itoa_spec p.id Aa Aa) false ?_ rfl ?_;focus ((repeat' (first|exact trivial|refine And.intro ?_ ?_|with_reducible rfl|exact(fun h=>Ad)|exact rfl));done))
  |(refine aS5 (itoa_spec p.par Aa Aa) false ?_ rfl ?_;focus ((repeat' (first|exact trivial|refine And.intro ?_ ?_|with_reducible rfl|exact(fun h=>Ad)|exact rfl));done))
  |(refine aS5 (itoa_spec p.size Aa Aa) false ?_ rfl ?_;focus ((repeat' (first|exact trivial|refine And.intro ?_ ?_|with_reducible rfl|exact(fun h=>Ad)|exact rfl));done))
  |refine fU (show(itoaB p.par).size+colonB.size<=9223372036854775807 from Bl) ?_
  |refine fU (show shippedB.size+p.order.size<=9223372036854775807 from Aa) ?_
  |(refine aS5 (hj) true ?_ rfl ?_;focus ((repeat' (first|exact trivial|refine And.intro ?_ ?_|with_reducible rfl|exact(fun h=>Ad)|exact rfl));done))
  |refine eY7 ?_
  |refine eZ1 Ac ?_
  |refine eH4 Aa ?_
  |refine fU (p:=(T.row _).eq=true) Ac ?_
  |refine fU Aa ?_
  |refine eZ2 ?_
  |refine eZ0 (fun hd=>?_) (fun hd=>?_)
  |refine br_lt (fun hlt=>?_) (fun hlt=>?_)
  |refine br_le (fun hle=>?_) (fun hle=>?_)
  |refine eV7 (fun heq=>?_) (fun heq=>?_)
  |refine eQ9 Aa (fun x hx=>?_)
  |refine eY0 rfl (fun h=>Ad) ?_
  |refine jU (fun hbb=>?_) (fun hbb=>?_)
  |refine ret_i ?_
  |refine fA7 ?_)
 conv=>whnf
 exact ret_two rfl rfl rfl):p:=h
theorem Kw(h:p:=by
 refine dV ?_ ?_ ?_ ?_
 all_goals repeat' (first|exact trivial|refine And.intro ?_ ?_|with_reducible rfl|exact(fun h=>Ad)|exact Nat.le_refl _|omega|exact rfl)):p:=h
theorem Ky(h:p:=by
 clear neg pos
 repeat' ((conv=>whnf);first|(exfalso;omega)|refine zc (fF s.2 s.1) ?_|refine zc (fF t.2 t.1) ?_|refine zc (fF t.1 s.1) ?_|refine zc hA ?_|refine zc hB ?_|refine zc g1 ?_|refine zc g2 ?_|refine uM hg ?_|refine bW7 ?_|refine zS ?_|refine zl (fun hlt=>?_) (fun hlt=>?_)|refine ze (fun heq=>?_) (fun heq=>?_))
 all_goals conv=>whnf
 all_goals first
  |(rw[l0 Aa];refine⟨?_,rfl,fun rs h=>V.noConfusion h⟩;(repeat' (first|exact trivial|refine And.intro ?_ ?_|with_reducible rfl|exact(fun h=>Ad)|exact rfl));done)
  |(rw[l1 Aa,dI2 Aa];refine⟨?_,rfl,fun rs h=>V.noConfusion h⟩;(repeat' (first|exact trivial|refine And.intro ?_ ?_|with_reducible rfl|exact(fun h=>Ad)|exact rfl));done)
  |(rw[l1 Aa,dD5 Aa];refine⟨?_,rfl,fun rs h=>V.noConfusion h⟩;(repeat' (first|exact trivial|refine And.intro ?_ ?_|with_reducible rfl|exact(fun h=>Ad)|exact rfl));done)):p:=h
theorem Kz(h:p:=by
 repeat' ((conv=>whnf);first|refine zS ?_|refine zm (fun x hx=>?_)|refine zT ?_ ?_<;>intro _|fail)
 all_goals exact zE):p:=h
theorem KA(h:p:=by
 conv=>whnf
 refine aA (le_dec ?_)
 have h:=iO (Q:=Q) (l:=l)
 unfold fstI
 constructor
 ·intro h0
  split at h0
  ·exact H8
  ·omega
 ·rintro⟨m,hm,hq⟩
  split
  ·omega
  ·rename_i hlt
   exact(h.1 hlt m hm hq).elim):p:=h
theorem KC(h:p:=by
 refine⟨?_,rfl,fun rs h=>V.noConfusion h⟩
 (repeat' (first|exact trivial|refine And.intro ?_ ?_|with_reducible rfl|exact(fun h=>Ad)|exact rfl));done):p:=h
theorem KD(h:p:=by
 obtain⟨i1,i2⟩:=ih h2
 refine⟨by simp[i1],fun i x' y' hx hy=>?_⟩
 cases i with
 |zero=>simp at hx hy;subst hx;subst hy;exact h1
 |succ i=>simp at hx hy;exact i2 i x' y' hx hy):p:=h
theorem KE(h:p:=by
 simp only[List.length_append,List.length_singleton]
 exact zj):p:=h
theorem KF(h:p:=by
 repeat' ((conv=>whnf);first|(exfalso;omega)|refine zS ?_|refine zm (fun x hx=>?_)|refine zT ?_ ?_<;>intro _|fail)
 all_goals exact zE):p:=h
theorem KG(h:p:=by
 repeat' ((conv=>whnf);first|refine zg ?_|refine zw ?_|refine zr ?_)
 all_goals exact zE):p:=h
theorem KH(h:p:=by
 repeat' ((conv=>whnf);first|(exfalso;omega)|refine zS ?_|refine zm (fun x hx=>?_)|refine zT ?_ ?_<;>intro _|fail)
 all_goals conv=>whnf
 all_goals refine⟨(D++[x],R),?_,Ag,Ae⟩
 all_goals simp only[hP1,hP2,hP3,List.length_append,List.length_singleton]
 all_goals first
  |rw[y1 Aa,n2 Aa,n3 Aa]
  |rw[n1 Aa,y2 Aa,n3 Aa]
  |rw[n1 Aa,n2 Aa,y3 Aa]
  |rw[n1 Aa,n2 Aa,n3 Aa]
 all_goals
  exact zj):p:=h
theorem KI(h:p:=by
 refine cA7 ?_
 conv=>whnf
 refine⟨[],rfl,?_,rfl⟩
 repeat' (first|exact trivial|refine And.intro ?_ ?_|with_reducible rfl|exact(fun h=>Ad)|exact Nat.le_refl _|omega|exact rfl)):p:=h
theorem KJ(h:p:=by
 refine⟨(D++[x],R),?_,BN,Ae⟩
 simp only[hnew,List.length_append,List.length_singleton]
 refine Le.trans (fB (k:=88) rfl (capK_or _)) ?_
 refine dV ?_ ?_ ?_ ?_
 all_goals repeat' (first|exact trivial|refine And.intro ?_ ?_|with_reducible rfl|exact(fun h=>Ad)|exact Nat.le_refl _|omega|exact rfl)
 all_goals exact hil):p:=h
theorem KL(h:p:=by
 have slr:Rv w G (G.av k en0.gen) (.sl en0.l)->Rv w1 G2 (G.av k en0.gen) (.sl en0.l):=fun h=>h.aW hkeep Am
 subst hen
 unfold gW at hokk
 unfold frzE
 cases hkd:en0.kind with
 |own=>rw[hkd]at hokk;exact .inr ⟨own hokk.2,hp⟩
 |ap=>exact Jz
 |frz=>exact JK
 |dead=>exact .inr ⟨trivial,trivial⟩):p:=h
theorem KN(h:p:=by
 rw[<-hs0,Nat.zero_add]at hw
 have e:(((whS fG s 0:Nat):Int)=(s.size:Int))↔whS fG s 0=s.size:=Aa
 show(((whS fG s 0:Nat):Int)=(s.size:Int))↔_
 rw[e,hw]
 constructor
 ·intro h
  exact⟨Aa,hsm,hd,fun i hi=>dH.1 (h i (Nat.zero_le _) Aa)⟩
 ·intro h j _ hj
  exact dH.2 (h.2.2.2 j Aa)):p:=h
theorem KO(h:p:=by
 generalize sizeA x=n at*
 repeat' ((conv=>whnf);first|(exfalso;omega)|refine zS ?_|refine zm (fun x hx=>?_)|refine zT ?_ ?_<;>intro _|fail)
 all_goals conv=>whnf
 refine⟨(D++[x],R),?_,Ag,Ae⟩
 simp only[hsn,List.length_append,List.length_singleton]
 exact zj):p:=h
theorem KP(h:p:=by
 cases e with
 |normal=>exact⟨.inl rfl,fin .normal σ a' w' G' hq inv'⟩
 |ret=>exact⟨.inr rfl,fin .ret σ a' w' G' hq inv'⟩
 |exit id=>exact(hq:False).elim
 |goto l=>exact(hq:False).elim
 |panic c=>exact(hq:False).elim
 |outgrown=>exact(hq:False).elim):p:=h
theorem KQ(h:p:=by
 simp only[List.mem_append,List.mem_singleton]
 constructor
 ·rintro⟨⟨h1,h2⟩,h3⟩
  exact⟨h1,fun z hz=>hz.elim (h2 z) (fun e=>by rw[e];exact h3)⟩
 ·rintro⟨h1,h2⟩
  exact⟨⟨h1,fun z hz=>h2 z (.inl hz)⟩,h2 y (.inr rfl)⟩):p:=h
theorem KR(h:p:=by
 cases xs with
 |nil=>exact⟨rfl,fun i x y hx=>Gu⟩
 |cons x r=>exact(h:False).elim):p:=h
theorem KT(h:p:=by
 have:(none:Option (List V))=some cs':=hi
 cases this):p:=h
theorem KU(h:p:=by
 unfold Com
 rw[gZ hs,gZ ht]
 have k1:=dE8 hw la lb hp
 have k2:=dE8 hw lc ld hp
 constructor
 ·rintro⟨q1,q2⟩
  exact⟨k1.1 q1.1,k2.1 q2.1⟩
 ·rintro⟨q1,q2⟩
  exact⟨⟨k1.2 q1,hp⟩,⟨k2.2 q2,lt' p hp⟩⟩):p:=h
theorem KW(h:p:=by
 have h1:opVC T σ d o.op (Is v ms):=by
  rw[ho]
  split at h
  ·rename_i h0 _;cases h0
  ·exact h
 obtain⟨v',w1,v1,ms1,G',hr,⟨rfl,rfl⟩,inv',hv,hvo⟩:=xQ hT inv o h1
 exact⟨_,_,_,Inv.put' _ inv' hd hv hvo⟩):p:=h
theorem KX(h:p:=by
 split at h
 all_goals first|exact h|exact h.elim|skip
 simp only[V.agr,V.ok]at hx
 simp only[hx];exact h):p:=h
theorem KY(h:p:=by
 conv=>whnf
 exact⟨[],rfl,⟨⟨rfl,rfl,rfl,rfl⟩,trivial⟩,rfl⟩):p:=h
theorem KZ(h:p:=by
 show Rv w G0 ((cs++Array.replicate (fn.ntmps-cs.size) undef).getD s undef) (pF ys 0 s)
 rw[lY]
 simp only[Nat.zero_le,if_true,Nat.sub_zero]
 by_cases hs:s<cs.size
 ·exact GU
 ·exact Hw):p:=h
theorem La(h:p:=by
 refine dV ?_ ?_ ?_ ?_
 all_goals repeat' (first|exact trivial|refine And.intro ?_ ?_|with_reducible rfl|exact(fun h=>Ad)|exact Nat.le_refl _|omega|exact rfl)
 all_goals (try rw[hl])):p:=h
theorem Lc(h:p:=by
 refine⟨(D++[h],R),?_,⟨Ag,fun k hk=>?_,⟨fun q=>⟨(hr'.1 q).1.2,(hr'.1 q).2⟩,fun q=>hr'.2 ⟨⟨⟨hok,hap,hin,hpairs⟩,q.1⟩,q.2⟩⟩⟩,Ae⟩
 ·exact GY
 ·exact J3):p:=h
theorem Ld(h:p:=by
 have hp:z.pure:=aH.1 hl z (List.mem_of_getElem? hz)
 cases z with
 |agg cs=>simp only[V.pure,V.ok]at hp;exact hp
 |_=>simp only[V.cells,V.okL,and_true];exact hp):p:=h
theorem Lh(h:p:=by
 obtain⟨v1,ms1,⟨_,h2⟩,h3⟩:=hm _ h'
 rw[<-h2];exact h3):p:=h
theorem Lj(h:p:=by
 simp only
 by_cases h:e.1.2<e.2.2
 ·rw[if_pos h,if_pos ((le_mul hN).2.2 h),Int.mul_sub]
 ·rw[if_neg h,if_neg (fun q=>h ((le_mul hN).2.1 q)),Int.mul_sub]):p:=h
theorem Ll(h:p:=by
 have hen':jK ys 0 k=some en:=hen
 rw[gY]at hen'
 simp only[Nat.zero_le,if_true,Nat.sub_zero]at hen'
 split at hen'
 ·exact IV
 ·exact Ig
 ·cases hen'):p:=h
theorem Lm(h:p:=by
 have hen':jK ys 0 k=some en:=hen
 rw[gY]at hen'
 simp only[Nat.zero_le,if_true,Nat.sub_zero]at hen'
 split at hen'
 ·exact IZ
 ·exact IZ
 ·cases hen'):p:=h
theorem Lp(h:p:=by
 cases hO:G.O b with
 |ext=>exact absurd hO hb
 |fz=>exact .inl ⟨rfl,rfl⟩
 |bx i=>exact absurd hO (h3 b i)
 |ar j=>exact .inr (.inr ⟨j,rfl⟩)):p:=h
theorem Lr(h:p:=by
 show(pF ys 0 s).ok _ _
 rw[lY]
 simp only[Nat.zero_le,if_true,Nat.sub_zero]
 cases hy:ys[s]? with
 |none=>simp only[V.ok,V.okL]
 |some y=>exact Hq):p:=h
theorem Lu(h:p:=by
 obtain⟨v1,ms1,⟨_,h2⟩,h3⟩:=hm _ h'
 rw[<-h2,h3]):p:=h
theorem L6(h:p:=by
 repeat' ((conv=>whnf);first|(exfalso;contradiction)|refine zc h1 ?_|refine zS ?_|refine zT ?_ ?_<;>intro _|fail)
 all_goals exact zE):p:=h
theorem L8(h:p:=by
 split at h
 ·exact⟨_,h⟩
 ·exact⟨_,h⟩
 ·exact⟨_,h⟩
 ·split at h
  ·exact⟨_,(dX h).2⟩
  ·exact h.elim
 ·exact h.elim):p:=h
theorem L9(h:p:=by
 rcases h.bK8 with h|⟨ad,c,sz,cc,h1,h2,h3,h4,h5,h6,h7⟩
 ·exact .inl h
 ·exact .inr ⟨ad,c,sz,h1,h2,h3,h5,⟨cc,h6,h7⟩⟩):p:=h
theorem LC(h:p:=by
 obtain⟨e,w',fr,⟨v',rfl,v1,ms1,G',⟨rfl,rfl⟩,inv',hv,hvo⟩,_⟩:=hcalls []
 exact⟨_,_,_,Inv.put' _ inv' hd hv hvo⟩):p:=h
theorem LD(h:p:=by
 repeat' ((conv=>whnf);first|refine zS ?_|fail)
 all_goals exact zE):p:=h
theorem LG(h:p:=by
 cases i with
 |zero=>simp at h1 h2;subst h1;subst h2;left;rw[h3];exact h4
 |succ i=>right;exact⟨i,x',y',h1,h2,h3,h4⟩):p:=h
theorem LH(h:p:=by
 rw[List.flatMap_cons,List.length_append,List.length_cons]
 omega):p:=h
theorem LJ(h:p:=by
 have e1:X=[] :=List.length_eq_zero_iff.1 Aa
 have e2:Y=[] :=List.length_eq_zero_iff.1 Aa
 subst e1 e2;simp[mergeP_nil]):p:=h
theorem LK(h:p:=by
 unfold Oper.looksAt
 rw[List.mem_append]
 left
 rw[List.mem_filterMap]
 exact⟨.tmp t,Array.mem_toList_iff.2 hx,rfl⟩):p:=h
theorem LM(h:p:=by
 refine⟨(D++[h],R),?_,⟨Ag,?_⟩,Ae⟩
 ·exact GY
 ·rw[hP2]
  exact⟨fun q=>q.2,fun q=>⟨⟨Af,Af,FM⟩,q⟩⟩):p:=h
theorem LP(h:p:=by
 repeat' ((conv=>whnf);first|(exfalso;omega)|refine zS ?_|refine zl (fun hlt=>?_) (fun hlt=>?_))
 all_goals exact zE):p:=h
theorem LQ(h:p:=by rw[List.getD_eq_getElem?_getD,List.getElem?_eq_getElem h];rfl):p:=h
theorem LU(h:p:=by
 simp[IntKind.wrap,IntKind.signed,IntKind.bits]
 split<;>omega):p:=h
theorem LV(h:p:=by
 simp only[List.length_append,List.length_singleton]
 refine Le.trans (fB (k:=44) rfl (.inl rfl)) ?_
 exact zj):p:=h
theorem LW(h:p:=by
 refine⟨v,ms,G',hk,?_⟩
 exact Inv.put' ms inv' hd hv hvo):p:=h
theorem LX(h:p:=by
 obtain⟨rfl,_⟩:=h
 simp only[V.ok]at hx⊢
 rw[lQ,aH]
 exact fun y hy=>aH.1 hx y (List.mem_of_mem_drop hy)):p:=h
theorem LY(h:p:=by
 have hex:∃j,zW xs ys j k:=⟨j,hp⟩
 have:pos k=hex.choose:=DW
 rw[this]
 exact aK3 Fz hex.choose_spec hp):p:=h
theorem LZ(h:p:=by
 cases x with
 |sl l=>exact h l
 |cap l=>exact h l
 |lit u=>exact Io
 |arr k g=>exact JI
 |_=>exact Det.false):p:=h
theorem Mc(h:p:=by
 have:=q1 0 v r rfl rfl
 unfold Rr
 split
 ·exact absurd rfl (g3 _)
 ·exact absurd rfl (g3 _)
 ·exact this):p:=h
theorem Me(h:p:=by
 simp only[List.length_append,List.length_singleton,List.map_cons,List.map_append,List.map_nil]
 exact zj):p:=h
theorem MB(h:p:=by
 rw[dI7 hs ht hd,hA,hB]
 split
 ·unfold uJ;rw[if_neg Aa,if_pos Aa]
 ·unfold uJ;rw[if_neg Aa,if_pos Aa]):p:=h
theorem MC(h:p:=by
 rw[List.getElem?_map]at hx
 cases hy:xs[j]? with
 |none=>rw[hy]at hx;cases hx
 |some y=>exact HY):p:=h
theorem MF(h:p:=by
 rw[List.getElem?_map]at hx
 cases hy:xs[j]? with
 |none=>rw[hy]at hx;cases hx
 |some y=>exact Ie):p:=h
theorem MG(h:p:=by
 split at h
 ·rename_i k g s
  simp only[V.agr,V.ok]at hx
  rw[hx]
  exact h
 ·exact h.elim):p:=h
theorem MH(h:p:=by
 obtain⟨cs,rfl,_⟩:=h
 rw[hu]
 exact⟨fun _=>⟨cs,rfl⟩,fun h=>by simp[aggB]at h⟩):p:=h
theorem MI(h:p:=by
 rw[hk]at h2
 cases dd<;>simp[kdOf]at h2
 rw[(h5 _ _ rfl).1,(h5 _ _ rfl).2];exact h1):p:=h
theorem MJ(h:p:=by
 have:b=true:=by
  have h':some true=some b:=h
  simpa using h'.symm
 subst this
 simp):p:=h
theorem MK(h:p:=by
 cases hq:ar k with
 |none=>rw[hq]at h';exact h'.elim
 |some en=>exact⟨en,rfl⟩):p:=h
theorem ML(h:p:=by
 have:Gi.O b= .fz\/Gi.O b= .ext:=JH
 rcases this with h|h<;>(rw[h]at hb;cases hb)):p:=h
theorem MN(h:p:=by
 split
 ·exact Det.bJ fun l=>Det.cond (Det.ret _ _) Det.false
 ·exact Det.false):p:=h
theorem MO(h:p:=by
 have h2:=(vH ha.oa hf).2
 exact((zD ha.ob (vN ha.oa.2.2.1 h2)).1 (hin _ h2)).2):p:=h
theorem MP(h:p:=by
 rcases List.mem_cons.1 hx with rfl|hx
 ·exact absurd q h
 ·exact⟨x,hx,q⟩):p:=h
theorem MQ(h:p:=by
 show Le T _ (fM4 E s t ((D++[y]).length) (comL s t (D++[y])))
 rw[e]
 exact zj):p:=h
theorem MR(h:p:=by
 refine aA (fE ?_)
 rw[ek,List.take_length,hab,List.take_length]at ht
 exact ht):p:=h
theorem MS(h:p:=by
 have a1:d*(u-p)= -(d*(p-u)):=Cb
 have a2:k*(u-v)= -(k*(v-u)):=Cb
 rw[a1,a2,h]):p:=h
theorem MV(h:p:=by
 have h2:upd σ.bx i (some cs) i=some xs:=hi
 rw[upd_same]at h2;cases h2;rfl):p:=h
theorem MW(h:p:=by
 subst ho
 cases p with
 |none=>exact(h:False).elim
 |some x=>exact⟨x,rfl⟩):p:=h
theorem MX(h:p:=by exact .plain inv (run _ _ _ hb) hk hnv (by simp only[V.ok];exact hsub _ _)):p:=h
theorem MZ(h:p:=by exact jU (fun h=>h1 (e.1 h)) (fun h=>h2 (fun q=>by rw[e.2 q]at h;cases h))):p:=h
theorem Na(h:p:=by
 have hp:=(Array.mem_toList_iff.1 hp)
 simp[Op.operands]
 exact⟨p.1,hp⟩):p:=h
theorem Nb(h:p:=by
 refine⟨(E++[k],S),?_,⟨Au,fun z hz=>?_⟩,Ae⟩
 ·exact GY
 ·exact Jl):p:=h
theorem Nc(h:p:=by
 refine⟨(E++[y],S),?_,⟨Au,fun z hz=>?_⟩,Ae⟩
 ·exact GY
 ·exact Jw):p:=h
theorem Nh(h:p:=by
 cases x with
 |tmp t=>exact IQ
 |const v=>rfl
 |global g=>rfl
 |func f=>rfl):p:=h
theorem Nj(h:p:=by
 rcases h with⟨h,_⟩|⟨b,cap,cur,h,_⟩
 ·exact aP2 h
 ·rw[h];rfl):p:=h
theorem Nk(h:p:=by
 rcases List.mem_cons.1 hr with rfl|hr
 ·exact h.1
 ·exact h.2.2 r hr):p:=h
theorem Nl(h:p:=by
 rcases List.mem_cons.1 hp with rfl|hp
 ·exact h1
 ·exact ih h2 p hp):p:=h
theorem Np(h:p:=by
 obtain⟨ns,⟨_,h4⟩,q2⟩:=bE6 h4
 rw[<-h4]
 exact hfin _ _ q1 q2):p:=h
theorem Nq(h:p:=by
 rcases List.mem_cons.1 hz with rfl|hz
 ·exact hp
 ·exact hl' z hz):p:=h
theorem Nr(h:p:=by exact absurd (((hcom _).1 h1).1.trans ((hcom _).1 h2).1.symm) hne):p:=h
theorem Ns(h:p:=by exact V.ok.imp (fun _ h=>h) (fun _ _ h=>h.elim) _ (bC3 hui h')):p:=h
theorem Nu(h:p:=by
 obtain⟨l⟩:=cs
 match l,h with
 | [a,b],_=>exact⟨a,b,rfl⟩):p:=h
theorem Nv(h:p:=by
 obtain⟨v',ms',⟨rfl,rfl⟩,q⟩:=bY1 T σ d _ _ h1
 exact q):p:=h
theorem Nw(h:p:=by
 unfold X dif at hx
 simp only at hx
 unfold pN pK
 split<;>grind):p:=h
theorem Ny(h:p:=by exact⟨v,ns++ms,G',hk1 _ _ hk,Inv.put' _ inv' hd hv hvo⟩):p:=h
theorem Nz(h:p:=by
 rcases hmo m hm with h|⟨i',hi',h⟩
 ·exact Ju
 ·exact JY):p:=h
theorem N7(h:p:=by
 cases s1;cases s2
 simp only at h1 h2 h3
 subst h1 h2 h3
 rfl):p:=h
theorem N8(h:p:=by exact⟨ys,k1,by simpa using k2,k3,by simpa using k4,k5⟩):p:=h
theorem N9(h:p:=by rcases h.vP with⟨h,_⟩|⟨ad,sz,cc,h,_⟩<;>(rw[h];rfl)):p:=h
theorem NC(h:p:=by
 cases D with
 |nil=>exact absurd hp AO
 |cons d D=>exact IL):p:=h
theorem ND(h:p:=by
 obtain⟨en2,q1,q2⟩:=hgen k en h1
 exact⟨en2,q1,Aa⟩):p:=h
theorem NE(h:p:=by
 have hj:j<cs.size:=DI
 exact hargs j _ y (by simp[hj]) hy):p:=h
theorem NF(h:p:=by
 rcases Int.mul_eq_zero.1 this with q|q
 ·omega
 ·exact q):p:=h
theorem NG(h:p:=by
 rw[force_eq]at h'
 obtain⟨rfl,_⟩:=h'
 exact aC5 hg hc):p:=h
theorem NH(h:p:=by exact Classical.byContradiction fun hn=>h ⟨v,hv,hn⟩):p:=h
theorem NI(h:p:=by
 cases xs with
 |nil=>simp[isR]
 |cons x r=>simp[isR,insR]):p:=h
theorem NJ(h:p:=by
 rw[hx]at this
 simp only[V.ok]at this
 exact⟨g,this⟩):p:=h
theorem NK(h:p:=by exact⟨_,_,G,hk,Inv.put' [] inv hd (B_ok _ _ _) dL⟩):p:=h
theorem NM(h:p:=by
 refine aK ?_
 have:eqB n n=true:=aA1.2 rfl
 rw[this];rfl):p:=h
theorem NP(h:p:=by exact⟨.inl,fun h=>h.elim id fun h=>absurd h.1 hs⟩):p:=h
theorem NQ(h:p:=by
 obtain⟨b,s,br,p⟩:=x
 cases b
 ·exact Hf
 ·exact Hf):p:=h
theorem NR(h:p:=by
 rw[har2,hen]
 split
 ·exact⟨_,rfl,rfl⟩
 ·exact JR):p:=h
end Go.Ab
