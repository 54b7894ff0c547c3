/-
  Proofs that stand in many places, each as a default of a hypothesis.
-/
import Derived.WalkKit
import Derived.Deep.Draws
import Derived.Laws.AppendOwn
namespace Go.Ab
variable{p:Prop}
theorem Aa(h:p:=by omega):p:=h
theorem Ac(h:p:=by kernel_rfl):p:=h
theorem Ad(h:p:=by assumption):p:=h
theorem Ae(h:p:=by simp):p:=h
theorem Af(h:p:=by rw[hp];simp):p:=h
theorem Ag(h:p:=by cases h):p:=h
theorem Ah(h:p:=by decide):p:=h
theorem Ai(h:p:=by simp[Op.operands]):p:=h
theorem Aj(h:p:=by simp[intOf];omega):p:=h
theorem Ak(h:p:=by first|exact hl2|exact hl1):p:=h
theorem Am(h:p:=by rw[IntKind.wrap_i64];omega):p:=h
theorem Ap(h:p:=by show 0<=_/\_< ((s.stocks.map aQ).length:Int);omega):p:=h
theorem Aq(h:p:=by repeat' (first|exact trivial|exact rfl|refine And.intro ?_ ?_)):p:=h
theorem Ar(h:p:=by simp only[V.pure,V.ok];exact hp):p:=h
theorem Au(h:p:=by rw[hb];simp):p:=h
theorem Aw(h:p:=by simp[Act.eval,Act.put]):p:=h
theorem Az(h:p:=by unfold fst;rw[h1];exact wH hD (by rw[dH.2 hd];rfl)):p:=h
theorem A7(h:p:=by simp only[cls];decide):p:=h
theorem A8(h:p:=by simp;omega):p:=h
theorem AA(h:p:=by decide+kernel):p:=h
theorem AB(h:p:=by simp only[V.ok]at h⊢;exact h):p:=h
theorem AL(h:p:=by simp[Op.operands,Call.operands]):p:=h
theorem AO(h:p:=by rw[hq];simp):p:=h
theorem AP(h:p:=by simp only[V.pure,V.ok]at hok⊢;exact hok):p:=h
theorem AQ(h:p:=by simpa using hl):p:=h
theorem AU(h:p:=by obtain⟨m,_,rfl⟩:=List.mem_map.1 hy;rfl):p:=h
theorem AV(h:p:=by simp only[Nat.mul_one]):p:=h
theorem AX(h:p:=by simpa using hu):p:=h
theorem AY(h:p:=by rw[h1];simp):p:=h
theorem AZ(h:p:=by simpa using hv):p:=h
theorem Ba(h:p:=by rw[<-h4];exact List.mem_singleton.2 rfl):p:=h
theorem Bd(h:p:=by show(if 100000<=100000+i/\100000+i<100000+bs.length then some (G.β (100000+i))else none)=_;rw[if_pos (by omega)]):p:=h
theorem Be(h:p:=by unfold rings;simp):p:=h
theorem Bf(h:p:=by first|exact absurd e2.1 (by assumption)|exact absurd e2.2 (by assumption)):p:=h
theorem Bg(h:p:=by cases hm):p:=h
theorem Bh(h:p:=by rw[Array.length_toList,e2,<-b3];exact(List.getElem?_eq_some_iff.1 hi).1):p:=h
theorem Bj(h:p:=by rw[show N+1000*(q+1)=N+1000+1000*q by omega];exact hn):p:=h
theorem Bl(h:p:=by simp only[V.ok]):p:=h
theorem Bo(h:p:=by simp[IntKind.wrap,IntKind.signed,IntKind.bits];omega):p:=h
theorem Bq(h:p:=by simp only[V.pure,V.ok];exact hok):p:=h
theorem Bv(h:p:=by {unfold restN;rw[if_neg (by simpa using ‹(y.parent==0)=false›)]}):p:=h
theorem Bz(h:p:=by {unfold restN;rw[if_pos (by simpa using ‹(y.parent==0)=true›)]}):p:=h
theorem BA(h:p:=by simp only[Gc];rw[hb]):p:=h
theorem BB(h:p:=by refine⟨by omega,?_⟩;show _< ((List.set _ _ _).length:Int);simp only[List.length_set];omega):p:=h
theorem BD(h:p:=by simp only[V.okL]):p:=h
theorem BF(h:p:=by rw[dW.2 (h2 y hy)];rfl):p:=h
theorem BG(h:p:=by simp[World.frozen?,hv]):p:=h
theorem BH(h:p:=by show(if 100000<=i/\i<100000+bs.length then some (G.β i)else none)=_;rw[if_pos ⟨z1,z2⟩]):p:=h
theorem BI(h:p:=by unfold maxLen;omega):p:=h
theorem BJ(h:p:=by rw[hsn,hpo,hq];exact⟨fun h=>h.2,fun h=>⟨fun h'=>absurd (hmm.2 h') (by assumption),h⟩⟩):p:=h
theorem BK(h:p:=by rw[List.getElem?_eq_none hk]at hm;cases hm):p:=h
theorem BL(h:p:=by cases List.mem_singleton.1 hy;rfl):p:=h
theorem BM(h:p:=by simp[Region.wanted,hg]):p:=h
theorem BN(h:p:=by unfold hvO;rw[hop];rfl):p:=h
theorem BO(h:p:=by unfold dJ;rw[if_neg ‹¬r.getD k z0=p›,eN,if_pos ⟨by assumption,by assumption⟩]):p:=h
theorem BP(h:p:=by rw[setRow_other _ b vb _ hvb];exact hv):p:=h
theorem BQ(h:p:=by unfold cut4;simp only[List.foldl_append,List.foldl_cons,List.foldl_nil];rfl):p:=h
theorem BR(h:p:=by simp only[Nat.min_def];split<;>omega):p:=h
theorem BU(h:p:=by rw[hk];simp[uP,jG]):p:=h
theorem BV(h:p:=by rw[hcs];exact(List.getElem?_eq_some_iff.1 hy).1):p:=h
theorem BX(h:p:=by simpa using hq):p:=h
theorem BZ(h:p:=by simpa using hc):p:=h
theorem Cb(h:p:=by show upd G.O _ _ b=_;rw[upd_ne _ _ (hne b (by rw[hb];simp))];exact hb):p:=h
theorem Cc(h:p:=by rw[List.length_take,Array.length_toList];omega):p:=h
theorem Ce(h:p:=by simp[Op.operands,Call.operands,hx]):p:=h
theorem Cf(h:p:=by show 0<=_/\_< ((rs.map rgV).length:Int);omega):p:=h
theorem Ci(h:p:=by rcases hl with rfl|⟨s',rfl⟩<;>rfl):p:=h
theorem Cj(h:p:=by simp only[V.ok]at hok⊢;exact hok):p:=h
theorem C9(h:p:=by unfold heatL;rw[List.length_map];exact List.length_filter_le _ _):p:=h
theorem CB(h:p:=by show 0<=_/\_< ((A.map sgV).length:Int);rw[List.length_map];omega):p:=h
theorem CG(h:p:=by show 0<=_/\_< ((B.map sgV).length:Int);rw[List.length_map];omega):p:=h
theorem CJ(h:p:=by simpa using hy):p:=h
theorem CO(h:p:=by simpa using hb):p:=h
theorem CP(h:p:=by rw[hno]at hq;cases hq):p:=h
theorem CQ(h:p:=by rw[hnp]at hq;cases hq):p:=h
theorem CS(h:p:=by rw[show t+1+i=t+(i+1) by omega];exact hb (i+1) (by simp;omega)):p:=h
theorem CU(h:p:=by rw[hsn,hlp,hpl,List.length_append,List.length_singleton];omega):p:=h
theorem CV(h:p:=by unfold remS;rw[if_neg (by rw[e1];decide)]):p:=h
theorem CW(h:p:=by simp[hx]):p:=h
theorem CX(h:p:=by simp only[pos];rw[dif_pos hex]):p:=h
theorem CY(h:p:=by rw[hsn];exact hps2 (fun h=>absurd (hmm.2 h) (by assumption))):p:=h
theorem CZ(h:p:=by show V.ok _ _ (.ae k g z i' o);simp only[V.ok]at h⊢;exact h):p:=h
theorem Dc(h:p:=by unfold cmpI;split<;>(try split)<;>omega):p:=h
theorem Df(h:p:=by simp only[Gc];rw[hb];simp[hk]):p:=h
theorem Dh(h:p:=by rw[(hgv 0 _ g0).1];exact(List.getElem?_eq_some_iff.1 hy).1):p:=h
theorem Di(h:p:=by simpa using congrArg List.length hlens):p:=h
theorem Dj(h:p:=by simp only[V.ok]at h h'⊢;exact aL2 h h'):p:=h
theorem Dk(h:p:=by simpa using hi):p:=h
theorem Dl(h:p:=by subst e;rw[hd]at hx;cases hx):p:=h
theorem Dn(h:p:=by rw[e];exact h2):p:=h
theorem Dp(h:p:=by rw[<-hvk];exact aS8.2 ⟨γ,g,hg,nP.2 ⟨q,x,y,hx,hy,hl,hk⟩⟩):p:=h
theorem Dq(h:p:=by unfold strV;rw[List.length_map,Array.length_toList];rfl):p:=h
theorem Dt(h:p:=by show _<=(w.heap.push _).size;rw[Array.size_push];omega):p:=h
theorem Du(h:p:=by rcases q with q|q<;>cases q):p:=h
theorem Dv(h:p:=by show V.ok _ _ (.own e l);simp only[V.ok]at h⊢;exact h):p:=h
theorem Dw(h:p:=by show V.ok _ _ (.arr k g);simp only[V.ok]at h⊢;exact h):p:=h
theorem Dx(h:p:=by rw[hbl,<-hil];exact(List.getElem?_eq_some_iff.1 hj).1):p:=h
theorem Dy(h:p:=by obtain⟨p',hp,hc⟩:=h h0;rw[hgp]at hp;cases hp;exact hc):p:=h
theorem Dz(h:p:=by simp only[V.ok,V.okL]):p:=h
theorem D5(h:p:=by simp only[V.ok]at h h'⊢;exact⟨h,h'⟩):p:=h
theorem D6(h:p:=by first|exact hrd|(rw[hop];exact hrd)):p:=h
theorem D7(h:p:=by show V.ok _ _ (.ap e l);simp only[V.ok]at h⊢;exact h):p:=h
theorem D8(h:p:=by simpa using h):p:=h
theorem D9(h:p:=by rw[List.length_take];omega):p:=h
theorem DC(h:p:=by unfold maxLen at hle;omega):p:=h
theorem DF(h:p:=by show V.ok _ _ (.cap l);simp only[V.ok]at h⊢;exact h):p:=h
theorem DI(h:p:=by rw[hop];simp[cls]):p:=h
theorem DJ(h:p:=by rw[<-e,hen]at hn;cases hn):p:=h
theorem DK(h:p:=by rw[<-hlen];exact(List.getElem?_eq_some_iff.1 hq).1):p:=h
theorem DL(h:p:=by show V.ok _ _ (.sl l);simp only[V.ok]at h⊢;exact h):p:=h
theorem DN(h:p:=by show V.ok _ _ (.fp l);simp only[V.ok]at h⊢;exact h):p:=h
theorem DR(h:p:=by show 0<=_/\_< ((s.pieces.map aZ).length:Int);omega):p:=h
theorem DT(h:p:=by rw[hΦr];rfl):p:=h
theorem DU(h:p:=by show upd σ.ar k _ k'=_;rw[upd_ne _ _ e1];exact hx):p:=h
theorem DV(h:p:=by rw[e2,hl];exact(List.getElem?_eq_some_iff.1 hi).1):p:=h
theorem DW(h:p:=by rw[<-hil];exact(List.getElem?_eq_some_iff.1 hj).1):p:=h
theorem DX(h:p:=by unfold dZ;rw[if_neg c1,if_neg (by rw[e1];decide)]):p:=h
theorem DY(h:p:=by replace h:=h.out;exact h):p:=h
theorem DZ(h:p:=by rw[hlen];exact(List.getElem?_eq_some_iff.1 hy).1):p:=h
theorem Ea(h:p:=by rw[show G.O b= .fz from hb];simp):p:=h
theorem Eb(h:p:=by simp[FW,Fence.wide]at hh):p:=h
theorem Ec(h:p:=by simpa only[V.ok]using h2):p:=h
theorem Ed(h:p:=by unfold World.setCell;split<;>rfl):p:=h
theorem Ee(h:p:=by rw[hp2];simp):p:=h
theorem Ef(h:p:=by simp only[V.ok]at h⊢;exact V.okL.imp hp hq cs h):p:=h
theorem Eg(h:p:=by rw[Int.tmod_eq_emod_of_nonneg (by omega)];omega):p:=h
theorem Eh(h:p:=by rw[Int.tdiv_eq_ediv_of_nonneg (by omega)];omega):p:=h
theorem Ei(h:p:=by simp only[V.pure,V.ok];exact q2):p:=h
theorem Ej(h:p:=by unfold World.freeze;split<;>rfl):p:=h
theorem Em(h:p:=by rw[hl];exact(List.getElem?_eq_some_iff.1 hy).1):p:=h
theorem En(h:p:=by rw[q1];exact(List.getElem?_eq_some_iff.1 hy).1):p:=h
theorem Eo(h:p:=by show 0<=_/\_< ((f.map nodeV).length:Int);omega):p:=h
theorem Ep(h:p:=by rw[hΦr]):p:=h
theorem Es(h:p:=by simp only[V.pure,V.ok,V.okL]at hok⊢;exact hok):p:=h
theorem Et(h:p:=by rw[lT];rfl):p:=h
theorem Eu(h:p:=by rw[nX];rfl):p:=h
theorem Ew(h:p:=by rw[List.length_append,List.length_take];omega):p:=h
theorem Ey(h:p:=by obtain⟨q1,q2⟩:=q;contradiction):p:=h
theorem Ez(h:p:=by grind):p:=h
theorem E5(h:p:=by simp[List.getD,List.getElem?_eq_getElem hj']):p:=h
theorem E8(h:p:=by rw[hO vb hvw];exact hv):p:=h
theorem EC(h:p:=by show 0<=_/\_< ((RL.map aQ).length:Int);omega):p:=h
theorem ED(h:p:=by rcases q with q|q|q<;>cases q):p:=h
theorem EF(h:p:=by rw[hs,List.getElem?_eq_none (by omega)];rfl):p:=h
theorem EG(h:p:=by rw[hok];exact hnd):p:=h
theorem EH(h:p:=by obtain⟨p,hp,_⟩:=h h0;rw[hgp]at hp;cases hp):p:=h
theorem EI(h:p:=by simp[World.shape?,hv]):p:=h
theorem EJ(h:p:=by simp[World.shape?,hb]):p:=h
theorem EK(h:p:=by rw[hO b hbw];exact hb):p:=h
theorem EL(h:p:=by unfold dJ;rw[if_pos ‹r.getD k z0=p›,eN,eL]):p:=h
theorem EM(h:p:=by rw[show G.O b= .fz from hb]at hj;cases hj):p:=h
theorem EN(h:p:=by rw[<-Bool.not_eq_true,Nat.beq_eq];exact h):p:=h
theorem EO(h:p:=by simp[binOp,Op.shift,Int.not_lt.2 h0,shrI]):p:=h
theorem EP(h:p:=by simp[binOp,Op.shift,Int.not_lt.2 h0,shlI]):p:=h
theorem EQ(h:p:=by rw[kS (a:=k+r.length-1) (by omega)];omega):p:=h
theorem ER(h:p:=by unfold Addr.add;split<;>rfl):p:=h
theorem ES(h:p:=by simpa [Op.operands]using hx):p:=h
theorem ET(h:p:=by rw[show t+(i+1)=t+1+i by omega];exact hb):p:=h
theorem EU(h:p:=by rw[hx];simp[frzE,hk]):p:=h
theorem EW(h:p:=by rw[<-hvk];exact nP.2 ⟨j,_,y,hx,hy,hl,hk⟩):p:=h
theorem EX(h:p:=by simp only[List.length_set];rw[hll];omega):p:=h
theorem EY(h:p:=by rw[hO];intro e;have:=Tag.ar.inj e;omega):p:=h
theorem EZ(h:p:=by simpa [Nat.beq_eq]using c1):p:=h
theorem Fa(h:p:=by unfold maxLen at hcm;omega):p:=h
theorem Fb(h:p:=by unfold rpV pathL;rw[if_pos (h.up x hx)]):p:=h
theorem Fe(h:p:=by rw[Nat.zero_add];exact hrb i u y hu hy):p:=h
theorem Ff(h:p:=by show V.ok _ _ (.lit u);simp only[V.ok]):p:=h
theorem Fg(h:p:=by simp only[bM,V.okL]):p:=h
theorem Fh(h:p:=by simp only[V.ok];exact hwr):p:=h
theorem Fj(h:p:=by unfold jA;omega):p:=h
theorem Fp(h:p:=by rw[keepO b (by rw[hb];simp)];exact hb):p:=h
theorem Fq(h:p:=by rw[hs,List.getElem?_eq_getElem c];rfl):p:=h
theorem Fv(h:p:=by rw[hp,List.append_nil]at hx;exact hx):p:=h
theorem Fz(h:p:=by first|exact .inl ‹_› |exact .inr ‹_›):p:=h
theorem F5(h:p:=by simpa using e2):p:=h
theorem F6(h:p:=by simpa using hx):p:=h
theorem F7(h:p:=by rw[h];simp):p:=h
theorem F8(h:p:=by rw[size_setRow];exact Nat.le_refl _):p:=h
theorem F9(h:p:=by simpa using hf):p:=h
theorem FB(h:p:=by simp only[V.ok]at h⊢;exact hq _ _ h):p:=h
theorem FC(h:p:=by simpa using h2):p:=h
theorem FD(h:p:=by rw[<-hcs];exact Array.length_toList):p:=h
theorem FH(h:p:=by unfold iI;simp):p:=h
theorem FI(h:p:=by simp[binOp,Op.intArith]):p:=h
theorem FK(h:p:=by show V.ok _ _ .bot;simp only[V.ok]):p:=h
theorem FM(h:p:=by simp[Op.operands,Call.operands,hy]):p:=h
theorem FN(h:p:=by rw[hp,List.append_nil]at h;exact h):p:=h
theorem FO(h:p:=by rw[hO];simp):p:=h
theorem FP(h:p:=by rw[q3];simp):p:=h
theorem FQ(h:p:=by simpa using hs.1):p:=h
theorem FT(h:p:=by simp only[V.okL];exact⟨hfpp,q5⟩):p:=h
theorem FU(h:p:=by rw[<-hok];exact aP0.2 ⟨γ,q,hp⟩):p:=h
theorem FV(h:p:=by simpa using hn):p:=h
theorem FX(h:p:=by simpa using hj):p:=h
theorem FY(h:p:=by simp[hy]):p:=h
theorem FZ(h:p:=by cases q):p:=h
theorem Gf(h:p:=by cases e;rfl):p:=h
theorem Gg(h:p:=by simp at h):p:=h
theorem Gj(h:p:=by rw[<-hwr];simp[hp]):p:=h
theorem Gl(h:p:=by rw[b1]):p:=h
theorem Gm(h:p:=by rw[a1]):p:=h
theorem Gn(h:p:=by rw[hbs,m1.2];omega):p:=h
theorem Gp(h:p:=by rw[hpl];omega):p:=h
theorem Gq(h:p:=by rw[this];exact hb):p:=h
theorem Gs(h:p:=by simp at hc):p:=h
theorem Gt(h:p:=by simp at hx):p:=h
theorem Gu(h:p:=by rw[hc];rfl):p:=h
theorem Gv(h:p:=by rw[e];simp):p:=h
theorem Gw(h:p:=by rw[hp];rfl):p:=h
theorem Gy(h:p:=by simp[h1]):p:=h
theorem Gz(h:p:=by simp[hj]):p:=h
theorem G6(h:p:=by simp[hi]):p:=h
theorem G7(h:p:=by rw[hP]):p:=h
theorem G8(h:p:=by rw[hl];omega):p:=h
theorem G9(h:p:=by simp[dN,sh0]):p:=h
theorem GH(h:p:=by simp[av']):p:=h
theorem GI(h:p:=by simp[hlt]):p:=h
theorem GK(h:p:=by
 obtain⟨v',W2,W3,hr,hx2,hr3,hown3,hnx3,hws3⟩:=hall
 refine step_ap rfl rfl rfl rfl hr ?_
 go_simp
 refine hK _ _ ?_;clear hK K
 refine wpAny_ready (rs:=[11]) Ac Ae ?_
 refine AllReady.cons rfl (fun K hK=>?_) ?_
 ·refine step_mu rfl rfl rfl rfl rfl hr3 ?_
  go_simp
  refine hK _ _ ?_;clear hK K
  refine wpAny_done Ac ?_ _
  go_wp2;exact⟨⟨k+1,Aa,rfl,hown3,hnx3,hws3⟩,Aj⟩
 exact AllReady.nil):p:=h
theorem GL(h:p:=by
 obtain⟨h1,h2⟩:=hp
 have hlen:l.length=D.length+R.length:=AY
 have hD:∀y∈D,(!decB (Q y))=true:=fun y hy=>BF
 cases R with
 |nil=>
  have e:l=D:=AY
  simp at hlen
  repeat' ((conv=>whnf);first|(exfalso;omega)|refine zS ?_|refine zl (fun hlt=>?_) (fun hlt=>?_))
  conv=>whnf
  refine aG ?_
  unfold fstI
  rw[if_neg (iO.2 Dn)]
 |cons x R=>
  rw[List.length_cons]at hlen
  repeat' ((conv=>whnf);first|(exfalso;omega)|refine zc (hg x) ?_|refine zS ?_|refine zd (fun hd=>?_) (fun hd=>?_)|refine zl (fun hlt=>?_) (fun hlt=>?_))
  ·conv=>whnf
   refine aG ?_
   have e:fst Q l=D.length:=Az
   unfold fstI
   rw[e,if_pos Aa]
  ·conv=>whnf
   refine⟨(D++[x],R),?_,⟨?_,?_⟩,?_⟩
   ·refine dV ?_ ?_ ?_ ?_
    all_goals repeat' (first|exact trivial|refine And.intro ?_ ?_|with_reducible rfl|exact(fun h=>Ag)|exact Nat.le_refl _|omega|exact rfl)
    ·show(D.length:Int)+1=(D++[x]).length
     simp
   ·show l=D++[x] ++R
    rw[h1];simp
   ·intro m hm
    rcases List.mem_append.1 hm with hm|hm
    ·exact h2 m hm
    ·rw[List.mem_singleton.1 hm];exact hd
   ·show R.length< (x::R).length
    simp):p:=h
theorem GN(h:p:=by
 refine step_mu rfl rfl rfl rfl rfl hr3 ?_
 go_simp
 refine hK _ _ ?_;clear hK K
 refine wpAny_done Ac ?_ _
 go_wp2;exact⟨⟨k+1,Aa,rfl,hown3,hnx3,hws3⟩,Aj⟩):p:=h
theorem GR(h:p:=by
 conv=>whnf
 refine⟨(D++[x],R),?_,⟨?_,?_⟩,?_⟩
 ·refine dV ?_ ?_ ?_ ?_
  all_goals repeat' (first|exact trivial|refine And.intro ?_ ?_|with_reducible rfl|exact(fun h=>Ag)|exact Nat.le_refl _|omega|exact rfl)
  ·show(D.length:Int)+1=(D++[x]).length
   simp
 ·show l=D++[x] ++R
  rw[h1];simp
 ·intro m hm
  rcases List.mem_append.1 hm with hm|hm
  ·exact h2 m hm
  ·rw[List.mem_singleton.1 hm];exact hd
 ·show R.length< (x::R).length
  simp):p:=h
theorem GU(h:p:=by
 repeat' ((conv=>whnf);first|(exfalso;omega)|refine zS ?_|refine zT ?_ ?_<;>intro _|fail)
 all_goals conv=>whnf
 all_goals first
  |exact aA (aC (fun h=>by have:=hr.1 h;grind))
  |exact aA (fQ Ez)
  |exact aA (qV Ez)):p:=h
theorem GV(h:p:=by
 refine dV ?_ ?_ ?_ ?_
 all_goals repeat' (first|exact trivial|refine And.intro ?_ ?_|with_reducible rfl|exact(fun h=>Ag)|exact Nat.le_refl _|omega|exact rfl)
 all_goals (try rw[List.length_map])):p:=h
theorem GX(h:p:=by
 have hb:(i+j)/2<l.length:=by omega
 have hm2:=List.getElem?_eq_getElem hb
 generalize l[(i+j)/2] =m at hm2
 have g1:=hg m
 have hlt2:(i+j)/2<j:=Aa
 repeat' ((conv=>whnf);first|(exfalso;omega)|refine fK (k:= .u64) (n:=(i:Int)+(j:Int)) (m:=(i:Int)+(j:Int)) (cD4 Aa) ?_|refine fK (k:= .i64) (n:=shrI .u64 ((i:Int)+(j:Int)) 1) (m:=(((i+j)/2:Nat):Int)) (bF1 Aa) ?_|refine zS ?_|refine zT ?_ ?_<;>intro _|fail)
 all_goals conv=>whnf
 ·have hc:=cK6.1 Ad
  refine⟨((i+j)/2+1,j),?_,⟨Aa,Aa,fun k y hk hy=>?_,h2⟩,Aa⟩
  ·exact zj
  ·rcases Nat.lt_or_ge k ((i+j)/2)with h|h
   ·exact Int.lt_trans (sorted_at hs hy hm2 h) hc
   ·have:k=(i+j)/2:=by omega
    subst this
    rw[hm2]at hy
    cases hy
    exact hc
 ·have hc:=aU8.1 Ad
  refine⟨(i,(i+j)/2),?_,⟨Aa,Aa,h1,fun k y hk hy=>?_⟩,Aa⟩
  ·exact zj
  ·rcases Nat.lt_or_ge ((i+j)/2) k with h|h
   ·exact Int.le_of_lt (Int.lt_of_le_of_lt hc (sorted_at hs hm2 hy h))
   ·have:k=(i+j)/2:=by omega
    subst this
    rw[hm2]at hy
    cases hy
    exact hc):p:=h
theorem GY(h:p:=by
 repeat' ((conv=>whnf);first|refine zh (h) [100000] ?_|refine zS ?_|fail)
 all_goals conv=>whnf
 all_goals first|exact⟨_,rfl,zc1⟩|exact zc1):p:=h
theorem GZ(h:p:=by
 have key:∀(R D:List Node),f=D++R->(D.map Node.id).Pairwise (·<·)->(f.map Node.id).Pairwise (·<·):=fun R=>by
  induction R with
  |nil=>intro D e hD;rw[e,List.append_nil];exact hD
  |cons x R ih=>
   intro D e hD
   refine ih (D++[x]) Gv ?_
   rw[List.map_append,List.pairwise_append]
   refine⟨hD,Ae,fun a ha b hb=>?_⟩
   obtain⟨y,hy,rfl⟩:=List.mem_map.1 ha
   simp only[List.map_cons,List.map_nil,List.mem_singleton]at hb
   subst hb
   have hl:=(h1 D x R e).2.1
   rcases List.eq_nil_or_concat D with hn|⟨D',z,hn⟩
   ·rw[hn]at hy;cases hy
   ·have hz:=hl z (by rw[hn];simp)
    rw[hn,List.concat_eq_append]at hy hD
    rcases List.mem_append.1 hy with hy|hy
    ·rw[List.map_append,List.pairwise_append]at hD
     have:=hD.2.2 y.id (List.mem_map_of_mem hy) z.id Ae
     omega
    ·rw[List.mem_singleton.1 hy]
     exact hz
 exact key f [] rfl Ae):p:=h
theorem He(h:p:=by
 repeat' ((conv=>whnf);first|(exfalso;omega)|refine arith_u (show 0<=48+(u:Int).tmod 10/\48+(u:Int).tmod 10<=18446744073709551615 from Aa) ?_|refine arith_u8 (show 0<=48+(u:Int).tmod 10/\48+(u:Int).tmod 10<=255 from Aa) ?_|refine bytes_i [48+(u:Int).tmod 10] rfl ?_|refine fU (show(strOf [48+(u:Int).tmod 10]).size+s.size<=9223372036854775807 from Aa) ?_|refine arith_u (show 0<=(u:Int).tdiv 10/\(u:Int).tdiv 10<=18446744073709551615 from Aa) ?_|refine zS ?_|refine zd (fun hd=>?_) (fun hd=>?_)|refine zl (fun hlt=>?_) (fun hlt=>?_)|refine zk (fun hle=>?_) (fun hle=>?_)|refine ze (fun heq=>?_) (fun heq=>?_)|refine zm (fun x hx=>?_)|refine zb (fun hbb=>?_) (fun hbb=>?_))
 conv=>whnf
 refine⟨(u/10,strOf [((48+u% 10:Nat):Int)] ++s),?_,digI_step hup hp,by show u/10<u;omega⟩
 exact zj):p:=h
theorem Hf(h:p:=by
 refine dV ?_ ?_ ?_ ?_
 all_goals repeat' (first|exact trivial|refine And.intro ?_ ?_|with_reducible rfl|exact(fun h=>Ag)|exact Nat.le_refl _|omega|exact rfl)
 all_goals (rw[List.length_map])):p:=h
theorem Hg(h:p:=by
 have hv:(cs++Array.replicate (fn.ntmps-cs.size) undef).getD s undef=cs.getD s undef:=by
  simp[Array.getElem?_append_left hs]
 have hy:ys[s]? =some ys[s] :=List.getElem?_eq_getElem Aa
 rw[hv,hy]
 have hr:=hrb s _ hy
 generalize ys[s] =y at*
 simp only
 cases hl:linear y with
 |false=>
  have:y.pure/\Rv w G (cs.getD s undef) y:=by
   unfold Rb at hr
   split at hr
   ·simp[linear]at hl
   ·simp[linear]at hl
   ·exact hr
  exact this.2.aW hkeep this.1
 |true=>
  have h1:(cs.getD s undef).oneCell'=true:=by
   unfold Rb at hr
   split at hr
   ·exact own1 hr.2.2
   ·rcases hr.2.2 with q|q
    ·exact own1 q
    ·exact cap1 q.1
   ·rename_i hno1 hno2
    rw[oW hno1 hno2]at hl;cases hl
  exact Rv.arr (w:=w) (G:=G0) s 0 h1):p:=h
theorem Hl(h:p:=by
 simp only[List.length_append,List.length_singleton]
 exact zj):p:=h
theorem Ho(h:p:=by
 cases x with
 |tmp t=>
  refine bU _ _ _ _ (fun e=>hp1 t e ?_)
  unfold Oper.looksAt
  rw[List.mem_append]
  left
  rw[List.mem_filterMap]
  exact⟨.tmp t,Array.mem_toList_iff.2 hx,rfl⟩
 |const v=>rfl
 |global g=>rfl
 |func f=>rfl):p:=h
theorem Hq(h:p:=by
 have hy:ys[s]? =none:=List.getElem?_eq_none Aa
 rw[hy]
 have hv:(cs++Array.replicate (fn.ntmps-cs.size) undef).getD s undef=undef:=by
  rw[Array.getD_eq_getD_getElem?,Array.getElem?_append_right Aa]
  by_cases h2:s-cs.size<fn.ntmps-cs.size
  ·simp[h2]
  ·rw[Array.getElem?_eq_none A8];rfl
 rw[hv]
 exact xK w G0):p:=h
theorem Hr(h:p:=by
 conv=>whnf
 refine aG ?_
 have e:fst Q l=D.length:=Az
 unfold fstI
 rw[e,if_pos Aa]):p:=h
theorem Ht(h:p:=by
 obtain⟨rfl,rfl⟩:=hn rfl
 go_wp2_with (at_builtin;refine Lib.wpList_append_run _ rfl _ _ _ _ rfl _ _ rfl rfl _ _ (hA _) ?_)
 all_goals (go_ret;exact⟨rfl,rfl⟩)):p:=h
theorem Hu(h:p:=by
 have h1:(iI s).length=(rings s).length:=FH
 have h2:(rings s).length=D.length+R.length:=Af
 exact List.length_eq_zero_iff.1 Aa):p:=h
theorem Hw(h:p:=by
 obtain⟨ab,ao,asp⟩:=a
 go_wp2_with (at_builtin;refine Lib.wpList_append_run _ rfl _ _ _ _ rfl _ _ rfl rfl _ _ (hA _) ?_)
 all_goals (go_ret;exact⟨rfl,rfl⟩)):p:=h
theorem Hy(h:p:=by
 rename_i hlt
 exact Classical.byContradiction fun hn=>(h.2 (fun m hm hq=>hn ⟨m,hm,hq⟩)) hlt):p:=h
theorem Hz(h:p:=by
 rename_i hk
 have hu:∃dd,P.underlying t=some dd/\aggB (some dd)=true:=by
  cases hp:P.underlying t with
  |none=>rw[hp]at hk;simp[kdOf]at hk
  |some dd=>rw[hp]at hk;cases dd<;>simp[kdOf]at hk;exact⟨_,rfl,rfl⟩
 obtain⟨dd,hu,ha⟩:=hu
 by_cases ht:t<T.n t
 ·exact nested (aggOf dd hu ha ht) h'
 ·have:Nat.blt t (T.n t)=false:=by rw[<-Bool.not_eq_true];exact fun h=>ht (blt h)
  rw[this]at h'
  cases h'):p:=h
theorem H6(h:p:=by
 simp only at h
 split at h
 ·rename_i hd
  obtain⟨vs,ms,h1,h2,h3⟩:=ih h
  refine⟨_,_,h1,?_,fun σ' hs K' hk=>?_⟩
  ·intro m hm
   rcases List.mem_cons.1 hm with rfl|hm
   ·exact hd
   ·exact h2 m hm
  ·rw[qL]
   simp only
   have h0:σ'.ar (d+1000*j)=σ.ar (d+1000*j):=hs _ (List.mem_cons_self ..)
   rw[h0,hd]
   exact h3 σ' (fun m hm=>hs m (List.mem_cons_of_mem _ hm)) _ hk
 ·exact h.elim):p:=h
theorem H7(h:p:=by
 have:k=(i+j)/2:=by omega
 subst this
 rw[hm2]at hy
 cases hy
 exact hc):p:=h
theorem H8(h:p:=by
 simp only
 have hr:=hrb s y hy
 cases hl:linear y with
 |false=>
  have:y.pure:=by
   unfold Rb at hr
   split at hr
   ·simp[linear]at hl
   ·simp[linear]at hl
   ·exact hr.1
  exact V.pure.ok this _ _
 |true=>
  simp only[cond_true,V.ok]
  have:∃en,jK ys 0 s=some en/\0<=en.gen:=by
   rw[gY]
   simp only[Nat.zero_le,if_true,Nat.sub_zero,hy]
   cases y<;>simp_all [linear]
  exact this):p:=h
theorem H9(h:p:=by
 repeat' ((conv=>whnf);first|refine zS ?_|refine zd (fun hd=>?_) (fun hd=>?_)|refine zl (fun hlt=>?_) (fun hlt=>?_)|refine zk (fun hle=>?_) (fun hle=>?_)|refine ze (fun heq=>?_) (fun heq=>?_)|refine zm (fun x hx=>?_)|refine zb (fun hbb=>?_) (fun hbb=>?_))
 refine⟨(),?_,trivial⟩
 refine Le.trans (bZ6 (i:=3) (cs:=[I n]) rfl Ah ⟨trivial,trivial⟩) ?_
 exact zj):p:=h
theorem HY(h:p:=by
 refine dV ?_ ?_ ?_ ?_
 all_goals repeat' (first|exact trivial|refine And.intro ?_ ?_|with_reducible rfl|exact(fun h=>Ag)|exact Nat.le_refl _|omega|exact rfl)
 all_goals (try rw[hl])):p:=h
theorem Ia(h:p:=by
 refine Mo.cond ?_ Mo.false
 unfold iE
 rename_i t0 x0 y0 z0
 split
 ·rename_i k g s hx _
  split
  ·split
   ·refine Mo.need fun hp=>Mo.cond (Mo.ret _ (h1 (.a k _) (.inr ⟨A7,fun p q hok=>?_⟩))) Mo.false
    have:=hok x0 Ai
    rw[hx]at this
    simp only[V.ok]at this
    exact⟨g,this⟩
   ·exact Mo.false
  ·exact Mo.false
 ·exact Mo.false):p:=h
theorem Ib(h:p:=by
 have e:l=[] :=by
  cases l with
  |nil=>rfl
  |cons x l=>exact absurd (hb Ae) Ah
 subst e
 refine⟨⟨⟨of_decide_eq_true Ac,rfl⟩,trivial⟩,rfl,fun rs h=>V.noConfusion h⟩):p:=h
theorem Ic(h:p:=by
 refine mW (σ:=σ.put p.dst v []) (fun _=>⟨b1.symm,a1.symm⟩) ?_ ?_ ?_ h2
 ·intro t ht
  exact(bU _ _ _ _ (fun e=>hp1 t e ht)).symm
 ·intro _ x hx
  rw[cX5 hx hp1]
  exact V.ok.imp (fun j _=>Gl) (fun j _ _=>Gm) _ (wf x)
 ·intro m _
  cases m with
  |b j cs=>show σ.bx j=_;rw[b1]
  |a j cs=>show σ.ar j=_;rw[a1]):p:=h
theorem Ie(h:p:=by exact put_comm (fun t e=>hp2 t e) (fun j ⟨m,hm,_⟩=>Bg) (fun j ⟨m,hm,_⟩=>Bg)):p:=h
theorem Ig(h:p:=by
 refine mW (σ:=σ) (fun hq=>CQ) ?_ ?_ ?_ h1
 ·intro t ht
  exact bU _ _ _ _ (fun e=>hp3 t e ht)
 ·intro _ x hx
  exact V.ok.imp (fun j _=>Gl) (fun j _ _=>Gm) _ (wf x)
 ·intro m _
  cases m with
  |b j cs=>show(σ.put o.dst v' []).bx j=_;rw[b1]
  |a j cs=>show(σ.put o.dst v' []).ar j=_;rw[a1]):p:=h
theorem Ih(h:p:=by
 rcases q4 b hb with⟨h,h'⟩|⟨k,h⟩
 ·rcases inv'.fzm b h with h2|h2
  ·exact .inl ⟨h2,h'⟩
  ·exact .inr h2
 ·exact .inr (inv'.mineA b k h)):p:=h
theorem Ii(h:p:=by
 refine mW (σ:=σ) (fun _=>⟨b1,a1⟩) ?_ ?_ ?_ h1
 ·intro t ht
  exact bU _ _ _ _ (fun e=>hp3 t e ht)
 ·intro _ x hx
  exact V.ok.imp (fun j _=>Gl) (fun j _ _=>Gm) _ (wf x)
 ·intro m _
  cases m with
  |b j cs=>show _=σ.bx j;rw[b1]
  |a j cs=>show _=σ.ar j;rw[a1]):p:=h
theorem Ij(h:p:=by
 repeat' ((conv=>whnf);first|(exfalso;contradiction)|refine jI (fun heq=>?_) (fun heq=>?_)|refine zh (h1) [100000] ?_|refine dS rfl rfl Ap ?_|refine zS ?_|refine zT ?_ ?_<;>intro _|fail)
 all_goals conv=>whnf
 all_goals first|exact⟨_,rfl,zc1⟩|exact zc1):p:=h
theorem Ik(h:p:=by
 rw[hy]at hx
 simp only[Option.map_some,Option.some.injEq]at hx
 subst hx
 exact ih j c y hc hy (aH.1 hok y (List.mem_of_getElem? hy)) hp):p:=h
theorem Il(h:p:=by
 obtain⟨_,z,hz,h⟩:=h
 rw[bC]at h
 simp only[V.ok]at hx
 cases hb:(Nat.beq (lenR z.cells) (T.row r.elem).size&&Nat.blt r.elem (T.n r.elem))with
 |false=>rw[hb]at h;exact h.elim
 |true=>
  rw[hb]at h
  obtain⟨rfl,_⟩:=h
  simp only[V.ok]
  exact el hx hz):p:=h
theorem Io(h:p:=by
 repeat' ((conv=>whnf);first|(exfalso;omega)|refine jI (fun heq=>?_) (fun heq=>?_)|refine zS ?_|refine zT ?_ ?_<;>intro _|fail)
 all_goals conv=>whnf
 all_goals first
  |exact aA (aC (fun h=>by have:=hr.1 h;grind))
  |exact aA (fQ Ez)
  |exact aA (qV Ez)):p:=h
theorem Ip(h:p:=by
 rw[hy]at hx
 simp only[Option.map_some,Option.some.injEq]at hx
 subst hx
 exact ih j c y hc hy (aH.1 hok y (List.mem_of_getElem? hy))):p:=h
theorem Iq(h:p:=by
 rename_i j g'
 cases hj:Nat.beq j k with
 |false=>exact h
 |true=>
  have ej:j=k:=Nat.eq_of_beq_eq_true hj
  subst ej
  cases hg:Nat.beq g' g with
  |false=>exact .bot _
  |true=>
   have eg:g'=g:=Nat.eq_of_beq_eq_true hg
   subst eg
   rw[h.oQ]
   exact hl):p:=h
theorem Ir(h:p:=by
 have hlen6:e.cuts.length=Q.length:=Af
 have eQ:e.cuts=Q:=Af
 rw[eQ]
 rw[eQ]at hm1
 repeat' ((conv=>whnf);first|(exfalso;omega)|refine zS ?_|refine zT ?_ ?_<;>intro _|fail)
 all_goals conv=>whnf
 all_goals first|exact⟨_,rfl,zc1⟩|exact zc1):p:=h
theorem Iu(h:p:=by
 have hb:Nat.beq s j=false:=by rw[<-Bool.not_eq_true,Nat.beq_eq];exact e
 rw[hb,cond_false,ih]
 by_cases h1:j+1<=s
 ·rw[if_pos h1,if_pos Aa]
  rw[show s-j=(s- (j+1))+1 from Aa,List.getElem?_cons_succ]
 ·rw[if_neg h1,if_neg Aa]):p:=h
theorem Iw(h:p:=by
 refine⟨k+1,?_,⟨Aa,fun j hj=>?_⟩,Aa⟩
 ·exact zj
 ·rcases Nat.lt_or_ge j k with h|h
  ·exact hN j h
  ·have:j=k:=by omega
   subst this
   unfold dJ
   rw[if_neg ‹¬r.getD j z0=p›,eN,if_neg (fun h=>absurd h.2 Ad)]):p:=h
theorem Iy(h:p:=by
 cases u with
 |slice b n c=>
  cases b with
  |none=>
   cases n with
   |zero=>
    cases c with
    |zero=>exact h []
    |succ c=>exact Det.false
   |succ n=>exact Det.false
  |some b=>exact Det.false
 |_=>exact Det.false):p:=h
theorem Iz(h:p:=by
 refine⟨k+1,?_,⟨Aa,fun j hj=>?_⟩,Aa⟩
 ·exact zj
 ·rcases Nat.lt_or_ge j k with h|h
  ·exact hN j h
  ·have:j=k:=by omega
   subst this
   unfold dJ
   rw[if_neg ‹¬r.getD j z0=p›,eN,if_neg (fun h=>h.1 Ad)]):p:=h
theorem I4(h:p:=by
 repeat' ((conv=>whnf);first|(exfalso;omega)|refine zh (h2) [100000] ?_|refine zh (h3) [100000] ?_|refine zS ?_|refine zT ?_ ?_<;>intro _|fail)
 all_goals conv=>whnf
 all_goals first|exact⟨_,rfl,zc1⟩|exact zc1):p:=h
theorem I5(h:p:=by
 rename_i e l hy
 cases hen'
 have hr:=hrb k _ hy
 obtain⟨q1,q2,q3⟩:=hr
 refine⟨q1,?_⟩
 rcases q3 with q|q
 ·exact .inl (q.keep hkeep q2 (fun b hb=>⟨hb,rfl⟩))
 ·exact .inr ⟨q.1.aW hkeep Ei,q.2⟩):p:=h
theorem I7(h:p:=by
 cases x with
 |lit u=>simp only[V.pure,V.ok]
 |sl l=>simp only[V.pure,V.ok]at hok⊢;exact hok
 |cap l=>simp only[V.pure,V.ok]at hok⊢;exact hok
 |fn g l=>exact fn_atom_pure h hok
 |_=>simp[V.atom]at h):p:=h
theorem I8(h:p:=by
 simp only[V.ok]
 exact⟨_,upd_same _ _ _,Nat.le_refl _⟩):p:=h
theorem I9(h:p:=by
 refine he s ?_
 unfold Oper.looksAt
 rw[List.mem_append]
 right
 unfold tV at q1
 rw[uN]at q1
 simp[hg,q1]):p:=h
theorem IA(h:p:=by exact put_comm (fun t e=>hp2 t e) (fun j _ m hm=>Bg) (fun j _ m hm=>Bg)):p:=h
theorem IB(h:p:=by
 refine dV ?_ ?_ ?_ ?_
 all_goals repeat' (first|exact trivial|refine And.intro ?_ ?_|with_reducible rfl|exact(fun h=>Ag)|exact Nat.le_refl _|omega|exact rfl)
 all_goals (try rw[hll])):p:=h
theorem IC(h:p:=by
 refine dV ?_ ?_ ?_ ?_
 all_goals repeat' (first|exact trivial|refine And.intro ?_ ?_|with_reducible rfl|exact(fun h=>Ag)|exact Nat.le_refl _|omega|exact rfl)
 all_goals (try rw[hm1])):p:=h
theorem IE(h:p:=by
 rw[hms]
 simp only[V.ok]
 refine aH.2 fun x hx=>?_
 obtain⟨i,hi⟩:=List.getElem?_of_mem hx
 have hlt2:i<vs'.toList.length:=Bh
 exact(b4 i _ x (List.getElem?_eq_getElem hlt2) hi).2):p:=h
theorem IG(h:p:=by
 unfold gro groA groR
 repeat' ((conv=>whnf);first|(exfalso;omega)|(exfalso;contradiction)|refine zS ?_|refine zm (fun x hx=>?_)|refine zT ?_ ?_<;>intro _|fail)
 all_goals exact zE):p:=h
theorem II(h:p:=by
 rcases List.mem_cons.1 hm with h|h
 ·exact⟨_,_,h⟩
 ·exact ih m h):p:=h
theorem IJ(h:p:=by
 rw[d_else b hc]
 cases hO:G.O b with
 |ext=>exact .inl rfl
 |fz=>exact .inr (.inl rfl)
 |bx i=>exact .inl rfl
 |ar k=>
  by_cases h1:k∈ok
  ·exact .inr (.inl Gy)
  ·exact .inl Gy):p:=h
theorem IK(h:p:=by
 rw[if_pos hk1]at hen
 cases hs:σ.ar k with
 |none=>rw[hs]at hen;cases hen
 |some en0=>
  rw[hs]at hen
  simp at hen
  subst hen
  exact .inr ⟨trivial,by simp only[bJ2,V.okL]⟩):p:=h
theorem IL(h:p:=by
 refine Det.cond ?_ Det.false
 unfold iE
 split
 ·split
  ·split
   ·exact Det.need (Det.cond (Det.ret _ _) Det.false)
   ·exact Det.false
  ·exact Det.false
 ·exact Det.false):p:=h
theorem IQ(h:p:=by
 refine⟨(D++[r],R'),?_,Af,Ae,fun q hq=>?_⟩
 ·simp only[ec]
  exact zj
 ·rcases List.mem_append.1 hq with hq|hq
  ·exact hD q hq
  ·rw[List.mem_singleton.1 hq];assumption):p:=h
theorem IU(h:p:=by
 exfalso
 obtain⟨z1,z2,z3⟩:=hbx b i h2
 obtain⟨e1,_,cs0,hcs0⟩:=inv'.argb i (G.β i) BH
 obtain⟨_,_,_,_,hO⟩:=inv'.box _ cs0 hcs0
 rw[e1,<-z3,h]at hO
 cases hO):p:=h
theorem IV(h:p:=by
 unfold chN
 cases f.length with
 |zero=>exact⟨[],rfl⟩
 |succ k=>
  unfold chainR
  split
  ·exact⟨[],rfl⟩
  ·split
   ·exact⟨_,rfl⟩
   ·exact⟨[],rfl⟩):p:=h
theorem IW(h:p:=by
 have:¬(k'=k/\g=gen):=by rintro⟨rfl,rfl⟩;exact absurd (hno g hg) Aa
 simp[av',this]):p:=h
theorem IX(h:p:=by
 unfold groN groNA groNR
 repeat' ((conv=>whnf);first|(exfalso;omega)|refine zS ?_|refine zm (fun x hx=>?_)|refine zT ?_ ?_<;>intro _|fail)
 all_goals exact zE):p:=h
theorem IY(h:p:=by
 unfold gro groA groR
 repeat' ((conv=>whnf);first|(exfalso;omega)|refine zS ?_|refine zm (fun x hx=>?_)|refine zT ?_ ?_<;>intro _|fail)
 all_goals exact zE):p:=h
theorem IZ(h:p:=by
 simp only[Gc];rw[hb]
 have:k∉vk:=hdisj k hk
 simp[hk,this]):p:=h
theorem Ja(h:p:=by
 split
 ·exact ih _ _ (fun vs ms K=>Φ _ _ K) fun vs ms=>h _ _
 ·split
  ·exact ih _ _ (fun vs ms K=>Φ _ _ K) fun vs ms=>h _ _
  ·exact Det.false):p:=h
theorem Jb(h:p:=by exact bT4 (Φ:=fun v m K=>oJ ar is ok r xr (N+1000) fun vs ms=>Φ (v::vs) (m::ms) K) fun v m=>ih _ _ (fun vs ms K=>Φ _ _ K) fun vs ms=>h _ _):p:=h
theorem Jc(h:p:=by refine⟨⟨⟨rfl,rfl,rfl,rfl⟩,trivial⟩,rfl,fun rs h=>V.noConfusion h⟩):p:=h
theorem Jd(h:p:=by
 split at h
 ·rename_i hd
  obtain⟨_,_,h4⟩:=dX h
  have:=hm _ Ba
  simp only[show σ'.ar d=none from this.trans hd]
  exact h
 ·exact h.elim):p:=h
theorem Je(h:p:=by
 have hP:¬P:=hex.2 (List.getElem?_eq_none Aa)
 have eP:DB P=V.lit (.bool false):=congrArg (fun b=>V.lit (.bool b)) (dW.2 hP)
 rw[eP]
 exact zF):p:=h
theorem Jf(h:p:=by
 rw[hp]
 repeat' ((conv=>whnf);first|refine zS ?_|fail)
 all_goals conv=>whnf
 exact⟨⟨⟨rfl,rfl,rfl,rfl⟩,trivial⟩,rfl,fun _ h=>Ag⟩):p:=h
theorem Jg(h:p:=by
 show(cs++Array.replicate (fn.ntmps-cs.size) undef).size=fn.ntmps
 simp;omega):p:=h
theorem Jh(h:p:=by
 refine he t ?_
 unfold Oper.looksAt
 rw[List.mem_append]
 left
 rw[List.mem_filterMap]
 exact⟨.tmp t,Array.mem_toList_iff.2 hx,rfl⟩):p:=h
theorem Ji(h:p:=by
 obtain⟨_,z,hz,h⟩:=h
 rw[bC]at h
 simp only[V.ok]at hx
 obtain⟨_,h⟩:=aT h
 obtain⟨rfl,_⟩:=h
 simp only[V.ok]
 exact el hx hz):p:=h
theorem Jj(h:p:=by
 rename_i e l hy
 cases hen'
 have hr:=hrb k _ hy
 obtain⟨q1,q2,q3⟩:=hr
 exact⟨q1,q3.keep hkeep q2 (fun b hb=>⟨hb,rfl⟩)⟩):p:=h
theorem Jk(h:p:=by
 by_cases e1:k'=k
 ·subst e1;exact⟨_,upd_same _ _ _,Nat.le_of_lt (hno g' hh)⟩
 ·obtain⟨x,hx,hg⟩:=hh
  exact⟨x,DU,hg⟩):p:=h
theorem Jl(h:p:=by
 have hh':cond (iC x) (iC y) false=true:=hh
 cases hx:iC x with
 |true=>rw[hx]at hh';exact hh'
 |false=>rw[hx]at hh';cases hh'):p:=h
theorem Jm(h:p:=by
 have:=dY.1 h5 i hi
 unfold isS at this
 cases hb:bx i with
 |none=>rw[hb]at this;cases this
 |some cs=>exact⟨cs,rfl⟩):p:=h
theorem Jo(h:p:=by
 rename_i e l hy
 cases hen'
 exact(hrb k _ hy).2.1):p:=h
theorem Jp(h:p:=by
 show upd _ _ _ _=upd _ _ _ _
 by_cases e:i=j
 ·subst e;rw[upd_same,upd_same]
 ·rw[upd_ne _ _ e,upd_ne _ _ e];exact h):p:=h
theorem Jq(h:p:=by
 split
 ·exact Mo.need fun _=>Mo.ret _ (one _ _)
 ·exact Mo.false):p:=h
theorem Jr(h:p:=by
 split
 ·rename_i hd
  exact Mo.need fun _=>Mo.ret _ (one _ _ (fun en he=>by rw[hd]at he;cases he))
 ·exact Mo.false):p:=h
theorem Js(h:p:=by
 have:kidsL (x::l) n=kidsL l n:=by conv=>lhs;unfold kidsL
                                   rw[if_neg Aa]
 rw[this]):p:=h
theorem Jt(h:p:=by
 rcases List.mem_append.1 hz with hz|hz
 ·exact hD z hz
 ·rw[List.mem_singleton.1 hz]
  exact hq.2 ⟨Ad,Ad,Ad⟩):p:=h
theorem Ju(h:p:=by
 rcases hc.2.2 with h|h
 ·rw[h];rfl
 ·rw[Nat.beq_eq,iL]at h
  rw[List.length_eq_zero_iff.1 h]
  cases lend<;>rfl):p:=h
theorem Jv(h:p:=by
 split at h
 ·rename_i h0 _;cases h0
 ·exact h):p:=h
theorem Jw(h:p:=by
 repeat' ((conv=>whnf);first|(exfalso;omega)|refine zS ?_|refine zT ?_ ?_<;>intro _|fail)
 all_goals exact zE):p:=h
theorem Jy(h:p:=by
 obtain⟨s,_,h2⟩:=h2
 rcases h2 with⟨_,h2⟩|⟨_,_,h2⟩
 ·exact key h2
 ·subst h2;intro m hm;cases hm):p:=h
theorem Jz(h:p:=by
 rcases List.mem_append.1 hz with hz|hz
 ·exact hE z hz
 ·rw[List.mem_singleton.1 hz]
  exact⟨Ad,Ad,Ad⟩):p:=h
theorem J3(h:p:=by
 have hh':cond (iC x) (iC y) false=true:=hh
 cases hx:iC x with
 |true=>rfl
 |false=>rw[hx]at hh';cases hh'):p:=h
theorem J4(h:p:=by split<;>first|exact Det.need (Det.ret _ _)|exact Det.false):p:=h
theorem J5(h:p:=by
 rw[d_else b hc]at hb
 have:G.O b≠ .ext:=by intro hO;rw[hO]at hb;exact hb rfl
 have:=hlt b this
 omega):p:=h
theorem J6(h:p:=by
 unfold wf1 at hw
 simp only at hw
 split at hw
 ·rename_i en hen;exact⟨en,hen,hw⟩
 ·exact hw.elim):p:=h
theorem J7(h:p:=by
 cases m with
 |b j' cs'=>cases hbm;have h':σ.bx j=none:=h;rw[h']at hj;cases hj
 |a j' en=>exact hbm):p:=h
theorem J8(h:p:=by
 rcases List.mem_append.1 hz with hz|hz
 ·exact hD z hz
 ·rw[List.mem_singleton.1 hz,hq];assumption):p:=h
theorem J9(h:p:=by
 rcases List.mem_append.1 hz with hz|hz
 ·exact hD z hz
 ·rw[List.mem_singleton.1 hz,hBE]
  exact hE):p:=h
theorem JA(h:p:=by
 rename_i t x y z
 obtain⟨h1,h2⟩:=aT h
 rw[h1,he x Ai,he y Ai,he z Ai]
 exact aH2 (ha A7 x Ai) h2):p:=h
theorem JB(h:p:=by
 rcases List.mem_append.1 hz with hz|hz
 ·exact hE z hz
 ·rw[List.mem_singleton.1 hz]
  assumption):p:=h
theorem JC(h:p:=by
 have hO:=inv.ext_size h1
 exact⟨by rw[d_else b hne,hO], .inl (Nat.le_trans inv.size h1),hsz⟩):p:=h
theorem JD(h:p:=by
 rw[hkd]at hokk
 refine .inr ⟨?_,hp⟩
 rcases hokk.2 with q|q
 ·exact own q
 ·exact slr q.1.wK):p:=h
theorem JE(h:p:=by
 show upd _ _ _ _≠none
 by_cases e:i=j
 ·subst e;rw[upd_same];simp
 ·rw[upd_ne _ _ e];exact h):p:=h
theorem JF(h:p:=by rcases q4 b hb with⟨h,_⟩|⟨k,h⟩<;>(rw[h];simp)):p:=h
theorem JG(h:p:=by
 split
 ·rename_i hd
  exact Mo.need fun hp=>Mo.ret _ (h1 (.a d _) (.inl hd))
 ·exact Mo.false):p:=h
theorem JH(h:p:=by
 rcases List.mem_append.1 hz with hz|hz
 ·exact hD z hz
 ·rw[List.mem_singleton.1 hz];exact h):p:=h
theorem JI(h:p:=by
 by_cases h2:k∈ok
 ·rw[c_ok b k hO h2]at hb;cases hb
 ·rw[c_no b k hO h1 h2]at hb;cases hb):p:=h
theorem JJ(h:p:=by
 have hne:¬k=s:=fun e=>by
  have:=b2.2 (e.trans (c2.1 rfl));cases this
 simp only[if_neg hne]):p:=h
theorem JK(h:p:=by
 rw[force_eq]at h
 obtain⟨h1,h2⟩:=inv.ev x
 exact .plain inv (by simp[execOp,ho]) h h1 h2):p:=h
theorem JL(h:p:=by
 simp only[h1,h2,if_false,List.mem_cons,or_self]
 show upd σ'.ar x _ k=_
 rw[upd_ne _ _ h2]):p:=h
theorem JM(h:p:=by
 obtain⟨_,h'⟩:=aT h'
 generalize (T.row t).kd=kd at h'
 cases kd<;>exact(h':False).elim):p:=h
theorem JO(h:p:=by
 have:z.cells.toList.length=(T.row (T.row t).elem).size:=by rw[hzc,hz2]
 simpa using this):p:=h
theorem JP(h:p:=by
 simp only[V.ok]at h2⊢
 rw[aH]at h2⊢
 exact fun y hy=>h2 y (List.mem_of_mem_drop hy)):p:=h
theorem JQ(h:p:=by
 show(w.heap.push _)[q]? =_
 rw[Array.getElem?_push_lt hq,Array.getElem?_eq_getElem hq]):p:=h
theorem JR(h:p:=by
 have e:Gi.O b=(match G.O b with| .fz=>Tag.fz|_=> .ext):=rfl
 rw[e]
 cases G.O b<;>simp):p:=h
theorem JS(h:p:=by
 simp only
 cases σ.ar k with
 |none=>exact Det.false
 |some en=>exact Det.need (h _)):p:=h
theorem JU(h:p:=by exact⟨Ah,Ah,Ah,Ah,Ah,Ah,fun _=>rfl,fun _=>⟨hn,Ah,rfl⟩,fun h=>absurd rfl h⟩):p:=h
theorem JV(h:p:=by
 rw[hkd]at hokk
 refine .inr ⟨?_,hp⟩
 simp only
 unfold gW
 rw[hkd]
 exact slr hokk):p:=h
theorem JW(h:p:=by exact Mo.need (fun hp=>Mo.idx fun x=>Mo.bJ fun l=>Mo.cond (Mo.ret _ hn) Mo.false)):p:=h
theorem JY(h:p:=by
 simp only[Bool.true_eq_false,if_false,Sem.run_pure,Result.andThen_ok]
 exact ih'):p:=h
theorem JZ(h:p:=by exact Mo.need fun _=>Mo.idx fun x=>Mo.bJ fun l=>Mo.cond (Mo.ret _ rfl) Mo.false):p:=h
theorem Ko(h:p:=by exact Det.need (Det.idx fun x=>Det.bJ fun l=>Det.cond (Det.ret _ _) Det.false)):p:=h
theorem Kq(h:p:=by
 have hp:PosG gs γ q k:=⟨g,hg,x,y,hx,hy,hl,hk⟩
 rw[c_ok b k hb FU,hpos hp]):p:=h
theorem Kr(h:p:=by
 obtain⟨dd,h1,h2,_⟩:=h.und
 rw[hk]at h2
 cases dd<;>simp[kdOf]at h2
 exact h1):p:=h
theorem Kt(h:p:=by
 split
 ·refine⟨_,rfl,?_⟩
  unfold frzE;split<;>rfl
 ·exact⟨_,rfl,rfl⟩):p:=h
theorem Ku(h:p:=by
 rw[e1]
 refine .tup vs' vs (by rw[e2,b3]) fun i c x hc hx=>(b4 i c x BZ hx).1):p:=h
theorem Kv(h:p:=by
 rw[hP2]
 exact⟨fun q=>q.2,fun q=>⟨⟨Ad,Ad,by rw[hDE];exact hE⟩,q⟩⟩):p:=h
theorem Kw(h:p:=by
 have:=hc.2.1
 rw[Nat.beq_eq,iL]at this
 exact List.length_eq_zero_iff.1 this):p:=h
theorem Ky(h:p:=by
 cases u with
 |none=>simp[kdOf]at h
 |some dd=>cases dd<;>simp[kdOf]at h;rfl):p:=h
theorem Kz(h:p:=by
 cases m with
 |b j' cs'=>cases hbm;cases h;exact hi hi'
 |a j' en=>exact hbm):p:=h
theorem KA(h:p:=by
 rw[hl1]at h1
 obtain⟨x,hx⟩:=List.length_eq_one_iff.1 h1
 exact hne x hx):p:=h
theorem KC(h:p:=by
 rw[List.getElem?_eq_none (by rw[List.length_range];omega)]at hu
 cases hu):p:=h
theorem KD(h:p:=by
 refine Mo.need fun _=>?_
 split<;>first|exact Mo.ret _ hn|exact Mo.false):p:=h
theorem KE(h:p:=by exact Det.force fun y=>ih _ _ (fun vs ms K=>Φ _ _ K) fun vs ms=>h _ _):p:=h
theorem KF(h:p:=by exact same hx0 (empty hx0 none 0 0 (Nat.le_refl _)) rfl (.inr trivial)):p:=h
theorem KG(h:p:=by
 go_simp
 refine hK _ _ ?_;clear hK K
 refine wpAny_ready (rs:=[6,9]) Ac Ae ?_
 refine AllReady.cons rfl (fun K hK=>?_) ?_
 ·refine step_lk rfl rfl rfl rfl (hlk _ Ak) ?_
  go_simp
  refine hK _ _ ?_;clear hK K
  refine wpAny_ready (rs:=[9]) Ac Ae ?_
  refine AllReady.cons rfl (fun K hK=>?_) ?_
  ·go_simp
   refine hK _ _ ?_;clear hK K
   refine wpAny_ready (rs:=[10]) Ac Ae ?_
   refine AllReady.cons rfl (fun K hK=>?_) ?_
   ·exact GK
   exact AllReady.nil
  exact AllReady.nil
 refine AllReady.cons rfl (fun K hK=>?_) ?_
 ·go_simp
  refine hK _ _ ?_;clear hK K
  refine wpAny_ready (rs:=[6]) Ac Ae ?_
  refine AllReady.cons rfl (fun K hK=>?_) ?_
  ·refine step_lk rfl rfl rfl rfl (hlk _ Ak) ?_
   go_simp
   refine hK _ _ ?_;clear hK K
   refine wpAny_ready (rs:=[10]) Ac Ae ?_
   refine AllReady.cons rfl (fun K hK=>?_) ?_
   ·exact GK
   exact AllReady.nil
  exact AllReady.nil
 exact AllReady.nil):p:=h
theorem KH(h:p:=by
 go_simp
 refine hK _ _ ?_;clear hK K
 refine wpAny_ready (rs:=[6]) Ac Ae ?_
 refine AllReady.cons rfl (fun K hK=>?_) ?_
 ·refine step_lk rfl rfl rfl rfl (hlk _ Ak) ?_
  go_simp
  refine hK _ _ ?_;clear hK K
  refine wpAny_ready (rs:=[10]) Ac Ae ?_
  refine AllReady.cons rfl (fun K hK=>?_) ?_
  ·exact GK
  exact AllReady.nil
 exact AllReady.nil):p:=h
theorem KI(h:p:=by
 go_simp
 refine hK _ _ ?_;clear hK K
 refine wpAny_ready (rs:=[10]) Ac Ae ?_
 refine AllReady.cons rfl (fun K hK=>?_) ?_
 ·exact GK
 exact AllReady.nil):p:=h
theorem KJ(h:p:=by
 obtain⟨v',W2,W3,hr,hx2,hr3,hown3,hnx3,hws3⟩:=hall
 refine step_ap rfl rfl rfl rfl hr ?_
 go_simp
 refine hK _ _ ?_;clear hK K
 refine wpAny_ready (rs:=[2]) Ac Ae ?_
 refine AllReady.cons rfl (fun K hK=>?_) ?_
 ·go_simp
  refine hK _ _ ?_;clear hK K
  refine wpAny_ready (rs:=[11]) Ac Ae ?_
  refine AllReady.cons rfl (fun K hK=>?_) ?_
  ·exact GN
  exact AllReady.nil
 exact AllReady.nil):p:=h
theorem KL(h:p:=by
 refine mW (σ:=σ.put p.dst v []) (fun hq=>CP) ?_ ?_ ?_ h2
 ·intro t ht
  exact(bU _ _ _ _ (fun e=>hp1 t e ht)).symm
 ·intro _ x hx
  have e:(σ.put p.dst v []).ev x=σ.ev x:=Ho
  rw[e]
  exact V.ok.imp (fun j _=>Gl) (fun j _ _=>Gm) _ (wf x)
 ·intro m _
  cases m with
  |b j cs=>show σ.bx j=_;rw[b1]
  |a j cs=>show σ.ar j=_;rw[a1]):p:=h
theorem KN(h:p:=by
 have hlen2:B.length=E.length:=AO
 have hBE:B=E:=AO
 repeat' ((conv=>whnf);first|(exfalso;omega)|refine zS ?_|refine zT ?_ ?_<;>intro _|fail)
 all_goals conv=>whnf
 refine⟨(D++[x],R),?_,⟨Af,fun z hz=>?_⟩,Ae⟩
 ·exact Hl
 ·exact J9):p:=h
theorem KO(h:p:=by
 repeat' ((conv=>whnf);first|(exfalso;contradiction)|refine zS ?_|refine zm (fun x hx=>?_)|refine zT ?_ ?_<;>intro _|fail)
 all_goals exact zE):p:=h
theorem KP(h:p:=by
 repeat' ((conv=>whnf);first|(exfalso;omega)|refine zS ?_|refine zm (fun x hx=>?_)|refine zT ?_ ?_<;>intro _|fail)
 all_goals exact zE):p:=h
theorem KQ(h:p:=by
 refine hK _ _ ?_;clear hK K
 refine wpAny_ready (rs:=[2,6,9]) Ac Ae ?_
 refine AllReady.cons rfl (fun K hK=>?_) ?_
 ·exact KG
 refine AllReady.cons rfl (fun K hK=>?_) ?_
 ·refine step_lk rfl rfl rfl rfl (hlk _ Ak) ?_
  go_simp
  refine hK _ _ ?_;clear hK K
  refine wpAny_ready (rs:=[2,9]) Ac Ae ?_
  refine AllReady.cons rfl (fun K hK=>?_) ?_
  ·go_simp
   refine hK _ _ ?_;clear hK K
   refine wpAny_ready (rs:=[9]) Ac Ae ?_
   refine AllReady.cons rfl (fun K hK=>?_) ?_
   ·exact KI
   exact AllReady.nil
  refine AllReady.cons rfl (fun K hK=>?_) ?_
  ·go_simp
   refine hK _ _ ?_;clear hK K
   refine wpAny_ready (rs:=[2,10]) Ac Ae ?_
   refine AllReady.cons rfl (fun K hK=>?_) ?_
   ·exact KI
   refine AllReady.cons rfl (fun K hK=>?_) ?_
   ·exact KJ
   exact AllReady.nil
  exact AllReady.nil
 refine AllReady.cons rfl (fun K hK=>?_) ?_
 ·go_simp
  refine hK _ _ ?_;clear hK K
  refine wpAny_ready (rs:=[2,6]) Ac Ae ?_
  refine AllReady.cons rfl (fun K hK=>?_) ?_
  ·exact KH
  refine AllReady.cons rfl (fun K hK=>?_) ?_
  ·refine step_lk rfl rfl rfl rfl (hlk _ Ak) ?_
   go_simp
   refine hK _ _ ?_;clear hK K
   refine wpAny_ready (rs:=[2,10]) Ac Ae ?_
   refine AllReady.cons rfl (fun K hK=>?_) ?_
   ·exact KI
   refine AllReady.cons rfl (fun K hK=>?_) ?_
   ·exact KJ
   exact AllReady.nil
  exact AllReady.nil
 exact AllReady.nil):p:=h
theorem KR(h:p:=by
 conv=>whnf
 refine aA (le_dec ?_)
 have h:=iO (Q:=Q) (l:=l)
 unfold fstI
 constructor
 ·intro h0
  split at h0
  ·exact Hy
  ·omega
 ·rintro⟨m,hm,hq⟩
  split
  ·omega
  ·rename_i hlt
   exact(h.1 hlt m hm hq).elim):p:=h
theorem KT(h:p:=by
 refine hK _ _ ?_;clear hK K
 refine wpAny_ready (rs:=[2,10]) Ac Ae ?_
 refine AllReady.cons rfl (fun K hK=>?_) ?_
 ·exact KI
 refine AllReady.cons rfl (fun K hK=>?_) ?_
 ·exact KJ
 exact AllReady.nil):p:=h
theorem KU(h:p:=by
 have hA2:=hcp2 (w.drew.setRow b X1) _ (n+1-i) 3 (c-i) (setRow_heap w.drew b cur X1 _ _ hb) BP rfl Aa
 try simp only[Nat.mul_one]at hA2
 go_wp2_with (first|simp only[hA2,Result.andThen_ok] |(at_builtin;refine wpList_copy_runI _ rfl _ _ _ _ rfl _ _ rfl rfl hA2 ?_))
 go_ret
 first|exact⟨rfl,rfl⟩|exact⟨rfl,AV⟩):p:=h
theorem KW(h:p:=by
 generalize ownR x=ow at*
 repeat' ((conv=>whnf);first|(exfalso;contradiction)|(exfalso;omega)|refine aF (l:=f) (A:=D') (x:=y) (B:=x::R) (by rw[hp,hDn];simp) Aa ?_|refine bW8 [] [(40,[88888])] trivial AA ?_|refine bW8 [] [(58,[88888])] trivial AA ?_|refine zS ?_|refine zd (fun hd=>?_) (fun hd=>?_)|refine zl (fun hlt=>?_) (fun hlt=>?_)|refine zk (fun hle=>?_) (fun hle=>?_)|refine ze (fun heq=>?_) (fun heq=>?_)|refine zm (fun x hx=>?_)|refine zb (fun hbb=>?_) (fun hbb=>?_))
 all_goals conv=>whnf
 all_goals first
  |(refine aA (aC fun hh=>?_);have hq:=hfo.1 (hno hh);first|omega|exact absurd hq.2.2.1 Ad|exact hq.2.2.2|exact absurd hq.2.2.2 Ad)
  |(refine⟨(D++[x],R),?_,⟨Af,hyes (hfo.2 ⟨Aa,Aa,Ad,Ad⟩)⟩,Ae⟩
    simp only[List.length_append,List.length_singleton]
    show Le T _ (mkSt [(0, .sl (f.map nodeV)),(3,I ((D.length:Int)+1))] [] [])
    exact zj
    done)):p:=h
theorem KX(h:p:=by
 clear neg pos
 repeat' ((conv=>whnf);first|(exfalso;omega)|refine zc (fF s.2 s.1) ?_|refine zc (fF t.2 t.1) ?_|refine zc (fF t.1 s.1) ?_|refine zc hA ?_|refine zc hB ?_|refine zc g1 ?_|refine zc g2 ?_|refine uM hg ?_|refine bW7 ?_|refine zS ?_|refine zl (fun hlt=>?_) (fun hlt=>?_)|refine ze (fun heq=>?_) (fun heq=>?_))
 all_goals conv=>whnf
 all_goals first
  |(rw[l0 Aa];refine⟨?_,rfl,fun rs h=>V.noConfusion h⟩;(repeat' (first|exact trivial|refine And.intro ?_ ?_|with_reducible rfl|exact(fun h=>Ag)|exact rfl));done)
  |(rw[l1 Aa,dI2 Aa];refine⟨?_,rfl,fun rs h=>V.noConfusion h⟩;(repeat' (first|exact trivial|refine And.intro ?_ ?_|with_reducible rfl|exact(fun h=>Ag)|exact rfl));done)
  |(rw[l1 Aa,dD5 Aa];refine⟨?_,rfl,fun rs h=>V.noConfusion h⟩;(repeat' (first|exact trivial|refine And.intro ?_ ?_|with_reducible rfl|exact(fun h=>Ag)|exact rfl));done)):p:=h
theorem KY(h:p:=by
 generalize ownR x=ow at*
 repeat' ((conv=>whnf);first|(exfalso;contradiction)|(exfalso;omega)|refine bW8 [] [(40,[88888])] trivial AA ?_|refine bW8 [] [(58,[88888])] trivial AA ?_|refine zS ?_|refine zd (fun hd=>?_) (fun hd=>?_)|refine zl (fun hlt=>?_) (fun hlt=>?_)|refine zk (fun hle=>?_) (fun hle=>?_)|refine ze (fun heq=>?_) (fun heq=>?_)|refine zm (fun x hx=>?_)|refine zb (fun hbb=>?_) (fun hbb=>?_))
 all_goals conv=>whnf
 all_goals first
  |(refine aA (aC fun hh=>?_);have hq:=hfo.1 (hno hh);first|omega|exact absurd hq.2.2.1 Ad|exact hq.2.2.2|exact absurd hq.2.2.2 Ad)
  |(refine⟨(D++[x],R),?_,⟨Af,hyes (hfo.2 ⟨Aa,trivial,Ad,Ad⟩)⟩,Ae⟩
    simp only[List.length_append,List.length_singleton]
    show Le T _ (mkSt [(0, .sl (f.map nodeV)),(3,I ((D.length:Int)+1))] [] [])
    exact zj
    done)):p:=h
theorem KZ(h:p:=by
 generalize bs sid s.stocks e.id=k at*
 generalize (∃m∈s.stocks,sid m=e.id)=P at*
 repeat' ((conv=>whnf);first|(exfalso;contradiction)|refine jI (fun heq=>?_) (fun heq=>?_)|refine zh (h1) [100000] ?_|refine dS rfl rfl Ap ?_|refine zS ?_|refine zT ?_ ?_<;>intro _|fail)
 all_goals conv=>whnf
 all_goals first|exact⟨_,rfl,zc1⟩|exact zc1):p:=h
theorem La(h:p:=by
 refine hK _ _ ?_;clear hK K
 refine wpAny_ready (rs:=[9]) Ac Ae ?_
 refine AllReady.cons rfl (fun K hK=>?_) ?_
 ·exact KI
 exact AllReady.nil):p:=h
theorem Lc(h:p:=by
 have hA:=el.room (vc:=vc) hroom hb hv hbs hvs h2
 go_enter fF,nF
 go_wp2_with (at_builtin;refine Lib.wpList_append_run _ rfl _ _ _ _ rfl _ _ rfl rfl _ _ (hA _) ?_)
 all_goals (go_ret;first|exact⟨rfl,rfl⟩|exact⟨rfl,AV⟩)):p:=h
theorem Ld(h:p:=by
 cases K
 all_goals unfold groR at c12
 all_goals repeat' ((conv=>whnf);first|(exfalso;contradiction)|(exfalso;omega)|(refine aS5 (c14) true ?_ rfl ?_;focus ((repeat' (first|exact trivial|refine And.intro ?_ ?_|with_reducible rfl|exact(fun h=>Ag)|exact rfl));done))|refine eqAc_i ?_|refine jI (fun _=>?_) (fun heq=>absurd rfl heq)|refine br_BBs ?_|refine zS ?_|refine zd (fun hd=>?_) (fun hd=>?_)|refine zl (fun hlt=>?_) (fun hlt=>?_)|refine zk (fun hle=>?_) (fun hle=>?_)|refine ze (fun heq=>?_) (fun heq=>?_)|refine zm (fun x hx=>?_)|refine zb (fun hbb=>?_) (fun hbb=>?_))
 all_goals conv=>whnf
 all_goals exact aK rfl):p:=h
theorem Lh(h:p:=by
 have h1:=find_spec s e.id hs
 generalize bs sid s.stocks e.id=k at*
 generalize (∃m∈s.stocks,sid m=e.id)=P at*
 repeat' ((conv=>whnf);first|(exfalso;contradiction)|refine zh (h1) [100000] ?_|refine zS ?_|refine zT ?_ ?_<;>intro _|fail)
 all_goals conv=>whnf
 all_goals first|exact⟨_,rfl,zc1⟩|exact zc1):p:=h
theorem Lj(h:p:=by
 refine⟨?_,rfl,fun rs h=>V.noConfusion h⟩
 (repeat' (first|exact trivial|refine And.intro ?_ ?_|with_reducible rfl|exact(fun h=>Ag)|exact rfl));done):p:=h
theorem Ll(h:p:=by
 simp only[List.length_append,List.length_singleton]
 exact zj):p:=h
theorem Lm(h:p:=by
 obtain⟨i1,i2⟩:=ih h2
 refine⟨by simp[i1],fun i x' y' hx hy=>?_⟩
 cases i with
 |zero=>simp at hx hy;subst hx;subst hy;exact h1
 |succ i=>simp at hx hy;exact i2 i x' y' hx hy):p:=h
theorem Lp(h:p:=by
 have h1:=find_spec s e.id hs
 have hkl:=(List.getElem?_eq_some_iff.1 hm).1
 have hll:(s.stocks.map aQ).length=s.stocks.length:=Ae
 have hl:=hs.ls
 generalize bs sid s.stocks e.id=k at*
 generalize (∃m∈s.stocks,sid m=e.id)=P at*
 rw[cP1]
 repeat' ((conv=>whnf);first|(exfalso;contradiction)|refine jI (fun heq=>?_) (fun heq=>?_)|refine zh (h1) [100000] ?_|refine dS rfl rfl Ap ?_|refine dB8 rfl rfl ?_|refine zS ?_|refine zT ?_ ?_<;>intro _|fail)
 all_goals conv=>whnf
 all_goals first|exact⟨_,rfl,zc1⟩|exact zc1):p:=h
theorem Lr(h:p:=by
 cases e with
 |normal=>exact⟨.inl rfl,fin .normal σ a' w' G' hq inv'⟩
 |ret=>exact⟨.inr rfl,fin .ret σ a' w' G' hq inv'⟩
 |exit id=>exact(hq:False).elim
 |goto l=>exact(hq:False).elim
 |panic c=>exact(hq:False).elim
 |outgrown=>exact(hq:False).elim):p:=h
theorem Ls(h:p:=by
 refine dV ?_ ?_ ?_ ?_
 all_goals repeat' (first|exact trivial|refine And.intro ?_ ?_|with_reducible rfl|exact(fun h=>Ag)|exact Nat.le_refl _|omega|exact rfl)
 all_goals (try rw[hl])):p:=h
theorem Lu(h:p:=by
 refine hK _ _ ?_;clear hK K
 refine wpAny_ready (rs:=[5,9]) Ac Ae ?_
 refine AllReady.cons rfl (fun K hK=>?_) ?_
 ·exact KG
 refine AllReady.cons rfl (fun K hK=>?_) ?_
 ·go_simp
  refine hK _ _ ?_;clear hK K
  refine wpAny_ready (rs:=[5]) Ac Ae ?_
  refine AllReady.cons rfl (fun K hK=>?_) ?_
  ·exact KH
  exact AllReady.nil
 exact AllReady.nil):p:=h
theorem L6(h:p:=by
 rw[hi]at h1
 rw[hg]
 repeat' ((conv=>whnf);first|(exfalso;omega)|refine zS ?_|refine zl (fun hlt=>?_) (fun hlt=>?_))
 all_goals conv=>whnf
 refine⟨_,rfl,⟨?_,congrArg (fun b=>Value.bool b) (aC hP),trivial⟩,rfl⟩
 (repeat' (first|exact trivial|refine And.intro ?_ ?_|with_reducible rfl|exact(fun h=>Ag)|exact rfl));done):p:=h
theorem L8(h:p:=by
 rw[hi]at h1
 repeat' ((conv=>whnf);first|(exfalso;omega)|refine zS ?_|refine zl (fun hlt=>?_) (fun hlt=>?_))
 all_goals conv=>whnf
 refine⟨_,rfl,⟨?_,congrArg (fun b=>Value.bool b) (fE hP),trivial⟩,rfl⟩
 (repeat' (first|exact trivial|refine And.intro ?_ ?_|with_reducible rfl|exact(fun h=>Ag)|exact rfl));done):p:=h
theorem L9(h:p:=by
 repeat' ((conv=>whnf);first|(exfalso;omega)|refine zh (g1) [100000] ?_|refine bW8 [] [(201,[88888])] trivial Ac ?_|refine zh (xX g2) [] ?_|refine zS ?_|refine zT ?_ ?_<;>intro _|fail)
 all_goals conv=>whnf
 refine⟨(Q++[c],R),?_,Af,Ae⟩
 simp only[stA3,stB3,hsn,List.length_append,List.length_singleton]
 exact zj):p:=h
theorem LC(h:p:=by
 have h1:=aE0 e he
 have h2:=aV4 s.stocks hs.ls
 have h3:=aV7 s.pieces hs.lp
 have h4:=aT5 s.used hs.lu
 repeat' ((conv=>whnf);first|(exfalso;contradiction)|refine eV6 (v:= .fn f []) (congrArg (fun o=>Option.getD o _) hg) ?_|refine zh (hm) [6] ?_|refine zS ?_|refine zT ?_ ?_<;>intro _|fail)
 all_goals exact zE):p:=h
theorem LD(h:p:=by
 have slr:Rv w G (G.av k en0.gen) (.sl en0.l)->Rv w1 G2 (G.av k en0.gen) (.sl en0.l):=fun h=>h.aW hkeep Ar
 subst hen
 unfold gW at hokk
 unfold frzE
 cases hkd:en0.kind with
 |own=>rw[hkd]at hokk;exact .inr ⟨own hokk.2,hp⟩
 |ap=>exact JD
 |frz=>exact JV
 |dead=>exact .inr ⟨trivial,trivial⟩):p:=h
theorem LG(h:p:=by
 rw[<-hs0,Nat.zero_add]at hw
 have e:(((whS fG s 0:Nat):Int)=(s.size:Int))↔whS fG s 0=s.size:=Aa
 show(((whS fG s 0:Nat):Int)=(s.size:Int))↔_
 rw[e,hw]
 constructor
 ·intro h
  exact⟨Aa,hsm,hd,fun i hi=>dH.1 (h i (Nat.zero_le _) Aa)⟩
 ·intro h j _ hj
  exact dH.2 (h.2.2.2 j Aa)):p:=h
theorem LH(h:p:=by
 cases hO:G.O b with
 |ext=>exact absurd hO hb
 |fz=>exact .inl ⟨rfl,rfl⟩
 |bx i=>exact absurd hO (h3 b i)
 |ar j=>exact .inr (.inr ⟨j,rfl⟩)):p:=h
theorem LJ(h:p:=by
 repeat' ((conv=>whnf);first|(refine aS5 (h1) true ?_ rfl ?_;focus ((repeat' (first|exact trivial|refine And.intro ?_ ?_|with_reducible rfl|exact(fun h=>Ag)|exact rfl));done))|refine zS ?_|fail)
 all_goals conv=>whnf
 all_goals first|exact⟨_,rfl,zc1⟩|exact zc1):p:=h
theorem LK(h:p:=by refine⟨_,rfl,⟨⟨of_decide_eq_true Ac,rfl⟩,rfl,trivial⟩,rfl⟩):p:=h
theorem LM(h:p:=by exact⟨sG hs he hf BU q1,fun h=>(q2 h).mono Aa⟩):p:=h
theorem LP(h:p:=by
 repeat' ((conv=>whnf);first|(exfalso;omega)|(exfalso;contradiction)|refine bW8 [] [(32,[88888])] trivial AA ?_|refine zS ?_|refine zm (fun x hx=>?_)|refine zT ?_ ?_<;>intro _|fail)
 all_goals conv=>whnf
 all_goals first|exact⟨_,rfl,zc1⟩|exact zc1):p:=h
theorem LQ(h:p:=by
 repeat' ((conv=>whnf);first|refine zg ?_|refine zw ?_|refine zr ?_)
 all_goals exact zE):p:=h
theorem LU(h:p:=by
 cases xs with
 |nil=>exact⟨rfl,fun i x y hx=>Gt⟩
 |cons x r=>exact(h:False).elim):p:=h
theorem LV(h:p:=by
 have:(none:Option (List V))=some cs':=hi
 cases this):p:=h
theorem LW(h:p:=by
 have h1:opVC T σ d o.op (Is v ms):=by
  rw[ho]
  split at h
  ·rename_i h0 _;cases h0
  ·exact h
 obtain⟨v',w1,v1,ms1,G',hr,⟨rfl,rfl⟩,inv',hv,hvo⟩:=xQ hT inv o h1
 exact⟨_,_,_,Inv.put' _ inv' hd hv hvo⟩):p:=h
theorem LX(h:p:=by
 repeat' ((conv=>whnf);first|(exfalso;omega)|(exfalso;contradiction)|refine zS ?_|refine zm (fun x hx=>?_)|refine zT ?_ ?_<;>intro _|fail)
 all_goals conv=>whnf
 all_goals first|exact⟨_,rfl,zc1⟩|exact zc1):p:=h
theorem LY(h:p:=by
 simp only[List.length_append,List.length_singleton,List.map_cons,List.map_append,List.map_nil]
 exact zj):p:=h
theorem LZ(h:p:=by
 split at h
 all_goals first|exact h|exact h.elim|skip
 simp only[V.agr,V.ok]at hx
 simp only[hx];exact h):p:=h
theorem Mc(h:p:=by
 have hex:∃t,∃γ q,t=100000*γ+q/\PosG gs γ q k:=⟨_,γ,q,rfl,hp⟩
 have e1:pos k=hex.choose:=CX
 obtain⟨γ',q',h1,h2⟩:=hex.choose_spec
 obtain⟨e2,e3⟩:=aA3 EG hp h2
 rw[e1,h1,e2,e3]):p:=h
theorem Me(h:p:=by
 generalize RightF f=P at*
 repeat' ((conv=>whnf);first|(exfalso;contradiction)|(exfalso;omega)|refine zS ?_|refine zm (fun x hx=>?_)|refine zT ?_ ?_<;>intro _|fail)
 all_goals exact zE):p:=h
theorem MB(h:p:=by
 show Rv w G0 ((cs++Array.replicate (fn.ntmps-cs.size) undef).getD s undef) (pF ys 0 s)
 rw[lY]
 simp only[Nat.zero_le,if_true,Nat.sub_zero]
 by_cases hs:s<cs.size
 ·exact Hg
 ·exact Hq):p:=h
theorem MC(h:p:=by
 refine dV ?_ ?_ ?_ ?_
 all_goals repeat' (first|exact trivial|refine And.intro ?_ ?_|with_reducible rfl|exact(fun h=>Ag)|exact Nat.le_refl _|omega|exact rfl)
 all_goals (try rw[hm1])):p:=h
theorem MF(h:p:=by
 repeat' ((conv=>whnf);first|(exfalso;omega)|refine zS ?_|refine zT ?_ ?_<;>intro _|fail)
 all_goals conv=>whnf
 exact⟨⟨⟨rfl,rfl,rfl,rfl⟩,trivial⟩,rfl,fun _ h=>Ag⟩):p:=h
theorem MG(h:p:=by
 repeat' ((conv=>whnf);first|(exfalso;contradiction)|refine mapg_i h3 ?_|refine zS ?_|refine zm (fun x hx=>?_)|refine zT ?_ ?_<;>intro _|fail)
 all_goals exact zE):p:=h
theorem MH(h:p:=by
 have hp:z.pure:=aH.1 hl z (List.mem_of_getElem? hz)
 cases z with
 |agg cs=>simp only[V.pure,V.ok]at hp;exact hp
 |_=>simp only[V.cells,V.okL,and_true];exact hp):p:=h
theorem MI(h:p:=by
 obtain⟨v1,ms1,⟨_,h2⟩,h3⟩:=hm _ h'
 rw[<-h2];exact h3):p:=h
theorem MJ(h:p:=by
 repeat' ((conv=>whnf);first|(exfalso;omega)|refine zS ?_|refine zT ?_ ?_<;>intro _|fail)
 all_goals conv=>whnf
 all_goals first|exact⟨_,rfl,zc1⟩|exact zc1):p:=h
theorem MK(h:p:=by
 refine cA7 ?_
 conv=>whnf
 exact⟨[],rfl,⟨⟨rfl,rfl,rfl,rfl⟩,trivial⟩,rfl⟩):p:=h
theorem ML(h:p:=by
 have hen':jK ys 0 k=some en:=hen
 rw[gY]at hen'
 simp only[Nat.zero_le,if_true,Nat.sub_zero]at hen'
 split at hen'
 ·exact Jj
 ·exact I5
 ·cases hen'):p:=h
theorem MN(h:p:=by
 have hen':jK ys 0 k=some en:=hen
 rw[gY]at hen'
 simp only[Nat.zero_le,if_true,Nat.sub_zero]at hen'
 split at hen'
 ·exact Jo
 ·exact Jo
 ·cases hen'):p:=h
theorem MO(h:p:=by
 show(pF ys 0 s).ok _ _
 rw[lY]
 simp only[Nat.zero_le,if_true,Nat.sub_zero]
 cases hy:ys[s]? with
 |none=>simp only[V.ok,V.okL]
 |some y=>exact H8):p:=h
theorem MP(h:p:=by
 refine aW7 inv hkc hβc ((hgv γ g hg).2 q x y hx hy) hv hxo (fun hl k hk b hb=>?_) (fun hl k hk b hb=>?_)
 ·exact c_vk b k hb Dp
 ·exact Kq):p:=h
theorem MQ(h:p:=by
 obtain⟨v1,ms1,⟨_,h2⟩,h3⟩:=hm _ h'
 rw[<-h2,h3]):p:=h
theorem MR(h:p:=by
 rcases hl with rfl|⟨s',rfl⟩
 ·exact GY
 ·exact GY):p:=h
theorem MS(h:p:=by
 have h2:upd σ.bx i (some cs) i=some xs:=hi
 rw[upd_same]at h2;cases h2;rfl):p:=h
theorem MV(h:p:=by
 have e:∀n:Int,eqB n n=true:=fun n=>aA1.2 rfl
 rw[e,e,e]
 have:andB true (andB true (andB true true))=true:=by simp[andB]
 rw[this]
 exact h):p:=h
theorem MW(h:p:=by
 have hne1:vs.length≠1:=fun h1=>KA
 cases vs with
 |nil=>rfl
 |cons v rr=>
  cases rr with
  |nil=>exact absurd rfl hne1
  |cons u rr=>rfl):p:=h
theorem MX(h:p:=by
 repeat' ((conv=>whnf);first|(exfalso;omega)|refine zS ?_|refine zl (fun hlt=>?_) (fun hlt=>?_))
 conv=>whnf
 refine aG ?_
 rw[<-hk,hks]):p:=h
theorem MZ(h:p:=by
 repeat' ((conv=>whnf);first|(exfalso;contradiction)|refine zc h1 ?_|refine zS ?_|refine zT ?_ ?_<;>intro _|fail)
 all_goals exact zE):p:=h
theorem Na(h:p:=by
 split at h
 ·exact⟨_,h⟩
 ·exact⟨_,h⟩
 ·exact⟨_,h⟩
 ·split at h
  ·exact⟨_,(dX h).2⟩
  ·exact h.elim
 ·exact h.elim):p:=h
theorem Nb(h:p:=by
 rcases h with⟨h,_⟩|⟨b,cap,cur,h,_⟩
 ·exact aP2 h
 ·rw[h];rfl):p:=h
theorem Nc(h:p:=by
 rcases h.bK8 with h|⟨ad,c,sz,cc,h1,h2,h3,h4,h5,h6,h7⟩
 ·exact .inl h
 ·exact .inr ⟨ad,c,sz,h1,h2,h3,h5,⟨cc,h6,h7⟩⟩):p:=h
theorem Nh(h:p:=by
 obtain⟨e,w',fr,⟨v',rfl,v1,ms1,G',⟨rfl,rfl⟩,inv',hv,hvo⟩,_⟩:=hcalls []
 exact⟨_,_,_,Inv.put' _ inv' hd hv hvo⟩):p:=h
theorem Nj(h:p:=by
 repeat' ((conv=>whnf);first|refine zS ?_|fail)
 all_goals exact zE):p:=h
theorem Nk(h:p:=by
 cases i with
 |zero=>simp at h1 h2;subst h1;subst h2;left;rw[h3];exact h4
 |succ i=>right;exact⟨i,x',y',h1,h2,h3,h4⟩):p:=h
theorem Nl(h:p:=by
 repeat' ((conv=>whnf);first|refine zS ?_|refine zm (fun x hx=>?_)|refine zT ?_ ?_<;>intro _|fail)
 all_goals exact zE):p:=h
theorem Np(h:p:=by
 rw[List.flatMap_cons,List.length_append,List.length_cons]
 omega):p:=h
theorem Nq(h:p:=by
 unfold Oper.looksAt
 rw[List.mem_append]
 left
 rw[List.mem_filterMap]
 exact⟨.tmp t,Array.mem_toList_iff.2 hx,rfl⟩):p:=h
theorem Nr(h:p:=by
 repeat' ((conv=>whnf);first|(exfalso;omega)|refine zS ?_|refine zl (fun hlt=>?_) (fun hlt=>?_))
 all_goals exact zE):p:=h
theorem Ns(h:p:=by rw[List.getD_eq_getElem?_getD,List.getElem?_eq_getElem h];rfl):p:=h
theorem Nu(h:p:=by simp[execOp,ho,ex,ey,Instr.lookup,dI u1,MapKept.run_getObj_map q3,hc,MapKept.run_findKey u2 r1,Result.andThen]):p:=h
theorem Nv(h:p:=by rcases h.vP with⟨h,_⟩|⟨ad,sz,cc,h,_⟩<;>(rw[h];rfl)):p:=h
theorem Nw(h:p:=by
 refine⟨v,ms,G',hk,?_⟩
 exact Inv.put' ms inv' hd hv hvo):p:=h
theorem Ny(h:p:=by
 obtain⟨rfl,_⟩:=h
 simp only[V.ok]at hx⊢
 rw[lQ,aH]
 exact fun y hy=>aH.1 hx y (List.mem_of_mem_drop hy)):p:=h
theorem Nz(h:p:=by
 have hex:∃j,zW xs ys j k:=⟨j,hp⟩
 have:pos k=hex.choose:=CX
 rw[this]
 exact aK3 EG hex.choose_spec hp):p:=h
theorem N7(h:p:=by
 cases x with
 |sl l=>exact h l
 |cap l=>exact h l
 |lit u=>exact Iy
 |arr k g=>exact JS
 |_=>exact Det.false):p:=h
theorem N8(h:p:=by
 have:=q1 0 v r rfl rfl
 unfold Rr
 split
 ·exact absurd rfl (g3 _)
 ·exact absurd rfl (g3 _)
 ·exact this):p:=h
theorem N9(h:p:=by
 repeat' ((conv=>whnf);first|refine zS ?_|fail)
 all_goals conv=>whnf
 all_goals exact aA (sK Iff.rfl)):p:=h
theorem NC(h:p:=by
 simp only[ByteArray.size_append,mkB_size,List.size_toArray,List.length_cons,List.length_nil]
 omega):p:=h
theorem ND(h:p:=by
 by_cases hb:G.O b= .ar k
 ·exact .inr (.inr (.inr ⟨hO2 b hb,hb⟩))
 ·exact .inl (hO1 b hb)):p:=h
theorem NE(h:p:=by
 rw[List.getElem?_map]at hx
 cases hy:xs[j]? with
 |none=>rw[hy]at hx;cases hx
 |some y=>exact Ik):p:=h
theorem NF(h:p:=by
 rw[List.getElem?_map]at hx
 cases hy:xs[j]? with
 |none=>rw[hy]at hx;cases hx
 |some y=>exact Ip):p:=h
theorem NG(h:p:=by
 obtain⟨v',ms',⟨rfl,rfl⟩,q2,q3⟩:=yX (aN7 hh rfl) h
 exact fun m hm=> .inl (q2 m hm)):p:=h
theorem NH(h:p:=by
 obtain⟨cs,rfl,_⟩:=h
 rw[hu]
 exact⟨fun _=>⟨cs,rfl⟩,fun h=>by simp[aggB]at h⟩):p:=h
theorem NI(h:p:=by
 rw[hg]at hk
 simp only[Option.some.injEq,Obj.cells.injEq]at hk
 exact ht hk.2.1.symm):p:=h
theorem NJ(h:p:=by
 rw[hk]at h2
 cases dd<;>simp[kdOf]at h2
 rw[(h5 _ _ rfl).1,(h5 _ _ rfl).2];exact h1):p:=h
theorem NK(h:p:=by
 have:b=true:=by
  have h':some true=some b:=h
  simpa using h'.symm
 subst this
 simp):p:=h
theorem NM(h:p:=by
 show(match G.O b with| .ar j=>if j=k then Tag.fz else .ar j|t=>t)=_
 rw[hb];simp):p:=h
theorem NP(h:p:=by
 cases hq:ar k with
 |none=>rw[hq]at h';exact h'.elim
 |some en=>exact⟨en,rfl⟩):p:=h
theorem NQ(h:p:=by
 have:Gi.O b= .fz\/Gi.O b= .ext:=JR
 rcases this with h|h<;>(rw[h]at hb;cases hb)):p:=h
theorem NR(h:p:=by
 cases kd with
 |int k=>cases k<;>first|rfl|(simp[isU8]at c4)
 |_=>simp[isU8]at c4):p:=h
theorem NS(h:p:=by
 split
 ·exact Det.bJ fun l=>Det.cond (Det.ret _ _) Det.false
 ·exact Det.false):p:=h
theorem NT(h:p:=by
 refine aA (fE ?_)
 rw[ek,List.take_length,hab,List.take_length]at ht
 exact ht):p:=h
theorem NU(h:p:=by
 subst ho
 cases p with
 |none=>exact(h:False).elim
 |some x=>exact⟨x,rfl⟩):p:=h
theorem NV(h:p:=by exact .plain inv (run _ _ _ hb) hk hnv (by simp only[V.ok];exact hsub _ _)):p:=h
theorem NW(h:p:=by exact jU (fun h=>h1 (e.1 h)) (fun h=>h2 (fun q=>by rw[e.2 q]at h;cases h))):p:=h
theorem NY(h:p:=by
 refine aA (fE (hP.2 fun d h=>?_))
 rw[hp,List.append_nil]at h
 exact hD d h):p:=h
theorem NZ(h:p:=by
 have hp:=(Array.mem_toList_iff.1 hp)
 simp[Op.operands]
 exact⟨p.1,hp⟩):p:=h
theorem Oa(h:p:=by
 refine AllReady.cons rfl (fun K hK=>?_) ?_
 ·exact KG
 exact AllReady.nil):p:=h
theorem Ob(h:p:=by
 refine⟨(E++[y],S),?_,⟨AO,fun z hz=>?_⟩,Ae⟩
 ·exact Hl
 ·exact JB):p:=h
theorem Oc(h:p:=by
 refine⟨(E++[k],S),?_,⟨AO,fun z hz=>?_⟩,Ae⟩
 ·exact Hl
 ·exact Jz):p:=h
theorem Oe(h:p:=by
 refine⟨(D++[d],R),?_,⟨Af,fun z hz=>?_⟩,Ae⟩
 ·exact Hl
 ·exact Jt):p:=h
theorem Og(h:p:=by
 cases x with
 |tmp t=>exact Jh
 |const v=>rfl
 |global g=>rfl
 |func f=>rfl):p:=h
theorem Oh(h:p:=by
 rcases List.mem_cons.1 hr with rfl|hr
 ·exact h.1
 ·exact h.2.2 r hr):p:=h
theorem Oi(h:p:=by
 have h2:upd σ.bx d (some cs) i=some xs:=hi
 rwa [upd_ne _ _ e]at h2):p:=h
theorem Oj(h:p:=by
 rcases List.mem_cons.1 hp with rfl|hp
 ·exact h1
 ·exact ih h2 p hp):p:=h
theorem Ol(h:p:=by
 obtain⟨ns,⟨_,h4⟩,q2⟩:=bE6 h4
 rw[<-h4]
 exact hfin _ _ q1 q2):p:=h
theorem Om(h:p:=by
 simp only[hsn,List.length_append,List.length_singleton]
 exact zj):p:=h
theorem Oo(h:p:=by exact V.ok.imp (fun _ h=>h) (fun _ _ h=>h.elim) _ (bC3 hui h')):p:=h
theorem Oq(h:p:=by
 refine⟨(D++[h],R),?_,⟨Af,?_⟩,Ae⟩
 ·exact Hl
 ·exact Kv):p:=h
theorem Ot(h:p:=by
 obtain⟨v',ms',⟨rfl,rfl⟩,q⟩:=bY1 T σ d _ _ h1
 exact q):p:=h
theorem Ou(h:p:=by
 split
 ·exact fun K hk=>⟨_,_,hk.out,hn⟩
 ·exact Mo.false):p:=h
theorem Ov(h:p:=by
 unfold bs
 rw[List.takeWhile_cons_of_pos D8,List.length_cons]):p:=h
theorem Ox(h:p:=by exact⟨v,ns++ms,G',hk1 _ _ hk,Inv.put' _ inv' hd hv hvo⟩):p:=h
theorem Oy(h:p:=by
 rcases hmo m hm with h|⟨i',hi',h⟩
 ·exact J7
 ·exact Kz):p:=h
theorem Oz(h:p:=by
 cases s1;cases s2
 simp only at h1 h2 h3
 subst h1 h2 h3
 rfl):p:=h
theorem O0(h:p:=by
 split
 ·exact Det.map fun v=>Det.ret _ _
 ·exact Det.false):p:=h
theorem O1(h:p:=by
 obtain⟨D,R,e⟩:=List.append_of_mem hx
 exact⟨D,R,e⟩):p:=h
theorem O3(h:p:=by
 cases D with
 |nil=>exact absurd hp Be
 |cons d D=>exact Jf):p:=h
theorem O4(h:p:=by
 obtain⟨en2,q1,q2⟩:=hgen k en h1
 exact⟨en2,q1,Aa⟩):p:=h
theorem O5(h:p:=by
 obtain⟨j,hj⟩:=List.getElem?_of_mem hy
 exact dF hp hj):p:=h
theorem O6(h:p:=by
 conv=>whnf
 refine aG ?_
 unfold fstI
 rw[if_neg (iO.2 Dn)]):p:=h
theorem O7(h:p:=by
 rw[force_eq]at h'
 obtain⟨rfl,_⟩:=h'
 exact aC5 hg hc):p:=h
theorem O8(h:p:=by exact Classical.byContradiction fun hn=>h ⟨v,hv,hn⟩):p:=h
theorem O9(h:p:=by
 rw[hx]at this
 simp only[V.ok]at this
 exact⟨g,this⟩):p:=h
theorem OA(h:p:=by exact⟨_,_,G,hk,Inv.put' [] inv hd (B_ok _ _ _) dL⟩):p:=h
theorem OB(h:p:=by
 rw[ch_child h c1 hn c2,List.length_cons]at this
 omega):p:=h
theorem OC(h:p:=by
 obtain⟨b,s,br,p⟩:=x
 cases b
 ·exact zF
 ·exact zF):p:=h
theorem OD(h:p:=by
 rw[har2,hen]
 split
 ·exact⟨_,rfl,rfl⟩
 ·exact Kt):p:=h
theorem OE(h:p:=by
 simp[IntKind.wrap,IntKind.signed,IntKind.bits]
 omega):p:=h
end Go.Ab
