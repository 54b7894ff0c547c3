/-
  The given statement GenealogyQueries, with the library's variables as the program's text lays them, proved for all argum
-/
import Derived.Test.YtdjgbagnajikeaaGreatDoorSEQ
import Derived.Test.YtdjgbagnajikeaaGreatDoorSJQ
import Derived.Test.YtdjgbagnajikeaaGreatDoorSKA
import Derived.Test.YtdjgbagnajikeaaGreatDoorSKB
import Derived.Test.YtdjgbagnajikeaaGreatDoorSKC
import Derived.Test.YtdjgbagnajikeaaGreatDoorSHA2
set_option linter.unusedVariables false
set_option linter.unusedSimpArgs false
namespace Go.Proofs.YtdjgbagnajikeaaGreatDoor
open Go.ChangeShapes Go.WideShapes Go.ChangeAt Go.RowKit Go.Ab Go.Proofs.Led
namespace Law8
theorem lay_of{W:World}(h:laidMetH Tryz.prog Rows.genealogyQueriesRow.laid W):T.lay W (fun b=>b<W.heap.size):=by
 rw[MakeChecks.laidMetH_plain _ _ _ Ac]at h;obtain⟨ps,⟨g0,t0,cs0,f0,p0,q0,hg0,ht0,hv0,hd0,⟨g1,t1,cs1,f1,p1,q1,hg1,ht1,hv1,hd1,⟨g2,t2,cs2,f2,p2,q2,hg2,ht2,hv2,hd2,_⟩,_⟩,_⟩,_,_⟩:=h;obtain⟨t,z,hh⟩:=var_heap hg2 hv2;have e2:g2=0:=Option.some.inj (hg2.symm.trans Ac);subst e2;have et:t2=286:=Option.some.inj (ht2.symm.trans Ac)
 subst et;have hc:=Lib.cells_of_tab (k:= .u64) (zs:=Lib.pow10Tab) Tryz.underlying286 Tryz.underlying191 Ac Ac (hd2.trans (congrArg some (congrArg (·,p2) Ac)))
 have hlt:0<W.heap.size:=by
  rcases Nat.lt_or_ge 0 W.heap.size with h|h
  ·exact h
  ·rw[Array.getElem?_eq_none h]at hh;cases hh
 refine⟨hlt,t,z,?_⟩;rw[hh,<-hc]
theorem ag3:aggB (Tryz.prog.underlying 3)=false:=Ac
theorem ce3:Tryz.prog.cellsOf 3=1:=Ac
theorem ag9:aggB (Tryz.prog.underlying 9)=false:=Ac
theorem ce9:Tryz.prog.cellsOf 9=1:=Ac
theorem ag31:aggB (Tryz.prog.underlying 31)=false:=Ac
theorem ce31:Tryz.prog.cellsOf 31=1:=Ac
abbrev aC8:List V->Prop:=fun ys=>∃xs0 r0,ys=aI0 (aggB (Tryz.prog.underlying 31)) xs0::r0/\Q31 xs0/\∃xs1 r1,r0=aI0 (aggB (Tryz.prog.underlying 3)) xs1::r1/\Q3 xs1/\∃xs2 r2,r1=aI0 (aggB (Tryz.prog.underlying 9)) xs2::r2/\Q9 xs2/\r2=[]
theorem bF9(W:World):wE Tryz.prog T W (bQ W) aC8 [31,3,9] :=(oV (d31 W) (fun _=>ce31) (oV (d3 W) (fun _=>ce3) (oV (d9 W) (fun _=>ce9) vW)))
theorem bJ3(ys:List V)(h:aC8 ys):Go.Ab.Spec T Tryz.prog 8 ys (.lit (.bool true)):=by
 obtain⟨xs0,r0,rfl,h0,⟨xs1,r1,rfl,h1,⟨xs2,r2,rfl,h2,rfl⟩⟩⟩:=h;rw[ag31,ag3,ag9];obtain⟨l,rfl,hl,hq⟩:=h0;obtain⟨k,rfl,rk⟩:=h1;obtain⟨o,rfl,_⟩:=h2;obtain⟨l',rfl,hr⟩:=uO node_of hq;show Go.Ab.Spec T Tryz.prog 8 [.sl (l'.map nodeV),I k,S o] _;exact lawGQ l' k o awake57_spec (by simpa using max6 hl) hr
set_option maxRecDepth 100000 in
theorem lifted(os:Os)(started:os.Started)(H:Type)(enc:TypeId×Value->H):
 ReturnsInHanded {} Tryz.checked os 8 .any (fun w args=>(Rows.genealogyQueriesSpec.pre enc Tryz.prog Tryz.f8 [] false w args/\laidMetH Tryz.prog Rows.genealogyQueriesRow.laid w)/\sizedMet enc Tryz.prog Tryz.f8 (OpenSpec.ofChange Rows.genealogyQueriesSpec) false w args)
  (Rows.genealogyQueriesSpec.post enc Tryz.prog Tryz.f8 false true false false):=by
 refine returnsInHanded_of_change_and (C:=Tryz.checked) (X:=fun w _=>laidMetH Tryz.prog Rows.genealogyQueriesRow.laid w) (fun _ _ _ hh h=>h.of_heap hh) own started (by as_aux_lemma=>kernel_rfl) Tryz.func8
  (ChangeSpec.witness_shaped (enc:=enc) (C:=Tryz.checked) (os:=os) (X:=fun w _=>laidMetH Tryz.prog Rows.genealogyQueriesRow.laid w) false (World.doorLaid Tryz.prog 24 os) #[.slice none 0 0, .int .i64 0, .string ⟨#[]⟩] 8 rfl (World.shaped_of_RefB (k_a os) (k_b os)) (by as_aux_lemma=>kernel_rfl) (by as_aux_lemma=>kernel_rfl) (by as_aux_lemma=>kernel_rfl) (door_met os _)) ?_
 intro W base args ds gs before hval hW _ hsz hL _
 exact tJ (T:=T) (tb:=4) laidOut rfl (fun H ds hd=>by
  match ds,hd with
  | [d1,d2,d3],_=>rfl) (by as_aux_lemma=>kernel_rfl) (by as_aux_lemma=>kernel_rfl) (fun t ht=>by
  rw[Tryz.params8]at ht;simp at ht;rcases ht with rfl|rfl|rfl<;>exact⟨(by as_aux_lemma=>kernel_rfl),of_decide_eq_true (by as_aux_lemma=>kernel_rfl)⟩) (fun W=>by rw[Tryz.params8];exact bF9 W) bJ3 W base args ds gs before hval hW (lay_of hL)
theorem over:Rows.GenealogyQueriesSaid:=
 OpenClaim.holds_of_wide 8 Tryz.f8 rfl rfl rfl rfl rfl rfl rfl ⟨rfl,rfl,rfl,rfl,rfl⟩ rfl rfl rfl rfl rfl k_fn Tryz.func8 closed
  (of_decide_eq_true Ac) (by unfold Func.isWrapper;first|(rw[if_pos (by decide+kernel)];kernel_rfl)|(rw[if_neg (by decide+kernel)];exact⟨rfl,rfl⟩))
  (fun os started H enc _=>lifted os started H enc)
end Law8
theorem genealogyQueries_proved:Rows.GenealogyQueriesCardSaid:=
 Claim7.holds_tied_plain_at .later [] [.data, .data, .data] true Rows.genealogyQueriesCard.stood.harness false
  Law8.over (fun _ h=>Ag) Ac (fun _ h=>Ag) genealogyQueries_row_tie rfl ⟨rfl,rfl⟩ Ac rfl
  (fun f fn hf hfn=>by
   obtain rfl:f=8:=Option.some.inj (Law8.k_fn.symm.trans hf)|>.symm
   obtain rfl:fn=Tryz.f8:=(Option.some.inj (Tryz.func8.symm.trans hfn)).symm
   exact⟨Law8.k_looks,fun j t ht=>by
    rw[Tryz.params8]at ht;have hm:t∈[31,3,9] :=by simpa using Array.mem_of_getElem? ht
    have hall:([31,3,9].all fun u=> !Tryz.prog.wantsStandIn u)=true:=Ac;exact(show Tryz.prog.wantsStandIn t=false by simpa using List.all_eq_true.1 hall t hm)⟩)
  Law8.k_goes
#print axioms genealogyQueries_proved
end Go.Proofs.YtdjgbagnajikeaaGreatDoor
