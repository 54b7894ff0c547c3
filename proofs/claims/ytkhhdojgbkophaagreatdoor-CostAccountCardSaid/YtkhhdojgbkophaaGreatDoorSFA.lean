/-
  The given statement CostAccount, with the library's variables as the program's text lays them, proved for all arguments:
-/
import Derived.Test.YtkhhdojgbkophaaGreatDoorSE7
import Derived.Test.YtkhhdojgbkophaaGreatDoorSJA
import Derived.Test.YtkhhdojgbkophaaGreatDoorK18
set_option linter.unusedVariables false
set_option linter.unusedSimpArgs false
namespace Go.Proofs.YtkhhdojgbkophaaGreatDoor
open Go.ChangeShapes Go.WideShapes Go.ChangeAt Go.RowKit Go.Ab Go.Proofs.Led Go.Proofs.Cost58
namespace Law3
theorem lay_of{W:World}(h:laidMetH Tryz.prog Rows.costAccountRow.laid W):T.lay W (fun b=>b<W.heap.size):=by
 rw[MakeChecks.laidMetH_plain _ _ _ Ac]at h;obtain⟨ps,⟨g0,t0,cs0,f0,p0,q0,hg0,ht0,hv0,hd0,⟨g1,t1,cs1,f1,p1,q1,hg1,ht1,hv1,hd1,⟨g2,t2,cs2,f2,p2,q2,hg2,ht2,hv2,hd2,_⟩,_⟩,_⟩,_,_⟩:=h;obtain⟨t,z,hh⟩:=var_heap hg2 hv2;have e2:g2=0:=Option.some.inj (hg2.symm.trans Ac);subst e2;have et:t2=244:=Option.some.inj (ht2.symm.trans Ac)
 subst et;have hc:=Lib.cells_of_tab (k:= .u64) (zs:=Lib.pow10Tab) Tryz.underlying244 Tryz.underlying131 Ac Ac (hd2.trans (congrArg some (congrArg (·,p2) Ac)))
 have hlt:0<W.heap.size:=by
  rcases Nat.lt_or_ge 0 W.heap.size with h|h
  ·exact h
  ·rw[Array.getElem?_eq_none h]at hh;cases hh
 refine⟨hlt,t,z,?_⟩;rw[hh,<-hc]
theorem ag9:aggB (Tryz.prog.underlying 9)=false:=Ac
theorem ce9:Tryz.prog.cellsOf 9=1:=Ac
theorem ag23:aggB (Tryz.prog.underlying 23)=true:=Ac
theorem ag29:aggB (Tryz.prog.underlying 29)=true:=Ac
abbrev aC8:List V->Prop:=fun ys=>∃xs0 r0,ys=aI0 (aggB (Tryz.prog.underlying 23)) xs0::r0/\Q23 xs0/\∃xs1 r1,r0=aI0 (aggB (Tryz.prog.underlying 29)) xs1::r1/\Q29 xs1/\∃xs2 r2,r1=aI0 (aggB (Tryz.prog.underlying 9)) xs2::r2/\Q9 xs2/\r2=[]
theorem bF9(W:World):wE Tryz.prog T W (bQ W) aC8 [23,29,9] :=(oV (d23 W) (fun h=>by rw[ag23]at h;cases h) (oV (d29 W) (fun h=>by rw[ag29]at h;cases h) (oV (d9 W) (fun _=>ce9) vW)))
theorem bJ3(ys:List V)(h:aC8 ys):Go.Ab.Spec T Tryz.prog 3 ys (.lit (.bool true)):=by
 obtain⟨xs0,r0,rfl,h0,⟨xs1,r1,rfl,h1,⟨xs2,r2,rfl,h2,rfl⟩⟩⟩:=h;rw[ag23,ag29,ag9];obtain⟨r,hr⟩:=rt_of h0;obtain⟨s,hs,hz,hn⟩:=state_of h1;obtain⟨o,rfl,_⟩:=h2;show Go.Ab.Spec T Tryz.prog 3 [.agg xs0, .agg xs1,S o] _;rw[hr,hs];exact lawAccount_spec r s o hz (fun p hp=>Nat.le_trans (hn p hp) Aj)
theorem door_met(os:Os)(args:Array Value):laidMetH Tryz.prog Rows.costAccountRow.laid ((World.doorLaid Tryz.prog 24 os).forCall (fun _ _=>0) ⟨#[],args,[]⟩).memory:=
 laidMetH_of_parts3 (fuel:=8) (laidMet_of_run' 8 Ac Ac) Ac Ac
set_option maxRecDepth 100000 in
theorem lifted(os:Os)(started:os.Started)(H:Type)(enc:TypeId×Value->H):
 ReturnsInHanded {} Tryz.checked os 3 .any (fun w args=>(Rows.costAccountSpec.pre enc Tryz.prog Tryz.f3 [] false w args/\laidMetH Tryz.prog Rows.costAccountRow.laid w)/\sizedMet enc Tryz.prog Tryz.f3 (OpenSpec.ofChange Rows.costAccountSpec) false w args)
  (Rows.costAccountSpec.post enc Tryz.prog Tryz.f3 false true false false):=by
 refine returnsInHanded_of_change_and (C:=Tryz.checked) (X:=fun w _=>laidMetH Tryz.prog Rows.costAccountRow.laid w) (fun _ _ _ hh h=>h.of_heap hh) own started Ac Tryz.func3
  (ChangeSpec.witness_shaped (enc:=enc) (C:=Tryz.checked) (os:=os) (X:=fun w _=>laidMetH Tryz.prog Rows.costAccountRow.laid w) false (World.doorLaid Tryz.prog 24 os) #[.agg #[.int .i64 0, .int .i64 0, .int .i64 0, .int .i64 0, .int .i64 0, .int .i64 0, .int .i64 0], .agg #[.slice none 0 0, .slice none 0 0, .slice none 0 0, .int .i64 0, .int .i64 0, .int .i64 0, .int .i64 0], .string ⟨#[]⟩] 8 rfl (World.shaped_of_RefB Ac Ac) Ac Ac Ac (door_met os _)) ?_
 intro W base args ds gs before hval hW _ hsz hL _
 exact tJ (T:=T) (tb:=4) laidOut rfl (fun H ds hd=>by
  match ds,hd with
  | [d1,d2,d3],_=>rfl) Ac Ac (fun t ht=>by
  rw[Tryz.params3]at ht;simp at ht;rcases ht with rfl|rfl|rfl<;>exact⟨Ac,of_decide_eq_true Ac⟩) (fun W=>by rw[Tryz.params3];exact bF9 W) bJ3 W base args ds gs before hval hW hsz (lay_of hL)
theorem over:Rows.CostAccountSaid:=
 OpenClaim.holds_of_wide 3 Tryz.f3 rfl rfl rfl rfl rfl rfl rfl ⟨rfl,rfl,rfl,rfl,rfl⟩ rfl rfl rfl rfl rfl Ac Tryz.func3 closed
  (of_decide_eq_true Ac) (by unfold Func.isWrapper;first|(rw[if_pos (by decide+kernel)];kernel_rfl)|(rw[if_neg (by decide+kernel)];exact⟨rfl,rfl⟩))
  (fun os started H enc _=>lifted os started H enc)
end Law3
theorem costAccount_proved:Rows.CostAccountCardSaid:=
 Claim7.holds_tied_plain_at .later [] [.data, .data, .data] true Rows.costAccountCard.stood.harness false
  Law3.over (fun _ h=>Ad) Ac (fun _ h=>Ad) costAccount_row_tie rfl ⟨rfl,rfl⟩ Ac rfl
  (fun f fn hf hfn=>by
   obtain rfl:f=3:=Option.some.inj ((show Tryz.prog.funcNamed Rows.costAccountRow.func=some 3 from Ac).symm.trans hf)|>.symm
   obtain rfl:fn=Tryz.f3:=(Option.some.inj (Tryz.func3.symm.trans hfn)).symm
   exact⟨Ac,fun j t ht=>by
    rw[Tryz.params3]at ht;have hm:t∈[23,29,9] :=by simpa using Array.mem_of_getElem? ht
    have hall:([23,29,9].all fun u=> !Tryz.prog.wantsStandIn u)=true:=Ac;exact(show Tryz.prog.wantsStandIn t=false by simpa using List.all_eq_true.1 hall t hm)⟩)
  Ac
#print axioms costAccount_proved
end Go.Proofs.YtkhhdojgbkophaaGreatDoor
