/-
  The given statement CostBooks, with the library's variables as the program's text lays them, proved for all arguments: t
-/
import Derived.Test.YtkhhdojgbkophaaGreatDoorBSE8
import Derived.Test.YtkhhdojgbkophaaGreatDoorBSJB
import Derived.Test.YtkhhdojgbkophaaGreatDoorBK17
set_option linter.unusedVariables false
set_option linter.unusedSimpArgs false
namespace Go.Proofs.YtkhhdojgbkophaaGreatDoor
open Go.ChangeShapes Go.WideShapes Go.ChangeAt Go.RowKit Go.Ab Go.Proofs.Led Go.Proofs.Cost58
namespace Law4
theorem lay_of{W:World}(h:laidMetH Tryz.prog Rows.costBooksRow.laid W):T.lay W (fun b=>b<W.heap.size):=by
 rw[MakeChecks.laidMetH_plain _ _ _ Ac]at h;obtain⟨ps,⟨g0,t0,cs0,f0,p0,q0,hg0,ht0,hv0,hd0,⟨g1,t1,cs1,f1,p1,q1,hg1,ht1,hv1,hd1,⟨g2,t2,cs2,f2,p2,q2,hg2,ht2,hv2,hd2,_⟩,_⟩,_⟩,_,_⟩:=h;obtain⟨t,z,hh⟩:=var_heap hg2 hv2;have e2:g2=0:=Option.some.inj (hg2.symm.trans Ac);subst e2;have et:t2=244:=Option.some.inj (ht2.symm.trans Ac)
 subst et;have hc:=Lib.cells_of_tab (k:= .u64) (zs:=Lib.pow10Tab) Tryz.underlying244 Tryz.underlying131 Ac Ac (hd2.trans (congrArg some (congrArg (·,p2) Ac)))
 have hlt:0<W.heap.size:=by
  rcases Nat.lt_or_ge 0 W.heap.size with h|h
  ·exact h
  ·rw[Array.getElem?_eq_none h]at hh;cases hh
 refine⟨hlt,t,z,?_⟩;rw[hh,<-hc]
theorem ag23:aggB (Tryz.prog.underlying 23)=true:=Ac
theorem ag52:aggB (Tryz.prog.underlying 52)=false:=Ac
theorem ce52:Tryz.prog.cellsOf 52=1:=Ac
abbrev aC8:List V->Prop:=fun ys=>∃xs0 r0,ys=aI0 (aggB (Tryz.prog.underlying 23)) xs0::r0/\Q23 xs0/\∃xs1 r1,r0=aI0 (aggB (Tryz.prog.underlying 52)) xs1::r1/\Q52 xs1/\r1=[]
theorem bF9(W:World):wE Tryz.prog T W (bQ W) aC8 [23,52] :=(oV (d23 W) (fun h=>by rw[ag23]at h;cases h) (oV (d52 W) (fun _=>ce52) vW))
theorem bJ3(ys:List V)(h:aC8 ys):Go.Ab.Spec T Tryz.prog 4 ys (.lit (.bool true)):=by
 obtain⟨xs0,r0,rfl,h0,⟨xs1,r1,rfl,h1,rfl⟩⟩:=h;rw[ag23,ag52];obtain⟨r,hr⟩:=rt_of h0;obtain⟨l,rfl,hl,hq⟩:=h1;obtain⟨l',rfl,hb⟩:=cC1 hq;show Go.Ab.Spec T Tryz.prog 4 [.agg xs0, .sl (l'.map aS)] _;rw[hr];exact lawBooks_spec r l' Ew hb
theorem door_met(os:Os)(args:Array Value):laidMetH Tryz.prog Rows.costBooksRow.laid ((World.doorLaid Tryz.prog 24 os).forCall (fun _ _=>0) ⟨#[],args,[]⟩).memory:=
 laidMetH_of_parts3 (fuel:=8) (laidMet_of_run' 8 Ac Ac) Ac Ac
set_option maxRecDepth 100000 in
theorem lifted(os:Os)(started:os.Started)(H:Type)(enc:TypeId×Value->H):
 ReturnsInHanded {} Tryz.checked os 4 .any (fun w args=>(Rows.costBooksSpec.pre enc Tryz.prog Tryz.f4 [] false w args/\laidMetH Tryz.prog Rows.costBooksRow.laid w)/\sizedMet enc Tryz.prog Tryz.f4 (OpenSpec.ofChange Rows.costBooksSpec) false w args)
  (Rows.costBooksSpec.post enc Tryz.prog Tryz.f4 false true false false):=by
 refine returnsInHanded_of_change_and (C:=Tryz.checked) (X:=fun w _=>laidMetH Tryz.prog Rows.costBooksRow.laid w) (fun _ _ _ hh h=>h.of_heap hh) own started Ac Tryz.func4
  (ChangeSpec.witness_shaped (enc:=enc) (C:=Tryz.checked) (os:=os) (X:=fun w _=>laidMetH Tryz.prog Rows.costBooksRow.laid w) false (World.doorLaid Tryz.prog 24 os) #[.agg #[.int .i64 0, .int .i64 0, .int .i64 0, .int .i64 0, .int .i64 0, .int .i64 0, .int .i64 0], .slice none 0 0] 8 rfl (World.shaped_of_RefB Ac Ac) Ac Ac Ac (door_met os _)) ?_
 intro W base args ds gs before hval hW _ hsz hL _
 exact tJ (T:=T) (tb:=4) laidOut rfl (fun H ds hd=>by
  match ds,hd with
  | [d1,d2],_=>rfl) Ac Ac (fun t ht=>by
  rw[Tryz.params4]at ht;simp at ht;rcases ht with rfl|rfl<;>exact⟨Ac,of_decide_eq_true Ac⟩) (fun W=>by rw[Tryz.params4];exact bF9 W) bJ3 W base args ds gs before hval hW hsz (lay_of hL)
theorem over:Rows.CostBooksSaid:=
 OpenClaim.holds_of_wide 4 Tryz.f4 rfl rfl rfl rfl rfl rfl rfl ⟨rfl,rfl,rfl,rfl,rfl⟩ rfl rfl rfl rfl rfl Ac Tryz.func4 closed
  (of_decide_eq_true Ac) (by unfold Func.isWrapper;first|(rw[if_pos (by decide+kernel)];kernel_rfl)|(rw[if_neg (by decide+kernel)];exact⟨rfl,rfl⟩))
  (fun os started H enc _=>lifted os started H enc)
end Law4
theorem costBooks_proved:Rows.CostBooksCardSaid:=
 Claim7.holds_tied_plain_at .later [] [.data, .data, .data] true Rows.costBooksCard.stood.harness false
  Law4.over (fun _ h=>Ad) Ac (fun _ h=>Ad) costBooks_row_tie rfl ⟨rfl,rfl⟩ Ac rfl
  (fun f fn hf hfn=>by
   obtain rfl:f=4:=Option.some.inj ((show Tryz.prog.funcNamed Rows.costBooksRow.func=some 4 from Ac).symm.trans hf)|>.symm
   obtain rfl:fn=Tryz.f4:=(Option.some.inj (Tryz.func4.symm.trans hfn)).symm
   exact⟨Ac,fun j t ht=>by
    rw[Tryz.params4]at ht;have hm:t∈[23,52] :=by simpa using Array.mem_of_getElem? ht
    have hall:([23,52].all fun u=> !Tryz.prog.wantsStandIn u)=true:=Ac;exact(show Tryz.prog.wantsStandIn t=false by simpa using List.all_eq_true.1 hall t hm)⟩)
  Ac
#print axioms costBooks_proved
end Go.Proofs.YtkhhdojgbkophaaGreatDoor
