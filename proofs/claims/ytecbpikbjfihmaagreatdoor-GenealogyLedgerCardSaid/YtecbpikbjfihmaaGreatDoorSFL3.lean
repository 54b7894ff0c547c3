/-
  The given statement GenealogyLedger, with the library's variables as the program's text lays them, proved for all argume
-/
import Derived.Test.YtecbpikbjfihmaaGreatDoorSJL3
import Derived.Test.YtecbpikbjfihmaaGreatDoorSKL3
import Derived.Test.YtecbpikbjfihmaaGreatDoorSML3
import Derived.Test.YtecbpikbjfihmaaGreatDoorSNL3
import Derived.Test.YtecbpikbjfihmaaGreatDoorB16
import Derived.Test.YtecbpikbjfihmaaGreatDoorSHA2
set_option linter.all false
set_option autoImplicit true
set_option relaxedAutoImplicit true
namespace Go.Proofs.YtecbpikbjfihmaaGreatDoor
open Go.ChangeShapes Go.WideShapes Go.ChangeAt Go.RowKit Go.Ab Go.Proofs.Led
namespace Law3
def lay_of{W:World}(h:laidMetH Tryz.prog Rows.genealogyLedgerRow.laid W):T.lay W (λb=>b<W.heap.size):=by
 rw[MakeChecks.laidMetH_plain _ _ _ Ac]at h;obtain⟨ps,⟨g0,t0,cs0,f0,p0,q0,hg0,ht0,hv0,hd0,⟨g1,t1,cs1,f1,p1,q1,hg1,ht1,hv1,hd1,⟨g2,t2,cs2,f2,p2,q2,hg2,ht2,hv2,hd2,_⟩,_⟩,_⟩,_,_⟩:=h;obtain⟨t,z,hh⟩:=var_heap hg2 hv2;have e2:g2=0:=Option.some.inj (hg2.symm.trans Ac);subst e2;have et:t2=265:=Option.some.inj (ht2.symm.trans Ac);subst et;have hc:=Lib.cells_of_tab (k:= .u64) (zs:=Lib.pow10Tab) Tryz.underlying265 Tryz.underlying237 Ac Ac (hd2.trans (congrArg some (congrArg (·,p2) Ac)))
 have hlt:0<W.heap.size:=by
  rcases Nat.lt_or_ge 0 W.heap.size with h|h;exact h;rw[Array.getElem?_eq_none h]at hh;cases hh
 refine⟨hlt,t,z,?_⟩;rw[hh,<-hc]
theorem ag22:aggB (Tryz.prog.underlying 22)=false:=Ac
def ce22:Tryz.prog.cellsOf 22=1:=Ac
abbrev aC8:List V->Prop:=λys=>∃xs0 r0,ys=aI0 (aggB (Tryz.prog.underlying 22)) xs0::r0/\Q22 xs0/\r0=[]
def bF9(W:World):wE Tryz.prog T W (bQ W) aC8 [22] :=(oV (d22 W) (λ_=>ce22) vW)
def bJ3(ys:List V)(h:aC8 ys):Go.Ab.Spec T Tryz.prog 3 ys (.lit (.bool true)):=by
 obtain⟨xs0,r0,rfl,h0,rfl⟩:=h;rw[ag22];obtain⟨l,rfl,hl,hq⟩:=h0;obtain⟨l',rfl,hb⟩:=cC1 hq;exact lawLedger_spec l' awake57_spec EX hb
set_option maxRecDepth 100000 in
def lifted(os:Os)(started:os.Started)(H:Type)(enc:TypeId×Value->H):
 ReturnsInHanded {} Tryz.checked os 3 .any (λw args=>(Rows.genealogyLedgerSpec.pre enc Tryz.prog Tryz.f3 [] false w args/\laidMetH Tryz.prog Rows.genealogyLedgerRow.laid w)/\sizedMet enc Tryz.prog Tryz.f3 (OpenSpec.ofChange Rows.genealogyLedgerSpec) false w args)
  (Rows.genealogyLedgerSpec.post enc Tryz.prog Tryz.f3 false true false false):=by
 refine returnsInHanded_of_change_and (C:=Tryz.checked) (X:=λw _=>laidMetH Tryz.prog Rows.genealogyLedgerRow.laid w) (λ_ _ _ hh h=>h.of_heap hh) own started BP Tryz.func3
  (ChangeSpec.witness_shaped (enc:=enc) (C:=Tryz.checked) (os:=os) (X:=λw _=>laidMetH Tryz.prog Rows.genealogyLedgerRow.laid w) false (World.doorLaid Tryz.prog 24 os) #[.slice none 0 0] 8 rfl (World.shaped_of_RefB (k_a os) (k_b os)) BP BP BP (door_met os _)) ?_
 intro W base args ds gs before hval hW _ hsz hL _
 exact tJ (T:=T) (tb:=4) laidOut rfl (λH ds hd=>by
  match ds,hd with
  | [d1],_=>rfl) BP BP (λt ht=>by
  rw[Tryz.params3]at ht;simp at ht;rcases ht with rfl<;>exact⟨BP,of_decide_eq_true BP⟩) (λW=>by rw[Tryz.params3];exact bF9 W) bJ3 W base args ds gs before hval hW (lay_of hL)
def over:Rows.GenealogyLedgerSaid:=
 OpenClaim.holds_of_wide 3 Tryz.f3 rfl rfl rfl rfl rfl rfl rfl ⟨rfl,rfl,rfl,rfl,rfl⟩ rfl rfl rfl rfl rfl k_fn Tryz.func3 closed
  (of_decide_eq_true Ac) (by unfold Func.isWrapper;first|(rw[if_pos (by decide+kernel)];kernel_rfl)|(rw[if_neg (by decide+kernel)];exact⟨rfl,rfl⟩))
  (λos started H enc _=>lifted os started H enc)
end Law3
theorem genealogyLedger_proved:Rows.GenealogyLedgerCardSaid:=
 Claim7.holds_tied_plain_at .later [] [.data, .data, .data] true Rows.genealogyLedgerCard.stood.harness false
  Law3.over (λ_ h=>Ah) Ac (λ_ h=>Ah) genealogyLedger_row_tie rfl ⟨rfl,rfl⟩ Ac rfl
  (λf fn hf hfn=>by
   obtain rfl:f=3:=Option.some.inj (Law3.k_fn.symm.trans hf)|>.symm;obtain rfl:fn=Tryz.f3:=(Option.some.inj (Tryz.func3.symm.trans hfn)).symm
   exact⟨Law3.k_looks,λj t ht=>by
    rw[Tryz.params3]at ht;have hm:t∈[22] :=by simpa using Array.mem_of_getElem? ht
    have hall:([22].all λu=> !Tryz.prog.wantsStandIn u)=true:=Ac;exact(show Tryz.prog.wantsStandIn t=false by simpa using List.all_eq_true.1 hall t hm)⟩)
  Law3.k_goes
#print axioms genealogyLedger_proved
end Go.Proofs.YtecbpikbjfihmaaGreatDoor
