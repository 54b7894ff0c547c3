/- Lemmas. -/
import Derived.Test.YtcmgfjaiegpddaaGreatSER
import Derived.Test.YtcmgfjaiegpddaaGreatSJR
import Derived.Test.YtcmgfjaiegpddaaGreatB38
import Derived.HandedShaped
set_option linter.all false
namespace Go.Proofs.YtcmgfjaiegpddaaGreat
open Go.ChangeShapes Go.WideShapes Go.ChangeAt Go.RowKit Go.Ab Go.Proofs.Led
namespace Law4
theorem ag40:aggB (Tryz.prog.underlying 40)=false:=Ac
def ce40:Tryz.prog.cellsOf 40=1:=Ac
theorem ag58:aggB (Tryz.prog.underlying 58)=false:=Ac
def ce58:Tryz.prog.cellsOf 58=1:=Ac
abbrev aC8:List V->Prop:=λys=>∃xs0 r0,ys=aI0 (aggB (Tryz.prog.underlying 40)) xs0::r0/\Q40 xs0/\∃xs1 r1,r0=aI0 (aggB (Tryz.prog.underlying 58)) xs1::r1/\Q58 xs1/\r1=[]
def bF9(W:World):wE Tryz.prog T W (bQ W) aC8 [40,58] :=(oV (d40 W) (λ_=>ce40) (oV (d58 W) (λ_=>ce58) vW))
def bJ3(ys:List V)(h:aC8 ys):Go.Ab.Spec T Tryz.prog 4 ys (.lit (.bool true)):=by
 obtain⟨xs0,r0,rfl,h0,⟨xs1,r1,rfl,h1,rfl⟩⟩:=h;rw[ag40,ag58];obtain⟨l,rfl,hl,hq⟩:=h0;obtain⟨l',rfl,hb⟩:=uO ev_of hq;obtain⟨n,rfl,h1,h2⟩:=h1;obtain⟨k,rfl⟩:∃k:Nat,n=k:=⟨n.toNat,Aa⟩;exact lawReplay_spec l' k Aa (Nat.le_trans (lz6 hl) Ai) hb
set_option maxRecDepth 100000 in
def lifted(os:Os)(started:os.Started)(H:Type)(enc:TypeId×Value->H):
 ReturnsInHanded {} Tryz.checked os 4 .any (Rows.ledgerReplaySpec.pre6 enc Tryz.prog Tryz.f4 Rows.ledgerReplayRow.domain false) (Rows.ledgerReplaySpec.post enc Tryz.prog Tryz.f4 false true false false):=by
 refine returnsInHanded_of_change_shaped (C:=Tryz.checked) own started CY Tryz.func4
  (ChangeSpec.witness6 (enc:=enc) (C:=Tryz.checked) false ⟨#[], #[.slice none 0 0, .int .u16 0],[]⟩ 8 CY CY CY CY) ?_
 intro W base args ds gs before hval hW _ hsz _ _
 exact tJ (T:=T) (tb:=4) laidOut rfl (λH ds hd=>by
  match ds,hd with
  | [d1,d2],_=>rfl) Ac Ac (λt ht=>by
  rw[Tryz.params4]at ht;simp at ht;rcases ht with rfl|rfl<;>exact⟨Ac,of_decide_eq_true Ac⟩) (λW=>by rw[Tryz.params4];exact bF9 W) bJ3 W base args ds gs before hval hW hsz trivial
def over:Rows.ledgerReplayRow.holds Tryz.pinned (OpenSpec.ofChange Rows.ledgerReplaySpec):=
 OpenClaim.holds_of_wide 4 Tryz.f4 rfl rfl rfl rfl rfl rfl rfl ⟨rfl,rfl,rfl,rfl,rfl⟩ rfl rfl rfl rfl rfl Ac Tryz.func4 closed
  (of_decide_eq_true Ac) (by unfold Func.isWrapper;first|(rw[if_pos (by decide+kernel)];kernel_rfl)|(rw[if_neg (by decide+kernel)];exact⟨rfl,rfl⟩))
  (λos started H enc _=>lifted os started H enc)
end Law4
theorem ledgerReplay_proved:Rows.LedgerReplaySaid:=Law4.over
#print axioms ledgerReplay_proved
end Go.Proofs.YtcmgfjaiegpddaaGreat
