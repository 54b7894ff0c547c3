/- Lemmas. -/
import Derived.Test.YtcmgfjaiegpddaaGreatSEC
import Derived.Test.YtcmgfjaiegpddaaGreatSJC
import Derived.Test.YtcmgfjaiegpddaaGreatB39
import Derived.HandedShaped
set_option linter.all false
namespace Go.Proofs.YtcmgfjaiegpddaaGreat
open Go.ChangeShapes Go.WideShapes Go.ChangeAt Go.RowKit Go.Ab Go.Proofs.Led
namespace Law3
theorem ag36:aggB (Tryz.prog.underlying 36)=true:=Ac
theorem ag37:aggB (Tryz.prog.underlying 37)=false:=Ac
def ce37:Tryz.prog.cellsOf 37=1:=Ac
abbrev aC8:List V->Prop:=λys=>∃xs0 r0,ys=aI0 (aggB (Tryz.prog.underlying 36)) xs0::r0/\Q36 xs0/\∃xs1 r1,r0=aI0 (aggB (Tryz.prog.underlying 37)) xs1::r1/\Q37 xs1/\r1=[]
def bF9(W:World):wE Tryz.prog T W (bQ W) aC8 [36,37] :=(oV (d36 W) (λh=>by rw[ag36]at h;cases h) (oV (d37 W) (λ_=>ce37) vW))
def bJ3(ys:List V)(h:aC8 ys):Go.Ab.Spec T Tryz.prog 3 ys (.lit (.bool true)):=by
 obtain⟨xs0,r0,rfl,h0,⟨xs1,r1,rfl,h1,rfl⟩⟩:=h;rw[ag36,ag37];obtain⟨x,hx,hi⟩:=ev_of _ h0;obtain⟨l,rfl,hl,hq⟩:=h1;obtain⟨l',rfl,hz⟩:=cF8 (f:=byV) (P:=isB) (Q:=Q5) (λxs h=>by obtain⟨n,rfl,h1,h2⟩:=h;exact⟨n,rfl,h1,by show n<256;omega⟩) hq;show Go.Ab.Spec T Tryz.prog 3 [.agg xs0, .sl (l'.map byV)] _;rw[hx];exact lawCode_spec x l' hi hz (Nat.le_trans (lz6 hl) Ai)
set_option maxRecDepth 100000 in
def lifted(os:Os)(started:os.Started)(H:Type)(enc:TypeId×Value->H):
 ReturnsInHanded {} Tryz.checked os 3 .any (Rows.ledgerCodeSpec.pre6 enc Tryz.prog Tryz.f3 Rows.ledgerCodeRow.domain false) (Rows.ledgerCodeSpec.post enc Tryz.prog Tryz.f3 false true false false):=by
 refine returnsInHanded_of_change_shaped (C:=Tryz.checked) own started DJ Tryz.func3
  (ChangeSpec.witness6 (enc:=enc) (C:=Tryz.checked) false ⟨#[], #[.agg #[.int .i64 0, .int .i64 0, .string ⟨#[]⟩, .int .i64 0, .string ⟨#[]⟩, .string ⟨#[]⟩, .int .i64 0, .slice none 0 0, .slice none 0 0, .slice none 0 0, .int .i64 0, .string ⟨#[]⟩, .string ⟨#[]⟩, .int .i64 0, .slice none 0 0, .slice none 0 0, .slice none 0 0, .int .i64 0], .slice none 0 0],[]⟩ 8 DJ DJ DJ DJ) ?_
 intro W base args ds gs before hval hW _ hsz _ _
 exact tJ (T:=T) (tb:=4) laidOut rfl (λH ds hd=>by
  match ds,hd with
  | [d1,d2],_=>rfl) Ac Ac (λt ht=>by
  rw[Tryz.params3]at ht;simp at ht;rcases ht with rfl|rfl<;>exact⟨Ac,of_decide_eq_true Ac⟩) (λW=>by rw[Tryz.params3];exact bF9 W) bJ3 W base args ds gs before hval hW hsz trivial
def over:Rows.ledgerCodeRow.holds Tryz.pinned (OpenSpec.ofChange Rows.ledgerCodeSpec):=
 OpenClaim.holds_of_wide 3 Tryz.f3 rfl rfl rfl rfl rfl rfl rfl ⟨rfl,rfl,rfl,rfl,rfl⟩ rfl rfl rfl rfl rfl Ac Tryz.func3 closed
  (of_decide_eq_true Ac) (by unfold Func.isWrapper;first|(rw[if_pos (by decide+kernel)];kernel_rfl)|(rw[if_neg (by decide+kernel)];exact⟨rfl,rfl⟩))
  (λos started H enc _=>lifted os started H enc)
end Law3
theorem ledgerCode_proved:Rows.LedgerCodeSaid:=Law3.over
#print axioms ledgerCode_proved
end Go.Proofs.YtcmgfjaiegpddaaGreat
