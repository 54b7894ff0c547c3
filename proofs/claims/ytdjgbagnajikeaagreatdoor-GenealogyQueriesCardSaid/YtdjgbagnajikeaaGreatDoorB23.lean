/-
  The law of the genealogy's queries, whole (but for awake).
-/
import Derived.Test.YtdjgbagnajikeaaGreatDoorSHQ4
set_option linter.unusedVariables false
set_option linter.unusedSimpArgs false
set_option maxRecDepth 100000
noncomputable section
namespace Go.Proofs.Led
open Go Go.Proofs Go.Ab
def RgN(x:Node):Prop:=(-9223372036854775808<=x.id/\x.id<=9223372036854775807)/\(-9223372036854775808<=x.parent/\x.parent<=9223372036854775807)/\(-9223372036854775808<=x.size/\x.size<=9223372036854775807)
theorem lawGQ(f:List Node)(n:Int)(s:ByteArray)(haw:Sp 10 [] (.lit (.bool true)))(hl:f.length<=9223372036854775807)(hr:∀x∈f,RgN x):Sp 8 [.sl (f.map nodeV),I n,S s] (.lit (.bool true)):=by
 by_cases hfew:fewF f 30/\s.size<=40
 ·obtain⟨hf,hs⟩:=hfew
  have hl30:f.length<=30:=by have:=hf.2;omega
  have hz:SzN f:=fun x hx=>(hr x hx).2.2.2;by_cases h:RightF f
  ·cases hn:getN f n with
   |none=>exact lawGQ_M f n s haw hl30 hz hf hs h hn
   |some x=>
    refine lawGQ_Y f n s x haw hl30 hz (fun y hy=>⟨WalkArith.wf_i64 (hr y hy).1,WalkArith.wf_i64 (hr y hy).2.1⟩) (fun y hy=>?_) hf hs h hn;obtain⟨⟨a1,a2⟩,_,a3,a4⟩:=hr y hy;obtain⟨b1,b2,b3⟩:=hf.1 y hy;exact⟨a1,a2,a3,a4,Aa,Aa,Aa⟩
  ·exact lawGQ_N f n s haw hl30 hz hf hs h
 ·exact lawGQ_few f n s haw hl hfew
end Go.Proofs.Led
