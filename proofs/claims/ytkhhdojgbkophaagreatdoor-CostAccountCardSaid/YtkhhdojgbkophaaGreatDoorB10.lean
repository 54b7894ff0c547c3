/-
  Shapes of any size: which are valid, and their areas; sizes of stocks.
-/
import Derived.Test.YtkhhdojgbkophaaGreatDoorB9
set_option linter.unusedVariables false
set_option linter.unusedSimpArgs false
set_option maxRecDepth 100000
set_option maxHeartbeats 4000000
noncomputable section
namespace Go.Proofs.Led
open Go Go.Proofs Go.Ab
abbrev Len7{α:Type}(l:List α):Prop:=l.length<=9223372036854775807
def shBg(s:Sh):Prop:=s.outer.length<=9223372036854775807/\s.holes.length<=9223372036854775807/\∀h∈s.holes,h.length<=9223372036854775807
theorem big_fits{s:Sh}(h:shBg s)(k:s.holes.length<=1000000):Fits s:=⟨h.1,k,h.2.2⟩
theorem many_no{s:Sh}(k:¬s.holes.length<=1000000):¬bG s:=fun q=>k (by have:=q.1;omega)
theorem shapeOkG_spec(s:Sh)(hs:shBg s):Sp 84 [shV s] (DB (bG s)):=by
 by_cases h:s.holes.length<=1000000
 ·exact wQ s (big_fits hs h)
 ·rw[dbF (many_no h)]
  refine zsp Tryz.func84 ?_;have hll:(s.holes.map rgV).length=s.holes.length:=Ae;have hl2:=hs.2.1
  exact KF
theorem r12validG_spec(s:Sh)(hs:shBg s):Sp 87 [shV s] (DB (bG s)):=by
 by_cases h:s.holes.length<=1000000
 ·exact fQ3 s (big_fits hs h)
 ·rw[dbF (many_no h)]
  refine zsp Tryz.func87 ?_;have hll:(s.holes.map rgV).length=s.holes.length:=Ae;have hl2:=hs.2.1
  exact KF
theorem ok_szd{s:Sh}(h:bG s):gV s:=by
 obtain⟨h1,h2,h3,h4⟩:=h;have h40:∀r∈rings s,r.length<=40:=fun r hr=>(h2 r hr).2.1;exact⟨DT,Aa,fun r hr=>Ed⟩
theorem area2G_spec(s:Sh)(hs:shBg s):Sp 52 [shV s] (I (uK s)):=by
 by_cases h:bG s
 ·exact cG8 s (ok_szd h)
 ·rw[eC2 h]
  have g:=shapeOkG_spec s hs;rw[dbF h]at g;refine zsp Tryz.func52 ?_;exact Kz
theorem r12area2G_spec(s:Sh)(hs:shBg s):Sp 53 [shV s] (I (uK s)):=by
 by_cases h:bG s
 ·exact fK5 s (ok_szd h)
 ·rw[eC2 h]
  have g:=r12validG_spec s hs;rw[dbF h]at g;refine zsp Tryz.func53 ?_;exact Kz
def sizeA(x:aN):Int:=if x.isBar then x.bar.length else uK x.sheet.shape
theorem sizeG_spec(x:aN)(hx:shBg x.sheet.shape):Sp 22 [aQ x] (I (sizeA x)):=by
 refine zsp Tryz.func22 ?_;have h1:=area2G_spec x.sheet.shape hx;exact NQ
theorem rsizeG_spec(x:aN)(hx:shBg x.sheet.shape):Sp 23 [aQ x] (I (sizeA x)):=by
 refine zsp Tryz.func23 ?_;have h1:=r12area2G_spec x.sheet.shape hx;exact NQ
end Go.Proofs.Led
