-- Written by a program of this session (xprint.py, asm.py).
import Derived.Test.YtnlnojolodnheaaP0
import Derived.Test.YtnlnojolodnheaaP1
import Derived.Test.YtnlnojolodnheaaP3
import Derived.Test.YtnlnojolodnheaaP8
import Derived.Test.YtnlnojolodnheaaP9
import Derived.Test.YtnlnojolodnheaaX
import Derived.Test.YtnlnojolodnheaaF
import Derived.Test.YtnlnojolodnheaaD
import Derived.Test.YtnlnojolodnheaaI
namespace Go.Proofs.Ytnlnojolodnheaa.P
open Go.Proofs.YtnlnojolodnheaaX Go.Proofs.YtnlnojolodnheaaF Go.RowKit Go.Proofs.YtnlnojolodnheaaW.PrintWords Go.Proofs.YtnlnojolodnheaaW.PrintLast Go.Proofs.YtnlnojolodnheaaW.PrintMore
attribute [local go_sem] max2_int min2_int max_two min_two max_three min_three max_four min_four   -- for this text's walks alone

set_option linter.unusedVariables false
set_option linter.unusedSimpArgs false

/-! ### tenterhooklaw16_awake: function 8 -/
def tenterhooklaw16_awake.f (k : Nat)  : Option (Bool) := (queue_Put.f k 0 ([] : List (S60)) 3 1).bind fun bt169 => ((queue_Put.f k bt169.1 bt169.2.1 5 2).bind fun bt175 => ((queue_Put.f k bt175.1 bt175.2.1 4 2).bind fun bt181 => (if bt169.2.2 = true then (if bt175.2.2 = true then (if bt181.2.2 = true then ((queue_Ids.f k bt181.1 bt181.2.1).bind fun t187 => ((tenterhookref04_Same.f k t187 (([5, 4, 3] : List Int))).bind fun t193 => (if t193 = true then ((queue_Sane.f k bt181.1 bt181.2.1).bind fun t194 => (some t194)) else (some false)))) else (some false)) else (some false)) else (some false))))
theorem tenterhooklaw16_awake.mono : ∀ k, LeO (tenterhooklaw16_awake.f k ) (tenterhooklaw16_awake.f (k + 1) ) := by
 intro  k
 unfold tenterhooklaw16_awake.f
 repeat' first
   | (with_reducible exact queue_Ids.mono _ _ _)
   | (with_reducible exact queue_Put.mono _ _ _ _ _)
   | (with_reducible exact queue_Sane.mono _ _ _)
   | (with_reducible exact tenterhookref04_Same.mono _ _ _)
   | (with_reducible exact LeO.refl _)
   | (with_reducible exact LeO.none _)
   | (with_reducible refine LeO.ite ?_ ?_)
   | (with_reducible refine LeO.bind ?_ (fun _ => ?_))
   | exact queue_Ids.mono _ _ _
   | exact queue_Put.mono _ _ _ _ _
   | exact queue_Sane.mono _ _ _
   | exact tenterhookref04_Same.mono _ _ _
   | exact LeO.none _
   | refine LeO.ite ?_ ?_
   | refine LeO.bind ?_ (fun _ => ?_)

end Go.Proofs.Ytnlnojolodnheaa.P
