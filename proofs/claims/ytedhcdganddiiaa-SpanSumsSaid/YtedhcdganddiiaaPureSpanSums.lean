/-
  The pure statement of SpanSums: whatever list of intervals of 64-bit numbers, Sum is as the reference says (lists of more than 30 intervals are not examined).
-/
import Derived.Test.YtedhcdganddiiaaSumSpec
import Derived.Test.YtedhcdganddiiaaQAx7
namespace Go.Proofs.Ytedhcdganddiiaa.Pure
open Go.RowKit Go.Proofs.Ytedhcdganddiiaa.QA Go.Proofs.YtedhcdganddiiaaW.PrintWords Go.Proofs.YtedhcdganddiiaaW.PrintLast Go.Proofs.Ytedhcdganddiiaa.EvKit
set_option linter.unusedVariables false
set_option linter.unusedSimpArgs false

theorem SpanSums : gangsawlaw01_SpanSums.Pure := by
  intro l _
  refine Ev.rounds (r := true) ?_
  refine Ev.bind awake_is (Ev.pos rfl (Ev.ite (fun _ => Ev.now _) (fun h => ?_)))
  refine Ev.bind (Sum_is l (by omega)) (Ev.bind (rSum_is l (by omega)) (Ev.pos (by simp) (Ev.eq (Ev.now _) (by simp))))
end Go.Proofs.Ytedhcdganddiiaa.Pure
