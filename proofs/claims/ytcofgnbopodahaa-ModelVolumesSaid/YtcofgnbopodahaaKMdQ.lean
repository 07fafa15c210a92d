import Derived.Test.YtcofgnbopodahaaKMdA
import Derived.Test.YtcofgnbopodahaaKQAx7
namespace Go.Proofs.Ytcofgnbopodahaa.Mp
open Go.RowKit Go.Proofs.Ytcofgnbopodahaa.QA Go.Proofs.YtcofgnbopodahaaW.PrintWords Go.Proofs.YtcofgnbopodahaaW.PrintLast Go.Proofs.YtcofgnbopodahaaW.PrintMore Go.Proofs.Ytcofgnbopodahaa.EvKit
set_option linter.unusedVariables false
set_option linter.unusedSimpArgs false
def okN (a : Int) : Bool := decide (0 ≤ a) && decide (a ≤ 3)
theorem okN_iff {a : Int} : okN a = true ↔ a = 0 ∨ a = 1 ∨ a = 2 ∨ a = 3 := by simp [okN]; omega
theorem state_eq (a : Int) : model_state.f a = some (okN a) := by
  unfold model_state.f okN
  by_cases h : a ≥ 0
  · rw [if_pos h, decide_eq_true (show 0 ≤ a from h), Bool.true_and]
  · rw [if_neg h, decide_eq_false (show ¬ 0 ≤ a from h), Bool.false_and]
end Go.Proofs.Ytcofgnbopodahaa.Mp
