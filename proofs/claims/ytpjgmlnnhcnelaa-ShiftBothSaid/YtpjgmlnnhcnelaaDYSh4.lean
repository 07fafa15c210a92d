import Derived.Test.YtpjgmlnnhcnelaaDYSh3
import Derived.Test.YtpjgmlnnhcnelaaDYQAx2
import Derived.Test.YtpjgmlnnhcnelaaDYQAx0
namespace Go.Proofs.Ytpjgmlnnhcnelaa.Sh
open Go.RowKit Go.Proofs.Ytpjgmlnnhcnelaa.QA Go.Proofs.YtpjgmlnnhcnelaaW.PrintWords Go.Proofs.YtpjgmlnnhcnelaaW.PrintLast Go.Proofs.YtpjgmlnnhcnelaaW.PrintMore Go.Proofs.Ytpjgmlnnhcnelaa.EvKit
set_option linter.unusedVariables false
set_option linter.unusedSimpArgs false
def fewB (sh : List S54) (fr : List Int) : Bool := decide ((sh.length : Int) ≤ 70) && decide ((fr.length : Int) ≤ 70)
theorem few_is (sh : List S54) (fr : List Int) : w_few.f sh fr = some (fewB sh fr) := by
  unfold w_few.f fewB
  by_cases h : (sh.length : Int) ≤ 70
  · rw [if_pos h, decide_eq_true h, Bool.true_and]
  · rw [if_neg h, decide_eq_false h, Bool.false_and]
theorem awake_some : Ev (fun k => (w_awake.f k).bind fun t => some t) true := Ev.bind awake_ev (Ev.now _)
end Go.Proofs.Ytpjgmlnnhcnelaa.Sh
