import Derived.Test.YtpjgmlnnhcnelaaDKSh3
import Derived.Test.YtpjgmlnnhcnelaaDKQAx2
import Derived.Test.YtpjgmlnnhcnelaaDKQAx0
import Derived.Test.YtpjgmlnnhcnelaaDKQAx10
/-
  Short facts for the laws.
-/
namespace Go.Proofs.Ytpjgmlnnhcnelaa.Sh
open Go.RowKit Go.Proofs.Ytpjgmlnnhcnelaa.QA Go.Proofs.YtpjgmlnnhcnelaaW.PrintWords Go.Proofs.YtpjgmlnnhcnelaaW.PrintLast Go.Proofs.YtpjgmlnnhcnelaaW.PrintMore Go.Proofs.Ytpjgmlnnhcnelaa.EvKit
set_option linter.unusedVariables false
set_option linter.unusedSimpArgs false
def fewB (sh : List S54) (fr : List Int) : Bool := decide ((sh.length : Int) ≤ 70) && decide ((fr.length : Int) ≤ 70)
theorem few_is (sh : List S54) (fr : List Int) : gangsawlaw12_few.f sh fr = some (fewB sh fr) := by
  unfold gangsawlaw12_few.f fewB
  by_cases h : (sh.length : Int) ≤ 70
  · rw [if_pos h, decide_eq_true h, Bool.true_and]
  · rw [if_neg h, decide_eq_false h, Bool.false_and]
theorem awake_some : Ev (fun k => (gangsawlaw12_awake.f k).bind fun t => some t) true := Ev.bind awake_ev (Ev.now _)
theorem workP_ok {sh : List S54} {fr : List Int} {a b : Int} (h : mn2 sh fr [a, b] = 0) (hab : a ≤ b) : workP sh fr a b = (cnt (Z0 sh fr) a b, 0) := by
  unfold workP; rw [if_pos h, if_neg (by omega)]
theorem workP_bad {sh : List S54} {fr : List Int} {a b : Int} (h : mn2 sh fr [a, b] ≠ 0) : workP sh fr a b = (0, mn2 sh fr [a, b]) := by
  unfold workP; rw [if_neg h]
theorem workP_off {sh : List S54} {fr : List Int} {a b : Int} (h : mn2 sh fr [a, b] = 0) (hab : ¬ a ≤ b) : workP sh fr a b = (0, 6) := by
  unfold workP; rw [if_pos h, if_pos (by omega)]
end Go.Proofs.Ytpjgmlnnhcnelaa.Sh
