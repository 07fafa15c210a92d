import Derived.Test.YtpjgmlnnhcnelaaDMSh3
import Derived.Test.YtpjgmlnnhcnelaaDMQAx2
import Derived.Test.YtpjgmlnnhcnelaaDMQAx13
/-
  Short facts for the laws.
-/
namespace Go.Proofs.Ytpjgmlnnhcnelaa.Sh
open Go.RowKit Go.Proofs.Ytpjgmlnnhcnelaa.QA Go.Proofs.YtpjgmlnnhcnelaaW.PrintWords Go.Proofs.YtpjgmlnnhcnelaaW.PrintLast Go.Proofs.YtpjgmlnnhcnelaaW.PrintMore Go.Proofs.Ytpjgmlnnhcnelaa.EvKit
set_option linter.unusedVariables false
set_option linter.unusedSimpArgs false
def fewB (sh : List S54) (fr : List Int) : Bool := decide ((sh.length : Int) ≤ 70) && decide ((fr.length : Int) ≤ 70)
theorem few_is (sh : List S54) (fr : List Int) : gangsawlaw12_few.f sh fr = some (fewB sh fr) := by
  unfold gangsawlaw12_few.f fewB
  by_cases h : (sh.length : Int) ≤ 70
  · rw [if_pos h, decide_eq_true h, Bool.true_and]
  · rw [if_neg h, decide_eq_false h, Bool.false_and]
theorem awake_some : Ev (fun k => (gangsawlaw12_awake.f k).bind fun t => some t) true := Ev.bind awake_ev (Ev.now _)
theorem opn_in {sh : List S54} {fr : List Int} (hV : Val sh fr) {m : Int} (h : opn (Z0 sh fr) m) : 0 ≤ m ∧ m < 14400000 := by
  obtain ⟨x, hx, h1, h2⟩ := h
  have := (Z0_srt hV).v x hx
  omega
end Go.Proofs.Ytpjgmlnnhcnelaa.Sh
