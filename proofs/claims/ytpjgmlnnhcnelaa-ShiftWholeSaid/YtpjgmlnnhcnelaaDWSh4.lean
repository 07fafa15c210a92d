import Derived.Test.YtpjgmlnnhcnelaaDWSh3
import Derived.Test.YtpjgmlnnhcnelaaDWQAx2
import Derived.Test.YtpjgmlnnhcnelaaDWQAx0
/-
  Short facts for the laws.
-/
namespace Go.Proofs.Ytpjgmlnnhcnelaa.Sh
open Go.RowKit Go.Proofs.Ytpjgmlnnhcnelaa.QA Go.Proofs.YtpjgmlnnhcnelaaW.PrintWords Go.Proofs.YtpjgmlnnhcnelaaW.PrintLast Go.Proofs.YtpjgmlnnhcnelaaW.PrintMore Go.Proofs.Ytpjgmlnnhcnelaa.EvKit
set_option linter.unusedVariables false
set_option linter.unusedSimpArgs false
def fewB (sh : List S54) (fr : List Int) : Bool := decide ((sh.length : Int) ≤ 70) && decide ((fr.length : Int) ≤ 70)
theorem few_is (sh : List S54) (fr : List Int) : gangsawlaw12_few.f sh fr = some (fewB sh fr) := by
  unfold gangsawlaw12_few.f fewB
  by_cases h : (sh.length : Int) ≤ 70
  · rw [if_pos h, decide_eq_true h, Bool.true_and]
  · rw [if_neg h, decide_eq_false h, Bool.false_and]
theorem awake_some : Ev (fun k => (gangsawlaw12_awake.f k).bind fun t => some t) true := Ev.bind awake_ev (Ev.now _)
theorem workP_ok {sh : List S54} {fr : List Int} {a b : Int} (h : mn2 sh fr [a, b] = 0) (hab : a ≤ b) : workP sh fr a b = (cnt (Z0 sh fr) a b, 0) := by
  unfold workP; rw [if_pos h, if_neg (by omega)]
theorem openP_ok {sh : List S54} {fr : List Int} {m : Int} (h : mn2 sh fr [m] = 0) (ho : opn (Z0 sh fr) m) : openP sh fr m = (true, 0) := by
  obtain ⟨hV, _⟩ := mn2_one h
  unfold openP; rw [if_pos h, (open_is hV m).2 ho]
theorem openP_no {sh : List S54} {fr : List Int} {m : Int} (h : mn2 sh fr [m] = 0) (ho : ¬ opn (Z0 sh fr) m) : openP sh fr m = (false, 0) := by
  obtain ⟨hV, _⟩ := mn2_one h
  have : openR (ofL sh fr (m / 1440)) m = false := by
    cases hq : openR (ofL sh fr (m / 1440)) m with
    | false => rfl
    | true => exact (ho ((open_is hV m).1 hq)).elim
  unfold openP; rw [if_pos h, this]
theorem mn2_ck0 {sh : List S54} {fr l : List Int} (h : mn2 sh fr l = 0) : ck sh fr = 0 := by
  unfold mn2 at h
  split at h
  case isTrue hc => exact hc
  case isFalse hc => exact (hc h).elim
theorem opn_in {sh : List S54} {fr : List Int} (hV : Val sh fr) {m : Int} (h : opn (Z0 sh fr) m) : 0 ≤ m ∧ m < 14400000 := by
  obtain ⟨x, hx, h1, h2⟩ := h
  have := (Z0_srt hV).v x hx
  omega
end Go.Proofs.Ytpjgmlnnhcnelaa.Sh
