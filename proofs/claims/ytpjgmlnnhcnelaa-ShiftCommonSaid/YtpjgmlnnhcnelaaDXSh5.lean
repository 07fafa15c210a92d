import Derived.Test.YtpjgmlnnhcnelaaDXSh4
import Derived.Test.YtpjgmlnnhcnelaaDXQAx10
import Derived.Test.YtpjgmlnnhcnelaaDXQAx0
namespace Go.Proofs.Ytpjgmlnnhcnelaa.Sh
open Go.RowKit Go.Proofs.Ytpjgmlnnhcnelaa.QA Go.Proofs.YtpjgmlnnhcnelaaW.PrintWords Go.Proofs.YtpjgmlnnhcnelaaW.PrintLast Go.Proofs.YtpjgmlnnhcnelaaW.PrintMore Go.Proofs.Ytpjgmlnnhcnelaa.EvKit
set_option linter.unusedVariables false
set_option linter.unusedSimpArgs false
theorem free_l0 (sh : List S54) (fr : List Int) (hf : fr.length ≤ 64) (d : Int) : ∀ n j, fr.length = j + n → Ev (fun k => r_Calendar_free.l0 k d (j : Int) sh fr) (decide (d ∈ fr.drop j)) := by
  intro n
  induction n with
  | zero =>
    intro j h
    refine Ev.succ ?_
    simp only [r_Calendar_free.l0]
    refine Ev.neg (by omega) (Ev.eq (Ev.now _) ?_)
    rw [List.drop_of_length_le (show fr.length ≤ j by omega)]; simp
  | succ n ih =>
    intro j h
    refine Ev.succ ?_
    simp only [r_Calendar_free.l0]
    refine Ev.pos (by omega) (Ev.pos (by omega) ?_)
    rw [rdI fr j (by omega), List.drop_eq_getElem_cons (show j < fr.length by omega)]
    refine Ev.ite (fun hc => Ev.eq (Ev.now _) ?_) (fun hc => ?_)
    · simp [hc]
    · rw [show wrap64 ((j : Int) + 1) = ((j + 1 : Nat) : Int) from by rw [w64 (by omega) (by omega)]; omega]
      refine Ev.eq (ih (j + 1) (by omega)) ?_
      have : d ≠ fr[j] := fun e => hc e.symm
      rw [decide_eq_decide]
      exact ⟨fun h => List.mem_cons_of_mem _ h, fun h => (List.mem_cons.1 h).resolve_left this⟩
theorem free_ev {sh : List S54} {fr : List Int} (hV : Val sh fr) (d : Int) : Ev (fun k => r_Calendar_free.f k sh fr d) (decide (d ∈ fr)) := by
  unfold r_Calendar_free.f
  exact free_l0 sh fr hV.l2 d fr.length 0 (by omega)
theorem nxt1 {d : Int} (h0 : -10 ≤ d) (h1 : d ≤ 1000000) : wrap64 (d + 1) = d + 1 := w64 (by omega) (by omega)
theorem nxtN {j : Nat} (h1 : j ≤ 1000000) : wrap64 ((j : Int) + 1) = ((j + 1 : Nat) : Int) := by rw [w64 (by omega) (by omega)]; omega
end Go.Proofs.Ytpjgmlnnhcnelaa.Sh
