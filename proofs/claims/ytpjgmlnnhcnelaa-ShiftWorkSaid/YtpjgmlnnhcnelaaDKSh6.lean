import Derived.Test.YtpjgmlnnhcnelaaDKSh5
/-
  The reference's Whole, and how the answers stand to each other.
-/
namespace Go.Proofs.Ytpjgmlnnhcnelaa.Sh
open Go.RowKit Go.Proofs.Ytpjgmlnnhcnelaa.QA Go.Proofs.YtpjgmlnnhcnelaaW.PrintWords Go.Proofs.YtpjgmlnnhcnelaaW.PrintLast Go.Proofs.YtpjgmlnnhcnelaaW.PrintMore Go.Proofs.Ytpjgmlnnhcnelaa.EvKit
set_option linter.unusedVariables false
set_option linter.unusedSimpArgs false
structure SpanOK (Z : List R) (m r : Int) : Prop where
  lt : m < r
  le : r ≤ 14400000
  all : ∀ i, m ≤ i → i < r → opn Z i
  no : ¬ opn Z r
theorem next_ans {Z : List R} (hZ : Srt Z) {a : Int} (ha : 0 ≤ a) : ansR (nextR (cutL a Z)) (nextG a Z) := by
  obtain ⟨t, e, hte⟩ : ∃ t e, nextR (cutL a Z) = (t, e) := ⟨_, _, rfl⟩
  rw [hte]
  rcases next_is hZ t e hte with ⟨rfl, k2, k3, k4⟩ | ⟨rfl, rfl, k3⟩
  · rcases nextG_is hZ ha with ⟨_, w2⟩ | ⟨w1, w2, w3⟩
    · exact (w2 t k2 k3).elim
    · have : t = nextG a Z := by
        by_cases c1 : t < nextG a Z
        · exact (w3 t k2 c1 k3).elim
        · by_cases c2 : nextG a Z < t
          · exact (k4 _ w1 c2 w2).elim
          · omega
      rw [← this]
      exact .inr ⟨rfl, by omega⟩
  · rcases nextG_is hZ ha with ⟨w1, w2⟩ | ⟨w1, w2, w3⟩
    · exact .inl ⟨rfl, w1⟩
    · exact (k3 _ w1 w2).elim
end Go.Proofs.Ytpjgmlnnhcnelaa.Sh
