/-
  Check of the program and of the reference say the same.
-/
import Derived.Test.YtkeomlmlimkebaaZRpG
namespace Go.Proofs.Ytkeomlmlimkebaa.Rq
open Go.RowKit Go.Proofs.Ytkeomlmlimkebaa.QA Go.Proofs.YtkeomlmlimkebaaW.PrintWords Go.Proofs.YtkeomlmlimkebaaW.PrintMore Go.Proofs.Ytkeomlmlimkebaa.EvKit Go.Proofs.Ytkeomlmlimkebaa.MapKit
set_option linter.unusedVariables false
set_option linter.unusedSimpArgs false
/-! ### Check -/
theorem check_same (F : List (List Int)) (p : Int) (U : List Int) (X : List Bool) (hrow : ∀ j, j < F.length → (F.getD j []).length < 1000000) : ∃ e, replace_Check.f F p U X = some e ∧ r_Check.f F p U X = some e := by
  unfold replace_Check.f r_Check.f
  by_cases h1 : F.length > 64 ∨ p > 64 ∨ p < 0
  · rw [if_pos h1, if_pos h1]; exact ⟨7, rfl, rfl⟩
  · rw [if_neg h1, if_neg h1]
    by_cases h2 : U.length ≠ F.length ∨ X.length ≠ F.length
    · rw [if_pos h2, if_pos h2]; exact ⟨1, rfl, rfl⟩
    · rw [if_neg h2, if_neg h2, if_pos hrow, if_pos hrow]
      by_cases h3 : anyU (badF p F U X) F.length 0 = true
      · rw [if_pos h3, if_pos h3]; exact ⟨1, rfl, rfl⟩
      · rw [if_neg h3, if_neg h3]
        have hlen : U.length = F.length := by
          by_cases h : U.length = F.length
          · exact h
          · exact (h2 (Or.inl h)).elim
        have hp : ∀ j, j < U.length → dupA U j = twA U j := by
          intro j hj
          have hb : badF p F U X j = false := by
            cases hq : badF p F U X j with
            | false => rfl
            | true => exact (h3 (any_at _ (by omega) hq)).elim
          unfold badF badR at hb
          simp only [Bool.or_eq_false_iff, Bool.and_eq_false_iff, Bool.not_eq_false', bne_eq_false_iff_eq, decide_eq_true_eq] at hb
          obtain ⟨⟨a1, a2⟩, _⟩ := hb
          unfold dupA twA
          congr 1
          rcases a2 with a2 | a2
          · rw [a2]; rfl
          · have h := ((incB_iff _ _).1 a1).2 _ a2
            rw [decide_eq_true h.1]
            exact bne_iff_ne.2 (by omega)
        have he : anyU (dupA U) U.length 0 = twB U := by
          unfold twB
          cases hq : anyU (twA U) U.length 0 with
          | true =>
            obtain ⟨j, _, h4, h5⟩ := (anyU_iff _ _ _).1 hq
            exact any_at _ (show j < U.length by omega) (by rw [hp j (by omega)]; exact h5)
          | false =>
            refine any_no _ fun j hj => ?_
            rw [hp j hj]
            cases hq2 : twA U j with
            | false => rfl
            | true => rw [any_at _ hj hq2] at hq; cases hq
        rw [he]
        by_cases h4 : twB U = true
        · rw [if_pos h4]; exact ⟨5, rfl, rfl⟩
        · rw [if_neg h4]; exact ⟨0, rfl, rfl⟩
section
variable {F : List (List Int)} {p : Int} {U : List Int} {X : List Bool}
theorem usr_of (hG : Good F p U X) {i : Nat} (hi : i < F.length) (h0 : 0 ≤ U.getD i 0) : Rp.usrF U (U.getD i 0) = some i := by
  have hn1 := hG.ok.n1
  have hm : U.getD i 0 ∈ U := by
    rw [List.getD_eq_getElem?_getD, List.getElem?_eq_getElem (show i < U.length by omega)]
    exact List.getElem_mem _
  unfold Rp.usrF
  rw [if_pos hm]
  have h1 := List.idxOf_lt_length_iff.2 hm
  have h2 : U.getD (U.idxOf (U.getD i 0)) 0 = U.getD i 0 := by
    rw [List.getD_eq_getElem?_getD, List.getElem?_eq_getElem h1]
    simp
  have hne : U.getD i 0 ≠ -1 := by omega
  congr 1
  have key : ∀ a b, a < b → b < U.length → U.getD a 0 = U.getD b 0 → U.getD b 0 ≠ -1 → False := by
    intro a b hab hb e hne
    have h := hG.dup b hb
    unfold dupA at h
    simp only [Bool.and_eq_false_iff, bne_eq_false_iff_eq, decide_eq_false_iff_not] at h
    rcases h with h | h
    · exact hne h
    · refine h ?_
      rw [← e, List.getD_eq_getElem?_getD, List.getElem?_eq_getElem (show a < U.length by omega)]
      exact List.mem_take_iff_getElem.2 ⟨a, by omega, rfl⟩
  rcases Nat.lt_trichotomy (U.idxOf (U.getD i 0)) i with h | h | h
  · exact (key _ _ h (by omega) h2 hne).elim
  · exact h
  · exact (key _ _ h h1 h2.symm (by rw [h2]; exact hne)).elim
end
end Go.Proofs.Ytkeomlmlimkebaa.Rq
