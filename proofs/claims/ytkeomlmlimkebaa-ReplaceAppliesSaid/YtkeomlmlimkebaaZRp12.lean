/-
  Apply of the program.
-/
import Derived.Test.YtkeomlmlimkebaaZRp9
import Derived.Test.YtkeomlmlimkebaaZQAx22
import Derived.Test.YtkeomlmlimkebaaZQAx9
namespace Go.Proofs.Ytkeomlmlimkebaa.Rq
open Go.RowKit Go.Proofs.Ytkeomlmlimkebaa.QA Go.Proofs.YtkeomlmlimkebaaW.PrintWords Go.Proofs.YtkeomlmlimkebaaW.PrintMore Go.Proofs.Ytkeomlmlimkebaa.EvKit Go.Proofs.Ytkeomlmlimkebaa.MapKit
set_option linter.unusedVariables false
set_option linter.unusedSimpArgs false
def finR (F : List (List Int)) (p : Int) (X : List Bool) : Sum Int (List Int) → List (List Int) × Int × List Int × List Bool × Int
  | .inl z => ([], 0, [], [], z)
  | .inr V => if twB V = true then ([], 0, [], [], 5) else (F, p, V, X, 0)
section
variable {F : List (List Int)} {p : Int} {U : List Int} {X : List Bool}
theorem dup_tw {V : List Int} (hlen : V.length = F.length) (h : ∀ j, j < F.length → badF p F V X j = false) : anyU (dupA V) V.length 0 = twB V := by
  have hp : ∀ j, j < V.length → dupA V j = twA V j := by
    intro j hj
    have hb := h j (by omega)
    unfold badF badR at hb
    simp only [Bool.or_eq_false_iff, Bool.and_eq_false_iff, Bool.not_eq_false', bne_eq_false_iff_eq, decide_eq_true_eq] at hb
    obtain ⟨⟨a1, a2⟩, _⟩ := hb
    unfold dupA twA
    congr 1
    rcases a2 with a2 | a2
    · rw [a2]; rfl
    · have h := ((incB_iff _ _).1 a1).2 _ a2
      rw [decide_eq_true h.1]
      exact bne_iff_ne.2 (by omega)
  unfold twB
  cases hq : anyU (twA V) V.length 0 with
  | true =>
    obtain ⟨j, _, h4, h5⟩ := (anyU_iff _ _ _).1 hq
    exact any_at _ (show j < V.length by omega) (by rw [hp j (by omega)]; exact h5)
  | false =>
    refine any_no _ fun j hj => ?_
    rw [hp j hj]
    cases hq2 : twA V j with
    | false => rfl
    | true => rw [any_at _ hj hq2] at hq; cases hq
theorem aplL_ok (hG : Good F p U X) : ∀ (L : List S52) (D V V' : List Int), V.length = U.length → (∀ j, j < F.length → badF p F V X j = false) → aplL F U X L D V = .inr V' → V'.length = U.length ∧ ∀ j, j < F.length → badF p F V' X j = false
  | [], D, V, V', hV, hb, h => by
    unfold aplL at h
    obtain rfl := Sum.inr.inj h
    exact ⟨hV, hb⟩
  | c :: L, D, V, V', hV, hb, h => by
    have hn1 := hG.ok.n1
    unfold aplL at h
    by_cases h1 : c.f0 < 0 ∨ c.f0 ≥ (F.length : Int)
    · rw [if_pos h1] at h; cases h
    · rw [if_neg h1] at h
      by_cases h2 : U.getD c.f0.toNat 0 ≠ c.f1 ∨ c.f0 ∈ D
      · rw [if_pos h2] at h; cases h
      · rw [if_neg h2] at h
        by_cases h3 : X.getD c.f0.toNat false = true
        · rw [if_pos h3] at h; cases h
        · rw [if_neg h3] at h
          by_cases h4 : ¬ c.f2 ∈ F.getD c.f0.toNat []
          · rw [if_pos h4] at h; cases h
          · rw [if_neg h4] at h
            have h4' : c.f2 ∈ F.getD c.f0.toNat [] := Decidable.not_not.1 h4
            refine aplL_ok hG L _ _ V' (by rw [List.length_set]; exact hV) (fun j hj => ?_) h
            have hbj := hb j hj
            unfold badF at hbj ⊢
            rw [Rp.getD_set _ _ _ _ (by omega)]
            by_cases e : c.f0.toNat = j
            · rw [if_pos e]
              subst e
              unfold badR at hbj ⊢
              simp only [Bool.or_eq_false_iff] at hbj ⊢
              have hx : X.getD c.f0.toNat false = false := by simpa using h3
              refine ⟨⟨hbj.1.1, by rw [decide_eq_true h4']; simp⟩, by rw [hx]; simp⟩
            · rw [if_neg e]; exact hbj
theorem prog_apply (hG : Good F p U X) (he : replace_Check.f F p U X = some 0) (L : List S52) (hl : L.length < 1000000) : replace_Apply.f F p U X L = some (finR F p X (aplL F U X L [] U)) := by
  have hn1 := hG.ok.n1
  have hn2 := hG.ok.n2
  have hn3 := hG.ok.n3
  have hp0 := hG.p0
  have hp64 := hG.ok.p64
  unfold replace_Apply.f
  rw [he]
  show (if (0 : Int) = 0 then (if L.length < 1000000 then aplR F p X (aplL F U X L [] U) else none) else some ([], 0, [], [], 0)) = _
  rw [if_pos rfl, if_pos hl]
  cases hA : aplL F U X L [] U with
  | inl z => rfl
  | inr V =>
    obtain ⟨h1, h2⟩ := aplL_ok hG L [] U V rfl (check_ok he).2.2.2.2.2.2.1 hA
    have hck : replace_Check.f F p V X = some (if twB V = true then 5 else 0) := by
      unfold replace_Check.f
      rw [if_neg (by omega), if_neg (by omega), if_pos (check_ok he).2.2.2.2.2.1, any_no _ h2, dup_tw (p := p) (X := X) (by omega) h2]
      show (if twB V = true then some 5 else some 0) = _
      split <;> rfl
    show (replace_Check.f F p V X).bind _ = _
    rw [hck]
    show (if (if twB V = true then (5 : Int) else 0) = 0 then some (F, p, V, X, 0) else some ([], 0, [], [], 5)) = some (if twB V = true then ([], 0, [], [], 5) else (F, p, V, X, 0))
    by_cases h3 : twB V = true
    · simp only [if_pos h3]; rfl
    · simp only [if_neg h3]; rfl
end
end Go.Proofs.Ytkeomlmlimkebaa.Rq
