/-
  When two sides with a common corner lie one upon the other: by the scalar product, and by coordinates.
-/
import Derived.Test.YtcembjgpcbodcaaZEvKit
namespace Go.Proofs.Ytcembjgpcbodcaa.Fold
set_option linter.unusedVariables false
set_option linter.unusedSimpArgs false
def btw (x y : Int) : Prop := min 0 y ≤ x ∧ x ≤ max 0 y
theorem mul_of_btw {x y : Int} (h : btw x y) : 0 ≤ y * x ∧ (x ≠ 0 → 0 < y * x) := by
  unfold btw at h
  by_cases hy : 0 ≤ y
  · exact ⟨Int.mul_nonneg hy (by omega), fun hx => Int.mul_pos (by omega) (by omega)⟩
  · have h1 : 0 ≤ -y * -x := Int.mul_nonneg (by omega) (by omega)
    rw [Int.neg_mul_neg] at h1
    refine ⟨h1, fun hx => ?_⟩
    have h2 : 0 < -y * -x := Int.mul_pos (by omega) (by omega)
    rwa [Int.neg_mul_neg] at h2
theorem pos_of_btw {ux uy vx vy : Int} (hv : ¬ (vx = 0 ∧ vy = 0)) (h1 : btw vx ux) (h2 : btw vy uy) : ux * vx + uy * vy > 0 := by
  have a := mul_of_btw h1
  have b := mul_of_btw h2
  by_cases hx : vx = 0
  · have := b.2 (fun hy => hv ⟨hx, hy⟩)
    omega
  · have := a.2 hx
    omega
theorem btw_of {x y : Int} (hs : (x = 0 ∧ y = 0) ∨ (0 < x ∧ 0 < y) ∨ (x < 0 ∧ y < 0)) (h : x.natAbs ≤ y.natAbs) : btw x y := by
  unfold btw
  omega
theorem same_sign {ux uy vx vy : Int} (hu : ¬ (ux = 0 ∧ uy = 0)) (hv : ¬ (vx = 0 ∧ vy = 0)) (hc : ux * vy = uy * vx) (hd : ux * vx + uy * vy > 0) : (vx = 0 ∧ ux = 0) ∨ (0 < vx ∧ 0 < ux) ∨ (vx < 0 ∧ ux < 0) := by
  by_cases h1 : ux = 0
  · left
    refine ⟨?_, h1⟩
    rw [h1, Int.zero_mul] at hc
    rcases Int.mul_eq_zero.1 hc.symm with h | h
    · exact (hu ⟨h1, h⟩).elim
    · exact h
  by_cases h2 : vx = 0
  · rw [h2, Int.mul_zero] at hc
    rcases Int.mul_eq_zero.1 hc with h | h
    · exact (h1 h).elim
    · exact (hv ⟨h2, h⟩).elim
  have hsq : (ux * vx) * (uy * vy) = (ux * vy) * (ux * vy) := by
    have e1 : (ux * vx) * (uy * vy) = (ux * vy) * (uy * vx) := by ac_rfl
    rw [e1, ← hc]
  have hnn : 0 ≤ (ux * vx) * (uy * vy) := by
    rw [hsq]
    by_cases h : 0 ≤ ux * vy
    · exact Int.mul_nonneg h h
    · have := Int.mul_nonneg (show 0 ≤ -(ux * vy) by omega) (show 0 ≤ -(ux * vy) by omega)
      rwa [Int.neg_mul_neg] at this
  have hpos : 0 < ux * vx := by
    by_cases h : 0 < ux * vx
    · exact h
    · have hne : ux * vx ≠ 0 := fun e => by rcases Int.mul_eq_zero.1 e with h | h <;> contradiction
      have hneg : ux * vx < 0 := by omega
      have hp : 0 < uy * vy := by omega
      have := Int.mul_neg_of_neg_of_pos hneg hp
      omega
  by_cases h3 : 0 < ux
  · by_cases h4 : 0 < vx
    · exact .inr (.inl ⟨h4, h3⟩)
    · have := Int.mul_neg_of_pos_of_neg h3 (show vx < 0 by omega); omega
  · by_cases h4 : 0 < vx
    · have := Int.mul_neg_of_neg_of_pos (show ux < 0 by omega) h4; omega
    · exact .inr (.inr ⟨by omega, by omega⟩)
theorem natAbs_cmp {p q r s : Nat} (h : p * s = q * r) (hz : (p = 0 ↔ r = 0)) (hz2 : (q = 0 ↔ s = 0)) : (r ≤ p ∧ s ≤ q) ∨ (p ≤ r ∧ q ≤ s) := by
  by_cases hp : p = 0
  · have := hz.1 hp
    by_cases hsq : s ≤ q
    · exact .inl ⟨by omega, hsq⟩
    · exact .inr ⟨by omega, by omega⟩
  · by_cases h1 : r ≤ p
    · by_cases h2 : s ≤ q
      · exact .inl ⟨h1, h2⟩
      · exfalso
        have a : q * r ≤ q * p := Nat.mul_le_mul_left q h1
        have b : p * q < p * s := Nat.mul_lt_mul_of_pos_left (by omega) (by omega)
        rw [Nat.mul_comm q p] at a
        omega
    · by_cases h2 : q ≤ s
      · exact .inr ⟨by omega, h2⟩
      · exfalso
        have a : p * s ≤ r * s := Nat.mul_le_mul_right s (by omega)
        have b : r * s < r * q := Nat.mul_lt_mul_of_pos_left (by omega) (by omega)
        rw [Nat.mul_comm q r] at h
        omega
theorem fold_iff {ux uy vx vy : Int} (hu : ¬ (ux = 0 ∧ uy = 0)) (hv : ¬ (vx = 0 ∧ vy = 0)) (hc : ux * vy = uy * vx) : ux * vx + uy * vy > 0 ↔ (btw vx ux ∧ btw vy uy) ∨ (btw ux vx ∧ btw uy vy) := by
  constructor
  · intro hd
    have s1 := same_sign hu hv hc hd
    have s2 := same_sign (ux := uy) (uy := ux) (vx := vy) (vy := vx) (fun h => hu ⟨h.2, h.1⟩) (fun h => hv ⟨h.2, h.1⟩) hc.symm (by omega)
    have hn : ux.natAbs * vy.natAbs = uy.natAbs * vx.natAbs := by rw [← Int.natAbs_mul, ← Int.natAbs_mul, hc]
    rcases natAbs_cmp hn (by omega) (by omega) with h | h
    · exact .inl ⟨btw_of (by omega) h.1, btw_of (by omega) h.2⟩
    · exact .inr ⟨btw_of (by omega) h.1, btw_of (by omega) h.2⟩
  · rintro (⟨h1, h2⟩ | ⟨h1, h2⟩)
    · exact pos_of_btw hv h1 h2
    · have := pos_of_btw hu h1 h2
      rw [Int.mul_comm vx ux, Int.mul_comm vy uy] at this
      exact this
end Go.Proofs.Ytcembjgpcbodcaa.Fold
