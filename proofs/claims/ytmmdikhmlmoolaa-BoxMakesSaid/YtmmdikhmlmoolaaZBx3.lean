import Derived.Test.YtmmdikhmlmoolaaZBx0
import Derived.Test.YtmmdikhmlmoolaaZQAx3
import Derived.Test.YtmmdikhmlmoolaaZQAx10
namespace Go.Proofs.Ytmmdikhmlmoolaa.Bx
open Go.RowKit Go.Proofs.Ytmmdikhmlmoolaa.QA Go.Proofs.YtmmdikhmlmoolaaW.PrintWords Go.Proofs.YtmmdikhmlmoolaaW.PrintLast Go.Proofs.YtmmdikhmlmoolaaW.PrintMore Go.Proofs.Ytmmdikhmlmoolaa.EvKit
set_option linter.unusedVariables false
set_option linter.unusedSimpArgs false
structure V (x : S25) : Prop where
  r0 : -1000000 ≤ x.f0.f0 ∧ x.f0.f0 ≤ 1000000
  r1 : -1000000 ≤ x.f0.f1 ∧ x.f0.f1 ≤ 1000000
  r2 : -1000000 ≤ x.f0.f2 ∧ x.f0.f2 ≤ 1000000
  r3 : -1000000 ≤ x.f1.f0 ∧ x.f1.f0 ≤ 1000000
  r4 : -1000000 ≤ x.f1.f1 ∧ x.f1.f1 ≤ 1000000
  r5 : -1000000 ≤ x.f1.f2 ∧ x.f1.f2 ≤ 1000000
  l0 : x.f0.f0 < x.f1.f0
  l1 : x.f0.f1 < x.f1.f1
  l2 : x.f0.f2 < x.f1.f2
theorem inR_iff (n : Int) : inR n = true ↔ -1000000 ≤ n ∧ n ≤ 1000000 := by simp [inR]
theorem chk0 (x : S25) : chk x = 0 ↔ V x := by
  unfold chk
  simp only [Bool.and_eq_true, inR_iff]
  constructor
  · intro h
    by_cases hr : (((((-1000000 ≤ x.f0.f0 ∧ x.f0.f0 ≤ 1000000) ∧ -1000000 ≤ x.f1.f0 ∧ x.f1.f0 ≤ 1000000) ∧ -1000000 ≤ x.f0.f1 ∧ x.f0.f1 ≤ 1000000) ∧ -1000000 ≤ x.f1.f1 ∧ x.f1.f1 ≤ 1000000) ∧ -1000000 ≤ x.f0.f2 ∧ x.f0.f2 ≤ 1000000) ∧ -1000000 ≤ x.f1.f2 ∧ x.f1.f2 ≤ 1000000
    · rw [if_pos hr] at h
      by_cases hv : x.f0.f0 < x.f1.f0 ∧ x.f0.f1 < x.f1.f1 ∧ x.f0.f2 < x.f1.f2
      · exact ⟨by omega, by omega, by omega, by omega, by omega, by omega, hv.1, hv.2.1, hv.2.2⟩
      · rw [if_neg hv] at h; cases h
    · rw [if_neg hr] at h; cases h
  · rintro ⟨⟩
    rw [if_pos ⟨⟨⟨⟨⟨by assumption, by assumption⟩, by assumption⟩, by assumption⟩, by assumption⟩, by assumption⟩, if_pos ⟨by assumption, by assumption, by assumption⟩]
theorem mul_bd {a b m n : Int} (ha : 0 ≤ a) (hm : a ≤ m) (hb : 0 ≤ b) (hn : b ≤ n) : 0 ≤ a * b ∧ a * b ≤ m * n :=
  ⟨Int.mul_nonneg ha hb, Int.mul_le_mul hm hn hb (by omega)⟩
def volS (x : S25) : Int := (x.f1.f0 - x.f0.f0) * (x.f1.f1 - x.f0.f1) * (x.f1.f2 - x.f0.f2)
theorem volume_is (x : S25) (hv : V x) : box_volume.f x.f0.f0 x.f0.f1 x.f0.f2 x.f1.f0 x.f1.f1 x.f1.f2 = some (volS x) ∧ 0 < volS x ∧ volS x ≤ 8000000000000000000 := by
  obtain ⟨r0, r1, r2, r3, r4, r5, l0, l1, l2⟩ := hv
  have e0 : wrap64 (x.f1.f0 - x.f0.f0) = x.f1.f0 - x.f0.f0 := w64 (by omega) (by omega)
  have e1 : wrap64 (x.f1.f1 - x.f0.f1) = x.f1.f1 - x.f0.f1 := w64 (by omega) (by omega)
  have e2 : wrap64 (x.f1.f2 - x.f0.f2) = x.f1.f2 - x.f0.f2 := w64 (by omega) (by omega)
  have p1 := mul_bd (a := x.f1.f0 - x.f0.f0) (b := x.f1.f1 - x.f0.f1) (m := 2000000) (n := 2000000) (by omega) (by omega) (by omega) (by omega)
  have p2 := mul_bd (a := (x.f1.f0 - x.f0.f0) * (x.f1.f1 - x.f0.f1)) (b := x.f1.f2 - x.f0.f2) (m := 4000000000000) (n := 2000000) p1.1 (by omega) (by omega) (by omega)
  have p3 : 0 < volS x := Int.mul_pos (Int.mul_pos (by omega) (by omega)) (by omega)
  refine ⟨?_, p3, by unfold volS; omega⟩
  have q1 : wrap64 ((x.f1.f0 - x.f0.f0) * (x.f1.f1 - x.f0.f1)) = (x.f1.f0 - x.f0.f0) * (x.f1.f1 - x.f0.f1) := w64 (by omega) (by omega)
  have q2 : wrap64 ((x.f1.f0 - x.f0.f0) * (x.f1.f1 - x.f0.f1) * (x.f1.f2 - x.f0.f2)) = volS x := w64 (by omega) (by omega)
  simp only [box_volume.f, box_Size.f, Option.bind_some, e0, e1, e2, q1, q2]
theorem vol_is (x : S25) (hv : V x) : box_Volume.f x.f0.f0 x.f0.f1 x.f0.f2 x.f1.f0 x.f1.f1 x.f1.f2 = some (volS x, 0) := by
  simp only [box_Volume.f, check_is, (chk0 x).2 hv, Option.bind_some, (volume_is x hv).1, if_true]
theorem vol_chk (x : S25) (h : chk x ≠ 0) : box_Volume.f x.f0.f0 x.f0.f1 x.f0.f2 x.f1.f0 x.f1.f1 x.f1.f2 = some (0, chk x) := by
  simp only [box_Volume.f, check_is, Option.bind_some, if_neg h]
end Go.Proofs.Ytmmdikhmlmoolaa.Bx
