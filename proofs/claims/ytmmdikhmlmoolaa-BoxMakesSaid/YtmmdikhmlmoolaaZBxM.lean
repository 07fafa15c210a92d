import Derived.Test.YtmmdikhmlmoolaaZBx3
import Derived.Test.YtmmdikhmlmoolaaZQAx12
namespace Go.Proofs.Ytmmdikhmlmoolaa.Bx
open Go.RowKit Go.Proofs.Ytmmdikhmlmoolaa.QA Go.Proofs.YtmmdikhmlmoolaaW.PrintWords Go.Proofs.YtmmdikhmlmoolaaW.PrintLast Go.Proofs.YtmmdikhmlmoolaaW.PrintMore Go.Proofs.Ytmmdikhmlmoolaa.EvKit
set_option linter.unusedVariables false
set_option linter.unusedSimpArgs false
def mvS (x : S25) (b0 b1 b2 : Int) : S25 := ⟨⟨x.f0.f0 + b0, x.f0.f1 + b1, x.f0.f2 + b2⟩, ⟨x.f1.f0 + b0, x.f1.f1 + b1, x.f1.f2 + b2⟩⟩
structure okM (x : S25) (b0 b1 b2 : Int) : Prop where
  h0 : -2000000 ≤ b0 ∧ b0 ≤ 2000000
  h1 : -2000000 ≤ b1 ∧ b1 ≤ 2000000
  h2 : -2000000 ≤ b2 ∧ b2 ≤ 2000000
  v : V (mvS x b0 b1 b2)
theorem move_good (x : S25) (b0 b1 b2 : Int) (hv : V x) (ho : okM x b0 b1 b2) : box_Move.f x.f0.f0 x.f0.f1 x.f0.f2 x.f1.f0 x.f1.f1 x.f1.f2 b0 b1 b2 = some (x.f0.f0 + b0, x.f0.f1 + b1, x.f0.f2 + b2, x.f1.f0 + b0, x.f1.f1 + b1, x.f1.f2 + b2, 0) := by
  have hc := (chk0 x).2 hv
  obtain ⟨m0, m1, m2, ⟨v0, v1, v2, v3, v4, v5, _, _, _⟩⟩ := ho
  simp only [mvS] at v0 v1 v2 v3 v4 v5
  have e0 : wrap64 (x.f0.f0 + b0) = x.f0.f0 + b0 := w64 (by omega) (by omega)
  have e1 : wrap64 (x.f0.f1 + b1) = x.f0.f1 + b1 := w64 (by omega) (by omega)
  have e2 : wrap64 (x.f0.f2 + b2) = x.f0.f2 + b2 := w64 (by omega) (by omega)
  have e3 : wrap64 (x.f1.f0 + b0) = x.f1.f0 + b0 := w64 (by omega) (by omega)
  have e4 : wrap64 (x.f1.f1 + b1) = x.f1.f1 + b1 := w64 (by omega) (by omega)
  have e5 : wrap64 (x.f1.f2 + b2) = x.f1.f2 + b2 := w64 (by omega) (by omega)
  simp only [box_Move.f, check_is, hc, Option.bind_some, box_sides.f, box_join.f, e0, e1, e2, e3, e4, e5, in_is, inR_iff, if_true]
  rw [if_neg (by omega), if_neg (by omega), if_pos v0, if_pos v3, if_neg (by omega), if_neg (by omega), if_pos v1, if_pos v4, if_neg (by omega), if_neg (by omega), if_pos v2, if_pos v5]
theorem move_bad (x : S25) (b0 b1 b2 : Int) (hv : V x) (ho : ¬ okM x b0 b1 b2) : box_Move.f x.f0.f0 x.f0.f1 x.f0.f2 x.f1.f0 x.f1.f1 x.f1.f2 b0 b1 b2 = some (0, 0, 0, 0, 0, 0, 6) := by
  have hc := (chk0 x).2 hv
  obtain ⟨r0, r1, r2, r3, r4, r5, _, _, _⟩ := hv
  simp only [box_Move.f, check_is, hc, Option.bind_some, box_sides.f, box_join.f, in_is, inR_iff, if_true]
  have st : ∀ (c : Prop) [Decidable c] (o : Option (Int × Int × Int × Int × Int × Int × Int)), (¬ c → o = some (0, 0, 0, 0, 0, 0, 6)) → (if c then some (0, 0, 0, 0, 0, 0, 6) else o) = some (0, 0, 0, 0, 0, 0, 6) := fun c _ o h => by
    by_cases hc : c
    · rw [if_pos hc]
    · rw [if_neg hc, h hc]
  have st2 : ∀ (c : Prop) [Decidable c] (o : Option (Int × Int × Int × Int × Int × Int × Int)), (c → o = some (0, 0, 0, 0, 0, 0, 6)) → (if c then o else some (0, 0, 0, 0, 0, 0, 6)) = some (0, 0, 0, 0, 0, 0, 6) := fun c _ o h => by
    by_cases hc : c
    · rw [if_pos hc, h hc]
    · rw [if_neg hc]
  refine st _ _ fun h1 => st _ _ fun h2 => st2 _ _ fun h3 => st2 _ _ fun h4 => st _ _ fun h5 => st _ _ fun h6 => st2 _ _ fun h7 => st2 _ _ fun h8 => st _ _ fun h9 => st _ _ fun h10 => st2 _ _ fun h11 => st2 _ _ fun h12 => ?_
  have e0 : wrap64 (x.f0.f0 + b0) = x.f0.f0 + b0 := w64 (by omega) (by omega)
  have e1 : wrap64 (x.f0.f1 + b1) = x.f0.f1 + b1 := w64 (by omega) (by omega)
  have e2 : wrap64 (x.f0.f2 + b2) = x.f0.f2 + b2 := w64 (by omega) (by omega)
  have e3 : wrap64 (x.f1.f0 + b0) = x.f1.f0 + b0 := w64 (by omega) (by omega)
  have e4 : wrap64 (x.f1.f1 + b1) = x.f1.f1 + b1 := w64 (by omega) (by omega)
  have e5 : wrap64 (x.f1.f2 + b2) = x.f1.f2 + b2 := w64 (by omega) (by omega)
  rw [e0] at h3; rw [e3] at h4; rw [e1] at h7; rw [e4] at h8; rw [e2] at h11; rw [e5] at h12
  exact absurd ⟨by omega, by omega, by omega, ⟨h3, h7, h11, h4, h8, h12, by simp only [mvS]; omega, by simp only [mvS]; omega, by simp only [mvS]; omega⟩⟩ ho
theorem move_chk (x : S25) (b0 b1 b2 : Int) (h : chk x ≠ 0) : box_Move.f x.f0.f0 x.f0.f1 x.f0.f2 x.f1.f0 x.f1.f1 x.f1.f2 b0 b1 b2 = some (0, 0, 0, 0, 0, 0, chk x) := by
  simp only [box_Move.f, check_is, Option.bind_some, if_neg h]
end Go.Proofs.Ytmmdikhmlmoolaa.Bx
