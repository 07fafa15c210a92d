import Derived.Test.YtmmdikhmlmoolaaZBx0
import Derived.Test.YtmmdikhmlmoolaaZQAx6
import Derived.Test.YtmmdikhmlmoolaaZQAx16
import Derived.Test.YtmmdikhmlmoolaaZQAx0
import Derived.Test.YtmmdikhmlmoolaaZQAx15
import Derived.Test.YtmmdikhmlmoolaaZQAx18
namespace Go.Proofs.Ytmmdikhmlmoolaa.Bx
open Go.RowKit Go.Proofs.Ytmmdikhmlmoolaa.QA Go.Proofs.YtmmdikhmlmoolaaW.PrintWords Go.Proofs.YtmmdikhmlmoolaaW.PrintLast Go.Proofs.YtmmdikhmlmoolaaW.PrintMore Go.Proofs.Ytmmdikhmlmoolaa.EvKit
set_option linter.unusedVariables false
set_option linter.unusedSimpArgs false
theorem at0 (x y z : Int) : r_At.f x y z 0 = some x := rfl
theorem at1 (x y z : Int) : r_At.f x y z 1 = some y := rfl
theorem at2 (x y z : Int) : r_At.f x y z 2 = some z := rfl
theorem l03 : ((0 : Int) < 3) = True := by simp
theorem l13 : ((1 : Int) < 3) = True := by simp
theorem l23 : ((2 : Int) < 3) = True := by simp
theorem l33 : ((3 : Int) < 3) = False := by simp
theorem rcheck_ev (x : S25) : Ev (fun k => r_Check.f k x.f0.f0 x.f0.f1 x.f0.f2 x.f1.f0 x.f1.f1 x.f1.f2) (chk x) := by
  refine ⟨12, fun k hk => ?_⟩
  obtain ⟨n, rfl⟩ : ∃ n, k = n + 12 := ⟨k - 12, by omega⟩
  obtain ⟨⟨x0, x1, x2⟩, ⟨x3, x4, x5⟩⟩ := x
  simp only [r_Check.f, r_Check.l0, r_Check.j1, r_Check.l1, Option.bind_some, w1, w2, w3, at0, at1, at2, l03, l13, l23, l33, if_true, if_false]
  unfold chk inR
  simp only [Bool.and_eq_true, decide_eq_true_eq]
  by_cases hr : (((((-1000000 ≤ x0 ∧ x0 ≤ 1000000) ∧ -1000000 ≤ x3 ∧ x3 ≤ 1000000) ∧ -1000000 ≤ x1 ∧ x1 ≤ 1000000) ∧ -1000000 ≤ x4 ∧ x4 ≤ 1000000) ∧ -1000000 ≤ x2 ∧ x2 ≤ 1000000) ∧ -1000000 ≤ x5 ∧ x5 ≤ 1000000
  · rw [if_pos hr, if_neg (by omega), if_neg (by omega), if_neg (by omega), if_neg (by omega), if_neg (by omega), if_neg (by omega), if_neg (by omega), if_neg (by omega), if_neg (by omega), if_neg (by omega), if_neg (by omega), if_neg (by omega)]
    by_cases hv : x0 < x3 ∧ x1 < x4 ∧ x2 < x5
    · rw [if_pos hv, if_neg (by omega), if_neg (by omega), if_neg (by omega)]
    · rw [if_neg hv]
      by_cases c0 : x0 ≥ x3
      · rw [if_pos c0]
      by_cases c1 : x1 ≥ x4
      · rw [if_neg c0, if_pos c1]
      · rw [if_neg c0, if_neg c1, if_pos (by omega)]
  · rw [if_neg hr]
    have st : ∀ (c : Prop) [Decidable c] (o : Option Int), (¬ c → o = some 6) → (if c then some 6 else o) = some 6 := fun c _ o h => by
      by_cases hc : c
      · rw [if_pos hc]
      · rw [if_neg hc, h hc]
    refine st _ _ fun h1 => st _ _ fun h2 => st _ _ fun h3 => st _ _ fun h4 => st _ _ fun h5 => st _ _ fun h6 => st _ _ fun h7 => st _ _ fun h8 => st _ _ fun h9 => st _ _ fun h10 => st _ _ fun h11 => st _ _ fun h12 => ?_
    exact absurd (show _ from ⟨⟨⟨⟨⟨⟨by omega, by omega⟩, by omega, by omega⟩, by omega, by omega⟩, by omega, by omega⟩, by omega, by omega⟩, by omega, by omega⟩) hr
theorem both_ev (x y : S25) : Ev (fun k => w_both.f k x.f0.f0 x.f0.f1 x.f0.f2 x.f1.f0 x.f1.f1 x.f1.f2 y.f0.f0 y.f0.f1 y.f0.f2 y.f1.f0 y.f1.f1 y.f1.f2) (two x y) := by
  unfold w_both.f two
  refine Ev.bind (rcheck_ev x) ?_
  by_cases h : chk x = 0
  · rw [if_pos h]
    exact Ev.pos h (Ev.bind (rcheck_ev y) (Ev.now _))
  · rw [if_neg h]
    exact Ev.neg h (Ev.now _)
theorem full_ev (a b c d e f : Int) : Ev (fun k => r_full.f k a b c d e f) (decide (a < d) && (decide (b < e) && decide (c < f))) := by
  refine ⟨2, fun k hk => ?_⟩
  obtain ⟨n, rfl⟩ : ∃ n, k = n + 2 := ⟨k - 2, by omega⟩
  simp only [r_full.f, r_full.j0]
  repeat' split
  all_goals simp [*]
end Go.Proofs.Ytmmdikhmlmoolaa.Bx
