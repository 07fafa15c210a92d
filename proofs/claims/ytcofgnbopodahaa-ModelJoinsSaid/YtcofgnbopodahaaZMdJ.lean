/-
  Chapter 15: the law ModelJoins.
-/
import Derived.Test.YtcofgnbopodahaaZMdW
import Derived.Test.YtcofgnbopodahaaZMdQ
import Derived.Test.YtcofgnbopodahaaZQAx6
import Derived.Test.YtcofgnbopodahaaZQAx7
import Derived.Test.YtcofgnbopodahaaZQAx10
import Derived.Test.YtcofgnbopodahaaZQAx16
namespace Go.Proofs.Ytcofgnbopodahaa.Mp
open Go.RowKit Go.Proofs.Ytcofgnbopodahaa.QA Go.Proofs.YtcofgnbopodahaaW.PrintWords Go.Proofs.YtcofgnbopodahaaW.PrintLast Go.Proofs.YtcofgnbopodahaaW.PrintMore Go.Proofs.Ytcofgnbopodahaa.EvKit
set_option linter.unusedVariables false
set_option linter.unusedSimpArgs false
def jP (a b : Int) : Int × Int := if okN a = true ∧ okN b = true then (Md.jn a b, 0) else (0, 1)
theorem Join_eq (n : Nat) (a b : Int) : model_Join.f (n + 1) a b = some (jP a b) := by
  unfold model_Join.f jP
  rw [state_eq a, state_eq b, join_eq]
  cases okN a <;> cases okN b <;> rfl
theorem Joins_core (n : Nat) (a b c : Int) : w_ModelJoins.f (n + 9) a b c = some true := by
  unfold w_ModelJoins.f
  rw [show w_awake.f = some true from rfl, Option.bind_some, if_pos rfl, Join_eq (n + 8), Join_eq (n + 8), Option.bind_some, Option.bind_some]
  have no : ¬ (okN a = true ∧ okN b = true) → w_ModelJoins.j0 (n + 9) a b c (jP a b).1 (jP a b).2 (jP b a).1 (jP b a).2 false = some true := by
    intro hv
    have h1 : jP a b = (0, 1) := if_neg hv
    have h2 : jP b a = (0, 1) := if_neg fun h => hv ⟨h.2, h.1⟩
    rw [h1, h2]; rfl
  by_cases a1 : a ≥ 0
  · rw [if_pos a1]
    by_cases a2 : a ≤ 3
    · rw [if_pos a2]
      by_cases b1 : b ≥ 0
      · rw [if_pos b1]
        by_cases b2 : b ≤ 3
        · rw [decide_eq_true b2]
          have ha : a = 0 ∨ a = 1 ∨ a = 2 ∨ a = 3 := by omega
          have hb : b = 0 ∨ b = 1 ∨ b = 2 ∨ b = 3 := by omega
          simp only [w_ModelJoins.j0, w_ModelJoins.j1, w_ModelJoins.j2, Join_eq, Option.bind_some]
          clear no a1 a2 b1 b2
          by_cases hc : c = 0 ∨ c = 1 ∨ c = 2 ∨ c = 3
          · rcases ha with rfl | rfl | rfl | rfl <;> rcases hb with rfl | rfl | rfl | rfl <;> rcases hc with rfl | rfl | rfl | rfl <;> rfl
          · have hc2 : c < 0 ∨ c > 3 ∧ ¬ c < 0 := by omega
            rcases hc2 with h | ⟨h, h'⟩
            · rw [if_pos h]
              rcases ha with rfl | rfl | rfl | rfl <;> rcases hb with rfl | rfl | rfl | rfl <;> rfl
            · rw [if_neg h', decide_eq_true h]
              rcases ha with rfl | rfl | rfl | rfl <;> rcases hb with rfl | rfl | rfl | rfl <;> rfl
        · rw [decide_eq_false b2]; exact no fun h => b2 (by have := okN_iff.1 h.2; omega)
      · rw [if_neg b1]; exact no fun h => b1 (by have := okN_iff.1 h.2; omega)
    · rw [if_neg a2]; exact no fun h => a2 (by have := okN_iff.1 h.1; omega)
  · rw [if_neg a1]; exact no fun h => a1 (by have := okN_iff.1 h.1; omega)
end Go.Proofs.Ytcofgnbopodahaa.Mp
