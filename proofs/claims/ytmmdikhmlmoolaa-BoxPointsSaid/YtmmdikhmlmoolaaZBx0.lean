/-
  Chapter 06: small functions of the program.
-/
import Derived.Test.YtmmdikhmlmoolaaZEvKit
import Derived.Test.YtmmdikhmlmoolaaZQAx4
import Derived.Test.YtmmdikhmlmoolaaZQAx13
import Derived.Test.YtmmdikhmlmoolaaZQAx3
namespace Go.Proofs.Ytmmdikhmlmoolaa.Bx
open Go.RowKit Go.Proofs.Ytmmdikhmlmoolaa.QA Go.Proofs.YtmmdikhmlmoolaaW.PrintWords Go.Proofs.YtmmdikhmlmoolaaW.PrintLast Go.Proofs.YtmmdikhmlmoolaaW.PrintMore Go.Proofs.Ytmmdikhmlmoolaa.EvKit
set_option linter.unusedVariables false
set_option linter.unusedSimpArgs false
theorem w1 : wrap64 (0 + 1) = 1 := w64 (by omega) (by omega)
theorem w2 : wrap64 (1 + 1) = 2 := w64 (by omega) (by omega)
theorem w3 : wrap64 (2 + 1) = 3 := w64 (by omega) (by omega)
def hasB (x : S25) (p0 p1 p2 : Int) : Bool := decide (x.f0.f0 ≤ p0 ∧ p0 < x.f1.f0 ∧ x.f0.f1 ≤ p1 ∧ p1 < x.f1.f1 ∧ x.f0.f2 ≤ p2 ∧ p2 < x.f1.f2)
theorem has_ev (x : S25) (p0 p1 p2 : Int) : Ev (fun k => box_Has.f k x.f0.f0 x.f0.f1 x.f0.f2 x.f1.f0 x.f1.f1 x.f1.f2 p0 p1 p2) (hasB x p0 p1 p2) := by
  refine ⟨2, fun k hk => ?_⟩
  obtain ⟨n, rfl⟩ : ∃ n, k = n + 2 := ⟨k - 2, by omega⟩
  unfold hasB
  simp only [box_Has.f, box_Has.j0]
  repeat' split
  all_goals (congr 1; simp only [decide_eq_decide, eq_comm (a := false), decide_eq_false_iff_not]; omega)
def insB (x y : S25) : Bool := (decide (y.f0.f0 ≤ x.f0.f0) && decide (x.f1.f0 ≤ y.f1.f0)) && ((decide (y.f0.f1 ≤ x.f0.f1) && decide (x.f1.f1 ≤ y.f1.f1)) && (decide (y.f0.f2 ≤ x.f0.f2) && decide (x.f1.f2 ≤ y.f1.f2)))
def ovB (x y : S25) : Bool := decide ((mx x.f0.f0 y.f0.f0) < (mn x.f1.f0 y.f1.f0)) && (decide ((mx x.f0.f1 y.f0.f1) < (mn x.f1.f1 y.f1.f1)) && decide ((mx x.f0.f2 y.f0.f2) < (mn x.f1.f2 y.f1.f2)))
def b0_ (x y : S25) : Bool := decide ((mx x.f0.f0 y.f0.f0) < (mn x.f1.f0 y.f1.f0))
def b1_ (x y : S25) : Bool := decide ((mx x.f0.f1 y.f0.f1) < (mn x.f1.f1 y.f1.f1))
def b2_ (x y : S25) : Bool := decide ((mx x.f0.f2 y.f0.f2) < (mn x.f1.f2 y.f1.f2))
end Go.Proofs.Ytmmdikhmlmoolaa.Bx
