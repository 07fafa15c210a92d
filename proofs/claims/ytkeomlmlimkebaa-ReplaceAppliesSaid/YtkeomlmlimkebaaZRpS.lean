/-
  Equal plans.
-/
import Derived.Test.YtkeomlmlimkebaaZRp9
import Derived.Test.YtkeomlmlimkebaaZQAx11
import Derived.Test.YtkeomlmlimkebaaZQAx5
namespace Go.Proofs.Ytkeomlmlimkebaa.Rq
open Go.RowKit Go.Proofs.Ytkeomlmlimkebaa.QA Go.Proofs.YtkeomlmlimkebaaW.PrintWords Go.Proofs.YtkeomlmlimkebaaW.PrintMore Go.Proofs.Ytkeomlmlimkebaa.EvKit Go.Proofs.Ytkeomlmlimkebaa.MapKit
set_option linter.unusedVariables false
set_option linter.unusedSimpArgs false
/-! ### equal plans -/
theorem same_refl (F : List (List Int)) (p : Int) (U : List Int) (X : List Bool) (h1 : F.length < 1000000) (h2 : U.length < 1000000) (h3 : X.length < 1000000) (h4 : ∀ j, j < F.length → (F.getD j []).length < 1000000) : Ev (fun k => r_Same.f k F p U X F p U X) true := by
  have k1 : ∀ m i, X.length = i + m → Ev (fun k => r_Same.l1 k (i : Int) F p U X F p U X) true := by
    intro m
    induction m with
    | zero =>
      intro i hi
      refine Ev.succ ?_
      simp only [r_Same.l1]
      exact Ev.neg (by omega) (Ev.now _)
    | succ m ih =>
      intro i hi
      refine Ev.succ ?_
      simp only [r_Same.l1]
      refine Ev.pos (by omega) (Ev.pos (by omega) (Ev.pos (by omega) (Ev.neg (by simp) ?_)))
      rw [nxt64 (by omega)]
      exact ih (i + 1) (by omega)
  have k0 : ∀ m i, F.length = i + m → Ev (fun k => r_Same.l0 k (i : Int) F p U X F p U X) true := by
    intro m
    induction m with
    | zero =>
      intro i hi
      refine Ev.succ ?_
      simp only [r_Same.l0]
      exact Ev.neg (by omega) (k1 X.length 0 (by omega))
    | succ m ih =>
      intro i hi
      refine Ev.succ ?_
      simp only [r_Same.l0, rdL]
      refine Ev.pos (by omega) (Ev.pos (by omega) (Ev.pos (by omega) (Ev.bind (same_ints _ (h4 i (by omega))) (Ev.pos rfl ?_))))
      rw [nxt64 (by omega)]
      exact ih (i + 1) (by omega)
  unfold r_Same.f
  refine Ev.pos rfl (Ev.pos rfl (Ev.bind (same_ints _ h2) (Ev.pos rfl ?_)))
  rw [bne_self_eq_false]
  refine Ev.succ ?_
  simp only [r_Same.j0]
  exact Ev.neg (by decide) (k0 F.length 0 (by omega))
end Go.Proofs.Ytkeomlmlimkebaa.Rq
