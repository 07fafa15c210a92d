import Derived.Test.YtcembjgpcbodcaaDCQAx2
import Derived.Test.YtcembjgpcbodcaaDCQAx3
import Derived.Test.YtcembjgpcbodcaaDCQAx4
import Derived.Test.YtcembjgpcbodcaaDCQAx11
import Derived.Test.YtcembjgpcbodcaaDCQAx13
import Derived.Test.YtcembjgpcbodcaaDCQAx0
import Derived.Test.YtcembjgpcbodcaaDCQAx12
import Derived.Test.YtcembjgpcbodcaaDCEvKit
/-
  Polygons: the small functions, as plain values; and the examples.
-/
namespace Go.Proofs.Ytcembjgpcbodcaa.Pg
open Go.RowKit Go.Proofs.Ytcembjgpcbodcaa.QA Go.Proofs.YtcembjgpcbodcaaW.PrintWords Go.Proofs.YtcembjgpcbodcaaW.PrintLast Go.Proofs.YtcembjgpcbodcaaW.PrintMore Go.Proofs.Ytcembjgpcbodcaa.EvKit
set_option linter.unusedVariables false
set_option linter.unusedSimpArgs false
/-- The examples hold. -/
theorem awake_at : gangsawlaw05_awake.f 100 = some true := by decide +kernel
theorem awake_ev : Ev (fun k => gangsawlaw05_awake.f k) true := Ev.of gangsawlaw05_awake.mono awake_at
def okP (p : S23) : Prop := (-1000000 ≤ p.f0 ∧ p.f0 ≤ 1000000) ∧ -1000000 ≤ p.f1 ∧ p.f1 ≤ 1000000
theorem nearP_is (p : S23) : nearP p = true ↔ okP p := by unfold nearP nearB okP; simp
theorem allowed_ev (x y : Int) : Ev (fun k => gangsawref05_Allowed.f k x y) (nearP ⟨x, y⟩) := by
  unfold gangsawref05_Allowed.f
  have hj : ∀ b, Ev (fun k => gangsawref05_Allowed.j0 k b) b := fun b => Ev.step (f := fun _ => some b) (fun _ => rfl) (Ev.now _)
  refine Ev.ite (fun h1 => Ev.ite (fun h2 => Ev.ite (fun h3 => Ev.eq (hj _) ?_) (fun h3 => Ev.eq (hj _) ?_)) (fun h2 => Ev.eq (hj _) ?_)) (fun h1 => Ev.eq (hj _) ?_)
  · unfold nearP nearB; simp [show -1000000 ≤ x from h1, h2, show -1000000 ≤ y from h3]
  · unfold nearP nearB; simp [show ¬ -1000000 ≤ y from h3]
  · unfold nearP nearB; simp [h2]
  · unfold nearP nearB; simp [show ¬ -1000000 ≤ x from h1]
end Go.Proofs.Ytcembjgpcbodcaa.Pg
