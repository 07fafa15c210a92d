import Derived.Test.YtcembjgpcbodcaaDOPg1
import Derived.Test.YtcembjgpcbodcaaDOQAx12
/-
  PolygonOrients: the orientation of three points.
-/
namespace Go.Proofs.Ytcembjgpcbodcaa.Pure
open Go.RowKit Go.Proofs.Ytcembjgpcbodcaa.QA Go.Proofs.YtcembjgpcbodcaaW.PrintWords Go.Proofs.YtcembjgpcbodcaaW.PrintLast Go.Proofs.YtcembjgpcbodcaaW.PrintMore Go.Proofs.Ytcembjgpcbodcaa.EvKit Go.Proofs.Ytcembjgpcbodcaa.Pg
set_option linter.unusedVariables false
set_option linter.unusedSimpArgs false
theorem PolygonOrients : gangsawlaw05_PolygonOrients.Pure := by
  intro a0 a1 b0 b1 c0 c1 _ _ _ _ _ _
  refine Ev.rounds ?_
  unfold gangsawlaw05_PolygonOrients.f
  have skip : Ev (fun k => gangsawlaw05_PolygonOrients.j0 k true a0 a1 b0 b1 c0 c1) true := Ev.step (f := fun _ => some true) (fun _ => rfl) (Ev.now _)
  have hj : Ev (fun k => gangsawlaw05_PolygonOrients.j1 k true) true := Ev.step (f := fun _ => some true) (fun _ => rfl) (Ev.now _)
  refine Ev.bind awake_ev (Ev.pos rfl (Ev.bind (allowed_ev a0 a1) (Ev.ite (fun ha => Ev.bind (allowed_ev b0 b1) (Ev.ite (fun hb => Ev.bind (allowed_ev c0 c1) ?_) (fun _ => skip))) (fun _ => skip))))
  cases hc : nearP ⟨c0, c1⟩ with
  | false => exact skip
  | true =>
  have ka := (nearP_is ⟨a0, a1⟩).1 ha
  have kb := (nearP_is ⟨b0, b1⟩).1 hb
  have kc := (nearP_is ⟨c0, c1⟩).1 hc
  have e1 : ori ⟨b0, b1⟩ ⟨a0, a1⟩ ⟨c0, c1⟩ = -ori ⟨a0, a1⟩ ⟨b0, b1⟩ ⟨c0, c1⟩ := by unfold ori; rw [oriN_swap ka kb kc, sgn_neg]
  have e2 : ori ⟨b0, b1⟩ ⟨c0, c1⟩ ⟨a0, a1⟩ = ori ⟨a0, a1⟩ ⟨b0, b1⟩ ⟨c0, c1⟩ := by unfold ori; rw [oriN_turn ka kb kc]
  refine Ev.succ ?_
  simp only [gangsawlaw05_PolygonOrients.j0]
  refine Ev.neg (by decide) (Ev.cbind (ori_is ⟨a0, a1⟩ ⟨b0, b1⟩ ⟨c0, c1⟩) (Ev.cbind (rori_is ⟨a0, a1⟩ ⟨b0, b1⟩ ⟨c0, c1⟩) (Ev.pos rfl (Ev.cbind (ori_is ⟨b0, b1⟩ ⟨a0, a1⟩ ⟨c0, c1⟩) (Ev.pos ?_ (Ev.cbind (ori_is ⟨b0, b1⟩ ⟨c0, c1⟩ ⟨a0, a1⟩) ?_))))))
  · have := ori_cases ⟨a0, a1⟩ ⟨b0, b1⟩ ⟨c0, c1⟩
    rw [e1, w64 (by omega) (by omega)]
  · rw [e2, beq_self_eq_true]
    exact hj
end Go.Proofs.Ytcembjgpcbodcaa.Pure
