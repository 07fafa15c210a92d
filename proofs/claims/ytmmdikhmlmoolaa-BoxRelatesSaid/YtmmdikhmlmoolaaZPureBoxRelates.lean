/-
  BoxRelates: Has, Inside, Overlap, Touch against the reference's.
-/
import Derived.Test.YtmmdikhmlmoolaaZBx2
import Derived.Test.YtmmdikhmlmoolaaZQAx25
namespace Go.Proofs.Ytmmdikhmlmoolaa.Pure
open Go.RowKit Go.Proofs.Ytmmdikhmlmoolaa.QA Go.Proofs.YtmmdikhmlmoolaaW.PrintWords Go.Proofs.YtmmdikhmlmoolaaW.PrintLast Go.Proofs.YtmmdikhmlmoolaaW.PrintMore Go.Proofs.Ytmmdikhmlmoolaa.EvKit Go.Proofs.Ytmmdikhmlmoolaa.Bx
set_option linter.unusedVariables false
set_option linter.unusedSimpArgs false
theorem tv_key : ∀ c0 c1 c2 q1 q2 q3 q4 q5 q6 : Bool, (rtv c0 c1 c2 q1 q2 q3 q4 q5 q6 < 0 ∧ tv c0 c1 c2 q1 q2 q3 q4 q5 q6 = (0, 9)) ∨ (rtv c0 c1 c2 q1 q2 q3 q4 q5 q6 ≥ 0 ∧ tv c0 c1 c2 q1 q2 q3 q4 q5 q6 = (rtv c0 c1 c2 q1 q2 q3 q4 q5 q6, 0)) := by decide
theorem BoxRelates : w_BoxRelates.Pure := by
  intro a0 a1 a2 a3 a4 a5 b0 b1 b2 b3 b4 b5 p0 p1 p2
  intros
  refine Ev.rounds ?_
  unfold w_BoxRelates.f
  obtain ⟨x, hx⟩ : ∃ x : S25, x = ⟨⟨a0, a1, a2⟩, ⟨a3, a4, a5⟩⟩ := ⟨_, rfl⟩
  obtain ⟨y, hy⟩ : ∃ y : S25, y = ⟨⟨b0, b1, b2⟩, ⟨b3, b4, b5⟩⟩ := ⟨_, rfl⟩
  have h1 := has_ev x p0 p1 p2
  have h2 := rhas_ev x p0 p1 p2
  have h3 := rinside_ev x y
  have h4 := roverlap_ev x y
  have h5 := both_ev x y
  have h6 := rtouch_ev x y
  have hi : box_Inside.f a0 a1 a2 a3 a4 a5 b0 b1 b2 b3 b4 b5 = some (insB x y) := by rw [hx, hy]; rfl
  have ho : box_Overlap.f a0 a1 a2 a3 a4 a5 b0 b1 b2 b3 b4 b5 = some (ovB x y) := by rw [hx, hy]; rfl
  have ht : box_Touch.f a0 a1 a2 a3 a4 a5 b0 b1 b2 b3 b4 b5 = some (if two x y = 0 then tv (b0_ x y) (b1_ x y) (b2_ x y) (y.f0.f0 == x.f1.f0) (y.f1.f0 == x.f0.f0) (y.f0.f1 == x.f1.f1) (y.f1.f1 == x.f0.f1) (y.f0.f2 == x.f1.f2) (y.f1.f2 == x.f0.f2) else (0, two x y)) := by rw [hx, hy]; rfl
  have hr : rtB x y = rtv (b0_ x y) (b1_ x y) (b2_ x y) (y.f0.f0 == x.f1.f0) (y.f1.f0 == x.f0.f0) (y.f0.f1 == x.f1.f1) (y.f1.f1 == x.f0.f1) (y.f0.f2 == x.f1.f2) (y.f1.f2 == x.f0.f2) := rfl
  rw [hr] at h6
  generalize b0_ x y = c0 at ht h6
  generalize b1_ x y = c1 at ht h6
  generalize b2_ x y = c2 at ht h6
  generalize (y.f0.f0 == x.f1.f0) = q1 at ht h6
  generalize (y.f1.f0 == x.f0.f0) = q2 at ht h6
  generalize (y.f0.f1 == x.f1.f1) = q3 at ht h6
  generalize (y.f1.f1 == x.f0.f1) = q4 at ht h6
  generalize (y.f0.f2 == x.f1.f2) = q5 at ht h6
  generalize (y.f1.f2 == x.f0.f2) = q6 at ht h6
  have key : (rtv c0 c1 c2 q1 q2 q3 q4 q5 q6 < 0 ∧ tv c0 c1 c2 q1 q2 q3 q4 q5 q6 = (0, 9)) ∨ (rtv c0 c1 c2 q1 q2 q3 q4 q5 q6 ≥ 0 ∧ tv c0 c1 c2 q1 q2 q3 q4 q5 q6 = (rtv c0 c1 c2 q1 q2 q3 q4 q5 q6, 0)) := by
    exact tv_key c0 c1 c2 q1 q2 q3 q4 q5 q6
  generalize rtv c0 c1 c2 q1 q2 q3 q4 q5 q6 = m at h6 key
  generalize tv c0 c1 c2 q1 q2 q3 q4 q5 q6 = v at ht key
  subst hx
  subst hy
  have fin : Ev (fun k => w_BoxRelates.j1 k true) true := Ev.step (f := fun _ => some true) (fun _ => rfl) (Ev.now _)
  refine Ev.cbind rfl (Ev.pos rfl (Ev.bind h1 (Ev.bind h2 (Ev.neg (by simp) (Ev.cbind hi (Ev.bind h3 (Ev.neg (by simp) (Ev.cbind ho (Ev.bind h4 ?_)))))))))
  rw [bne_self_eq_false]
  refine Ev.succ ?_
  simp only [w_BoxRelates.j0]
  refine Ev.neg (by decide) (Ev.cbind ht (Ev.bind h5 ?_))
  by_cases h : two (⟨⟨a0, a1, a2⟩, ⟨a3, a4, a5⟩⟩ : S25) ⟨⟨b0, b1, b2⟩, ⟨b3, b4, b5⟩⟩ = 0
  · rw [if_pos h]
    refine Ev.pos h (Ev.bind h6 ?_)
    rcases key with ⟨k1, k2⟩ | ⟨k1, k2⟩
    · rw [k2]
      exact Ev.pos k1 (Ev.pos rfl (Ev.pos rfl fin))
    · rw [k2]
      refine Ev.neg (by omega) (Ev.pos k1 (Ev.pos rfl ?_))
      rw [beq_self_eq_true]
      exact fin
  · rw [if_neg h]
    refine Ev.neg h ?_
    exact Ev.pos rfl (by rw [beq_self_eq_true]; exact Ev.now _)
end Go.Proofs.Ytmmdikhmlmoolaa.Pure
