import Derived.Test.YtpjgmlnnhcnelaaDISh4
import Derived.Test.YtpjgmlnnhcnelaaDIQAx20
/-
  ShiftInverse: what Before returns.
-/
namespace Go.Proofs.Ytpjgmlnnhcnelaa.Pure
open Go.RowKit Go.Proofs.Ytpjgmlnnhcnelaa.QA Go.Proofs.YtpjgmlnnhcnelaaW.PrintWords Go.Proofs.YtpjgmlnnhcnelaaW.PrintLast Go.Proofs.YtpjgmlnnhcnelaaW.PrintMore Go.Proofs.Ytpjgmlnnhcnelaa.EvKit Go.Proofs.Ytpjgmlnnhcnelaa.Sh
set_option linter.unusedVariables false
set_option linter.unusedSimpArgs false
theorem inv_j1 : Ev (fun k => gangsawlaw12_ShiftInverse.j1 k true) true := Ev.step (f := fun _ => some _) (fun _ => rfl) (Ev.now _)
theorem ShiftInverse : gangsawlaw12_ShiftInverse.Pure := by
  intro sh fr a1 a2 o0 o1 o2 o3
  refine Ev.rounds ?_
  unfold gangsawlaw12_ShiftInverse.f
  refine Ev.cbind (few_is sh fr) (Ev.ite (fun hf => ?_) (fun hf => awake_some))
  refine Ev.cbind (a := (sh, fr)) rfl (Ev.bind (before_ev sh fr a1 a2) ?_)
  by_cases m1 : mn2 sh fr [a1, a2] = 0
  case neg =>
    have : beforeP sh fr a1 a2 = (0, mn2 sh fr [a1, a2]) := by unfold beforeP; rw [if_neg m1]
    rw [this]
    exact Ev.neg m1 awake_some
  obtain ⟨hV, r1, r2⟩ := mn2_two m1
  have hc := mn2_ck0 m1
  have hZ := Z0_srt hV
  have hB : beforeP sh fr a1 a2 = if a2 = 0 then (a1, 0) else backF a2 (cutB a1 (Z0 sh fr)).reverse := by unfold beforeP; rw [if_pos m1]
  have hA : ∀ t, 0 ≤ t → t ≤ 14400000 → afterP sh fr t a2 = if a2 = 0 then (t, 0) else afterF a2 (cutL t (Z0 sh fr)) := fun t h0 h1 => by unfold afterP; rw [if_pos (mn2_in hc ⟨h0, h1⟩ r2)]
  by_cases hz : a2 = 0
  · rw [if_pos hz] at hB
    rw [hB]
    refine Ev.pos rfl (Ev.cbind (a := (sh, fr)) rfl (Ev.bind (work_ev sh fr a1 a1) (Ev.cbind (a := (sh, fr)) rfl (Ev.bind (after_ev sh fr a1 a2) ?_))))
    rw [hA a1 r1.1 r1.2, if_pos hz, workP_ok (mn2_in hc r1 r1) (by omega), cnt_self]
    refine Ev.pos rfl (Ev.pos rfl (Ev.pos hz.symm (Ev.neg (by simp) ?_)))
    rw [decide_eq_false (show ¬ (a1, (0 : Int)).1 > a1 by simp)]
    refine Ev.succ ?_
    simp only [gangsawlaw12_ShiftInverse.j0]
    refine Ev.neg (by decide) (Ev.pos hz (Ev.bind awake_ev (Ev.pos rfl (Ev.eq (Ev.now _) ?_))))
    exact beq_self_eq_true _
  rw [if_neg hz] at hB
  obtain ⟨t, e, hte⟩ : ∃ t e, backF a2 (cutB a1 (Z0 sh fr)).reverse = (t, e) := ⟨_, _, rfl⟩
  rw [hte] at hB
  rw [hB]
  rcases back_is hZ r1.2 a2 (by omega) r2.2 t e hte with ⟨rfl, k2, k3, k4, k5⟩ | ⟨rfl, rfl, k3⟩
  case inr => exact Ev.neg (by decide) awake_some
  refine Ev.pos rfl (Ev.cbind (a := (sh, fr)) rfl (Ev.bind (work_ev sh fr t a1) (Ev.cbind (a := (sh, fr)) rfl (Ev.bind (after_ev sh fr t a2) ?_))))
  rw [hA t k2 (by omega), if_neg hz, workP_ok (mn2_in hc ⟨k2, by omega⟩ r1) (by omega), k4]
  obtain ⟨t', e', hte'⟩ : ∃ t' e', afterF a2 (cutL t (Z0 sh fr)) = (t', e') := ⟨_, _, rfl⟩
  rw [hte']
  rcases after_is hZ k2 a2 (by omega) r2.2 t' e' hte' with ⟨rfl, q2, q3, q4, q5⟩ | ⟨rfl, rfl, q3⟩
  case inr => have := q3 a1; omega
  have hle : ¬ t' > a1 := fun hgt => by
    have s1 := (cnt_succ hZ (show t ≤ t' - 1 by omega)).1 q5
    rw [show t' - 1 + 1 = t' by omega, q4] at s1
    have s2 := cnt_mono hZ (show t ≤ a1 by omega) (show a1 ≤ t' - 1 by omega)
    omega
  refine Ev.pos rfl (Ev.pos rfl (Ev.pos rfl (Ev.neg hle ?_)))
  rw [decide_eq_false (show ¬ (t, (0 : Int)).1 > a1 by simp; omega)]
  refine Ev.succ ?_
  simp only [gangsawlaw12_ShiftInverse.j0]
  refine Ev.neg (by decide) (Ev.neg hz (Ev.cbind (a := (sh, fr)) rfl (Ev.bind (open_ev sh fr t) ?_)))
  rw [openP_ok (mn2_in1 hc ⟨k2, by omega⟩) k5]
  exact Ev.bind awake_ev (Ev.pos rfl (Ev.pos rfl inv_j1))
end Go.Proofs.Ytpjgmlnnhcnelaa.Pure
