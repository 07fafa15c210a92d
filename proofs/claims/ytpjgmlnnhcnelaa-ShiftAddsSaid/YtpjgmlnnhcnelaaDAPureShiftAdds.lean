import Derived.Test.YtpjgmlnnhcnelaaDASh4
import Derived.Test.YtpjgmlnnhcnelaaDAQAx19
/-
  ShiftAdds: what is worked in two spans side by side is added; and After.
-/
namespace Go.Proofs.Ytpjgmlnnhcnelaa.Pure
open Go.RowKit Go.Proofs.Ytpjgmlnnhcnelaa.QA Go.Proofs.YtpjgmlnnhcnelaaW.PrintWords Go.Proofs.YtpjgmlnnhcnelaaW.PrintLast Go.Proofs.YtpjgmlnnhcnelaaW.PrintMore Go.Proofs.Ytpjgmlnnhcnelaa.EvKit Go.Proofs.Ytpjgmlnnhcnelaa.Sh
set_option linter.unusedVariables false
set_option linter.unusedSimpArgs false
theorem adds_j0 (a b c d : Int) (sh : List S54) (fr : List Int) : Ev (fun k => gangsawlaw12_ShiftAdds.j0 k a b c d true sh fr) true := Ev.step (f := fun k => (gangsawlaw12_awake.f k).bind fun t => some t) (fun _ => rfl) awake_some
theorem adds_j1 (a b c d e f : Int) (sh : List S54) (fr : List Int) : Ev (fun k => gangsawlaw12_ShiftAdds.j1 k a b c d e f true sh fr) true := Ev.step (f := fun k => (gangsawlaw12_awake.f k).bind fun t => some t) (fun _ => rfl) awake_some
theorem adds_j3 : Ev (fun k => gangsawlaw12_ShiftAdds.j3 k true) true := Ev.step (f := fun _ => some _) (fun _ => rfl) (Ev.now _)
theorem adds_j5 : Ev (fun k => gangsawlaw12_ShiftAdds.j5 k true) true := Ev.step (f := fun _ => some _) (fun _ => rfl) (Ev.now _)
theorem ShiftAdds : gangsawlaw12_ShiftAdds.Pure := by
  intro sh fr a1 a2 a3 a4 o0 o1 o2 o3 o4 o5
  refine Ev.rounds ?_
  unfold gangsawlaw12_ShiftAdds.f
  refine Ev.cbind (few_is sh fr) (Ev.ite (fun hf => ?_) (fun hf => adds_j0 _ _ _ _ _ _))
  refine Ev.ite (fun h1 => adds_j0 _ _ _ _ _ _) (fun h1 => Ev.ite (fun h2 => adds_j0 _ _ _ _ _ _) (fun h2 => ?_))
  cases hq : decide (wrap64 (a3 - a1) > 100000) with
  | true => exact adds_j0 _ _ _ _ _ _
  | false =>
  refine Ev.succ ?_
  simp only [gangsawlaw12_ShiftAdds.j0]
  refine Ev.neg (by decide) (Ev.cbind (a := (sh, fr)) rfl (Ev.bind (work_ev sh fr a1 a2) (Ev.cbind (a := (sh, fr)) rfl (Ev.bind (work_ev sh fr a2 a3) (Ev.cbind (a := (sh, fr)) rfl (Ev.bind (work_ev sh fr a1 a3) ?_))))))
  by_cases m1 : mn2 sh fr [a1, a2] = 0
  case neg =>
    rw [workP_bad m1]
    exact Ev.neg m1 (adds_j1 _ _ _ _ _ _ _ _)
  by_cases m2 : mn2 sh fr [a2, a3] = 0
  case neg =>
    rw [workP_bad m2, show ((mn2 sh fr [a2, a3]) != 0) = true from bne_iff_ne.2 m2]
    exact Ev.ite (fun _ => adds_j1 _ _ _ _ _ _ _ _) (fun _ => adds_j1 _ _ _ _ _ _ _ _)
  obtain ⟨hV, r1, r2⟩ := mn2_two m1
  obtain ⟨_, _, r3⟩ := mn2_two m2
  have hc := mn2_ck0 m1
  have hZ := Z0_srt hV
  rw [workP_ok m1 (by omega), workP_ok m2 (by omega), workP_ok (mn2_in hc r1 r3) (by omega)]
  refine Ev.pos rfl (Ev.succ ?_)
  simp only [gangsawlaw12_ShiftAdds.j1]
  refine Ev.neg (by decide) (Ev.pos (by trivial) ?_)
  have e1 := cnt_add hZ (show a1 ≤ a2 by omega) (show a2 ≤ a3 by omega)
  have e2 := cnt_le hZ (show a1 ≤ a3 by omega)
  have e3 := cnt_nonneg (Z0 sh fr) a1 a3
  rw [e1, w64 (by omega) (by omega), bne_self_eq_false]
  refine Ev.succ ?_
  simp only [gangsawlaw12_ShiftAdds.j2]
  refine Ev.neg (by decide) (Ev.cbind (a := (sh, fr)) rfl (Ev.bind (after_ev sh fr a1 a4) ?_))
  by_cases m4 : mn2 sh fr [a1, a4] = 0
  case neg =>
    have : afterP sh fr a1 a4 = (0, 6) := by unfold afterP; rw [if_neg m4, mn2_six m4 hc]
    rw [this]
    exact Ev.neg (by decide) (Ev.bind awake_ev (Ev.pos rfl (Ev.ite (fun _ => adds_j3) (fun _ => Ev.ite (fun _ => adds_j3) (fun _ => adds_j3)))))
  obtain ⟨_, _, r4⟩ := mn2_two m4
  have hA : afterP sh fr a1 a4 = if a4 = 0 then (a1, 0) else afterF a4 (cutL a1 (Z0 sh fr)) := by unfold afterP; rw [if_pos m4]
  by_cases hz : a4 = 0
  · rw [if_pos hz] at hA
    rw [hA]
    refine Ev.pos rfl (Ev.cbind (a := (sh, fr)) rfl (Ev.bind (work_ev sh fr a1 a1) ?_))
    rw [workP_ok (mn2_in hc r1 r1) (by omega), cnt_self, hz]
    refine Ev.pos rfl (Ev.succ ?_)
    simp only [gangsawlaw12_ShiftAdds.j4]
    refine Ev.neg (by decide) (Ev.pos (by trivial) (Ev.bind awake_ev (Ev.pos rfl (Ev.eq (Ev.now _) ?_))))
    exact beq_self_eq_true _
  rw [if_neg hz] at hA
  rw [hA]
  obtain ⟨t, e, hte⟩ : ∃ t e, afterF a4 (cutL a1 (Z0 sh fr)) = (t, e) := ⟨_, _, rfl⟩
  rw [hte]
  rcases after_is hZ r1.1 a4 (by omega) r4.2 t e hte with ⟨rfl, k2, k3, k4, k5⟩ | ⟨rfl, rfl, k3⟩
  · refine Ev.pos rfl (Ev.cbind (a := (sh, fr)) rfl (Ev.bind (work_ev sh fr a1 t) ?_))
    rw [workP_ok (mn2_in hc r1 ⟨by omega, k3⟩) (by omega), k4]
    refine Ev.pos rfl ?_
    rw [bne_self_eq_false]
    refine Ev.succ ?_
    simp only [gangsawlaw12_ShiftAdds.j4]
    refine Ev.neg (by decide) (Ev.neg hz (Ev.cbind (a := (sh, fr)) rfl ?_))
    rw [w64 (n := t - 1) (by omega) (by omega)]
    refine Ev.bind (open_ev sh fr (t - 1)) ?_
    rw [openP_ok (mn2_in1 hc ⟨by omega, by omega⟩) k5]
    exact Ev.bind awake_ev (Ev.pos rfl (Ev.pos rfl adds_j5))
  · refine Ev.neg (by decide) (Ev.bind awake_ev (Ev.pos rfl (Ev.neg (by omega) (Ev.pos ?_ adds_j3))))
    have := k3 a3
    show a4 > cnt (Z0 sh fr) a1 a3
    omega
end Go.Proofs.Ytpjgmlnnhcnelaa.Pure
