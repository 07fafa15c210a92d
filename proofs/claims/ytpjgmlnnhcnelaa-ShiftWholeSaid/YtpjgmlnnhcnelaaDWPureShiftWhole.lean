import Derived.Test.YtpjgmlnnhcnelaaDWSh4
import Derived.Test.YtpjgmlnnhcnelaaDWQAx21
/-
  ShiftWhole: what Whole returns.
-/
namespace Go.Proofs.Ytpjgmlnnhcnelaa.Pure
open Go.RowKit Go.Proofs.Ytpjgmlnnhcnelaa.QA Go.Proofs.YtpjgmlnnhcnelaaW.PrintWords Go.Proofs.YtpjgmlnnhcnelaaW.PrintLast Go.Proofs.YtpjgmlnnhcnelaaW.PrintMore Go.Proofs.Ytpjgmlnnhcnelaa.EvKit Go.Proofs.Ytpjgmlnnhcnelaa.Sh
set_option linter.unusedVariables false
set_option linter.unusedSimpArgs false
theorem who_j0 (a b : Int) (sh : List S54) (fr : List Int) : Ev (fun k => gangsawlaw12_ShiftWhole.j0 k a b true sh fr) true := Ev.step (f := fun k => (gangsawlaw12_awake.f k).bind fun t => some t) (fun _ => rfl) awake_some
theorem who_j1 (a b c : Int) (sh : List S54) (fr : List Int) : Ev (fun k => gangsawlaw12_ShiftWhole.j1 k a b c true sh fr) true := Ev.step (f := fun k => (gangsawlaw12_awake.f k).bind fun t => some t) (fun _ => rfl) awake_some
theorem who_l0 {sh : List S54} {fr : List Int} (hV : Val sh fr) (hc : ck sh fr = 0) (a1 a2 t : Int) (h1 : 0 ≤ a1) (ht : t < 14400000) (h2 : 0 ≤ a2) (h3 : a2 ≤ 14400000) (hN : ∀ m, a1 ≤ m → m < t → ¬ good (Z0 sh fr) (max a2 1) m) :
    ∀ n : Nat, ∀ m, a1 ≤ m → m + n = t → Ev (fun k => gangsawlaw12_ShiftWhole.l0 k a2 t m sh fr) true := by
  have hZ := Z0_srt hV
  intro n
  induction n with
  | zero =>
    intro m hm he
    refine Ev.succ ?_
    simp only [gangsawlaw12_ShiftWhole.l0]
    exact Ev.neg (by omega) awake_some
  | succ n ih =>
    intro m hm he
    refine Ev.succ ?_
    simp only [gangsawlaw12_ShiftWhole.l0]
    refine Ev.pos (by omega) (Ev.cbind (a := (sh, fr)) rfl ?_)
    rw [mn_is, w64 (n := m + a2) (by omega) (by omega)]
    refine Ev.bind (work_ev sh fr m (min 14400000 (m + a2))) (Ev.cbind (a := (sh, fr)) rfl (Ev.bind (open_ev sh fr m) ?_))
    rw [workP_ok (mn2_in hc ⟨by omega, by omega⟩ ⟨by omega, by omega⟩) (by omega)]
    have hj : Ev (fun k => gangsawlaw12_ShiftWhole.j4 k a2 t m false sh fr) true := by
      refine Ev.step (f := fun k => gangsawlaw12_ShiftWhole.l0 k a2 t (wrap64 (m + 1)) sh fr) (fun _ => rfl) ?_
      rw [w64 (n := m + 1) (by omega) (by omega)]
      exact ih (m + 1) (by omega) (by omega)
    by_cases ho : opn (Z0 sh fr) m
    · rw [openP_ok (mn2_in1 hc ⟨by omega, by omega⟩) ho]
      refine Ev.pos rfl (Ev.pos rfl (Ev.neg (fun hq => ?_) hj))
      have hq : cnt (Z0 sh fr) m (min 14400000 (m + a2)) = a2 := hq
      have hle := cnt_le hZ (show m ≤ min 14400000 (m + a2) by omega)
      have hfull := (cnt_full hZ (show m ≤ min 14400000 (m + a2) by omega)).1 (by omega)
      refine hN m hm (by omega) (fun i k1 k2 => ?_)
      by_cases hi : i = m
      · rw [hi]; exact ho
      · exact hfull i k1 (by omega)
    · rw [openP_no (mn2_in1 hc ⟨by omega, by omega⟩) ho]
      exact Ev.pos rfl (Ev.pos rfl (Ev.ite (fun _ => hj) (fun _ => hj)))
theorem ShiftWhole : gangsawlaw12_ShiftWhole.Pure := by
  intro sh fr a1 a2 o0 o1 o2 o3
  refine Ev.rounds ?_
  unfold gangsawlaw12_ShiftWhole.f
  refine Ev.cbind (few_is sh fr) (Ev.ite (fun hf => ?_) (fun hf => who_j0 _ _ _ _))
  cases hq : decide (a2 > 2000) with
  | true => exact who_j0 _ _ _ _
  | false =>
  refine Ev.succ ?_
  simp only [gangsawlaw12_ShiftWhole.j0]
  refine Ev.neg (by decide) (Ev.cbind (a := (sh, fr)) rfl (Ev.bind (whole_ev sh fr a1 a2) ?_))
  by_cases m1 : mn2 sh fr [a1, a2] = 0
  case neg =>
    have : wholeP sh fr a1 a2 = (0, mn2 sh fr [a1, a2]) := by unfold wholeP; rw [if_neg m1]
    rw [this]
    exact Ev.neg m1 (who_j1 _ _ _ _ _)
  obtain ⟨hV, r1, r2⟩ := mn2_two m1
  have hc := mn2_ck0 m1
  have hZ := Z0_srt hV
  obtain ⟨t, e, hte⟩ : ∃ t e, wholeF (max a2 1) a1 a1 (cutL a1 (Z0 sh fr)) = (t, e) := ⟨_, _, rfl⟩
  have hW : wholeP sh fr a1 a2 = (t, e) := by unfold wholeP; rw [if_pos m1, hte]
  rw [hW]
  rcases whole_is hZ (by omega) r1.1 t e hte with ⟨rfl, k2, k3, k4⟩ | ⟨rfl, rfl, k3⟩
  case inr => exact Ev.neg (by decide) (who_j1 _ _ _ _ _)
  have ho := k3 t (Int.le_refl _) (by omega)
  have b1 := opn_in hV ho
  have b2 := opn_in hV (k3 (t + max a2 1 - 1) (by omega) (by omega))
  refine Ev.pos rfl ?_
  cases hg : decide (wrap64 ((t, (0 : Int)).1 - a1) > 100000) with
  | true => exact who_j1 _ _ _ _ _
  | false =>
  refine Ev.succ ?_
  simp only [gangsawlaw12_ShiftWhole.j1]
  refine Ev.neg (by decide) (Ev.cbind (a := (sh, fr)) rfl ?_)
  rw [w64 (n := t + a2) (by omega) (by omega)]
  refine Ev.bind (work_ev sh fr t (t + a2)) (Ev.cbind (a := (sh, fr)) rfl (Ev.bind (open_ev sh fr t) ?_))
  have hcn : cnt (Z0 sh fr) t (t + a2) = a2 := by
    have := (cnt_full hZ (show t ≤ t + a2 by omega)).2 (fun i q1 q2 => k3 i q1 (by omega))
    omega
  rw [openP_ok (mn2_in1 hc ⟨by omega, by omega⟩) ho, workP_ok (mn2_in hc ⟨by omega, by omega⟩ ⟨by omega, by omega⟩) (by omega), hcn]
  refine Ev.pos rfl (Ev.pos rfl (Ev.neg (by omega) (Ev.pos rfl ?_)))
  refine Ev.step (f := fun k => gangsawlaw12_ShiftWhole.l0 k a2 t (mx a1 (wrap64 (t - 1500))) sh fr) (fun _ => rfl) ?_
  rw [mx_is, w64 (n := t - 1500) (by omega) (by omega)]
  exact who_l0 hV hc a1 a2 t r1.1 b1.2 r2.1 r2.2 k4 (t - max a1 (t - 1500)).toNat _ (by omega) (by omega)
end Go.Proofs.Ytpjgmlnnhcnelaa.Pure
