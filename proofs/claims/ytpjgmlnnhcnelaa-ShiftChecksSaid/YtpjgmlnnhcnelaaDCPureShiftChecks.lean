import Derived.Test.YtpjgmlnnhcnelaaDCSh5
import Derived.Test.YtpjgmlnnhcnelaaDCQAx18
/-
  ShiftChecks: Check, Open and Week.
-/
namespace Go.Proofs.Ytpjgmlnnhcnelaa.Pure
open Go.RowKit Go.Proofs.Ytpjgmlnnhcnelaa.QA Go.Proofs.YtpjgmlnnhcnelaaW.PrintWords Go.Proofs.YtpjgmlnnhcnelaaW.PrintLast Go.Proofs.YtpjgmlnnhcnelaaW.PrintMore Go.Proofs.Ytpjgmlnnhcnelaa.EvKit Go.Proofs.Ytpjgmlnnhcnelaa.Sh
set_option linter.unusedVariables false
set_option linter.unusedSimpArgs false
theorem chk_j3 : Ev (fun k => gangsawlaw12_ShiftChecks.j3 k true) true := Ev.step (f := fun _ => some _) (fun _ => rfl) (Ev.now _)
theorem chk_j2 (a : Int) (x : Bool) (e w : Int) (sh : List S54) (fr : List Int) (h : e = w) (h0 : w ≠ 0) (hx : x = false) : Ev (fun k => gangsawlaw12_ShiftChecks.j2 k a x e w sh fr) true := by
  refine Ev.succ ?_
  simp only [gangsawlaw12_ShiftChecks.j2]
  rw [hx]
  exact Ev.bind awake_ev (Ev.pos rfl (Ev.pos h (Ev.neg h0 (Ev.neg (by decide) chk_j3))))
theorem ShiftChecks : gangsawlaw12_ShiftChecks.Pure := by
  intro sh fr a1 o0 o1 o2
  refine Ev.rounds ?_
  unfold gangsawlaw12_ShiftChecks.f
  refine Ev.cbind (few_is sh fr) (Ev.ite (fun hf => ?_) (fun hf => awake_some))
  refine Ev.cbind (a := (sh, fr)) rfl (Ev.bind (open_ev sh fr a1) (Ev.cbind (a := (sh, fr)) rfl (Ev.bind (week_ev sh fr) (Ev.bind (rcheck_ev sh fr) (Ev.cbind (a := (sh, fr)) rfl (Ev.bind (check_ev sh fr) (Ev.pos rfl ?_)))))))
  by_cases hc : ck sh fr = 0
  case neg =>
    have hw : wk sh fr = (0, ck sh fr) := by unfold wk; rw [if_neg hc]
    have ho : openP sh fr a1 = (false, ck sh fr) := by unfold openP; rw [mn2_ck hc, if_neg hc]
    rw [hw, ho]
    refine Ev.pos rfl (Ev.neg hc ?_)
    refine Ev.step (f := fun k => if ck sh fr = 0 then ((gangsawref12_Minute.f a1).bind fun t291 => (gangsawlaw12_ShiftChecks.j1 k a1 false (ck sh fr) (ck sh fr) (!t291) sh fr)) else (gangsawlaw12_ShiftChecks.j1 k a1 false (ck sh fr) (ck sh fr) false sh fr)) (fun _ => rfl) ?_
    refine Ev.neg hc (Ev.step (f := fun k => gangsawlaw12_ShiftChecks.j2 k a1 false (ck sh fr) (ck sh fr) sh fr) (fun _ => rfl) ?_)
    exact chk_j2 _ _ _ _ _ _ rfl hc rfl
  have hV := Val.of hc
  have hw : wk sh fr = (sumS sh, 0) := by unfold wk; rw [if_pos hc]
  rw [hw, hc]
  refine Ev.pos rfl (Ev.pos rfl (Ev.bind (rweek_ev hV) (Ev.pos rfl ?_)))
  refine Ev.step (f := fun k => (gangsawref12_Minute.f a1).bind fun t291 => (gangsawlaw12_ShiftChecks.j1 k a1 (openP sh fr a1).1 (openP sh fr a1).2 0 (!t291) sh fr)) (fun _ => rfl) ?_
  refine Ev.cbind (minute_is a1) ?_
  rw [Bool.not_not]
  cases hm : offMin a1 with
  | true =>
    have ho : openP sh fr a1 = (false, 6) := by
      unfold openP
      rw [mn2_off hc (by simp [hm])]
      rfl
    rw [ho]
    refine Ev.step (f := fun k => gangsawlaw12_ShiftChecks.j2 k a1 false 6 6 sh fr) (fun _ => rfl) ?_
    exact chk_j2 _ _ _ _ _ _ rfl (by decide) rfl
  | false =>
    have hi := (offMin_is' a1).1 hm
    have ho : openP sh fr a1 = (openR (ofL sh fr (a1 / 1440)) a1, 0) := by unfold openP; rw [if_pos (mn2_in1 hc hi)]
    rw [ho]
    refine Ev.step (f := fun k => gangsawlaw12_ShiftChecks.j2 k a1 (openR (ofL sh fr (a1 / 1440)) a1) 0 0 sh fr) (fun _ => rfl) (Ev.succ ?_)
    simp only [gangsawlaw12_ShiftChecks.j2]
    refine Ev.bind awake_ev (Ev.pos rfl (Ev.pos (by trivial) (Ev.pos (by trivial) (Ev.bind (ropen_ev hV hi.1 hi.2) ?_))))
    rw [beq_self_eq_true]
    exact chk_j3
end Go.Proofs.Ytpjgmlnnhcnelaa.Pure
