import Derived.Test.YtpjgmlnnhcnelaaDKSh6
import Derived.Test.YtpjgmlnnhcnelaaDKQAx12
/-
  ShiftWork: Work and Next.
-/
namespace Go.Proofs.Ytpjgmlnnhcnelaa.Pure
open Go.RowKit Go.Proofs.Ytpjgmlnnhcnelaa.QA Go.Proofs.YtpjgmlnnhcnelaaW.PrintWords Go.Proofs.YtpjgmlnnhcnelaaW.PrintLast Go.Proofs.YtpjgmlnnhcnelaaW.PrintMore Go.Proofs.Ytpjgmlnnhcnelaa.EvKit Go.Proofs.Ytpjgmlnnhcnelaa.Sh
set_option linter.unusedVariables false
set_option linter.unusedSimpArgs false
theorem wrk_j0 (a b : Int) (sh : List S54) (fr : List Int) : Ev (fun k => gangsawlaw12_ShiftWork.j0 k a b true sh fr) true := Ev.step (f := fun k => (gangsawlaw12_awake.f k).bind fun t => some t) (fun _ => rfl) awake_some
theorem wrk_j1 : Ev (fun k => gangsawlaw12_ShiftWork.j1 k true) true := Ev.step (f := fun _ => some _) (fun _ => rfl) (Ev.now _)
theorem wrk_j2 : Ev (fun k => gangsawlaw12_ShiftWork.j2 k true) true := Ev.step (f := fun _ => some _) (fun _ => rfl) (Ev.now _)
theorem wrk_j5 : Ev (fun k => gangsawlaw12_ShiftWork.j5 k true) true := Ev.step (f := fun _ => some _) (fun _ => rfl) (Ev.now _)
theorem wrk_j6 : Ev (fun k => gangsawlaw12_ShiftWork.j6 k true) true := Ev.step (f := fun _ => some _) (fun _ => rfl) (Ev.now _)
theorem wrk_j3 {sh : List S54} {fr : List Int} (hc : ck sh fr = 0) (a b : Int) (ha : 0 ≤ a ∧ a ≤ 14400000) : Ev (fun k => gangsawlaw12_ShiftWork.j3 k a b (workP sh fr a b).1 (workP sh fr a b).2 false sh fr) true := by
  have hV := Val.of hc
  have six : workP sh fr a b = (0, 6) → Ev (fun k => gangsawlaw12_ShiftWork.j4 k a b (workP sh fr a b).1 (workP sh fr a b).2 true sh fr) true := fun h => by
    rw [h]
    exact Ev.step (f := fun k => (gangsawlaw12_awake.f k).bind fun t199 => (if t199 = true then (gangsawlaw12_ShiftWork.j5 k true) else (gangsawlaw12_ShiftWork.j5 k false))) (fun _ => rfl) (Ev.bind awake_ev (Ev.pos rfl wrk_j5))
  refine Ev.step (f := fun k => (gangsawref12_Minute.f b).bind fun t198 => (if t198 = true then (gangsawlaw12_ShiftWork.j4 k a b (workP sh fr a b).1 (workP sh fr a b).2 (decide (a > b)) sh fr) else (gangsawlaw12_ShiftWork.j4 k a b (workP sh fr a b).1 (workP sh fr a b).2 true sh fr))) (fun _ => rfl) ?_
  refine Ev.cbind (minute_is b) ?_
  cases hb : offMin b with
  | true =>
    have e6 : mn2 sh fr [a, b] = 6 := mn2_off hc (by simp [hb])
    exact Ev.neg (by decide) (six (by rw [workP_bad (by rw [e6]; decide), e6]))
  | false =>
    have r2 := (offMin_is' b).1 hb
    have hm := mn2_in hc ha r2
    refine Ev.pos rfl ?_
    by_cases hab : a > b
    · rw [decide_eq_true hab]
      exact six (workP_off hm (by omega))
    · rw [decide_eq_false hab, workP_ok hm (by omega)]
      refine Ev.step (f := fun k => (gangsawlaw12_awake.f k).bind fun t200 => (if t200 = true then ((gangsawref12_Calendar_Work.f k sh fr a b).bind fun t201 => (gangsawlaw12_ShiftWork.j6 k (cnt (Z0 sh fr) a b == t201))) else (gangsawlaw12_ShiftWork.j6 k false))) (fun _ => rfl) ?_
      refine Ev.bind awake_ev (Ev.pos rfl (Ev.bind (rwork_ev hV ha r2 (by omega)) ?_))
      rw [beq_self_eq_true]
      exact wrk_j6
theorem ShiftWork : gangsawlaw12_ShiftWork.Pure := by
  intro sh fr a1 a2 o0 o1 o2 o3
  refine Ev.rounds ?_
  unfold gangsawlaw12_ShiftWork.f
  have main : Ev (fun k => gangsawlaw12_ShiftWork.j0 k a1 a2 false sh fr) true := by
    refine Ev.succ ?_
    simp only [gangsawlaw12_ShiftWork.j0]
    refine Ev.neg (by decide) (Ev.cbind (a := (sh, fr)) rfl (Ev.bind (work_ev sh fr a1 a2) (Ev.cbind (a := (sh, fr)) rfl (Ev.bind (next_ev sh fr a1) (Ev.bind (rcheck_ev sh fr) ?_)))))
    by_cases hc : ck sh fr = 0
    case neg =>
      have e1 : workP sh fr a1 a2 = (0, ck sh fr) := by rw [workP_bad (by rw [mn2_ck hc]; exact hc), mn2_ck hc]
      have e2 : nextP sh fr a1 = (0, ck sh fr) := by unfold nextP; rw [mn2_ck hc, if_neg hc]
      rw [e1, e2]
      exact Ev.neg hc (Ev.bind awake_ev (Ev.pos rfl (Ev.pos rfl (Ev.pos rfl (Ev.pos rfl wrk_j1)))))
    have hV := Val.of hc
    rw [hc]
    refine Ev.pos rfl (Ev.cbind (minute_is a1) ?_)
    cases h1 : offMin a1 with
    | true =>
      have e6 : ∀ l, mn2 sh fr (a1 :: l) = 6 := fun l => mn2_off hc (by simp [h1])
      have e1 : workP sh fr a1 a2 = (0, 6) := by rw [workP_bad (by rw [e6]; decide), e6]
      have e2 : nextP sh fr a1 = (0, 6) := by unfold nextP; rw [e6]; rfl
      rw [e1, e2]
      exact Ev.neg (by decide) (Ev.bind awake_ev (Ev.pos rfl (Ev.pos rfl (Ev.pos rfl (Ev.pos rfl wrk_j2)))))
    | false =>
    have r1 := (offMin_is' a1).1 h1
    have e2 : nextP sh fr a1 = nextR (cutL a1 (Z0 sh fr)) := by unfold nextP; rw [if_pos (mn2_in1 hc r1)]
    have hN := next_ans (Z0_srt hV) r1.1
    rw [← e2] at hN
    have hj := wrk_j3 hc a1 a2 r1
    refine Ev.pos rfl (Ev.bind (rnext_ev hV r1.1 r1.2) ?_)
    rcases hN with ⟨e3, e4⟩ | ⟨e3, e4⟩
    · rw [e3, e4]
      exact Ev.pos (by decide) (Ev.pos rfl (Ev.pos rfl (Ev.neg (by decide) hj)))
    · rw [e3]
      refine Ev.neg (by omega) (Ev.pos e4 (Ev.pos rfl ?_))
      rw [bne_self_eq_false]
      exact hj
  refine Ev.cbind (few_is sh fr) (Ev.ite (fun hf => ?_) (fun hf => wrk_j0 _ _ _ _))
  refine Ev.ite (fun h1 => Ev.ite (fun h2 => ?_) (fun h2 => main)) (fun h1 => main)
  cases decide (a1 ≥ 0) with
  | true => exact wrk_j0 _ _ _ _
  | false => exact main
end Go.Proofs.Ytpjgmlnnhcnelaa.Pure
