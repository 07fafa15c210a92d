import Derived.Test.YtpjgmlnnhcnelaaDMSh6
import Derived.Test.YtpjgmlnnhcnelaaDMQAx16
/-
  ShiftMoves: After, Before and Whole.
-/
namespace Go.Proofs.Ytpjgmlnnhcnelaa.Pure
open Go.RowKit Go.Proofs.Ytpjgmlnnhcnelaa.QA Go.Proofs.YtpjgmlnnhcnelaaW.PrintWords Go.Proofs.YtpjgmlnnhcnelaaW.PrintLast Go.Proofs.YtpjgmlnnhcnelaaW.PrintMore Go.Proofs.Ytpjgmlnnhcnelaa.EvKit Go.Proofs.Ytpjgmlnnhcnelaa.Sh
set_option linter.unusedVariables false
set_option linter.unusedSimpArgs false
theorem mov_j3 : Ev (fun k => gangsawlaw12_ShiftMoves.j3 k true) true := Ev.step (f := fun _ => some _) (fun _ => rfl) (Ev.now _)
theorem mov_bad (a b e : Int) (sh : List S54) (fr : List Int) (h : e ≠ 0) : Ev (fun k => gangsawlaw12_ShiftMoves.j1 k a b 0 e 0 e 0 e e sh fr) true := by
  refine Ev.succ ?_
  simp only [gangsawlaw12_ShiftMoves.j1]
  refine Ev.neg h (Ev.bind awake_ev (Ev.pos rfl (Ev.pos (by trivial) (Ev.pos (by trivial) (Ev.pos (by trivial) (Ev.pos (by trivial) (Ev.pos (by trivial) ?_)))))))
  exact Ev.step (f := fun _ => some true) (fun _ => rfl) (Ev.now _)
theorem ShiftMoves : gangsawlaw12_ShiftMoves.Pure := by
  intro sh fr a1 a2 o0 o1 o2 o3
  refine Ev.rounds ?_
  unfold gangsawlaw12_ShiftMoves.f
  refine Ev.cbind (few_is sh fr) (Ev.ite (fun hf => ?_) (fun hf => awake_some))
  refine Ev.cbind (a := (sh, fr)) rfl (Ev.bind (after_ev sh fr a1 a2) (Ev.cbind (a := (sh, fr)) rfl (Ev.bind (before_ev sh fr a1 a2) (Ev.cbind (a := (sh, fr)) rfl (Ev.bind (whole_ev sh fr a1 a2) (Ev.bind (rcheck_ev sh fr) ?_))))))
  have bad : mn2 sh fr [a1, a2] ≠ 0 → afterP sh fr a1 a2 = (0, mn2 sh fr [a1, a2]) ∧ beforeP sh fr a1 a2 = (0, mn2 sh fr [a1, a2]) ∧ wholeP sh fr a1 a2 = (0, mn2 sh fr [a1, a2]) := fun h => by
    unfold afterP beforeP wholeP
    rw [if_neg h, if_neg h, if_neg h]
    exact ⟨rfl, rfl, rfl⟩
  by_cases hc : ck sh fr = 0
  case neg =>
    obtain ⟨b1, b2, b3⟩ := bad (by rw [mn2_ck hc]; exact hc)
    rw [b1, b2, b3, mn2_ck hc]
    refine Ev.neg hc (Ev.step (f := fun k => gangsawlaw12_ShiftMoves.j1 k a1 a2 0 (ck sh fr) 0 (ck sh fr) 0 (ck sh fr) (ck sh fr) sh fr) (fun _ => rfl) ?_)
    exact mov_bad _ _ _ _ _ hc
  have hV := Val.of hc
  rw [hc]
  refine Ev.pos rfl (Ev.cbind (minute_is a1) ?_)
  have badE : (offMin a1 || offMin a2) = true → Ev (fun k => gangsawlaw12_ShiftMoves.j0 k a1 a2 (afterP sh fr a1 a2).1 (afterP sh fr a1 a2).2 (beforeP sh fr a1 a2).1 (beforeP sh fr a1 a2).2 (wholeP sh fr a1 a2).1 (wholeP sh fr a1 a2).2 0 true sh fr) true := fun h => by
    have e6 : mn2 sh fr [a1, a2] = 6 := mn2_off hc (by simpa using h)
    obtain ⟨b1, b2, b3⟩ := bad (by rw [e6]; decide)
    rw [b1, b2, b3, e6]
    refine Ev.step (f := fun k => gangsawlaw12_ShiftMoves.j1 k a1 a2 0 6 0 6 0 6 6 sh fr) (fun _ => rfl) ?_
    exact mov_bad _ _ _ _ _ (by decide)
  cases h1 : offMin a1 with
  | true => exact Ev.neg (by decide) (badE (by rw [h1]; rfl))
  | false =>
  refine Ev.pos rfl (Ev.cbind (minute_is a2) ?_)
  rw [Bool.not_not]
  cases h2 : offMin a2 with
  | true => exact badE (by rw [h1, h2]; rfl)
  | false =>
  have r1 := (offMin_is' a1).1 h1
  have r2 := (offMin_is' a2).1 h2
  have hm := mn2_in hc r1 r2
  have eA : afterP sh fr a1 a2 = if a2 = 0 then (a1, 0) else afterF a2 (cutL a1 (Z0 sh fr)) := by unfold afterP; rw [if_pos hm]
  have eB : beforeP sh fr a1 a2 = if a2 = 0 then (a1, 0) else backF a2 (cutB a1 (Z0 sh fr)).reverse := by unfold beforeP; rw [if_pos hm]
  have eW : wholeP sh fr a1 a2 = wholeF (max a2 1) a1 a1 (cutL a1 (Z0 sh fr)) := by unfold wholeP; rw [if_pos hm]
  obtain ⟨gA, hA, kA⟩ := rafter_ev hV r1 r2
  obtain ⟨gB, hB, kB⟩ := rbefore_ev hV r1 r2
  obtain ⟨gW, hW, kW⟩ := rwhole_ev hV r1 r2
  rw [← eA] at kA
  rw [← eB] at kB
  rw [← eW] at kW
  generalize afterP sh fr a1 a2 = pA at kA
  generalize beforeP sh fr a1 a2 = pB at kB
  generalize wholeP sh fr a1 a2 = pW at kW
  refine Ev.step (f := fun k => gangsawlaw12_ShiftMoves.j1 k a1 a2 pA.1 pA.2 pB.1 pB.2 pW.1 pW.2 0 sh fr) (fun _ => rfl) (Ev.succ ?_)
  simp only [gangsawlaw12_ShiftMoves.j1]
  refine Ev.pos (by trivial) (Ev.bind awake_ev (Ev.pos rfl (Ev.bind hA (Ev.cbind (answer_is kA) (Ev.pos rfl (Ev.bind hB (Ev.cbind (answer_is kB) (Ev.pos rfl (Ev.bind hW (Ev.cbind (answer_is kW) mov_j3))))))))))
end Go.Proofs.Ytpjgmlnnhcnelaa.Pure
