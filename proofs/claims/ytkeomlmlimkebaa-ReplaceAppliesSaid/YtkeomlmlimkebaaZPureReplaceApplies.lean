/-
  ReplaceApplies: Apply returns the plan behind changes, or the first error.
-/
import Derived.Test.YtkeomlmlimkebaaZRpA
import Derived.Test.YtkeomlmlimkebaaZQAx24
import Derived.Test.YtkeomlmlimkebaaZQAx11
namespace Go.Proofs.Ytkeomlmlimkebaa.Pure
open Go.RowKit Go.Proofs.Ytkeomlmlimkebaa.QA Go.Proofs.YtkeomlmlimkebaaW.PrintWords Go.Proofs.YtkeomlmlimkebaaW.PrintLast Go.Proofs.YtkeomlmlimkebaaW.PrintMore Go.Proofs.Ytkeomlmlimkebaa.EvKit Go.Proofs.Ytkeomlmlimkebaa.Rq
set_option linter.unusedVariables false
set_option linter.unusedSimpArgs false
theorem ap_zero : Ev (fun k => r_Same.f k [] 0 [] [] [] 0 [] []) true := same_refl [] 0 [] [] (by simp) (by simp) (by simp) (fun j hj => by simp at hj)
theorem ReplaceApplies : w_ReplaceApplies.Pure := by
  intro F p U X l o0 o1 o2 o3 o4
  refine Ev.rounds ?_
  have hoff : Ev (fun k => w_ReplaceApplies.j0 k l true F p U X) true := by
    refine Ev.succ ?_
    simp only [w_ReplaceApplies.j0]
    exact Ev.pos (by trivial) awake_some
  unfold w_ReplaceApplies.f
  obtain ⟨b, hb, hb2⟩ := few_ev F p U X
  refine Ev.bind hb (Ev.ite (fun h => ?_) (fun _ => hoff))
  obtain ⟨h1, h2, h3, h4⟩ := hb2 h
  by_cases hl : (l.length : Int) > 70
  · rw [decide_eq_true hl]; exact hoff
  rw [decide_eq_false hl]
  obtain ⟨e, he, her⟩ := check_same F p U X h4
  refine Ev.succ ?_
  simp only [w_ReplaceApplies.j0]
  refine Ev.neg (by decide) (Ev.cbind (a := (F, p, U, X)) rfl ?_)
  dsimp only
  refine Ev.bind (back_ev l (by omega)) ?_
  by_cases c0 : e = 0
  · subst c0
    have hG := Good.of he
    have hn1 := hG.ok.n1
    have hn2 := hG.ok.n2
    have hn3 := hG.ok.n3
    have hj2 : Ev (fun k => w_ReplaceApplies.j2 k true) true := Ev.step (f := fun _ => some true) (fun _ => rfl) (Ev.now _)
    refine Ev.cbind (prog_apply hG he (l.map c52) (by rw [List.length_map]; omega)) (Ev.cbind her (Ev.pos rfl (Ev.bind (ref_apply hG l (by omega)) (Ev.bind awake_ev (Ev.pos rfl (Ev.pos rfl ?_))))))
    refine Ev.cbind (a := ((finR F p X (aplL F U X (l.map c52) [] U)).1, (finR F p X (aplL F U X (l.map c52) [] U)).2.1, (finR F p X (aplL F U X (l.map c52) [] U)).2.2.1, (finR F p X (aplL F U X (l.map c52) [] U)).2.2.2.1)) rfl ?_
    dsimp only
    refine Ev.bind (a := true) ?_ hj2
    cases hA : aplL F U X (l.map c52) [] U with
    | inl z => exact ap_zero
    | inr V =>
      obtain ⟨g1, g2⟩ := aplL_ok hG (l.map c52) [] U V rfl (check_ok he).2.2.2.2.2.2.1 hA
      by_cases hq : twB V = true
      · have : finR F p X (.inr V) = ([], 0, [], [], 5) := if_pos hq
        rw [this]; exact ap_zero
      · have : finR F p X (.inr V) = (F, p, V, X, 0) := if_neg hq
        rw [this]
        exact same_refl F p V X (by omega) (by omega) (by omega) h4
  · have hP : replace_Apply.f F p U X (l.map c52) = some ([], 0, [], [], e) := by
      unfold replace_Apply.f
      rw [he]
      show (if e = 0 then _ else _) = _
      rw [if_neg c0]
    refine Ev.cbind hP (Ev.cbind her (Ev.neg c0 (Ev.bind awake_ev (Ev.pos rfl (Ev.pos rfl (Ev.cbind (a := ([], 0, [], [])) rfl ?_))))))
    dsimp only
    exact Ev.bind ap_zero (Ev.step (f := fun _ => some true) (fun _ => rfl) (Ev.now _))
end Go.Proofs.Ytkeomlmlimkebaa.Pure
