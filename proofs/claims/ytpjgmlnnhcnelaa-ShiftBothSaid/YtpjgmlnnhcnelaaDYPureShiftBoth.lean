import Derived.Test.YtpjgmlnnhcnelaaDYCom2
import Derived.Test.YtpjgmlnnhcnelaaDYQAx27
namespace Go.Proofs.Ytpjgmlnnhcnelaa.Pure
open Go.RowKit Go.Proofs.Ytpjgmlnnhcnelaa.QA Go.Proofs.YtpjgmlnnhcnelaaW.PrintWords Go.Proofs.YtpjgmlnnhcnelaaW.PrintLast Go.Proofs.YtpjgmlnnhcnelaaW.PrintMore Go.Proofs.Ytpjgmlnnhcnelaa.EvKit Go.Proofs.Ytpjgmlnnhcnelaa.Sh
set_option linter.unusedVariables false
set_option linter.unusedSimpArgs false
theorem ShiftBoth : w_ShiftBoth.Pure := by
  intro a fa b fb m o0 o1 o2 o3 o4
  refine Ev.rounds ?_
  unfold w_ShiftBoth.f
  have off : Ev (fun k => w_ShiftBoth.j0 k m true a fa b fb) true := Ev.step (f := fun k => (w_awake.f k).bind fun t => some t) (fun _ => rfl) awake_some
  have d1 : Ev (fun k => w_ShiftBoth.j1 k true) true := Ev.step (f := fun _ => some _) (fun _ => rfl) (Ev.now _)
  refine Ev.cbind (few_is a fa) (Ev.ite (fun hf => ?_) (fun _ => off))
  refine Ev.cbind (few_is b fb) ?_
  cases hb : fewB b fb with
  | false => exact off
  | true =>
  show Ev (fun k => w_ShiftBoth.j0 k m false a fa b fb) true
  refine Ev.succ ?_
  simp only [w_ShiftBoth.j0]
  refine Ev.neg (by decide) (Ev.cbind (a := (a, fa)) rfl (Ev.cbind (a := (b, fb)) rfl (Ev.bind (com_ev a fa b fb) (Ev.ite (fun he => ?_) (fun _ => awake_some)))))
  have hca : ck a fa = 0 := by
    by_cases h : ck a fa = 0
    · exact h
    · unfold comP at he; rw [if_neg h] at he; exact he
  have hcb : ck b fb = 0 := by
    by_cases h : ck b fb = 0
    · exact h
    · unfold comP at he; rw [if_pos hca, if_neg h] at he; exact he
  have hVa := Val.of hca
  have hVb := Val.of hcb
  have e1 : comP a fa b fb = finC (comS a b) (uniF fa fb) := by unfold comP; rw [if_pos hca, if_pos hcb]
  rw [e1] at he
  obtain ⟨e2, l1, l2⟩ := finC_ok he
  have hcc := ck_com hVa hVb l1 l2
  rw [e1, e2]
  dsimp only
  refine Ev.cbind (a := (a, fa)) rfl (Ev.bind (open_ev a fa m) (Ev.cbind (a := (b, fb)) rfl (Ev.bind (open_ev b fb m) (Ev.bind (open_ev (comS a b) (uniF fa fb) m) (Ev.bind awake_ev (Ev.pos rfl ?_))))))
  have hck : Ev (fun k => (shift_Check.f k (comS a b) (uniF fa fb)).bind fun t => w_ShiftBoth.j1 k (t == 0)) true := Ev.bind (check_ev _ _) (by rw [hcc]; exact d1)
  cases hm : offMin m with
  | true =>
    have ho : ∀ sh fr, ck sh fr = 0 → openP sh fr m = (false, 6) := fun sh fr hc => by
      unfold openP
      rw [mn2_off hc (by simp [hm])]
      rfl
    rw [ho a fa hca, ho b fb hcb, ho _ _ hcc]
    exact Ev.pos (by trivial) (Ev.pos (by trivial) (Ev.neg (by decide) (Ev.pos rfl hck)))
  | false =>
    have hi := (offMin_is' m).1 hm
    have ho : ∀ sh fr, ck sh fr = 0 → openP sh fr m = (openR (ofL sh fr (m / 1440)) m, 0) := fun sh fr hc => by unfold openP; rw [if_pos (mn2_in1 hc hi)]
    rw [ho a fa hca, ho b fb hcb, ho _ _ hcc, open_both hVa hVb m hi.1 hi.2]
    refine Ev.pos (by trivial) (Ev.pos (by trivial) (Ev.ite (fun h => ?_) (fun h => ?_)))
    · refine Ev.pos ?_ hck
      have h' : openR (ofL a fa (m / 1440)) m = true := h
      rw [h']
      simp
    · refine Ev.pos ?_ hck
      have h' : openR (ofL a fa (m / 1440)) m = false := by simpa using h
      rw [h']
      simp
end Go.Proofs.Ytpjgmlnnhcnelaa.Pure
