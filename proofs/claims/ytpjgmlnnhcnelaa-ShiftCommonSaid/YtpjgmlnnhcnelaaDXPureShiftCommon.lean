import Derived.Test.YtpjgmlnnhcnelaaDXCom2
import Derived.Test.YtpjgmlnnhcnelaaDXQAx26
namespace Go.Proofs.Ytpjgmlnnhcnelaa.Pure
open Go.RowKit Go.Proofs.Ytpjgmlnnhcnelaa.QA Go.Proofs.YtpjgmlnnhcnelaaW.PrintWords Go.Proofs.YtpjgmlnnhcnelaaW.PrintLast Go.Proofs.YtpjgmlnnhcnelaaW.PrintMore Go.Proofs.Ytpjgmlnnhcnelaa.EvKit Go.Proofs.Ytpjgmlnnhcnelaa.Sh
set_option linter.unusedVariables false
set_option linter.unusedSimpArgs false
theorem csame_l1 (sh : List S54) (fr : List Int) (hf : fr.length ≤ 100) : ∀ m j, fr.length = j + m → Ev (fun k => r_Same.l1 k (j : Int) sh fr sh fr) true := by
  intro m
  induction m with
  | zero =>
    intro j hj
    refine Ev.succ ?_
    simp only [r_Same.l1]
    exact Ev.neg (by omega) (Ev.now _)
  | succ m ih =>
    intro j hj
    refine Ev.succ ?_
    simp only [r_Same.l1]
    refine Ev.pos (by omega) (Ev.pos (by omega) (Ev.pos (by omega) (Ev.pos (by trivial) ?_)))
    rw [nxtN (by omega)]
    exact ih (j + 1) (by omega)
theorem csame_l0 (sh : List S54) (fr : List Int) (hs : sh.length ≤ 100) (hf : fr.length ≤ 100) : ∀ m j, sh.length = j + m → Ev (fun k => r_Same.l0 k (j : Int) sh fr sh fr) true := by
  intro m
  induction m with
  | zero =>
    intro j hj
    refine Ev.succ ?_
    simp only [r_Same.l0]
    exact Ev.neg (by omega) (csame_l1 sh fr hf fr.length 0 (by omega))
  | succ m ih =>
    intro j hj
    refine Ev.succ ?_
    simp only [r_Same.l0]
    refine Ev.pos (by omega) (Ev.pos (by omega) (Ev.pos (by omega) (Ev.neg (by simp) ?_)))
    rw [nxtN (by omega)]
    exact ih (j + 1) (by omega)
theorem csame (sh : List S54) (fr : List Int) (hs : sh.length ≤ 100) (hf : fr.length ≤ 100) : Ev (fun k => r_Same.f k sh fr sh fr) true := by
  unfold r_Same.f
  refine Ev.pos rfl ?_
  rw [bne_self_eq_false]
  exact Ev.step (f := fun k => r_Same.l0 k 0 sh fr sh fr) (fun _ => rfl) (csame_l0 sh fr hs hf sh.length 0 (by omega))
theorem finC_small (c : List S54) (f : List Int) : (finC c f).1.length ≤ 100 ∧ (finC c f).2.1.length ≤ 100 := by
  unfold finC
  split
  · simp
  · dsimp only; omega
theorem ShiftCommon : w_ShiftCommon.Pure := by
  intro a fa b fb o0 o1 o2 o3
  refine Ev.rounds ?_
  unfold w_ShiftCommon.f
  have off : Ev (fun k => w_ShiftCommon.j0 k true a fa b fb) true := Ev.step (f := fun k => (w_awake.f k).bind fun t => some t) (fun _ => rfl) awake_some
  have d2 : Ev (fun k => w_ShiftCommon.j2 k true) true := Ev.step (f := fun _ => some _) (fun _ => rfl) (Ev.now _)
  have d3 : Ev (fun k => w_ShiftCommon.j3 k true) true := Ev.step (f := fun _ => some _) (fun _ => rfl) (Ev.now _)
  refine Ev.cbind (few_is a fa) (Ev.ite (fun hf => ?_) (fun _ => off))
  refine Ev.cbind (few_is b fb) ?_
  cases hb : fewB b fb with
  | false => exact off
  | true =>
  refine Ev.step (f := fun k => (w_ours.f a fa).bind fun bt243 => ((w_ours.f b fb).bind fun bt249 => ((shift_Common.f k bt243.1 bt243.2 bt249.1 bt249.2).bind fun bt255 => ((r_Check.f k a fa).bind fun t263 => (if t263 = 0 then ((r_Check.f k b fb).bind fun t264 => (w_ShiftCommon.j1 k bt255.2.2 t264 a fa b fb bt255.1 bt255.2.1)) else (w_ShiftCommon.j1 k bt255.2.2 t263 a fa b fb bt255.1 bt255.2.1)))))) (fun _ => rfl) ?_
  have bad : ∀ w : Int, w ≠ 0 → Ev (fun k => w_ShiftCommon.j1 k w w a fa b fb [] []) true := fun w hw => by
    refine Ev.succ ?_
    simp only [w_ShiftCommon.j1]
    exact Ev.neg hw (Ev.bind awake_ev (Ev.pos rfl (Ev.pos (by trivial) (Ev.bind (csame [] [] (by simp) (by simp)) d2))))
  refine Ev.cbind (a := (a, fa)) rfl (Ev.cbind (a := (b, fb)) rfl (Ev.bind (com_ev a fa b fb) (Ev.bind (rcheck_ev a fa) (Ev.ite (fun hc => Ev.bind (rcheck_ev b fb) ?_) (fun hc => ?_)))))
  · by_cases hc2 : ck b fb = 0
    · have hVa := Val.of hc
      have hVb := Val.of hc2
      have e1 : comP a fa b fb = finC (comS a b) (uniF fa fb) := by unfold comP; rw [if_pos hc, if_pos hc2]
      have e2 : comP b fb a fa = finC (comS a b) (uniF fa fb) := by unfold comP; rw [if_pos hc2, if_pos hc, comS_comm hVb.p hVa.p, uniF_comm]
      have hs := finC_small (comS a b) (uniF fa fb)
      have h1 := rcom_ev hVa hVb
      have h2 := com_ev b fb a fa
      rw [e2] at h2
      rw [e1, hc2]
      generalize finC (comS a b) (uniF fa fb) = F at hs h1 h2
      refine Ev.succ ?_
      simp only [w_ShiftCommon.j1]
      refine Ev.pos (by trivial) (Ev.bind h1 (Ev.cbind (a := (b, fb)) rfl (Ev.cbind (a := (a, fa)) rfl (Ev.bind h2 (Ev.bind awake_ev (Ev.pos rfl (Ev.pos (by trivial) (Ev.bind (csame _ _ hs.1 hs.2) (Ev.pos rfl (Ev.pos (by trivial) (Ev.bind (csame _ _ hs.1 hs.2) d3)))))))))))
    · have e1 : comP a fa b fb = ([], [], ck b fb) := by unfold comP; rw [if_pos hc, if_neg hc2]
      rw [e1]
      exact bad _ hc2
  · have e1 : comP a fa b fb = ([], [], ck a fa) := by unfold comP; rw [if_neg hc]
    rw [e1]
    exact bad _ hc
end Go.Proofs.Ytpjgmlnnhcnelaa.Pure
