import Derived.Test.YtcembjgpcbodcaaDPPg2
import Derived.Test.YtcembjgpcbodcaaDPQAx24
import Derived.Test.YtcembjgpcbodcaaDPQAx22
import Derived.Test.YtcembjgpcbodcaaDPQAx23
import Derived.Test.YtcembjgpcbodcaaDPQAx10
import Derived.Test.YtcembjgpcbodcaaDPQAx9
namespace Go.Proofs.Ytcembjgpcbodcaa.Pure
open Go.RowKit Go.Proofs.Ytcembjgpcbodcaa.QA Go.Proofs.YtcembjgpcbodcaaW.PrintWords Go.Proofs.YtcembjgpcbodcaaW.PrintLast Go.Proofs.YtcembjgpcbodcaaW.PrintMore Go.Proofs.Ytcembjgpcbodcaa.EvKit Go.Proofs.Ytcembjgpcbodcaa.Pg
set_option linter.unusedVariables false
set_option linter.unusedSimpArgs false
def arN (p : List S23) : Nat → Nat → Int → Int
  | _, 0, s => s
  | i, m + 1, s => arN p (i + 1) m (wrap64 (s + wrap64 (wrap64 ((pt p i).f0 * (pt p (nx p i)).f1) - wrap64 ((pt p (nx p i)).f0 * (pt p i).f1))))
theorem area_l0 {p : List S23} (h : 3 ≤ p.length) (hl : p.length ≤ 64) : ∀ m i s, p.length = i + m → Ev (fun k => p_area.l0 k p s p (p.length : Int) (i : Int)) (arN p i m s) := by
  intro m
  induction m with
  | zero =>
    intro i s hi
    refine Ev.succ ?_
    simp only [p_area.l0]
    exact Ev.neg (by omega) (Ev.now _)
  | succ m ih =>
    intro i s hi
    refine Ev.succ ?_
    simp only [p_area.l0]
    refine Ev.pos (by omega) (Ev.pos (by omega) (Ev.pos (by omega) (Ev.cbind (end_is h hl i (by omega)) ?_)))
    rw [rd_is, stp (by omega)]
    exact ih (i + 1) _ (by omega)
theorem rarea_l0 {p : List S23} (h : 3 ≤ p.length) (hl : p.length ≤ 64) : ∀ m i s, p.length = i + m → Ev (fun k => r_Area2.l0 k p s (i : Int)) (arN p i m s) := by
  intro m
  induction m with
  | zero =>
    intro i s hi
    refine Ev.succ ?_
    simp only [r_Area2.l0]
    exact Ev.neg (by omega) (Ev.now _)
  | succ m ih =>
    intro i s hi
    have hn := nx_lt h i
    refine Ev.succ ?_
    simp only [r_Area2.l0]
    refine Ev.pos (by omega) (Ev.cbind (next_is h hl i (by omega)) (Ev.pos (by omega) (Ev.pos (by omega) (Ev.pos (by omega) ?_))))
    rw [rd_is, rd_is, stp (by omega)]
    exact ih (i + 1) _ (by omega)
def areaP (p : List S23) : Int × Int := if ckP p = 0 then (arN p 0 p.length 0, 0) else (0, ckP p)
theorem area_ev (p : List S23) : Ev (fun k => p_Area2.f k p) (areaP p) := by
  unfold p_Area2.f areaP
  refine Ev.bind (check_ev p []) ?_
  rw [ckQ_nil]
  refine Ev.ite (fun hc => ?_) (fun hc => by rw [if_neg hc]; exact Ev.now _)
  have hV := Val.of hc
  rw [if_pos hc]
  refine Ev.bind (g := fun k => p_area.f k p) ?_ (Ev.now _)
  unfold p_area.f
  exact area_l0 hV.l hV.h p.length 0 0 (by omega)
def bndL (p : List S23) : Nat → Nat → Int × Int × Int × Int → Int × Int × Int × Int
  | _, 0, s => s
  | i, m + 1, s => bndL p (i + 1) m (mn s.1 (pt p i).f0, mn s.2.1 (pt p i).f1, mx s.2.2.1 (pt p i).f0, mx s.2.2.2 (pt p i).f1)
theorem bnd_l0 {p : List S23} (hl : p.length ≤ 64) : ∀ m i a b c d, p.length = i + m → Ev (fun k => p_Bounds.l0 k p (p.length : Int) (i : Int) a b c d) ((bndL p i m (a, b, c, d)).1, (bndL p i m (a, b, c, d)).2.1, (bndL p i m (a, b, c, d)).2.2.1, (bndL p i m (a, b, c, d)).2.2.2, 0) := by
  intro m
  induction m with
  | zero =>
    intro i a b c d hi
    refine Ev.succ ?_
    simp only [p_Bounds.l0]
    exact Ev.neg (by omega) (Ev.now _)
  | succ m ih =>
    intro i a b c d hi
    refine Ev.succ ?_
    simp only [p_Bounds.l0]
    refine Ev.pos (by omega) (Ev.pos (by omega) (Ev.pos (by omega) ?_))
    rw [rd_is, stp (by omega)]
    exact ih (i + 1) _ _ _ _ (by omega)
theorem rbnd_l0 {p : List S23} (hl : p.length ≤ 64) : ∀ m i a b c d, p.length = i + m → Ev (fun k => r_Bounds.l0 k p (i : Int) a b c d) (bndL p i m (a, b, c, d)) := by
  intro m
  induction m with
  | zero =>
    intro i a b c d hi
    refine Ev.succ ?_
    simp only [r_Bounds.l0]
    exact Ev.neg (by omega) (Ev.now _)
  | succ m ih =>
    intro i a b c d hi
    refine Ev.succ ?_
    simp only [r_Bounds.l0]
    refine Ev.pos (by omega) (Ev.pos (by omega) ?_)
    rw [rd_is, stp (by omega)]
    exact ih (i + 1) _ _ _ _ (by omega)
def bnd0 (p : List S23) : Int × Int × Int × Int := bndL p 0 p.length ((pt p 0).f0, (pt p 0).f1, (pt p 0).f0, (pt p 0).f1)
def bndP (p : List S23) : Int × Int × Int × Int × Int := if ckP p = 0 then ((bnd0 p).1, (bnd0 p).2.1, (bnd0 p).2.2.1, (bnd0 p).2.2.2, 0) else (0, 0, 0, 0, ckP p)
theorem bnd_ev (p : List S23) : Ev (fun k => p_Bounds.f k p) (bndP p) := by
  unfold p_Bounds.f bndP
  refine Ev.bind (check_ev p []) ?_
  rw [ckQ_nil]
  refine Ev.ite (fun hc => ?_) (fun hc => by rw [if_neg hc]; exact Ev.now _)
  have hV := Val.of hc
  have hl := hV.l
  rw [if_pos hc]
  have e0 : rd_T23 p 0 = pt p 0 := rd_is p 0
  rw [e0]
  exact Ev.pos (by omega) (bnd_l0 hV.h p.length 0 _ _ _ _ (by omega))
theorem rev_l0 {p : List S23} (hl : p.length ≤ 100) : ∀ j, j ≤ p.length → Ev (fun k => r_Reverse.l0 k p (p.drop j).reverse ((j : Int) - 1)) p.reverse := by
  intro j
  induction j with
  | zero =>
    intro h
    refine Ev.succ ?_
    simp only [r_Reverse.l0]
    exact Ev.neg (by omega) (Ev.now _)
  | succ j ih =>
    intro h
    refine Ev.succ ?_
    simp only [r_Reverse.l0]
    have ej : ((j + 1 : Nat) : Int) - 1 = (j : Int) := by omega
    have hlen : (p.drop (j + 1)).reverse.length < 8796093022208 := by rw [List.length_reverse, List.length_drop]; omega
    rw [ej]
    refine Ev.pos (by omega) (Ev.pos (by omega) (Ev.pos (by omega) (Ev.pos hlen ?_)))
    rw [rd_is, w64 (n := (j : Int) - 1) (by omega) (by omega)]
    have e : (p.drop (j + 1)).reverse ++ [(⟨(pt p j).f0, (pt p j).f1⟩ : S23)] = (p.drop j).reverse := by
      have e1 : p.drop j = pt p j :: p.drop (j + 1) := drop_cons p j z23 (by omega)
      rw [e1, List.reverse_cons]
    rw [e]
    exact ih (by omega)
theorem rrev_ev {p : List S23} (hl : p.length ≤ 100) : Ev (fun k => r_Reverse.f k p) p.reverse := by
  unfold r_Reverse.f
  rw [w64 (n := (p.length : Int) - 1) (by omega) (by omega)]
  have := rev_l0 hl p.length (Nat.le_refl _)
  rwa [List.drop_length, List.reverse_nil] at this
theorem rev_is {p : List S23} (hl : p.length ≤ 100) : p_Reverse.f p = some p.reverse := by
  unfold p_Reverse.f api_Point_57.f api_Point_58.f
  rw [if_pos (by omega), Option.bind_some, if_pos (by omega), Option.bind_some]
theorem same_l0 (p : List S23) (hl : p.length ≤ 100) : ∀ m i, p.length = i + m → Ev (fun k => r_Same.l0 k p p (i : Int)) true := by
  intro m
  induction m with
  | zero =>
    intro i hi
    refine Ev.succ ?_
    simp only [r_Same.l0]
    exact Ev.neg (by omega) (Ev.now _)
  | succ m ih =>
    intro i hi
    refine Ev.succ ?_
    simp only [r_Same.l0]
    refine Ev.pos (by omega) (Ev.pos (by omega) (Ev.pos (by omega) (Ev.neg (by simp) ?_)))
    rw [stp (by omega)]
    exact ih (i + 1) (by omega)
theorem same_ev (p : List S23) (hl : p.length ≤ 100) : Ev (fun k => r_Same.f k p p) true := by
  unfold r_Same.f
  exact Ev.pos rfl (same_l0 p hl p.length 0 (by omega))
theorem PolygonChecks : w_PolygonChecks.Pure := by
  intro p _
  refine Ev.rounds ?_
  unfold w_PolygonChecks.f
  refine Ev.bind awake_ev (Ev.pos rfl (Ev.bind (few_ev p) (Ev.ite (fun hf => ?_) (fun _ => Ev.now _))))
  have hl : p.length ≤ 100 := by
    unfold fewP at hf
    simp only [Bool.or_eq_true, Bool.and_eq_true, decide_eq_true_eq] at hf
    omega
  have hck : Ev (fun k => p_Check.f k p) (ckP p) := by
    unfold p_Check.f
    have := check_ev p []
    rw [ckQ_nil] at this
    exact Ev.bind this (Ev.now _)
  have h1 : (areaP p).2 = ckP p := by unfold areaP; split <;> simp_all
  have h2 : (bndP p).2.2.2.2 = ckP p := by unfold bndP; split <;> simp_all
  have hr : p.reverse.length ≤ 100 := by rw [List.length_reverse]; exact hl
  refine Ev.bind (rcheck_ev p) (Ev.bind (area_ev p) (Ev.bind (bnd_ev p) (Ev.bind hck (Ev.pos rfl (Ev.pos h1 (Ev.pos h2 (Ev.cbind (rev_is hl) (Ev.bind (rrev_ev hl) (Ev.bind (same_ev p.reverse hr) ?_)))))))))
  by_cases hc : ckP p = 0
  · have hV := Val.of hc
    have e1 : areaP p = (arN p 0 p.length 0, 0) := by unfold areaP; rw [if_pos hc]
    have e2 : bndP p = ((bnd0 p).1, (bnd0 p).2.1, (bnd0 p).2.2.1, (bnd0 p).2.2.2, 0) := by unfold bndP; rw [if_pos hc]
    rw [e1, e2, hc]
    have hb : Ev (fun k => r_Bounds.f k p) (bnd0 p) := by
      unfold r_Bounds.f
      have e0 : rd_T23 p 0 = pt p 0 := rd_is p 0
      have hl := hV.l
      rw [e0]
      exact Ev.pos (by omega) (rbnd_l0 hV.h p.length 0 _ _ _ _ (by omega))
    have ha : Ev (fun k => r_Area2.f k p) (arN p 0 p.length 0) := by
      unfold r_Area2.f
      exact rarea_l0 hV.l hV.h p.length 0 0 (by omega)
    refine Ev.succ ?_
    simp only [w_PolygonChecks.j0]
    refine Ev.neg (by decide) (Ev.pos (by trivial) (Ev.bind hb (Ev.bind ha (Ev.pos (by trivial) (Ev.pos (by simp) ?_)))))
    rw [beq_self_eq_true, beq_self_eq_true]
    exact Ev.step (f := fun _ => some true) (fun _ => rfl) (Ev.now _)
  · have e1 : areaP p = (0, ckP p) := by unfold areaP; rw [if_neg hc]
    have e2 : bndP p = (0, 0, 0, 0, ckP p) := by unfold bndP; rw [if_neg hc]
    rw [e1, e2]
    refine Ev.succ ?_
    simp only [w_PolygonChecks.j0]
    refine Ev.neg (by decide) (Ev.neg hc (Ev.pos (by trivial) (Ev.pos (by decide) ?_)))
    exact Ev.step (f := fun _ => some true) (fun _ => rfl) (Ev.now _)
end Go.Proofs.Ytcembjgpcbodcaa.Pure
