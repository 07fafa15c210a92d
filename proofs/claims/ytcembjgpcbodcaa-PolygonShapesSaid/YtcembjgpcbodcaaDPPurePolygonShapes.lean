import Derived.Test.YtcembjgpcbodcaaDPPurePolygonChecks
import Derived.Test.YtcembjgpcbodcaaDPQAx30
import Derived.Test.YtcembjgpcbodcaaDPQAx26
import Derived.Test.YtcembjgpcbodcaaDPQAx29
import Derived.Test.YtcembjgpcbodcaaDPQAx28
import Derived.Test.YtcembjgpcbodcaaDPQAx10
import Derived.Test.YtcembjgpcbodcaaDPQAx24
import Derived.Test.YtcembjgpcbodcaaDPQAx18
import Derived.Test.YtcembjgpcbodcaaDPQAx7
namespace Go.Proofs.Ytcembjgpcbodcaa.Pure
open Go.RowKit Go.Proofs.Ytcembjgpcbodcaa.QA Go.Proofs.YtcembjgpcbodcaaW.PrintWords Go.Proofs.YtcembjgpcbodcaaW.PrintLast Go.Proofs.YtcembjgpcbodcaaW.PrintMore Go.Proofs.Ytcembjgpcbodcaa.EvKit Go.Proofs.Ytcembjgpcbodcaa.Pg
set_option linter.unusedVariables false
set_option linter.unusedSimpArgs false
def lsB (a b : S23) : Bool := decide (a.f0 < b.f0) || (decide (a.f0 = b.f0) && decide (a.f1 < b.f1))
theorem less_ev (a b : S23) : Ev (fun k => r_Less.f k a.f0 a.f1 b.f0 b.f1) (lsB a b) := by
  unfold r_Less.f lsB
  have hj : ∀ b, Ev (fun k => r_Less.j0 k b) b := fun b => Ev.step (f := fun _ => some b) (fun _ => rfl) (Ev.now _)
  refine Ev.ite (fun h1 => Ev.eq (hj _) ?_) (fun h1 => Ev.ite (fun h2 => Ev.eq (hj _) ?_) (fun h2 => Ev.eq (hj _) ?_))
  · rw [decide_eq_true h1]; rfl
  · rw [decide_eq_false h1, decide_eq_true h2]; rfl
  · rw [decide_eq_false h1, decide_eq_false h2]; rfl
theorem before_ev (a b : S23) : Ev (fun k => p_before.f k a.f0 a.f1 b.f0 b.f1) (cmpB a b) := by
  unfold p_before.f
  refine Ev.cbind (cmpLo_f _ _) (Ev.cbind (cmpLo_f _ _) ?_)
  obtain ⟨k, hk⟩ := or_two (cmpLo a.f0 b.f0) (cmpLo a.f1 b.f1)
  exact Ev.bind (Ev.of (cmp_Or_int.mono _) hk) (Ev.now _)
theorem cmp_ls (a b : S23) : (cmpB a b < 0) ↔ lsB a b = true := by
  unfold cmpB lsB cmpLo
  simp only [Bool.or_eq_true, Bool.and_eq_true, decide_eq_true_eq]
  by_cases h1 : a.f0 < b.f0
  · simp [h1]
  · by_cases h2 : a.f0 > b.f0
    · have h3 : ¬ a.f0 = b.f0 := by omega
      simp [h1, h2, h3]
    · have h3 : a.f0 = b.f0 := by omega
      simp only [h1, h2, if_false, if_true, false_or, h3, true_and]
      by_cases h4 : a.f1 < b.f1
      · simp [h4]
      · by_cases h5 : a.f1 > b.f1 <;> simp [h4, h5]
def mi (p : List S23) : Nat → Nat → Nat → Nat
  | _, 0, b => b
  | i, m + 1, b => mi p (i + 1) m (if lsB (pt p i) (pt p b) = true then i else b)
def canP (p : List S23) : List S23 := p.drop (mi p 0 p.length 0) ++ p.take (mi p 0 p.length 0)
theorem canP_length (p : List S23) : (canP p).length = p.length := by
  unfold canP
  rw [List.length_append, List.length_drop, List.length_take]
  omega
theorem can_l0 {p : List S23} (hl : p.length ≤ 100) : ∀ m i b, p.length = i + m → b < p.length → Ev (fun k => p_Canonical.l0 k p (b : Int) (p.length : Int) (i : Int)) (p.drop (mi p i m b) ++ p.take (mi p i m b), 0) := by
  intro m
  induction m with
  | zero =>
    intro i b hi hb
    refine Ev.succ ?_
    simp only [p_Canonical.l0]
    refine Ev.neg (by omega) (Ev.pos (by omega) (Ev.pos (by omega) ?_))
    have e : ∀ b : Nat, api_Point_59.f [p.drop b, p.take b] = some (p.drop b ++ p.take b) := by
      intro b
      unfold api_Point_59.f
      rw [if_pos (by simp; omega)]
      simp
    exact Ev.cbind (e b) (Ev.now _)
  | succ m ih =>
    intro i b hi hb
    refine Ev.succ ?_
    simp only [p_Canonical.l0]
    refine Ev.pos (by omega) (Ev.pos (by omega) (Ev.pos (by omega) (Ev.pos (by omega) (Ev.pos (by omega) ?_))))
    rw [rd_is, rd_is]
    refine Ev.bind (before_ev _ _) ?_
    have h2 : ∀ b' : Nat, b' < p.length → Ev (fun k => p_Canonical.l0 k p (b' : Int) (p.length : Int) (wrap64 ((i : Int) + 1))) (p.drop (mi p (i + 1) m b') ++ p.take (mi p (i + 1) m b'), 0) := by
      intro b' hb'
      rw [stp (by omega)]
      exact ih (i + 1) b' (by omega) hb'
    unfold mi
    refine Ev.ite (fun h => ?_) (fun h => ?_)
    · rw [if_pos ((cmp_ls _ _).mp h)]
      exact h2 i (by omega)
    · rw [if_neg (fun e => h ((cmp_ls _ _).mpr e))]
      exact h2 b hb
theorem rcan_l0 {p : List S23} (hl : p.length ≤ 100) : ∀ m i b, p.length = i + m → b < p.length → Ev (fun k => r_Canonical.l0 k p (b : Int) (i : Int)) (p.drop (mi p i m b) ++ p.take (mi p i m b)) := by
  intro m
  induction m with
  | zero =>
    intro i b hi hb
    refine Ev.succ ?_
    simp only [r_Canonical.l0, Option.bind_some]
    refine Ev.neg (by omega) (Ev.pos (by omega) (Ev.pos (by omega) (Ev.pos ?_ (Ev.pos ?_ (Ev.eq (Ev.now _) ?_)))))
    · simp; omega
    · simp; omega
    · simp [mi]
  | succ m ih =>
    intro i b hi hb
    refine Ev.succ ?_
    simp only [r_Canonical.l0]
    refine Ev.pos (by omega) (Ev.pos (by omega) (Ev.pos (by omega) (Ev.pos (by omega) ?_)))
    rw [rd_is, rd_is]
    refine Ev.bind (less_ev _ _) ?_
    have h2 : ∀ b' : Nat, b' < p.length → Ev (fun k => r_Canonical.l0 k p (b' : Int) (wrap64 ((i : Int) + 1))) (p.drop (mi p (i + 1) m b') ++ p.take (mi p (i + 1) m b')) := by
      intro b' hb'
      rw [stp (by omega)]
      exact ih (i + 1) b' (by omega) hb'
    unfold mi
    refine Ev.ite (fun h => ?_) (fun h => ?_)
    · rw [if_pos h]
      exact h2 i (by omega)
    · rw [if_neg h]
      exact h2 b hb
def turP (p : List S23) : List S23 := if arN p 0 p.length 0 < 0 then canP p.reverse else canP p
theorem turP_length (p : List S23) : (turP p).length = p.length := by
  unfold turP
  split <;> simp [canP_length]
def canR (p : List S23) : List S23 × Int := if ckP p = 0 then (if simB p = true then (turP p, 0) else ([], 10)) else ([], ckP p)
theorem can_ev (p : List S23) : Ev (fun k => p_Canonical.f k p) (canR p) := by
  unfold p_Canonical.f canR
  have h1 := check_ev p []
  rw [ckQ_nil] at h1
  refine Ev.bind h1 (Ev.ite (fun hc => ?_) (fun hc => by rw [if_neg hc]; exact Ev.now _))
  have hV := Val.of hc
  have hl := hV.l
  have hh := hV.h
  rw [if_pos hc]
  refine Ev.bind (simple_ev hl hh) (Ev.ite (fun hs => ?_) (fun hs => by rw [if_neg hs]; exact Ev.now _))
  rw [if_pos hs]
  have ha : Ev (fun k => p_area.f k p) (arN p 0 p.length 0) := by
    unfold p_area.f
    exact area_l0 hl hh p.length 0 0 (by omega)
  have hj : ∀ q : List S23, q.length = p.length → Ev (fun k => p_Canonical.j0 k q) (canP q, 0) := fun q hq =>
    Ev.step (f := fun k => p_Canonical.l0 k q 0 (q.length : Int) 0) (fun _ => rfl) (can_l0 (by omega) q.length 0 0 (by omega) (by omega))
  refine Ev.bind ha (Ev.ite (fun h => ?_) (fun h => ?_))
  · have e : turP p = canP p.reverse := by unfold turP; rw [if_pos h]
    rw [e]
    exact Ev.cbind (rev_is (by omega)) (hj _ (List.length_reverse))
  · have e : turP p = canP p := by unfold turP; rw [if_neg h]
    rw [e]
    exact hj p rfl
theorem rcan_ev {p : List S23} (hV : Val p) : Ev (fun k => r_Canonical.f k p) (turP p) := by
  have hl := hV.l
  have hh := hV.h
  unfold r_Canonical.f
  have ha : Ev (fun k => r_Area2.f k p) (arN p 0 p.length 0) := by
    unfold r_Area2.f
    exact rarea_l0 hl hh p.length 0 0 (by omega)
  have hj : ∀ q : List S23, q.length = p.length → Ev (fun k => r_Canonical.j0 k q) (canP q) := fun q hq =>
    Ev.step (f := fun k => r_Canonical.l0 k q 0 0) (fun _ => rfl) (rcan_l0 (by omega) q.length 0 0 (by omega) (by omega))
  refine Ev.bind ha (Ev.ite (fun h => ?_) (fun h => ?_))
  · have e : turP p = canP p.reverse := by unfold turP; rw [if_pos h]
    rw [e]
    exact Ev.bind (rrev_ev (by omega)) (hj _ (List.length_reverse))
  · have e : turP p = canP p := by unfold turP; rw [if_neg h]
    rw [e]
    exact hj p rfl
def lftB (p : List S23) (i : Nat) : Bool := decide (ori (pt p i) (pt p (nx p i)) (pt p (nx p (nx p i))) = 1)
def allL (p : List S23) : Nat → Nat → Bool
  | _, 0 => true
  | i, m + 1 => lftB p i && allL p (i + 1) m
theorem con_l0 {p : List S23} (h : 3 ≤ p.length) (hl : p.length ≤ 64) : ∀ m i, p.length = i + m → Ev (fun k => p_Convex.l0 k p (p.length : Int) (i : Int)) (allL p i m && simB p, 0) := by
  intro m
  induction m with
  | zero =>
    intro i hi
    refine Ev.succ ?_
    simp only [p_Convex.l0]
    exact Ev.neg (by omega) (Ev.bind (simple_ev h hl) (Ev.eq (Ev.now _) (by simp [allL])))
  | succ m ih =>
    intro i hi
    refine Ev.succ ?_
    simp only [p_Convex.l0]
    refine Ev.pos (by omega) (Ev.pos (by omega) (Ev.pos (by omega) (Ev.cbind (end_is h hl i (by omega)) (Ev.neg (by omega) ?_))))
    rw [tm_is h hl i (by omega)]
    have hn := nx_lt h i
    refine Ev.cbind (end_is h hl (nx p i) (by omega)) ?_
    rw [rd_is]
    refine Ev.cbind (ori_is _ _ _) ?_
    unfold allL lftB
    refine Ev.ite (fun hd => ?_) (fun hd => ?_)
    · rw [decide_eq_true hd, Bool.true_and, stp (by omega)]
      exact ih (i + 1) (by omega)
    · rw [decide_eq_false hd, Bool.false_and, Bool.false_and]
      exact Ev.now _
theorem rcon_l0 {p : List S23} (h : 3 ≤ p.length) (hl : p.length ≤ 64) : ∀ m i, p.length = i + m → Ev (fun k => r_Convex.l0 k p (i : Int)) (allL p i m && rsimB p) := by
  intro m
  induction m with
  | zero =>
    intro i hi
    refine Ev.succ ?_
    simp only [r_Convex.l0]
    exact Ev.neg (by omega) (Ev.bind (rsimple_ev h hl) (Ev.eq (Ev.now _) (by simp [allL])))
  | succ m ih =>
    intro i hi
    refine Ev.succ ?_
    simp only [r_Convex.l0]
    have hn := nx_lt h i
    have hn2 := nx_lt h (nx p i)
    refine Ev.pos (by omega) (Ev.cbind (next_is h hl i (by omega)) (Ev.pos (by omega) (Ev.pos (by omega) (Ev.pos (by omega) (Ev.cbind (next_is h hl (nx p i) (by omega)) (Ev.pos (by omega) (Ev.pos (by omega) ?_)))))))
    rw [rd_is, rd_is, rd_is]
    refine Ev.cbind (rori_is _ _ _) ?_
    unfold allL lftB
    refine Ev.ite (fun hd => ?_) (fun hd => ?_)
    · rw [decide_eq_true hd, Bool.true_and, stp (by omega)]
      exact ih (i + 1) (by omega)
    · rw [decide_eq_false hd, Bool.false_and, Bool.false_and]
      exact Ev.now _
def conR (p : List S23) : Bool × Int := if ckP p = 0 then (allL p 0 p.length && simB p, 0) else (false, ckP p)
theorem con_ev (p : List S23) : Ev (fun k => p_Convex.f k p) (conR p) := by
  unfold p_Convex.f conR
  have h1 := check_ev p []
  rw [ckQ_nil] at h1
  refine Ev.bind h1 (Ev.ite (fun hc => ?_) (fun hc => by rw [if_neg hc]; exact Ev.now _))
  have hV := Val.of hc
  rw [if_pos hc]
  exact con_l0 hV.l hV.h p.length 0 (by omega)
def simR (p : List S23) : Bool × Int := if ckP p = 0 then (simB p, 0) else (false, ckP p)
theorem simR_ev (p : List S23) : Ev (fun k => p_Simple.f k p) (simR p) := by
  unfold p_Simple.f simR
  have h1 := check_ev p []
  rw [ckQ_nil] at h1
  refine Ev.bind h1 (Ev.ite (fun hc => ?_) (fun hc => by rw [if_neg hc]; exact Ev.now _))
  have hV := Val.of hc
  rw [if_pos hc]
  exact Ev.bind (simple_ev hV.l hV.h) (Ev.now _)
theorem PolygonShapes : w_PolygonShapes.Pure := by
  intro p _
  refine Ev.rounds ?_
  unfold w_PolygonShapes.f
  refine Ev.bind awake_ev (Ev.pos rfl (Ev.bind (few_ev p) (Ev.ite (fun hf => ?_) (fun _ => Ev.now _))))
  refine Ev.bind (simR_ev p) (Ev.bind (con_ev p) (Ev.bind (can_ev p) (Ev.bind (rcheck_ev p) (Ev.ite (fun hc => ?_) (fun hc => ?_)))))
  · have hV := Val.of hc
    have hs := sim_same hV
    have e1 : simR p = (simB p, 0) := by unfold simR; rw [if_pos hc]
    have e2 : conR p = (allL p 0 p.length && simB p, 0) := by unfold conR; rw [if_pos hc]
    have e3 : canR p = if simB p = true then (turP p, 0) else ([], 10) := by unfold canR; rw [if_pos hc]
    rw [e1, e2, e3]
    have hrs : Ev (fun k => r_Simple.f k p) (simB p) := by rw [hs]; exact rsimple_ev hV.l hV.h
    have hrc : Ev (fun k => r_Convex.f k p) (allL p 0 p.length && simB p) := by
      unfold r_Convex.f
      rw [hs]
      exact rcon_l0 hV.l hV.h p.length 0 (by omega)
    refine Ev.pos (by trivial) (Ev.pos (by trivial) (Ev.bind hrs (Ev.neg (by simp) (Ev.bind hrc ?_))))
    rw [bne_self_eq_false]
    refine Ev.succ ?_
    simp only [w_PolygonShapes.j1]
    refine Ev.neg (by decide) (Ev.ite (fun h => ?_) (fun h => ?_))
    · rw [if_pos h]
      have hh := hV.h
      refine Ev.pos (by trivial) (Ev.bind (rcan_ev hV) (Ev.bind (same_ev (turP p) (by rw [turP_length]; omega)) (Ev.now _)))
    · rw [if_neg h]
      exact Ev.pos (by trivial) (Ev.now _)
  · have e1 : simR p = (false, ckP p) := by unfold simR; rw [if_neg hc]
    have e2 : conR p = (false, ckP p) := by unfold conR; rw [if_neg hc]
    have e3 : canR p = ([], ckP p) := by unfold canR; rw [if_neg hc]
    rw [e1, e2, e3]
    refine Ev.pos (by trivial) (Ev.pos (by trivial) (Ev.pos (by trivial) (Ev.neg (by simp) (Ev.neg (by simp) ?_))))
    exact Ev.step (f := fun _ => some true) (fun _ => rfl) (Ev.now _)
end Go.Proofs.Ytcembjgpcbodcaa.Pure
