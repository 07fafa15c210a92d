import Derived.Test.YtcembjgpcbodcaaDSPg2
import Derived.Test.YtcembjgpcbodcaaDSQAx16
import Derived.Test.YtcembjgpcbodcaaDSQAx6
/-
  PolygonSides: on which side of a polygon a point lies.
-/
namespace Go.Proofs.Ytcembjgpcbodcaa.Pure
open Go.RowKit Go.Proofs.Ytcembjgpcbodcaa.QA Go.Proofs.YtcembjgpcbodcaaW.PrintWords Go.Proofs.YtcembjgpcbodcaaW.PrintLast Go.Proofs.YtcembjgpcbodcaaW.PrintMore Go.Proofs.Ytcembjgpcbodcaa.EvKit Go.Proofs.Ytcembjgpcbodcaa.Pg
set_option linter.unusedVariables false
set_option linter.unusedSimpArgs false
def crB (a b q : S23) : Bool := (decide (a.f1 ≤ q.f1) && (decide (q.f1 < b.f1) && decide (ori a b q > 0))) || (decide (b.f1 ≤ q.f1) && (decide (q.f1 < a.f1) && decide (ori a b q < 0)))
def flip (c b : Bool) : Bool := if c = true then !b else b
def sideL (p : List S23) (q : S23) : Nat → Nat → Bool → Int
  | _, 0, b => if b = true then 1 else -1
  | i, m + 1, b => if onB (pt p i) (pt p (nx p i)) q = true then 0 else sideL p q (i + 1) m (flip (crB (pt p i) (pt p (nx p i)) q) b)
theorem side_l0 {p : List S23} (h : 3 ≤ p.length) (hl : p.length ≤ 64) (q : S23) : ∀ m i b, p.length = i + m → Ev (fun k => polygon_Side.l0 k p b p (p.length : Int) (i : Int) q.f0 q.f1) (sideL p q i m b, 0) := by
  intro m
  induction m with
  | zero =>
    intro i b hi
    refine Ev.succ ?_
    simp only [polygon_Side.l0]
    refine Ev.neg (by omega) ?_
    cases b
    · exact Ev.neg (by decide) (Ev.now _)
    · exact Ev.pos rfl (Ev.now _)
  | succ m ih =>
    intro i b hi
    have hn := nx_lt h i
    have go : ∀ c b', flip c b = b' → crB (pt p i) (pt p (nx p i)) q = c → ¬ onB (pt p i) (pt p (nx p i)) q = true → Ev (fun k => polygon_Side.l0 k p b' p (p.length : Int) ((i + 1 : Nat) : Int) q.f0 q.f1) (sideL p q i (m + 1) b, 0) := fun c b' e1 e2 e3 => by
      rw [sideL, if_neg e3, e2, e1]
      exact ih (i + 1) b' (by omega)
    refine Ev.succ ?_
    simp only [polygon_Side.l0]
    refine Ev.pos (by omega) (Ev.pos (by omega) (Ev.pos (by omega) (Ev.cbind (end_is h hl i (by omega)) ?_)))
    rw [rd_is, stp (by omega)]
    have ho := ori_is (pt p i) (pt p (nx p i)) q
    refine Ev.bind (on_ev (pt p i) (pt p (nx p i)) q) (Ev.ite (fun hon => Ev.eq (Ev.now _) (by rw [sideL, if_pos hon])) (fun hon => ?_))
    have no : ∀ {x : Prop}, crB (pt p i) (pt p (nx p i)) q = false → Ev (fun k => polygon_Side.l0 k p b p (p.length : Int) ((i + 1 : Nat) : Int) q.f0 q.f1) (sideL p q i (m + 1) b, 0) := fun e => go false b rfl e hon
    have yes : crB (pt p i) (pt p (nx p i)) q = true → Ev (fun k => polygon_Side.l0 k p (!b) p (p.length : Int) ((i + 1 : Nat) : Int) q.f0 q.f1) (sideL p q i (m + 1) b, 0) := fun e => go true (!b) rfl e hon
    have down : ¬ ((pt p i).f1 ≤ q.f1 ∧ q.f1 < (pt p (nx p i)).f1 ∧ ori (pt p i) (pt p (nx p i)) q > 0) → Ev (fun k => if (pt p (nx p i)).f1 ≤ q.f1 then (if q.f1 < (pt p i).f1 then ((polygon_Orient.f (pt p i).f0 (pt p i).f1 (pt p (nx p i)).f0 (pt p (nx p i)).f1 q.f0 q.f1).bind fun t161 => (if t161 < 0 then (polygon_Side.l0 k p (!b) p (p.length : Int) ((i + 1 : Nat) : Int) q.f0 q.f1) else (polygon_Side.l0 k p b p (p.length : Int) ((i + 1 : Nat) : Int) q.f0 q.f1))) else (polygon_Side.l0 k p b p (p.length : Int) ((i + 1 : Nat) : Int) q.f0 q.f1)) else (polygon_Side.l0 k p b p (p.length : Int) ((i + 1 : Nat) : Int) q.f0 q.f1)) (sideL p q i (m + 1) b, 0) := fun hno => by
      refine Ev.ite (fun h1 => Ev.ite (fun h2 => Ev.cbind ho (Ev.ite (fun h3 => yes ?_) (fun h3 => no (x := True) ?_))) (fun h2 => no (x := True) ?_)) (fun h1 => no (x := True) ?_)
      · unfold crB; rw [decide_eq_true h1, decide_eq_true h2, decide_eq_true h3]; simp
      all_goals
        rw [← Bool.not_eq_true]
        unfold crB
        simp only [Bool.or_eq_true, Bool.and_eq_true, decide_eq_true_eq]
        omega
    refine Ev.ite (fun h1 => Ev.ite (fun h2 => Ev.cbind ho (Ev.ite (fun h3 => yes ?_) (fun h3 => down (by omega)))) (fun h2 => down (by omega))) (fun h1 => down (by omega))
    unfold crB; rw [decide_eq_true h1, decide_eq_true h2, decide_eq_true h3]; simp
theorem rside_l0 {p : List S23} (h : 3 ≤ p.length) (hl : p.length ≤ 64) (q : S23) : ∀ m i b, p.length = i + m → Ev (fun k => gangsawref05_Side.l0 k p b (i : Int) q.f0 q.f1) (sideL p q i m b) := by
  intro m
  induction m with
  | zero =>
    intro i b hi
    refine Ev.succ ?_
    simp only [gangsawref05_Side.l0]
    refine Ev.neg (by omega) ?_
    cases b
    · exact Ev.neg (by decide) (Ev.now _)
    · exact Ev.pos rfl (Ev.now _)
  | succ m ih =>
    intro i b hi
    have hn := nx_lt h i
    refine Ev.succ ?_
    simp only [gangsawref05_Side.l0]
    refine Ev.pos (by omega) (Ev.pos (by omega) (Ev.cbind (next_is h hl i (by omega)) (Ev.pos (by omega) (Ev.pos (by omega) ?_))))
    rw [rd_is, rd_is, stp (by omega)]
    have ho := rori_is (pt p i) (pt p (nx p i)) q
    refine Ev.bind (ron_ev (pt p i) (pt p (nx p i)) q) (Ev.ite (fun hon => Ev.eq (Ev.now _) (by rw [sideL, if_pos hon])) (fun hon => ?_))
    have go : ∀ b', flip (crB (pt p i) (pt p (nx p i)) q) b = b' → Ev (fun k => gangsawref05_Side.l0 k p b' ((i + 1 : Nat) : Int) q.f0 q.f1) (sideL p q i (m + 1) b) := fun b' e => by
      rw [sideL, if_neg hon, e]
      exact ih (i + 1) b' (by omega)
    have yes : crB (pt p i) (pt p (nx p i)) q = true → Ev (fun k => gangsawref05_Side.l0 k p (!b) ((i + 1 : Nat) : Int) q.f0 q.f1) (sideL p q i (m + 1) b) := fun e => go (!b) (by rw [e]; rfl)
    have no : crB (pt p i) (pt p (nx p i)) q = false → Ev (fun k => gangsawref05_Side.l0 k p b ((i + 1 : Nat) : Int) q.f0 q.f1) (sideL p q i (m + 1) b) := fun e => go b (by rw [e]; rfl)
    have hcr : crB (pt p i) (pt p (nx p i)) q = true ↔ ((pt p i).f1 ≤ q.f1 ∧ q.f1 < (pt p (nx p i)).f1 ∧ ori (pt p i) (pt p (nx p i)) q > 0) ∨ ((pt p (nx p i)).f1 ≤ q.f1 ∧ q.f1 < (pt p i).f1 ∧ ori (pt p i) (pt p (nx p i)) q < 0) := by unfold crB; simp only [Bool.or_eq_true, Bool.and_eq_true, decide_eq_true_eq]
    have nocr : ¬ (((pt p i).f1 ≤ q.f1 ∧ q.f1 < (pt p (nx p i)).f1 ∧ ori (pt p i) (pt p (nx p i)) q > 0) ∨ ((pt p (nx p i)).f1 ≤ q.f1 ∧ q.f1 < (pt p i).f1 ∧ ori (pt p i) (pt p (nx p i)) q < 0)) → crB (pt p i) (pt p (nx p i)) q = false := fun hh => by rw [← Bool.not_eq_true, hcr]; exact hh
    refine Ev.ite (fun hx => ?_) (fun hx => no ?_)
    · have hx' : ((pt p i).f1 > q.f1 ∧ ¬ (pt p (nx p i)).f1 > q.f1) ∨ (¬ (pt p i).f1 > q.f1 ∧ (pt p (nx p i)).f1 > q.f1) := by
        by_cases a1 : (pt p i).f1 > q.f1 <;> by_cases a2 : (pt p (nx p i)).f1 > q.f1 <;> simp [a1, a2] at hx ⊢
      exact Ev.cbind ho (Ev.ite (fun h1 => Ev.ite (fun h2 => yes (hcr.2 (by omega))) (fun h2 => Ev.ite (fun h3 => by omega) (fun h3 => no (nocr (by omega))))) (fun h1 => Ev.ite (fun h3 => Ev.ite (fun h4 => yes (hcr.2 (by omega))) (fun h4 => no (nocr (by omega)))) (fun h3 => no (nocr (by omega)))))
    · have hx' : ((pt p i).f1 > q.f1 ↔ (pt p (nx p i)).f1 > q.f1) := by
        by_cases a1 : (pt p i).f1 > q.f1 <;> by_cases a2 : (pt p (nx p i)).f1 > q.f1 <;> simp [a1, a2] at hx ⊢
      exact nocr (by omega)
def sideP (p : List S23) (q : S23) : Int × Int := if ckQ p [q] = 0 then (if simB p = true then (sideL p q 0 p.length false, 0) else (0, 10)) else (0, ckQ p [q])
theorem ckQ_one (p : List S23) (q : S23) : ckQ p [q] = if nearP q = true then ckP p else if ckP p = 0 ∨ ckP p = 5 then 6 else ckP p := by
  unfold ckQ ckP
  simp only [List.all_cons, List.all_nil, Bool.and_true]
  split
  · split <;> simp
  · split
    · split <;> simp
    · split
      · split
        · rfl
        · split <;> simp
      · split <;> simp
theorem side_ev (p : List S23) (q : S23) : Ev (fun k => polygon_Side.f k p q.f0 q.f1) (sideP p q) := by
  unfold polygon_Side.f sideP
  refine Ev.bind (check_ev p [q]) (Ev.ite (fun hc => ?_) (fun hc => by rw [if_neg hc]; exact Ev.now _))
  rw [if_pos hc]
  have hV : Val p := by
    rw [ckQ_one] at hc
    split at hc
    · exact Val.of hc
    · split at hc
      · cases hc
      · rename_i h; exact (h (.inl hc)).elim
  refine Ev.bind (simple_ev hV.l hV.h) (Ev.ite (fun hs => ?_) (fun hs => by rw [if_neg hs]; exact Ev.now _))
  rw [if_pos hs]
  exact side_l0 hV.l hV.h q p.length 0 false (by omega)
theorem sides_j1 (p : List S23) (q : S23) (hn : nearP q = true) : Ev (fun k => gangsawlaw05_PolygonSides.j1 k p (sideP p q).1 (sideP p q).2 (ckP p) q.f0 q.f1) true := by
  have hQ : ckQ p [q] = ckP p := by rw [ckQ_one, if_pos hn]
  by_cases hc : ckP p = 0
  · have hV := Val.of hc
    have hs := sim_same hV
    rw [hc]
    refine Ev.step (f := fun k => (gangsawref05_Simple.f k p).bind fun t335 => (if t335 = true then (if (sideP p q).2 = 0 then ((gangsawref05_Side.f k p q.f0 q.f1).bind fun t336 => (some ((sideP p q).1 == t336))) else (some false)) else (if (sideP p q).2 = 10 then (some ((sideP p q).1 == 0)) else (some false)))) (fun _ => rfl) ?_
    refine Ev.bind (rsimple_ev hV.l hV.h) (Ev.ite (fun h1 => ?_) (fun h1 => ?_))
    · have e : sideP p q = (sideL p q 0 p.length false, 0) := by unfold sideP; rw [hQ, if_pos hc, if_pos (by rw [hs]; exact h1)]
      rw [e]
      have hside : Ev (fun k => gangsawref05_Side.f k p q.f0 q.f1) (sideL p q 0 p.length false) := by
        unfold gangsawref05_Side.f
        exact rside_l0 hV.l hV.h q p.length 0 false (by omega)
      exact Ev.pos rfl (Ev.bind hside (Ev.eq (Ev.now _) (beq_self_eq_true _)))
    · have e : sideP p q = (0, 10) := by unfold sideP; rw [hQ, if_pos hc, if_neg (by rw [hs]; exact h1)]
      rw [e]
      exact Ev.pos rfl (Ev.now _)
  · have e : sideP p q = (0, ckP p) := by unfold sideP; rw [hQ, if_neg hc]
    rw [e]
    refine Ev.succ ?_
    simp only [gangsawlaw05_PolygonSides.j1]
    exact Ev.neg hc (Ev.pos (by trivial) (Ev.now _))
theorem PolygonSides : gangsawlaw05_PolygonSides.Pure := by
  intro p q0 q1 _ _ _
  refine Ev.rounds ?_
  obtain ⟨q, hq⟩ : ∃ q : S23, q = ⟨q0, q1⟩ := ⟨_, rfl⟩
  have e0 : q0 = q.f0 := by rw [hq]
  have e1 : q1 = q.f1 := by rw [hq]
  rw [e0, e1]
  clear hq
  unfold gangsawlaw05_PolygonSides.f
  refine Ev.bind awake_ev (Ev.pos rfl (Ev.bind (few_ev p) (Ev.ite (fun hf => ?_) (fun _ => Ev.now _))))
  refine Ev.bind (side_ev p q) (Ev.bind (rcheck_ev p) ?_)
  have hA : Ev (fun k => gangsawref05_Allowed.f k q.f0 q.f1) (nearP q) := allowed_ev q.f0 q.f1
  have far : ckP p = 0 ∨ ckP p = 5 → nearP q = false → Ev (fun k => gangsawlaw05_PolygonSides.j0 k p (sideP p q).1 (sideP p q).2 (ckP p) true q.f0 q.f1) true := fun hc hn => by
    have hQ : ckQ p [q] = 6 := by rw [ckQ_one, if_neg (by rw [hn]; decide), if_pos hc]
    have e : sideP p q = (0, 6) := by unfold sideP; rw [hQ]; rfl
    rw [e]
    refine Ev.step (f := fun k => gangsawlaw05_PolygonSides.j1 k p 0 6 6 q.f0 q.f1) (fun _ => rfl) (Ev.succ ?_)
    simp only [gangsawlaw05_PolygonSides.j1]
    exact Ev.neg (by decide) (Ev.pos (by trivial) (Ev.now _))
  have near : nearP q = true → Ev (fun k => gangsawlaw05_PolygonSides.j0 k p (sideP p q).1 (sideP p q).2 (ckP p) false q.f0 q.f1) true := fun hn => Ev.step (f := fun k => gangsawlaw05_PolygonSides.j1 k p (sideP p q).1 (sideP p q).2 (ckP p) q.f0 q.f1) (fun _ => rfl) (sides_j1 p q hn)
  refine Ev.ite (fun hc => Ev.bind hA ?_) (fun hc => Ev.ite (fun h5 => Ev.bind hA ?_) (fun h5 => ?_))
  · cases hn : nearP q with
    | true => exact near hn
    | false => exact far (.inl hc) hn
  · cases hn : nearP q with
    | true => exact near hn
    | false => exact far (.inr h5) hn
  · have hQ : ckQ p [q] = ckP p := by
      rw [ckQ_one]
      split
      · rfl
      · rw [if_neg (by omega)]
    have e : sideP p q = (0, ckP p) := by unfold sideP; rw [hQ, if_neg hc]
    rw [e]
    refine Ev.step (f := fun k => gangsawlaw05_PolygonSides.j1 k p 0 (ckP p) (ckP p) q.f0 q.f1) (fun _ => rfl) (Ev.succ ?_)
    simp only [gangsawlaw05_PolygonSides.j1]
    exact Ev.neg hc (Ev.pos (by trivial) (Ev.now _))
end Go.Proofs.Ytcembjgpcbodcaa.Pure
