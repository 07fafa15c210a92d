/-
  Side, by itself.
-/
import Derived.Test.YtcembjgpcbodcaaZPg2
import Derived.Test.YtcembjgpcbodcaaZQAx6
namespace Go.Proofs.Ytcembjgpcbodcaa.Pg
open Go.RowKit Go.Proofs.Ytcembjgpcbodcaa.QA Go.Proofs.YtcembjgpcbodcaaW.PrintWords Go.Proofs.YtcembjgpcbodcaaW.PrintLast Go.Proofs.YtcembjgpcbodcaaW.PrintMore Go.Proofs.Ytcembjgpcbodcaa.EvKit
set_option linter.unusedVariables false
set_option linter.unusedSimpArgs false
def crB (a b q : S23) : Bool := (decide (a.f1 ≤ q.f1) && (decide (q.f1 < b.f1) && decide (ori a b q > 0))) || (decide (b.f1 ≤ q.f1) && (decide (q.f1 < a.f1) && decide (ori a b q < 0)))
def flip (c b : Bool) : Bool := if c = true then !b else b
def sideL (p : List S23) (q : S23) : Nat → Nat → Bool → Int
  | _, 0, b => if b = true then 1 else -1
  | i, m + 1, b => if onB (pt p i) (pt p (nx p i)) q = true then 0 else sideL p q (i + 1) m (flip (crB (pt p i) (pt p (nx p i)) q) b)
theorem side_l0 {p : List S23} (h : 3 ≤ p.length) (hl : p.length ≤ 64) (q : S23) : ∀ m i b, p.length = i + m → Ev (fun k => polygon_Side.l0 k p b p (p.length : Int) (i : Int) q.f0 q.f1) (sideL p q i m b, 0) := by
  intro m
  induction m with
  | zero =>
    intro i b hi
    refine Ev.succ ?_
    simp only [polygon_Side.l0]
    refine Ev.neg (by omega) ?_
    cases b
    · exact Ev.neg (by decide) (Ev.now _)
    · exact Ev.pos rfl (Ev.now _)
  | succ m ih =>
    intro i b hi
    have hn := nx_lt h i
    have go : ∀ c b', flip c b = b' → crB (pt p i) (pt p (nx p i)) q = c → ¬ onB (pt p i) (pt p (nx p i)) q = true → Ev (fun k => polygon_Side.l0 k p b' p (p.length : Int) ((i + 1 : Nat) : Int) q.f0 q.f1) (sideL p q i (m + 1) b, 0) := fun c b' e1 e2 e3 => by
      rw [sideL, if_neg e3, e2, e1]
      exact ih (i + 1) b' (by omega)
    refine Ev.succ ?_
    simp only [polygon_Side.l0]
    refine Ev.pos (by omega) (Ev.pos (by omega) (Ev.pos (by omega) (Ev.cbind (end_is h hl i (by omega)) ?_)))
    rw [rd_is, stp (by omega)]
    have ho := ori_is (pt p i) (pt p (nx p i)) q
    refine Ev.bind (on_ev (pt p i) (pt p (nx p i)) q) (Ev.ite (fun hon => Ev.eq (Ev.now _) (by rw [sideL, if_pos hon])) (fun hon => ?_))
    have no : ∀ {x : Prop}, crB (pt p i) (pt p (nx p i)) q = false → Ev (fun k => polygon_Side.l0 k p b p (p.length : Int) ((i + 1 : Nat) : Int) q.f0 q.f1) (sideL p q i (m + 1) b, 0) := fun e => go false b rfl e hon
    have yes : crB (pt p i) (pt p (nx p i)) q = true → Ev (fun k => polygon_Side.l0 k p (!b) p (p.length : Int) ((i + 1 : Nat) : Int) q.f0 q.f1) (sideL p q i (m + 1) b, 0) := fun e => go true (!b) rfl e hon
    have down : ¬ ((pt p i).f1 ≤ q.f1 ∧ q.f1 < (pt p (nx p i)).f1 ∧ ori (pt p i) (pt p (nx p i)) q > 0) → Ev (fun k => if (pt p (nx p i)).f1 ≤ q.f1 then (if q.f1 < (pt p i).f1 then ((polygon_Orient.f (pt p i).f0 (pt p i).f1 (pt p (nx p i)).f0 (pt p (nx p i)).f1 q.f0 q.f1).bind fun t161 => (if t161 < 0 then (polygon_Side.l0 k p (!b) p (p.length : Int) ((i + 1 : Nat) : Int) q.f0 q.f1) else (polygon_Side.l0 k p b p (p.length : Int) ((i + 1 : Nat) : Int) q.f0 q.f1))) else (polygon_Side.l0 k p b p (p.length : Int) ((i + 1 : Nat) : Int) q.f0 q.f1)) else (polygon_Side.l0 k p b p (p.length : Int) ((i + 1 : Nat) : Int) q.f0 q.f1)) (sideL p q i (m + 1) b, 0) := fun hno => by
      refine Ev.ite (fun h1 => Ev.ite (fun h2 => Ev.cbind ho (Ev.ite (fun h3 => yes ?_) (fun h3 => no (x := True) ?_))) (fun h2 => no (x := True) ?_)) (fun h1 => no (x := True) ?_)
      · unfold crB; rw [decide_eq_true h1, decide_eq_true h2, decide_eq_true h3]; simp
      all_goals
        rw [← Bool.not_eq_true]
        unfold crB
        simp only [Bool.or_eq_true, Bool.and_eq_true, decide_eq_true_eq]
        omega
    refine Ev.ite (fun h1 => Ev.ite (fun h2 => Ev.cbind ho (Ev.ite (fun h3 => yes ?_) (fun h3 => down (by omega)))) (fun h2 => down (by omega))) (fun h1 => down (by omega))
    unfold crB; rw [decide_eq_true h1, decide_eq_true h2, decide_eq_true h3]; simp
def sideP (p : List S23) (q : S23) : Int × Int := if ckQ p [q] = 0 then (if simB p = true then (sideL p q 0 p.length false, 0) else (0, 10)) else (0, ckQ p [q])
theorem ckQ_one (p : List S23) (q : S23) : ckQ p [q] = if nearP q = true then ckP p else if ckP p = 0 ∨ ckP p = 5 then 6 else ckP p := by
  unfold ckQ ckP
  simp only [List.all_cons, List.all_nil, Bool.and_true]
  split
  · split <;> simp
  · split
    · split <;> simp
    · split
      · split
        · rfl
        · split <;> simp
      · split <;> simp
theorem side_ev (p : List S23) (q : S23) : Ev (fun k => polygon_Side.f k p q.f0 q.f1) (sideP p q) := by
  unfold polygon_Side.f sideP
  refine Ev.bind (check_ev p [q]) (Ev.ite (fun hc => ?_) (fun hc => by rw [if_neg hc]; exact Ev.now _))
  rw [if_pos hc]
  have hV : Val p := by
    rw [ckQ_one] at hc
    split at hc
    · exact Val.of hc
    · split at hc
      · cases hc
      · rename_i h; exact (h (.inl hc)).elim
  refine Ev.bind (simple_ev hV.l hV.h) (Ev.ite (fun hs => ?_) (fun hs => by rw [if_neg hs]; exact Ev.now _))
  rw [if_pos hs]
  exact side_l0 hV.l hV.h q p.length 0 false (by omega)
end Go.Proofs.Ytcembjgpcbodcaa.Pg
