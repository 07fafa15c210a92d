/-
  Convex, by itself.
-/
import Derived.Test.YtcembjgpcbodcaaZPg2
import Derived.Test.YtcembjgpcbodcaaZQAx10
namespace Go.Proofs.Ytcembjgpcbodcaa.Pg
open Go.RowKit Go.Proofs.Ytcembjgpcbodcaa.QA Go.Proofs.YtcembjgpcbodcaaW.PrintWords Go.Proofs.YtcembjgpcbodcaaW.PrintLast Go.Proofs.YtcembjgpcbodcaaW.PrintMore Go.Proofs.Ytcembjgpcbodcaa.EvKit
set_option linter.unusedVariables false
set_option linter.unusedSimpArgs false
def lftB (p : List S23) (i : Nat) : Bool := decide (ori (pt p i) (pt p (nx p i)) (pt p (nx p (nx p i))) = 1)
def allL (p : List S23) : Nat → Nat → Bool
  | _, 0 => true
  | i, m + 1 => lftB p i && allL p (i + 1) m
theorem con_l0 {p : List S23} (h : 3 ≤ p.length) (hl : p.length ≤ 64) : ∀ m i, p.length = i + m → Ev (fun k => polygon_Convex.l0 k p (p.length : Int) (i : Int)) (allL p i m && simB p, 0) := by
  intro m
  induction m with
  | zero =>
    intro i hi
    refine Ev.succ ?_
    simp only [polygon_Convex.l0]
    exact Ev.neg (by omega) (Ev.bind (simple_ev h hl) (Ev.eq (Ev.now _) (by simp [allL])))
  | succ m ih =>
    intro i hi
    refine Ev.succ ?_
    simp only [polygon_Convex.l0]
    refine Ev.pos (by omega) (Ev.pos (by omega) (Ev.pos (by omega) (Ev.cbind (end_is h hl i (by omega)) (Ev.neg (by omega) ?_))))
    rw [tm_is h hl i (by omega)]
    have hn := nx_lt h i
    refine Ev.cbind (end_is h hl (nx p i) (by omega)) ?_
    rw [rd_is]
    refine Ev.cbind (ori_is _ _ _) ?_
    unfold allL lftB
    refine Ev.ite (fun hd => ?_) (fun hd => ?_)
    · rw [decide_eq_true hd, Bool.true_and, stp (by omega)]
      exact ih (i + 1) (by omega)
    · rw [decide_eq_false hd, Bool.false_and, Bool.false_and]
      exact Ev.now _
def conR (p : List S23) : Bool × Int := if ckP p = 0 then (allL p 0 p.length && simB p, 0) else (false, ckP p)
theorem con_ev (p : List S23) : Ev (fun k => polygon_Convex.f k p) (conR p) := by
  unfold polygon_Convex.f conR
  have h1 := check_ev p []
  rw [ckQ_nil] at h1
  refine Ev.bind h1 (Ev.ite (fun hc => ?_) (fun hc => by rw [if_neg hc]; exact Ev.now _))
  have hV := Val.of hc
  rw [if_pos hc]
  exact con_l0 hV.l hV.h p.length 0 (by omega)
end Go.Proofs.Ytcembjgpcbodcaa.Pg
