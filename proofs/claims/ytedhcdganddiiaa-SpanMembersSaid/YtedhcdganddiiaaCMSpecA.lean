import Derived.Test.YtedhcdganddiiaaCMEvKit
import Derived.Test.YtedhcdganddiiaaCMQAx2
import Derived.Test.YtedhcdganddiiaaCMQAx5
import Derived.Test.YtedhcdganddiiaaCMQAx0
import Derived.Test.YtedhcdganddiiaaCMQAx1
import Derived.Test.YtedhcdganddiiaaCMQAx4
import Derived.Test.YtedhcdganddiiaaCMQAx3
namespace Go.Proofs.Ytedhcdganddiiaa.QA
open Go.RowKit Go.Proofs.YtedhcdganddiiaaW.PrintWords Go.Proofs.Ytedhcdganddiiaa.EvKit
set_option linter.unusedVariables false
set_option linter.unusedSimpArgs false

def nearB (n : Int) : Bool := decide (-1000000000000 ≤ n) && decide (n ≤ 1000000000000)
theorem span_near_is (n : Int) : span_near.f n = some (nearB n) := by
  unfold span_near.f nearB
  by_cases h : -1000000000000 ≤ n <;> simp [h]
def out23 (x : S23) : Bool := !nearB x.f0 || !nearB x.f1
def bad1 (l : List S23) : Int := if l.any (fun x => decide (x.f0 > x.f1)) then 1 else 0
def chk (l : List S23) : Int := if l.any out23 then 6 else bad1 l
theorem rd_at (l : List S23) (i : Nat) (h : i < l.length) : l.drop i = rd_T23 l (i : Int) :: l.drop (i + 1) := by
  rw [drop_cons l i z23 h]; simp [rd_T23]

theorem check_l1 (x : List S23) (hx : x.length ≤ maxLen) : ∀ i, i ≤ x.length → Ev (fun k => span_check.l1 k x (x.length : Int) (i : Int)) (bad1 (x.drop i)) := by
  unfold maxLen at hx
  refine up_to x.length ?_
  intro i hi ih
  refine Ev.succ ?_
  simp only [span_check.l1]
  by_cases h : i < x.length
  · refine Ev.pos (by omega) (Ev.pos (by omega) (Ev.pos (by omega) ?_))
    have e := rd_at x i h
    refine Ev.ite (fun hc => Ev.eq (Ev.now _) ?_) (fun hc => ?_)
    · rw [e, bad1, List.any_cons, decide_eq_true hc]; rfl
    · rw [w64 (by omega) (by omega)]
      refine Ev.eq (ih h) ?_
      rw [e, bad1, bad1, List.any_cons, decide_eq_false hc]; rfl
  · refine Ev.neg (by omega) (Ev.eq (Ev.now _) ?_)
    rw [List.drop_of_length_le (by omega)]; rfl
theorem check_l0 (x : List S23) (hx : x.length ≤ maxLen) : ∀ i, i ≤ x.length → Ev (fun k => span_check.l0 k x x (x.length : Int) (i : Int)) (if (x.drop i).any out23 then 6 else bad1 x) := by
  have hx' := hx
  unfold maxLen at hx'
  refine up_to x.length ?_
  intro i hi ih
  refine Ev.succ ?_
  simp only [span_check.l0]
  by_cases h : i < x.length
  · refine Ev.pos (by omega) (Ev.pos (by omega) (Ev.pos (by omega) ?_))
    have e := rd_at x i h
    refine Ev.cbind (span_near_is _) ?_
    refine Ev.ite (fun hc => ?_) (fun hc => ?_)
    · refine Ev.cbind (span_near_is _) ?_
      refine Ev.ite (fun hc2 => ?_) (fun hc2 => ?_)
      · rw [w64 (by omega) (by omega)]
        refine Ev.eq (ih h) ?_
        rw [e, List.any_cons, out23, hc, hc2]; rfl
      · refine Ev.eq (Ev.now _) ?_
        rw [e, List.any_cons, out23, Bool.eq_false_iff.2 hc2]; simp
    · refine Ev.eq (Ev.now _) ?_
      rw [e, List.any_cons, out23, Bool.eq_false_iff.2 hc]; simp
  · refine Ev.neg (by omega) (Ev.eq (check_l1 x hx 0 (by omega)) ?_)
    rw [List.drop_zero, List.drop_of_length_le (show x.length ≤ i by omega)]; rfl
theorem check_is (x : List S23) (hx : x.length ≤ maxLen) : Ev (fun k => span_check.f k x) (chk x) := check_l0 x hx 0 (Nat.zero_le _)

def lenOf (x : S23) : Int := if chk [x] = 0 then wrap64 (wrap64 (x.f1 - x.f0) + 1) else 0
theorem Length_is (a b : Int) : Ev (fun k => span_Length.f k a b) (lenOf ⟨a, b⟩) := by
  refine Ev.bind (check_is _ (by simp [maxLen])) ?_
  unfold lenOf
  exact Ev.ite (fun h => by rw [if_pos h]; exact Ev.now _) (fun h => by rw [if_neg h]; exact Ev.now _)
/-- A valid interval's ends. -/
theorem chk_ok {l : List S23} (h : chk l = 0) : ∀ x ∈ l, -1000000000000 ≤ x.f0 ∧ x.f0 ≤ x.f1 ∧ x.f1 ≤ 1000000000000 := by
  intro x hx
  unfold chk at h
  split at h
  · simp at h
  · rename_i h1
    unfold bad1 at h
    split at h
    · simp at h
    · rename_i h2
      have a1 : out23 x = false := by
        rw [Bool.not_eq_true, List.any_eq_false] at h1
        exact Bool.eq_false_iff.2 (h1 x hx)
      have a2 : ¬ x.f0 > x.f1 := by
        rw [Bool.not_eq_true, List.any_eq_false] at h2
        simpa using h2 x hx
      simp [out23, nearB] at a1
      omega
def lst (ls : List (List S23)) : Int := if ls.any (fun l => decide (l.length > 10000)) then 7 else chk ls.flatten
theorem lists_l0 (x : List (List S23)) (hx : x.length ≤ 1000) (hf : x.flatten.length < 1099511627776) : ∀ i, i ≤ x.length → Ev (fun k => span_lists.l0 k x x (x.length : Int) (i : Int)) (if (x.drop i).any (fun l => decide (l.length > 10000)) then 7 else chk x.flatten) := by
  refine up_to x.length ?_
  intro i hi ih
  refine Ev.succ ?_
  simp only [span_lists.l0]
  by_cases h : i < x.length
  · refine Ev.pos (by omega) (Ev.pos (by omega) (Ev.pos (by omega) ?_))
    have e : x.drop i = rd_L2 x (i : Int) :: x.drop (i + 1) := by rw [drop_cons x i [] h]; simp [rd_L2]
    refine Ev.ite (fun hc => Ev.eq (Ev.now _) ?_) (fun hc => ?_)
    · rw [e, List.any_cons, show decide ((rd_L2 x ↑i).length > 10000) = true from decide_eq_true (by omega)]; rfl
    · rw [w64 (by omega) (by omega)]
      refine Ev.eq (ih h) ?_
      rw [e, List.any_cons, show decide ((rd_L2 x ↑i).length > 10000) = false from decide_eq_false (by omega)]; rfl
  · refine Ev.neg (by omega) ?_
    refine Ev.eq (Ev.cbind (show api_Interval_46.f x = some x.flatten from by unfold api_Interval_46.f; rw [if_pos hf]) (Ev.bind (check_is x.flatten (by unfold maxLen; omega)) (Ev.now _))) ?_
    rw [List.drop_of_length_le (by omega)]; rfl
theorem lists_is (x : List (List S23)) (hx : x.length ≤ 1000) (hf : x.flatten.length < 1099511627776) : Ev (fun k => span_lists.f k x) (lst x) := lists_l0 x hx hf 0 (Nat.zero_le _)
/-- The result of a sum. -/
def madeR (a b : Int) : Int × Int × Int := if out23 ⟨a, b⟩ then (0, 0, 6) else (a, b, 0)
theorem made_is (a b : Int) : span_made.f a b = some (madeR a b) := by
  unfold span_made.f madeR out23
  simp only [span_near_is, Option.bind_some]
  cases nearB a <;> cases nearB b <;> rfl
end Go.Proofs.Ytedhcdganddiiaa.QA
