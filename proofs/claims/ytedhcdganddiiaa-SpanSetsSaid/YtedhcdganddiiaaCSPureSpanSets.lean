import Derived.Test.YtedhcdganddiiaaCSSetX
import Derived.Test.YtedhcdganddiiaaCSQAx16
/-
  The pure statement of SpanSets: Normalize, Union, Minus, Common and Count answer as the form of the ends of all intervals does, with the same first error. (Lists of more than 30 intervals are not examined.)
-/
namespace Go.Proofs.Ytedhcdganddiiaa.Pure
open Go.RowKit Go.Proofs.Ytedhcdganddiiaa.QA Go.Proofs.YtedhcdganddiiaaW.PrintWords Go.Proofs.YtedhcdganddiiaaW.PrintLast Go.Proofs.Ytedhcdganddiiaa.EvKit
set_option linter.unusedVariables false
set_option linter.unusedSimpArgs false

theorem pick {c : Prop} [Decidable c] {x y : List S23} {e : Int} (h : c → x = y) : (if c then (x, (0 : Int)) else ([], e)) = (if c then (y, 0) else ([], e)) := by
  by_cases hc : c
  · rw [if_pos hc, if_pos hc, h hc]
  · rw [if_neg hc, if_neg hc]
theorem pick_len {c : Prop} [Decidable c] {x : List S23} {e : Int} (h : x.length ≤ 1000) : (if c then (x, (0 : Int)) else ([], e)).1.length ≤ 9223372036854775806 := by
  split
  · show x.length ≤ _; omega
  · simp
theorem sameB_self (x : List S23) : sameB x x = true := sameB_iff.2 rfl
theorem SpanSets : gangsawlaw01_SpanSets.Pure := by
  intro a b _ _
  refine Ev.rounds (r := true) ?_
  have hj0t : Ev (fun k => gangsawlaw01_SpanSets.j0 k a b true) true := Ev.succ (by simp only [gangsawlaw01_SpanSets.j0]; exact Ev.pos trivial (Ev.now _))
  have hj1 : ∀ v, Ev (fun k => gangsawlaw01_SpanSets.j1 k v) v := fun v => Ev.succ (by simp only [gangsawlaw01_SpanSets.j1]; exact Ev.now v)
  refine Ev.bind awake_is (Ev.pos rfl (Ev.ite (fun _ => hj0t) (fun ha30 => ?_)))
  by_cases hb30 : (b.length : Int) > 30
  · rw [decide_eq_true hb30]; exact hj0t
  rw [decide_eq_false hb30]
  have ha : a.length ≤ 30 := by omega
  have hb : b.length ≤ 30 := by omega
  refine Ev.succ ?_
  simp only [gangsawlaw01_SpanSets.j0]
  refine Ev.neg (by simp) ?_
  have la := nrm_length a
  have lab := nrm_length (a ++ b)
  rw [List.length_append] at lab
  have lm := min_length a b ha hb
  have lc := cmn_length a b ha hb
  have eN : (if lst [a, []] = 0 then (formL 1 a [], (0 : Int)) else ([], lst [a, []])) = if lst [a] = 0 then (nrm a, 0) else ([], lst [a]) := by
    rw [lst_nil]; exact pick (fun h => form_one (ok_one h))
  have eU : (if lst [a, b] = 0 then (formL 1 a b, (0 : Int)) else ([], lst [a, b])) = if lst [a, b] = 0 then (nrm (a ++ b), 0) else ([], lst [a, b]) := pick (fun h => form_uni (ok_l h).1 (ok_l h).2)
  have eM : (if lst [a, b] = 0 then (formL 2 a b, (0 : Int)) else ([], lst [a, b])) = if lst [a, b] = 0 then (minL a b, 0) else ([], lst [a, b]) := pick (fun h => form_min (ok_l h).1 (ok_l h).2)
  have eC : (if lst [a, b] = 0 then (formL 3 a b, (0 : Int)) else ([], lst [a, b])) = if lst [a, b] = 0 then (cmnL a b, 0) else ([], lst [a, b]) := pick (fun h => form_cmn (ok_l h).1 (ok_l h).2)
  refine Ev.bind (Normalize_is a (by omega)) (Ev.bind (Union_is a b (by omega) (by omega)) (Ev.bind (Minus_is a b (by omega) (by omega)) (Ev.bind (Common_is a b (by omega) (by omega)) (Ev.bind (Count_is a (by omega)) ?_))))
  refine Ev.bind (Ev.eq (Set_is a [] (by omega) (by simp) 1 (Or.inl rfl)) eN) (Ev.bind (Ev.eq (Set_is a b (by omega) (by omega) 1 (Or.inl rfl)) eU) (Ev.bind (Ev.eq (Set_is a b (by omega) (by omega) 2 (Or.inr (Or.inl rfl))) eM) (Ev.bind (Ev.eq (Set_is a b (by omega) (by omega) 3 (Or.inr (Or.inr rfl))) eC) ?_)))
  refine Ev.bind (Ev.eq (Same_is _ _ (pick_len (by omega))) (sameB_self _)) (Ev.pos rfl (Ev.pos rfl ?_))
  refine Ev.bind (Ev.eq (Same_is _ _ (pick_len (by omega))) (sameB_self _)) (Ev.pos rfl (Ev.pos rfl ?_))
  refine Ev.bind (Ev.eq (Same_is _ _ (pick_len (by omega))) (sameB_self _)) (Ev.pos rfl (Ev.pos rfl ?_))
  refine Ev.bind (Ev.eq (Same_is _ _ (pick_len (by omega))) (sameB_self _)) (Ev.pos rfl (Ev.pos rfl ?_))
  by_cases h : lst [a] = 0
  · rw [if_pos h, if_pos h]
    refine Ev.bind (rCount_is (nrm a) (by omega) (nrm_ok (ok_one h))) (Ev.pos rfl ?_)
    exact Ev.eq (hj1 _) (by simp)
  · rw [if_neg h, if_neg h]
    refine Ev.bind (rCount_is [] (by simp) (by simp)) (Ev.pos rfl ?_)
    exact Ev.eq (hj1 _) (by simp)
end Go.Proofs.Ytedhcdganddiiaa.Pure
