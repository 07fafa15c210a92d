import Derived.Test.YtedhcdganddiiaaCMSetX
import Derived.Test.YtedhcdganddiiaaCMQAx17
/-
  The pure statement of SpanMembers: Union, Minus and Common have an error together, the same; else a number is in them exactly if it is in the lists as they say, and all three are normal forms. (Lists of more than 30 intervals are not examined.)
-/
namespace Go.Proofs.Ytedhcdganddiiaa.Pure
open Go.RowKit Go.Proofs.Ytedhcdganddiiaa.QA Go.Proofs.YtedhcdganddiiaaW.PrintWords Go.Proofs.YtedhcdganddiiaaW.PrintLast Go.Proofs.Ytedhcdganddiiaa.EvKit
set_option linter.unusedVariables false
set_option linter.unusedSimpArgs false

theorem SpanMembers : gangsawlaw01_SpanMembers.Pure := by
  intro a b n _ _ _
  refine Ev.rounds (r := true) ?_
  have hj0t : Ev (fun k => gangsawlaw01_SpanMembers.j0 k a b n true) true := Ev.succ (by simp only [gangsawlaw01_SpanMembers.j0]; exact Ev.pos trivial (Ev.now _))
  refine Ev.bind awake_is (Ev.pos rfl (Ev.ite (fun _ => hj0t) (fun ha30 => ?_)))
  by_cases hb30 : (b.length : Int) > 30
  · rw [decide_eq_true hb30]; exact hj0t
  rw [decide_eq_false hb30]
  have ha : a.length ≤ 30 := by omega
  have hb : b.length ≤ 30 := by omega
  refine Ev.succ ?_
  simp only [gangsawlaw01_SpanMembers.j0]
  refine Ev.neg (by simp) ?_
  have lab := nrm_length (a ++ b)
  rw [List.length_append] at lab
  have lm := min_length a b ha hb
  have lc := cmn_length a b ha hb
  refine Ev.bind (Union_is a b (by omega) (by omega)) (Ev.bind (Minus_is a b (by omega) (by omega)) (Ev.bind (Common_is a b (by omega) (by omega)) ?_))
  by_cases h : lst [a, b] = 0
  · rw [if_pos h, if_pos h, if_pos h]
    obtain ⟨oa, ob⟩ := ok_l h
    obtain ⟨u1, u2, u3⟩ := uni_spec oa ob
    obtain ⟨m1, m2, m3⟩ := min_spec oa ob
    obtain ⟨c1, c2, c3⟩ := cmn_spec oa ob
    refine Ev.pos rfl (Ev.pos rfl ?_)
    refine Ev.succ ?_
    simp only [gangsawlaw01_SpanMembers.j1]
    refine Ev.neg (by simp) ?_
    have eu : inB (nrm (a ++ b)) n = (inB a n || inB b n) := by rw [Bool.eq_iff_iff, inB_iff, u2 n, Bool.or_eq_true, inB_iff, inB_iff]
    have em : inB (minL a b) n = (inB a n && !inB b n) := by rw [Bool.eq_iff_iff, inB_iff, m2 n, Bool.and_eq_true, Bool.not_eq_true', inB_iff, ← inB_iff (l := b), Bool.not_eq_true]
    have ec : inB (cmnL a b) n = (inB a n && inB b n) := by rw [Bool.eq_iff_iff, inB_iff, c2 n, Bool.and_eq_true, inB_iff, inB_iff]
    have hj2 : Ev (fun k => gangsawlaw01_SpanMembers.j2 k (nrm (a ++ b)) (minL a b) (cmnL a b) false) true := by
      refine Ev.succ ?_
      simp only [gangsawlaw01_SpanMembers.j2]
      refine Ev.neg (by simp) (Ev.bind (isNF_is _ (by omega) u3 u1) (Ev.pos rfl (Ev.bind (isNF_is _ (by omega) m3 m1) (Ev.pos rfl (Ev.bind (isNF_is _ (by omega) c3 c1) (Ev.now _))))))
    refine Ev.bind (In_is a (by omega) n) (Ev.bind (In_is b (by omega) n) (Ev.bind (Ev.eq (In_is _ (by omega) n) eu) ?_))
    have hm := Ev.eq (In_is (minL a b) (by omega) n) em
    have hc := Ev.eq (In_is (cmnL a b) (by omega) n) ec
    generalize inB a n = X at hm hc ⊢
    generalize inB b n = Y at hm hc ⊢
    cases X <;> cases Y
    · exact Ev.neg (by simp) (Ev.neg (by simp) (Ev.bind hm (Ev.neg (by simp) (Ev.bind hc hj2))))
    · exact Ev.neg (by simp) (Ev.neg (by simp) (Ev.bind hm (Ev.neg (by simp) (Ev.bind hc hj2))))
    · exact Ev.pos rfl (Ev.neg (by simp) (Ev.bind hm (Ev.neg (by simp) (Ev.bind hc hj2))))
    · exact Ev.pos rfl (Ev.neg (by simp) (Ev.bind hm (Ev.neg (by simp) (Ev.bind hc hj2))))
  · rw [if_neg h, if_neg h, if_neg h]
    refine Ev.neg h ?_
    refine Ev.succ ?_
    simp only [gangsawlaw01_SpanMembers.j1]
    exact Ev.pos trivial (Ev.pos trivial (Ev.eq (Ev.now _) (by simp)))
end Go.Proofs.Ytedhcdganddiiaa.Pure
