import Derived.Test.YtedhcdganddiiaaCPSumSpec
import Derived.Test.YtedhcdganddiiaaCPQAx10
import Derived.Test.YtedhcdganddiiaaCPQAx9
/-
  The pure statement of SpanPairs: Add, Sub, Intersect and Hull of two intervals answer as the reference does, with the same first error.
-/
namespace Go.Proofs.Ytedhcdganddiiaa.Pure
open Go.RowKit Go.Proofs.Ytedhcdganddiiaa.QA Go.Proofs.YtedhcdganddiiaaW.PrintWords Go.Proofs.YtedhcdganddiiaaW.PrintLast Go.Proofs.Ytedhcdganddiiaa.EvKit
set_option linter.unusedVariables false
set_option linter.unusedSimpArgs false

theorem lst_pair (x y : S23) : lst [[x, y]] = chk [x, y] := by simp [lst]
theorem sumP_is (a b c d : Int) : Ev (fun k => gangsawref01_Sum.f k [(⟨a, b⟩ : S23), ⟨c, d⟩]) (if chk [⟨a, b⟩, ⟨c, d⟩] = 0 then madeR (wrap64 (a + c)) (wrap64 (b + d)) else (0, 0, chk [⟨a, b⟩, ⟨c, d⟩])) := by
  refine Ev.eq (rSum_is [⟨a, b⟩, ⟨c, d⟩] (by simp)) ?_
  unfold sumR
  rw [lst_pair]
  by_cases h : chk [⟨a, b⟩, ⟨c, d⟩] = 0
  · rw [if_pos h, if_pos h]
    have h1 := chk_ok h ⟨a, b⟩ (by simp)
    have h2 := chk_ok h ⟨c, d⟩ (by simp)
    simp only at h1 h2
    have e : sumL (0, 0) [(⟨a, b⟩ : S23), ⟨c, d⟩] = (wrap64 (wrap64 (0 + a) + c), wrap64 (wrap64 (0 + b) + d)) := rfl
    rw [e, w64 (n := 0 + a) (by omega) (by omega), w64 (n := 0 + b) (by omega) (by omega), Int.zero_add, Int.zero_add]
  · rw [if_neg h, if_neg h]
theorem rAdd_is (a b c d : Int) : Ev (fun k => gangsawref01_Add.f k a b c d) (if chk [⟨a, b⟩, ⟨c, d⟩] = 0 then madeR (wrap64 (a + c)) (wrap64 (b + d)) else (0, 0, chk [⟨a, b⟩, ⟨c, d⟩])) := Ev.bind (sumP_is a b c d) (Ev.now _)
theorem Sub_is (a b c d : Int) : Ev (fun k => span_Sub.f k a b c d) (if chk [⟨a, b⟩, ⟨c, d⟩] = 0 then madeR (wrap64 (a - d)) (wrap64 (b - c)) else (0, 0, chk [⟨a, b⟩, ⟨c, d⟩])) := by
  refine Ev.bind (check_is _ (by simp [maxLen])) ?_
  refine Ev.ite (fun h => ?_) (fun h => ?_)
  · rw [if_pos h]; exact Ev.cbind (made_is _ _) (Ev.now _)
  · rw [if_neg h]; exact Ev.now _
theorem rSub_is (a b c d : Int) : Ev (fun k => gangsawref01_Sub.f k a b c d) (if chk [⟨a, b⟩, ⟨c, d⟩] = 0 then madeR (wrap64 (a - d)) (wrap64 (b - c)) else (0, 0, chk [⟨a, b⟩, ⟨c, d⟩])) := by
  refine Ev.bind (all_is _ (by simp [maxLen])) ?_
  refine Ev.ite (fun h => ?_) (fun h => ?_)
  · rw [if_pos h]; exact Ev.bind (result_is _ _) (Ev.now _)
  · rw [if_neg h]; exact Ev.now _
def interR (a b c d : Int) : Int × Int × Int := if chk [⟨a, b⟩, ⟨c, d⟩] = 0 then (if (mx a c) > (mn b d) then (0, 0, 9) else (mx a c, mn b d, 0)) else (0, 0, chk [⟨a, b⟩, ⟨c, d⟩])
theorem Intersect_is (a b c d : Int) : Ev (fun k => span_Intersect.f k a b c d) (interR a b c d) := by
  refine Ev.bind (check_is _ (by simp [maxLen])) ?_
  unfold interR
  refine Ev.ite (fun h => ?_) (fun h => ?_)
  · rw [if_pos h]
    exact Ev.ite (fun h => by rw [if_pos h]; exact Ev.now _) (fun h => by rw [if_neg h]; exact Ev.now _)
  · rw [if_neg h]; exact Ev.now _
theorem rIntersect_is (a b c d : Int) : Ev (fun k => gangsawref01_Intersect.f k a b c d) (interR a b c d) := by
  refine Ev.bind (all_is _ (by simp [maxLen])) ?_
  unfold interR
  refine Ev.ite (fun h => ?_) (fun h => ?_)
  · rw [if_pos h]
    exact Ev.ite (fun h => by rw [if_pos h]; exact Ev.now _) (fun h => by rw [if_neg h]; exact Ev.now _)
  · rw [if_neg h]; exact Ev.now _
def hullR (a b c d : Int) : Int × Int × Int := if chk [⟨a, b⟩, ⟨c, d⟩] = 0 then (mn a c, mx b d, 0) else (0, 0, chk [⟨a, b⟩, ⟨c, d⟩])
theorem Hull_is (a b c d : Int) : Ev (fun k => span_Hull.f k a b c d) (hullR a b c d) := by
  refine Ev.bind (check_is _ (by simp [maxLen])) ?_
  unfold hullR
  refine Ev.ite (fun h => ?_) (fun h => ?_)
  · rw [if_pos h]
    refine Ev.ite (fun h => Ev.eq (Ev.now _) ?_) (fun h => Ev.now _)
    rw [Bool.and_eq_true, beq_iff_eq, beq_iff_eq] at h
    obtain ⟨rfl, rfl⟩ := h
    simp [mn, mx]
  · rw [if_neg h]; exact Ev.now _
theorem rHull_is (a b c d : Int) : Ev (fun k => gangsawref01_Hull.f k a b c d) (hullR a b c d) := by
  refine Ev.bind (all_is _ (by simp [maxLen])) ?_
  unfold hullR
  refine Ev.ite (fun h => ?_) (fun h => ?_)
  · rw [if_pos h]; exact Ev.now _
  · rw [if_neg h]; exact Ev.now _
theorem SpanPairs : gangsawlaw01_SpanPairs.Pure := by
  intro a b c d _ _ _ _
  refine Ev.rounds (r := true) ?_
  have hj0 : ∀ v, Ev (fun k => gangsawlaw01_SpanPairs.j0 k v) v := fun v => Ev.succ (by simp only [gangsawlaw01_SpanPairs.j0]; exact Ev.now v)
  refine Ev.bind awake_is (Ev.pos rfl ?_)
  refine Ev.bind (Add_is a b c d) (Ev.bind (Sub_is a b c d) (Ev.bind (Intersect_is a b c d) (Ev.bind (Hull_is a b c d) (Ev.bind (rAdd_is a b c d) (Ev.bind (rSub_is a b c d) (Ev.bind (rIntersect_is a b c d) (Ev.bind (rHull_is a b c d) ?_)))))))
  refine Ev.pos (by simp) (Ev.pos rfl (Ev.pos (by simp) (Ev.pos rfl (Ev.pos (by simp) (Ev.pos rfl (Ev.pos (by simp) (Ev.eq (hj0 _) (by simp))))))))
end Go.Proofs.Ytedhcdganddiiaa.Pure
