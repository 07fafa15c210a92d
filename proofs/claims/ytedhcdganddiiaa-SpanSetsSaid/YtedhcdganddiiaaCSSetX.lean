import Derived.Test.YtedhcdganddiiaaCSSetW
import Derived.Test.YtedhcdganddiiaaCSQAx16
import Derived.Test.YtedhcdganddiiaaCSQAx0
import Derived.Test.YtedhcdganddiiaaCSQAx4
import Derived.Test.YtedhcdganddiiaaCSQAx11
import Derived.Test.YtedhcdganddiiaaCSQAx12
namespace Go.Proofs.Ytedhcdganddiiaa.QA
open Go.RowKit Go.Proofs.YtedhcdganddiiaaW.PrintWords Go.Proofs.Ytedhcdganddiiaa.EvKit
set_option linter.unusedVariables false
set_option linter.unusedSimpArgs false

theorem ok_one {a : List S23} (h : lst [a] = 0) : ∀ x ∈ a, okI x := by
  have := lst_okI h
  simpa using this
theorem kpB_one (a b : List S23) (n : Int) : kpB 1 a b n = true ↔ mem a n ∨ mem b n := by
  unfold kpB kp; rw [if_pos rfl, Bool.or_eq_true, inB_iff, inB_iff]
theorem kpB_two (a b : List S23) (n : Int) : kpB 2 a b n = true ↔ mem a n ∧ ¬ mem b n := by
  unfold kpB kp
  rw [if_neg (by decide), if_pos rfl, Bool.and_eq_true, inB_iff, Bool.not_eq_true', ← inB_iff, ← inB_iff (l := b), Bool.not_eq_true]
theorem kpB_three (a b : List S23) (n : Int) : kpB 3 a b n = true ↔ mem a n ∧ mem b n := by
  unfold kpB kp
  rw [if_neg (by decide), if_neg (by decide), Bool.and_eq_true, inB_iff, inB_iff]
theorem form_one {a : List S23} (h : ∀ x ∈ a, okI x) : formL 1 a [] = nrm a := by
  obtain ⟨⟨c, f1⟩, f2⟩ := form_spec 1 a []
  obtain ⟨n1, n2⟩ := nrm_spec h
  refine NF_unique f1 n1 (fun n => ?_)
  rw [f2 n, n2 n, kpB_one]
  exact ⟨fun q => q.elim id (fun q => absurd q mem_nil), Or.inl⟩
theorem form_uni {a b : List S23} (ha : ∀ x ∈ a, okI x) (hb : ∀ x ∈ b, okI x) : formL 1 a b = nrm (a ++ b) := by
  obtain ⟨⟨c, f1⟩, f2⟩ := form_spec 1 a b
  obtain ⟨n1, n2, _⟩ := uni_spec ha hb
  refine NF_unique f1 n1 (fun n => ?_)
  rw [f2 n, n2 n, kpB_one]
theorem form_min {a b : List S23} (ha : ∀ x ∈ a, okI x) (hb : ∀ x ∈ b, okI x) : formL 2 a b = minL a b := by
  obtain ⟨⟨c, f1⟩, f2⟩ := form_spec 2 a b
  obtain ⟨n1, n2, _⟩ := min_spec ha hb
  refine NF_unique f1 n1 (fun n => ?_)
  rw [f2 n, n2 n, kpB_two]
theorem form_cmn {a b : List S23} (ha : ∀ x ∈ a, okI x) (hb : ∀ x ∈ b, okI x) : formL 3 a b = cmnL a b := by
  obtain ⟨⟨c, f1⟩, f2⟩ := form_spec 3 a b
  obtain ⟨n1, n2, _⟩ := cmn_spec ha hb
  refine NF_unique f1 n1 (fun n => ?_)
  rw [f2 n, n2 n, kpB_three]
def cntR (s : Int) (l : List S23) : Int := l.foldl (fun s x => wrap64 (s + wrap64 (wrap64 (x.f1 - x.f0) + 1))) s
theorem cntR_is : ∀ (l : List S23) (s : Int), (∀ x ∈ l, okI x) → cntR s l = cnt s l
  | [], s, _ => rfl
  | x :: l, s, h => by
    have hx := h x (by simp)
    have hc : chk [x] = 0 := chk_zero (fun y hy => by rw [List.mem_singleton.1 hy]; exact hx)
    have e : lenOf x = wrap64 (wrap64 (x.f1 - x.f0) + 1) := by unfold lenOf; rw [if_pos hc]
    show cntR (wrap64 (s + wrap64 (wrap64 (x.f1 - x.f0) + 1))) l = cnt (wrap64 (s + lenOf x)) l
    rw [e]
    exact cntR_is l _ (fun y hy => h y (by simp [hy]))
theorem rCount_l0 (x : List S23) (hx : x.length ≤ 1000000000) : ∀ i, i ≤ x.length → ∀ s, Ev (fun k => gangsawref01_Count.l0 k x s (i : Int)) (cntR s (x.drop i)) := by
  refine up_to x.length ?_
  intro i hi ih s
  refine Ev.succ ?_
  simp only [gangsawref01_Count.l0]
  by_cases h : i < x.length
  · refine Ev.pos (by omega) (Ev.pos (by omega) ?_)
    rw [w64 (n := (i : Int) + 1) (by omega) (by omega), rd_at x i h]
    exact ih h _
  · refine Ev.neg (by omega) (Ev.eq (Ev.now _) ?_)
    rw [List.drop_of_length_le (show x.length ≤ i by omega)]; rfl
theorem rCount_is (x : List S23) (hx : x.length ≤ 1000000000) (h : ∀ y ∈ x, okI y) : Ev (fun k => gangsawref01_Count.f k x) (cnt 0 x) := by
  rw [← cntR_is x 0 h]
  exact rCount_l0 x hx 0 (Nat.zero_le _) 0
theorem min_length (a b : List S23) (ha : a.length ≤ 30) (hb : b.length ≤ 30) : (minL a b).length ≤ 61 := by
  have l1 := nrm_length a
  have l2 := nrm_length b
  have l3 := gapL_length (nrm b) (-1000000000000)
  exact Nat.le_trans (comL_length _ _ _ (Nat.le_refl _)) (by omega)
theorem cmn_length (a b : List S23) (ha : a.length ≤ 30) (hb : b.length ≤ 30) : (cmnL a b).length ≤ 60 := by
  have l1 := nrm_length a
  have l2 := nrm_length b
  exact Nat.le_trans (nrm_length _) (Nat.le_trans (comL_length _ _ _ (Nat.le_refl _)) (by omega))
end Go.Proofs.Ytedhcdganddiiaa.QA
