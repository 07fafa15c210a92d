import Derived.Test.YtedhcdganddiiaaCMForm
import Derived.Test.YtedhcdganddiiaaCMQAx11
import Derived.Test.YtedhcdganddiiaaCMQAx12
import Derived.Test.YtedhcdganddiiaaCMQAx0
import Derived.Test.YtedhcdganddiiaaCMQAx3
import Derived.Test.YtedhcdganddiiaaCMQAx4
import Derived.Test.YtedhcdganddiiaaCMQAx1
import Derived.Test.YtedhcdganddiiaaCMQAx2
import Derived.Test.YtedhcdganddiiaaCMQAx5
namespace Go.Proofs.Ytedhcdganddiiaa.QA
open Go.RowKit Go.Proofs.YtedhcdganddiiaaW.PrintWords Go.Proofs.Ytedhcdganddiiaa.EvKit
set_option linter.unusedVariables false
set_option linter.unusedSimpArgs false

theorem lst_okI {ls : List (List S23)} (h : lst ls = 0) : ∀ x ∈ ls.flatten, okI x := by
  unfold lst at h
  split at h
  · simp at h
  · exact chk_ok h
theorem two_flat (a b : List S23) : [a, b].flatten = a ++ b := by simp
theorem Union_is (a b : List S23) (ha : a.length ≤ 10000) (hb : b.length ≤ 10000) : Ev (fun k => span_Union.f k a b) (if lst [a, b] = 0 then (nrm (a ++ b), 0) else ([], lst [a, b])) := by
  have hl : (a ++ b).length ≤ 20000 := by rw [List.length_append]; omega
  have hf : [a, b].flatten.length < 1099511627776 := by rw [two_flat]; omega
  refine Ev.bind (lists_is [a, b] (by simp) hf) ?_
  refine Ev.ite (fun h => ?_) (fun h => ?_)
  · rw [if_pos h]
    refine Ev.cbind (a := a ++ b) (by unfold api_Interval_46.f; rw [if_pos hf, two_flat]) (Ev.bind (normal_is _ (by omega)) (Ev.now _))
  · rw [if_neg h]; exact Ev.now _
theorem rd_head (x : S23) (a : List S23) : rd_T23 (x :: a) 0 = x := by simp [rd_T23]
theorem common_l0 : ∀ (n : Nat) (a b out : List S23), a.length + b.length ≤ n → out.length + n < 8796093022208 → Ev (fun k => span_common.l0 k a b out) (out ++ comL a b) := by
  have hj : ∀ (a b out : List S23) (v : List S23), (a = [] ∨ b = []) → Ev (fun k => span_common.j1 k a b out false) out := by
    intro a b out v h
    refine Ev.succ ?_
    simp only [span_common.j1]
    exact Ev.neg (by simp) (Ev.now _)
  intro n
  induction n with
  | zero =>
    intro a b out hn ho
    obtain rfl : a = [] := List.eq_nil_of_length_eq_zero (by omega)
    refine Ev.succ ?_
    simp only [span_common.l0]
    refine Ev.neg (by simp) (Ev.eq (hj _ _ _ [] (Or.inl rfl)) ?_)
    rw [comL]; simp
  | succ n ih =>
    intro a b out hn ho
    refine Ev.succ ?_
    simp only [span_common.l0]
    cases a with
    | nil =>
      refine Ev.neg (by simp) (Ev.eq (hj _ _ _ [] (Or.inl rfl)) ?_)
      rw [comL]; simp
    | cons x a =>
      refine Ev.pos (by simp only [List.length_cons]; omega) ?_
      cases b with
      | nil =>
        refine Ev.eq (hj _ _ _ [] (Or.inr rfl)) ?_
        rw [comL]; simp
      | cons y b =>
        simp only [List.length_cons] at hn
        rw [decide_eq_true (show (((y :: b).length : Nat) : Int) > 0 by simp only [List.length_cons]; omega)]
        refine Ev.succ ?_
        simp only [span_common.j1]
        refine Ev.pos trivial (Ev.pos (by simp only [List.length_cons]; omega) (Ev.pos (by simp only [List.length_cons]; omega) ?_))
        simp only [rd_head]
        rw [comL]
        have tail : ∀ o : List S23, o.length ≤ out.length + 1 → Ev (fun k => if x.f1 < y.f1 then (if 1 ≤ (((x :: a).length : Nat) : Int) then (span_common.l0 k ((x :: a).drop 1) (y :: b) o) else (none)) else (if 1 ≤ (((y :: b).length : Nat) : Int) then (span_common.l0 k (x :: a) ((y :: b).drop 1) o) else (none))) (o ++ (if x.f1 < y.f1 then comL a (y :: b) else comL (x :: a) b)) := by
          intro o hol
          refine Ev.ite (fun h => ?_) (fun h => ?_)
          · rw [if_pos h]
            refine Ev.pos (by simp only [List.length_cons]; omega) ?_
            exact ih a (y :: b) o (by simp only [List.length_cons]; omega) (by omega)
          · rw [if_neg h]
            refine Ev.pos (by simp only [List.length_cons]; omega) ?_
            exact ih (x :: a) b o (by simp only [List.length_cons]; omega) (by omega)
        refine Ev.ite (fun h => ?_) (fun h => ?_)
        · rw [if_pos h]
          refine Ev.pos (by omega) (Ev.cbind rfl ?_)
          refine Ev.eq (tail _ (by simp)) ?_
          simp
        · rw [if_neg h]
          exact tail out (by omega)
theorem common_is (a b : List S23) (h : a.length + b.length ≤ 1000000) : Ev (fun k => span_common.f k a b) (comL a b) := common_l0 (a.length + b.length) a b [] (Nat.le_refl _) (by simp; omega)
theorem gaps_l0 (x : List S23) (hx : x.length ≤ 1000000) (ho : ∀ y ∈ x, okI y) : ∀ i, i ≤ x.length → ∀ (out : List S23) (s : Int), out.length ≤ i → Ev (fun k => span_gaps.l0 k out s x (x.length : Int) (i : Int)) (out ++ gapL s (x.drop i)) := by
  have h2 : ∀ o : List S23, Ev (fun k => span_gaps.j2 k o) o := fun o => Ev.succ (by simp only [span_gaps.j2]; exact Ev.now _)
  refine up_to x.length ?_
  intro i hi ih out s hol
  refine Ev.succ ?_
  simp only [span_gaps.l0]
  by_cases h : i < x.length
  · refine Ev.pos (by omega) (Ev.pos (by omega) (Ev.pos (by omega) ?_))
    have hmem : rd_T23 x (i : Int) ∈ x := by
      have : rd_T23 x (i : Int) = x[i] := by simp [rd_T23, List.getD_eq_getElem?_getD, List.getElem?_eq_getElem h]
      rw [this]; exact List.getElem_mem h
    have hy := ho _ hmem
    rw [rd_at x i h]
    generalize rd_T23 x (i : Int) = y at hy ⊢
    unfold gapL
    rw [w64 (n := y.f0 - 1) (by omega) (by omega)]
    have h1 : ∀ o : List S23, o.length ≤ i + 1 → Ev (fun k => span_gaps.j1 k o x (x.length : Int) (i : Int) y.f0 y.f1) (o ++ gapL (y.f1 + 1) (x.drop (i + 1))) := by
      intro o hh
      refine Ev.succ ?_
      simp only [span_gaps.j1]
      rw [w64 (n := y.f1 + 1) (by omega) (by omega), w64 (n := (i : Int) + 1) (by omega) (by omega)]
      exact ih h o (y.f1 + 1) hh
    refine Ev.ite (fun hc => ?_) (fun hc => ?_)
    · rw [if_pos hc]
      refine Ev.pos (by omega) ?_
      refine Ev.eq (h1 _ (by simp; omega)) ?_
      simp
    · rw [if_neg hc]
      exact h1 out (by omega)
  · refine Ev.neg (by omega) ?_
    rw [List.drop_of_length_le (show x.length ≤ i by omega)]
    unfold gapL
    refine Ev.ite (fun hc => ?_) (fun hc => ?_)
    · rw [if_pos hc]; exact Ev.pos (by omega) (h2 _)
    · rw [if_neg hc]; exact Ev.eq (h2 _) (by simp)
theorem gaps_is (x : List S23) (hx : x.length ≤ 1000000) (ho : ∀ y ∈ x, okI y) : Ev (fun k => span_gaps.f k x) (gapL (-1000000000000) x) := gaps_l0 x hx ho 0 (Nat.zero_le _) [] _ (Nat.le_refl _)
theorem gapL_length : ∀ (l : List S23) (s : Int), (gapL s l).length ≤ l.length + 1
  | [], s => by unfold gapL; split <;> simp
  | x :: l, s => by
    have := gapL_length l (x.f1 + 1)
    unfold gapL
    split <;> simp only [List.length_cons] <;> omega
def minL (a b : List S23) : List S23 := comL (nrm a) (gapL (-1000000000000) (nrm b))
theorem ok_l {a b : List S23} (h : lst [a, b] = 0) : (∀ x ∈ a, okI x) ∧ ∀ x ∈ b, okI x := by
  have := lst_okI h
  rw [two_flat] at this
  exact ⟨fun x hx => this x (by simp [hx]), fun x hx => this x (by simp [hx])⟩
theorem Minus_is (a b : List S23) (ha : a.length ≤ 10000) (hb : b.length ≤ 10000) : Ev (fun k => span_Minus.f k a b) (if lst [a, b] = 0 then (minL a b, 0) else ([], lst [a, b])) := by
  have hf : [a, b].flatten.length < 1099511627776 := by rw [two_flat, List.length_append]; omega
  refine Ev.bind (lists_is [a, b] (by simp) hf) ?_
  refine Ev.ite (fun h => ?_) (fun h => ?_)
  · rw [if_pos h]
    have l1 := nrm_length a
    have l2 := nrm_length b
    have l3 := gapL_length (nrm b) (-1000000000000)
    exact Ev.bind (normal_is _ (by omega)) (Ev.bind (normal_is _ (by omega)) (Ev.bind (gaps_is _ (by omega) (nrm_ok (ok_l h).2)) (Ev.bind (common_is _ _ (by omega)) (Ev.now _))))
  · rw [if_neg h]; exact Ev.now _
def cmnL (a b : List S23) : List S23 := nrm (comL (nrm a) (nrm b))
theorem comL_length : ∀ (k : Nat) (a b : List S23), a.length + b.length ≤ k → (comL a b).length ≤ k := by
  intro k
  induction k with
  | zero =>
    intro a b h
    obtain rfl : a = [] := List.eq_nil_of_length_eq_zero (by omega)
    rw [comL]; simp
  | succ k ih =>
    intro a b h
    cases a with
    | nil => rw [comL]; simp
    | cons x a =>
      cases b with
      | nil => rw [comL]; simp
      | cons y b =>
        simp only [List.length_cons] at h
        have i1 := ih a (y :: b) (by simp only [List.length_cons]; omega)
        have i2 := ih (x :: a) b (by simp only [List.length_cons]; omega)
        rw [comL]
        split <;> split <;> (try simp only [List.length_cons]) <;> omega
theorem Common_is (a b : List S23) (ha : a.length ≤ 10000) (hb : b.length ≤ 10000) : Ev (fun k => span_Common.f k a b) (if lst [a, b] = 0 then (cmnL a b, 0) else ([], lst [a, b])) := by
  have hf : [a, b].flatten.length < 1099511627776 := by rw [two_flat, List.length_append]; omega
  refine Ev.bind (lists_is [a, b] (by simp) hf) ?_
  refine Ev.ite (fun h => ?_) (fun h => ?_)
  · rw [if_pos h]
    have l1 := nrm_length a
    have l2 := nrm_length b
    have l3 := comL_length _ (nrm a) (nrm b) (Nat.le_refl _)
    exact Ev.bind (normal_is _ (by omega)) (Ev.bind (normal_is _ (by omega)) (Ev.bind (common_is _ _ (by omega)) (Ev.bind (normal_is _ (by omega)) (Ev.now _))))
  · rw [if_neg h]; exact Ev.now _
theorem In_l0 (x : List S23) (hx : x.length ≤ 1000000000) (n : Int) : ∀ i, i ≤ x.length → Ev (fun k => gangsawref01_In.l0 k x n (i : Int)) (inB (x.drop i) n) := by
  refine up_to x.length ?_
  intro i hi ih
  refine Ev.succ ?_
  simp only [gangsawref01_In.l0]
  by_cases h : i < x.length
  · refine Ev.pos (by omega) (Ev.pos (by omega) ?_)
    rw [rd_at x i h, inB_cons]
    generalize rd_T23 x (i : Int) = y
    refine Ev.cbind (a := decide (y.f0 ≤ n) && decide (n ≤ y.f1)) ?_ ?_
    · unfold gangsawref01_Contains.f
      by_cases hc : y.f0 ≤ n
      · rw [if_pos hc, decide_eq_true hc]; rfl
      · rw [if_neg hc, decide_eq_false hc]; rfl
    refine Ev.ite (fun hc => ?_) (fun hc => ?_)
    · rw [hc]; exact Ev.now _
    · rw [Bool.eq_false_iff.2 hc, w64 (by omega) (by omega)]
      exact ih h
  · refine Ev.neg (by omega) ?_
    rw [List.drop_of_length_le (show x.length ≤ i by omega)]
    exact Ev.now _
theorem In_is (x : List S23) (hx : x.length ≤ 1000000000) (n : Int) : Ev (fun k => gangsawref01_In.f k x n) (inB x n) := In_l0 x hx n 0 (Nat.zero_le _)
theorem okI_app {a b : List S23} (ha : ∀ x ∈ a, okI x) (hb : ∀ x ∈ b, okI x) : ∀ x ∈ a ++ b, okI x := fun x hx => (List.mem_append.1 hx).elim (ha x) (hb x)
theorem min_spec {a b : List S23} (ha : ∀ x ∈ a, okI x) (hb : ∀ x ∈ b, okI x) : NF (-1000000000000) (minL a b) ∧ (∀ n, mem (minL a b) n ↔ mem a n ∧ ¬ mem b n) ∧ ∀ x ∈ minL a b, okI x := by
  obtain ⟨a1, a2⟩ := nrm_spec ha
  obtain ⟨b1, b2⟩ := nrm_spec hb
  obtain ⟨g1, g2⟩ := gap_spec (nrm b) (-1000000000000) (-1000000000000) (Int.le_refl _) b1 (nrm_ok hb)
  obtain ⟨c1, c2⟩ := com_spec _ _ _ _ _ (-1000000000000) (Nat.le_refl _) a1 g1 (Or.inl (Int.le_refl _))
  have m : ∀ n, mem (minL a b) n ↔ mem a n ∧ ¬ mem b n := by
    intro n
    show mem (comL _ _) n ↔ _
    rw [c2 n, a2 n, g2 n, b2 n]
    constructor
    · exact fun h => ⟨h.1, h.2.2.2⟩
    · intro h
      have := mem_ok ha h.1
      exact ⟨h.1, this.1, this.2, h.2⟩
  exact ⟨c1, m, NF_ok c1 (fun n hn => mem_ok ha ((m n).1 hn).1)⟩
theorem cmn_spec {a b : List S23} (ha : ∀ x ∈ a, okI x) (hb : ∀ x ∈ b, okI x) : NF (-1000000000000) (cmnL a b) ∧ (∀ n, mem (cmnL a b) n ↔ mem a n ∧ mem b n) ∧ ∀ x ∈ cmnL a b, okI x := by
  obtain ⟨a1, a2⟩ := nrm_spec ha
  obtain ⟨b1, b2⟩ := nrm_spec hb
  obtain ⟨c1, c2⟩ := com_spec _ _ _ _ _ (-1000000000000) (Nat.le_refl _) a1 b1 (Or.inl (Int.le_refl _))
  have co : ∀ x ∈ comL (nrm a) (nrm b), okI x := NF_ok c1 (fun n hn => mem_ok ha ((a2 n).1 ((c2 n).1 hn).1))
  obtain ⟨n1, n2⟩ := nrm_spec co
  exact ⟨n1, fun n => by show mem (nrm _) n ↔ _; rw [n2 n, c2 n, a2 n, b2 n], nrm_ok co⟩
theorem uni_spec {a b : List S23} (ha : ∀ x ∈ a, okI x) (hb : ∀ x ∈ b, okI x) : NF (-1000000000000) (nrm (a ++ b)) ∧ (∀ n, mem (nrm (a ++ b)) n ↔ mem a n ∨ mem b n) ∧ ∀ x ∈ nrm (a ++ b), okI x := by
  have h := okI_app ha hb
  obtain ⟨n1, n2⟩ := nrm_spec h
  exact ⟨n1, fun n => by rw [n2 n, mem_append], nrm_ok h⟩
end Go.Proofs.Ytedhcdganddiiaa.QA
