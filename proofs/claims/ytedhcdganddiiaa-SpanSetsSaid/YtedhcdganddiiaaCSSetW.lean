import Derived.Test.YtedhcdganddiiaaCSForm
import Derived.Test.YtedhcdganddiiaaCSQAx11
import Derived.Test.YtedhcdganddiiaaCSQAx12
import Derived.Test.YtedhcdganddiiaaCSQAx13
import Derived.Test.YtedhcdganddiiaaCSQAx14
import Derived.Test.YtedhcdganddiiaaCSQAx15
import Derived.Test.YtedhcdganddiiaaCSQAx16
namespace Go.Proofs.Ytedhcdganddiiaa.QA
open Go.RowKit Go.Proofs.YtedhcdganddiiaaW.PrintWords Go.Proofs.Ytedhcdganddiiaa.EvKit
set_option linter.unusedVariables false
set_option linter.unusedSimpArgs false

theorem lst_okI {ls : List (List S23)} (h : lst ls = 0) : ∀ x ∈ ls.flatten, okI x := by
  unfold lst at h
  split at h
  · simp at h
  · exact chk_ok h
theorem two_flat (a b : List S23) : [a, b].flatten = a ++ b := by simp
theorem Union_is (a b : List S23) (ha : a.length ≤ 10000) (hb : b.length ≤ 10000) : Ev (fun k => span_Union.f k a b) (if lst [a, b] = 0 then (nrm (a ++ b), 0) else ([], lst [a, b])) := by
  have hl : (a ++ b).length ≤ 20000 := by rw [List.length_append]; omega
  have hf : [a, b].flatten.length < 1099511627776 := by rw [two_flat]; omega
  refine Ev.bind (lists_is [a, b] (by simp) hf) ?_
  refine Ev.ite (fun h => ?_) (fun h => ?_)
  · rw [if_pos h]
    refine Ev.cbind (a := a ++ b) (by unfold api_Interval_46.f; rw [if_pos hf, two_flat]) (Ev.bind (normal_is _ (by omega)) (Ev.now _))
  · rw [if_neg h]; exact Ev.now _
theorem rd_head (x : S23) (a : List S23) : rd_T23 (x :: a) 0 = x := by simp [rd_T23]
theorem common_l0 : ∀ (n : Nat) (a b out : List S23), a.length + b.length ≤ n → out.length + n < 8796093022208 → Ev (fun k => span_common.l0 k a b out) (out ++ comL a b) := by
  have hj : ∀ (a b out : List S23) (v : List S23), (a = [] ∨ b = []) → Ev (fun k => span_common.j1 k a b out false) out := by
    intro a b out v h
    refine Ev.succ ?_
    simp only [span_common.j1]
    exact Ev.neg (by simp) (Ev.now _)
  intro n
  induction n with
  | zero =>
    intro a b out hn ho
    obtain rfl : a = [] := List.eq_nil_of_length_eq_zero (by omega)
    refine Ev.succ ?_
    simp only [span_common.l0]
    refine Ev.neg (by simp) (Ev.eq (hj _ _ _ [] (Or.inl rfl)) ?_)
    rw [comL]; simp
  | succ n ih =>
    intro a b out hn ho
    refine Ev.succ ?_
    simp only [span_common.l0]
    cases a with
    | nil =>
      refine Ev.neg (by simp) (Ev.eq (hj _ _ _ [] (Or.inl rfl)) ?_)
      rw [comL]; simp
    | cons x a =>
      refine Ev.pos (by simp only [List.length_cons]; omega) ?_
      cases b with
      | nil =>
        refine Ev.eq (hj _ _ _ [] (Or.inr rfl)) ?_
        rw [comL]; simp
      | cons y b =>
        simp only [List.length_cons] at hn
        rw [decide_eq_true (show (((y :: b).length : Nat) : Int) > 0 by simp only [List.length_cons]; omega)]
        refine Ev.succ ?_
        simp only [span_common.j1]
        refine Ev.pos trivial (Ev.pos (by simp only [List.length_cons]; omega) (Ev.pos (by simp only [List.length_cons]; omega) ?_))
        simp only [rd_head]
        rw [comL]
        have tail : ∀ o : List S23, o.length ≤ out.length + 1 → Ev (fun k => if x.f1 < y.f1 then (if 1 ≤ (((x :: a).length : Nat) : Int) then (span_common.l0 k ((x :: a).drop 1) (y :: b) o) else (none)) else (if 1 ≤ (((y :: b).length : Nat) : Int) then (span_common.l0 k (x :: a) ((y :: b).drop 1) o) else (none))) (o ++ (if x.f1 < y.f1 then comL a (y :: b) else comL (x :: a) b)) := by
          intro o hol
          refine Ev.ite (fun h => ?_) (fun h => ?_)
          · rw [if_pos h]
            refine Ev.pos (by simp only [List.length_cons]; omega) ?_
            exact ih a (y :: b) o (by simp only [List.length_cons]; omega) (by omega)
          · rw [if_neg h]
            refine Ev.pos (by simp only [List.length_cons]; omega) ?_
            exact ih (x :: a) b o (by simp only [List.length_cons]; omega) (by omega)
        refine Ev.ite (fun h => ?_) (fun h => ?_)
        · rw [if_pos h]
          refine Ev.pos (by omega) (Ev.cbind rfl ?_)
          refine Ev.eq (tail _ (by simp)) ?_
          simp
        · rw [if_neg h]
          exact tail out (by omega)
theorem common_is (a b : List S23) (h : a.length + b.length ≤ 1000000) : Ev (fun k => span_common.f k a b) (comL a b) := common_l0 (a.length + b.length) a b [] (Nat.le_refl _) (by simp; omega)
theorem gaps_l0 (x : List S23) (hx : x.length ≤ 1000000) (ho : ∀ y ∈ x, okI y) : ∀ i, i ≤ x.length → ∀ (out : List S23) (s : Int), out.length ≤ i → Ev (fun k => span_gaps.l0 k out s x (x.length : Int) (i : Int)) (out ++ gapL s (x.drop i)) := by
  have h2 : ∀ o : List S23, Ev (fun k => span_gaps.j2 k o) o := fun o => Ev.succ (by simp only [span_gaps.j2]; exact Ev.now _)
  refine up_to x.length ?_
  intro i hi ih out s hol
  refine Ev.succ ?_
  simp only [span_gaps.l0]
  by_cases h : i < x.length
  · refine Ev.pos (by omega) (Ev.pos (by omega) (Ev.pos (by omega) ?_))
    have hmem : rd_T23 x (i : Int) ∈ x := by
      have : rd_T23 x (i : Int) = x[i] := by simp [rd_T23, List.getD_eq_getElem?_getD, List.getElem?_eq_getElem h]
      rw [this]; exact List.getElem_mem h
    have hy := ho _ hmem
    rw [rd_at x i h]
    generalize rd_T23 x (i : Int) = y at hy ⊢
    unfold gapL
    rw [w64 (n := y.f0 - 1) (by omega) (by omega)]
    have h1 : ∀ o : List S23, o.length ≤ i + 1 → Ev (fun k => span_gaps.j1 k o x (x.length : Int) (i : Int) y.f0 y.f1) (o ++ gapL (y.f1 + 1) (x.drop (i + 1))) := by
      intro o hh
      refine Ev.succ ?_
      simp only [span_gaps.j1]
      rw [w64 (n := y.f1 + 1) (by omega) (by omega), w64 (n := (i : Int) + 1) (by omega) (by omega)]
      exact ih h o (y.f1 + 1) hh
    refine Ev.ite (fun hc => ?_) (fun hc => ?_)
    · rw [if_pos hc]
      refine Ev.pos (by omega) ?_
      refine Ev.eq (h1 _ (by simp; omega)) ?_
      simp
    · rw [if_neg hc]
      exact h1 out (by omega)
  · refine Ev.neg (by omega) ?_
    rw [List.drop_of_length_le (show x.length ≤ i by omega)]
    unfold gapL
    refine Ev.ite (fun hc => ?_) (fun hc => ?_)
    · rw [if_pos hc]; exact Ev.pos (by omega) (h2 _)
    · rw [if_neg hc]; exact Ev.eq (h2 _) (by simp)
theorem gaps_is (x : List S23) (hx : x.length ≤ 1000000) (ho : ∀ y ∈ x, okI y) : Ev (fun k => span_gaps.f k x) (gapL (-1000000000000) x) := gaps_l0 x hx ho 0 (Nat.zero_le _) [] _ (Nat.le_refl _)
theorem gapL_length : ∀ (l : List S23) (s : Int), (gapL s l).length ≤ l.length + 1
  | [], s => by unfold gapL; split <;> simp
  | x :: l, s => by
    have := gapL_length l (x.f1 + 1)
    unfold gapL
    split <;> simp only [List.length_cons] <;> omega
def minL (a b : List S23) : List S23 := comL (nrm a) (gapL (-1000000000000) (nrm b))
theorem ok_l {a b : List S23} (h : lst [a, b] = 0) : (∀ x ∈ a, okI x) ∧ ∀ x ∈ b, okI x := by
  have := lst_okI h
  rw [two_flat] at this
  exact ⟨fun x hx => this x (by simp [hx]), fun x hx => this x (by simp [hx])⟩
theorem Minus_is (a b : List S23) (ha : a.length ≤ 10000) (hb : b.length ≤ 10000) : Ev (fun k => span_Minus.f k a b) (if lst [a, b] = 0 then (minL a b, 0) else ([], lst [a, b])) := by
  have hf : [a, b].flatten.length < 1099511627776 := by rw [two_flat, List.length_append]; omega
  refine Ev.bind (lists_is [a, b] (by simp) hf) ?_
  refine Ev.ite (fun h => ?_) (fun h => ?_)
  · rw [if_pos h]
    have l1 := nrm_length a
    have l2 := nrm_length b
    have l3 := gapL_length (nrm b) (-1000000000000)
    exact Ev.bind (normal_is _ (by omega)) (Ev.bind (normal_is _ (by omega)) (Ev.bind (gaps_is _ (by omega) (nrm_ok (ok_l h).2)) (Ev.bind (common_is _ _ (by omega)) (Ev.now _))))
  · rw [if_neg h]; exact Ev.now _
def cmnL (a b : List S23) : List S23 := nrm (comL (nrm a) (nrm b))
theorem comL_length : ∀ (k : Nat) (a b : List S23), a.length + b.length ≤ k → (comL a b).length ≤ k := by
  intro k
  induction k with
  | zero =>
    intro a b h
    obtain rfl : a = [] := List.eq_nil_of_length_eq_zero (by omega)
    rw [comL]; simp
  | succ k ih =>
    intro a b h
    cases a with
    | nil => rw [comL]; simp
    | cons x a =>
      cases b with
      | nil => rw [comL]; simp
      | cons y b =>
        simp only [List.length_cons] at h
        have i1 := ih a (y :: b) (by simp only [List.length_cons]; omega)
        have i2 := ih (x :: a) b (by simp only [List.length_cons]; omega)
        rw [comL]
        split <;> split <;> (try simp only [List.length_cons]) <;> omega
theorem Common_is (a b : List S23) (ha : a.length ≤ 10000) (hb : b.length ≤ 10000) : Ev (fun k => span_Common.f k a b) (if lst [a, b] = 0 then (cmnL a b, 0) else ([], lst [a, b])) := by
  have hf : [a, b].flatten.length < 1099511627776 := by rw [two_flat, List.length_append]; omega
  refine Ev.bind (lists_is [a, b] (by simp) hf) ?_
  refine Ev.ite (fun h => ?_) (fun h => ?_)
  · rw [if_pos h]
    have l1 := nrm_length a
    have l2 := nrm_length b
    have l3 := comL_length _ (nrm a) (nrm b) (Nat.le_refl _)
    exact Ev.bind (normal_is _ (by omega)) (Ev.bind (normal_is _ (by omega)) (Ev.bind (common_is _ _ (by omega)) (Ev.bind (normal_is _ (by omega)) (Ev.now _))))
  · rw [if_neg h]; exact Ev.now _
theorem In_l0 (x : List S23) (hx : x.length ≤ 1000000000) (n : Int) : ∀ i, i ≤ x.length → Ev (fun k => gangsawref01_In.l0 k x n (i : Int)) (inB (x.drop i) n) := by
  refine up_to x.length ?_
  intro i hi ih
  refine Ev.succ ?_
  simp only [gangsawref01_In.l0]
  by_cases h : i < x.length
  · refine Ev.pos (by omega) (Ev.pos (by omega) ?_)
    rw [rd_at x i h, inB_cons]
    generalize rd_T23 x (i : Int) = y
    refine Ev.cbind (a := decide (y.f0 ≤ n) && decide (n ≤ y.f1)) ?_ ?_
    · unfold gangsawref01_Contains.f
      by_cases hc : y.f0 ≤ n
      · rw [if_pos hc, decide_eq_true hc]; rfl
      · rw [if_neg hc, decide_eq_false hc]; rfl
    refine Ev.ite (fun hc => ?_) (fun hc => ?_)
    · rw [hc]; exact Ev.now _
    · rw [Bool.eq_false_iff.2 hc, w64 (by omega) (by omega)]
      exact ih h
  · refine Ev.neg (by omega) ?_
    rw [List.drop_of_length_le (show x.length ≤ i by omega)]
    exact Ev.now _
theorem In_is (x : List S23) (hx : x.length ≤ 1000000000) (n : Int) : Ev (fun k => gangsawref01_In.f k x n) (inB x n) := In_l0 x hx n 0 (Nat.zero_le _)
theorem rdi_at (l : List Int) (i : Nat) (h : i < l.length) : l.drop i = rd l (i : Int) :: l.drop (i + 1) := by
  rw [drop_cons l i 0 h]; simp [rd]
theorem add_l0 (x : List Int) (hx : x.length ≤ 1000000) (n : Int) : ∀ i, i ≤ x.length → Ev (fun k => gangsawref01_add.l0 k x n (i : Int)) (x.take i ++ addL (x.drop i) n) := by
  refine up_to x.length ?_
  intro i hi ih
  refine Ev.succ ?_
  simp only [gangsawref01_add.l0]
  have lt : (x.take i).length = i := by rw [List.length_take]; omega
  have ld : (x.drop i).length = x.length - i := List.length_drop ..
  by_cases h : i < x.length
  · refine Ev.pos (by omega) (Ev.pos (by omega) ?_)
    have e := rdi_at x i h
    refine Ev.ite (fun hc => ?_) (fun hc => ?_)
    · rw [w64 (by omega) (by omega)]
      refine Ev.eq (ih h) ?_
      have e2 : addL (x.drop i) n = rd x (i : Int) :: addL (x.drop (i + 1)) n := by rw [e]; simp only [addL]; rw [if_pos hc]
      rw [e2]
      have : x.take (i + 1) = x.take i ++ [rd x (i : Int)] := by
        rw [List.take_add_one, List.getElem?_eq_getElem h]
        simp [rd, List.getD_eq_getElem?_getD, List.getElem?_eq_getElem h]
      rw [this]; simp
    · refine Ev.succ ?_
      simp only [gangsawref01_add.j1]
      refine Ev.pos (by omega) (Ev.pos (by omega) (Ev.ite (fun h3 => ?_) (fun h3 => ?_)))
      · refine Ev.eq (Ev.now _) ?_
        have e2 : addL (x.drop i) n = x.drop i := by rw [e]; simp only [addL]; rw [if_neg hc, if_pos h3]
        rw [e2, List.take_append_drop]
      · refine Ev.cbind rfl (Ev.pos (by omega) (Ev.cbind rfl ?_))
        simp only [List.nil_append, Int.toNat_natCast]
        refine Ev.pos (by simp; omega) (Ev.cbind rfl (Ev.cbind rfl (Ev.pos (by rw [lt]; simp; omega) (Ev.cbind rfl (Ev.cbind rfl (Ev.pos (by rw [List.length_append, lt, ld]; simp; omega) ?_))))))
        refine Ev.eq (Ev.now _) ?_
        have e2 : addL (x.drop i) n = n :: x.drop i := by rw [e]; simp only [addL]; rw [if_neg hc, if_neg h3]
        rw [e2]; simp
  · refine Ev.neg (by omega) ?_
    refine Ev.succ ?_
    simp only [gangsawref01_add.j1]
    refine Ev.neg (by omega) (Ev.cbind rfl (Ev.pos (by omega) (Ev.pos (by omega) (Ev.cbind rfl ?_))))
    simp only [List.nil_append, Int.toNat_natCast]
    refine Ev.pos (by simp; omega) (Ev.cbind rfl (Ev.cbind rfl (Ev.pos (by rw [lt]; simp; omega) (Ev.cbind rfl (Ev.cbind rfl (Ev.pos (by rw [List.length_append, lt, ld]; simp; omega) ?_))))))
    refine Ev.eq (Ev.now _) ?_
    have e2 : x.drop i = [] := List.drop_of_length_le (by omega)
    rw [e2]; simp [addL]
theorem add_is (x : List Int) (hx : x.length ≤ 1000000) (n : Int) : Ev (fun k => gangsawref01_add.f k x n) (addL x n) := by
  have := add_l0 x hx n 0 (Nat.zero_le _)
  exact this
theorem ends_l0 (x : List S23) (hx : x.length ≤ 100000) (ho : ∀ y ∈ x, okI y) : ∀ i, i ≤ x.length → ∀ o : List Int, o.length ≤ 2 * i → Ev (fun k => gangsawref01_ends.l0 k x o (i : Int)) (endL o (x.drop i)) := by
  refine up_to x.length ?_
  intro i hi ih o hol
  refine Ev.succ ?_
  simp only [gangsawref01_ends.l0]
  by_cases h : i < x.length
  · refine Ev.pos (by omega) (Ev.pos (by omega) ?_)
    have hmem : rd_T23 x (i : Int) ∈ x := by
      have : rd_T23 x (i : Int) = x[i] := by simp [rd_T23, List.getD_eq_getElem?_getD, List.getElem?_eq_getElem h]
      rw [this]; exact List.getElem_mem h
    have hy := ho _ hmem
    rw [rd_at x i h]
    generalize rd_T23 x (i : Int) = y at hy ⊢
    have l1 := addL_length o y.f0
    have l2 := addL_length (addL o y.f0) (y.f1 + 1)
    refine Ev.bind (add_is o (by omega) y.f0) ?_
    rw [w64 (n := y.f1 + 1) (by omega) (by omega)]
    refine Ev.bind (add_is (addL o y.f0) (by omega) (y.f1 + 1)) ?_
    rw [w64 (n := (i : Int) + 1) (by omega) (by omega)]
    exact ih h _ (by omega)
  · refine Ev.neg (by omega) ?_
    rw [List.drop_of_length_le (show x.length ≤ i by omega)]
    exact Ev.now _
theorem ends_is (x : List S23) (hx : x.length ≤ 100000) (ho : ∀ y ∈ x, okI y) : Ev (fun k => gangsawref01_ends.f k x) (endL [] x) := ends_l0 x hx ho 0 (Nat.zero_le _) [] (Nat.zero_le _)
theorem fstp_length (out : List S23) (u v : Int) : (fstp out u v).length ≤ out.length + 1 := by
  unfold fstp
  split <;> simp
theorem form_l0 (a b : List S23) (ha : a.length ≤ 10000) (hb : b.length ≤ 10000) (kind : Int) (hk : kind = 1 ∨ kind = 2 ∨ kind = 3) (L : List Int) (hL : L.length ≤ 1000000) (hr : ∀ u ∈ L, -1000000000000 ≤ u ∧ u ≤ 1000000000001) : ∀ i, i ≤ L.length → ∀ out : List S23, out.length ≤ i → (∀ y ∈ out, -1000000000001 ≤ y.f1 ∧ y.f1 ≤ 1000000000001) → Ev (fun k => gangsawref01_form.l0 k a b kind L out (i : Int)) (frs (kpB kind a b) out (L.drop i)) := by
  refine up_to L.length ?_
  intro i hi ih out hol hor
  refine Ev.succ ?_
  simp only [gangsawref01_form.l0]
  rw [w64 (n := (i : Int) + 1) (by omega) (by omega)]
  by_cases h : i + 1 < L.length
  · refine Ev.pos (by omega) (Ev.pos (by omega) (Ev.pos (by omega) ?_))
    refine Ev.bind (In_is a (by omega) _) (Ev.bind (In_is b (by omega) _) ?_)
    have e1 := rdi_at L i (by omega)
    have e2 := rdi_at L (i + 1) h
    have m1 : rd L (i : Int) ∈ L := List.mem_of_mem_drop (i := i) (by rw [e1]; simp)
    have m2 : rd L ((i + 1 : Nat) : Int) ∈ L := List.mem_of_mem_drop (i := i + 1) (by rw [e2]; simp)
    have r1 := hr _ m1
    have r2 := hr _ m2
    have cast : (((i + 1 : Nat)) : Int) = (i : Int) + 1 := by omega
    rw [cast] at e2 m2 r2
    have e3 : frs (kpB kind a b) out (L.drop i) = frs (kpB kind a b) (if kpB kind a b (rd L (i : Int)) = true then fstp out (rd L (i : Int)) (rd L ((i : Int) + 1)) else out) (L.drop (i + 1)) := by
      rw [e1, e2]; rfl
    rw [e3]
    have hj : Ev (fun k => gangsawref01_form.j1 k a b kind L out (i : Int) (!kpB kind a b (rd L (i : Int)))) (frs (kpB kind a b) (if kpB kind a b (rd L (i : Int)) = true then fstp out (rd L (i : Int)) (rd L ((i : Int) + 1)) else out) (L.drop (i + 1))) := by
      cases hkp : kpB kind a b (rd L (i : Int)) with
      | false =>
        refine Ev.succ ?_
        simp only [gangsawref01_form.j1]
        refine Ev.pos rfl ?_
        rw [w64 (n := (i : Int) + 1) (by omega) (by omega), if_neg (by simp)]
        exact ih (by omega) out (by omega) hor
      | true =>
        refine Ev.succ ?_
        simp only [gangsawref01_form.j1]
        refine Ev.neg (by simp) ?_
        rw [if_pos trivial]
        have hfl := fstp_length out (rd L (i : Int)) (rd L ((i : Int) + 1))
        rw [w64 (n := (i : Int) + 1) (by omega) (by omega), w64 (n := rd L ((i : Int) + 1) - 1) (by omega) (by omega)]
        have hnext : ∀ o : List S23, o = fstp out (rd L (i : Int)) (rd L ((i : Int) + 1)) → (∀ y ∈ o, -1000000000001 ≤ y.f1 ∧ y.f1 ≤ 1000000000001) → Ev (fun k => gangsawref01_form.l0 k a b kind L o ((i : Int) + 1)) (frs (kpB kind a b) (fstp out (rd L (i : Int)) (rd L ((i : Int) + 1))) (L.drop (i + 1))) := by
          intro o he hoo
          rw [he] at hoo ⊢
          exact ih (by omega) _ (by omega) hoo
        have happ : ∀ y ∈ out ++ [(⟨rd L (i : Int), rd L ((i : Int) + 1) - 1⟩ : S23)], -1000000000001 ≤ y.f1 ∧ y.f1 ≤ 1000000000001 := by
          intro y hy
          rcases List.mem_append.1 hy with hy | hy
          · exact hor y hy
          · rw [List.mem_singleton.1 hy]; show _ ≤ rd L ((i : Int) + 1) - 1 ∧ rd L ((i : Int) + 1) - 1 ≤ _; omega
        by_cases hp : 0 < out.length
        · refine Ev.pos (by omega) ?_
          rw [w64 (n := (out.length : Int) - 1) (by omega) (by omega)]
          refine Ev.pos (by omega) (Ev.pos (by omega) (Ev.pos (by omega) (Ev.pos (by omega) ?_)))
          have hly : rd_T23 out ((out.length : Int) - 1) ∈ out := by
            have hlt : out.length - 1 < out.length := by omega
            have : rd_T23 out ((out.length : Int) - 1) = out[out.length - 1] := by
              unfold rd_T23
              rw [show ((out.length : Int) - 1).toNat = out.length - 1 by omega, List.getD_eq_getElem?_getD, List.getElem?_eq_getElem hlt]; rfl
            rw [this]; exact List.getElem_mem hlt
          have hry := hor _ hly
          rw [w64 (n := (rd_T23 out ((out.length : Int) - 1)).f1 + 1) (by omega) (by omega)]
          refine Ev.ite (fun hc => ?_) (fun hc => ?_)
          · refine Ev.pos (by omega) (Ev.pos (by omega) (hnext _ ?_ ?_))
            · unfold fstp
              rw [if_pos ⟨hp, hc⟩, show ((out.length : Int) - 1).toNat = out.length - 1 by omega]
            · intro y hy
              rcases List.mem_or_eq_of_mem_set hy with hy | hy
              · exact hor y hy
              · rw [hy]; show _ ≤ rd L ((i : Int) + 1) - 1 ∧ rd L ((i : Int) + 1) - 1 ≤ _; omega
          · refine Ev.pos (by omega) (Ev.pos (by omega) (Ev.pos (by omega) (hnext _ ?_ happ)))
            unfold fstp
            rw [if_neg (fun q => hc q.2)]
        · refine Ev.neg (by omega) (Ev.pos (by omega) (Ev.pos (by omega) (Ev.pos (by omega) (Ev.pos (by omega) (Ev.pos (by omega) (hnext _ ?_ happ))))))
          unfold fstp
          rw [if_neg (fun q => hp q.1)]
    revert hj
    unfold kpB kp
    generalize inB a (rd L (i : Int)) = X
    generalize inB b (rd L (i : Int)) = Y
    rcases hk with rfl | rfl | rfl <;> cases X <;> cases Y <;> simp
  · refine Ev.neg (by omega) (Ev.eq (Ev.now _) ?_)
    by_cases h2 : i < L.length
    · rw [rdi_at L i h2, List.drop_of_length_le (show L.length ≤ i + 1 by omega)]; rfl
    · rw [List.drop_of_length_le (show L.length ≤ i by omega)]; rfl
theorem form_is (a b : List S23) (ha : a.length ≤ 10000) (hb : b.length ≤ 10000) (kind : Int) (hk : kind = 1 ∨ kind = 2 ∨ kind = 3) (ho : ∀ x ∈ a ++ b, okI x) : Ev (fun k => gangsawref01_form.f k a b kind) (formL kind a b) := by
  have hl : (a ++ b).length ≤ 20000 := by rw [List.length_append]; omega
  refine Ev.cbind rfl (Ev.pos (by simp; omega) (Ev.cbind rfl ?_))
  simp only [List.nil_append]
  have e := endL_spec (a ++ b) [] (by simp)
  refine Ev.pos (by omega) (Ev.bind (ends_is _ (by omega) ho) ?_)
  have h := form_l0 a b ha hb kind hk (endL [] (a ++ b)) (by have := e.2.1; simp only [List.length_nil] at this; omega) (fun u hu => by
    rcases (e.2.2 u).1 hu with q | ⟨x, hx, q⟩
    · cases q
    · have := ho x hx; omega) 0 (Nat.zero_le _) [] (Nat.le_refl _) (by simp)
  rw [List.drop_zero, frs_nil] at h
  exact h
theorem Set_is (a b : List S23) (ha : a.length ≤ 10000) (hb : b.length ≤ 10000) (kind : Int) (hk : kind = 1 ∨ kind = 2 ∨ kind = 3) : Ev (fun k => gangsawref01_Set.f k a b kind) (if lst [a, b] = 0 then (formL kind a b, 0) else ([], lst [a, b])) := by
  refine Ev.bind (rLists_is a b (by omega) (by omega)) ?_
  refine Ev.ite (fun h => ?_) (fun h => ?_)
  · rw [if_pos h]
    refine Ev.bind (form_is a b ha hb kind hk ?_) (Ev.now _)
    have := lst_okI h
    rwa [two_flat] at this
  · rw [if_neg h]; exact Ev.now _
theorem okI_app {a b : List S23} (ha : ∀ x ∈ a, okI x) (hb : ∀ x ∈ b, okI x) : ∀ x ∈ a ++ b, okI x := fun x hx => (List.mem_append.1 hx).elim (ha x) (hb x)
theorem min_spec {a b : List S23} (ha : ∀ x ∈ a, okI x) (hb : ∀ x ∈ b, okI x) : NF (-1000000000000) (minL a b) ∧ (∀ n, mem (minL a b) n ↔ mem a n ∧ ¬ mem b n) ∧ ∀ x ∈ minL a b, okI x := by
  obtain ⟨a1, a2⟩ := nrm_spec ha
  obtain ⟨b1, b2⟩ := nrm_spec hb
  obtain ⟨g1, g2⟩ := gap_spec (nrm b) (-1000000000000) (-1000000000000) (Int.le_refl _) b1 (nrm_ok hb)
  obtain ⟨c1, c2⟩ := com_spec _ _ _ _ _ (-1000000000000) (Nat.le_refl _) a1 g1 (Or.inl (Int.le_refl _))
  have m : ∀ n, mem (minL a b) n ↔ mem a n ∧ ¬ mem b n := by
    intro n
    show mem (comL _ _) n ↔ _
    rw [c2 n, a2 n, g2 n, b2 n]
    constructor
    · exact fun h => ⟨h.1, h.2.2.2⟩
    · intro h
      have := mem_ok ha h.1
      exact ⟨h.1, this.1, this.2, h.2⟩
  exact ⟨c1, m, NF_ok c1 (fun n hn => mem_ok ha ((m n).1 hn).1)⟩
theorem cmn_spec {a b : List S23} (ha : ∀ x ∈ a, okI x) (hb : ∀ x ∈ b, okI x) : NF (-1000000000000) (cmnL a b) ∧ (∀ n, mem (cmnL a b) n ↔ mem a n ∧ mem b n) ∧ ∀ x ∈ cmnL a b, okI x := by
  obtain ⟨a1, a2⟩ := nrm_spec ha
  obtain ⟨b1, b2⟩ := nrm_spec hb
  obtain ⟨c1, c2⟩ := com_spec _ _ _ _ _ (-1000000000000) (Nat.le_refl _) a1 b1 (Or.inl (Int.le_refl _))
  have co : ∀ x ∈ comL (nrm a) (nrm b), okI x := NF_ok c1 (fun n hn => mem_ok ha ((a2 n).1 ((c2 n).1 hn).1))
  obtain ⟨n1, n2⟩ := nrm_spec co
  exact ⟨n1, fun n => by show mem (nrm _) n ↔ _; rw [n2 n, c2 n, a2 n, b2 n], nrm_ok co⟩
theorem uni_spec {a b : List S23} (ha : ∀ x ∈ a, okI x) (hb : ∀ x ∈ b, okI x) : NF (-1000000000000) (nrm (a ++ b)) ∧ (∀ n, mem (nrm (a ++ b)) n ↔ mem a n ∨ mem b n) ∧ ∀ x ∈ nrm (a ++ b), okI x := by
  have h := okI_app ha hb
  obtain ⟨n1, n2⟩ := nrm_spec h
  exact ⟨n1, fun n => by rw [n2 n, mem_append], nrm_ok h⟩
end Go.Proofs.Ytedhcdganddiiaa.QA
