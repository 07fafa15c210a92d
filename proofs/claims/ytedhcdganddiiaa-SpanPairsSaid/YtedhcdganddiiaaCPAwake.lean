import Derived.Test.YtedhcdganddiiaaCPSpecA
import Derived.Test.YtedhcdganddiiaaCPQAx4
import Derived.Test.YtedhcdganddiiaaCPQAx2
import Derived.Test.YtedhcdganddiiaaCPQAx3
namespace Go.Proofs.Ytedhcdganddiiaa.QA
open Go.RowKit Go.Proofs.YtedhcdganddiiaaW.PrintWords Go.Proofs.Ytedhcdganddiiaa.EvKit
set_option linter.unusedVariables false
set_option linter.unusedSimpArgs false

/-- One step of the normal form. -/
def nstep (out : List S23) (x : S23) : List S23 :=
  if out.length = 0 then out ++ [x] else if x.f0 ≤ wrap64 ((rd_T23 out ((out.length : Int) - 1)).f1 + 1) then out.set (out.length - 1) ⟨(rd_T23 out ((out.length : Int) - 1)).f0, mx (rd_T23 out ((out.length : Int) - 1)).f1 x.f1⟩ else out ++ [x]
def normL (l : List S23) : List S23 := l.foldl nstep []
theorem nstep_length (out : List S23) (x : S23) : (nstep out x).length ≤ out.length + 1 := by
  unfold nstep
  split
  · simp
  · split <;> simp
theorem normal_l0 (x : List S23) (hx : x.length < 1099511627776) : ∀ i, i ≤ x.length → ∀ out : List S23, out.length ≤ i → Ev (fun k => span_normal.l0 k out x (x.length : Int) (i : Int)) ((x.drop i).foldl nstep out) := by
  refine up_to x.length ?_
  intro i hi ih out ho
  refine Ev.succ ?_
  simp only [span_normal.l0]
  by_cases h : i < x.length
  · refine Ev.pos (by omega) (Ev.pos (by omega) (Ev.pos (by omega) ?_))
    have e := rd_at x i h
    have hj : ∀ o : List S23, o.length ≤ i + 1 → Ev (fun k => span_normal.l0 k o x (x.length : Int) (wrap64 ((i : Int) + 1))) ((x.drop (i + 1)).foldl nstep o) := by
      intro o hol
      rw [w64 (by omega) (by omega)]
      exact ih h o hol
    rw [e, List.foldl_cons]
    have hl := nstep_length out (rd_T23 x (i : Int))
    refine Ev.ite (fun hc => ?_) (fun hc => ?_)
    · rw [w64 (by omega) (by omega)]
      refine Ev.pos (by omega) (Ev.pos (by omega) ?_)
      refine Ev.ite (fun hc2 => ?_) (fun hc2 => ?_)
      · have e2 : nstep out (rd_T23 x (i : Int)) = out.set ((out.length : Int) - 1).toNat ⟨(rd_T23 out ((out.length : Int) - 1)).f0, mx (rd_T23 out ((out.length : Int) - 1)).f1 (rd_T23 x (i : Int)).f1⟩ := by
          unfold nstep
          rw [if_neg (by omega), if_pos hc2, show ((out.length : Int) - 1).toNat = out.length - 1 by omega]
        rw [← e2]
        exact hj _ (by omega)
      · have e2 : nstep out (rd_T23 x (i : Int)) = out ++ [rd_T23 x (i : Int)] := by
          unfold nstep
          rw [if_neg (by omega), if_neg hc2]
        refine Ev.pos (by omega) ?_
        rw [e2] at hl ⊢
        exact hj (out ++ [rd_T23 x (i : Int)]) (by omega)
    · have e2 : nstep out (rd_T23 x (i : Int)) = out ++ [rd_T23 x (i : Int)] := by
        unfold nstep
        rw [if_pos (by omega)]
      refine Ev.pos (by omega) ?_
      rw [e2] at hl ⊢
      exact hj (out ++ [rd_T23 x (i : Int)]) (by omega)
  · refine Ev.neg (by omega) (Ev.eq (Ev.now _) ?_)
    rw [List.drop_of_length_le (show x.length ≤ i by omega)]; rfl
def nrm (l : List S23) : List S23 := normL (SortRow.sortL ltLo l)
theorem normal_is (l : List S23) (hl : l.length < 1099511627776) : Ev (fun k => span_normal.f k l) (nrm l) := by
  have hs : (SortRow.sortL ltLo l).length = l.length := SortRow.sortL_length ltLo swoLo l
  refine Ev.cbind (a := l) (by unfold api_Interval_52.f; rw [if_pos hl]) ?_
  refine Ev.cbind (a := SortRow.sortL ltLo l) (by unfold api_Interval_53.f; rw [if_pos ⟨rfl, hl⟩]) ?_
  have h := normal_l0 (SortRow.sortL ltLo l) (by omega) 0 (Nat.zero_le _) [] (Nat.le_refl _)
  rw [hs] at h
  exact h
theorem Normalize_is (l : List S23) (hl : l.length < 1099511627776) : Ev (fun k => span_Normalize.f k l) (if lst [l] = 0 then (nrm l, 0) else ([], lst [l])) := by
  refine Ev.bind (lists_is [l] (by simp) (by simpa using hl)) ?_
  refine Ev.ite (fun h => ?_) (fun h => ?_)
  · rw [if_pos h]; exact Ev.bind (normal_is l hl) (Ev.now _)
  · rw [if_neg h]; exact Ev.now _
/-- The sum of the lengths. -/
def cnt (s : Int) (l : List S23) : Int := l.foldl (fun s x => wrap64 (s + lenOf x)) s
theorem Count_l0 (x : List S23) (hx : x.length < 1099511627776) : ∀ i, i ≤ x.length → ∀ s, Ev (fun k => span_Count.l0 k s x (x.length : Int) (i : Int)) (cnt s (x.drop i), 0) := by
  refine up_to x.length ?_
  intro i hi ih s
  refine Ev.succ ?_
  simp only [span_Count.l0]
  by_cases h : i < x.length
  · refine Ev.pos (by omega) (Ev.pos (by omega) (Ev.pos (by omega) ?_))
    refine Ev.bind (Length_is _ _) ?_
    rw [w64 (n := (i : Int) + 1) (by omega) (by omega), rd_at x i h]
    exact ih h _
  · refine Ev.neg (by omega) (Ev.eq (Ev.now _) ?_)
    rw [List.drop_of_length_le (show x.length ≤ i by omega)]; rfl
theorem nrm_length (l : List S23) : (nrm l).length ≤ l.length := by
  have hs : (SortRow.sortL ltLo l).length = l.length := SortRow.sortL_length ltLo swoLo l
  have key : ∀ (x out : List S23), (x.foldl nstep out).length ≤ out.length + x.length := by
    intro x
    induction x with
    | nil => intro out; simp
    | cons a x ih =>
      intro out
      have h1 := nstep_length out a
      have h2 := ih (nstep out a)
      simp only [List.foldl_cons, List.length_cons]
      omega
  have := key (SortRow.sortL ltLo l) []
  unfold nrm normL
  simp only [List.length_nil] at this
  omega
theorem Count_is (l : List S23) (hl : l.length < 1099511627776) : Ev (fun k => span_Count.f k l) (if lst [l] = 0 then (cnt 0 (nrm l), 0) else (0, lst [l])) := by
  refine Ev.bind (lists_is [l] (by simp) (by simpa using hl)) ?_
  refine Ev.ite (fun h => ?_) (fun h => ?_)
  · rw [if_pos h]
    refine Ev.bind (normal_is l hl) ?_
    have := nrm_length l
    exact Count_l0 (nrm l) (by omega) 0 (Nat.zero_le _) 0
  · rw [if_neg h]; exact Ev.now _
theorem Add_is (a b c d : Int) : Ev (fun k => span_Add.f k a b c d) (if chk [⟨a, b⟩, ⟨c, d⟩] = 0 then madeR (wrap64 (a + c)) (wrap64 (b + d)) else (0, 0, chk [⟨a, b⟩, ⟨c, d⟩])) := by
  refine Ev.bind (check_is _ (by simp [maxLen])) ?_
  refine Ev.ite (fun h => ?_) (fun h => ?_)
  · rw [if_pos h]; exact Ev.cbind (made_is _ _) (Ev.now _)
  · rw [if_neg h]; exact Ev.now _
def sameB : List S23 → List S23 → Bool
  | [], [] => true
  | a :: x, b :: y => (a.f0 == b.f0 && a.f1 == b.f1) && sameB x y
  | _, _ => false
theorem sameB_iff : ∀ {x y : List S23}, sameB x y = true ↔ x = y
  | [], [] => by simp [sameB]
  | [], _ :: _ => by simp [sameB]
  | _ :: _, [] => by simp [sameB]
  | a :: x, b :: y => by
    obtain ⟨a0, a1⟩ := a
    obtain ⟨b0, b1⟩ := b
    simp only [sameB, Bool.and_eq_true, beq_iff_eq, sameB_iff, List.cons.injEq, S23.mk.injEq]
theorem Same_l0 (x y : List S23) (hx : x.length ≤ 9223372036854775806) (hxy : x.length = y.length) : ∀ i, i ≤ x.length → Ev (fun k => gangsawref01_Same.l0 k x y (i : Int)) (sameB (x.drop i) (y.drop i)) := by
  refine up_to x.length ?_
  intro i hi ih
  refine Ev.succ ?_
  simp only [gangsawref01_Same.l0]
  by_cases h : i < x.length
  · refine Ev.pos (by omega) (Ev.pos (by omega) (Ev.pos (by omega) ?_))
    rw [rd_at x i h, rd_at y i (by omega)]
    refine Ev.ite (fun hc => Ev.eq (Ev.now _) ?_) (fun hc => ?_)
    · simp only [sameB]
      cases h1 : (rd_T23 x (i : Int)).f0 == (rd_T23 y (i : Int)).f0 <;> cases h2 : (rd_T23 x (i : Int)).f1 == (rd_T23 y (i : Int)).f1 <;> simp_all
    · rw [w64 (by omega) (by omega)]
      refine Ev.eq (ih h) ?_
      simp only [sameB]
      cases h1 : (rd_T23 x (i : Int)).f0 == (rd_T23 y (i : Int)).f0 <;> cases h2 : (rd_T23 x (i : Int)).f1 == (rd_T23 y (i : Int)).f1 <;> simp_all
  · refine Ev.neg (by omega) (Ev.eq (Ev.now _) ?_)
    rw [List.drop_of_length_le (show x.length ≤ i by omega), List.drop_of_length_le (show y.length ≤ i by omega)]; rfl
theorem Same_is (x y : List S23) (hx : x.length ≤ 9223372036854775806) : Ev (fun k => gangsawref01_Same.f k x y) (sameB x y) := by
  refine Ev.ite (fun h => ?_) (fun h => Ev.eq (Ev.now _) ?_)
  · exact Same_l0 x y hx (by omega) 0 (Nat.zero_le _)
  · have : ¬ sameB x y = true := fun hs => h (by rw [sameB_iff.1 hs])
    simpa using this
/-- A list that is sorted by distinct first ends is what the sort leaves. -/
theorem sort_unique (l l' : List S23) (hp : l'.Perm l) (hs : l'.Pairwise (fun a b => a.f0 < b.f0)) : SortRow.sortL ltLo l = l' := by
  have h1 := SortRow.sortL_perm ltLo swoLo l
  have h2 := SortRow.sortL_sorted ltLo swoLo l
  refine List.Perm.eq_of_pairwise (le := fun a b => ltLo b a = false) ?_ h2 ?_ (h1.trans hp.symm)
  · intro a b ha hb h3 h4
    have ha' : a ∈ l' := hp.mem_iff.2 (h1.mem_iff.1 ha)
    have hb' : b ∈ l' := hb
    simp [ltLo] at h3 h4
    have e : a.f0 = b.f0 := by omega
    obtain ⟨i, hi, rfl⟩ := List.getElem_of_mem ha'
    obtain ⟨j, hj, rfl⟩ := List.getElem_of_mem hb'
    rw [List.pairwise_iff_getElem] at hs
    rcases Nat.lt_trichotomy i j with h | h | h
    · have := hs i j hi hj h; omega
    · subst h; rfl
    · have := hs j i hj hi h; omega
  · exact hs.imp (fun {a b} h => by simp [ltLo]; omega)
theorem awake_is : Ev (fun k => gangsawlaw01_awake.f k) true := by
  have s1 : SortRow.sortL ltLo [(⟨5, 7⟩ : S23), ⟨1, 2⟩, ⟨3, 3⟩] = [⟨1, 2⟩, ⟨3, 3⟩, ⟨5, 7⟩] := sort_unique _ _ (List.perm_append_comm (l₁ := [(⟨1, 2⟩ : S23), ⟨3, 3⟩]) (l₂ := [⟨5, 7⟩])) (by simp)
  have s2 : SortRow.sortL ltLo [(⟨1, 5⟩ : S23), ⟨4, 9⟩] = [⟨1, 5⟩, ⟨4, 9⟩] := sort_unique _ _ (List.Perm.refl _) (by simp)
  have e1 : nrm [(⟨5, 7⟩ : S23), ⟨1, 2⟩, ⟨3, 3⟩] = [⟨1, 3⟩, ⟨5, 7⟩] := by
    unfold nrm
    rw [s1]
    simp [normL, nstep, rd_T23, wrap64, mx]
  have e2 : nrm [(⟨1, 5⟩ : S23), ⟨4, 9⟩] = [⟨1, 9⟩] := by
    unfold nrm
    rw [s2]
    simp [normL, nstep, rd_T23, wrap64, mx]
  have l1 : lst [[(⟨5, 7⟩ : S23), ⟨1, 2⟩, ⟨3, 3⟩]] = 0 := by decide +kernel
  have l2 : lst [[(⟨1, 5⟩ : S23), ⟨4, 9⟩]] = 0 := by decide +kernel
  refine Ev.bind (Add_is _ _ _ _) (Ev.bind (Normalize_is _ (by simp)) (Ev.bind (Count_is _ (by simp)) ?_))
  rw [l1, l2, e1, e2]
  refine Ev.pos (by decide +kernel) (Ev.pos (by decide +kernel) (Ev.pos rfl (Ev.bind (Same_is _ _ (by simp)) (Ev.pos (by decide +kernel) (Ev.pos rfl ?_)))))
  refine Ev.succ ?_
  simp only [gangsawlaw01_awake.j0]
  exact Ev.eq (Ev.now _) (by decide +kernel)
end Go.Proofs.Ytedhcdganddiiaa.QA
