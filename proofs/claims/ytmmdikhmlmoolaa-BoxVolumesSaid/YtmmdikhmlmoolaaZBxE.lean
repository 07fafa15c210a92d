/-
  Chapter 06: ends and at along an axis.
-/
import Derived.Test.YtmmdikhmlmoolaaZBxS
import Derived.Test.YtmmdikhmlmoolaaZQAx7
import Derived.Test.YtmmdikhmlmoolaaZQAx3
import Derived.Test.YtmmdikhmlmoolaaZQAx6
namespace Go.Proofs.Ytmmdikhmlmoolaa.Bx
open Go.RowKit Go.Proofs.Ytmmdikhmlmoolaa.QA Go.Proofs.YtmmdikhmlmoolaaW.PrintWords Go.Proofs.YtmmdikhmlmoolaaW.PrintLast Go.Proofs.YtmmdikhmlmoolaaW.PrintMore Go.Proofs.Ytmmdikhmlmoolaa.EvKit
set_option linter.unusedVariables false
set_option linter.unusedSimpArgs false
def loA (a : Int) (b : S25) : Int := if a = 0 then b.f0.f0 else if a = 1 then b.f0.f1 else b.f0.f2
def hiA (a : Int) (b : S25) : Int := if a = 0 then b.f1.f0 else if a = 1 then b.f1.f1 else b.f1.f2
def atL (a n : Int) (l : List S25) : List S25 := l.filter fun b => decide (loA a b ≤ n) && decide (n < hiA a b)
theorem atL_pos {a n : Int} {b : S25} {l : List S25} (h1 : loA a b ≤ n) (h2 : n < hiA a b) : atL a n (b :: l) = b :: atL a n l := by simp [atL, h1, h2]
theorem atL_neg {a n : Int} {b : S25} {l : List S25} (h : ¬ (loA a b ≤ n ∧ n < hiA a b)) : atL a n (b :: l) = atL a n l := by
  unfold atL
  rw [List.filter_cons_of_neg (by simpa using h)]
theorem atL_len (a n : Int) (l : List S25) : (atL a n l).length ≤ l.length := List.length_filter_le _ _
theorem atL_mem {a n : Int} {l : List S25} {b : S25} : b ∈ atL a n l ↔ b ∈ l ∧ loA a b ≤ n ∧ n < hiA a b := by simp [atL]
theorem at_l0 (a n : Int) (ha : a = 0 ∨ a = 1 ∨ a = 2) (l : List S25) (hl : l.length ≤ 1000000) : ∀ m i acc, l.length = i + m → acc.length ≤ i → Ev (fun k => box_at.l0 k a n acc l (l.length : Int) (i : Int)) (acc ++ atL a n (l.drop i)) := by
  intro m
  induction m with
  | zero =>
    intro i acc hi h
    refine Ev.succ ?_
    simp only [box_at.l0]
    rw [List.drop_of_length_le (by omega), show atL a n [] = [] from rfl, List.append_nil]
    exact Ev.neg (by omega) (Ev.now _)
  | succ m ih =>
    intro i acc hi h
    refine Ev.succ ?_
    simp only [box_at.l0]
    rw [drop_cons l i z25 (by omega), rdN, stp (by omega)]
    generalize l.getD i z25 = b
    have go : ∀ h1 : loA a b ≤ n, n < hiA a b → Ev (fun k => box_at.l0 k a n (acc ++ [b]) l (l.length : Int) ((i + 1 : Nat) : Int)) (acc ++ atL a n (b :: l.drop (i + 1))) := fun h1 h2 => by
      rw [atL_pos h1 h2]
      have := ih (i + 1) (acc ++ [b]) (by omega) (by simp; omega)
      rwa [List.append_assoc] at this
    have no : ¬ (loA a b ≤ n ∧ n < hiA a b) → Ev (fun k => box_at.l0 k a n acc l (l.length : Int) ((i + 1 : Nat) : Int)) (acc ++ atL a n (b :: l.drop (i + 1))) := fun h1 => by
      rw [atL_neg h1]
      exact ih (i + 1) acc (by omega) (by omega)
    refine Ev.pos (by omega) (Ev.pos (by omega) (Ev.pos (by omega) (Ev.cbind rfl ?_)))
    rcases ha with rfl | rfl | rfl
    · exact Ev.pos rfl (Ev.ite (fun c1 => Ev.ite (fun c2 => Ev.pos (by omega) (go c1 c2)) (fun c2 => no (fun h => c2 h.2))) (fun c1 => no (fun h => c1 h.1)))
    · exact Ev.neg (by decide) (Ev.pos rfl (Ev.ite (fun c1 => Ev.ite (fun c2 => Ev.pos (by omega) (go c1 c2)) (fun c2 => no (fun h => c2 h.2))) (fun c1 => no (fun h => c1 h.1))))
    · exact Ev.neg (by decide) (Ev.neg (by decide) (Ev.pos rfl (Ev.ite (fun c1 => Ev.ite (fun c2 => Ev.pos (by omega) (go c1 c2)) (fun c2 => no (fun h => c2 h.2))) (fun c1 => no (fun h => c1 h.1)))))
theorem at_ev (a n : Int) (ha : a = 0 ∨ a = 1 ∨ a = 2) (l : List S25) (hl : l.length ≤ 1000000) : Ev (fun k => box_at.f k l a n) (atL a n l) := at_l0 a n ha l hl l.length 0 [] (by omega) (by simp)
/-! ### compact -/
theorem comp_inc (l : List Int) (h : l.Pairwise (· ≤ ·)) : ∀ m, m ≤ l.length → (Go.Lib.compactUpTo l.toArray m).Pairwise (· < ·) ∧ ∀ v, v ∈ Go.Lib.compactUpTo l.toArray m ↔ ∃ j, j < m ∧ l.toArray[j]! = v := by
  intro m
  induction m with
  | zero => intro _; exact ⟨List.Pairwise.nil, fun v => ⟨fun hv => absurd hv (by simp [Go.Lib.compactUpTo]), fun ⟨j, hj, _⟩ => absurd hj (by omega)⟩⟩
  | succ m ih =>
    intro hm
    obtain ⟨i1, i2⟩ := ih (by omega)
    have hget : ∀ j, j < l.length → l.toArray[j]! = l.getD j 0 := fun j hj => by
      rw [getElem!_pos l.toArray j (by simpa using hj)]
      simp [hj]
    have mono : ∀ i j, i ≤ j → j < l.length → l.getD i 0 ≤ l.getD j 0 := fun i j hij hj => by
      rcases Nat.lt_or_eq_of_le hij with h1 | rfl
      · have := List.pairwise_iff_getElem.1 h i j (by omega) hj h1
        simpa [show i < l.length by omega, hj] using this
      · exact Int.le_refl _
    rw [Go.Lib.compactUpTo_succ]
    by_cases hk : Go.Lib.keeps l.toArray m = true
    · rw [if_pos hk]
      refine ⟨List.pairwise_append.2 ⟨i1, List.pairwise_singleton _ _, fun v hv u hu => ?_⟩, fun v => ?_⟩
      · obtain rfl := List.mem_singleton.1 hu
        obtain ⟨j, hj, rfl⟩ := (i2 v).1 hv
        simp only [Go.Lib.keeps, decide_eq_true_eq] at hk
        have q1 := mono j (m - 1) (by omega) (by omega)
        have q2 := mono (m - 1) m (by omega) (by omega)
        rw [hget j (by omega), hget m (by omega)]
        rcases hk with hk | hk
        · omega
        · rw [hget m (by omega), hget (m - 1) (by omega)] at hk
          omega
      · rw [List.mem_append, i2]
        constructor
        · rintro (⟨j, hj, e⟩ | hv)
          · exact ⟨j, by omega, e⟩
          · exact ⟨m, by omega, (List.mem_singleton.1 hv).symm⟩
        · rintro ⟨j, hj, e⟩
          by_cases hjm : j = m
          · subst hjm; exact .inr (by simp [e])
          · exact .inl ⟨j, by omega, e⟩
    · rw [if_neg hk, List.append_nil]
      refine ⟨i1, fun v => ?_⟩
      rw [i2]
      simp only [Go.Lib.keeps, decide_eq_true_eq, not_or, ne_eq, Decidable.not_not] at hk
      constructor
      · rintro ⟨j, hj, e⟩; exact ⟨j, by omega, e⟩
      · rintro ⟨j, hj, e⟩
        by_cases hjm : j = m
        · subst hjm; exact ⟨j - 1, by omega, by rw [← hk.2]; exact e⟩
        · exact ⟨j, by omega, e⟩
/-- Sorted, each once. -/
def cmpL (l : List Int) : List Int := Go.Lib.compactUpTo (insL l).toArray (insL l).length
theorem cmpL_inc (l : List Int) : (cmpL l).Pairwise (· < ·) := (comp_inc _ (insL_sorted l) _ (Nat.le_refl _)).1
theorem cmpL_mem (l : List Int) (v : Int) : v ∈ cmpL l ↔ v ∈ l := by
  unfold cmpL
  rw [(comp_inc _ (insL_sorted l) _ (Nat.le_refl _)).2, ← (insL_perm l).mem_iff, List.mem_iff_getElem]
  constructor
  · rintro ⟨j, hj, e⟩
    refine ⟨j, hj, ?_⟩
    rw [getElem!_pos (insL l).toArray j (by simpa using hj)] at e
    simpa using e
  · rintro ⟨j, hj, e⟩
    refine ⟨j, hj, ?_⟩
    rw [getElem!_pos (insL l).toArray j (by simpa using hj)]
    simpa using e
theorem cmpL_len (l : List Int) : (cmpL l).length ≤ l.length := by
  unfold cmpL
  rw [← (insL_perm l).length_eq]
  exact compactUpTo_length _
theorem cmp_ev (l : List Int) (hl : l.length ≤ 10000000) : ((slices_Sort_int_int.f l).bind fun t => ((slices_Compact_int_int.f t).bind fun u => (some u))) = some (cmpL l) := by
  have h1 : slices_Sort_int_int.f l = some (insL l) := if_pos (by omega)
  have h2 : slices_Compact_int_int.f (insL l) = some (cmpL l) := if_pos (by rw [(insL_perm l).length_eq]; omega)
  rw [h1, Option.bind_some, h2, Option.bind_some]
/-! ### ends -/
def endR (a fr up : Int) (l : List S25) : List Int := (l.map (hiA a)).filter fun n => decide (fr < n) && decide (n < up)
theorem endR_pos {a fr up : Int} {b : S25} {l : List S25} (h1 : fr < hiA a b) (h2 : hiA a b < up) : endR a fr up (b :: l) = hiA a b :: endR a fr up l := by simp [endR, h1, h2]
theorem endR_neg {a fr up : Int} {b : S25} {l : List S25} (h : ¬ (fr < hiA a b ∧ hiA a b < up)) : endR a fr up (b :: l) = endR a fr up l := by
  unfold endR
  rw [List.map_cons, List.filter_cons_of_neg (by simpa using h)]
def endsL (a fr up : Int) (l : List S25) : List Int := cmpL (fr :: endR a fr up l)
theorem endsL_mem {a fr up : Int} {l : List S25} {v : Int} : v ∈ endsL a fr up l ↔ v = fr ∨ ∃ b ∈ l, hiA a b = v ∧ fr < v ∧ v < up := by
  unfold endsL
  rw [cmpL_mem, List.mem_cons]
  unfold endR
  rw [List.mem_filter, List.mem_map, Bool.and_eq_true, decide_eq_true_eq, decide_eq_true_eq]
  constructor
  · rintro (h | ⟨⟨b, hb, e⟩, h⟩)
    · exact .inl h
    · exact .inr ⟨b, hb, e, h⟩
  · rintro (h | ⟨b, hb, e, h⟩)
    · exact .inl h
    · exact .inr ⟨⟨b, hb, e⟩, h⟩
theorem endsL_len (a fr up : Int) (l : List S25) : (endsL a fr up l).length ≤ l.length + 1 := by
  unfold endsL
  refine Nat.le_trans (cmpL_len _) ?_
  rw [List.length_cons]
  have := List.length_filter_le (fun n => decide (fr < n) && decide (n < up)) (l.map (hiA a))
  rw [List.length_map] at this
  unfold endR
  omega
theorem ends_l0 (a fr up : Int) (ha : a = 0 ∨ a = 1 ∨ a = 2) (l : List S25) (hl : l.length ≤ 1000000) : ∀ m i acc, l.length = i + m → acc.length ≤ i + 1 → Ev (fun k => box_ends.l0 k a fr up acc l (l.length : Int) (i : Int)) (cmpL (acc ++ endR a fr up (l.drop i))) := by
  intro m
  induction m with
  | zero =>
    intro i acc hi h
    refine Ev.succ ?_
    simp only [box_ends.l0]
    rw [List.drop_of_length_le (by omega), show endR a fr up [] = [] from rfl, List.append_nil]
    exact Ev.neg (by omega) (Ev.const (cmp_ev acc (by omega)))
  | succ m ih =>
    intro i acc hi h
    refine Ev.succ ?_
    simp only [box_ends.l0]
    rw [drop_cons l i z25 (by omega), rdN, stp (by omega)]
    generalize l.getD i z25 = b
    have go : fr < hiA a b → hiA a b < up → Ev (fun k => box_ends.l0 k a fr up (acc ++ [hiA a b]) l (l.length : Int) ((i + 1 : Nat) : Int)) (cmpL (acc ++ endR a fr up (b :: l.drop (i + 1)))) := fun h1 h2 => by
      rw [endR_pos h1 h2]
      have := ih (i + 1) (acc ++ [hiA a b]) (by omega) (by simp; omega)
      rwa [List.append_assoc] at this
    have no : ¬ (fr < hiA a b ∧ hiA a b < up) → Ev (fun k => box_ends.l0 k a fr up acc l (l.length : Int) ((i + 1 : Nat) : Int)) (cmpL (acc ++ endR a fr up (b :: l.drop (i + 1)))) := fun h1 => by
      rw [endR_neg h1]
      exact ih (i + 1) acc (by omega) (by omega)
    refine Ev.pos (by omega) (Ev.pos (by omega) (Ev.pos (by omega) (Ev.cbind rfl ?_)))
    rcases ha with rfl | rfl | rfl
    · exact Ev.pos rfl (Ev.ite (fun c1 => Ev.ite (fun c2 => Ev.pos (by omega) (go c1 c2)) (fun c2 => no (fun h => c2 h.2))) (fun c1 => no (fun h => c1 h.1)))
    · exact Ev.neg (by decide) (Ev.pos rfl (Ev.ite (fun c1 => Ev.ite (fun c2 => Ev.pos (by omega) (go c1 c2)) (fun c2 => no (fun h => c2 h.2))) (fun c1 => no (fun h => c1 h.1))))
    · exact Ev.neg (by decide) (Ev.neg (by decide) (Ev.pos rfl (Ev.ite (fun c1 => Ev.ite (fun c2 => Ev.pos (by omega) (go c1 c2)) (fun c2 => no (fun h => c2 h.2))) (fun c1 => no (fun h => c1 h.1)))))
theorem ends_ev (a fr up : Int) (ha : a = 0 ∨ a = 1 ∨ a = 2) (l : List S25) (hl : l.length ≤ 1000000) : Ev (fun k => box_ends.f k l a fr up) (endsL a fr up l) := ends_l0 a fr up ha l hl l.length 0 [fr] (by omega) (by simp)
end Go.Proofs.Ytmmdikhmlmoolaa.Bx
