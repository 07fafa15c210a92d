import Derived.Test.YtedhcdganddiiaaCSNF
namespace Go.Proofs.Ytedhcdganddiiaa.QA
open Go.RowKit Go.Proofs.YtedhcdganddiiaaW.PrintWords Go.Proofs.Ytedhcdganddiiaa.EvKit
set_option linter.unusedVariables false
set_option linter.unusedSimpArgs false

/-- A number is added to an increasing list. -/
def addL : List Int → Int → List Int
  | [], n => [n]
  | x :: l, n => if x < n then x :: addL l n else if x = n then x :: l else n :: x :: l
theorem addL_mem : ∀ (l : List Int) (n m : Int), m ∈ addL l n ↔ m ∈ l ∨ m = n
  | [], n, m => by simp [addL]
  | x :: l, n, m => by
    unfold addL
    split
    · simp only [List.mem_cons, addL_mem l n m, or_assoc]
    · split
      · rename_i h; subst h; simp only [List.mem_cons]
        exact ⟨Or.inl, fun h => h.elim id Or.inl⟩
      · simp only [List.mem_cons]
        exact ⟨fun h => h.elim Or.inr Or.inl, fun h => h.elim Or.inr Or.inl⟩
theorem addL_sorted : ∀ (l : List Int) (n : Int), l.Pairwise (· < ·) → (addL l n).Pairwise (· < ·)
  | [], n, _ => by simp [addL]
  | x :: l, n, h => by
    rw [List.pairwise_cons] at h
    unfold addL
    split
    · rw [List.pairwise_cons]
      refine ⟨fun m hm => ?_, addL_sorted l n h.2⟩
      rcases (addL_mem l n m).1 hm with q | q
      · exact h.1 m q
      · omega
    · split
      · rw [List.pairwise_cons]; exact h
      · rw [List.pairwise_cons, List.pairwise_cons]
        refine ⟨fun m hm => ?_, h⟩
        rcases List.mem_cons.1 hm with q | q
        · omega
        · have := h.1 m q; omega
theorem addL_length : ∀ (l : List Int) (n : Int), (addL l n).length ≤ l.length + 1
  | [], n => by simp [addL]
  | x :: l, n => by
    have := addL_length l n
    unfold addL
    split
    · simp only [List.length_cons]; omega
    · split <;> simp only [List.length_cons] <;> omega
/-- The numbers at which intervals begin or behind which they end. -/
def endL (o : List Int) (l : List S23) : List Int := l.foldl (fun o x => addL (addL o x.f0) (x.f1 + 1)) o
theorem endL_spec : ∀ (l : List S23) (o : List Int), o.Pairwise (· < ·) → (endL o l).Pairwise (· < ·) ∧ (endL o l).length ≤ o.length + 2 * l.length ∧ ∀ m, m ∈ endL o l ↔ m ∈ o ∨ ∃ x, x ∈ l ∧ (m = x.f0 ∨ m = x.f1 + 1)
  | [], o, h => ⟨h, by simp [endL], fun m => by simp [endL]⟩
  | x :: l, o, h => by
    have i := endL_spec l (addL (addL o x.f0) (x.f1 + 1)) (addL_sorted _ _ (addL_sorted _ _ h))
    have l1 := addL_length (addL o x.f0) (x.f1 + 1)
    have l2 := addL_length o x.f0
    have e : endL o (x :: l) = endL (addL (addL o x.f0) (x.f1 + 1)) l := rfl
    rw [e]
    refine ⟨i.1, by simp only [List.length_cons]; omega, fun m => ?_⟩
    rw [i.2.2 m, addL_mem, addL_mem]
    constructor
    · rintro ((h | h) | h) 
      · rcases h with h | h
        · exact Or.inl h
        · exact Or.inr ⟨x, by simp, Or.inl h⟩
      · exact Or.inr ⟨x, by simp, Or.inr h⟩
      · obtain ⟨y, hy, h⟩ := h
        exact Or.inr ⟨y, by simp [hy], h⟩
    · rintro (h | ⟨y, hy, h⟩)
      · exact Or.inl (Or.inl (Or.inl h))
      · rcases List.mem_cons.1 hy with rfl | hy
        · rcases h with h | h
          · exact Or.inl (Or.inl (Or.inr h))
          · exact Or.inl (Or.inr h)
        · exact Or.inr ⟨y, hy, h⟩
/-- One step of the form. -/
def fstp (out : List S23) (u v : Int) : List S23 :=
  if 0 < out.length ∧ (rd_T23 out ((out.length : Int) - 1)).f1 + 1 = u then out.set (out.length - 1) ⟨(rd_T23 out ((out.length : Int) - 1)).f0, v - 1⟩ else out ++ [⟨u, v - 1⟩]
def frs (p : Int → Bool) : List S23 → List Int → List S23
  | out, u :: v :: r => frs p (if p u then fstp out u v else out) (v :: r)
  | out, _ => out
def fr1 (p : Int → Bool) : S23 → List Int → List S23
  | y, u :: v :: r => if p u then (if y.f1 + 1 = u then fr1 p ⟨y.f0, v - 1⟩ (v :: r) else y :: fr1 p ⟨u, v - 1⟩ (v :: r)) else fr1 p y (v :: r)
  | y, _ => [y]
def fr0 (p : Int → Bool) : List Int → List S23
  | u :: v :: r => if p u then fr1 p ⟨u, v - 1⟩ (v :: r) else fr0 p (v :: r)
  | _ => []
theorem fstp_last (pre : List S23) (y : S23) (u v : Int) : fstp (pre ++ [y]) u v = if y.f1 + 1 = u then pre ++ [⟨y.f0, v - 1⟩] else pre ++ [y] ++ [⟨u, v - 1⟩] := by
  unfold fstp
  rw [rd_last, set_last]
  have : 0 < (pre ++ [y]).length := by simp
  by_cases h : y.f1 + 1 = u
  · rw [if_pos ⟨this, h⟩, if_pos h]
  · rw [if_neg (fun q => h q.2), if_neg h]
theorem frs_last (p : Int → Bool) : ∀ (L : List Int) (pre : List S23) (y : S23), frs p (pre ++ [y]) L = pre ++ fr1 p y L
  | [], pre, y => by simp [frs, fr1]
  | [u], pre, y => by simp [frs, fr1]
  | u :: v :: r, pre, y => by
    unfold frs fr1
    rw [fstp_last]
    by_cases hp : p u = true
    · rw [if_pos hp, if_pos hp]
      by_cases hc : y.f1 + 1 = u
      · rw [if_pos hc, if_pos hc]; exact frs_last p (v :: r) pre _
      · rw [if_neg hc, if_neg hc, frs_last p (v :: r) (pre ++ [y]) _]; simp
    · rw [if_neg hp, if_neg hp]; exact frs_last p (v :: r) pre y
theorem frs_nil (p : Int → Bool) : ∀ (L : List Int), frs p [] L = fr0 p L
  | [] => rfl
  | [u] => rfl
  | u :: v :: r => by
    unfold frs fr0
    by_cases hp : p u = true
    · rw [if_pos hp, if_pos hp]
      have : fstp [] u v = [] ++ [⟨u, v - 1⟩] := by simp [fstp]
      rw [this, frs_last]; rfl
    · rw [if_neg hp, if_neg hp]; exact frs_nil p (v :: r)
/-- The blocks of a list of ends. -/
def blk (p : Int → Bool) : List Int → Int → Prop
  | u :: v :: r, n => (u ≤ n ∧ n ≤ v - 1 ∧ p u = true) ∨ blk p (v :: r) n
  | _, _ => False
theorem fr1_spec (p : Int → Bool) : ∀ (r : List Int) (u : Int) (y : S23) (b : Int), (u :: r).Pairwise (· < ·) → b ≤ y.f0 → y.f0 ≤ y.f1 → y.f1 + 1 ≤ u → NF b (fr1 p y (u :: r)) ∧ ∀ n, mem (fr1 p y (u :: r)) n ↔ (y.f0 ≤ n ∧ n ≤ y.f1) ∨ blk p (u :: r) n
  | [], u, y, b, hs, h1, h2, h3 => by
    unfold fr1 blk
    exact ⟨⟨h1, h2, trivial⟩, fun n => by rw [mem_cons]; exact ⟨fun h => h.elim Or.inl (fun h => absurd h mem_nil), fun h => h.elim Or.inl False.elim⟩⟩
  | v :: r, u, y, b, hs, h1, h2, h3 => by
    rw [List.pairwise_cons] at hs
    have huv := hs.1 v (by simp)
    unfold fr1 blk
    by_cases hp : p u = true
    · rw [if_pos hp]
      by_cases hc : y.f1 + 1 = u
      · rw [if_pos hc]
        obtain ⟨i1, i2⟩ := fr1_spec p r v ⟨y.f0, v - 1⟩ b hs.2 h1 (by show y.f0 ≤ v - 1; omega) (by show v - 1 + 1 ≤ v; omega)
        refine ⟨i1, fun n => ?_⟩
        rw [i2 n, ← or_assoc]
        have : (y.f0 ≤ n ∧ n ≤ v - 1) ↔ ((y.f0 ≤ n ∧ n ≤ y.f1) ∨ (u ≤ n ∧ n ≤ v - 1 ∧ p u = true)) := by
          constructor
          · intro h
            by_cases hh : n ≤ y.f1
            · exact Or.inl ⟨h.1, hh⟩
            · exact Or.inr ⟨by omega, h.2, hp⟩
          · rintro (h | h) <;> omega
        exact or_congr this Iff.rfl
      · rw [if_neg hc]
        obtain ⟨i1, i2⟩ := fr1_spec p r v ⟨u, v - 1⟩ (y.f1 + 2) hs.2 (by show y.f1 + 2 ≤ u; omega) (by show u ≤ v - 1; omega) (by show v - 1 + 1 ≤ v; omega)
        refine ⟨⟨h1, h2, i1⟩, fun n => ?_⟩
        rw [mem_cons, i2 n]
        refine or_congr Iff.rfl (or_congr ?_ Iff.rfl)
        exact ⟨fun h => ⟨h.1, h.2, hp⟩, fun h => ⟨h.1, h.2.1⟩⟩
    · rw [if_neg hp]
      obtain ⟨i1, i2⟩ := fr1_spec p r v y b hs.2 h1 h2 (by omega)
      refine ⟨i1, fun n => ?_⟩
      rw [i2 n]
      refine or_congr Iff.rfl ⟨Or.inr, fun h => h.elim (fun h => absurd h.2.2 hp) id⟩
theorem fr0_spec (p : Int → Bool) : ∀ (r : List Int) (u b : Int), (u :: r).Pairwise (· < ·) → b ≤ u → NF b (fr0 p (u :: r)) ∧ ∀ n, mem (fr0 p (u :: r)) n ↔ blk p (u :: r) n
  | [], u, b, hs, h1 => by
    unfold fr0 blk
    exact ⟨trivial, fun n => ⟨fun h => absurd h mem_nil, False.elim⟩⟩
  | v :: r, u, b, hs, h1 => by
    rw [List.pairwise_cons] at hs
    have huv := hs.1 v (by simp)
    unfold fr0 blk
    by_cases hp : p u = true
    · rw [if_pos hp]
      obtain ⟨i1, i2⟩ := fr1_spec p r v ⟨u, v - 1⟩ b hs.2 h1 (by show u ≤ v - 1; omega) (by show v - 1 + 1 ≤ v; omega)
      refine ⟨i1, fun n => ?_⟩
      rw [i2 n]
      refine or_congr ?_ Iff.rfl
      exact ⟨fun h => ⟨h.1, h.2, hp⟩, fun h => ⟨h.1, h.2.1⟩⟩
    · rw [if_neg hp]
      obtain ⟨i1, i2⟩ := fr0_spec p r v b hs.2 (by omega)
      refine ⟨i1, fun n => ?_⟩
      rw [i2 n]
      exact ⟨Or.inr, fun h => h.elim (fun h => absurd h.2.2 hp) id⟩
theorem blk_lb (p : Int → Bool) : ∀ (r : List Int) (u n : Int), (u :: r).Pairwise (· < ·) → blk p (u :: r) n → u ≤ n
  | [], u, n, _, h => by unfold blk at h; exact h.elim
  | v :: r, u, n, hs, h => by
    rw [List.pairwise_cons] at hs
    have huv := hs.1 v (by simp)
    unfold blk at h
    rcases h with h | h
    · exact h.1
    · have := blk_lb p r v n hs.2 h; omega
/-- Between the ends of the intervals of a list nothing changes. -/
def Still (E : Int → Prop) (p : Int → Bool) : Prop :=
  (∀ u n, u ≤ n → (∀ e, E e → e ≤ u ∨ n < e) → p n = p u) ∧ (∀ n, (∀ e, E e → e ≤ n) → p n = false) ∧ (∀ n, (∀ e, E e → n < e) → p n = false)
theorem blk_iff {E : Int → Prop} {p : Int → Bool} (h : Still E p) : ∀ (r : List Int) (u n : Int), (u :: r).Pairwise (· < ·) → (∀ e, E e → e ∈ u :: r ∨ e < u) → u ≤ n → (blk p (u :: r) n ↔ p n = true)
  | [], u, n, hs, he, hn => by
    unfold blk
    rw [h.2.1 n (fun e q => by
      rcases he e q with r | r
      · rw [List.mem_singleton] at r; omega
      · omega)]
    simp
  | v :: r, u, n, hs, he, hn => by
    have hs' := hs
    rw [List.pairwise_cons] at hs
    have huv := hs.1 v (by simp)
    unfold blk
    by_cases hv : n ≤ v - 1
    · have e1 : p n = p u := h.1 u n hn (fun e q => by
        rcases he e q with r' | r'
        · rcases List.mem_cons.1 r' with r' | r'
          · omega
          · rcases List.mem_cons.1 r' with r' | r'
            · omega
            · have := (List.pairwise_cons.1 hs.2).1 e r'; omega
        · omega)
      rw [e1]
      constructor
      · rintro (q | q)
        · exact q.2.2
        · have := blk_lb p r v n hs.2 q; omega
      · exact fun q => Or.inl ⟨hn, hv, q⟩
    · have i := blk_iff h r v n hs.2 (fun e q => by
        rcases he e q with r' | r'
        · rcases List.mem_cons.1 r' with r' | r'
          · right; omega
          · exact Or.inl r'
        · right; omega) (by omega)
      rw [← i]
      exact ⟨fun q => q.elim (fun q => by omega) id, Or.inr⟩
theorem fr0_is {E : Int → Prop} {p : Int → Bool} (h : Still E p) (L : List Int) (hs : L.Pairwise (· < ·)) (he : ∀ e, E e ↔ e ∈ L) : (∃ b, NF b (fr0 p L)) ∧ ∀ n, mem (fr0 p L) n ↔ p n = true := by
  cases L with
  | nil =>
    refine ⟨⟨0, trivial⟩, fun n => ?_⟩
    rw [h.2.1 n (fun e q => by have := (he e).1 q; simp at this)]
    unfold fr0
    simp only [Bool.false_eq_true, iff_false]
    exact mem_nil
  | cons u r =>
    obtain ⟨i1, i2⟩ := fr0_spec p r u u hs (Int.le_refl _)
    refine ⟨⟨u, i1⟩, fun n => ?_⟩
    rw [i2 n]
    by_cases hn : u ≤ n
    · exact blk_iff h r u n hs (fun e q => Or.inl ((he e).1 q)) hn
    · rw [h.2.2 n (fun e q => by
        rcases List.mem_cons.1 ((he e).1 q) with r' | r'
        · omega
        · have := (List.pairwise_cons.1 hs).1 e r'; omega)]
      simp only [Bool.false_eq_true, iff_false]
      exact fun q => hn (blk_lb p r u n hs q)
/-- The ends of a list. -/
def Ends (l : List S23) (e : Int) : Prop := ∃ x, x ∈ l ∧ (e = x.f0 ∨ e = x.f1 + 1)
theorem inB_still {l : List S23} {E : Int → Prop} (hE : ∀ e, Ends l e → E e) : (∀ u n, u ≤ n → (∀ e, E e → e ≤ u ∨ n < e) → inB l n = inB l u) ∧ (∀ n, (∀ e, E e → e ≤ n) → inB l n = false) ∧ (∀ n, (∀ e, E e → n < e) → inB l n = false) := by
  refine ⟨fun u n hn h => ?_, fun n h => ?_, fun n h => ?_⟩
  · rw [Bool.eq_iff_iff, inB_iff, inB_iff]
    constructor
    · rintro ⟨x, hx, q⟩
      have a := h _ (hE _ ⟨x, hx, Or.inl rfl⟩)
      have b := h _ (hE _ ⟨x, hx, Or.inr rfl⟩)
      exact ⟨x, hx, by omega, by omega⟩
    · rintro ⟨x, hx, q⟩
      have a := h _ (hE _ ⟨x, hx, Or.inl rfl⟩)
      have b := h _ (hE _ ⟨x, hx, Or.inr rfl⟩)
      exact ⟨x, hx, by omega, by omega⟩
  · rw [Bool.eq_false_iff]
    intro q
    obtain ⟨x, hx, q⟩ := inB_iff.1 q
    have b := h _ (hE _ ⟨x, hx, Or.inr rfl⟩)
    omega
  · rw [Bool.eq_false_iff]
    intro q
    obtain ⟨x, hx, q⟩ := inB_iff.1 q
    have b := h _ (hE _ ⟨x, hx, Or.inl rfl⟩)
    omega
/-- What a kind of operation takes. -/
def kp (kind : Int) (x y : Bool) : Bool := if kind = 1 then x || y else if kind = 2 then x && !y else x && y
theorem kp_ff (kind : Int) : kp kind false false = false := by
  unfold kp; split
  · rfl
  · split <;> rfl
def kpB (kind : Int) (a b : List S23) (n : Int) : Bool := kp kind (inB a n) (inB b n)
theorem kp_still (kind : Int) (a b : List S23) : Still (Ends (a ++ b)) (kpB kind a b) := by
  have ha := inB_still (l := a) (E := Ends (a ++ b)) (fun e ⟨x, hx, h⟩ => ⟨x, by simp [hx], h⟩)
  have hb := inB_still (l := b) (E := Ends (a ++ b)) (fun e ⟨x, hx, h⟩ => ⟨x, by simp [hx], h⟩)
  refine ⟨fun u n hn h => ?_, fun n h => ?_, fun n h => ?_⟩
  · unfold kpB; rw [ha.1 u n hn h, hb.1 u n hn h]
  · unfold kpB; rw [ha.2.1 n h, hb.2.1 n h, kp_ff]
  · unfold kpB; rw [ha.2.2 n h, hb.2.2 n h, kp_ff]
/-- The form of an operation. -/
def formL (kind : Int) (a b : List S23) : List S23 := fr0 (kpB kind a b) (endL [] (a ++ b))
theorem form_spec (kind : Int) (a b : List S23) : (∃ c, NF c (formL kind a b)) ∧ ∀ n, mem (formL kind a b) n ↔ kpB kind a b n = true := by
  have e := endL_spec (a ++ b) [] (by simp)
  exact fr0_is (kp_still kind a b) _ e.1 (fun m => by rw [e.2.2 m]; simp [Ends])
end Go.Proofs.Ytedhcdganddiiaa.QA
