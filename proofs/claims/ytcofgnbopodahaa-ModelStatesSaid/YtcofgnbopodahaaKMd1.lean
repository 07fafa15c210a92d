
namespace Md
set_option linter.unusedVariables false
set_option linter.unusedSimpArgs false
def sm (f : Int → Int) (lo : Int) : Nat → Int
  | 0 => 0
  | n + 1 => sm f lo n + f (lo + n)
def si (f : Int → Int) (a b : Int) : Int := sm f a (b - a).toNat
def segs : List Int → List (Int × Int)
  | [] => []
  | [_] => []
  | a :: b :: l => (a, b) :: segs (b :: l)
structure Cut (lo hi : Int) (E : List Int) (l : List Int) : Prop where
  inc : l.Pairwise (· < ·)
  head : l.head? = some lo
  last : l.getLast? = some hi
  all : ∀ e ∈ E, lo < e → e < hi → e ∈ l
theorem segs_mem : ∀ (l : List Int), l.Pairwise (· < ·) → ∀ p ∈ segs l, p.1 < p.2 ∧ p.1 ∈ l ∧ p.2 ∈ l ∧ ∀ e ∈ l, e ≤ p.1 ∨ p.2 ≤ e
  | [], _, p, h => by simp [segs] at h
  | [_], _, p, h => by simp [segs] at h
  | a :: b :: l, hp, p, h => by
    have hp' := (List.pairwise_cons.1 hp).2
    have ha := (List.pairwise_cons.1 hp).1
    simp only [segs, List.mem_cons] at h
    rcases h with rfl | h
    · refine ⟨ha b (by simp), by simp, by simp, fun e he => ?_⟩
      rcases List.mem_cons.1 he with rfl | he
      · exact .inl (Int.le_refl _)
      · rcases List.mem_cons.1 he with rfl | he
        · exact .inr (Int.le_refl _)
        · exact .inr (Int.le_of_lt ((List.pairwise_cons.1 hp').1 e he))
    · obtain ⟨h1, h2, h3, h4⟩ := segs_mem (b :: l) hp' p h
      refine ⟨h1, List.mem_cons_of_mem _ h2, List.mem_cons_of_mem _ h3, fun e he => ?_⟩
      rcases List.mem_cons.1 he with rfl | he
      · exact .inl (Int.le_of_lt (ha _ h2))
      · exact h4 e he
theorem Cut.bounds {lo hi : Int} {E l : List Int} (h : Cut lo hi E l) : ∀ e ∈ l, lo ≤ e ∧ e ≤ hi := by
  intro e he
  constructor
  · match l, h, he with
    | a :: l, h, he =>
      have : a = lo := by simpa using h.head
      subst this
      rcases List.mem_cons.1 he with rfl | he
      · exact Int.le_refl _
      · exact Int.le_of_lt ((List.pairwise_cons.1 h.inc).1 e he)
  · have hl := h.last
    obtain ⟨q, rfl⟩ : ∃ q, l = q ++ [hi] := by
      obtain ⟨ys, rfl⟩ := List.getLast?_eq_some_iff.1 hl
      exact ⟨ys, rfl⟩
    rcases List.mem_append.1 he with h' | h'
    · exact Int.le_of_lt ((List.pairwise_append.1 h.inc).2.2 e h' hi (by simp))
    · simp at h'; omega
theorem segs_find : ∀ (l : List Int) (a c : Int), (a :: l).Pairwise (· < ·) → (a :: l).getLast? = some c → ∀ i, a ≤ i → i < c → ∃ p ∈ segs (a :: l), p.1 ≤ i ∧ i < p.2
  | [], a, c, _, hl, i, h1, h2 => by simp at hl; omega
  | b :: l, a, c, hp, hl, i, h1, h2 => by
    by_cases hb : i < b
    · exact ⟨(a, b), by simp [segs], h1, hb⟩
    · obtain ⟨p, hp1, hp2⟩ := segs_find l b c (List.pairwise_cons.1 hp).2 (by rw [← hl]; rfl) i (by omega) h2
      exact ⟨p, by simp [segs, hp1], hp2⟩
theorem Cut.find {lo hi : Int} {E l : List Int} (h : Cut lo hi E l) {i : Int} (h1 : lo ≤ i) (h2 : i < hi) : ∃ p ∈ segs l, p.1 ≤ i ∧ i < p.2 := by
  match l, h with
  | [], h => exact absurd h.head (by simp)
  | a :: l, h =>
    have : a = lo := by simpa using h.head
    subst this
    exact segs_find l a hi h.inc h.last i h1 h2
theorem Cut.part {lo hi : Int} {E l : List Int} (h : Cut lo hi E l) {p : Int × Int} (hp : p ∈ segs l) : p.1 < p.2 ∧ lo ≤ p.1 ∧ p.2 ≤ hi ∧ ∀ e ∈ E, e ≤ p.1 ∨ p.2 ≤ e := by
  obtain ⟨h1, h2, h3, h4⟩ := segs_mem l h.inc p hp
  refine ⟨h1, (h.bounds _ h2).1, (h.bounds _ h3).2, fun e he => ?_⟩
  by_cases a : lo < e
  · by_cases b : e < hi
    · exact h4 e (h.all e he a b)
    · have := (h.bounds _ h3).2; exact .inr (by omega)
  · have := (h.bounds _ h2).1; exact .inl (by omega)
structure Bx where
  a0 : Int
  a1 : Int
  a2 : Int
  b0 : Int
  b1 : Int
  b2 : Int
def hasB (b : Bx) (x y z : Int) : Bool := decide (b.a0 ≤ x) && (decide (x < b.b0) && (decide (b.a1 ≤ y) && (decide (y < b.b1) && (decide (b.a2 ≤ z) && decide (z < b.b2)))))
theorem hasB_iff (b : Bx) (x y z : Int) : hasB b x y z = true ↔ b.a0 ≤ x ∧ x < b.b0 ∧ b.a1 ≤ y ∧ y < b.b1 ∧ b.a2 ≤ z ∧ z < b.b2 := by simp [hasB]
def sb (b : Bx) (f : Int → Int → Int → Int) : Int := si (fun z => si (fun y => si (fun x => f x y z) b.a0 b.b0) b.a1 b.b1) b.a2 b.b2
structure Val (b : Bx) : Prop where
  h0 : b.a0 < b.b0
  h1 : b.a1 < b.b1
  h2 : b.a2 < b.b2
def parts (xs ys zs : List Int) : List Bx := (segs zs).flatMap fun z => (segs ys).flatMap fun y => (segs xs).map fun x => ⟨x.1, y.1, z.1, x.2, y.2, z.2⟩
theorem parts_mem {xs ys zs : List Int} {p : Bx} : p ∈ parts xs ys zs ↔ (p.a0, p.b0) ∈ segs xs ∧ (p.a1, p.b1) ∈ segs ys ∧ (p.a2, p.b2) ∈ segs zs := by
  unfold parts
  simp only [List.mem_flatMap, List.mem_map]
  constructor
  · rintro ⟨z, hz, y, hy, x, hx, rfl⟩
    exact ⟨hx, hy, hz⟩
  · rintro ⟨hx, hy, hz⟩
    exact ⟨_, hz, _, hy, _, hx, rfl⟩
end Md
