
namespace Md
set_option linter.unusedVariables false
set_option linter.unusedSimpArgs false
def sm (f : Int → Int) (lo : Int) : Nat → Int
  | 0 => 0
  | n + 1 => sm f lo n + f (lo + n)
theorem sm_congr {f g : Int → Int} (lo : Int) : ∀ n : Nat, (∀ i, lo ≤ i → i < lo + n → f i = g i) → sm f lo n = sm g lo n
  | 0, _ => rfl
  | n + 1, h => by
    simp only [sm]
    rw [sm_congr lo n (fun i h1 h2 => h i h1 (by omega)), h (lo + n) (by omega) (by omega)]
theorem sm_add (f g : Int → Int) (lo : Int) : ∀ n : Nat, sm (fun i => f i + g i) lo n = sm f lo n + sm g lo n
  | 0 => rfl
  | n + 1 => by simp only [sm]; rw [sm_add f g lo n]; omega
theorem sm_split (f : Int → Int) (lo : Int) (m : Nat) : ∀ n : Nat, sm f lo (m + n) = sm f lo m + sm f (lo + m) n
  | 0 => by simp [sm]
  | n + 1 => by
    rw [show m + (n + 1) = (m + n) + 1 by omega]
    simp only [sm]
    rw [sm_split f lo m n, show lo + ((m + n : Nat) : Int) = lo + m + n by omega]
    omega
theorem sm_const (c lo : Int) : ∀ n : Nat, sm (fun _ => c) lo n = n * c
  | 0 => by simp [sm]
  | n + 1 => by
    simp only [sm]
    rw [sm_const c lo n, show ((n + 1 : Nat) : Int) = n + 1 by omega, Int.add_mul]
    omega
theorem sm_nonneg {f : Int → Int} (lo : Int) : ∀ n : Nat, (∀ i, lo ≤ i → i < lo + n → 0 ≤ f i) → 0 ≤ sm f lo n
  | 0, _ => Int.le_refl _
  | n + 1, h => by
    have h1 := sm_nonneg lo n (fun i a b => h i a (by omega))
    have h2 := h (lo + n) (by omega) (by omega)
    simp only [sm]
    omega
theorem sm_pos {f : Int → Int} (lo : Int) : ∀ n : Nat, (∀ i, lo ≤ i → i < lo + n → 0 ≤ f i) → (0 < sm f lo n ↔ ∃ i, lo ≤ i ∧ i < lo + n ∧ 0 < f i)
  | 0, _ => ⟨fun h => absurd h (Int.lt_irrefl 0), fun ⟨i, h1, h2, _⟩ => by omega⟩
  | n + 1, h => by
    have ih := sm_pos lo n (fun i a b => h i a (by omega))
    have h1 := sm_nonneg lo n (fun i a b => h i a (by omega))
    have h2 := h (lo + n) (by omega) (by omega)
    constructor
    · intro hp
      by_cases hq : 0 < f (lo + n)
      · exact ⟨lo + n, by omega, by omega, hq⟩
      · simp only [sm] at hp
        obtain ⟨i, a, b, c⟩ := ih.1 (by omega)
        exact ⟨i, a, by omega, c⟩
    · rintro ⟨i, a, b, c⟩
      simp only [sm]
      by_cases hi : i = lo + n
      · subst hi; omega
      · have := ih.2 ⟨i, a, by omega, c⟩; omega
def si (f : Int → Int) (a b : Int) : Int := sm f a (b - a).toNat
theorem si_congr {f g : Int → Int} {a b : Int} (h : ∀ i, a ≤ i → i < b → f i = g i) : si f a b = si g a b :=
  sm_congr a _ fun i h1 h2 => h i h1 (by omega)
theorem si_add (f g : Int → Int) (a b : Int) : si (fun i => f i + g i) a b = si f a b + si g a b := sm_add f g a _
theorem si_split (f : Int → Int) {a b c : Int} (h1 : a ≤ b) (h2 : b ≤ c) : si f a c = si f a b + si f b c := by
  unfold si
  rw [show (c - a).toNat = (b - a).toNat + (c - b).toNat by omega, sm_split, show a + ((b - a).toNat : Int) = b by omega]
theorem si_const {f : Int → Int} {a b c : Int} (hab : a ≤ b) (h : ∀ i, a ≤ i → i < b → f i = c) : si f a b = (b - a) * c := by
  rw [si_congr (g := fun _ => c) h]
  unfold si
  rw [sm_const, show ((b - a).toNat : Int) = b - a by omega]
theorem si_nonneg {f : Int → Int} {a b : Int} (h : ∀ i, a ≤ i → i < b → 0 ≤ f i) : 0 ≤ si f a b := sm_nonneg a _ fun i h1 h2 => h i h1 (by omega)
theorem si_pos {f : Int → Int} {a b : Int} (h : ∀ i, a ≤ i → i < b → 0 ≤ f i) : 0 < si f a b ↔ ∃ i, a ≤ i ∧ i < b ∧ 0 < f i := by
  refine (sm_pos a _ fun i h1 h2 => h i h1 (by omega)).trans ⟨fun ⟨i, x, y, z⟩ => ⟨i, x, by omega, z⟩, fun ⟨i, x, y, z⟩ => ⟨i, x, by omega, z⟩⟩
theorem si_nil (f : Int → Int) (a : Int) : si f a a = 0 := by unfold si; rw [show (a - a).toNat = 0 by omega]; rfl
def segs : List Int → List (Int × Int)
  | [] => []
  | [_] => []
  | a :: b :: l => (a, b) :: segs (b :: l)
def sumL {α : Type} (f : α → Int) : List α → Int
  | [] => 0
  | a :: l => f a + sumL f l
theorem sumL_app {α : Type} (f : α → Int) : ∀ l m : List α, sumL f (l ++ m) = sumL f l + sumL f m
  | [], m => by simp [sumL]
  | a :: l, m => by simp only [List.cons_append, sumL, sumL_app f l m]; omega
theorem sumL_flat {α β : Type} (f : β → Int) (g : α → List β) : ∀ l : List α, sumL f (l.flatMap g) = sumL (fun a => sumL f (g a)) l
  | [] => rfl
  | a :: l => by rw [List.flatMap_cons, sumL_app, sumL_flat f g l]; rfl
theorem sumL_map {α β : Type} (f : β → Int) (g : α → β) : ∀ l : List α, sumL f (l.map g) = sumL (fun a => f (g a)) l
  | [] => rfl
  | a :: l => by simp only [List.map_cons, sumL, sumL_map f g l]
theorem sumL_congr {α : Type} {f g : α → Int} : ∀ l : List α, (∀ a ∈ l, f a = g a) → sumL f l = sumL g l
  | [], _ => rfl
  | a :: l, h => by
    simp only [sumL]
    rw [h a (by simp), sumL_congr l (fun b hb => h b (by simp [hb]))]
structure Cut (lo hi : Int) (E : List Int) (l : List Int) : Prop where
  inc : l.Pairwise (· < ·)
  head : l.head? = some lo
  last : l.getLast? = some hi
  all : ∀ e ∈ E, lo < e → e < hi → e ∈ l
theorem si_segs (f : Int → Int) : ∀ (l : List Int) (a c : Int), (a :: l).Pairwise (· < ·) → (a :: l).getLast? = some c → si f a c = sumL (fun p => si f p.1 p.2) (segs (a :: l))
  | [], a, c, _, hl => by
    simp at hl
    subst hl
    rw [si_nil]; rfl
  | b :: l, a, c, hp, hl => by
    have hp' := (List.pairwise_cons.1 hp).2
    have hab : a < b := (List.pairwise_cons.1 hp).1 b (by simp)
    have hl' : (b :: l).getLast? = some c := by rw [← hl]; rfl
    have hbc : b ≤ c := by
      have hm := List.mem_of_getLast? hl'
      rcases List.mem_cons.1 hm with h | h
      · omega
      · have := (List.pairwise_cons.1 hp').1 c h; omega
    rw [si_split f (Int.le_of_lt hab) hbc, si_segs f l b c hp' hl']
    rfl
theorem Cut.si {lo hi : Int} {E l : List Int} (h : Cut lo hi E l) (f : Int → Int) : Md.si f lo hi = sumL (fun p => Md.si f p.1 p.2) (segs l) := by
  match l, h with
  | [], h => exact absurd h.head (by simp)
  | a :: l, h =>
    have : a = lo := by simpa using h.head
    subst this
    exact si_segs f l a hi h.inc h.last
theorem segs_mem : ∀ (l : List Int), l.Pairwise (· < ·) → ∀ p ∈ segs l, p.1 < p.2 ∧ p.1 ∈ l ∧ p.2 ∈ l ∧ ∀ e ∈ l, e ≤ p.1 ∨ p.2 ≤ e
  | [], _, p, h => by simp [segs] at h
  | [_], _, p, h => by simp [segs] at h
  | a :: b :: l, hp, p, h => by
    have hp' := (List.pairwise_cons.1 hp).2
    have ha := (List.pairwise_cons.1 hp).1
    simp only [segs, List.mem_cons] at h
    rcases h with rfl | h
    · refine ⟨ha b (by simp), by simp, by simp, fun e he => ?_⟩
      rcases List.mem_cons.1 he with rfl | he
      · exact .inl (Int.le_refl _)
      · rcases List.mem_cons.1 he with rfl | he
        · exact .inr (Int.le_refl _)
        · exact .inr (Int.le_of_lt ((List.pairwise_cons.1 hp').1 e he))
    · obtain ⟨h1, h2, h3, h4⟩ := segs_mem (b :: l) hp' p h
      refine ⟨h1, List.mem_cons_of_mem _ h2, List.mem_cons_of_mem _ h3, fun e he => ?_⟩
      rcases List.mem_cons.1 he with rfl | he
      · exact .inl (Int.le_of_lt (ha _ h2))
      · exact h4 e he
theorem Cut.bounds {lo hi : Int} {E l : List Int} (h : Cut lo hi E l) : ∀ e ∈ l, lo ≤ e ∧ e ≤ hi := by
  intro e he
  constructor
  · match l, h, he with
    | a :: l, h, he =>
      have : a = lo := by simpa using h.head
      subst this
      rcases List.mem_cons.1 he with rfl | he
      · exact Int.le_refl _
      · exact Int.le_of_lt ((List.pairwise_cons.1 h.inc).1 e he)
  · have hl := h.last
    obtain ⟨q, rfl⟩ : ∃ q, l = q ++ [hi] := by
      obtain ⟨ys, rfl⟩ := List.getLast?_eq_some_iff.1 hl
      exact ⟨ys, rfl⟩
    rcases List.mem_append.1 he with h' | h'
    · exact Int.le_of_lt ((List.pairwise_append.1 h.inc).2.2 e h' hi (by simp))
    · simp at h'; omega
theorem segs_find : ∀ (l : List Int) (a c : Int), (a :: l).Pairwise (· < ·) → (a :: l).getLast? = some c → ∀ i, a ≤ i → i < c → ∃ p ∈ segs (a :: l), p.1 ≤ i ∧ i < p.2
  | [], a, c, _, hl, i, h1, h2 => by simp at hl; omega
  | b :: l, a, c, hp, hl, i, h1, h2 => by
    by_cases hb : i < b
    · exact ⟨(a, b), by simp [segs], h1, hb⟩
    · obtain ⟨p, hp1, hp2⟩ := segs_find l b c (List.pairwise_cons.1 hp).2 (by rw [← hl]; rfl) i (by omega) h2
      exact ⟨p, by simp [segs, hp1], hp2⟩
theorem Cut.find {lo hi : Int} {E l : List Int} (h : Cut lo hi E l) {i : Int} (h1 : lo ≤ i) (h2 : i < hi) : ∃ p ∈ segs l, p.1 ≤ i ∧ i < p.2 := by
  match l, h with
  | [], h => exact absurd h.head (by simp)
  | a :: l, h =>
    have : a = lo := by simpa using h.head
    subst this
    exact segs_find l a hi h.inc h.last i h1 h2
theorem Cut.part {lo hi : Int} {E l : List Int} (h : Cut lo hi E l) {p : Int × Int} (hp : p ∈ segs l) : p.1 < p.2 ∧ lo ≤ p.1 ∧ p.2 ≤ hi ∧ ∀ e ∈ E, e ≤ p.1 ∨ p.2 ≤ e := by
  obtain ⟨h1, h2, h3, h4⟩ := segs_mem l h.inc p hp
  refine ⟨h1, (h.bounds _ h2).1, (h.bounds _ h3).2, fun e he => ?_⟩
  by_cases a : lo < e
  · by_cases b : e < hi
    · exact h4 e (h.all e he a b)
    · have := (h.bounds _ h3).2; exact .inr (by omega)
  · have := (h.bounds _ h2).1; exact .inl (by omega)
structure Bx where
  a0 : Int
  a1 : Int
  a2 : Int
  b0 : Int
  b1 : Int
  b2 : Int
def hasB (b : Bx) (x y z : Int) : Bool := decide (b.a0 ≤ x) && (decide (x < b.b0) && (decide (b.a1 ≤ y) && (decide (y < b.b1) && (decide (b.a2 ≤ z) && decide (z < b.b2)))))
theorem hasB_iff (b : Bx) (x y z : Int) : hasB b x y z = true ↔ b.a0 ≤ x ∧ x < b.b0 ∧ b.a1 ≤ y ∧ y < b.b1 ∧ b.a2 ≤ z ∧ z < b.b2 := by simp [hasB]
def sb (b : Bx) (f : Int → Int → Int → Int) : Int := si (fun z => si (fun y => si (fun x => f x y z) b.a0 b.b0) b.a1 b.b1) b.a2 b.b2
def vol (b : Bx) : Int := (b.b0 - b.a0) * (b.b1 - b.a1) * (b.b2 - b.a2)
structure Val (b : Bx) : Prop where
  h0 : b.a0 < b.b0
  h1 : b.a1 < b.b1
  h2 : b.a2 < b.b2
theorem sb_congr {b : Bx} {f g : Int → Int → Int → Int} (h : ∀ x y z, hasB b x y z = true → f x y z = g x y z) : sb b f = sb b g :=
  si_congr fun z h1 h2 => si_congr fun y h3 h4 => si_congr fun x h5 h6 => h x y z ((hasB_iff b x y z).2 ⟨h5, h6, h3, h4, h1, h2⟩)
theorem sb_add (b : Bx) (f g : Int → Int → Int → Int) : sb b (fun x y z => f x y z + g x y z) = sb b f + sb b g := by
  unfold sb
  rw [← si_add]
  refine si_congr fun z _ _ => ?_
  show si (fun y => si (fun x => f x y z + g x y z) b.a0 b.b0) b.a1 b.b1 = _
  rw [← si_add]
  refine si_congr fun y _ _ => ?_
  exact si_add _ _ _ _
theorem sb_const {b : Bx} (hv : Val b) {f : Int → Int → Int → Int} {c : Int} (h : ∀ x y z, hasB b x y z = true → f x y z = c) : sb b f = vol b * c := by
  obtain ⟨h0, h1, h2⟩ := hv
  unfold sb
  rw [si_const (c := (b.b1 - b.a1) * ((b.b0 - b.a0) * c)) (Int.le_of_lt h2) (fun z g1 g2 => by
    rw [si_const (c := (b.b0 - b.a0) * c) (Int.le_of_lt h1) (fun y g3 g4 => by
      rw [si_const (c := c) (Int.le_of_lt h0) (fun x g5 g6 => h x y z ((hasB_iff b x y z).2 ⟨g5, g6, g3, g4, g1, g2⟩))])])]
  unfold vol
  grind
theorem sb_nonneg {b : Bx} {f : Int → Int → Int → Int} (h : ∀ x y z, hasB b x y z = true → 0 ≤ f x y z) : 0 ≤ sb b f :=
  si_nonneg fun z g1 g2 => si_nonneg fun y g3 g4 => si_nonneg fun x g5 g6 => h x y z ((hasB_iff b x y z).2 ⟨g5, g6, g3, g4, g1, g2⟩)
theorem sb_pos {b : Bx} {f : Int → Int → Int → Int} (h : ∀ x y z, hasB b x y z = true → 0 ≤ f x y z) : 0 < sb b f ↔ ∃ x y z, hasB b x y z = true ∧ 0 < f x y z := by
  unfold sb
  rw [si_pos fun z g1 g2 => si_nonneg fun y g3 g4 => si_nonneg fun x g5 g6 => h x y z ((hasB_iff b x y z).2 ⟨g5, g6, g3, g4, g1, g2⟩)]
  constructor
  · rintro ⟨z, g1, g2, hz⟩
    rw [si_pos fun y g3 g4 => si_nonneg fun x g5 g6 => h x y z ((hasB_iff b x y z).2 ⟨g5, g6, g3, g4, g1, g2⟩)] at hz
    obtain ⟨y, g3, g4, hy⟩ := hz
    rw [si_pos fun x g5 g6 => h x y z ((hasB_iff b x y z).2 ⟨g5, g6, g3, g4, g1, g2⟩)] at hy
    obtain ⟨x, g5, g6, hx⟩ := hy
    exact ⟨x, y, z, (hasB_iff b x y z).2 ⟨g5, g6, g3, g4, g1, g2⟩, hx⟩
  · rintro ⟨x, y, z, hb, hp⟩
    obtain ⟨g5, g6, g3, g4, g1, g2⟩ := (hasB_iff b x y z).1 hb
    refine ⟨z, g1, g2, ?_⟩
    rw [si_pos fun y g3 g4 => si_nonneg fun x g5 g6 => h x y z ((hasB_iff b x y z).2 ⟨g5, g6, g3, g4, g1, g2⟩)]
    refine ⟨y, g3, g4, ?_⟩
    rw [si_pos fun x g5 g6 => h x y z ((hasB_iff b x y z).2 ⟨g5, g6, g3, g4, g1, g2⟩)]
    exact ⟨x, g5, g6, hp⟩
def parts (xs ys zs : List Int) : List Bx := (segs zs).flatMap fun z => (segs ys).flatMap fun y => (segs xs).map fun x => ⟨x.1, y.1, z.1, x.2, y.2, z.2⟩
theorem parts_mem {xs ys zs : List Int} {p : Bx} : p ∈ parts xs ys zs ↔ (p.a0, p.b0) ∈ segs xs ∧ (p.a1, p.b1) ∈ segs ys ∧ (p.a2, p.b2) ∈ segs zs := by
  unfold parts
  simp only [List.mem_flatMap, List.mem_map]
  constructor
  · rintro ⟨z, hz, y, hy, x, hx, rfl⟩
    exact ⟨hx, hy, hz⟩
  · rintro ⟨hx, hy, hz⟩
    exact ⟨_, hz, _, hy, _, hx, rfl⟩
theorem si_sumL {α : Type} (f : α → Int → Int) (a b : Int) : ∀ l : List α, si (fun i => sumL (fun p => f p i) l) a b = sumL (fun p => si (f p) a b) l
  | [] => by
    simp only [sumL]
    unfold si
    rw [sm_const]; omega
  | p :: l => by
    simp only [sumL]
    rw [si_add, si_sumL f a b l]
theorem sb_parts {b : Bx} {E0 E1 E2 xs ys zs : List Int} (hx : Cut b.a0 b.b0 E0 xs) (hy : Cut b.a1 b.b1 E1 ys) (hz : Cut b.a2 b.b2 E2 zs) (f : Int → Int → Int → Int) :
    sb b f = sumL (fun p => sb p f) (parts xs ys zs) := by
  unfold sb parts
  rw [hz.si, sumL_flat]
  refine sumL_congr _ fun z _ => ?_
  rw [sumL_flat]
  rw [si_congr (g := fun i => sumL (fun y => si (fun y => si (fun x => f x y i) b.a0 b.b0) y.1 y.2) (segs ys)) (fun i _ _ => hy.si _)]
  rw [si_sumL (fun (y : Int × Int) i => si (fun y => si (fun x => f x y i) b.a0 b.b0) y.1 y.2)]
  refine sumL_congr _ fun y _ => ?_
  rw [sumL_map]
  rw [si_congr (g := fun i => sumL (fun x => si (fun j => si (fun k => f k j i) x.1 x.2) y.1 y.2) (segs xs)) (fun i _ _ => ?_)]
  · exact si_sumL (fun (x : Int × Int) i => si (fun j => si (fun k => f k j i) x.1 x.2) y.1 y.2) _ _ _
  · rw [si_congr (g := fun j => sumL (fun x => si (fun k => f k j i) x.1 x.2) (segs xs)) (fun j _ _ => hx.si _)]
    exact si_sumL (fun (x : Int × Int) j => si (fun k => f k j i) x.1 x.2) _ _ _
end Md
