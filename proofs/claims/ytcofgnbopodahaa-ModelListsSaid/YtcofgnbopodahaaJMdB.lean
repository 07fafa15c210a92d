namespace Md
section
set_option linter.unusedVariables false
set_option linter.unusedSimpArgs false
def sm (f : Int → Int) (lo : Int) : Nat → Int
  | 0 => 0
  | n + 1 => sm f lo n + f (lo + n)
def si (f : Int → Int) (a b : Int) : Int := sm f a (b - a).toNat
def segs : List Int → List (Int × Int)
  | [] => []
  | [_] => []
  | a :: b :: l => (a, b) :: segs (b :: l)
structure Cut (lo hi : Int) (E : List Int) (l : List Int) : Prop where
  inc : l.Pairwise (· < ·)
  head : l.head? = some lo
  last : l.getLast? = some hi
  all : ∀ e ∈ E, lo < e → e < hi → e ∈ l
theorem segs_mem : ∀ (l : List Int), l.Pairwise (· < ·) → ∀ p ∈ segs l, p.1 < p.2 ∧ p.1 ∈ l ∧ p.2 ∈ l ∧ ∀ e ∈ l, e ≤ p.1 ∨ p.2 ≤ e
  | [], _, p, h => by simp [segs] at h
  | [_], _, p, h => by simp [segs] at h
  | a :: b :: l, hp, p, h => by
    have hp' := (List.pairwise_cons.1 hp).2
    have ha := (List.pairwise_cons.1 hp).1
    simp only [segs, List.mem_cons] at h
    rcases h with rfl | h
    · refine ⟨ha b (by simp), by simp, by simp, fun e he => ?_⟩
      rcases List.mem_cons.1 he with rfl | he
      · exact .inl (Int.le_refl _)
      · rcases List.mem_cons.1 he with rfl | he
        · exact .inr (Int.le_refl _)
        · exact .inr (Int.le_of_lt ((List.pairwise_cons.1 hp').1 e he))
    · obtain ⟨h1, h2, h3, h4⟩ := segs_mem (b :: l) hp' p h
      refine ⟨h1, List.mem_cons_of_mem _ h2, List.mem_cons_of_mem _ h3, fun e he => ?_⟩
      rcases List.mem_cons.1 he with rfl | he
      · exact .inl (Int.le_of_lt (ha _ h2))
      · exact h4 e he
theorem Cut.bounds {lo hi : Int} {E l : List Int} (h : Cut lo hi E l) : ∀ e ∈ l, lo ≤ e ∧ e ≤ hi := by
  intro e he
  constructor
  · match l, h, he with
    | a :: l, h, he =>
      have : a = lo := by simpa using h.head
      subst this
      rcases List.mem_cons.1 he with rfl | he
      · exact Int.le_refl _
      · exact Int.le_of_lt ((List.pairwise_cons.1 h.inc).1 e he)
  · have hl := h.last
    obtain ⟨q, rfl⟩ : ∃ q, l = q ++ [hi] := by
      obtain ⟨ys, rfl⟩ := List.getLast?_eq_some_iff.1 hl
      exact ⟨ys, rfl⟩
    rcases List.mem_append.1 he with h' | h'
    · exact Int.le_of_lt ((List.pairwise_append.1 h.inc).2.2 e h' hi (by simp))
    · simp at h'; omega
theorem segs_find : ∀ (l : List Int) (a c : Int), (a :: l).Pairwise (· < ·) → (a :: l).getLast? = some c → ∀ i, a ≤ i → i < c → ∃ p ∈ segs (a :: l), p.1 ≤ i ∧ i < p.2
  | [], a, c, _, hl, i, h1, h2 => by simp at hl; omega
  | b :: l, a, c, hp, hl, i, h1, h2 => by
    by_cases hb : i < b
    · exact ⟨(a, b), by simp [segs], h1, hb⟩
    · obtain ⟨p, hp1, hp2⟩ := segs_find l b c (List.pairwise_cons.1 hp).2 (by rw [← hl]; rfl) i (by omega) h2
      exact ⟨p, by simp [segs, hp1], hp2⟩
theorem Cut.find {lo hi : Int} {E l : List Int} (h : Cut lo hi E l) {i : Int} (h1 : lo ≤ i) (h2 : i < hi) : ∃ p ∈ segs l, p.1 ≤ i ∧ i < p.2 := by
  match l, h with
  | [], h => exact absurd h.head (by simp)
  | a :: l, h =>
    have : a = lo := by simpa using h.head
    subst this
    exact segs_find l a hi h.inc h.last i h1 h2
theorem Cut.part {lo hi : Int} {E l : List Int} (h : Cut lo hi E l) {p : Int × Int} (hp : p ∈ segs l) : p.1 < p.2 ∧ lo ≤ p.1 ∧ p.2 ≤ hi ∧ ∀ e ∈ E, e ≤ p.1 ∨ p.2 ≤ e := by
  obtain ⟨h1, h2, h3, h4⟩ := segs_mem l h.inc p hp
  refine ⟨h1, (h.bounds _ h2).1, (h.bounds _ h3).2, fun e he => ?_⟩
  by_cases a : lo < e
  · by_cases b : e < hi
    · exact h4 e (h.all e he a b)
    · have := (h.bounds _ h3).2; exact .inr (by omega)
  · have := (h.bounds _ h2).1; exact .inl (by omega)
structure Bx where
  a0 : Int
  a1 : Int
  a2 : Int
  b0 : Int
  b1 : Int
  b2 : Int
def hasB (b : Bx) (x y z : Int) : Bool := decide (b.a0 ≤ x) && (decide (x < b.b0) && (decide (b.a1 ≤ y) && (decide (y < b.b1) && (decide (b.a2 ≤ z) && decide (z < b.b2)))))
theorem hasB_iff (b : Bx) (x y z : Int) : hasB b x y z = true ↔ b.a0 ≤ x ∧ x < b.b0 ∧ b.a1 ≤ y ∧ y < b.b1 ∧ b.a2 ≤ z ∧ z < b.b2 := by simp [hasB]
def sb (b : Bx) (f : Int → Int → Int → Int) : Int := si (fun z => si (fun y => si (fun x => f x y z) b.a0 b.b0) b.a1 b.b1) b.a2 b.b2
structure Val (b : Bx) : Prop where
  h0 : b.a0 < b.b0
  h1 : b.a1 < b.b1
  h2 : b.a2 < b.b2
def parts (xs ys zs : List Int) : List Bx := (segs zs).flatMap fun z => (segs ys).flatMap fun y => (segs xs).map fun x => ⟨x.1, y.1, z.1, x.2, y.2, z.2⟩
theorem parts_mem {xs ys zs : List Int} {p : Bx} : p ∈ parts xs ys zs ↔ (p.a0, p.b0) ∈ segs xs ∧ (p.a1, p.b1) ∈ segs ys ∧ (p.a2, p.b2) ∈ segs zs := by
  unfold parts
  simp only [List.mem_flatMap, List.mem_map]
  constructor
  · rintro ⟨z, hz, y, hy, x, hx, rfl⟩
    exact ⟨hx, hy, hz⟩
  · rintro ⟨hx, hy, hz⟩
    exact ⟨_, hz, _, hy, _, hx, rfl⟩
end
section
set_option linter.unusedVariables false
set_option linter.unusedSimpArgs false
structure Ev where
  b : Bx
  s : Int
def jn (a b : Int) : Int := if a = 0 ∨ a = b then b else if b = 0 then a else 3
def step (x y z : Int) (o : Int) (e : Ev) : Int := if hasB e.b x y z = true then jn o e.s else o
def st (l : List Ev) (x y z : Int) : Int := l.foldl (step x y z) 0
structure EvOk (e : Ev) : Prop where
  v : Val e.b
  s : e.s = 1 ∨ e.s = 2
def hit (l : List Ev) (n x y z : Int) : Bool := l.any fun e => decide (e.s = n) && hasB e.b x y z
def val (a b : Bool) : Int := (if a = true then 1 else 0) + (if b = true then 2 else 0)
theorem jn_val {a b : Bool} {s : Int} (h : s = 1 ∨ s = 2) : jn (val a b) s = val (a || decide (s = 1)) (b || decide (s = 2)) := by
  rcases h with rfl | rfl <;> cases a <;> cases b <;> rfl
theorem fold_val (x y z : Int) : ∀ (l : List Ev), (∀ e ∈ l, EvOk e) → ∀ a b : Bool, l.foldl (step x y z) (val a b) = val (a || hit l 1 x y z) (b || hit l 2 x y z)
  | [], _, a, b => by simp [hit]
  | e :: l, h, a, b => by
    have hl : ∀ e ∈ l, EvOk e := fun e he => h e (List.mem_cons_of_mem _ he)
    have he := (h e (List.mem_cons_self)).s
    rw [List.foldl_cons]
    by_cases hb : hasB e.b x y z = true
    · have e1 : step x y z (val a b) e = val (a || decide (e.s = 1)) (b || decide (e.s = 2)) := by
        unfold step; rw [if_pos hb]; exact jn_val he
      rw [e1, fold_val x y z l hl]
      simp [hit, hb, Bool.or_assoc]
    · have e1 : step x y z (val a b) e = val a b := by unfold step; rw [if_neg hb]
      rw [e1, fold_val x y z l hl]
      simp [hit, Bool.not_eq_true _ ▸ hb]
theorem st_val {l : List Ev} (h : ∀ e ∈ l, EvOk e) (x y z : Int) : st l x y z = val (hit l 1 x y z) (hit l 2 x y z) := by
  have := fold_val x y z l h false false
  rw [Bool.false_or, Bool.false_or] at this
  exact this
theorem hit_congr {l m : List Ev} {n x y z : Int} (h : ∀ e, hasB e.b x y z = true → (e ∈ l ↔ e ∈ m)) : hit l n x y z = hit m n x y z := by
  rw [Bool.eq_iff_iff]
  simp only [hit, List.any_eq_true, Bool.and_eq_true, decide_eq_true_eq]
  constructor
  · rintro ⟨e, h1, h2, h3⟩; exact ⟨e, (h e h3).1 h1, h2, h3⟩
  · rintro ⟨e, h1, h2, h3⟩; exact ⟨e, (h e h3).2 h1, h2, h3⟩
theorem hit_app (l m : List Ev) (n x y z : Int) : hit (l ++ m) n x y z = (hit l n x y z || hit m n x y z) := by simp [hit]
theorem st_congr {l m : List Ev} (hl : ∀ e ∈ l, EvOk e) (hm : ∀ e ∈ m, EvOk e) {x y z : Int} (h : ∀ e, hasB e.b x y z = true → (e ∈ l ↔ e ∈ m)) : st l x y z = st m x y z := by
  rw [st_val hl, st_val hm, hit_congr h, hit_congr h]
theorem st_same {l : List Ev} {x y z x' y' z' : Int} (h : ∀ e ∈ l, hasB e.b x y z = hasB e.b x' y' z') : st l x y z = st l x' y' z' := by
  have key : ∀ (l : List Ev) (o : Int), (∀ e ∈ l, hasB e.b x y z = hasB e.b x' y' z') → l.foldl (step x y z) o = l.foldl (step x' y' z') o := by
    intro l
    induction l with
    | nil => intro o _; rfl
    | cons e l ih =>
      intro o h
      rw [List.foldl_cons, List.foldl_cons]
      have : step x y z o e = step x' y' z' o e := by unfold step; rw [h e List.mem_cons_self]
      rw [this]
      exact ih _ fun e he => h e (List.mem_cons_of_mem _ he)
  exact key l 0 h
structure Cuts (b : Bx) (l : List Ev) (xs ys zs : List Int) : Prop where
  x : Cut b.a0 b.b0 (l.map (·.b.a0) ++ l.map (·.b.b0)) xs
  y : Cut b.a1 b.b1 (l.map (·.b.a1) ++ l.map (·.b.b1)) ys
  z : Cut b.a2 b.b2 (l.map (·.b.a2) ++ l.map (·.b.b2)) zs
section
variable {b : Bx} {l : List Ev} {xs ys zs : List Int}
theorem Cuts.part (h : Cuts b l xs ys zs) {p : Bx} (hp : p ∈ parts xs ys zs) : Val p ∧ b.a0 ≤ p.a0 ∧ b.a1 ≤ p.a1 ∧ b.a2 ≤ p.a2 ∧ p.b0 ≤ b.b0 ∧ p.b1 ≤ b.b1 ∧ p.b2 ≤ b.b2 := by
  obtain ⟨h0, h1, h2⟩ := parts_mem.1 hp
  obtain ⟨a, c, d, _⟩ := h.x.part h0
  obtain ⟨a', c', d', _⟩ := h.y.part h1
  obtain ⟨a'', c'', d'', _⟩ := h.z.part h2
  exact ⟨⟨a, a', a''⟩, c, c', c'', d, d', d''⟩
theorem Cuts.same (h : Cuts b l xs ys zs) {p : Bx} (hp : p ∈ parts xs ys zs) {x y z : Int} (hx : hasB p x y z = true) {e : Ev} (he : e ∈ l) : hasB e.b x y z = hasB e.b p.a0 p.a1 p.a2 := by
  obtain ⟨h0, h1, h2⟩ := parts_mem.1 hp
  obtain ⟨g0, _, _, k0⟩ := h.x.part h0
  obtain ⟨g1, _, _, k1⟩ := h.y.part h1
  obtain ⟨g2, _, _, k2⟩ := h.z.part h2
  have a0 := k0 e.b.a0 (List.mem_append.2 (.inl (List.mem_map.2 ⟨e, he, rfl⟩)))
  have b0 := k0 e.b.b0 (List.mem_append.2 (.inr (List.mem_map.2 ⟨e, he, rfl⟩)))
  have a1 := k1 e.b.a1 (List.mem_append.2 (.inl (List.mem_map.2 ⟨e, he, rfl⟩)))
  have b1 := k1 e.b.b1 (List.mem_append.2 (.inr (List.mem_map.2 ⟨e, he, rfl⟩)))
  have a2 := k2 e.b.a2 (List.mem_append.2 (.inl (List.mem_map.2 ⟨e, he, rfl⟩)))
  have b2 := k2 e.b.b2 (List.mem_append.2 (.inr (List.mem_map.2 ⟨e, he, rfl⟩)))
  obtain ⟨q0, q1, q2, q3, q4, q5⟩ := (hasB_iff p x y z).1 hx
  rw [Bool.eq_iff_iff, hasB_iff, hasB_iff]
  omega
theorem Cuts.st (h : Cuts b l xs ys zs) {p : Bx} (hp : p ∈ parts xs ys zs) {x y z : Int} (hx : hasB p x y z = true) : st l x y z = st l p.a0 p.a1 p.a2 :=
  st_same fun e he => h.same hp hx he
theorem Cuts.find (h : Cuts b l xs ys zs) {x y z : Int} (hx : hasB b x y z = true) : ∃ p ∈ parts xs ys zs, hasB p x y z = true := by
  obtain ⟨q0, q1, q2, q3, q4, q5⟩ := (hasB_iff b x y z).1 hx
  obtain ⟨p0, m0, c0, d0⟩ := h.x.find q0 q1
  obtain ⟨p1, m1, c1, d1⟩ := h.y.find q2 q3
  obtain ⟨p2, m2, c2, d2⟩ := h.z.find q4 q5
  exact ⟨⟨p0.1, p1.1, p2.1, p0.2, p1.2, p2.2⟩, parts_mem.2 ⟨m0, m1, m2⟩, (hasB_iff _ _ _ _).2 ⟨c0, d0, c1, d1, c2, d2⟩⟩
theorem Cuts.least (h : Cuts b l xs ys zs) {p : Bx} (hp : p ∈ parts xs ys zs) : hasB p p.a0 p.a1 p.a2 = true ∧ hasB b p.a0 p.a1 p.a2 = true := by
  obtain ⟨⟨v0, v1, v2⟩, a0, a1, a2, b0, b1, b2⟩ := h.part hp
  exact ⟨(hasB_iff _ _ _ _).2 ⟨by omega, v0, by omega, v1, by omega, v2⟩, (hasB_iff _ _ _ _).2 ⟨by omega, by omega, by omega, by omega, by omega, by omega⟩⟩
end
def cnt (l : List Ev) (b : Bx) (n : Int) : Int := sb b fun x y z => if st l x y z = n then 1 else 0
def bef (a0 a1 a2 b0 b1 b2 : Int) : Bool := if a2 ≠ b2 then decide (a2 < b2) else if a1 ≠ b1 then decide (a1 < b1) else decide (a0 < b0)
structure Least (P : Int → Int → Int → Prop) (x y z : Int) : Prop where
  h : P x y z
  m : ∀ x' y' z', P x' y' z' → bef x' y' z' x y z = false
end
section
set_option linter.unusedVariables false
set_option linter.unusedSimpArgs false
theorem head_of {l : List Int} {lo : Int} (hp : l.Pairwise (· < ·)) (hm : lo ∈ l) (hb : ∀ e ∈ l, lo ≤ e) : l.head? = some lo := by
  match l, hm with
  | a :: l, hm =>
    rcases List.mem_cons.1 hm with rfl | hm
    · rfl
    · have := (List.pairwise_cons.1 hp).1 lo hm
      have := hb a List.mem_cons_self
      omega
theorem last_of {l : List Int} {hi : Int} (hp : l.Pairwise (· < ·)) (hm : hi ∈ l) (hb : ∀ e ∈ l, e ≤ hi) : l.getLast? = some hi := by
  obtain ⟨a, b, rfl⟩ := List.append_of_mem hm
  match b with
  | [] => simp
  | c :: b =>
    have h1 := (List.pairwise_cons.1 (List.pairwise_append.1 hp).2.1).1 c List.mem_cons_self
    have h2 := hb c (by simp)
    omega
theorem Cut.mk' {lo hi : Int} {E l : List Int} (hp : l.Pairwise (· < ·)) (hlo : lo ∈ l) (hhi : hi ∈ l) (hb : ∀ e ∈ l, lo ≤ e ∧ e ≤ hi) (hE : ∀ e ∈ E, lo < e → e < hi → e ∈ l) : Cut lo hi E l :=
  ⟨hp, head_of hp hlo fun e he => (hb e he).1, last_of hp hhi fun e he => (hb e he).2, hE⟩
theorem Cut.of_inner {lo hi : Int} {E l : List Int} (hlt : lo < hi) (hp : l.Pairwise (· < ·)) (hb : ∀ e ∈ l, lo < e ∧ e < hi) (hE : ∀ e ∈ E, lo < e → e < hi → e ∈ l) : Cut lo hi E (lo :: (l ++ [hi])) := by
  refine Cut.mk' ?_ (by simp) (by simp) ?_ (fun e he h1 h2 => by simp [hE e he h1 h2])
  · refine List.pairwise_cons.2 ⟨fun e he => ?_, List.pairwise_append.2 ⟨hp, by simp, fun e he f hf => ?_⟩⟩
    · rcases List.mem_append.1 he with he | he
      · exact (hb e he).1
      · simp at he; omega
    · simp at hf; have := (hb e he).2; omega
  · intro e he
    rcases List.mem_cons.1 he with rfl | he
    · omega
    · rcases List.mem_append.1 he with he | he
      · have := hb e he; omega
      · simp at he; omega
def ins (l : List Int) (n lo hi : Int) : List Int := if n ≤ lo ∨ n ≥ hi ∨ n ∈ l then l else l.takeWhile (· < n) ++ n :: l.dropWhile (· < n)
structure In (lo hi : Int) (l : List Int) : Prop where
  p : l.Pairwise (· < ·)
  b : ∀ e ∈ l, lo < e ∧ e < hi
theorem dropWhile_lt : ∀ (l : List Int) (n : Int), l.Pairwise (· < ·) → ∀ e ∈ l.dropWhile (· < n), n ≤ e
  | [], _, _, e, h => by simp at h
  | a :: l, n, hp, e, h => by
    rw [List.dropWhile_cons] at h
    split at h
    · exact dropWhile_lt l n (List.pairwise_cons.1 hp).2 e h
    · rename_i hn
      have hn : n ≤ a := by simpa using hn
      rcases List.mem_cons.1 h with rfl | h
      · exact hn
      · have := (List.pairwise_cons.1 hp).1 e h; omega
theorem takeWhile_lt : ∀ (l : List Int) (n : Int), ∀ e ∈ l.takeWhile (· < n), e < n
  | [], _, e, h => by simp at h
  | a :: l, n, e, h => by
    rw [List.takeWhile_cons] at h
    split at h
    · rename_i hn
      rcases List.mem_cons.1 h with rfl | h
      · simpa using hn
      · exact takeWhile_lt l n e h
    · simp at h
theorem ins_in {lo hi n : Int} {l : List Int} (h : In lo hi l) : In lo hi (ins l n lo hi) ∧ (∀ e, e ∈ ins l n lo hi ↔ e ∈ l ∨ e = n ∧ lo < n ∧ n < hi) := by
  unfold ins
  by_cases hc : n ≤ lo ∨ n ≥ hi ∨ n ∈ l
  · rw [if_pos hc]
    refine ⟨h, fun e => ⟨.inl, fun he => he.elim id fun ⟨e1, e2, e3⟩ => ?_⟩⟩
    rcases hc with hc | hc | hc
    · omega
    · omega
    · exact e1 ▸ hc
  · rw [if_neg hc]
    have h1 : lo < n := by rcases Classical.em (n ≤ lo) with q | q; exact absurd (.inl q) hc; omega
    have h2 : n < hi := by rcases Classical.em (n ≥ hi) with q | q; exact absurd (.inr (.inl q)) hc; omega
    have h3 : n ∉ l := fun q => hc (.inr (.inr q))
    have hm : ∀ e, e ∈ l.takeWhile (· < n) ++ n :: l.dropWhile (· < n) ↔ e ∈ l ∨ e = n := by
      intro e
      conv => rhs; rw [← List.takeWhile_append_dropWhile (p := fun x => decide (x < n)) (l := l)]
      simp only [List.mem_append, List.mem_cons]
      constructor
      · rintro (a | a | a)
        · exact .inl (.inl a)
        · exact .inr a
        · exact .inl (.inr a)
      · rintro ((a | a) | a)
        · exact .inl a
        · exact .inr (.inr a)
        · exact .inr (.inl a)
    refine ⟨⟨?_, fun e he => ?_⟩, fun e => (hm e).trans ⟨fun q => q.imp id fun q => ⟨q, h1, h2⟩, fun q => q.imp id (·.1)⟩⟩
    · have hw := h.p
      have hd := dropWhile_lt l n hw
      refine List.pairwise_append.2 ⟨hw.sublist (List.takeWhile_sublist _), List.pairwise_cons.2 ⟨fun e he => ?_, hw.sublist (List.dropWhile_sublist _)⟩, fun a ha b hb => ?_⟩
      · have q := hd e he
        have : e ≠ n := fun q => h3 (q ▸ (List.dropWhile_sublist _).subset he)
        omega
      · have q := takeWhile_lt l n a ha
        rcases List.mem_cons.1 hb with rfl | hb
        · exact q
        · have := hd b hb; omega
    · rcases (hm e).1 he with he | rfl
      · exact h.b e he
      · exact ⟨h1, h2⟩
def insAll (lo hi : Int) (l : List Int) : List (Int × Int) → List Int
  | [] => l
  | p :: ps => insAll lo hi (ins (ins l p.1 lo hi) p.2 lo hi) ps
theorem insAll_in {lo hi : Int} : ∀ (ps : List (Int × Int)) (l : List Int), In lo hi l → In lo hi (insAll lo hi l ps) ∧ ∀ e, e ∈ insAll lo hi l ps ↔ e ∈ l ∨ (e ∈ ps.map (·.1) ++ ps.map (·.2)) ∧ lo < e ∧ e < hi
  | [], l, h => ⟨h, fun e => by simp [insAll]⟩
  | p :: ps, l, h => by
    obtain ⟨h1, m1⟩ := ins_in (n := p.1) h
    obtain ⟨h2, m2⟩ := ins_in (n := p.2) h1
    obtain ⟨h3, m3⟩ := insAll_in ps _ h2
    refine ⟨h3, fun e => (m3 e).trans ?_⟩
    rw [m2, m1]
    simp only [List.map_cons, List.mem_append, List.mem_cons]
    constructor
    · rintro (((a | ⟨rfl, a⟩) | ⟨rfl, a⟩) | ⟨a, b⟩)
      · exact .inl a
      · exact .inr ⟨.inl (.inl rfl), a⟩
      · exact .inr ⟨.inr (.inl rfl), a⟩
      · exact .inr ⟨a.elim (fun q => .inl (.inr q)) (fun q => .inr (.inr q)), b⟩
    · rintro (a | ⟨(rfl | a) | (rfl | a), b⟩)
      · exact .inl (.inl (.inl a))
      · exact .inl (.inl (.inr ⟨rfl, b⟩))
      · exact .inr ⟨.inl a, b⟩
      · exact .inl (.inr ⟨rfl, b⟩)
      · exact .inr ⟨.inr a, b⟩
theorem insAll_cut {lo hi : Int} (hlt : lo < hi) (ps : List (Int × Int)) : Cut lo hi (ps.map (·.1) ++ ps.map (·.2)) (lo :: (insAll lo hi [] ps ++ [hi])) := by
  obtain ⟨h1, m1⟩ := insAll_in ps [] (⟨List.Pairwise.nil, fun _ h => absurd h (by simp)⟩ : In lo hi [])
  exact Cut.of_inner hlt h1.p h1.b fun e he a b => (m1 e).2 (.inr ⟨he, a, b⟩)
end
end Md
