import Derived.Test.YtedhcdganddiiaaCSSumSpec
namespace Go.Proofs.Ytedhcdganddiiaa.QA
open Go.RowKit Go.Proofs.YtedhcdganddiiaaW.PrintWords Go.Proofs.Ytedhcdganddiiaa.EvKit
set_option linter.unusedVariables false
set_option linter.unusedSimpArgs false

abbrev okI (x : S23) : Prop := -1000000000000 ≤ x.f0 ∧ x.f0 ≤ x.f1 ∧ x.f1 ≤ 1000000000000
def mem (l : List S23) (n : Int) : Prop := ∃ x, x ∈ l ∧ x.f0 ≤ n ∧ n ≤ x.f1
def inB (l : List S23) (n : Int) : Bool := l.any (fun x => decide (x.f0 ≤ n) && decide (n ≤ x.f1))
theorem inB_iff {l : List S23} {n : Int} : inB l n = true ↔ mem l n := by
  simp [inB, mem, List.any_eq_true]
theorem mem_nil {n : Int} : ¬ mem [] n := by rintro ⟨x, h, _⟩; cases h
theorem mem_cons {x : S23} {l : List S23} {n : Int} : mem (x :: l) n ↔ (x.f0 ≤ n ∧ n ≤ x.f1) ∨ mem l n := by
  constructor
  · rintro ⟨y, hy, h⟩
    rcases List.mem_cons.1 hy with rfl | hy
    · exact Or.inl h
    · exact Or.inr ⟨y, hy, h⟩
  · rintro (h | ⟨y, hy, h⟩)
    · exact ⟨x, by simp, h⟩
    · exact ⟨y, by simp [hy], h⟩
theorem mem_append {l m : List S23} {n : Int} : mem (l ++ m) n ↔ mem l n ∨ mem m n := by
  constructor
  · rintro ⟨y, hy, h⟩
    rcases List.mem_append.1 hy with hy | hy
    · exact Or.inl ⟨y, hy, h⟩
    · exact Or.inr ⟨y, hy, h⟩
  · rintro (⟨y, hy, h⟩ | ⟨y, hy, h⟩)
    · exact ⟨y, by simp [hy], h⟩
    · exact ⟨y, by simp [hy], h⟩
theorem mem_perm {l m : List S23} (h : l.Perm m) {n : Int} : mem l n ↔ mem m n :=
  ⟨fun ⟨y, hy, q⟩ => ⟨y, h.mem_iff.1 hy, q⟩, fun ⟨y, hy, q⟩ => ⟨y, h.mem_iff.2 hy, q⟩⟩

/-- A normal form whose numbers are not below b. -/
def NF : Int → List S23 → Prop
  | _, [] => True
  | b, x :: l => b ≤ x.f0 ∧ x.f0 ≤ x.f1 ∧ NF (x.f1 + 2) l
theorem NF_mono {b c : Int} {l : List S23} (hb : c ≤ b) (h : NF b l) : NF c l := by
  cases l with
  | nil => trivial
  | cons x l => exact ⟨by have := h.1; omega, h.2⟩
theorem NF_lb : ∀ {l : List S23} {b n : Int}, NF b l → mem l n → b ≤ n
  | [], _, _, _, h => absurd h mem_nil
  | x :: l, b, n, h, hm => by
    obtain ⟨h1, h2, h3⟩ := h
    rcases mem_cons.1 hm with h | h
    · omega
    · have := NF_lb h3 h; omega
theorem NF_unique : ∀ {l l' : List S23} {b b' : Int}, NF b l → NF b' l' → (∀ n, mem l n ↔ mem l' n) → l = l'
  | [], [], _, _, _, _, _ => rfl
  | [], x :: l, _, _, _, h, e => absurd ((e x.f0).2 (mem_cons.2 (Or.inl ⟨Int.le_refl _, h.2.1⟩))) mem_nil
  | x :: l, [], _, _, h, _, e => absurd ((e x.f0).1 (mem_cons.2 (Or.inl ⟨Int.le_refl _, h.2.1⟩))) mem_nil
  | x :: l, y :: m, b, b', h, h', e => by
    obtain ⟨h1, h2, h3⟩ := h
    obtain ⟨g1, g2, g3⟩ := h'
    have a1 : y.f0 ≤ x.f0 := NF_lb (l := y :: m) (b := y.f0) ⟨Int.le_refl _, g2, g3⟩ ((e x.f0).1 (mem_cons.2 (Or.inl ⟨Int.le_refl _, h2⟩)))
    have a2 : x.f0 ≤ y.f0 := NF_lb (l := x :: l) (b := x.f0) ⟨Int.le_refl _, h2, h3⟩ ((e y.f0).2 (mem_cons.2 (Or.inl ⟨Int.le_refl _, g2⟩)))
    have a3 : ¬ x.f1 < y.f1 := by
      intro hlt
      rcases mem_cons.1 ((e (x.f1 + 1)).2 (mem_cons.2 (Or.inl ⟨by omega, by omega⟩))) with q | q
      · omega
      · have := NF_lb h3 q; omega
    have a4 : ¬ y.f1 < x.f1 := by
      intro hlt
      rcases mem_cons.1 ((e (y.f1 + 1)).1 (mem_cons.2 (Or.inl ⟨by omega, by omega⟩))) with q | q
      · omega
      · have := NF_lb g3 q; omega
    have exy : x = y := by
      cases x; cases y
      simp only [S23.mk.injEq] at *
      omega
    subst exy
    have : l = m := NF_unique h3 g3 (fun n => by
      constructor
      · intro q
        have := NF_lb h3 q
        rcases mem_cons.1 ((e n).1 (mem_cons.2 (Or.inr q))) with r | r
        · omega
        · exact r
      · intro q
        have := NF_lb g3 q
        rcases mem_cons.1 ((e n).2 (mem_cons.2 (Or.inr q))) with r | r
        · omega
        · exact r)
    rw [this]
theorem NF_val : ∀ {l : List S23} {b : Int}, NF b l → ∀ x ∈ l, x.f0 ≤ x.f1
  | y :: l, b, h, x, hx => by
    rcases List.mem_cons.1 hx with rfl | hx
    · exact h.2.1
    · exact NF_val h.2.2 x hx
theorem NF_ok {l : List S23} {b : Int} (h : NF b l) (hm : ∀ n, mem l n → -1000000000000 ≤ n ∧ n ≤ 1000000000000) : ∀ x ∈ l, okI x := by
  intro x hx
  have := NF_val h x hx
  have a := hm x.f0 ⟨x, hx, Int.le_refl _, this⟩
  have b := hm x.f1 ⟨x, hx, this, Int.le_refl _⟩
  exact ⟨a.1, this, b.2⟩
theorem mem_ok {l : List S23} (h : ∀ x ∈ l, okI x) {n : Int} (hm : mem l n) : -1000000000000 ≤ n ∧ n ≤ 1000000000000 := by
  obtain ⟨x, hx, h1, h2⟩ := hm
  have := h x hx
  omega

/-- The normal form behind a first interval. -/
def gol : S23 → List S23 → List S23
  | y, [] => [y]
  | y, x :: l => if x.f0 ≤ y.f1 + 1 then gol ⟨y.f0, mx y.f1 x.f1⟩ l else y :: gol x l
theorem rd_last (pre : List S23) (y : S23) : rd_T23 (pre ++ [y]) (((pre ++ [y]).length : Int) - 1) = y := by
  have : (((pre ++ [y]).length : Int) - 1).toNat = pre.length := by rw [List.length_append, List.length_singleton]; omega
  unfold rd_T23
  rw [this]
  simp
theorem set_last (pre : List S23) (y z : S23) : (pre ++ [y]).set ((pre ++ [y]).length - 1) z = pre ++ [z] := by
  rw [show (pre ++ [y]).length - 1 = pre.length by simp]
  simp
theorem mx_ok {a b : Int} (ha : -1000000000000 ≤ a ∧ a ≤ 1000000000000) (hb : -1000000000000 ≤ b ∧ b ≤ 1000000000000) : -1000000000000 ≤ mx a b ∧ mx a b ≤ 1000000000000 ∧ a ≤ mx a b ∧ b ≤ mx a b := by
  unfold mx; split <;> omega
theorem fold_gol : ∀ (l pre : List S23) (y : S23), okI y → (∀ x ∈ l, okI x) → l.foldl nstep (pre ++ [y]) = pre ++ gol y l
  | [], pre, y, _, _ => rfl
  | x :: l, pre, y, hy, hl => by
    have hx := hl x (by simp)
    have hl' : ∀ z ∈ l, okI z := fun z hz => hl z (by simp [hz])
    rw [List.foldl_cons]
    have e : nstep (pre ++ [y]) x = if x.f0 ≤ y.f1 + 1 then pre ++ [⟨y.f0, mx y.f1 x.f1⟩] else pre ++ [y] ++ [x] := by
      unfold nstep
      rw [if_neg (by simp), rd_last, w64 (by omega) (by omega), set_last]
    rw [e]
    unfold gol
    by_cases hc : x.f0 ≤ y.f1 + 1
    · rw [if_pos hc, if_pos hc]
      have hm := mx_ok (a := y.f1) (b := x.f1) (by omega) (by omega)
      exact fold_gol l pre _ ⟨hy.1, by show y.f0 ≤ mx y.f1 x.f1; omega, hm.2.1⟩ hl'
    · rw [if_neg hc, if_neg hc]
      rw [fold_gol l (pre ++ [y]) x hx hl']
      simp
theorem gol_spec : ∀ (l : List S23) (y : S23) (b : Int), b ≤ y.f0 → okI y → (∀ x ∈ l, okI x) → (∀ x ∈ l, y.f0 ≤ x.f0) → l.Pairwise (fun a b => a.f0 ≤ b.f0) → NF b (gol y l) ∧ ∀ n, mem (gol y l) n ↔ mem (y :: l) n
  | [], y, b, hb, hy, _, _, _ => ⟨⟨hb, hy.2.1, trivial⟩, fun n => Iff.rfl⟩
  | x :: l, y, b, hb, hy, hl, hs, hp => by
    have hx := hl x (by simp)
    have hl' : ∀ z ∈ l, okI z := fun z hz => hl z (by simp [hz])
    have hyx := hs x (by simp)
    rw [List.pairwise_cons] at hp
    unfold gol
    by_cases hc : x.f0 ≤ y.f1 + 1
    · rw [if_pos hc]
      have hm := mx_ok (a := y.f1) (b := x.f1) (by omega) (by omega)
      obtain ⟨i1, i2⟩ := gol_spec l ⟨y.f0, mx y.f1 x.f1⟩ b hb ⟨hy.1, by show y.f0 ≤ mx y.f1 x.f1; omega, hm.2.1⟩ hl' (fun z hz => hs z (by simp [hz])) hp.2
      refine ⟨i1, fun n => ?_⟩
      rw [i2 n, mem_cons, mem_cons, mem_cons]
      have : (y.f0 ≤ n ∧ n ≤ mx y.f1 x.f1) ↔ ((y.f0 ≤ n ∧ n ≤ y.f1) ∨ (x.f0 ≤ n ∧ n ≤ x.f1)) := by
        unfold mx; split <;> omega
      show (y.f0 ≤ n ∧ n ≤ mx y.f1 x.f1) ∨ _ ↔ _
      rw [this, or_assoc]
    · rw [if_neg hc]
      obtain ⟨i1, i2⟩ := gol_spec l x (y.f1 + 2) (by omega) hx hl' (fun z hz => hp.1 z hz) hp.2
      exact ⟨⟨hb, hy.2.1, i1⟩, fun n => by rw [mem_cons, i2 n, mem_cons (x := y)]⟩
theorem nrm_spec {l : List S23} (h : ∀ x ∈ l, okI x) : NF (-1000000000000) (nrm l) ∧ ∀ n, mem (nrm l) n ↔ mem l n := by
  have hp := SortRow.sortL_perm ltLo swoLo l
  have hs := SortRow.sortL_sorted ltLo swoLo l
  unfold nrm
  generalize SortRow.sortL ltLo l = s at hp hs
  have hok : ∀ x ∈ s, okI x := fun x hx => h x (hp.mem_iff.1 hx)
  have hs' : s.Pairwise (fun a b => a.f0 ≤ b.f0) := hs.imp (fun {a b} q => by simpa [ltLo] using q)
  unfold normL
  cases s with
  | nil =>
    refine ⟨trivial, fun n => ?_⟩
    rw [← mem_perm hp]; exact Iff.rfl
  | cons x s =>
    have e : (x :: s).foldl nstep [] = gol x s := by
      rw [List.foldl_cons]
      have : nstep [] x = [] ++ [x] := by simp [nstep]
      rw [this, fold_gol s [] x (hok x (by simp)) (fun z hz => hok z (by simp [hz]))]
      rfl
    rw [e]
    rw [List.pairwise_cons] at hs'
    obtain ⟨i1, i2⟩ := gol_spec s x (-1000000000000) (hok x (by simp)).1 (hok x (by simp)) (fun z hz => hok z (by simp [hz])) hs'.1 hs'.2
    exact ⟨i1, fun n => by rw [i2 n, mem_perm hp]⟩
theorem nrm_ok {l : List S23} (h : ∀ x ∈ l, okI x) : ∀ x ∈ nrm l, okI x := by
  obtain ⟨h1, h2⟩ := nrm_spec h
  exact NF_ok h1 (fun n hn => mem_ok h ((h2 n).1 hn))

/-- The common numbers. -/
def comL : List S23 → List S23 → List S23
  | [], _ => []
  | _ :: _, [] => []
  | x :: a, y :: b => if mx x.f0 y.f0 ≤ mn x.f1 y.f1 then ⟨mx x.f0 y.f0, mn x.f1 y.f1⟩ :: (if x.f1 < y.f1 then comL a (y :: b) else comL (x :: a) b) else (if x.f1 < y.f1 then comL a (y :: b) else comL (x :: a) b)
termination_by a b => a.length + b.length
theorem com_spec : ∀ (k : Nat) (a b : List S23) (p q c : Int), a.length + b.length ≤ k → NF p a → NF q b → (c ≤ p ∨ c ≤ q) → NF c (comL a b) ∧ ∀ n, mem (comL a b) n ↔ mem a n ∧ mem b n := by
  intro k
  induction k with
  | zero =>
    intro a b p q c hk ha hb hc
    obtain rfl : a = [] := List.eq_nil_of_length_eq_zero (by omega)
    rw [comL]
    exact ⟨trivial, fun n => ⟨fun h => absurd h mem_nil, fun h => absurd h.1 mem_nil⟩⟩
  | succ k ih =>
    intro a b p q c hk ha hb hc
    cases a with
    | nil =>
      rw [comL]
      exact ⟨trivial, fun n => ⟨fun h => absurd h mem_nil, fun h => absurd h.1 mem_nil⟩⟩
    | cons x a =>
      cases b with
      | nil =>
        rw [comL]
        exact ⟨trivial, fun n => ⟨fun h => absurd h mem_nil, fun h => absurd h.2 mem_nil⟩⟩
      | cons y b =>
        simp only [List.length_cons] at hk
        obtain ⟨a1, a2, a3⟩ := ha
        obtain ⟨b1, b2, b3⟩ := hb
        rw [comL]
        have hmx : mx x.f0 y.f0 = max x.f0 y.f0 := by unfold mx; split <;> omega
        have hmn : mn x.f1 y.f1 = min x.f1 y.f1 := by unfold mn; split <;> omega
        rw [hmx, hmn]
        by_cases hlt : x.f1 < y.f1
        · rw [if_pos hlt]
          have i := fun d hd => ih a (y :: b) (x.f1 + 2) q d (by simp only [List.length_cons]; omega) a3 ⟨b1, b2, b3⟩ hd
          have key : ∀ n, (mem (x :: a) n ∧ mem (y :: b) n) ↔ ((max x.f0 y.f0 ≤ n ∧ n ≤ min x.f1 y.f1) ∨ (mem a n ∧ mem (y :: b) n)) := by
            intro n
            constructor
            · rintro ⟨h1, h2⟩
              rcases mem_cons.1 h1 with h1 | h1
              · rcases mem_cons.1 h2 with h3 | h3
                · left; omega
                · have := NF_lb b3 h3; omega
              · exact Or.inr ⟨h1, h2⟩
            · rintro (h | ⟨h1, h2⟩)
              · exact ⟨mem_cons.2 (Or.inl (by omega)), mem_cons.2 (Or.inl (by omega))⟩
              · exact ⟨mem_cons.2 (Or.inr h1), h2⟩
          by_cases hle : max x.f0 y.f0 ≤ min x.f1 y.f1
          · rw [if_pos hle]
            refine ⟨⟨?_, hle, ?_⟩, fun n => ?_⟩
            · show c ≤ max x.f0 y.f0
              omega
            · exact (i _ (Or.inl (show min x.f1 y.f1 + 2 ≤ x.f1 + 2 by omega))).1
            · rw [mem_cons, (i (x.f1 + 2) (Or.inl (Int.le_refl _))).2 n, key n]
          · rw [if_neg hle]
            refine ⟨(i c (by omega)).1, fun n => ?_⟩
            rw [(i (x.f1 + 2) (Or.inl (Int.le_refl _))).2 n, key n]
            exact ⟨Or.inr, fun h => h.resolve_left (by omega)⟩
        · rw [if_neg hlt]
          have i := fun d hd => ih (x :: a) b p (y.f1 + 2) d (by simp only [List.length_cons]; omega) ⟨a1, a2, a3⟩ b3 hd
          have key : ∀ n, (mem (x :: a) n ∧ mem (y :: b) n) ↔ ((max x.f0 y.f0 ≤ n ∧ n ≤ min x.f1 y.f1) ∨ (mem (x :: a) n ∧ mem b n)) := by
            intro n
            constructor
            · rintro ⟨h1, h2⟩
              rcases mem_cons.1 h2 with h2 | h2
              · rcases mem_cons.1 h1 with h3 | h3
                · left; omega
                · have := NF_lb a3 h3; omega
              · exact Or.inr ⟨h1, h2⟩
            · rintro (h | ⟨h1, h2⟩)
              · exact ⟨mem_cons.2 (Or.inl (by omega)), mem_cons.2 (Or.inl (by omega))⟩
              · exact ⟨h1, mem_cons.2 (Or.inr h2)⟩
          by_cases hle : max x.f0 y.f0 ≤ min x.f1 y.f1
          · rw [if_pos hle]
            refine ⟨⟨?_, hle, ?_⟩, fun n => ?_⟩
            · show c ≤ max x.f0 y.f0
              omega
            · exact (i _ (Or.inr (show min x.f1 y.f1 + 2 ≤ y.f1 + 2 by omega))).1
            · rw [mem_cons, (i (y.f1 + 2) (Or.inr (Int.le_refl _))).2 n, key n]
          · rw [if_neg hle]
            refine ⟨(i c (by omega)).1, fun n => ?_⟩
            rw [(i (y.f1 + 2) (Or.inr (Int.le_refl _))).2 n, key n]
            exact ⟨Or.inr, fun h => h.resolve_left (by omega)⟩

/-- The numbers in range, from one on, that a normal form does not have. -/
def gapL : Int → List S23 → List S23
  | s, [] => if s ≤ 1000000000000 then [⟨s, 1000000000000⟩] else []
  | s, x :: l => if s < x.f0 then ⟨s, x.f0 - 1⟩ :: gapL (x.f1 + 1) l else gapL (x.f1 + 1) l
theorem gap_spec : ∀ (l : List S23) (s b : Int), b ≤ s → NF s l → (∀ x ∈ l, okI x) → NF b (gapL s l) ∧ ∀ n, mem (gapL s l) n ↔ s ≤ n ∧ n ≤ 1000000000000 ∧ ¬ mem l n
  | [], s, b, hb, _, _ => by
    unfold gapL
    by_cases h : s ≤ 1000000000000
    · rw [if_pos h]
      refine ⟨⟨hb, h, trivial⟩, fun n => ?_⟩
      rw [mem_cons]
      constructor
      · rintro (q | q)
        · exact ⟨q.1, q.2, mem_nil⟩
        · exact absurd q mem_nil
      · exact fun q => Or.inl ⟨q.1, q.2.1⟩
    · rw [if_neg h]
      refine ⟨trivial, fun n => ⟨fun q => absurd q mem_nil, fun q => ?_⟩⟩
      omega
  | x :: l, s, b, hb, hn, ho => by
    obtain ⟨h1, h2, h3⟩ := hn
    have hx := ho x (by simp)
    have i := fun c hc => gap_spec l (x.f1 + 1) c hc (NF_mono (by omega) h3) (fun z hz => ho z (by simp [hz]))
    unfold gapL
    have key : ∀ n, (s ≤ n ∧ n ≤ 1000000000000 ∧ ¬ mem (x :: l) n) ↔ ((s ≤ n ∧ n ≤ x.f0 - 1) ∨ (x.f1 + 1 ≤ n ∧ n ≤ 1000000000000 ∧ ¬ mem l n)) := by
      intro n
      rw [mem_cons]
      constructor
      · rintro ⟨q1, q2, q3⟩
        have q4 : ¬ (x.f0 ≤ n ∧ n ≤ x.f1) := fun h => q3 (Or.inl h)
        have q5 : ¬ mem l n := fun h => q3 (Or.inr h)
        by_cases hh : n ≤ x.f0 - 1
        · exact Or.inl ⟨q1, hh⟩
        · exact Or.inr ⟨by omega, q2, q5⟩
      · rintro (q | q)
        · refine ⟨q.1, by omega, ?_⟩
          rintro (r | r)
          · omega
          · have := NF_lb h3 r; omega
        · refine ⟨by omega, q.2.1, ?_⟩
          rintro (r | r)
          · omega
          · exact q.2.2 r
    by_cases hc : s < x.f0
    · rw [if_pos hc]
      refine ⟨⟨hb, by show s ≤ x.f0 - 1; omega, (i _ (show x.f0 - 1 + 2 ≤ x.f1 + 1 by omega)).1⟩, fun n => ?_⟩
      rw [mem_cons, (i (x.f1 + 1) (Int.le_refl _)).2 n, key n]
    · rw [if_neg hc]
      refine ⟨(i b (by omega)).1, fun n => ?_⟩
      rw [(i (x.f1 + 1) (Int.le_refl _)).2 n, key n]
      exact ⟨Or.inr, fun h => h.resolve_left (by omega)⟩

/-- How many numbers a normal form has. -/
def size (l : List S23) : Int := (l.map (fun x => x.f1 - x.f0 + 1)).sum
theorem inB_cons (x : S23) (l : List S23) (n : Int) : inB (x :: l) n = ((decide (x.f0 ≤ n) && decide (n ≤ x.f1)) || inB l n) := rfl
end Go.Proofs.Ytedhcdganddiiaa.QA
