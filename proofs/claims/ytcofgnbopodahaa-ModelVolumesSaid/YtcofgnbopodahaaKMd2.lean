import Derived.Test.YtcofgnbopodahaaKMd1
namespace Md
set_option linter.unusedVariables false
set_option linter.unusedSimpArgs false
structure Ev where
  b : Bx
  s : Int
def jn (a b : Int) : Int := if a = 0 ∨ a = b then b else if b = 0 then a else 3
def step (x y z : Int) (o : Int) (e : Ev) : Int := if hasB e.b x y z = true then jn o e.s else o
def st (l : List Ev) (x y z : Int) : Int := l.foldl (step x y z) 0
structure EvOk (e : Ev) : Prop where
  v : Val e.b
  s : e.s = 1 ∨ e.s = 2
def hit (l : List Ev) (n x y z : Int) : Bool := l.any fun e => decide (e.s = n) && hasB e.b x y z
def val (a b : Bool) : Int := (if a = true then 1 else 0) + (if b = true then 2 else 0)
theorem jn_val {a b : Bool} {s : Int} (h : s = 1 ∨ s = 2) : jn (val a b) s = val (a || decide (s = 1)) (b || decide (s = 2)) := by
  rcases h with rfl | rfl <;> cases a <;> cases b <;> rfl
theorem fold_val (x y z : Int) : ∀ (l : List Ev), (∀ e ∈ l, EvOk e) → ∀ a b : Bool, l.foldl (step x y z) (val a b) = val (a || hit l 1 x y z) (b || hit l 2 x y z)
  | [], _, a, b => by simp [hit]
  | e :: l, h, a, b => by
    have hl : ∀ e ∈ l, EvOk e := fun e he => h e (List.mem_cons_of_mem _ he)
    have he := (h e (List.mem_cons_self)).s
    rw [List.foldl_cons]
    by_cases hb : hasB e.b x y z = true
    · have e1 : step x y z (val a b) e = val (a || decide (e.s = 1)) (b || decide (e.s = 2)) := by
        unfold step; rw [if_pos hb]; exact jn_val he
      rw [e1, fold_val x y z l hl]
      simp [hit, hb, Bool.or_assoc]
    · have e1 : step x y z (val a b) e = val a b := by unfold step; rw [if_neg hb]
      rw [e1, fold_val x y z l hl]
      simp [hit, Bool.not_eq_true _ ▸ hb]
theorem st_val {l : List Ev} (h : ∀ e ∈ l, EvOk e) (x y z : Int) : st l x y z = val (hit l 1 x y z) (hit l 2 x y z) := by
  have := fold_val x y z l h false false
  rw [Bool.false_or, Bool.false_or] at this
  exact this
theorem hit_congr {l m : List Ev} {n x y z : Int} (h : ∀ e, hasB e.b x y z = true → (e ∈ l ↔ e ∈ m)) : hit l n x y z = hit m n x y z := by
  rw [Bool.eq_iff_iff]
  simp only [hit, List.any_eq_true, Bool.and_eq_true, decide_eq_true_eq]
  constructor
  · rintro ⟨e, h1, h2, h3⟩; exact ⟨e, (h e h3).1 h1, h2, h3⟩
  · rintro ⟨e, h1, h2, h3⟩; exact ⟨e, (h e h3).2 h1, h2, h3⟩
theorem st_congr {l m : List Ev} (hl : ∀ e ∈ l, EvOk e) (hm : ∀ e ∈ m, EvOk e) {x y z : Int} (h : ∀ e, hasB e.b x y z = true → (e ∈ l ↔ e ∈ m)) : st l x y z = st m x y z := by
  rw [st_val hl, st_val hm, hit_congr h, hit_congr h]
theorem st_same {l : List Ev} {x y z x' y' z' : Int} (h : ∀ e ∈ l, hasB e.b x y z = hasB e.b x' y' z') : st l x y z = st l x' y' z' := by
  have key : ∀ (l : List Ev) (o : Int), (∀ e ∈ l, hasB e.b x y z = hasB e.b x' y' z') → l.foldl (step x y z) o = l.foldl (step x' y' z') o := by
    intro l
    induction l with
    | nil => intro o _; rfl
    | cons e l ih =>
      intro o h
      rw [List.foldl_cons, List.foldl_cons]
      have : step x y z o e = step x' y' z' o e := by unfold step; rw [h e List.mem_cons_self]
      rw [this]
      exact ih _ fun e he => h e (List.mem_cons_of_mem _ he)
  exact key l 0 h
structure Cuts (b : Bx) (l : List Ev) (xs ys zs : List Int) : Prop where
  x : Cut b.a0 b.b0 (l.map (·.b.a0) ++ l.map (·.b.b0)) xs
  y : Cut b.a1 b.b1 (l.map (·.b.a1) ++ l.map (·.b.b1)) ys
  z : Cut b.a2 b.b2 (l.map (·.b.a2) ++ l.map (·.b.b2)) zs
section
variable {b : Bx} {l : List Ev} {xs ys zs : List Int}
theorem Cuts.part (h : Cuts b l xs ys zs) {p : Bx} (hp : p ∈ parts xs ys zs) : Val p ∧ b.a0 ≤ p.a0 ∧ b.a1 ≤ p.a1 ∧ b.a2 ≤ p.a2 ∧ p.b0 ≤ b.b0 ∧ p.b1 ≤ b.b1 ∧ p.b2 ≤ b.b2 := by
  obtain ⟨h0, h1, h2⟩ := parts_mem.1 hp
  obtain ⟨a, c, d, _⟩ := h.x.part h0
  obtain ⟨a', c', d', _⟩ := h.y.part h1
  obtain ⟨a'', c'', d'', _⟩ := h.z.part h2
  exact ⟨⟨a, a', a''⟩, c, c', c'', d, d', d''⟩
theorem Cuts.same (h : Cuts b l xs ys zs) {p : Bx} (hp : p ∈ parts xs ys zs) {x y z : Int} (hx : hasB p x y z = true) {e : Ev} (he : e ∈ l) : hasB e.b x y z = hasB e.b p.a0 p.a1 p.a2 := by
  obtain ⟨h0, h1, h2⟩ := parts_mem.1 hp
  obtain ⟨g0, _, _, k0⟩ := h.x.part h0
  obtain ⟨g1, _, _, k1⟩ := h.y.part h1
  obtain ⟨g2, _, _, k2⟩ := h.z.part h2
  have a0 := k0 e.b.a0 (List.mem_append.2 (.inl (List.mem_map.2 ⟨e, he, rfl⟩)))
  have b0 := k0 e.b.b0 (List.mem_append.2 (.inr (List.mem_map.2 ⟨e, he, rfl⟩)))
  have a1 := k1 e.b.a1 (List.mem_append.2 (.inl (List.mem_map.2 ⟨e, he, rfl⟩)))
  have b1 := k1 e.b.b1 (List.mem_append.2 (.inr (List.mem_map.2 ⟨e, he, rfl⟩)))
  have a2 := k2 e.b.a2 (List.mem_append.2 (.inl (List.mem_map.2 ⟨e, he, rfl⟩)))
  have b2 := k2 e.b.b2 (List.mem_append.2 (.inr (List.mem_map.2 ⟨e, he, rfl⟩)))
  obtain ⟨q0, q1, q2, q3, q4, q5⟩ := (hasB_iff p x y z).1 hx
  rw [Bool.eq_iff_iff, hasB_iff, hasB_iff]
  omega
theorem Cuts.st (h : Cuts b l xs ys zs) {p : Bx} (hp : p ∈ parts xs ys zs) {x y z : Int} (hx : hasB p x y z = true) : st l x y z = st l p.a0 p.a1 p.a2 :=
  st_same fun e he => h.same hp hx he
theorem Cuts.find (h : Cuts b l xs ys zs) {x y z : Int} (hx : hasB b x y z = true) : ∃ p ∈ parts xs ys zs, hasB p x y z = true := by
  obtain ⟨q0, q1, q2, q3, q4, q5⟩ := (hasB_iff b x y z).1 hx
  obtain ⟨p0, m0, c0, d0⟩ := h.x.find q0 q1
  obtain ⟨p1, m1, c1, d1⟩ := h.y.find q2 q3
  obtain ⟨p2, m2, c2, d2⟩ := h.z.find q4 q5
  exact ⟨⟨p0.1, p1.1, p2.1, p0.2, p1.2, p2.2⟩, parts_mem.2 ⟨m0, m1, m2⟩, (hasB_iff _ _ _ _).2 ⟨c0, d0, c1, d1, c2, d2⟩⟩
theorem Cuts.least (h : Cuts b l xs ys zs) {p : Bx} (hp : p ∈ parts xs ys zs) : hasB p p.a0 p.a1 p.a2 = true ∧ hasB b p.a0 p.a1 p.a2 = true := by
  obtain ⟨⟨v0, v1, v2⟩, a0, a1, a2, b0, b1, b2⟩ := h.part hp
  exact ⟨(hasB_iff _ _ _ _).2 ⟨by omega, v0, by omega, v1, by omega, v2⟩, (hasB_iff _ _ _ _).2 ⟨by omega, by omega, by omega, by omega, by omega, by omega⟩⟩
end
def cnt (l : List Ev) (b : Bx) (n : Int) : Int := sb b fun x y z => if st l x y z = n then 1 else 0
theorem cnt_congr {l m : List Ev} {b : Bx} {n : Int} (h : ∀ x y z, hasB b x y z = true → Md.st l x y z = Md.st m x y z) : cnt l b n = cnt m b n :=
  sb_congr fun x y z hb => by rw [h x y z hb]
theorem cnt_parts {l : List Ev} {b : Bx} {xs ys zs : List Int} (h : Cuts b l xs ys zs) (n : Int) : cnt l b n = sumL (fun p => if Md.st l p.a0 p.a1 p.a2 = n then vol p else 0) (parts xs ys zs) := by
  unfold cnt
  rw [sb_parts h.x h.y h.z]
  refine sumL_congr _ fun p hp => ?_
  rw [sb_const (c := if Md.st l p.a0 p.a1 p.a2 = n then 1 else 0) (h.part hp).1 (fun x y z hx => by rw [h.st hp hx])]
  split <;> simp
theorem cnt_nonneg (l : List Ev) (b : Bx) (n : Int) : 0 ≤ cnt l b n := sb_nonneg fun x y z _ => by split <;> decide
theorem cnt_vol {l : List Ev} {b : Bx} (hv : Val b) (n : Int) : cnt l b n = vol b ↔ ∀ x y z, hasB b x y z = true → Md.st l x y z = n := by
  have hs : cnt l b n + sb b (fun x y z => if Md.st l x y z = n then 0 else 1) = vol b := by
    unfold cnt
    rw [← sb_add, sb_const hv (c := 1) (fun x y z _ => by split <;> rfl)]
    omega
  have hp : 0 < sb b (fun x y z => if Md.st l x y z = n then 0 else 1) ↔ ∃ x y z, hasB b x y z = true ∧ ¬ Md.st l x y z = n := by
    rw [sb_pos fun x y z _ => by split <;> decide]
    constructor
    · rintro ⟨x, y, z, h1, h2⟩
      refine ⟨x, y, z, h1, fun h => ?_⟩
      rw [if_pos h] at h2; exact absurd h2 (by decide)
    · rintro ⟨x, y, z, h1, h2⟩
      exact ⟨x, y, z, h1, by rw [if_neg h2]; decide⟩
  have h0 : 0 ≤ sb b (fun x y z => if Md.st l x y z = n then 0 else 1) := sb_nonneg fun x y z _ => by split <;> decide
  constructor
  · intro he x y z hb
    rcases Classical.em (Md.st l x y z = n) with h | h
    · exact h
    · have := hp.2 ⟨x, y, z, hb, h⟩; omega
  · intro h
    have : ¬ 0 < sb b (fun x y z => if Md.st l x y z = n then 0 else 1) := fun hq => by
      obtain ⟨x, y, z, h1, h2⟩ := hp.1 hq
      exact h2 (h x y z h1)
    omega
theorem cnt_le {l : List Ev} {b : Bx} (hl : ∀ e ∈ l, EvOk e) (hv : Val b) {n : Int} : cnt l b n ≤ vol b := by
  have e : cnt l b n + sb b (fun x y z => if Md.st l x y z = n then 0 else 1) = vol b := by
    unfold cnt
    rw [← sb_add, sb_const hv (c := 1) (fun x y z _ => by split <;> rfl)]
    omega
  have h0 : 0 ≤ sb b (fun x y z => if Md.st l x y z = n then 0 else 1) := sb_nonneg fun x y z _ => by split <;> decide
  omega
def bef (a0 a1 a2 b0 b1 b2 : Int) : Bool := if a2 ≠ b2 then decide (a2 < b2) else if a1 ≠ b1 then decide (a1 < b1) else decide (a0 < b0)
theorem bef_iff {a0 a1 a2 b0 b1 b2 : Int} : bef a0 a1 a2 b0 b1 b2 = true ↔ a2 < b2 ∨ a2 = b2 ∧ (a1 < b1 ∨ a1 = b1 ∧ a0 < b0) := by
  unfold bef
  split
  · rw [decide_eq_true_eq]; omega
  · split
    · rw [decide_eq_true_eq]; omega
    · rw [decide_eq_true_eq]; omega
structure Least (P : Int → Int → Int → Prop) (x y z : Int) : Prop where
  h : P x y z
  m : ∀ x' y' z', P x' y' z' → bef x' y' z' x y z = false
theorem Least.unique {P : Int → Int → Int → Prop} {x y z x' y' z' : Int} (h : Least P x y z) (k : Least P x' y' z') : x = x' ∧ y = y' ∧ z = z' := by
  have a := h.m _ _ _ k.h
  have b := k.m _ _ _ h.h
  rw [Bool.eq_false_iff, Ne, bef_iff] at a b
  omega
def fst (q : Bx → Bool) : List Bx → Option Bx → Option Bx
  | [], o => o
  | p :: l, none => fst q l (if q p = true then some p else none)
  | p :: l, some o => fst q l (if q p = true ∧ bef p.a0 p.a1 p.a2 o.a0 o.a1 o.a2 = true then some p else some o)
theorem fst_spec (q : Bx → Bool) : ∀ (l : List Bx) (o : Option Bx), match fst q l o with
    | none => o = none ∧ ∀ p ∈ l, q p = false
    | some r => (o = some r ∨ r ∈ l ∧ q r = true) ∧ (∀ p ∈ l, q p = true → bef p.a0 p.a1 p.a2 r.a0 r.a1 r.a2 = false) ∧ (∀ c, o = some c → bef c.a0 c.a1 c.a2 r.a0 r.a1 r.a2 = false)
  | [], none => by simp [fst]
  | [], some o => by simp [fst, bef]
  | p :: l, none => by
    unfold fst
    by_cases hq : q p = true
    · rw [if_pos hq]
      have ih := fst_spec q l (some p)
      cases hf : fst q l (some p) with
      | none => rw [hf] at ih; exact absurd ih.1 (by simp)
      | some r =>
        rw [hf] at ih
        obtain ⟨h1, h2, h3⟩ := ih
        refine ⟨.inr ?_, fun p' hp' hq' => ?_, fun c hc => by cases hc⟩
        · rcases h1 with h1 | ⟨h1, h1'⟩
          · injection h1 with h1; subst h1; exact ⟨List.mem_cons_self, hq⟩
          · exact ⟨List.mem_cons_of_mem _ h1, h1'⟩
        · rcases List.mem_cons.1 hp' with rfl | hp'
          · exact h3 _ rfl
          · exact h2 _ hp' hq'
    · rw [if_neg hq]
      have ih := fst_spec q l none
      cases hf : fst q l none with
      | none =>
        rw [hf] at ih
        refine ⟨rfl, fun p' hp' => ?_⟩
        rcases List.mem_cons.1 hp' with rfl | hp'
        · exact Bool.eq_false_iff.2 hq
        · exact ih.2 _ hp'
      | some r =>
        rw [hf] at ih
        obtain ⟨h1, h2, h3⟩ := ih
        refine ⟨.inr ?_, fun p' hp' hq' => ?_, fun c hc => by cases hc⟩
        · rcases h1 with h1 | ⟨h1, h1'⟩
          · cases h1
          · exact ⟨List.mem_cons_of_mem _ h1, h1'⟩
        · rcases List.mem_cons.1 hp' with rfl | hp'
          · exact absurd hq' hq
          · exact h2 _ hp' hq'
  | p :: l, some o => by
    unfold fst
    by_cases hq : q p = true ∧ bef p.a0 p.a1 p.a2 o.a0 o.a1 o.a2 = true
    · rw [if_pos hq]
      have ih := fst_spec q l (some p)
      cases hf : fst q l (some p) with
      | none => rw [hf] at ih; exact absurd ih.1 (by simp)
      | some r =>
        rw [hf] at ih
        obtain ⟨h1, h2, h3⟩ := ih
        have hpr := h3 _ rfl
        refine ⟨.inr ?_, fun p' hp' hq' => ?_, fun c hc => ?_⟩
        · rcases h1 with h1 | ⟨h1, h1'⟩
          · injection h1 with h1; subst h1; exact ⟨List.mem_cons_self, hq.1⟩
          · exact ⟨List.mem_cons_of_mem _ h1, h1'⟩
        · rcases List.mem_cons.1 hp' with rfl | hp'
          · exact hpr
          · exact h2 _ hp' hq'
        · injection hc with hc; subst hc
          have hb := hq.2
          rw [Bool.eq_false_iff, Ne, bef_iff] at hpr ⊢
          rw [bef_iff] at hb
          omega
    · rw [if_neg hq]
      have ih := fst_spec q l (some o)
      cases hf : fst q l (some o) with
      | none => rw [hf] at ih; exact absurd ih.1 (by simp)
      | some r =>
        rw [hf] at ih
        obtain ⟨h1, h2, h3⟩ := ih
        have hor := h3 _ rfl
        refine ⟨?_, fun p' hp' hq' => ?_, fun c hc => ?_⟩
        · rcases h1 with h1 | ⟨h1, h1'⟩
          · exact .inl h1
          · exact .inr ⟨List.mem_cons_of_mem _ h1, h1'⟩
        · rcases List.mem_cons.1 hp' with rfl | hp'
          · have hb : ¬ bef p'.a0 p'.a1 p'.a2 o.a0 o.a1 o.a2 = true := fun hb => hq ⟨hq', hb⟩
            rw [Bool.eq_false_iff, Ne, bef_iff] at hor ⊢
            rw [bef_iff] at hb
            omega
          · exact h2 _ hp' hq'
        · exact h3 c hc
theorem fst_least {l : List Ev} {b : Bx} {xs ys zs : List Int} (h : Cuts b l xs ys zs) (n : Int) : match fst (fun p => decide (st l p.a0 p.a1 p.a2 = n)) (parts xs ys zs) none with
    | none => ∀ x y z, hasB b x y z = true → st l x y z ≠ n
    | some r => Least (fun x y z => hasB b x y z = true ∧ st l x y z = n) r.a0 r.a1 r.a2 := by
  have hs := fst_spec (fun p => decide (st l p.a0 p.a1 p.a2 = n)) (parts xs ys zs) none
  cases hf : fst (fun p => decide (st l p.a0 p.a1 p.a2 = n)) (parts xs ys zs) none with
  | none =>
    rw [hf] at hs
    intro x y z hb he
    obtain ⟨p, hp, hx⟩ := h.find hb
    have := hs.2 p hp
    rw [decide_eq_false_iff_not] at this
    exact this ((h.st hp hx).symm.trans he)
  | some r =>
    rw [hf] at hs
    obtain ⟨h1, h2, _⟩ := hs
    rcases h1 with h1 | ⟨h1, h1'⟩
    · cases h1
    · refine ⟨⟨(h.least h1).2, of_decide_eq_true h1'⟩, ?_⟩
      rintro x y z ⟨hb, he⟩
      obtain ⟨p, hp, hx⟩ := h.find hb
      have hq := h2 p hp (decide_eq_true ((h.st hp hx).symm.trans he))
      obtain ⟨q0, q1, q2, q3, q4, q5⟩ := (hasB_iff p x y z).1 hx
      rw [Bool.eq_false_iff, Ne, bef_iff] at hq ⊢
      omega
end Md
