import Derived.Test.YtcofgnbopodahaaKMd1
namespace Md
set_option linter.unusedVariables false
set_option linter.unusedSimpArgs false
structure Ev where
  b : Bx
  s : Int
def jn (a b : Int) : Int := if a = 0 ∨ a = b then b else if b = 0 then a else 3
def step (x y z : Int) (o : Int) (e : Ev) : Int := if hasB e.b x y z = true then jn o e.s else o
def st (l : List Ev) (x y z : Int) : Int := l.foldl (step x y z) 0
structure EvOk (e : Ev) : Prop where
  v : Val e.b
  s : e.s = 1 ∨ e.s = 2
theorem st_same {l : List Ev} {x y z x' y' z' : Int} (h : ∀ e ∈ l, hasB e.b x y z = hasB e.b x' y' z') : st l x y z = st l x' y' z' := by
  have key : ∀ (l : List Ev) (o : Int), (∀ e ∈ l, hasB e.b x y z = hasB e.b x' y' z') → l.foldl (step x y z) o = l.foldl (step x' y' z') o := by
    intro l
    induction l with
    | nil => intro o _; rfl
    | cons e l ih =>
      intro o h
      rw [List.foldl_cons, List.foldl_cons]
      have : step x y z o e = step x' y' z' o e := by unfold step; rw [h e List.mem_cons_self]
      rw [this]
      exact ih _ fun e he => h e (List.mem_cons_of_mem _ he)
  exact key l 0 h
structure Cuts (b : Bx) (l : List Ev) (xs ys zs : List Int) : Prop where
  x : Cut b.a0 b.b0 (l.map (·.b.a0) ++ l.map (·.b.b0)) xs
  y : Cut b.a1 b.b1 (l.map (·.b.a1) ++ l.map (·.b.b1)) ys
  z : Cut b.a2 b.b2 (l.map (·.b.a2) ++ l.map (·.b.b2)) zs
section
variable {b : Bx} {l : List Ev} {xs ys zs : List Int}
theorem Cuts.part (h : Cuts b l xs ys zs) {p : Bx} (hp : p ∈ parts xs ys zs) : Val p ∧ b.a0 ≤ p.a0 ∧ b.a1 ≤ p.a1 ∧ b.a2 ≤ p.a2 ∧ p.b0 ≤ b.b0 ∧ p.b1 ≤ b.b1 ∧ p.b2 ≤ b.b2 := by
  obtain ⟨h0, h1, h2⟩ := parts_mem.1 hp
  obtain ⟨a, c, d, _⟩ := h.x.part h0
  obtain ⟨a', c', d', _⟩ := h.y.part h1
  obtain ⟨a'', c'', d'', _⟩ := h.z.part h2
  exact ⟨⟨a, a', a''⟩, c, c', c'', d, d', d''⟩
theorem Cuts.same (h : Cuts b l xs ys zs) {p : Bx} (hp : p ∈ parts xs ys zs) {x y z : Int} (hx : hasB p x y z = true) {e : Ev} (he : e ∈ l) : hasB e.b x y z = hasB e.b p.a0 p.a1 p.a2 := by
  obtain ⟨h0, h1, h2⟩ := parts_mem.1 hp
  obtain ⟨g0, _, _, k0⟩ := h.x.part h0
  obtain ⟨g1, _, _, k1⟩ := h.y.part h1
  obtain ⟨g2, _, _, k2⟩ := h.z.part h2
  have a0 := k0 e.b.a0 (List.mem_append.2 (.inl (List.mem_map.2 ⟨e, he, rfl⟩)))
  have b0 := k0 e.b.b0 (List.mem_append.2 (.inr (List.mem_map.2 ⟨e, he, rfl⟩)))
  have a1 := k1 e.b.a1 (List.mem_append.2 (.inl (List.mem_map.2 ⟨e, he, rfl⟩)))
  have b1 := k1 e.b.b1 (List.mem_append.2 (.inr (List.mem_map.2 ⟨e, he, rfl⟩)))
  have a2 := k2 e.b.a2 (List.mem_append.2 (.inl (List.mem_map.2 ⟨e, he, rfl⟩)))
  have b2 := k2 e.b.b2 (List.mem_append.2 (.inr (List.mem_map.2 ⟨e, he, rfl⟩)))
  obtain ⟨q0, q1, q2, q3, q4, q5⟩ := (hasB_iff p x y z).1 hx
  rw [Bool.eq_iff_iff, hasB_iff, hasB_iff]
  omega
theorem Cuts.st (h : Cuts b l xs ys zs) {p : Bx} (hp : p ∈ parts xs ys zs) {x y z : Int} (hx : hasB p x y z = true) : st l x y z = st l p.a0 p.a1 p.a2 :=
  st_same fun e he => h.same hp hx he
theorem Cuts.find (h : Cuts b l xs ys zs) {x y z : Int} (hx : hasB b x y z = true) : ∃ p ∈ parts xs ys zs, hasB p x y z = true := by
  obtain ⟨q0, q1, q2, q3, q4, q5⟩ := (hasB_iff b x y z).1 hx
  obtain ⟨p0, m0, c0, d0⟩ := h.x.find q0 q1
  obtain ⟨p1, m1, c1, d1⟩ := h.y.find q2 q3
  obtain ⟨p2, m2, c2, d2⟩ := h.z.find q4 q5
  exact ⟨⟨p0.1, p1.1, p2.1, p0.2, p1.2, p2.2⟩, parts_mem.2 ⟨m0, m1, m2⟩, (hasB_iff _ _ _ _).2 ⟨c0, d0, c1, d1, c2, d2⟩⟩
end
def cnt (l : List Ev) (b : Bx) (n : Int) : Int := sb b fun x y z => if st l x y z = n then 1 else 0
def bef (a0 a1 a2 b0 b1 b2 : Int) : Bool := if a2 ≠ b2 then decide (a2 < b2) else if a1 ≠ b1 then decide (a1 < b1) else decide (a0 < b0)
structure Least (P : Int → Int → Int → Prop) (x y z : Int) : Prop where
  h : P x y z
  m : ∀ x' y' z', P x' y' z' → bef x' y' z' x y z = false
end Md
