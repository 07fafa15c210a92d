import Derived.Maps.OwnSet
import Derived.Maps.OwnOps
import Derived.Below
import Derived.OwnWalk
import Derived.Deep.Draws
namespace Go.Proofs.Ytcofgnbopodahaa.MapKit
open Go Go.Maps Go.RowKit
set_option linter.unusedVariables false
abbrev ki (x : Int) : Lit := .int .i64 x
def wfi (x : Int) : Prop := (Lit.int .i64 x).wf = true
def SetI (P : Program) (k e : TypeId) (w : World) (b n : Nat) (S : List Int) : Prop :=
  ∃ D : DataW Unit, w.ownsMap P k (plainElem P e) b n D ∧ IsMap D ∧ ∀ x, D.atKey (ki x) (.lit (.bool false)) = .lit (.bool (decide (x ∈ S)))
def mget (M : List (Int × Int)) (x : Int) : Option Int := (M.reverse.find? fun e => e.1 == x).map (·.2)
def MapI (P : Program) (k e : TypeId) (w : World) (b n : Nat) (M : List (Int × Int)) : Prop :=
  ∃ D : DataW Unit, w.ownsMap P k (plainElem P e) b n D ∧ IsMap D ∧ ∀ x, Maps.has D (ki x) = (mget M x).isSome ∧ ∀ z, D.atKey (ki x) z = match mget M x with | some v => .lit (.int .i64 v) | none => z
section
variable {P : Program} {k e : TypeId} {w w' : World} {b n : Nat} {S : List Int} {M : List (Int × Int)}
theorem SetI.made (w : World) (P : Program) (k e : TypeId) : SetI P k e (w.alloc (.map #[] 0)) w.heap.size 0 [] :=
  ⟨.map [], World.ownsMap_made w P k _, isMap_empty, fun x => by simp [DataW.atKey]⟩
theorem MapI.made (w : World) (P : Program) (k e : TypeId) : MapI P k e (w.alloc (.map #[] 0)) w.heap.size 0 [] :=
  ⟨.map [], World.ownsMap_made w P k _, isMap_empty, fun x => by simp [DataW.atKey, mget, Maps.has]⟩
theorem SetI.lt (h : SetI P k e w b n S) : b < w.heap.size := by obtain ⟨D, h1, _⟩ := h; exact h1.lt
theorem MapI.lt (h : MapI P k e w b n M) : b < w.heap.size := by obtain ⟨D, h1, _⟩ := h; exact h1.lt
theorem SetI.mono (h : SetI P k e w b n S) {m : Nat} (hm : n ≤ m) : SetI P k e w b m S := by obtain ⟨D, h1, h2⟩ := h; exact ⟨D, h1.mono hm, h2⟩
theorem MapI.mono (h : MapI P k e w b n M) {m : Nat} (hm : n ≤ m) : MapI P k e w b m M := by obtain ⟨D, h1, h2⟩ := h; exact ⟨D, h1.mono hm, h2⟩
theorem owns_of_block {H : Type} {R : Value → Option (DataW H × List MemPlace)} {D : DataW H} (h : w.ownsMap P k R b n D) (hb : w'.heap[b]? = w.heap[b]?) : w'.ownsMap P k R b n D := by
  obtain ⟨es, clock, h1, h2⟩ := h
  exact ⟨es, clock, hb.trans h1, h2⟩
theorem SetI.block (h : SetI P k e w b n S) (hb : w'.heap[b]? = w.heap[b]?) : SetI P k e w' b n S := by obtain ⟨D, h1, h2⟩ := h; exact ⟨D, owns_of_block h1 hb, h2⟩
theorem MapI.block (h : MapI P k e w b n M) (hb : w'.heap[b]? = w.heap[b]?) : MapI P k e w' b n M := by obtain ⟨D, h1, h2⟩ := h; exact ⟨D, owns_of_block h1 hb, h2⟩
theorem SetI.alloc (h : SetI P k e w b n S) (o : Obj) : SetI P k e (w.alloc o) b n S := h.block (Below.heap_alloc w o b h.lt)
theorem MapI.alloc (h : MapI P k e w b n M) (o : Obj) : MapI P k e (w.alloc o) b n M := h.block (Below.heap_alloc w o b h.lt)
theorem SetI.setCell (h : SetI P k e w b n S) {a : Addr} (ha : b ≠ a.block) (u : Value) : SetI P k e (w.setCell a u) b n S := h.block (Below.heap_setCell w a u b ha)
theorem MapI.setCell (h : MapI P k e w b n M) {a : Addr} (ha : b ≠ a.block) (u : Value) : MapI P k e (w.setCell a u) b n M := h.block (Below.heap_setCell w a u b ha)
theorem SetI.drewN (h : SetI P k e w b n S) (q : Nat) : SetI P k e (w.drewN q) b n S := h.block rfl
theorem MapI.drewN (h : MapI P k e w b n M) (q : Nat) : MapI P k e (w.drewN q) b n M := h.block rfl
theorem SetI.below {B : Nat} (h : SetI P k e w b n S) (hb : Below B w w') (hB : b < B) : SetI P k e w' b n S := h.block (hb.block b hB)
theorem MapI.below {B : Nat} (h : MapI P k e w b n M) (hb : Below B w w') (hB : b < B) : MapI P k e w' b n M := h.block (hb.block b hB)
theorem SetI.grown {row : Option Nat} (h : SetI P k e w b n S) (hg : w.grownBy w' row) (hne : some b ≠ row) : SetI P k e w' b n S := h.block (hg.block b h.lt hne)
theorem MapI.grown {row : Option Nat} (h : MapI P k e w b n M) (hg : w.grownBy w' row) (hne : some b ≠ row) : MapI P k e w' b n M := h.block (hg.block b h.lt hne)
end
theorem SetI.run_get {P : Program} {t k e : TypeId} {w : World} {b n : Nat} {S : List Int} (h : SetI P k e w b n S) (hk : P.underlying k = some (.int .i64)) (ht : P.underlying t = some (.map k e)) (he : P.underlying e = some .bool)
    (hz : (zeroValue e).run P w = .ok (.bool false) w) {v : Int} (hw : wfi v) : (Instr.lookup t (.map (some b)) (.int .i64 v) false).run P w = .ok (.bool (decide (v ∈ S))) w := by
  obtain ⟨D, h1, _, h3⟩ := h
  obtain ⟨y, ps, hrun, hy⟩ := h1.lookup (int_keyed hk) ht hz (plainElem_bool he false) (keyOf_int_mk hk hw)
  rw [h3 v] at hy
  have e1 : y = .bool (decide (v ∈ S)) := by
    unfold plainElem at hy
    rw [he] at hy
    cases y <;> simp at hy
    rw [hy.1]
  rw [← e1]
  exact hrun
section
variable {P : Program} (w : World) {ops : Array Oper} {rest : List Oper} {o : Oper} {a : Act} {Q : Exit → Act → World → Prop}
end
end Go.Proofs.Ytcofgnbopodahaa.MapKit
