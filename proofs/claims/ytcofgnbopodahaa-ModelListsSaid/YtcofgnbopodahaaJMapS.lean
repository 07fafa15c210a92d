import Derived.Test.YtcofgnbopodahaaJMapKit
import Derived.StringKeys
namespace Go.Proofs.Ytcofgnbopodahaa.MapKit
open Go Go.Maps Go.RowKit
set_option linter.unusedVariables false
def SetB (P : Program) (k e : TypeId) (w : World) (b n : Nat) (S : List (List UInt8)) : Prop :=
  ∃ D : DataW Unit, w.ownsMap P k (plainElem P e) b n D ∧ IsMap D ∧ ∀ x : List UInt8, D.atKey (.string x) (.lit (.bool false)) = .lit (.bool (decide (x ∈ S)))
section
variable {P : Program} {k e : TypeId} {w w' : World} {b n : Nat} {S : List (List UInt8)}
theorem SetB.made (w : World) (P : Program) (k e : TypeId) : SetB P k e (w.alloc (.map #[] 0)) w.heap.size 0 [] :=
  ⟨.map [], World.ownsMap_made w P k _, isMap_empty, fun x => by simp [DataW.atKey]⟩
theorem SetB.lt (h : SetB P k e w b n S) : b < w.heap.size := by obtain ⟨D, h1, _⟩ := h; exact h1.lt
theorem SetB.block (h : SetB P k e w b n S) (hb : w'.heap[b]? = w.heap[b]?) : SetB P k e w' b n S := by obtain ⟨D, h1, h2⟩ := h; exact ⟨D, owns_of_block h1 hb, h2⟩
theorem SetB.mono (h : SetB P k e w b n S) {m : Nat} (hm : n ≤ m) : SetB P k e w b m S := by obtain ⟨D, h1, h2⟩ := h; exact ⟨D, h1.mono hm, h2⟩
theorem SetB.below {B : Nat} (h : SetB P k e w b n S) (hb : Below B w w') (hB : b < B) : SetB P k e w' b n S := h.block (hb.block b hB)
theorem SetB.grown {row : Option Nat} (h : SetB P k e w b n S) (hg : w.grownBy w' row) (hne : some b ≠ row) : SetB P k e w' b n S := h.block (hg.block b h.lt hne)
end
theorem SetB.run_get {P : Program} {t k e : TypeId} {w : World} {b n : Nat} {S : List (List UInt8)} (h : SetB P k e w b n S) (hk : P.underlying k = some .string) (ht : P.underlying t = some (.map k e)) (he : P.underlying e = some .bool)
    (hz : (zeroValue e).run P w = .ok (.bool false) w) {v : ByteArray} (hw : v.size ≤ maxLen) : (Instr.lookup t (.map (some b)) (.string v) false).run P w = .ok (.bool (decide (v.data.toList ∈ S))) w := by
  obtain ⟨D, h1, _, h3⟩ := h
  obtain ⟨y, ps, hrun, hy⟩ := h1.lookup (string_keyed hk) ht hz (plainElem_bool he false) (WideMaps.keyOf_string_mk hk hw)
  rw [h3 v.data.toList] at hy
  have e1 : y = .bool (decide (v.data.toList ∈ S)) := by
    unfold plainElem at hy
    rw [he] at hy
    cases y <;> simp at hy
    rw [hy.1]
  rw [← e1]
  exact hrun
section
variable {P : Program} (w : World) {ops : Array Oper} {rest : List Oper} {o : Oper} {a : Act} {Q : Exit → Act → World → Prop}
theorem wpList_setB_put (hg : o.guard = none) (m x v : Operand) (t : TypeId) (hop : o.op = Op.mapUpdate t m x v) (k e : TypeId) (hk : P.underlying k = some .string) (ht : P.underlying t = some (.map k e)) (he : P.underlying e = some .bool)
    (b n : Nat) (S : List (List UInt8)) (hm : a.eval m = .map (some b)) (hown : SetB P k e w b n S) (hn : n < maxLen) (u : ByteArray) (hx : a.eval x = .string u) (hv : a.eval v = .bool true) (hw : u.size ≤ maxLen)
    (hK : ∀ w', SetB P k e w' b (n + 1) (S ++ [u.data.toList]) → w.mapTurned w' b → wpList P ops Q rest (a.put o.dst undef) w') : wpList P ops Q (o :: rest) a w := by
  refine wpList_plain hg fun K' hK' => ?_
  obtain ⟨D, h1, h2, h3⟩ := hown
  obtain ⟨w', hrun, r1, r2⟩ := h1.store (string_keyed hk) ht hn (WideMaps.keyOf_string_mk hk hw) (plainElem_bool he true)
  unfold Oper.wp
  simp [execOp, hop, hm, hx, hv, hrun, Result.andThen]
  refine hK' _ _ (hK w' ⟨_, r1, h2.put _ _, fun y => ?_⟩ r2)
  by_cases hy : y = u.data.toList
  · subst hy
    rw [atKey_put_same h2 (show WideAt.IsKeyLit (Lit.string u.data.toList) from trivial)]
    simp
  · rw [atKey_put_other (show Lit.string y ≠ Lit.string u.data.toList from fun e => hy (by injection e)), h3 y]
    simp [hy]
end
end Go.Proofs.Ytcofgnbopodahaa.MapKit
