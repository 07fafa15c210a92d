import Derived.Maps.OwnSet
import Derived.Maps.OwnOps
import Derived.Below
import Derived.OwnWalk
import Derived.Deep.Draws
namespace Go.Proofs.Ytkeomlmlimkebaa.MapKit
open Go Go.Maps Go.RowKit
set_option linter.unusedVariables false
abbrev ki (x : Int) : Lit := .int .i64 x
def wfi (x : Int) : Prop := (Lit.int .i64 x).wf = true
def SetI (P : Program) (k e : TypeId) (w : World) (b n : Nat) (S : List Int) : Prop :=
  ∃ D : DataW Unit, w.ownsMap P k (plainElem P e) b n D ∧ IsMap D ∧ ∀ x, D.atKey (ki x) (.lit (.bool false)) = .lit (.bool (decide (x ∈ S)))
def mget (M : List (Int × Int)) (x : Int) : Option Int := (M.reverse.find? fun e => e.1 == x).map (·.2)
theorem mget_snoc (M : List (Int × Int)) (x y v : Int) : mget (M ++ [(x, v)]) y = if x = y then some v else mget M y := by
  unfold mget
  simp only [List.reverse_append, List.reverse_cons, List.reverse_nil, List.nil_append, List.singleton_append, List.find?_cons]
  by_cases h : x = y
  · simp [h]
  · simp [beq_eq_false_iff_ne.2 h, h]
def MapI (P : Program) (k e : TypeId) (w : World) (b n : Nat) (M : List (Int × Int)) : Prop :=
  ∃ D : DataW Unit, w.ownsMap P k (plainElem P e) b n D ∧ IsMap D ∧ ∀ x, Maps.has D (ki x) = (mget M x).isSome ∧ ∀ z, D.atKey (ki x) z = match mget M x with | some v => .lit (.int .i64 v) | none => z
section
variable {P : Program} {k e : TypeId} {w w' : World} {b n : Nat} {S : List Int} {M : List (Int × Int)}
theorem SetI.made (w : World) (P : Program) (k e : TypeId) : SetI P k e (w.alloc (.map #[] 0)) w.heap.size 0 [] :=
  ⟨.map [], World.ownsMap_made w P k _, isMap_empty, fun x => by simp [DataW.atKey]⟩
theorem MapI.made (w : World) (P : Program) (k e : TypeId) : MapI P k e (w.alloc (.map #[] 0)) w.heap.size 0 [] :=
  ⟨.map [], World.ownsMap_made w P k _, isMap_empty, fun x => by simp [DataW.atKey, mget, Maps.has]⟩
theorem SetI.lt (h : SetI P k e w b n S) : b < w.heap.size := by obtain ⟨D, h1, _⟩ := h; exact h1.lt
theorem MapI.lt (h : MapI P k e w b n M) : b < w.heap.size := by obtain ⟨D, h1, _⟩ := h; exact h1.lt
theorem SetI.mono (h : SetI P k e w b n S) {m : Nat} (hm : n ≤ m) : SetI P k e w b m S := by obtain ⟨D, h1, h2⟩ := h; exact ⟨D, h1.mono hm, h2⟩
theorem MapI.mono (h : MapI P k e w b n M) {m : Nat} (hm : n ≤ m) : MapI P k e w b m M := by obtain ⟨D, h1, h2⟩ := h; exact ⟨D, h1.mono hm, h2⟩
theorem owns_of_block {H : Type} {R : Value → Option (DataW H × List MemPlace)} {D : DataW H} (h : w.ownsMap P k R b n D) (hb : w'.heap[b]? = w.heap[b]?) : w'.ownsMap P k R b n D := by
  obtain ⟨es, clock, h1, h2⟩ := h
  exact ⟨es, clock, hb.trans h1, h2⟩
theorem SetI.block (h : SetI P k e w b n S) (hb : w'.heap[b]? = w.heap[b]?) : SetI P k e w' b n S := by obtain ⟨D, h1, h2⟩ := h; exact ⟨D, owns_of_block h1 hb, h2⟩
theorem MapI.block (h : MapI P k e w b n M) (hb : w'.heap[b]? = w.heap[b]?) : MapI P k e w' b n M := by obtain ⟨D, h1, h2⟩ := h; exact ⟨D, owns_of_block h1 hb, h2⟩
theorem SetI.alloc (h : SetI P k e w b n S) (o : Obj) : SetI P k e (w.alloc o) b n S := h.block (Below.heap_alloc w o b h.lt)
theorem MapI.alloc (h : MapI P k e w b n M) (o : Obj) : MapI P k e (w.alloc o) b n M := h.block (Below.heap_alloc w o b h.lt)
theorem SetI.setCell (h : SetI P k e w b n S) {a : Addr} (ha : b ≠ a.block) (u : Value) : SetI P k e (w.setCell a u) b n S := h.block (Below.heap_setCell w a u b ha)
theorem MapI.setCell (h : MapI P k e w b n M) {a : Addr} (ha : b ≠ a.block) (u : Value) : MapI P k e (w.setCell a u) b n M := h.block (Below.heap_setCell w a u b ha)
theorem SetI.drewN (h : SetI P k e w b n S) (q : Nat) : SetI P k e (w.drewN q) b n S := h.block rfl
theorem MapI.drewN (h : MapI P k e w b n M) (q : Nat) : MapI P k e (w.drewN q) b n M := h.block rfl
theorem SetI.below {B : Nat} (h : SetI P k e w b n S) (hb : Below B w w') (hB : b < B) : SetI P k e w' b n S := h.block (hb.block b hB)
theorem MapI.below {B : Nat} (h : MapI P k e w b n M) (hb : Below B w w') (hB : b < B) : MapI P k e w' b n M := h.block (hb.block b hB)
theorem SetI.grown {row : Option Nat} (h : SetI P k e w b n S) (hg : w.grownBy w' row) (hne : some b ≠ row) : SetI P k e w' b n S := h.block (hg.block b h.lt hne)
theorem MapI.grown {row : Option Nat} (h : MapI P k e w b n M) (hg : w.grownBy w' row) (hne : some b ≠ row) : MapI P k e w' b n M := h.block (hg.block b h.lt hne)
end
theorem SetI.run_get {P : Program} {t k e : TypeId} {w : World} {b n : Nat} {S : List Int} (h : SetI P k e w b n S) (hk : P.underlying k = some (.int .i64)) (ht : P.underlying t = some (.map k e)) (he : P.underlying e = some .bool)
    (hz : (zeroValue e).run P w = .ok (.bool false) w) {v : Int} (hw : wfi v) : (Instr.lookup t (.map (some b)) (.int .i64 v) false).run P w = .ok (.bool (decide (v ∈ S))) w := by
  obtain ⟨D, h1, _, h3⟩ := h
  obtain ⟨y, ps, hrun, hy⟩ := h1.lookup (int_keyed hk) ht hz (plainElem_bool he false) (keyOf_int_mk hk hw)
  rw [h3 v] at hy
  have e1 : y = .bool (decide (v ∈ S)) := by
    unfold plainElem at hy
    rw [he] at hy
    cases y <;> simp at hy
    rw [hy.1]
  rw [← e1]
  exact hrun
section
variable {P : Program} (w : World) {ops : Array Oper} {rest : List Oper} {o : Oper} {a : Act} {Q : Exit → Act → World → Prop}
theorem wpList_set_put (hg : o.guard = none) (m x v : Operand) (t : TypeId) (hop : o.op = Op.mapUpdate t m x v) (k e : TypeId) (hk : P.underlying k = some (.int .i64)) (ht : P.underlying t = some (.map k e)) (he : P.underlying e = some .bool)
    (b n : Nat) (S : List Int) (hm : a.eval m = .map (some b)) (hown : SetI P k e w b n S) (hn : n < maxLen) (u : Int) (hx : a.eval x = .int .i64 u) (hv : a.eval v = .bool true) (hw : wfi u)
    (hK : ∀ w', SetI P k e w' b (n + 1) (S ++ [u]) → w.mapTurned w' b → wpList P ops Q rest (a.put o.dst undef) w') : wpList P ops Q (o :: rest) a w := by
  refine wpList_plain hg fun K' hK' => ?_
  obtain ⟨D, h1, h2, h3⟩ := hown
  obtain ⟨w', hrun, r1, r2⟩ := h1.store (int_keyed hk) ht hn (keyOf_int_mk hk hw) (plainElem_bool he true)
  unfold Oper.wp
  simp [execOp, hop, hm, hx, hv, hrun, Result.andThen]
  refine hK' _ _ (hK w' ⟨_, r1, h2.put _ _, fun y => ?_⟩ r2)
  by_cases hy : y = u
  · subst hy
    rw [atKey_put_same h2 (show WideAt.IsKeyLit (ki y) from trivial)]
    simp
  · rw [atKey_put_other (by simp [hy]), h3 y]
    simp [hy]
theorem wpList_map_ok (hg : o.guard = none) (m x : Operand) (t : TypeId) (hop : o.op = Op.lookup t m x true) (k e : TypeId) (hk : P.underlying k = some (.int .i64)) (ht : P.underlying t = some (.map k e)) (he : P.underlying e = some (.int .i64))
    (hz : (zeroValue e).run P w = .ok (.int .i64 0) w) (b n : Nat) (M : List (Int × Int)) (hm : a.eval m = .map (some b)) (hown : MapI P k e w b n M) (v : Int) (hx : a.eval x = .int .i64 v) (hw : wfi v) (c0 : Int) (hc0 : (mget M v).getD 0 = c0) (ok : Bool) (hok : (mget M v).isSome = ok)
    (hK : wpList P ops Q rest (a.put o.dst (.tuple #[.int .i64 c0, .bool ok])) w) : wpList P ops Q (o :: rest) a w := by
  obtain ⟨D, h1, _, h3⟩ := hown
  refine wpList_lookup_own_ok_int w hg m x t hop k e .i64 (int_keyed hk) ht he hz b n D hm h1 _ _ hx (keyOf_int_mk hk hw) fun c hc _ => ?_
  subst hc0 hok
  rw [(h3 v).1]
  have e1 : c = (mget M v).getD 0 := by
    rw [(h3 v).2] at hc
    cases hq : mget M v with
    | none => rw [hq] at hc; simp at hc; simp [hc]
    | some y => rw [hq] at hc; simp at hc; simp [hc]
  rw [e1]
  exact hK
theorem wpList_map_get (hg : o.guard = none) (m x : Operand) (t : TypeId) (hop : o.op = Op.lookup t m x false) (k e : TypeId) (hk : P.underlying k = some (.int .i64)) (ht : P.underlying t = some (.map k e)) (he : P.underlying e = some (.int .i64))
    (hz : (zeroValue e).run P w = .ok (.int .i64 0) w) (b n : Nat) (M : List (Int × Int)) (hm : a.eval m = .map (some b)) (hown : MapI P k e w b n M) (v : Int) (hx : a.eval x = .int .i64 v) (hw : wfi v) (c0 : Int) (hc0 : (mget M v).getD 0 = c0)
    (hK : wpList P ops Q rest (a.put o.dst (.int .i64 c0)) w) : wpList P ops Q (o :: rest) a w := by
  subst hc0
  obtain ⟨D, h1, _, h3⟩ := hown
  refine wpList_lookup_own_int w hg m x t hop k e .i64 (int_keyed hk) ht he hz b n D hm h1 _ _ hx (keyOf_int_mk hk hw) fun c hc _ => ?_
  have e1 : c = (mget M v).getD 0 := by
    rw [(h3 v).2] at hc
    cases hq : mget M v with
    | none => rw [hq] at hc; simp at hc; simp [hc]
    | some y => rw [hq] at hc; simp at hc; simp [hc]
  rw [e1] at *
  exact hK
theorem wpList_map_put (hg : o.guard = none) (m x v : Operand) (t : TypeId) (hop : o.op = Op.mapUpdate t m x v) (k e : TypeId) (hk : P.underlying k = some (.int .i64)) (ht : P.underlying t = some (.map k e)) (he : P.underlying e = some (.int .i64))
    (b n : Nat) (M : List (Int × Int)) (hm : a.eval m = .map (some b)) (hown : MapI P k e w b n M) (hn : n < maxLen) (u y : Int) (hx : a.eval x = .int .i64 u) (hv : a.eval v = .int .i64 y) (hw : wfi u) (hw2 : wfi y)
    (hK : ∀ w', MapI P k e w' b (n + 1) (M ++ [(u, y)]) → w.mapTurned w' b → wpList P ops Q rest (a.put o.dst undef) w') : wpList P ops Q (o :: rest) a w := by
  refine wpList_plain hg fun K' hK' => ?_
  obtain ⟨D, h1, h2, h3⟩ := hown
  obtain ⟨w', hrun, r1, r2⟩ := h1.store (int_keyed hk) ht hn (keyOf_int_mk hk hw) (plainElem_int he hw2)
  unfold Oper.wp
  simp [execOp, hop, hm, hx, hv, hrun, Result.andThen]
  refine hK' _ _ (hK w' ⟨_, r1, h2.put _ _, fun z => ?_⟩ r2)
  rw [mget_snoc]
  by_cases hz : u = z
  · subst hz
    rw [if_pos rfl]
    exact ⟨by rw [has_put_same h2 (show WideAt.IsKeyLit (ki u) from trivial)]; rfl, fun zz => by rw [atKey_put_same h2 (show WideAt.IsKeyLit (ki u) from trivial)]⟩
  · rw [if_neg hz]
    exact ⟨by rw [has_put_other (by simp; omega), (h3 z).1], fun zz => by rw [atKey_put_other (by simp; omega), (h3 z).2]⟩
end
end Go.Proofs.Ytkeomlmlimkebaa.MapKit
