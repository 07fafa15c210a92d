import Derived.Test.YtcofgnbopodahaaProg
import Derived.Test.YtcofgnbopodahaaJWWords
import Derived.Test.YtcofgnbopodahaaJWLast
import Derived.Test.YtcofgnbopodahaaJWTab
import Derived.Test.YtcofgnbopodahaaJWApart
import Derived.Test.YtcofgnbopodahaaJWArr
import Derived.Test.YtcofgnbopodahaaJWFoot
import Derived.Test.YtcofgnbopodahaaJWKept
import Derived.Test.YtcofgnbopodahaaJWShare
import Derived.Test.YtcofgnbopodahaaJWN
import Derived.Test.YtcofgnbopodahaaJWEqStruct
import Derived.Test.YtcofgnbopodahaaJWRepsOne
import Derived.Test.YtcofgnbopodahaaJWInv
import Derived.Test.YtcofgnbopodahaaJWGuard
import Derived.Test.YtcofgnbopodahaaJWMore
import Derived.Below
import Derived.Deep.Draws
import Derived.Deep.AppendLies
import Derived.Maps.AppendAt
import Derived.OwnWalk
import Derived.Laws.BytesArg
import Derived.Laws.MakeOwn
import Derived.Laws.OwnMore
import Derived.Deep.OwnRows
import Derived.Tactics
import Derived.Lib.ConvBytes
import Derived.Laws.Slices
import Derived.WalkKit
import Derived.KernelRfl
import Derived.RowKit3
import Derived.Deep.LoopGhost
import Derived.Deep.QuietTactic
import Derived.BigQuiet
import Derived.WideLaws
import Derived.Deep.DeepCutAuto
import Derived.Deep.CutBlock
import Derived.Deep.RegionHeld3
import Derived.Laws.Rows
import Derived.Lib.AppendStr
import Derived.ArgAppend
import Derived.Laws.IdiomCopy
import Derived.OrdersHeld
import Derived.Laws.BitsLemmas
import Derived.RowKit
namespace Go.Proofs.Ytcofgnbopodahaa.QA
abbrev T : Bool := true
abbrev F : Bool := false
theorem pml {α β : Type} (f : α → β) : (∀ l : List α, l.toArray.map f = (l.map f).toArray) ∧ List.map f [] = [] ∧ ∀ (a : α) (l : List α), List.map f (a :: l) = f a :: List.map f l := ⟨fun _ => List.map_toArray .., rfl, fun _ _ => rfl⟩
theorem pdt {α : Type} : (∀ (i : Nat) (l : List α), (l.drop i).length = l.length - i) ∧ ∀ (i : Nat) (l : List α), (l.take i).length = min i l.length := ⟨fun _ _ => List.length_drop, fun _ _ => List.length_take⟩
theorem psl {α : Type} : (∀ (l : List α) (i : Nat) (a : α), l.toArray.setIfInBounds i a = (l.set i a).toArray) ∧ (∀ (x : α) (l : List α) (a : α), (x :: l).set 0 a = a :: l) ∧ (∀ (x : α) (l : List α) (i : Nat) (a : α), (x :: l).set (i + 1) a = x :: l.set i a) := ⟨fun l i a => List.setIfInBounds_toArray l i a, fun _ _ _ => rfl, fun _ _ _ _ => rfl⟩
open Go.RowKit Go.Proofs.YtcofgnbopodahaaW.PrintWords Go.Proofs.YtcofgnbopodahaaW.PrintLast Go.Proofs.YtcofgnbopodahaaW.PrintMore
open Go.Proofs.YtcofgnbopodahaaW.PrintWords renaming blk_frozen → bf, blk_cell → bc
attribute [local go_sem] max2_int min2_int max_two min_two max_three min_three max_four min_four
set_option linter.unusedVariables false
set_option linter.unusedSimpArgs false
section
variable {α : Type} {d : Kd α} {e base B g i : Nat} {v : Value} {xs : List α} {ok : Nat → Prop} {w W W0 W' : World} {o : Obj} {A : Option Addr} {n : Nat} {a : Addr} {u : Value}
theorem fV {P Q : Prop} (h : Q) (f : Q → P := by intro h; (with_reducible repeat (first | apply Kd.V_alloc | apply Kd.V_drewN | apply Kd.V_drew)); exact h) : P := f h
theorem fR {P Q : Prop} (h : Q) (f : Q → P := by intro h; (with_reducible repeat (first | apply Kd.R_alloc | apply Kd.R_drewN | apply Kd.R_drew)); exact h) : P := f h
theorem fb {P Q : Prop} (h : Q) (f : Q → P := by intro h; (with_reducible repeat first | apply blk_drewN | apply blk_drew | apply blk_alloc); exact h) : P := f h
theorem fW {P Q : Prop} (h : Q) (f : Q → P := by intro h; repeat (first | (with_reducible first | exact h | apply below_alloc | apply pw_below_drewN | apply below_drew1 | refine below_set ?_ (Aside0.out (by assumption))) | exact h)) : P := f h
theorem eV (H : Aside0 (Kd.V d e W0 base ok v xs)) (hg : g = W.heap.size) (hb : Below W.heap.size W W') (f : Kd.V d e W0 base ok v xs → Kd.V d e W base ok v xs := by intro h; (with_reducible repeat (first | apply Kd.V_alloc | apply Kd.V_drewN | apply Kd.V_drew)); exact h) : Aside0 (Kd.V d e W' base (fun k => ok k ∧ k ≠ g) v xs) := ⟨Kd.V_below (Kd.V_elderB (f H.out) g (Nat.le_of_eq hg.symm)) hb⟩
theorem dV (H : Aside0 (Kd.V d e W0 base ok v xs)) (hb : Below W.heap.size W W') (f : Kd.V d e W0 base ok v xs → Kd.V d e W base ok v xs := by intro h; (with_reducible repeat (first | apply Kd.V_alloc | apply Kd.V_drewN | apply Kd.V_drew)); exact h) : Aside0 (Kd.V d e W' base ok v xs) := ⟨Kd.V_below (f H.out) hb⟩
theorem dR (H : Aside0 (Kd.R d e W0 base ok v xs)) (hb : Below W.heap.size W W') (f : Kd.R d e W0 base ok v xs → Kd.R d e W base ok v xs := by intro h; (with_reducible repeat (first | apply Kd.R_alloc | apply Kd.R_drewN | apply Kd.R_drew)); exact h) : Aside0 (Kd.R d e W' base ok v xs) := ⟨Kd.R_below (f H.out) hb⟩
theorem bB (H : Aside0 (W0.heap[g]? = some o)) (hb : Below W.heap.size W W') (f : W0.heap[g]? = some o → W.heap[g]? = some o := by intro h; (with_reducible repeat first | apply blk_drewN | apply blk_drew | apply blk_alloc); exact h) : Aside0 (W'.heap[g]? = some o) := ⟨blk_below (f H.out) hb⟩
theorem bS (H : Aside0 (Below w.heap.size w W0)) (hb : Below W.heap.size W W') (f : Below w.heap.size w W0 → Below w.heap.size w W := by intro h; repeat (first | (with_reducible first | exact h | apply below_alloc | apply pw_below_drewN | apply below_drew1 | refine below_set ?_ (Aside0.out (by assumption))) | exact h)) : Aside0 (Below w.heap.size w W') := ⟨below_step (f H.out) hb⟩
theorem sG (H : Aside0 (Below w.heap.size w W0)) (hg : g = W.heap.size) (f : Below w.heap.size w W0 → Below w.heap.size w W := by intro h; repeat (first | (with_reducible first | exact h | apply below_alloc | apply pw_below_drewN | apply below_drew1 | refine below_set ?_ (Aside0.out (by assumption))) | exact h)) : Aside0 (w.heap.size ≤ g) := ⟨by rw [hg]; exact below_size (f H.out)⟩
theorem nL (H : Aside0 (W0.heap[i]? = some o)) (hg : g = W.heap.size) (f : W0.heap[i]? = some o → W.heap[i]? = some o := by intro h; (with_reducible repeat first | apply blk_drewN | apply blk_drew | apply blk_alloc); exact h) : Aside0 (i ≠ g) := ⟨by rw [hg]; exact Nat.ne_of_lt (blk_lt (f H.out))⟩
theorem nG (H : Aside0 (W0.heap[i]? = some o)) (hg : g = W.heap.size) (f : W0.heap[i]? = some o → W.heap[i]? = some o := by intro h; (with_reducible repeat first | apply blk_drewN | apply blk_drew | apply blk_alloc); exact h) : Aside0 (g ≠ i) := ⟨by rw [hg]; exact Nat.ne_of_gt (blk_lt (f H.out))⟩
theorem cl (H : Aside0 (Below w.heap.size w W)) (h : w.cell? a = some v) : W.cell? a = some v := (H.out.cell (World.block_lt_of_cell? w _ h)).trans h
variable {t : TypeId} {l : List Value} {a0 a1 a2 a3 a4 a5 a6 a7 : Value}
theorem kC0 (H : Aside0 (W.heap[g]? = some (.cells (a0 :: l).toArray t (0, 0)))) : W.cell? ⟨g, 0, none⟩ = some a0 := (bc H.out 0).trans rfl
theorem kC1 (H : Aside0 (W.heap[g]? = some (.cells (a0 :: a1 :: l).toArray t (0, 0)))) : W.cell? ⟨g, 1, none⟩ = some a1 := (bc H.out 1).trans rfl
theorem kC2 (H : Aside0 (W.heap[g]? = some (.cells (a0 :: a1 :: a2 :: l).toArray t (0, 0)))) : W.cell? ⟨g, 2, none⟩ = some a2 := (bc H.out 2).trans rfl
theorem kC3 (H : Aside0 (W.heap[g]? = some (.cells (a0 :: a1 :: a2 :: a3 :: l).toArray t (0, 0)))) : W.cell? ⟨g, 3, none⟩ = some a3 := (bc H.out 3).trans rfl
theorem kC4 (H : Aside0 (W.heap[g]? = some (.cells (a0 :: a1 :: a2 :: a3 :: a4 :: l).toArray t (0, 0)))) : W.cell? ⟨g, 4, none⟩ = some a4 := (bc H.out 4).trans rfl
theorem kC5 (H : Aside0 (W.heap[g]? = some (.cells (a0 :: a1 :: a2 :: a3 :: a4 :: a5 :: l).toArray t (0, 0)))) : W.cell? ⟨g, 5, none⟩ = some a5 := (bc H.out 5).trans rfl
end

def errW : Option Int → Value
 | none => .nilIface
 | some c => .iface 0 (.int .i64 c)
theorem errW_none : errW none = .nilIface := rfl
theorem errW_some (c : Int) : errW (some c) = .iface 0 (.int .i64 c) := rfl

theorem info3 : (Try.prog.info? 3).map (fun i => (i.zero, i.size, i.bytes)) = some (some (.int .i64 0), 1, 8) := by kernel_rfl
theorem info9 : (Try.prog.info? 9).map (fun i => (i.zero, i.size, i.bytes)) = some (some (.string ⟨#[]⟩), 1, 16) := by kernel_rfl
theorem info43 : (Try.prog.info? 43).map (fun i => (i.zero, i.size, i.bytes)) = some (some (.agg #[(.int .i64 0), (.int .i64 0), (.int .i64 0), (.int .i64 0), (.int .i64 0), (.int .i64 0)]), 6, 48) := by kernel_rfl
theorem info65 : (Try.prog.info? 65).map (fun i => (i.zero, i.size, i.bytes)) = some (some (.agg #[(.int .i64 0), (.int .i64 0)]), 2, 16) := by kernel_rfl
theorem info68 : (Try.prog.info? 68).map (fun i => (i.zero, i.size, i.bytes)) = some (some (.agg #[(.string ⟨#[]⟩), (.int .i64 0), (.int .i64 0), (.int .i64 0), (.int .i64 0), (.int .i64 0), (.int .i64 0), (.int .i64 0)]), 8, 72) := by kernel_rfl
structure S24 where
 f0 : Int
 f1 : Int
 f2 : Int
def z24 : S24 := ⟨(0 : Int), (0 : Int), (0 : Int)⟩
def k24 : Kd S24 := Kd.iso (Kd.pair (Kd.int .i64) (Kd.pair (Kd.int .i64) (Kd.int .i64))) (fun x : S24 => (x.f0, x.f1, x.f2))
theorem k24_open {w : World} {x : S24} {cs : List Value} (h : k24.K w x cs) : cs = [.int .i64 x.f0, .int .i64 x.f1, .int .i64 x.f2] := by
 obtain ⟨_, _, rfl, rfl, ⟨_, _, rfl, rfl, rfl⟩⟩ := h
 exact rfl
theorem k24_openM {w : World} {base : Nat} {ok : Nat → Prop} {x : S24} {cs : List Value} (h : k24.M w base ok x cs) : cs = [.int .i64 x.f0, .int .i64 x.f1, .int .i64 x.f2] := by
 obtain ⟨_, _, rfl, rfl, ⟨_, _, rfl, rfl, rfl⟩⟩ := h
 exact rfl
theorem k24_mkM (w : World) (base : Nat) (ok : Nat → Prop) (x : S24)  : k24.M w base ok x [.int .i64 x.f0, .int .i64 x.f1, .int .i64 x.f2] := ⟨[.int .i64 x.f0], [.int .i64 x.f1, .int .i64 x.f2], rfl, rfl, ⟨[.int .i64 x.f1], [.int .i64 x.f2], rfl, rfl, rfl⟩⟩
structure S43 where
 f0 : S24
 f1 : S24
def z43 : S43 := ⟨z24, z24⟩
def k43 : Kd S43 := Kd.iso (Kd.pair k24 k24) (fun x : S43 => (x.f0, x.f1))
theorem k43_open {w : World} {x : S43} {cs : List Value} (h : k43.K w x cs) : cs = [.int .i64 x.f0.f0, .int .i64 x.f0.f1, .int .i64 x.f0.f2, .int .i64 x.f1.f0, .int .i64 x.f1.f1, .int .i64 x.f1.f2] := by
 obtain ⟨_, _, rfl, s0, s3⟩ := h
 obtain rfl := k24_open s0
 obtain rfl := k24_open s3
 exact rfl
theorem k43_openM {w : World} {base : Nat} {ok : Nat → Prop} {x : S43} {cs : List Value} (h : k43.M w base ok x cs) : cs = [.int .i64 x.f0.f0, .int .i64 x.f0.f1, .int .i64 x.f0.f2, .int .i64 x.f1.f0, .int .i64 x.f1.f1, .int .i64 x.f1.f2] := by
 obtain ⟨_, _, rfl, s0, s3⟩ := h
 obtain rfl := k24_openM s0
 obtain rfl := k24_openM s3
 exact rfl
theorem k43_mkM (w : World) (base : Nat) (ok : Nat → Prop) (x : S43)  : k43.M w base ok x [.int .i64 x.f0.f0, .int .i64 x.f0.f1, .int .i64 x.f0.f2, .int .i64 x.f1.f0, .int .i64 x.f1.f1, .int .i64 x.f1.f2] := ⟨[.int .i64 x.f0.f0, .int .i64 x.f0.f1, .int .i64 x.f0.f2], [.int .i64 x.f1.f0, .int .i64 x.f1.f1, .int .i64 x.f1.f2], rfl, (k24_mkM w base ok x.f0 ), (k24_mkM w base ok x.f1 )⟩
def rd_T43 (xs : List S43) (i : Int) : S43 := xs.getD i.toNat z43
theorem at_T43 {w : World} {A : Option Addr} {n : Nat} {xs : List S43} (h : Kd.C k43 w A n xs) (i : Int) (h0 : 0 ≤ i) (h1 : i < n) : ∃ ad , A = some ad ∧ w.cell? (ad.add (i.toNat * 6)) = some (.int .i64 (rd_T43 xs i).f0.f0) ∧ w.cell? ⟨(ad.add (i.toNat * 6)).block, (ad.add (i.toNat * 6)).off + 1, none⟩ = some (.int .i64 (rd_T43 xs i).f0.f1) ∧ w.cell? ⟨(ad.add (i.toNat * 6)).block, (ad.add (i.toNat * 6)).off + 2, none⟩ = some (.int .i64 (rd_T43 xs i).f0.f2) ∧ w.cell? ⟨(ad.add (i.toNat * 6)).block, (ad.add (i.toNat * 6)).off + 3, none⟩ = some (.int .i64 (rd_T43 xs i).f1.f0) ∧ w.cell? ⟨(ad.add (i.toNat * 6)).block, (ad.add (i.toNat * 6)).off + 4, none⟩ = some (.int .i64 (rd_T43 xs i).f1.f1) ∧ w.cell? ⟨(ad.add (i.toNat * 6)).block, (ad.add (i.toNat * 6)).off + 5, none⟩ = some (.int .i64 (rd_T43 xs i).f1.f2) := by
 obtain ⟨ad, c, e, _, hK, hc0⟩ := Kd.C_get h z43 i h0 h1
 have hc : ∀ j u, c[j]? = some u → w.cell? (ad.add (i.toNat * 6 + j)) = some u := hc0
 obtain rfl := k43_open hK
 exact ⟨ad, e, hc 0 _ rfl, by rw [← add_field _ _ 1 (by omega)]; exact hc 1 _ rfl, by rw [← add_field _ _ 2 (by omega)]; exact hc 2 _ rfl, by rw [← add_field _ _ 3 (by omega)]; exact hc 3 _ rfl, by rw [← add_field _ _ 4 (by omega)]; exact hc 4 _ rfl, by rw [← add_field _ _ 5 (by omega)]; exact hc 5 _ rfl⟩

structure S68 where
 f0 : ByteArray
 f1 : S43
 f2 : Int
def z68 : S68 := ⟨(⟨#[]⟩ : ByteArray), z43, (0 : Int)⟩
def k68 : Kd S68 := Kd.iso (Kd.pair Kd.string (Kd.pair k43 (Kd.int .i64))) (fun x : S68 => (x.f0, x.f1, x.f2))
theorem k68_open {w : World} {x : S68} {cs : List Value} (h : k68.K w x cs) : cs = [.string x.f0, .int .i64 x.f1.f0.f0, .int .i64 x.f1.f0.f1, .int .i64 x.f1.f0.f2, .int .i64 x.f1.f1.f0, .int .i64 x.f1.f1.f1, .int .i64 x.f1.f1.f2, .int .i64 x.f2] := by
 obtain ⟨_, _, rfl, rfl, ⟨_, _, rfl, s1, rfl⟩⟩ := h
 obtain rfl := k43_open s1
 exact rfl
theorem k68_openM {w : World} {base : Nat} {ok : Nat → Prop} {x : S68} {cs : List Value} (h : k68.M w base ok x cs) : cs = [.string x.f0, .int .i64 x.f1.f0.f0, .int .i64 x.f1.f0.f1, .int .i64 x.f1.f0.f2, .int .i64 x.f1.f1.f0, .int .i64 x.f1.f1.f1, .int .i64 x.f1.f1.f2, .int .i64 x.f2] := by
 obtain ⟨_, _, rfl, rfl, ⟨_, _, rfl, s1, rfl⟩⟩ := h
 obtain rfl := k43_openM s1
 exact rfl
theorem k68_mkM (w : World) (base : Nat) (ok : Nat → Prop) (x : S68)  : k68.M w base ok x [.string x.f0, .int .i64 x.f1.f0.f0, .int .i64 x.f1.f0.f1, .int .i64 x.f1.f0.f2, .int .i64 x.f1.f1.f0, .int .i64 x.f1.f1.f1, .int .i64 x.f1.f1.f2, .int .i64 x.f2] := ⟨[.string x.f0], [.int .i64 x.f1.f0.f0, .int .i64 x.f1.f0.f1, .int .i64 x.f1.f0.f2, .int .i64 x.f1.f1.f0, .int .i64 x.f1.f1.f1, .int .i64 x.f1.f1.f2, .int .i64 x.f2], rfl, rfl, ⟨[.int .i64 x.f1.f0.f0, .int .i64 x.f1.f0.f1, .int .i64 x.f1.f0.f2, .int .i64 x.f1.f1.f0, .int .i64 x.f1.f1.f1, .int .i64 x.f1.f1.f2], [.int .i64 x.f2], rfl, (k43_mkM w base ok x.f1 ), rfl⟩⟩
def rd_T68 (xs : List S68) (i : Int) : S68 := xs.getD i.toNat z68
theorem at_T68 {w : World} {A : Option Addr} {n : Nat} {xs : List S68} (h : Kd.C k68 w A n xs) (i : Int) (h0 : 0 ≤ i) (h1 : i < n) : ∃ ad , A = some ad ∧ w.cell? (ad.add (i.toNat * 8)) = some (.string (rd_T68 xs i).f0) ∧ w.cell? ⟨(ad.add (i.toNat * 8)).block, (ad.add (i.toNat * 8)).off + 1, none⟩ = some (.int .i64 (rd_T68 xs i).f1.f0.f0) ∧ w.cell? ⟨(ad.add (i.toNat * 8)).block, (ad.add (i.toNat * 8)).off + 2, none⟩ = some (.int .i64 (rd_T68 xs i).f1.f0.f1) ∧ w.cell? ⟨(ad.add (i.toNat * 8)).block, (ad.add (i.toNat * 8)).off + 3, none⟩ = some (.int .i64 (rd_T68 xs i).f1.f0.f2) ∧ w.cell? ⟨(ad.add (i.toNat * 8)).block, (ad.add (i.toNat * 8)).off + 4, none⟩ = some (.int .i64 (rd_T68 xs i).f1.f1.f0) ∧ w.cell? ⟨(ad.add (i.toNat * 8)).block, (ad.add (i.toNat * 8)).off + 5, none⟩ = some (.int .i64 (rd_T68 xs i).f1.f1.f1) ∧ w.cell? ⟨(ad.add (i.toNat * 8)).block, (ad.add (i.toNat * 8)).off + 6, none⟩ = some (.int .i64 (rd_T68 xs i).f1.f1.f2) ∧ w.cell? ⟨(ad.add (i.toNat * 8)).block, (ad.add (i.toNat * 8)).off + 7, none⟩ = some (.int .i64 (rd_T68 xs i).f2) := by
 obtain ⟨ad, c, e, _, hK, hc0⟩ := Kd.C_get h z68 i h0 h1
 have hc : ∀ j u, c[j]? = some u → w.cell? (ad.add (i.toNat * 8 + j)) = some u := hc0
 obtain rfl := k68_open hK
 exact ⟨ad, e, hc 0 _ rfl, by rw [← add_field _ _ 1 (by omega)]; exact hc 1 _ rfl, by rw [← add_field _ _ 2 (by omega)]; exact hc 2 _ rfl, by rw [← add_field _ _ 3 (by omega)]; exact hc 3 _ rfl, by rw [← add_field _ _ 4 (by omega)]; exact hc 4 _ rfl, by rw [← add_field _ _ 5 (by omega)]; exact hc 5 _ rfl, by rw [← add_field _ _ 6 (by omega)]; exact hc 6 _ rfl, by rw [← add_field _ _ 7 (by omega)]; exact hc 7 _ rfl⟩

structure S65 where
 f0 : Int
 f1 : Int
def z65 : S65 := ⟨(0 : Int), (0 : Int)⟩
def k65 : Kd S65 := Kd.iso (Kd.pair (Kd.int .i64) (Kd.int .i64)) (fun x : S65 => (x.f0, x.f1))
theorem k65_open {w : World} {x : S65} {cs : List Value} (h : k65.K w x cs) : cs = [.int .i64 x.f0, .int .i64 x.f1] := by
 obtain ⟨_, _, rfl, rfl, rfl⟩ := h
 exact rfl
theorem k65_mkM (w : World) (base : Nat) (ok : Nat → Prop) (x : S65)  : k65.M w base ok x [.int .i64 x.f0, .int .i64 x.f1] := ⟨[.int .i64 x.f0], [.int .i64 x.f1], rfl, rfl, rfl⟩
def rd_T65 (xs : List S65) (i : Int) : S65 := xs.getD i.toNat z65
theorem at_T65 {w : World} {A : Option Addr} {n : Nat} {xs : List S65} (h : Kd.C k65 w A n xs) (i : Int) (h0 : 0 ≤ i) (h1 : i < n) : ∃ ad , A = some ad ∧ w.cell? (ad.add (i.toNat * 2)) = some (.int .i64 (rd_T65 xs i).f0) ∧ w.cell? ⟨(ad.add (i.toNat * 2)).block, (ad.add (i.toNat * 2)).off + 1, none⟩ = some (.int .i64 (rd_T65 xs i).f1) := by
 obtain ⟨ad, c, e, _, hK, hc0⟩ := Kd.C_get h z65 i h0 h1
 have hc : ∀ j u, c[j]? = some u → w.cell? (ad.add (i.toNat * 2 + j)) = some u := hc0
 obtain rfl := k65_open hK
 exact ⟨ad, e, hc 0 _ rfl, by rw [← add_field _ _ 1 (by omega)]; exact hc 1 _ rfl⟩

structure S96 where
 f0 : S65
 f1 : S65
 f2 : S65
def okS24 (x : S24) : Prop := ((Lit.int .i64 x.f0).wf = true) ∧ ((Lit.int .i64 x.f1).wf = true) ∧ ((Lit.int .i64 x.f2).wf = true)
def okS43 (x : S43) : Prop := (okS24 x.f0) ∧ (okS24 x.f1)
def okS68 (x : S68) : Prop := (x.f0.size ≤ maxLen) ∧ (okS43 x.f1) ∧ ((Lit.int .i64 x.f2).wf = true)
def fl (n k : Nat) (xs : List Nat) : Array Bool := ((List.range n).map fun i => decide (i < k) || xs.contains i).toArray
section
variable {P : Program} {md : Region.Mode} {ops : Array Oper} {Q : Exit → Act → World → Prop} {S : World → Prop} {ds : List Nat} {T : Bool × List (List Nat × List Nat)} {B : List Nat} {i fuel : Nat} {N : Option Tmp} {oi : Oper} {v : Value} {l : Array Bool} {a a' : Act} {w : World}
theorem pu (l' : Array Bool) (hT : Aside0 (rtab md ops = T)) (h : wpAnyLast P md ops Q S ds fuel l' a' w) (hi : ops[i]? = some oi := by rfl) (hN : oi.dst = N := by rfl) (hc : anyT T l.toList l'.toList i = true := by kernel_rfl)
  (hQ : ∀ c a w, Q (.panic c) (a.put oi.dst v) w → Q (.panic c) a w := by exact (fun _ _ _ h => h)) (hw : Region.wanted oi (yielded ops a.tmps) = true := by rfl) (hy : ∀ w, (execOp a.eval oi).run P w = .ok (.value v) w := by (intro w'; go_simp; with_reducible rfl))
  (ha : a.put N v = a' := by (simp only [Act.put, psl, i64_w, i32_w]; rfl)) : wpAnyLast P md ops Q S ds (fuel + 1) l a w :=
 pure_ l' hi hN (any_of hT.out hc) hQ (Or.inl ⟨hw, hy⟩) ha h
theorem tk (l' : Array Bool) (hT : Aside0 (rtab md ops = T)) (hB : Aside0 (waitsOk T.2 B = true)) (hS : S w) (h : wpAnyLast P md ops Q S ds fuel l' a' w) (hi : ops[i]? = some oi := by rfl) (hN : oi.dst = N := by rfl) (hc : takeW T B ds l.toList l'.toList i = true := by kernel_rfl)
  (hQ : ∀ c a w, Q (.panic c) (a.put oi.dst v) w → Q (.panic c) a w := by exact (fun _ _ _ h => h)) (hw : Region.wanted oi (yielded ops a.tmps) = true := by rfl) (hy : ∀ w, S w → (execOp a.eval oi).run P w = .ok (.value v) w := by (intro w' hs_; (try dsimp only at hs_); go_split_ands; go_simp; with_reducible rfl))
  (ha : a.put N v = a' := by (simp only [Act.put, psl, i64_w, i32_w]; rfl)) : wpAnyLast P md ops Q S ds (fuel + 1) l a w :=
 take_ l' hi hN (take_ofW hT.out hB.out hc) hQ (Or.inl ⟨hw, hy⟩) hS ha h
end

section
variable {W0 W W' : World} {g i b j : Nat} {o o0 : Obj} {v : Value} {t : TypeId} {l : List Value} {cs : Array Value}
theorem bfO (h : W.heap[g]? = some o) (hn : Aside0 (g ≠ b)) : (W.setCell ⟨b, i, none⟩ v).heap[g]? = some o := (Below.heap_setCell W ⟨b, i, none⟩ v g hn.out).trans h
theorem kkC (h : W0.heap[g]? = some o0) (f : W0.heap[g]? = some o0 → W.heap[g]? = some o := by intro h_; (with_reducible repeat (first | exact h_ | refine blk_drewN ?_ _ | refine blk_drew ?_ | refine blk_alloc ?_ _ | refine bfO ?_ (by assumption) | apply blk_put)); all_goals (show Array.setIfInBounds _ _ _ = _; rfl)) : W.heap[g]? = some o := f h
theorem kfC (h : W0.heap[g]? = some o) (f : W0.heap[g]? = some o → W.heap[g]? = some o := by intro h_; (with_reducible repeat (first | exact h_ | refine blk_drewN ?_ _ | refine blk_drew ?_ | refine blk_alloc ?_ _ | refine bfO ?_ (by assumption)))) : W.heap[g]? = some o := f h
theorem xC3 (h : W.heap[g]? = some o) (hg : i = W.heap.size) (hb : Below W.heap.size W W') : Aside0 (g ≠ i) ∧ Aside0 (i ≠ g) ∧ Aside0 (W'.heap[g]? = some o) := ⟨⟨by rw [hg]; exact Nat.ne_of_lt (blk_lt h)⟩, ⟨by rw [hg]; exact Nat.ne_of_gt (blk_lt h)⟩, ⟨blk_below h hb⟩⟩
theorem xC1 (h : W.heap[g]? = some o) (hb : Below W.heap.size W W') : Aside0 (W'.heap[g]? = some o) := ⟨blk_below h hb⟩
theorem sqD {P : Prop} (h : P := by first | rfl | (simp; done) | (simp [*]; done)) : P := h
theorem sqE {P : Prop} (h : P := by first | rfl | (simp [errW_none, errW_some] <;> rfl) | (simp [*, errW_none, errW_some] <;> rfl)) : P := h
theorem yC1 {a0 : Value} (H : Aside0 (W.heap[g]? = some (.cells (a0 :: l).toArray t (0, 0)))) : W.cell? ⟨g, 0, none⟩ = some a0 := (bc H.out 0).trans rfl
theorem zC2 {a0 a1 : Value} (H : Aside0 (W.heap[g]? = some (.cells (a0 :: a1 :: l).toArray t (0, 0)))) : W.cell? ⟨g, 0, none⟩ = some a0 ∧ W.cell? ⟨g, 1, none⟩ = some a1 ∧ W.frozen? ⟨g, 0, none⟩ = false ∧ W.frozen? ⟨g, 1, none⟩ = false := ⟨(bc H.out 0).trans rfl, (bc H.out 1).trans rfl, bf H.out 0, bf H.out 1⟩
theorem zC3 {a0 a1 a2 : Value} (H : Aside0 (W.heap[g]? = some (.cells (a0 :: a1 :: a2 :: l).toArray t (0, 0)))) : W.cell? ⟨g, 0, none⟩ = some a0 ∧ W.cell? ⟨g, 1, none⟩ = some a1 ∧ W.cell? ⟨g, 2, none⟩ = some a2 ∧ W.frozen? ⟨g, 0, none⟩ = false ∧ W.frozen? ⟨g, 1, none⟩ = false ∧ W.frozen? ⟨g, 2, none⟩ = false := ⟨(bc H.out 0).trans rfl, (bc H.out 1).trans rfl, (bc H.out 2).trans rfl, bf H.out 0, bf H.out 1, bf H.out 2⟩
theorem yC6 {a0 a1 a2 a3 a4 a5 : Value} (H : Aside0 (W.heap[g]? = some (.cells (a0 :: a1 :: a2 :: a3 :: a4 :: a5 :: l).toArray t (0, 0)))) : W.cell? ⟨g, 0, none⟩ = some a0 ∧ W.cell? ⟨g, 1, none⟩ = some a1 ∧ W.cell? ⟨g, 2, none⟩ = some a2 ∧ W.cell? ⟨g, 3, none⟩ = some a3 ∧ W.cell? ⟨g, 4, none⟩ = some a4 ∧ W.cell? ⟨g, 5, none⟩ = some a5 := ⟨(bc H.out 0).trans rfl, (bc H.out 1).trans rfl, (bc H.out 2).trans rfl, (bc H.out 3).trans rfl, (bc H.out 4).trans rfl, (bc H.out 5).trans rfl⟩
theorem zC6 {a0 a1 a2 a3 a4 a5 : Value} (H : Aside0 (W.heap[g]? = some (.cells (a0 :: a1 :: a2 :: a3 :: a4 :: a5 :: l).toArray t (0, 0)))) : W.cell? ⟨g, 0, none⟩ = some a0 ∧ W.cell? ⟨g, 1, none⟩ = some a1 ∧ W.cell? ⟨g, 2, none⟩ = some a2 ∧ W.cell? ⟨g, 3, none⟩ = some a3 ∧ W.cell? ⟨g, 4, none⟩ = some a4 ∧ W.cell? ⟨g, 5, none⟩ = some a5 ∧ W.frozen? ⟨g, 0, none⟩ = false ∧ W.frozen? ⟨g, 1, none⟩ = false ∧ W.frozen? ⟨g, 2, none⟩ = false ∧ W.frozen? ⟨g, 3, none⟩ = false ∧ W.frozen? ⟨g, 4, none⟩ = false ∧ W.frozen? ⟨g, 5, none⟩ = false := ⟨(bc H.out 0).trans rfl, (bc H.out 1).trans rfl, (bc H.out 2).trans rfl, (bc H.out 3).trans rfl, (bc H.out 4).trans rfl, (bc H.out 5).trans rfl, bf H.out 0, bf H.out 1, bf H.out 2, bf H.out 3, bf H.out 4, bf H.out 5⟩
end

end Go.Proofs.Ytcofgnbopodahaa.QA
