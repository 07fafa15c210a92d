import Derived.Test.YtkeomlmlimkebaaProg
import Derived.Test.YtkeomlmlimkebaaZWWords
import Derived.Test.YtkeomlmlimkebaaZWLast
import Derived.Test.YtkeomlmlimkebaaZWTab
import Derived.Test.YtkeomlmlimkebaaZWApart
import Derived.Test.YtkeomlmlimkebaaZWFoot
import Derived.Test.YtkeomlmlimkebaaZWKept
import Derived.Test.YtkeomlmlimkebaaZWShare
import Derived.Test.YtkeomlmlimkebaaZWN
import Derived.Test.YtkeomlmlimkebaaZWEqStruct
import Derived.Test.YtkeomlmlimkebaaZWRepsOne
import Derived.Test.YtkeomlmlimkebaaZWInv
import Derived.Test.YtkeomlmlimkebaaZWGuard
import Derived.Test.YtkeomlmlimkebaaZWNEv
import Derived.Test.YtkeomlmlimkebaaZWMore
import Derived.Below
import Derived.Deep.Draws
import Derived.Deep.AppendLies
import Derived.Maps.AppendAt
import Derived.OwnWalk
import Derived.Laws.BytesArg
import Derived.Laws.MakeOwn
import Derived.Laws.OwnMore
import Derived.Deep.OwnRows
import Derived.Tactics
import Derived.Lib.ConvBytes
import Derived.Laws.Slices
import Derived.WalkKit
import Derived.KernelRfl
import Derived.RowKit3
import Derived.Deep.LoopGhost
import Derived.Deep.QuietTactic
import Derived.BigQuiet
import Derived.WideLaws
import Derived.Deep.DeepCutAuto
import Derived.Deep.CutBlock
import Derived.Deep.RegionHeld3
import Derived.Laws.Rows
import Derived.Lib.AppendStr
import Derived.ArgAppend
import Derived.Laws.IdiomCopy
import Derived.OrdersHeld
import Derived.Laws.BitsLemmas
import Derived.RowKit
namespace Go.Proofs.Ytkeomlmlimkebaa.QA
abbrev T : Bool := true
abbrev F : Bool := false
theorem pml {α β : Type} (f : α → β) : (∀ l : List α, l.toArray.map f = (l.map f).toArray) ∧ List.map f [] = [] ∧ ∀ (a : α) (l : List α), List.map f (a :: l) = f a :: List.map f l := ⟨fun _ => List.map_toArray .., rfl, fun _ _ => rfl⟩
theorem pdt {α : Type} : (∀ (i : Nat) (l : List α), (l.drop i).length = l.length - i) ∧ ∀ (i : Nat) (l : List α), (l.take i).length = min i l.length := ⟨fun _ _ => List.length_drop, fun _ _ => List.length_take⟩
theorem psl {α : Type} : (∀ (l : List α) (i : Nat) (a : α), l.toArray.setIfInBounds i a = (l.set i a).toArray) ∧ (∀ (x : α) (l : List α) (a : α), (x :: l).set 0 a = a :: l) ∧ (∀ (x : α) (l : List α) (i : Nat) (a : α), (x :: l).set (i + 1) a = x :: l.set i a) := ⟨fun l i a => List.setIfInBounds_toArray l i a, fun _ _ _ => rfl, fun _ _ _ _ => rfl⟩
open Go.RowKit Go.Proofs.YtkeomlmlimkebaaW.PrintWords Go.Proofs.YtkeomlmlimkebaaW.PrintLast Go.Proofs.YtkeomlmlimkebaaW.PrintMore
open Go.Proofs.YtkeomlmlimkebaaW.PrintWords renaming blk_cell → bc
attribute [local go_sem] max2_int min2_int max_two min_two max_three min_three max_four min_four
set_option linter.unusedVariables false
set_option linter.unusedSimpArgs false
section
variable {α : Type} {d : Kd α} {e base B g i : Nat} {v : Value} {xs : List α} {ok : Nat → Prop} {w W W0 W' : World} {o : Obj} {A : Option Addr} {n : Nat} {a : Addr} {u : Value}
theorem fV {P Q : Prop} (h : Q) (f : Q → P := by intro h; (with_reducible repeat (first | apply Kd.V_alloc | apply Kd.V_drewN | apply Kd.V_drew)); exact h) : P := f h
theorem fR {P Q : Prop} (h : Q) (f : Q → P := by intro h; (with_reducible repeat (first | apply Kd.R_alloc | apply Kd.R_drewN | apply Kd.R_drew)); exact h) : P := f h
theorem fN {P Q : Prop} (h : Q) (f : Q → P := by intro h; (with_reducible repeat (first | apply Kd.N_alloc | apply Kd.N_drewN | apply Kd.N_drew)); exact h) : P := f h
theorem fC {P Q : Prop} (h : Q) (f : Q → P := by intro h; repeat (first | (with_reducible exact h) | (with_reducible refine Kd.C_alloc ?_ _) | (with_reducible refine Kd.C_drewN ?_ _) | (with_reducible refine Kd.C_drew ?_) | exact h)) : P := f h
theorem fb {P Q : Prop} (h : Q) (f : Q → P := by intro h; (with_reducible repeat first | apply blk_drewN | apply blk_drew | apply blk_alloc); exact h) : P := f h
theorem fW {P Q : Prop} (h : Q) (f : Q → P := by intro h; repeat (first | (with_reducible first | exact h | apply below_alloc | apply pw_below_drewN | apply below_drew1 | refine below_set ?_ (Aside0.out (by assumption))) | exact h)) : P := f h
theorem eV (H : Aside0 (Kd.V d e W0 base ok v xs)) (hg : g = W.heap.size) (hb : Below W.heap.size W W') (f : Kd.V d e W0 base ok v xs → Kd.V d e W base ok v xs := by intro h; (with_reducible repeat (first | apply Kd.V_alloc | apply Kd.V_drewN | apply Kd.V_drew)); exact h) : Aside0 (Kd.V d e W' base (fun k => ok k ∧ k ≠ g) v xs) := ⟨Kd.V_below (Kd.V_elderB (f H.out) g (Nat.le_of_eq hg.symm)) hb⟩
theorem eN (H : Aside0 (Kd.N d e W0 base ok v xs)) (hg : g = W.heap.size) (hb : Below W.heap.size W W') (f : Kd.N d e W0 base ok v xs → Kd.N d e W base ok v xs := by intro h; (with_reducible repeat (first | apply Kd.N_alloc | apply Kd.N_drewN | apply Kd.N_drew)); exact h) : Aside0 (Kd.N d e W' base (fun k => ok k ∧ k ≠ g) v xs) := ⟨Kd.N_below (Kd.N_elderB (f H.out) g (Nat.le_of_eq hg.symm)) hb⟩
theorem dV (H : Aside0 (Kd.V d e W0 base ok v xs)) (hb : Below W.heap.size W W') (f : Kd.V d e W0 base ok v xs → Kd.V d e W base ok v xs := by intro h; (with_reducible repeat (first | apply Kd.V_alloc | apply Kd.V_drewN | apply Kd.V_drew)); exact h) : Aside0 (Kd.V d e W' base ok v xs) := ⟨Kd.V_below (f H.out) hb⟩
theorem dR (H : Aside0 (Kd.R d e W0 base ok v xs)) (hb : Below W.heap.size W W') (f : Kd.R d e W0 base ok v xs → Kd.R d e W base ok v xs := by intro h; (with_reducible repeat (first | apply Kd.R_alloc | apply Kd.R_drewN | apply Kd.R_drew)); exact h) : Aside0 (Kd.R d e W' base ok v xs) := ⟨Kd.R_below (f H.out) hb⟩
theorem dN (H : Aside0 (Kd.N d e W0 base ok v xs)) (hb : Below W.heap.size W W') (f : Kd.N d e W0 base ok v xs → Kd.N d e W base ok v xs := by intro h; (with_reducible repeat (first | apply Kd.N_alloc | apply Kd.N_drewN | apply Kd.N_drew)); exact h) : Aside0 (Kd.N d e W' base ok v xs) := ⟨Kd.N_below (f H.out) hb⟩
theorem bB (H : Aside0 (W0.heap[g]? = some o)) (hb : Below W.heap.size W W') (f : W0.heap[g]? = some o → W.heap[g]? = some o := by intro h; (with_reducible repeat first | apply blk_drewN | apply blk_drew | apply blk_alloc); exact h) : Aside0 (W'.heap[g]? = some o) := ⟨blk_below (f H.out) hb⟩
theorem bS (H : Aside0 (Below w.heap.size w W0)) (hb : Below W.heap.size W W') (f : Below w.heap.size w W0 → Below w.heap.size w W := by intro h; repeat (first | (with_reducible first | exact h | apply below_alloc | apply pw_below_drewN | apply below_drew1 | refine below_set ?_ (Aside0.out (by assumption))) | exact h)) : Aside0 (Below w.heap.size w W') := ⟨below_step (f H.out) hb⟩
theorem sG (H : Aside0 (Below w.heap.size w W0)) (hg : g = W.heap.size) (f : Below w.heap.size w W0 → Below w.heap.size w W := by intro h; repeat (first | (with_reducible first | exact h | apply below_alloc | apply pw_below_drewN | apply below_drew1 | refine below_set ?_ (Aside0.out (by assumption))) | exact h)) : Aside0 (w.heap.size ≤ g) := ⟨by rw [hg]; exact below_size (f H.out)⟩
theorem nL (H : Aside0 (W0.heap[i]? = some o)) (hg : g = W.heap.size) (f : W0.heap[i]? = some o → W.heap[i]? = some o := by intro h; (with_reducible repeat first | apply blk_drewN | apply blk_drew | apply blk_alloc); exact h) : Aside0 (i ≠ g) := ⟨by rw [hg]; exact Nat.ne_of_lt (blk_lt (f H.out))⟩
theorem nG (H : Aside0 (W0.heap[i]? = some o)) (hg : g = W.heap.size) (f : W0.heap[i]? = some o → W.heap[i]? = some o := by intro h; (with_reducible repeat first | apply blk_drewN | apply blk_drew | apply blk_alloc); exact h) : Aside0 (g ≠ i) := ⟨by rw [hg]; exact Nat.ne_of_gt (blk_lt (f H.out))⟩
theorem cl (H : Aside0 (Below w.heap.size w W)) (h : w.cell? a = some v) : W.cell? a = some v := (H.out.cell (World.block_lt_of_cell? w _ h)).trans h
variable {t : TypeId} {l : List Value} {a0 a1 a2 a3 a4 a5 a6 a7 : Value}
theorem kC1 (H : Aside0 (W.heap[g]? = some (.cells (a0 :: a1 :: l).toArray t (0, 0)))) : W.cell? ⟨g, 1, none⟩ = some a1 := (bc H.out 1).trans rfl
theorem kC2 (H : Aside0 (W.heap[g]? = some (.cells (a0 :: a1 :: a2 :: l).toArray t (0, 0)))) : W.cell? ⟨g, 2, none⟩ = some a2 := (bc H.out 2).trans rfl
theorem kC3 (H : Aside0 (W.heap[g]? = some (.cells (a0 :: a1 :: a2 :: a3 :: l).toArray t (0, 0)))) : W.cell? ⟨g, 3, none⟩ = some a3 := (bc H.out 3).trans rfl
end

def errW : Option Int → Value
 | none => .nilIface
 | some c => .iface 0 (.int .i64 c)
theorem errW_none : errW none = .nilIface := rfl
theorem errW_some (c : Int) : errW (some c) = .iface 0 (.int .i64 c) := rfl

theorem info3 : (Try.prog.info? 3).map (fun i => (i.zero, i.size, i.bytes)) = some (some (.int .i64 0), 1, 8) := by kernel_rfl
theorem info4 : (Try.prog.info? 4).map (fun i => (i.zero, i.size, i.bytes)) = some (some (.bool false), 1, 1) := by kernel_rfl
theorem info23 : (Try.prog.info? 23).map (fun i => (i.zero, i.size, i.bytes)) = some (some (.slice none 0 0), 1, 24) := by kernel_rfl
theorem info52 : (Try.prog.info? 52).map (fun i => (i.zero, i.size, i.bytes)) = some (some (.agg #[(.int .i64 0), (.int .i64 0), (.int .i64 0)]), 3, 24) := by kernel_rfl
theorem info69 : (Try.prog.info? 69).map (fun i => (i.zero, i.size, i.bytes)) = some (some (.agg #[(.int .i64 0), (.int .i64 0), (.int .i64 0)]), 3, 24) := by kernel_rfl
def rd_L1 (xs : List (List Int)) (i : Int) : (List Int) := xs.getD i.toNat ([] : List Int)
theorem at_L1 {w : World} {A : Option Addr} {n : Nat} {xs : List (List Int)} (h : Kd.C (Kd.slice 3 (Kd.int .i64)) w A n xs) (i : Int) (h0 : 0 ≤ i) (h1 : i < n) : ∃ ad A0 c0, A = some ad ∧ w.cell? (ad.add i.toNat) = some (.slice A0 (rd_L1 xs i).length c0) ∧ (rd_L1 xs i).length ≤ c0 ∧ (Kd.int .i64).C w A0 (rd_L1 xs i).length (rd_L1 xs i) := by
 obtain ⟨ad, c, e, _, hK, hc0⟩ := Kd.C_get h ([] : List Int) i h0 h1
 have hc : ∀ j u, c[j]? = some u → w.cell? (ad.add (i.toNat * 1 + j)) = some u := hc0
 obtain ⟨A0, c0, rfl, l0, g0⟩ := hK
 exact ⟨ad, A0, c0, e, by have hq := hc 0 _ rfl; rwa [Nat.mul_one, Nat.add_zero] at hq, l0, g0⟩

structure S33 where
 f0 : (List (List Int))
 f1 : Int
 f2 : (List Int)
 f3 : (List Bool)
structure S52 where
 f0 : Int
 f1 : Int
 f2 : Int
def z52 : S52 := ⟨(0 : Int), (0 : Int), (0 : Int)⟩
def k52 : Kd S52 := Kd.iso (Kd.pair (Kd.int .i64) (Kd.pair (Kd.int .i64) (Kd.int .i64))) (fun x : S52 => (x.f0, x.f1, x.f2))
theorem k52_open {w : World} {x : S52} {cs : List Value} (h : k52.K w x cs) : cs = [.int .i64 x.f0, .int .i64 x.f1, .int .i64 x.f2] := by
 obtain ⟨_, _, rfl, rfl, ⟨_, _, rfl, rfl, rfl⟩⟩ := h
 exact rfl
theorem k52_openM {w : World} {base : Nat} {ok : Nat → Prop} {x : S52} {cs : List Value} (h : k52.M w base ok x cs) : cs = [.int .i64 x.f0, .int .i64 x.f1, .int .i64 x.f2] := by
 obtain ⟨_, _, rfl, rfl, ⟨_, _, rfl, rfl, rfl⟩⟩ := h
 exact rfl
theorem k52_mkM (w : World) (base : Nat) (ok : Nat → Prop) (x : S52)  : k52.M w base ok x [.int .i64 x.f0, .int .i64 x.f1, .int .i64 x.f2] := ⟨[.int .i64 x.f0], [.int .i64 x.f1, .int .i64 x.f2], rfl, rfl, ⟨[.int .i64 x.f1], [.int .i64 x.f2], rfl, rfl, rfl⟩⟩
def rd_T52 (xs : List S52) (i : Int) : S52 := xs.getD i.toNat z52
theorem at_T52 {w : World} {A : Option Addr} {n : Nat} {xs : List S52} (h : Kd.C k52 w A n xs) (i : Int) (h0 : 0 ≤ i) (h1 : i < n) : ∃ ad , A = some ad ∧ w.cell? (ad.add (i.toNat * 3)) = some (.int .i64 (rd_T52 xs i).f0) ∧ w.cell? ⟨(ad.add (i.toNat * 3)).block, (ad.add (i.toNat * 3)).off + 1, none⟩ = some (.int .i64 (rd_T52 xs i).f1) ∧ w.cell? ⟨(ad.add (i.toNat * 3)).block, (ad.add (i.toNat * 3)).off + 2, none⟩ = some (.int .i64 (rd_T52 xs i).f2) := by
 obtain ⟨ad, c, e, _, hK, hc0⟩ := Kd.C_get h z52 i h0 h1
 have hc : ∀ j u, c[j]? = some u → w.cell? (ad.add (i.toNat * 3 + j)) = some u := hc0
 obtain rfl := k52_open hK
 exact ⟨ad, e, hc 0 _ rfl, by rw [← add_field _ _ 1 (by omega)]; exact hc 1 _ rfl, by rw [← add_field _ _ 2 (by omega)]; exact hc 2 _ rfl⟩

structure S69 where
 f0 : Int
 f1 : Int
 f2 : Int
def z69 : S69 := ⟨(0 : Int), (0 : Int), (0 : Int)⟩
def k69 : Kd S69 := Kd.iso (Kd.pair (Kd.int .i64) (Kd.pair (Kd.int .i64) (Kd.int .i64))) (fun x : S69 => (x.f0, x.f1, x.f2))
theorem k69_open {w : World} {x : S69} {cs : List Value} (h : k69.K w x cs) : cs = [.int .i64 x.f0, .int .i64 x.f1, .int .i64 x.f2] := by
 obtain ⟨_, _, rfl, rfl, ⟨_, _, rfl, rfl, rfl⟩⟩ := h
 exact rfl
theorem k69_mkM (w : World) (base : Nat) (ok : Nat → Prop) (x : S69)  : k69.M w base ok x [.int .i64 x.f0, .int .i64 x.f1, .int .i64 x.f2] := ⟨[.int .i64 x.f0], [.int .i64 x.f1, .int .i64 x.f2], rfl, rfl, ⟨[.int .i64 x.f1], [.int .i64 x.f2], rfl, rfl, rfl⟩⟩
def rd_T69 (xs : List S69) (i : Int) : S69 := xs.getD i.toNat z69
theorem at_T69 {w : World} {A : Option Addr} {n : Nat} {xs : List S69} (h : Kd.C k69 w A n xs) (i : Int) (h0 : 0 ≤ i) (h1 : i < n) : ∃ ad , A = some ad ∧ w.cell? (ad.add (i.toNat * 3)) = some (.int .i64 (rd_T69 xs i).f0) ∧ w.cell? ⟨(ad.add (i.toNat * 3)).block, (ad.add (i.toNat * 3)).off + 1, none⟩ = some (.int .i64 (rd_T69 xs i).f1) ∧ w.cell? ⟨(ad.add (i.toNat * 3)).block, (ad.add (i.toNat * 3)).off + 2, none⟩ = some (.int .i64 (rd_T69 xs i).f2) := by
 obtain ⟨ad, c, e, _, hK, hc0⟩ := Kd.C_get h z69 i h0 h1
 have hc : ∀ j u, c[j]? = some u → w.cell? (ad.add (i.toNat * 3 + j)) = some u := hc0
 obtain rfl := k69_open hK
 exact ⟨ad, e, hc 0 _ rfl, by rw [← add_field _ _ 1 (by omega)]; exact hc 1 _ rfl, by rw [← add_field _ _ 2 (by omega)]; exact hc 2 _ rfl⟩

structure S26 where
 f0 : (List (List Int))
 f1 : Int
 f2 : (List Int)
 f3 : (List Bool)
def k26 : Kd S26 := Kd.iso (Kd.pair (Kd.slice 23 (Kd.slice 3 (Kd.int .i64))) (Kd.pair (Kd.int .i64) (Kd.pair (Kd.slice 3 (Kd.int .i64)) (Kd.slice 4 Kd.bool)))) (fun x : S26 => (x.f0, x.f1, x.f2, x.f3))
def okS26 (x : S26) : Prop := (x.f0.length ≤ maxLen ∧ ∀ e19_, e19_ ∈ x.f0 → e19_.length ≤ maxLen ∧ ∀ e20_, e20_ ∈ e19_ → (Lit.int .i64 e20_).wf = true) ∧ ((Lit.int .i64 x.f1).wf = true) ∧ (x.f2.length ≤ maxLen ∧ ∀ e21_, e21_ ∈ x.f2 → (Lit.int .i64 e21_).wf = true) ∧ (x.f3.length ≤ maxLen)
def fl (n k : Nat) (xs : List Nat) : Array Bool := ((List.range n).map fun i => decide (i < k) || xs.contains i).toArray
section
variable {P : Program} {md : Region.Mode} {ops : Array Oper} {Q : Exit → Act → World → Prop} {S : World → Prop} {ds : List Nat} {T : Bool × List (List Nat × List Nat)} {B : List Nat} {i fuel : Nat} {N : Option Tmp} {oi : Oper} {v : Value} {l : Array Bool} {a a' : Act} {w : World}
theorem pu (l' : Array Bool) (hT : Aside0 (rtab md ops = T)) (h : wpAnyLast P md ops Q S ds fuel l' a' w) (hi : ops[i]? = some oi := by rfl) (hN : oi.dst = N := by rfl) (hc : anyT T l.toList l'.toList i = true := by kernel_rfl)
  (hQ : ∀ c a w, Q (.panic c) (a.put oi.dst v) w → Q (.panic c) a w := by exact (fun _ _ _ h => h)) (hw : Region.wanted oi (yielded ops a.tmps) = true := by rfl) (hy : ∀ w, (execOp a.eval oi).run P w = .ok (.value v) w := by (intro w'; go_simp; with_reducible rfl))
  (ha : a.put N v = a' := by (simp only [Act.put, psl, i64_w, i32_w]; rfl)) : wpAnyLast P md ops Q S ds (fuel + 1) l a w :=
 pure_ l' hi hN (any_of hT.out hc) hQ (Or.inl ⟨hw, hy⟩) ha h
theorem tk (l' : Array Bool) (hT : Aside0 (rtab md ops = T)) (hB : Aside0 (waitsOk T.2 B = true)) (hS : S w) (h : wpAnyLast P md ops Q S ds fuel l' a' w) (hi : ops[i]? = some oi := by rfl) (hN : oi.dst = N := by rfl) (hc : takeW T B ds l.toList l'.toList i = true := by kernel_rfl)
  (hQ : ∀ c a w, Q (.panic c) (a.put oi.dst v) w → Q (.panic c) a w := by exact (fun _ _ _ h => h)) (hw : Region.wanted oi (yielded ops a.tmps) = true := by rfl) (hy : ∀ w, S w → (execOp a.eval oi).run P w = .ok (.value v) w := by (intro w' hs_; (try dsimp only at hs_); go_split_ands; go_simp; with_reducible rfl))
  (ha : a.put N v = a' := by (simp only [Act.put, psl, i64_w, i32_w]; rfl)) : wpAnyLast P md ops Q S ds (fuel + 1) l a w :=
 take_ l' hi hN (take_ofW hT.out hB.out hc) hQ (Or.inl ⟨hw, hy⟩) hS ha h
end

section
variable {W0 W W' : World} {g i b j : Nat} {o o0 : Obj} {v : Value} {t : TypeId} {l : List Value} {cs : Array Value}
theorem bfO (h : W.heap[g]? = some o) (hn : Aside0 (g ≠ b)) : (W.setCell ⟨b, i, none⟩ v).heap[g]? = some o := (Below.heap_setCell W ⟨b, i, none⟩ v g hn.out).trans h
theorem kkC (h : W0.heap[g]? = some o0) (f : W0.heap[g]? = some o0 → W.heap[g]? = some o := by intro h_; (with_reducible repeat (first | exact h_ | refine blk_drewN ?_ _ | refine blk_drew ?_ | refine blk_alloc ?_ _ | refine bfO ?_ (by assumption) | apply blk_put)); all_goals (show Array.setIfInBounds _ _ _ = _; rfl)) : W.heap[g]? = some o := f h
theorem kfC (h : W0.heap[g]? = some o) (f : W0.heap[g]? = some o → W.heap[g]? = some o := by intro h_; (with_reducible repeat (first | exact h_ | refine blk_drewN ?_ _ | refine blk_drew ?_ | refine blk_alloc ?_ _ | refine bfO ?_ (by assumption)))) : W.heap[g]? = some o := f h
theorem xC1 (h : W.heap[g]? = some o) (hb : Below W.heap.size W W') : Aside0 (W'.heap[g]? = some o) := ⟨blk_below h hb⟩
theorem sqD {P : Prop} (h : P := by first | rfl | (simp; done) | (simp [*]; done)) : P := h
theorem sqE {P : Prop} (h : P := by first | rfl | (simp [errW_none, errW_some] <;> rfl) | (simp [*, errW_none, errW_some] <;> rfl)) : P := h
theorem yC1 {a0 : Value} (H : Aside0 (W.heap[g]? = some (.cells (a0 :: l).toArray t (0, 0)))) : W.cell? ⟨g, 0, none⟩ = some a0 := (bc H.out 0).trans rfl
theorem zC3 {a0 a1 a2 : Value} (H : Aside0 (W.heap[g]? = some (.cells (a0 :: a1 :: a2 :: l).toArray t (0, 0)))) : W.cell? ⟨g, 0, none⟩ = some a0 ∧ W.cell? ⟨g, 1, none⟩ = some a1 ∧ W.cell? ⟨g, 2, none⟩ = some a2 ∧ W.frozen? ⟨g, 0, none⟩ = false ∧ W.frozen? ⟨g, 1, none⟩ = false ∧ W.frozen? ⟨g, 2, none⟩ = false := ⟨(bc H.out 0).trans rfl, (bc H.out 1).trans rfl, (bc H.out 2).trans rfl, blk_frozen H.out 0, blk_frozen H.out 1, blk_frozen H.out 2⟩
theorem zC4 {a0 a1 a2 a3 : Value} (H : Aside0 (W.heap[g]? = some (.cells (a0 :: a1 :: a2 :: a3 :: l).toArray t (0, 0)))) : W.cell? ⟨g, 0, none⟩ = some a0 ∧ W.cell? ⟨g, 1, none⟩ = some a1 ∧ W.cell? ⟨g, 2, none⟩ = some a2 ∧ W.cell? ⟨g, 3, none⟩ = some a3 ∧ W.frozen? ⟨g, 0, none⟩ = false ∧ W.frozen? ⟨g, 1, none⟩ = false ∧ W.frozen? ⟨g, 2, none⟩ = false ∧ W.frozen? ⟨g, 3, none⟩ = false := ⟨(bc H.out 0).trans rfl, (bc H.out 1).trans rfl, (bc H.out 2).trans rfl, (bc H.out 3).trans rfl, blk_frozen H.out 0, blk_frozen H.out 1, blk_frozen H.out 2, blk_frozen H.out 3⟩
end

end Go.Proofs.Ytkeomlmlimkebaa.QA
