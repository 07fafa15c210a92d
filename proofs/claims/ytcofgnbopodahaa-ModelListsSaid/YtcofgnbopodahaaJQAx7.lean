import Derived.Test.YtcofgnbopodahaaJQAx0
import Derived.Test.YtcofgnbopodahaaJQAx4
import Derived.Test.YtcofgnbopodahaaJQAx5
import Derived.Test.YtcofgnbopodahaaLay
import Derived.Test.YtcofgnbopodahaaJRegInv
import Derived.Test.YtcofgnbopodahaaJRowOne
import Derived.Test.YtcofgnbopodahaaJSortRow
import Derived.LoopN
import Derived.Shelf.SlicesE.Compact
import Derived.Shelf.SlicesE.Kit
import Derived.Shelf.SortM.Plain
import Derived.Shelf.SortM.SortNone
import Derived.StillTailTactics
namespace Go.Proofs.Ytcofgnbopodahaa.QA
open Go.RowKit Go.Proofs.YtcofgnbopodahaaW.PrintWords Go.Proofs.YtcofgnbopodahaaW.PrintLast Go.Proofs.YtcofgnbopodahaaW.PrintMore
open Go.Proofs.YtcofgnbopodahaaW.PrintWords renaming blk_drew → bd, blk_alloc → ba, below_alloc → wa, below_drew1 → wd, blk_below → bb, gate_dst → gd, gate_callee → gc, box_event → be
open Aside0 renaming mk → am
attribute [local go_sem] max2_int min2_int max_two min_two max_three min_three max_four min_four
set_option linter.unusedVariables false
set_option linter.unusedSimpArgs false

def sortI (l : List Int) : List Int := l.mergeSort fun x y => decide (x ≤ y)
theorem sortI_length (l : List Int) : (sortI l).length = l.length := List.length_mergeSort l
def ins (a : Int) : List Int → List Int
 | [] => [a]
 | b :: r => if a ≤ b then a :: b :: r else b :: ins a r
def insL : List Int → List Int
 | [] => []
 | a :: r => ins a (insL r)
theorem ins_perm (a : Int) : ∀ l, (ins a l).Perm (a :: l)
 | [] => List.Perm.refl _
 | b :: r => by
  unfold ins
  split
  ·exact List.Perm.refl _
  exact ((ins_perm a r).cons b).trans (List.Perm.swap a b r)
theorem insL_perm : ∀ l, (insL l).Perm l
 | [] => List.Perm.refl _
 | a :: r => (ins_perm a _).trans ((insL_perm r).cons a)
theorem ins_sorted (a : Int) : ∀ l : List Int, l.Pairwise (fun x y => x ≤ y) → (ins a l).Pairwise (fun x y => x ≤ y)
 | [], _ => by simp [ins]
 | b :: r, h => by
  have hb := List.pairwise_cons.1 h
  unfold ins
  split
  case isTrue hab =>
   refine List.pairwise_cons.2 ⟨fun x hx => ?_, h⟩
   rcases List.mem_cons.1 hx with rfl | hx
   ·exact hab
   exact Int.le_trans hab (hb.1 x hx)
  case isFalse hab =>
   refine List.pairwise_cons.2 ⟨fun x hx => ?_, ins_sorted a r hb.2⟩
   rcases List.mem_cons.1 ((ins_perm a r).mem_iff.1 hx) with rfl | hx
   ·omega
   exact hb.1 x hx
theorem insL_sorted : ∀ l : List Int, (insL l).Pairwise (fun x y => x ≤ y)
 | [] => List.Pairwise.nil
 | a :: r => ins_sorted a _ (insL_sorted r)
theorem insL_eq (l : List Int) : insL l = sortI l := by
 refine List.Perm.eq_of_pairwise (le := fun x y => x ≤ y) (fun a b _ _ h1 h2 => Int.le_antisymm h1 h2) (insL_sorted l) ?_ ((insL_perm l).trans (List.mergeSort_perm l _).symm)
 have h := List.pairwise_mergeSort (le := fun x y : Int => decide (x ≤ y)) (fun a b c h1 h2 => by simp at h1 h2 ⊢; omega) (fun a b => by simp; omega) l
 exact h.imp (fun {a b} h => by simpa using h)
def slices_Sort_int_int.f (l0 : List Int) : Option (List Int) := if l0.length < 1099511627776 then some (insL l0) else none
set_option maxHeartbeats 1000000 in
set_option maxRecDepth 100000 in
theorem slices_Sort_int_int.calls (P0_ : Nat → Prop) (u9000_ : Value) (l0 : List Int) (r : List Int) (w0 w : World) (hB : Below w0.heap.size w0 w) (ho0 : Kd.R (Kd.int .i64) 3 w w0.heap.size P0_ u9000_ l0) (h : slices_Sort_int_int.f l0 = some r) :
  Calls Try.prog 91 #[u9000_] w fun e w' => e = .returned (.tuple #[]) ∧ Kd.R (Kd.int .i64) 3 w' w0.heap.size (fun k_ => (P0_ k_ ∨ w.heap.size ≤ k_)) u9000_ r ∧ Below w0.heap.size w0 w' ∧ Kept w w' (fun k_ => P0_ k_) := by
 unfold slices_Sort_int_int.f at h
 split at h
 case isFalse => exact absurd h (by simp)
 case isTrue hl =>
 rw [insL_eq] at h
 obtain rfl := Option.some.inj h
 clear h
 rcases List.eq_nil_or_concat l0 with rfl | ⟨l', x', hx⟩
 ·obtain ⟨A1, c1, rfl⟩ := Kd.R_slice ho0
  have hcon := Go.Proofs.AnyM.slices_Sort_int_none (P := Try.prog) Lay.sortI A1 c1 w
  refine Calls.mono hcon ?_
  rintro e w' ⟨rfl, rfl⟩
  have e0 : sortI ([] : List Int) = [] := List.eq_nil_of_length_eq_zero (sortI_length [])
  rw [e0]
  exact ⟨rfl, Kd.R_mono ho0 (fun _ hk => .inl hk), hB, Kept.refl _ _⟩
 ·have hne : l0 ≠ [] := by rw [hx]; simp
  obtain ⟨g, cap, rfl, hH, hg, hbg, hP⟩ := SortRow.holds_of_R (RowOne.flatI .i64) ho0 hne
  have hcon := Go.Proofs.AnyM.slices_Sort_int (P := Try.prog) Lay.sortI g 0 cap l0 w (RowOne.holds_one _ hH) hg (by omega)
  refine Calls.mono hcon ?_
  rintro e w' ⟨rfl, n, os, rfl⟩
  have hlen : (sortI l0).length = l0.length := sortI_length l0
  have hR := SortRow.R_of_sorted (RowOne.flatI .i64) (by decide) ho0 (by simp) hlen hne n os
  rw [RowOne.putRow_one]
  exact ⟨rfl, Kd.R_mono hR (fun _ hk => .inl hk), SortRow.below_sorted (d := Kd.int .i64) hB g n _ os hbg, SortRow.kept_sorted (d := Kd.int .i64) w g n _ os _ hP⟩

theorem compactUpTo_length (l : List Int) : (Go.Lib.compactUpTo l.toArray l.length).length ≤ l.length := by
 unfold Go.Lib.compactUpTo
 rw [List.length_map]
 exact Nat.le_trans (List.length_filter_le _ _) (by simp)
theorem compact_nil (A : Option Addr) (c : Nat) (w : World) : Calls Try.prog 92 #[.slice A 0 c] w fun e w' => e = .returned (.slice A 0 c) ∧ w' = w := by
 go_enter Try.func92, Try.ntmps92
 go_wp2
 go_ret
 exact ⟨rfl, rfl⟩
def slices_Compact_int_int.f (l0 : List Int) : Option (List Int) := if l0.length < 1099511627776 then some (Go.Lib.compactUpTo l0.toArray l0.length) else none
set_option maxHeartbeats 1000000 in
set_option maxRecDepth 100000 in
theorem slices_Compact_int_int.calls (P0_ : Nat → Prop) (u9000_ : Value) (l0 : List Int) (r : List Int) (w0 w : World) (hB : Below w0.heap.size w0 w) (ho0 : Kd.R (Kd.int .i64) 3 w w0.heap.size P0_ u9000_ l0) (h : slices_Compact_int_int.f l0 = some r) :
  Calls Try.prog 92 #[u9000_] w fun e w' => ∃ v0_ : Value, e = .returned v0_ ∧ Kd.R (Kd.int .i64) 3 w' w0.heap.size (fun k_ => (P0_ k_ ∨ w.heap.size ≤ k_)) v0_ r ∧ Below w0.heap.size w0 w' ∧ Kept w w' (fun k_ => P0_ k_) := by
 unfold slices_Compact_int_int.f at h
 split at h
 case isFalse => exact absurd h (by simp)
 case isTrue hl =>
 obtain rfl := Option.some.inj h
 clear h
 rcases List.eq_nil_or_concat l0 with rfl | ⟨l', x', hx⟩
 ·obtain ⟨A1, c1, rfl⟩ := Kd.R_slice ho0
  refine Calls.mono (compact_nil A1 c1 w) ?_
  rintro e w' ⟨rfl, rfl⟩
  exact ⟨_, rfl, Kd.R_mono ho0 (fun _ hk => .inl hk), hB, Kept.refl _ _⟩
 ·have hne : l0 ≠ [] := by rw [hx]; simp
  obtain ⟨g, cap, rfl, hH, hg, hbg, hP⟩ := SortRow.holds_of_R (RowOne.flatI .i64) ho0 hne
  have hcap : l0.length ≤ cap ∧ cap ≤ 9223372036854775807 := by
   obtain ⟨_, inner, ho, _⟩ := ho0
   rcases ho.2 with ⟨e, _⟩ | ⟨g', cap', cur, e, _, _, q1, q2, _⟩
   ·cases e
   cases e; exact ⟨q1, by unfold maxLen at q2; omega⟩
  have hcon := Go.Proofs.AnyE.slices_Compact (P := Try.prog) Lay.compI (Value.int .i64) (fun _ => rfl) (EqlAt.intD _ _ _) (NeqAt.intD _ _ _) 0 Try.zeroValue3 g 0 cap l0.toArray w (RowOne.holds_one _ hH) (by simp; omega) (by simpa using hcap.1)
  refine Calls.mono hcon ?_
  rintro e w' ⟨rfl, q, rfl⟩
  have hle := compactUpTo_length l0
  have e1 : l0.toArray.size = l0.length := by simp
  rw [e1] at *
  have hlen : (Go.Lib.compactUpTo l0.toArray l0.length ++ List.replicate (l0.length - (Go.Lib.compactUpTo l0.toArray l0.length).length) 0).length = l0.length := by
   rw [List.length_append, List.length_replicate]; omega
  have hR := SortRow.R_of_sorted (RowOne.flatI .i64) (by decide) ho0 rfl hlen hne q #[]
  have ew : Go.Proofs.sortWorldK (fun x => [Value.int .i64 x]) (Kd.int .i64).sz w g 0 q (Go.Lib.compactUpTo l0.toArray l0.length ++ List.replicate (l0.length - (Go.Lib.compactUpTo l0.toArray l0.length).length) 0).toArray #[] = Go.Sort.putRow (Value.int .i64) (Go.Sort.ahead w q) g 0 (Go.Lib.compactUpTo l0.toArray l0.length ++ List.replicate (l0.length - (Go.Lib.compactUpTo l0.toArray l0.length).length) 0).toArray := by
   rw [RowOne.putRow_one]
   unfold Go.Proofs.sortWorldK
   exact Go.Sort.grow_empty _
  have hb := SortRow.below_sorted (d := Kd.int .i64) (enc := fun x => [Value.int .i64 x]) hB g q (Go.Lib.compactUpTo l0.toArray l0.length ++ List.replicate (l0.length - (Go.Lib.compactUpTo l0.toArray l0.length).length) 0).toArray #[] hbg
  have hk := SortRow.kept_sorted (d := Kd.int .i64) (enc := fun x => [Value.int .i64 x]) w g q (Go.Lib.compactUpTo l0.toArray l0.length ++ List.replicate (l0.length - (Go.Lib.compactUpTo l0.toArray l0.length).length) 0).toArray #[] P0_ hP
  rw [ew] at hR hb hk
  have hT := Kd.R_take (m := (Go.Lib.compactUpTo l0.toArray l0.length).length) hR (by rw [hlen]; exact hle)
  rw [List.take_left] at hT
  exact ⟨_, rfl, Kd.R_mono hT (fun _ hk => .inl hk), hb, hk⟩

section
open Go.Proofs.Ytcofgnbopodahaa.RegInv
attribute [local go_sem] max2_int min2_int max_two min_two Oper.semAt_some
theorem sides_is (x0 x1 x2 x3 x4 x5 : Int) (w : World) : Calls Try.prog 71 #[.agg #[.int .i64 x0, .int .i64 x1, .int .i64 x2, .int .i64 x3, .int .i64 x4, .int .i64 x5]] w fun e w' => e = .returned (.agg #[.int .i64 x0, .int .i64 x3, .int .i64 x1, .int .i64 x4, .int .i64 x2, .int .i64 x5]) ∧ Below w.heap.size w w' :=
 box_sides.calls x0 x1 x2 x3 x4 x5 x0 x3 x1 x4 x2 x5 w rfl
def box_common.f (a0_0 a0_1 a0_2 a0_3 a0_4 a0_5 a1_0 a1_1 a1_2 a1_3 a1_4 a1_5 : Int) : Option (Int × Int × Int × Int × Int × Int) := some ((mx a0_0 a1_0), (mn a0_3 a1_3), (mx a0_1 a1_1), (mn a0_4 a1_4), (mx a0_2 a1_2), (mn a0_5 a1_5))
set_option maxHeartbeats 4000000 in
set_option maxRecDepth 100000 in
theorem box_common.calls (a0_0 a0_1 a0_2 a0_3 a0_4 a0_5 a1_0 a1_1 a1_2 a1_3 a1_4 a1_5 : Int) (r1 r2 r3 r4 r5 r6 : Int) (w : World) (h : box_common.f a0_0 a0_1 a0_2 a0_3 a0_4 a0_5 a1_0 a1_1 a1_2 a1_3 a1_4 a1_5 = some (r1, r2, r3, r4, r5, r6)) :
  Calls Try.prog 79 #[.agg #[.int .i64 a0_0, .int .i64 a0_1, .int .i64 a0_2, .int .i64 a0_3, .int .i64 a0_4, .int .i64 a0_5], .agg #[.int .i64 a1_0, .int .i64 a1_1, .int .i64 a1_2, .int .i64 a1_3, .int .i64 a1_4, .int .i64 a1_5]] w fun e w' => e = .returned (.agg #[.int .i64 r1, .int .i64 r2, .int .i64 r3, .int .i64 r4, .int .i64 r5, .int .i64 r6]) ∧ Below w.heap.size w w' := by
 simp only [box_common.f, Option.some.injEq, Prod.mk.injEq] at h
 obtain ⟨rfl, rfl, rfl, rfl, rfl, rfl⟩ := h
 have hu43 := Try.underlying43
 have hu96 := Try.underlying96
 have hu65 := Try.underlying65
 have HS := am sides_is
 go_enter Try.func79, Try.ntmps79
 go_wp2_with fail
 obtain ⟨W, hW⟩ : ∃ W, W = ((w.alloc (.cells #[.int .i64 a0_0, .int .i64 a0_1, .int .i64 a0_2, .int .i64 a0_3, .int .i64 a0_4, .int .i64 a0_5] 43)).alloc (.cells #[.int .i64 a1_0, .int .i64 a1_1, .int .i64 a1_2, .int .i64 a1_3, .int .i64 a1_4, .int .i64 a1_5] 43)).alloc (.cells #[.int .i64 0, .int .i64 0, .int .i64 0, .int .i64 0, .int .i64 0, .int .i64 0] 96) := ⟨_, rfl⟩
 have B_0 : W.heap[w.heap.size]? = some (Obj.cells #[.int .i64 a0_0, .int .i64 a0_1, .int .i64 a0_2, .int .i64 a0_3, .int .i64 a0_4, .int .i64 a0_5] 43 (0, 0)) := by
  rw [hW]; have h := blk_new w (.cells #[.int .i64 a0_0, .int .i64 a0_1, .int .i64 a0_2, .int .i64 a0_3, .int .i64 a0_4, .int .i64 a0_5] 43)
  exact ba (ba (h) _) _
 have B_1 : W.heap[w.heap.size + 1]? = some (Obj.cells #[.int .i64 a1_0, .int .i64 a1_1, .int .i64 a1_2, .int .i64 a1_3, .int .i64 a1_4, .int .i64 a1_5] 43 (0, 0)) := by
  rw [hW]; have h := blk_new (w.alloc (.cells #[.int .i64 a0_0, .int .i64 a0_1, .int .i64 a0_2, .int .i64 a0_3, .int .i64 a0_4, .int .i64 a0_5] 43)) (.cells #[.int .i64 a1_0, .int .i64 a1_1, .int .i64 a1_2, .int .i64 a1_3, .int .i64 a1_4, .int .i64 a1_5] 43)
  rw [World.size_alloc] at h; exact ba (h) _
 have B_2 : W.heap[w.heap.size + 1 + 1]? = some (Obj.cells #[.int .i64 0, .int .i64 0, .int .i64 0, .int .i64 0, .int .i64 0, .int .i64 0] 96 (0, 0)) := by
  rw [hW]; have h := blk_new ((w.alloc (.cells #[.int .i64 a0_0, .int .i64 a0_1, .int .i64 a0_2, .int .i64 a0_3, .int .i64 a0_4, .int .i64 a0_5] 43)).alloc (.cells #[.int .i64 a1_0, .int .i64 a1_1, .int .i64 a1_2, .int .i64 a1_3, .int .i64 a1_4, .int .i64 a1_5] 43)) (.cells #[.int .i64 0, .int .i64 0, .int .i64 0, .int .i64 0, .int .i64 0, .int .i64 0] 96)
  rw [World.size_alloc, World.size_alloc] at h; exact h
 have hb0 : Below w.heap.size w W := by rw [hW]; exact wa (wa (wa ((Below.refl _ _)) _) _) _
 rw [← hW]
 clear hW
 have HB := am hb0
 have K0 := am B_0
 have K1 := am B_1
 have K2 := am B_2
 clear hb0 B_0 B_1 B_2
 refine RegInv.region_inv (fun f a W' => ∃ s8 s9 s10 s11 s5 s6 : Value, a = { tmps := #[.agg #[.int .i64 a0_0, .int .i64 a0_1, .int .i64 a0_2, .int .i64 a0_3, .int .i64 a0_4, .int .i64 a0_5], .agg #[.int .i64 a1_0, .int .i64 a1_1, .int .i64 a1_2, .int .i64 a1_3, .int .i64 a1_4, .int .i64 a1_5], .pointer (some ⟨w.heap.size, 0, none⟩), .pointer (some ⟨w.heap.size + 1, 0, none⟩), .pointer (some ⟨w.heap.size + 1 + 1, 0, none⟩), s5, s6, undef, s8, s9, s10, s11, undef, undef, undef, undef, undef, undef, undef, undef, undef, undef, undef, undef, undef, undef, undef, undef, undef, undef, undef, undef, undef, undef, undef, undef, undef, undef], defers := [] } ∧ (f 0 = true → s8 = .agg #[.int .i64 a0_0, .int .i64 a0_1, .int .i64 a0_2, .int .i64 a0_3, .int .i64 a0_4, .int .i64 a0_5]) ∧ (f 1 = true → s9 = .agg #[.int .i64 a0_0, .int .i64 a0_3, .int .i64 a0_1, .int .i64 a0_4, .int .i64 a0_2, .int .i64 a0_5]) ∧ (f 2 = true → s10 = .agg #[.int .i64 a1_0, .int .i64 a1_1, .int .i64 a1_2, .int .i64 a1_3, .int .i64 a1_4, .int .i64 a1_5]) ∧ (f 3 = true → s11 = .agg #[.int .i64 a1_0, .int .i64 a1_3, .int .i64 a1_1, .int .i64 a1_4, .int .i64 a1_2, .int .i64 a1_5]) ∧ (f 4 = true → ∃ g, s5 = .pointer (some ⟨g, 0, none⟩) ∧ w.heap.size + 3 ≤ g ∧ W'.heap[g]? = some (Obj.cells (if f 6 = true then #[.int .i64 a0_0, .int .i64 a0_3, .int .i64 a0_1, .int .i64 a0_4, .int .i64 a0_2, .int .i64 a0_5] else #[.int .i64 0, .int .i64 0, .int .i64 0, .int .i64 0, .int .i64 0, .int .i64 0]) 96 (0, 0))) ∧ (f 5 = true → ∃ g, s6 = .pointer (some ⟨g, 0, none⟩) ∧ w.heap.size + 3 ≤ g ∧ W'.heap[g]? = some (Obj.cells (if f 7 = true then #[.int .i64 a1_0, .int .i64 a1_3, .int .i64 a1_1, .int .i64 a1_4, .int .i64 a1_2, .int .i64 a1_5] else #[.int .i64 0, .int .i64 0, .int .i64 0, .int .i64 0, .int .i64 0, .int .i64 0]) 96 (0, 0))) ∧ (s5 = s6 → f 4 = true → f 5 = true → False) ∧ (f 6 = true → f 4 = true) ∧ (f 7 = true → f 5 = true) ∧ W'.heap[w.heap.size]? = some (Obj.cells #[.int .i64 a0_0, .int .i64 a0_1, .int .i64 a0_2, .int .i64 a0_3, .int .i64 a0_4, .int .i64 a0_5] 43 (0, 0)) ∧ W'.heap[w.heap.size + 1]? = some (Obj.cells #[.int .i64 a1_0, .int .i64 a1_1, .int .i64 a1_2, .int .i64 a1_3, .int .i64 a1_4, .int .i64 a1_5] 43 (0, 0)) ∧ W'.heap[w.heap.size + 1 + 1]? = some (Obj.cells #[.int .i64 0, .int .i64 0, .int .i64 0, .int .i64 0, .int .i64 0, .int .i64 0] 96 (0, 0)) ∧ Below w.heap.size w W') (by kernel_rfl) (by kernel_rfl) ?h0 ?hstep ?hend
 case h0 => exact ⟨_, _, _, _, _, _, rfl, nofun, nofun, nofun, nofun, nofun, nofun, nofun, nofun, nofun, bd K0.out, bd K1.out, bd K2.out, wd HB.out⟩
 case hstep =>
  clear K0 K1 K2 HB
  intro i o ho f a W' hI hfi hdep K hK
  obtain ⟨s8, s9, s10, s11, s5, s6, rfl, h0, h1, h2, h3, h4, h5, n4_5, d6, d7, k0, k1, k2, hb⟩ := hI
  have HK := am hK
  clear hK
  rcases i with _ | _ | _ | _ | _ | _ | _ | _ | i
  all_goals (first | obtain rfl := Option.some.inj ho | skip)
  all_goals have A := am (And.intro h0 (And.intro h1 (And.intro h2 (And.intro h3 (And.intro h4 (And.intro h5 (And.intro n4_5 (And.intro d6 d7))))))))
  all_goals clear h0 h1 h2 h3 h4 h5 n4_5 d6 d7
  ·clear hdep
   obtain ⟨p0, p1, p2, p3, p4, p5⟩ := RegInv.cells6 k0
   go_wp2_with fail
   obtain ⟨h0, h1, h2, h3, h4, h5, n4_5, d6, d7⟩ := A.out
   exact HK.out _ _ ⟨_, _, _, _, _, _, rfl, (fun _ => rfl), h1, h2, h3, h4, h5, n4_5, d6, d7, k0, k1, k2, hb⟩
  ·obtain ⟨h0, h1, h2, h3, h4, h5, n4_5, d6, d7⟩ := A.out
   obtain rfl := h0 (hdep { on := 0, ground := .data } (by simp) rfl)
   clear hdep h0 h1 h2 h3 h4 h5 n4_5 d6 d7
   go_wp2_with (go_at_call 71; refine (HS.out _ _ _ _ _ _ _).mono ?_; rintro e w2 ⟨rfl, hb2⟩; have HB2 := am hb2; clear hb2)
   obtain ⟨h0, h1, h2, h3, h4, h5, n4_5, d6, d7⟩ := A.out
   have hb2 := HB2.out
   exact HK.out _ _ ⟨_, _, _, _, _, _, rfl, (fun _ => rfl), (fun _ => rfl), h2, h3, (fun h => by obtain ⟨g', f1, f2, f3⟩ := h4 h; exact ⟨g', f1, f2, bb f3 hb2⟩), (fun h => by obtain ⟨g', f1, f2, f3⟩ := h5 h; exact ⟨g', f1, f2, bb f3 hb2⟩), n4_5, d6, d7, bb k0 hb2, bb k1 hb2, bb k2 hb2, below_step hb hb2⟩
  ·clear hdep
   obtain ⟨p0, p1, p2, p3, p4, p5⟩ := RegInv.cells6 k1
   go_wp2_with fail
   obtain ⟨h0, h1, h2, h3, h4, h5, n4_5, d6, d7⟩ := A.out
   exact HK.out _ _ ⟨_, _, _, _, _, _, rfl, h0, h1, (fun _ => rfl), h3, h4, h5, n4_5, d6, d7, k0, k1, k2, hb⟩
  ·obtain ⟨h0, h1, h2, h3, h4, h5, n4_5, d6, d7⟩ := A.out
   obtain rfl := h2 (hdep { on := 2, ground := .data } (by simp) rfl)
   clear hdep h0 h1 h2 h3 h4 h5 n4_5 d6 d7
   go_wp2_with (go_at_call 71; refine (HS.out _ _ _ _ _ _ _).mono ?_; rintro e w2 ⟨rfl, hb2⟩; have HB2 := am hb2; clear hb2)
   obtain ⟨h0, h1, h2, h3, h4, h5, n4_5, d6, d7⟩ := A.out
   have hb2 := HB2.out
   exact HK.out _ _ ⟨_, _, _, _, _, _, rfl, h0, h1, (fun _ => rfl), (fun _ => rfl), (fun h => by obtain ⟨g', f1, f2, f3⟩ := h4 h; exact ⟨g', f1, f2, bb f3 hb2⟩), (fun h => by obtain ⟨g', f1, f2, f3⟩ := h5 h; exact ⟨g', f1, f2, bb f3 hb2⟩), n4_5, d6, d7, bb k0 hb2, bb k1 hb2, bb k2 hb2, below_step hb hb2⟩
  ·clear hdep
   have sz := blk_lt k2
   go_wp2_with fail
   obtain ⟨h0, h1, h2, h3, h4, h5, n4_5, d6, d7⟩ := A.out
   have hf : ¬ f 6 = true := fun h => by rw [d6 h] at hfi; cases hfi
   refine HK.out _ _ ⟨_, _, _, _, _, _, rfl, h0, h1, h2, h3, (fun _ => ⟨_, rfl, by omega, ?_⟩), (fun h => by obtain ⟨g', f1, f2, f3⟩ := h5 h; exact ⟨g', f1, f2, ba f3 _⟩), (fun he h1 h2 => by obtain ⟨g, e1, e2, e3⟩ := h5 h2; have := blk_lt e3; rw [e1] at he; cases he; omega), (fun _ => rfl), d7, ba k0 _, ba k1 _, ba k2 _, wa hb _⟩
   show (W'.alloc _).heap[_]? = some (Obj.cells (if f 6 = true then _ else _) 96 (0, 0))
   rw [if_neg hf]
   exact blk_new W' _
  ·clear hdep
   have sz := blk_lt k2
   go_wp2_with fail
   obtain ⟨h0, h1, h2, h3, h4, h5, n4_5, d6, d7⟩ := A.out
   have hf : ¬ f 7 = true := fun h => by rw [d7 h] at hfi; cases hfi
   refine HK.out _ _ ⟨_, _, _, _, _, _, rfl, h0, h1, h2, h3, (fun h => by obtain ⟨g', f1, f2, f3⟩ := h4 h; exact ⟨g', f1, f2, ba f3 _⟩), (fun _ => ⟨_, rfl, by omega, ?_⟩), (fun he h1 h2 => by obtain ⟨g, e1, e2, e3⟩ := h4 h1; have := blk_lt e3; rw [e1] at he; cases he; omega), d6, (fun _ => rfl), ba k0 _, ba k1 _, ba k2 _, wa hb _⟩
   show (W'.alloc _).heap[_]? = some (Obj.cells (if f 7 = true then _ else _) 96 (0, 0))
   rw [if_neg hf]
   exact blk_new W' _
  ·obtain ⟨h0, h1, h2, h3, h4, h5, n4_5, d6, d7⟩ := A.out
   have d0 := hdep { on := 4, ground := .data } (by simp) rfl
   obtain rfl := h1 (hdep { on := 1, ground := .data } (by simp) rfl)
   obtain ⟨g, rfl, e2, e3⟩ := h4 d0
   rw [if_neg (by rw [hfi]; decide)] at e3
   clear hdep h0 h1 h2 h3 h4 h5 n4_5 d6 d7
   have D0 := am d0
   clear d0
   obtain ⟨p0, p1, p2, p3, p4, p5⟩ := RegInv.cells6 e3
   obtain ⟨q0, q1, q2, q3, q4, q5⟩ := RegInv.free6 e3
   go_wp2_with fail
   obtain ⟨h0, h1, h2, h3, h4, h5, n4_5, d6, d7⟩ := A.out
   exact HK.out _ (RegInv.set6 W' g _ _ _ _ _ _) ⟨_, _, _, _, _, _, rfl, h0, (fun _ => rfl), h2, h3, (fun _ => ⟨g, rfl, e2, RegInv.set6_at e3⟩), (fun h => by obtain ⟨g', f1, f2, f3⟩ := h5 h; exact ⟨g', f1, f2, RegInv.set6_far f3 (fun e => n4_5 (by rw [f1, e]) D0.out h)⟩), n4_5, (fun _ => D0.out), d7, RegInv.set6_far k0 (by omega), RegInv.set6_far k1 (by omega), RegInv.set6_far k2 (by omega), RegInv.set6_below hb (by omega)⟩
  ·obtain ⟨h0, h1, h2, h3, h4, h5, n4_5, d6, d7⟩ := A.out
   have d0 := hdep { on := 5, ground := .data } (by simp) rfl
   obtain rfl := h3 (hdep { on := 3, ground := .data } (by simp) rfl)
   obtain ⟨g, rfl, e2, e3⟩ := h5 d0
   rw [if_neg (by rw [hfi]; decide)] at e3
   clear hdep h0 h1 h2 h3 h4 h5 n4_5 d6 d7
   have D0 := am d0
   clear d0
   obtain ⟨p0, p1, p2, p3, p4, p5⟩ := RegInv.cells6 e3
   obtain ⟨q0, q1, q2, q3, q4, q5⟩ := RegInv.free6 e3
   go_wp2_with fail
   obtain ⟨h0, h1, h2, h3, h4, h5, n4_5, d6, d7⟩ := A.out
   exact HK.out _ (RegInv.set6 W' g _ _ _ _ _ _) ⟨_, _, _, _, _, _, rfl, h0, h1, h2, (fun _ => rfl), (fun h => by obtain ⟨g', f1, f2, f3⟩ := h4 h; exact ⟨g', f1, f2, RegInv.set6_far f3 (fun e => n4_5 (by rw [f1, e]) h D0.out)⟩), (fun _ => ⟨g, rfl, e2, RegInv.set6_at e3⟩), n4_5, d6, (fun _ => D0.out), RegInv.set6_far k0 (by omega), RegInv.set6_far k1 (by omega), RegInv.set6_far k2 (by omega), RegInv.set6_below hb (by omega)⟩
  simp at ho
 case hend =>
  clear K0 K1 K2 HB
  intro f a W' hI hall
  obtain ⟨s8, s9, s10, s11, s5, s6, rfl, h0, h1, h2, h3, h4, h5, n4_5, d6, d7, k0, k1, k2, hb⟩ := hI
  obtain ⟨g5, rfl, l5, b5⟩ := h4 (hall 4 (by decide))
  rw [if_pos (hall 6 (by decide))] at b5
  obtain ⟨g6, rfl, l6, b6⟩ := h5 (hall 5 (by decide))
  rw [if_pos (hall 7 (by decide))] at b6
  have ne5_6 : g5 ≠ g6 := fun e => n4_5 (by rw [e]) (hall 4 (by decide)) (hall 5 (by decide))
  obtain rfl := h0 (hall 0 (by decide))
  obtain rfl := h1 (hall 1 (by decide))
  obtain rfl := h2 (hall 2 (by decide))
  obtain rfl := h3 (hall 3 (by decide))
  clear h0 h1 h2 h3 h4 h5 n4_5 d6 d7 hall
  dsimp only
  have NE5_6 := am ne5_6
  have B5 := am b5
  have B6 := am b6
  have K0 := am k0
  have K1 := am k1
  have K2 := am k2
  have HB := am hb
  clear hb b5 b6 k0 k1 k2 ne5_6
  obtain ⟨j0, m0⟩ : ∃ j_ : Int, (if a0_0 < a1_0 then a1_0 else a0_0) = j_ := ⟨_, rfl⟩
  obtain ⟨j1, m1⟩ : ∃ j_ : Int, (if a1_3 < a0_3 then a1_3 else a0_3) = j_ := ⟨_, rfl⟩
  obtain ⟨j2, m2⟩ : ∃ j_ : Int, (if a0_1 < a1_1 then a1_1 else a0_1) = j_ := ⟨_, rfl⟩
  obtain ⟨j3, m3⟩ : ∃ j_ : Int, (if a1_4 < a0_4 then a1_4 else a0_4) = j_ := ⟨_, rfl⟩
  obtain ⟨j4, m4⟩ : ∃ j_ : Int, (if a0_2 < a1_2 then a1_2 else a0_2) = j_ := ⟨_, rfl⟩
  obtain ⟨j5, m5⟩ : ∃ j_ : Int, (if a1_5 < a0_5 then a1_5 else a0_5) = j_ := ⟨_, rfl⟩
  have lg : w.heap.size ≤ g5 := by omega
  go_wp2
  refine wp_loop_rounds 9 ?_
  rw [rounds_succ]
  obtain ⟨p0, p1, p2, p3, p4, p5⟩ := RegInv.cells6 B5.out
  obtain ⟨q0, q1, q2, q3, q4, q5⟩ := RegInv.cells6 B6.out
  go_wp2
  go_still_tail 21, (by kernel_rfl)
  clear p0 p1 p2 p3 p4 p5 q0 q1 q2 q3 q4 q5
  replace B5 := am (bd B5.out)
  replace B6 := am (bd B6.out)
  replace K2 := am (bd K2.out)
  replace HB := am (wd HB.out)
  change wpList _ _ _ _ _ W'.drew
  generalize W'.drew = V1 at B5 B6 K2 HB ⊢
  obtain ⟨p0, p1, p2, p3, p4, p5⟩ := RegInv.cells6 B5.out
  obtain ⟨r0, r1, r2, r3, r4, r5⟩ := RegInv.free6 B5.out
  go_wp2
  rw [rounds_succ]
  clear p0 p1 p2 p3 p4 p5 r0 r1 r2 r3 r4 r5
  replace B5 := am (blk_put (blk_put B5.out 0 (.int .i64 j0) rfl) 1 (.int .i64 j1) rfl)
  replace B6 := am (blk_far (p := ⟨g5, 1, none⟩) (blk_far (p := ⟨g5, 0, none⟩) B6.out (Ne.symm NE5_6.out) (.int .i64 j0)) (Ne.symm NE5_6.out) (.int .i64 j1))
  replace K2 := am (blk_far (p := ⟨g5, 1, none⟩) (blk_far (p := ⟨g5, 0, none⟩) K2.out (by simp; omega) (.int .i64 j0)) (by simp; omega) (.int .i64 j1))
  replace HB := am (below_set (j := 1) (v := .int .i64 j1) (below_set (j := 0) (v := .int .i64 j0) HB.out lg) lg)
  generalize (V1.setCell ⟨g5, 0, none⟩ (.int .i64 j0)).setCell ⟨g5, 1, none⟩ (.int .i64 j1) = W1 at B5 B6 K2 HB ⊢
  obtain ⟨p0, p1, p2, p3, p4, p5⟩ := RegInv.cells6 B5.out
  obtain ⟨q0, q1, q2, q3, q4, q5⟩ := RegInv.cells6 B6.out
  go_wp2
  go_still_tail 21, (by kernel_rfl)
  clear p0 p1 p2 p3 p4 p5 q0 q1 q2 q3 q4 q5
  replace B5 := am (bd B5.out)
  replace B6 := am (bd B6.out)
  replace K2 := am (bd K2.out)
  replace HB := am (wd HB.out)
  change wpList _ _ _ _ _ W1.drew
  generalize W1.drew = V2 at B5 B6 K2 HB ⊢
  obtain ⟨p0, p1, p2, p3, p4, p5⟩ := RegInv.cells6 B5.out
  obtain ⟨r0, r1, r2, r3, r4, r5⟩ := RegInv.free6 B5.out
  go_wp2
  rw [rounds_succ]
  clear p0 p1 p2 p3 p4 p5 r0 r1 r2 r3 r4 r5
  replace B5 := am (blk_put (blk_put B5.out 2 (.int .i64 j2) rfl) 3 (.int .i64 j3) rfl)
  replace B6 := am (blk_far (p := ⟨g5, 3, none⟩) (blk_far (p := ⟨g5, 2, none⟩) B6.out (Ne.symm NE5_6.out) (.int .i64 j2)) (Ne.symm NE5_6.out) (.int .i64 j3))
  replace K2 := am (blk_far (p := ⟨g5, 3, none⟩) (blk_far (p := ⟨g5, 2, none⟩) K2.out (by simp; omega) (.int .i64 j2)) (by simp; omega) (.int .i64 j3))
  replace HB := am (below_set (j := 3) (v := .int .i64 j3) (below_set (j := 2) (v := .int .i64 j2) HB.out lg) lg)
  generalize (V2.setCell ⟨g5, 2, none⟩ (.int .i64 j2)).setCell ⟨g5, 3, none⟩ (.int .i64 j3) = W2 at B5 B6 K2 HB ⊢
  obtain ⟨p0, p1, p2, p3, p4, p5⟩ := RegInv.cells6 B5.out
  obtain ⟨q0, q1, q2, q3, q4, q5⟩ := RegInv.cells6 B6.out
  go_wp2
  go_still_tail 21, (by kernel_rfl)
  clear p0 p1 p2 p3 p4 p5 q0 q1 q2 q3 q4 q5
  replace B5 := am (bd B5.out)
  replace B6 := am (bd B6.out)
  replace K2 := am (bd K2.out)
  replace HB := am (wd HB.out)
  change wpList _ _ _ _ _ W2.drew
  generalize W2.drew = V3 at B5 B6 K2 HB ⊢
  obtain ⟨p0, p1, p2, p3, p4, p5⟩ := RegInv.cells6 B5.out
  obtain ⟨r0, r1, r2, r3, r4, r5⟩ := RegInv.free6 B5.out
  go_wp2
  rw [rounds_succ]
  clear p0 p1 p2 p3 p4 p5 r0 r1 r2 r3 r4 r5
  replace B5 := am (blk_put (blk_put B5.out 4 (.int .i64 j4) rfl) 5 (.int .i64 j5) rfl)
  replace B6 := am (blk_far (p := ⟨g5, 5, none⟩) (blk_far (p := ⟨g5, 4, none⟩) B6.out (Ne.symm NE5_6.out) (.int .i64 j4)) (Ne.symm NE5_6.out) (.int .i64 j5))
  replace K2 := am (blk_far (p := ⟨g5, 5, none⟩) (blk_far (p := ⟨g5, 4, none⟩) K2.out (by simp; omega) (.int .i64 j4)) (by simp; omega) (.int .i64 j5))
  replace HB := am (below_set (j := 5) (v := .int .i64 j5) (below_set (j := 4) (v := .int .i64 j4) HB.out lg) lg)
  generalize (V3.setCell ⟨g5, 4, none⟩ (.int .i64 j4)).setCell ⟨g5, 5, none⟩ (.int .i64 j5) = W3 at B5 B6 K2 HB ⊢
  obtain ⟨p0, p1, p2, p3, p4, p5⟩ := RegInv.cells6 B5.out
  obtain ⟨q0, q1, q2, q3, q4, q5⟩ := RegInv.cells6 K2.out
  obtain ⟨r0, r1, r2, r3, r4, r5⟩ := RegInv.free6 K2.out
  go_wp2
  have K3 := RegInv.set6_at (a' := .int .i64 j0) (b' := .int .i64 j1) (c' := .int .i64 j2) (d' := .int .i64 j3) (e' := .int .i64 j4) (f' := .int .i64 j5) K2.out
  refine bodyPost_ret (results_cell_row rfl _ _ (w.heap.size + 1 + 1) 96 #[.int .i64 j0, .int .i64 j1, .int .i64 j2, .int .i64 j3, .int .i64 j4, .int .i64 j5] (0, 0) _ rfl K3 Try.underlying96 rfl (by kernel_rfl)) rfl ?_
  exact ⟨by rw [← m0, ← m1, ← m2, ← m3, ← m4, ← m5]; rfl, RegInv.set6_below HB.out (by omega)⟩
end

section
open Go.Proofs.Ytcofgnbopodahaa.RegInv
attribute [local go_sem] max2_int min2_int max_two min_two Oper.semAt_some
theorem common_is (x0 x1 x2 x3 x4 x5 y0 y1 y2 y3 y4 y5 : Int) (w : World) : Calls Try.prog 79 #[.agg #[.int .i64 x0, .int .i64 x1, .int .i64 x2, .int .i64 x3, .int .i64 x4, .int .i64 x5], .agg #[.int .i64 y0, .int .i64 y1, .int .i64 y2, .int .i64 y3, .int .i64 y4, .int .i64 y5]] w fun e w' => e = .returned (.agg #[.int .i64 (mx x0 y0), .int .i64 (mn x3 y3), .int .i64 (mx x1 y1), .int .i64 (mn x4 y4), .int .i64 (mx x2 y2), .int .i64 (mn x5 y5)]) ∧ Below w.heap.size w w' :=
 box_common.calls x0 x1 x2 x3 x4 x5 y0 y1 y2 y3 y4 y5 _ _ _ _ _ _ w rfl
def box_Overlap.f (a0_0 a0_1 a0_2 a0_3 a0_4 a0_5 a1_0 a1_1 a1_2 a1_3 a1_4 a1_5 : Int) : Option Bool := some (decide ((mx a0_0 a1_0) < (mn a0_3 a1_3)) && (decide ((mx a0_1 a1_1) < (mn a0_4 a1_4)) && decide ((mx a0_2 a1_2) < (mn a0_5 a1_5))))
set_option maxHeartbeats 4000000 in
set_option maxRecDepth 100000 in
theorem overlap_core (c0 c1 c2 c3 c4 c5 : Int) (a0_0 a0_1 a0_2 a0_3 a0_4 a0_5 a1_0 a1_1 a1_2 a1_3 a1_4 a1_5 : Int) (w : World) (hc : ∀ W, Calls Try.prog 79 #[.agg #[.int .i64 a0_0, .int .i64 a0_1, .int .i64 a0_2, .int .i64 a0_3, .int .i64 a0_4, .int .i64 a0_5], .agg #[.int .i64 a1_0, .int .i64 a1_1, .int .i64 a1_2, .int .i64 a1_3, .int .i64 a1_4, .int .i64 a1_5]] W fun e w' => e = .returned (.agg #[.int .i64 c0, .int .i64 c1, .int .i64 c2, .int .i64 c3, .int .i64 c4, .int .i64 c5]) ∧ Below W.heap.size W w') :
  Calls Try.prog 60 #[.agg #[.int .i64 a0_0, .int .i64 a0_1, .int .i64 a0_2, .int .i64 a0_3, .int .i64 a0_4, .int .i64 a0_5], .agg #[.int .i64 a1_0, .int .i64 a1_1, .int .i64 a1_2, .int .i64 a1_3, .int .i64 a1_4, .int .i64 a1_5]] w fun e w' => e = .returned (.bool (decide (c0 < c1) && (decide (c2 < c3) && decide (c4 < c5)))) ∧ Below w.heap.size w w' := by
 have hu43 := Try.underlying43
 have hu96 := Try.underlying96
 have hu65 := Try.underlying65
 have HC := am hc
 clear hc
 have hix0 : ∀ (a b c d e f : Value) (W_ : World), Sem.run Try.prog (Instr.index 96 (.agg #[a, b, c, d, e, f]) (.int .i64 0)) W_ = .ok (.agg #[a, b]) W_ := fun _ _ _ _ _ _ _ => by kernel_rfl
 have hix1 : ∀ (a b c d e f : Value) (W_ : World), Sem.run Try.prog (Instr.index 96 (.agg #[a, b, c, d, e, f]) (.int .i64 1)) W_ = .ok (.agg #[c, d]) W_ := fun _ _ _ _ _ _ _ => by kernel_rfl
 have hix2 : ∀ (a b c d e f : Value) (W_ : World), Sem.run Try.prog (Instr.index 96 (.agg #[a, b, c, d, e, f]) (.int .i64 2)) W_ = .ok (.agg #[e, f]) W_ := fun _ _ _ _ _ _ _ => by kernel_rfl
 by_cases g0 : c1 ≤ c0
 ·have d0 : decide (c1 ≤ c0) = true := decide_eq_true g0
  have HD0 := am (show decide (c0 < c1) = false from decide_eq_false (by omega))
  clear g0
  go_enter Try.func60, Try.ntmps60
  go_wp2_with (go_at_call 79; refine (HC.out _).mono ?_; rintro e w2 ⟨rfl, hb⟩; have HB := am (below_step (wa (wa (Below.refl _ _) _) _) hb); clear hb)
  refine wp_loop_rounds 9 ?_
  rw [rounds_succ]
  go_wp2
  go_ret
  exact ⟨by rw [HD0.out]; rfl, (by repeat (first | exact HB.out | apply wa | apply pw_below_drewN | apply wd))⟩
 have d0 : decide (c1 ≤ c0) = false := decide_eq_false g0
 have HD0 := am (show decide (c0 < c1) = true from decide_eq_true (by omega))
 clear g0
 by_cases g1 : c3 ≤ c2
 ·have d1 : decide (c3 ≤ c2) = true := decide_eq_true g1
  have HD1 := am (show decide (c2 < c3) = false from decide_eq_false (by omega))
  clear g1
  go_enter Try.func60, Try.ntmps60
  go_wp2_with (go_at_call 79; refine (HC.out _).mono ?_; rintro e w2 ⟨rfl, hb⟩; have HB := am (below_step (wa (wa (Below.refl _ _) _) _) hb); clear hb)
  refine wp_loop_rounds 9 ?_
  rw [rounds_succ]
  go_wp2
  rw [rounds_succ]
  go_wp2
  go_ret
  exact ⟨by rw [HD0.out, HD1.out]; rfl, (by repeat (first | exact HB.out | apply wa | apply pw_below_drewN | apply wd))⟩
 have d1 : decide (c3 ≤ c2) = false := decide_eq_false g1
 have HD1 := am (show decide (c2 < c3) = true from decide_eq_true (by omega))
 clear g1
 by_cases g2 : c5 ≤ c4
 ·have d2 : decide (c5 ≤ c4) = true := decide_eq_true g2
  have HD2 := am (show decide (c4 < c5) = false from decide_eq_false (by omega))
  clear g2
  go_enter Try.func60, Try.ntmps60
  go_wp2_with (go_at_call 79; refine (HC.out _).mono ?_; rintro e w2 ⟨rfl, hb⟩; have HB := am (below_step (wa (wa (Below.refl _ _) _) _) hb); clear hb)
  refine wp_loop_rounds 9 ?_
  rw [rounds_succ]
  go_wp2
  rw [rounds_succ]
  go_wp2
  rw [rounds_succ]
  go_wp2
  go_ret
  exact ⟨by rw [HD0.out, HD1.out, HD2.out]; rfl, (by repeat (first | exact HB.out | apply wa | apply pw_below_drewN | apply wd))⟩
 have d2 : decide (c5 ≤ c4) = false := decide_eq_false g2
 have HD2 := am (show decide (c4 < c5) = true from decide_eq_true (by omega))
 clear g2
 go_enter Try.func60, Try.ntmps60
 go_wp2_with (go_at_call 79; refine (HC.out _).mono ?_; rintro e w2 ⟨rfl, hb⟩; have HB := am (below_step (wa (wa (Below.refl _ _) _) _) hb); clear hb)
 refine wp_loop_rounds 9 ?_
 rw [rounds_succ]
 go_wp2
 rw [rounds_succ]
 go_wp2
 rw [rounds_succ]
 go_wp2
 rw [rounds_succ]
 go_wp2
 go_ret
 exact ⟨by rw [HD0.out, HD1.out, HD2.out]; rfl, (by repeat (first | exact HB.out | apply wa | apply pw_below_drewN | apply wd))⟩
theorem box_Overlap.calls (a0_0 a0_1 a0_2 a0_3 a0_4 a0_5 a1_0 a1_1 a1_2 a1_3 a1_4 a1_5 : Int) (r : Bool) (w : World) (h : box_Overlap.f a0_0 a0_1 a0_2 a0_3 a0_4 a0_5 a1_0 a1_1 a1_2 a1_3 a1_4 a1_5 = some r) :
  Calls Try.prog 60 #[.agg #[.int .i64 a0_0, .int .i64 a0_1, .int .i64 a0_2, .int .i64 a0_3, .int .i64 a0_4, .int .i64 a0_5], .agg #[.int .i64 a1_0, .int .i64 a1_1, .int .i64 a1_2, .int .i64 a1_3, .int .i64 a1_4, .int .i64 a1_5]] w fun e w' => e = .returned (.bool r) ∧ Below w.heap.size w w' := by
 obtain rfl := Option.some.inj h
 exact overlap_core _ _ _ _ _ _ a0_0 a0_1 a0_2 a0_3 a0_4 a0_5 a1_0 a1_1 a1_2 a1_3 a1_4 a1_5 w (fun W => common_is a0_0 a0_1 a0_2 a0_3 a0_4 a0_5 a1_0 a1_1 a1_2 a1_3 a1_4 a1_5 W)
end

def model_each_1.f (a0_0 : Int) (a0_1 : Int) (a0_2 : Int) (a0_3 : Int) (a0_4 : Int) (a0_5 : Int) : Option (Int × Int) := some (a0_0, a0_3)
set_option maxHeartbeats 8000000 in
set_option maxRecDepth 100000 in
theorem model_each_1.calls (a0_0 : Int) (a0_1 : Int) (a0_2 : Int) (a0_3 : Int) (a0_4 : Int) (a0_5 : Int) (r1 : Int) (r2 : Int) (w : World) (h : model_each_1.f a0_0 a0_1 a0_2 a0_3 a0_4 a0_5 = some (r1, r2)) :
  Calls Try.prog 74 #[.agg #[.int .i64 a0_0, .int .i64 a0_1, .int .i64 a0_2, .int .i64 a0_3, .int .i64 a0_4, .int .i64 a0_5]] w fun e w' => e = .returned (.tuple #[.int .i64 r1, .int .i64 r2]) ∧ Below w.heap.size w w' := by
 have hu43 := Try.underlying43
 have HB := am (Below.refl w.heap.size w)
 have H : (some (a0_0, a0_3)) = some (r1, r2) := h
 clear h
 simp only [Option.some.injEq, Prod.mk.injEq] at H
 obtain ⟨rfl, rfl⟩ := H
 go_enter Try.func74, Try.ntmps74
 go_wp2_with (first | ((with_reducible refine gd (N := 1) rfl ?_); refine be ?hg (N := 1) ?hd (cs := #[.int .i64 a0_0, .int .i64 a0_1, .int .i64 a0_2, .int .i64 a0_3, .int .i64 a0_4, .int .i64 a0_5]) (t := 43) ?hr ?_; (case hd | hg => rfl); (case hr => first | (go_simp; done) | (go_simp; rfl)); intro gb148 hg w2 hbox hb; have BK148 := am hbox; have GW148 := sG HB hg; have GE148 := sG HB hg; replace HB := bS HB hb; clear hb hbox hg; obtain ⟨_, _, _, _, _, _, _, _, _, _, _, _⟩ := zC6 BK148))
 repeat (go_quiet (first | ((with_reducible refine gd (N := 1) rfl ?_); refine be ?hg (N := 1) ?hd (cs := #[.int .i64 a0_0, .int .i64 a0_1, .int .i64 a0_2, .int .i64 a0_3, .int .i64 a0_4, .int .i64 a0_5]) (t := 43) ?hr ?_; (case hd | hg => rfl); (case hr => first | (go_simp; done) | (go_simp; rfl)); intro gb148 hg w2 hbox hb; have BK148 := am hbox; have GW148 := sG HB hg; have GE148 := sG HB hg; replace HB := bS HB hb; clear hb hbox hg; obtain ⟨_, _, _, _, _, _, _, _, _, _, _, _⟩ := zC6 BK148)); try go_wp2_with (first | ((with_reducible refine gd (N := 1) rfl ?_); refine be ?hg (N := 1) ?hd (cs := #[.int .i64 a0_0, .int .i64 a0_1, .int .i64 a0_2, .int .i64 a0_3, .int .i64 a0_4, .int .i64 a0_5]) (t := 43) ?hr ?_; (case hd | hg => rfl); (case hr => first | (go_simp; done) | (go_simp; rfl)); intro gb148 hg w2 hbox hb; have BK148 := am hbox; have GW148 := sG HB hg; have GE148 := sG HB hg; replace HB := bS HB hb; clear hb hbox hg; obtain ⟨_, _, _, _, _, _, _, _, _, _, _, _⟩ := zC6 BK148)))
 go_ret2
 exact ⟨sqE, fW HB.out⟩

def model_each_2.f (a0_0 : Int) (a0_1 : Int) (a0_2 : Int) (a0_3 : Int) (a0_4 : Int) (a0_5 : Int) : Option (Int × Int) := some (a0_1, a0_4)
set_option maxHeartbeats 8000000 in
set_option maxRecDepth 100000 in
theorem model_each_2.calls (a0_0 : Int) (a0_1 : Int) (a0_2 : Int) (a0_3 : Int) (a0_4 : Int) (a0_5 : Int) (r1 : Int) (r2 : Int) (w : World) (h : model_each_2.f a0_0 a0_1 a0_2 a0_3 a0_4 a0_5 = some (r1, r2)) :
  Calls Try.prog 75 #[.agg #[.int .i64 a0_0, .int .i64 a0_1, .int .i64 a0_2, .int .i64 a0_3, .int .i64 a0_4, .int .i64 a0_5]] w fun e w' => e = .returned (.tuple #[.int .i64 r1, .int .i64 r2]) ∧ Below w.heap.size w w' := by
 have hu43 := Try.underlying43
 have HB := am (Below.refl w.heap.size w)
 have H : (some (a0_1, a0_4)) = some (r1, r2) := h
 clear h
 simp only [Option.some.injEq, Prod.mk.injEq] at H
 obtain ⟨rfl, rfl⟩ := H
 go_enter Try.func75, Try.ntmps75
 go_wp2_with (first | ((with_reducible refine gd (N := 1) rfl ?_); refine be ?hg (N := 1) ?hd (cs := #[.int .i64 a0_0, .int .i64 a0_1, .int .i64 a0_2, .int .i64 a0_3, .int .i64 a0_4, .int .i64 a0_5]) (t := 43) ?hr ?_; (case hd | hg => rfl); (case hr => first | (go_simp; done) | (go_simp; rfl)); intro gb149 hg w2 hbox hb; have BK149 := am hbox; have GW149 := sG HB hg; have GE149 := sG HB hg; replace HB := bS HB hb; clear hb hbox hg; obtain ⟨_, _, _, _, _, _, _, _, _, _, _, _⟩ := zC6 BK149))
 repeat (go_quiet (first | ((with_reducible refine gd (N := 1) rfl ?_); refine be ?hg (N := 1) ?hd (cs := #[.int .i64 a0_0, .int .i64 a0_1, .int .i64 a0_2, .int .i64 a0_3, .int .i64 a0_4, .int .i64 a0_5]) (t := 43) ?hr ?_; (case hd | hg => rfl); (case hr => first | (go_simp; done) | (go_simp; rfl)); intro gb149 hg w2 hbox hb; have BK149 := am hbox; have GW149 := sG HB hg; have GE149 := sG HB hg; replace HB := bS HB hb; clear hb hbox hg; obtain ⟨_, _, _, _, _, _, _, _, _, _, _, _⟩ := zC6 BK149)); try go_wp2_with (first | ((with_reducible refine gd (N := 1) rfl ?_); refine be ?hg (N := 1) ?hd (cs := #[.int .i64 a0_0, .int .i64 a0_1, .int .i64 a0_2, .int .i64 a0_3, .int .i64 a0_4, .int .i64 a0_5]) (t := 43) ?hr ?_; (case hd | hg => rfl); (case hr => first | (go_simp; done) | (go_simp; rfl)); intro gb149 hg w2 hbox hb; have BK149 := am hbox; have GW149 := sG HB hg; have GE149 := sG HB hg; replace HB := bS HB hb; clear hb hbox hg; obtain ⟨_, _, _, _, _, _, _, _, _, _, _, _⟩ := zC6 BK149)))
 go_ret2
 exact ⟨sqE, fW HB.out⟩

def model_each_3.f (a0_0 : Int) (a0_1 : Int) (a0_2 : Int) (a0_3 : Int) (a0_4 : Int) (a0_5 : Int) : Option (Int × Int) := some (a0_2, a0_5)
set_option maxHeartbeats 8000000 in
set_option maxRecDepth 100000 in
theorem model_each_3.calls (a0_0 : Int) (a0_1 : Int) (a0_2 : Int) (a0_3 : Int) (a0_4 : Int) (a0_5 : Int) (r1 : Int) (r2 : Int) (w : World) (h : model_each_3.f a0_0 a0_1 a0_2 a0_3 a0_4 a0_5 = some (r1, r2)) :
  Calls Try.prog 76 #[.agg #[.int .i64 a0_0, .int .i64 a0_1, .int .i64 a0_2, .int .i64 a0_3, .int .i64 a0_4, .int .i64 a0_5]] w fun e w' => e = .returned (.tuple #[.int .i64 r1, .int .i64 r2]) ∧ Below w.heap.size w w' := by
 have hu43 := Try.underlying43
 have HB := am (Below.refl w.heap.size w)
 have H : (some (a0_2, a0_5)) = some (r1, r2) := h
 clear h
 simp only [Option.some.injEq, Prod.mk.injEq] at H
 obtain ⟨rfl, rfl⟩ := H
 go_enter Try.func76, Try.ntmps76
 go_wp2_with (first | ((with_reducible refine gd (N := 1) rfl ?_); refine be ?hg (N := 1) ?hd (cs := #[.int .i64 a0_0, .int .i64 a0_1, .int .i64 a0_2, .int .i64 a0_3, .int .i64 a0_4, .int .i64 a0_5]) (t := 43) ?hr ?_; (case hd | hg => rfl); (case hr => first | (go_simp; done) | (go_simp; rfl)); intro gb150 hg w2 hbox hb; have BK150 := am hbox; have GW150 := sG HB hg; have GE150 := sG HB hg; replace HB := bS HB hb; clear hb hbox hg; obtain ⟨_, _, _, _, _, _, _, _, _, _, _, _⟩ := zC6 BK150))
 repeat (go_quiet (first | ((with_reducible refine gd (N := 1) rfl ?_); refine be ?hg (N := 1) ?hd (cs := #[.int .i64 a0_0, .int .i64 a0_1, .int .i64 a0_2, .int .i64 a0_3, .int .i64 a0_4, .int .i64 a0_5]) (t := 43) ?hr ?_; (case hd | hg => rfl); (case hr => first | (go_simp; done) | (go_simp; rfl)); intro gb150 hg w2 hbox hb; have BK150 := am hbox; have GW150 := sG HB hg; have GE150 := sG HB hg; replace HB := bS HB hb; clear hb hbox hg; obtain ⟨_, _, _, _, _, _, _, _, _, _, _, _⟩ := zC6 BK150)); try go_wp2_with (first | ((with_reducible refine gd (N := 1) rfl ?_); refine be ?hg (N := 1) ?hd (cs := #[.int .i64 a0_0, .int .i64 a0_1, .int .i64 a0_2, .int .i64 a0_3, .int .i64 a0_4, .int .i64 a0_5]) (t := 43) ?hr ?_; (case hd | hg => rfl); (case hr => first | (go_simp; done) | (go_simp; rfl)); intro gb150 hg w2 hbox hb; have BK150 := am hbox; have GW150 := sG HB hg; have GE150 := sG HB hg; replace HB := bS HB hb; clear hb hbox hg; obtain ⟨_, _, _, _, _, _, _, _, _, _, _, _⟩ := zC6 BK150)))
 go_ret2
 exact ⟨sqE, fW HB.out⟩

def model_state.f (a0 : Int) : Option (Bool) := if a0 ≥ 0 then (some (decide (a0 ≤ 3))) else (some false)
set_option maxHeartbeats 8000000 in
set_option maxRecDepth 100000 in
theorem model_state.calls (a0 : Int) (r : Bool) (w : World) (h : model_state.f a0 = some r) :
  Calls Try.prog 47 #[.int .i64 a0] w fun e w' => e = .returned (.bool r) ∧ Drawn0 w w' := by
 have H : (if a0 ≥ 0 then (some (decide (a0 ≤ 3))) else (some false)) = some r := h
 clear h
 by_cases c2 : a0 ≥ 0
 ·rw [if_pos c2] at H
  have c2b0 : decide (0 ≤ a0) = true := decide_eq_true c2
  clear c2
  obtain rfl := Option.some.inj H
  go_enter Try.func47, Try.ntmps47
  go_wp2
  go_ret
  exact ⟨by first | rfl | (simp; done) | (simp [*]; done), by repeat (first | exact Drawn0.refl _ | apply Drawn0.step)⟩
 ·rw [if_neg c2] at H
  have c2b0 : decide (0 ≤ a0) = false := decide_eq_false c2
  clear c2
  obtain rfl := Option.some.inj H
  go_enter Try.func47, Try.ntmps47
  go_wp2
  go_ret
  exact ⟨by first | rfl | (simp; done) | (simp [*]; done), by repeat (first | exact Drawn0.refl _ | apply Drawn0.step)⟩

def model_ready.f (k : Nat) (l0 : List (S68)) (a1_0 : Int) (a1_1 : Int) (a1_2 : Int) (a1_3 : Int) (a1_4 : Int) (a1_5 : Int) (a2 : Int) : Option (Int) := (model_Check.f k l0).bind fun t152 => (if t152 = 0 then ((box_Check.f a1_0 a1_1 a1_2 a1_3 a1_4 a1_5).bind fun t153 => (if t153 = 0 then ((model_state.f a2).bind fun t154 => (if t154 = true then (some 0) else (some 1))) else (some t153))) else (some t152))
set_option maxHeartbeats 8000000 in
set_option maxRecDepth 100000 in
theorem model_ready.calls (k : Nat) (A0 : Option Addr) (c0 : Nat) (l0 : List (S68)) (a1_0 : Int) (a1_1 : Int) (a1_2 : Int) (a1_3 : Int) (a1_4 : Int) (a1_5 : Int) (a2 : Int) (r : Int) (w : World) (hr0 : Kd.C k68 w A0 l0.length l0) (hc0 : l0.length ≤ c0) (h : model_ready.f k l0 a1_0 a1_1 a1_2 a1_3 a1_4 a1_5 a2 = some r) :
  Calls Try.prog 49 #[.slice A0 l0.length c0, .agg #[.int .i64 a1_0, .int .i64 a1_1, .int .i64 a1_2, .int .i64 a1_3, .int .i64 a1_4, .int .i64 a1_5], .int .i64 a2] w fun e w' => e = .returned (.int .i64 r) ∧ Below w.heap.size w w' := by
 have hu43 := Try.underlying43
 have HR0 := am hr0
 have HC0 := am hc0
 clear hr0 hc0
 have HB := am (Below.refl w.heap.size w)
 have H : ((model_Check.f k l0).bind fun t152 => (if t152 = 0 then ((box_Check.f a1_0 a1_1 a1_2 a1_3 a1_4 a1_5).bind fun t153 => (if t153 = 0 then ((model_state.f a2).bind fun t154 => (if t154 = true then (some 0) else (some 1))) else (some t153))) else (some t152))) = some r := h
 clear h
 replace H := Option.bind_eq_some_iff.mp H
 obtain ⟨t152, A40, H⟩ := H
 replace H : (if t152 = 0 then ((box_Check.f a1_0 a1_1 a1_2 a1_3 a1_4 a1_5).bind fun t153 => (if t153 = 0 then ((model_state.f a2).bind fun t154 => (if t154 = true then (some 0) else (some 1))) else (some t153))) else (some t152)) = some r := H
 have A4 := am A40
 clear A40
 by_cases c5 : t152 = 0
 ·rw [if_pos c5] at H
  have c5b0 : (t152 == 0) = true := beq_iff_eq.mpr c5
  have c5b1 : (t152 != 0) = false := bne_eq_false_iff_eq.mpr c5
  clear c5
  replace H := Option.bind_eq_some_iff.mp H
  obtain ⟨t153, A60, H⟩ := H
  replace H : (if t153 = 0 then ((model_state.f a2).bind fun t154 => (if t154 = true then (some 0) else (some 1))) else (some t153)) = some r := H
  have A6 := am A60
  clear A60
  by_cases c7 : t153 = 0
  rotate_left
  ·rw [if_neg c7] at H
   have c7b0 : (t153 == 0) = false := beq_eq_false_iff_ne.mpr c7
   have c7b1 : (t153 != 0) = true := bne_iff_ne.mpr c7
   obtain rfl := Option.some.inj H
   go_enter Try.func49, Try.ntmps49
   go_wp2_with (first | ((with_reducible refine gd (N := 4) rfl ?_); refine be ?hg (N := 4) ?hd (cs := #[.int .i64 a1_0, .int .i64 a1_1, .int .i64 a1_2, .int .i64 a1_3, .int .i64 a1_4, .int .i64 a1_5]) (t := 43) ?hr ?_; (case hd | hg => rfl); (case hr => first | (go_simp; done) | (go_simp; rfl)); intro gb151 hg w18 hbox hb; have BK151 := am hbox; have GW151 := sG HB hg; have GE151 := sG HB hg; replace HB := bS HB hb; clear hb hbox hg) | ((with_reducible refine gc (f := 15) rfl ?_); refine goesL_ (some 10) rfl rfl Try.func15 (by kernel_rfl) rfl #[.slice A0 l0.length c0] rfl (by (try simp only [pml]); first | done | rfl | (simp only [pdt]; rfl)) ?_; (with_reducible refine (model_Check.calls k _ _ l0 t152 _ ?side1 ?side2 A4.out).mono ?_); (case side1 => repeat (first | exact (Kd.C_below HR0.out HB.out) | (with_reducible refine Kd.C_alloc ?_ _) | (with_reducible refine Kd.C_drewN ?_ _) | (with_reducible refine Kd.C_drew ?_))); (case side2 => exact HC0.out); rintro e w19 ⟨rfl, hb⟩; refine ⟨_, rfl, ?_⟩; replace BK151 := bB BK151 hb; replace HB := bS HB hb; (try clear hb); (try clear hb2); (try clear hk); (try clear hi); obtain ⟨_, _, _, _, _, _, _, _, _, _, _, _⟩ := zC6 BK151) | ((with_reducible refine gc (f := 43) rfl ?_); refine goesL_ (some 15) rfl rfl Try.func43 (by kernel_rfl) rfl #[.agg #[.int .i64 a1_0, .int .i64 a1_1, .int .i64 a1_2, .int .i64 a1_3, .int .i64 a1_4, .int .i64 a1_5]] rfl (by (try simp only [pml]); first | done | rfl | (simp only [pdt]; rfl)) ?_; (with_reducible refine (box_Check.calls a1_0 a1_1 a1_2 a1_3 a1_4 a1_5 t153 _ A6.out).mono ?_); rintro e w21 ⟨rfl, hb⟩; refine ⟨_, rfl, ?_⟩; replace BK151 := bB BK151 hb; replace HB := bS HB hb; (try clear hb); (try clear hb2); (try clear hk); (try clear hi)))
   go_ret
   exact ⟨sqE, fW HB.out⟩
  rw [if_pos c7] at H
  have c7b0 : (t153 == 0) = true := beq_iff_eq.mpr c7
  have c7b1 : (t153 != 0) = false := bne_eq_false_iff_eq.mpr c7
  clear c7
  replace H := Option.bind_eq_some_iff.mp H
  obtain ⟨t154, A80, H⟩ := H
  replace H : (if t154 = true then (some 0) else (some 1)) = some r := H
  have A8 := am A80
  clear A80
  by_cases c9 : t154 = true
  ·subst c9
   have H1 : (some 0) = some r := by rw [if_pos rfl] at H; exact H
   clear H
   have H := H1
   clear H1
   obtain rfl := Option.some.inj H
   go_enter Try.func49, Try.ntmps49
   go_wp2_with (first | ((with_reducible refine gd (N := 4) rfl ?_); refine be ?hg (N := 4) ?hd (cs := #[.int .i64 a1_0, .int .i64 a1_1, .int .i64 a1_2, .int .i64 a1_3, .int .i64 a1_4, .int .i64 a1_5]) (t := 43) ?hr ?_; (case hd | hg => rfl); (case hr => first | (go_simp; done) | (go_simp; rfl)); intro gb151 hg w10 hbox hb; have BK151 := am hbox; have GW151 := sG HB hg; have GE151 := sG HB hg; replace HB := bS HB hb; clear hb hbox hg) | ((with_reducible refine gc (f := 15) rfl ?_); refine goesL_ (some 10) rfl rfl Try.func15 (by kernel_rfl) rfl #[.slice A0 l0.length c0] rfl (by (try simp only [pml]); first | done | rfl | (simp only [pdt]; rfl)) ?_; (with_reducible refine (model_Check.calls k _ _ l0 t152 _ ?side1 ?side2 A4.out).mono ?_); (case side1 => repeat (first | exact (Kd.C_below HR0.out HB.out) | (with_reducible refine Kd.C_alloc ?_ _) | (with_reducible refine Kd.C_drewN ?_ _) | (with_reducible refine Kd.C_drew ?_))); (case side2 => exact HC0.out); rintro e w11 ⟨rfl, hb⟩; refine ⟨_, rfl, ?_⟩; replace BK151 := bB BK151 hb; replace HB := bS HB hb; (try clear hb); (try clear hb2); (try clear hk); (try clear hi); obtain ⟨_, _, _, _, _, _, _, _, _, _, _, _⟩ := zC6 BK151) | ((with_reducible refine gc (f := 43) rfl ?_); refine goesL_ (some 15) rfl rfl Try.func43 (by kernel_rfl) rfl #[.agg #[.int .i64 a1_0, .int .i64 a1_1, .int .i64 a1_2, .int .i64 a1_3, .int .i64 a1_4, .int .i64 a1_5]] rfl (by (try simp only [pml]); first | done | rfl | (simp only [pdt]; rfl)) ?_; (with_reducible refine (box_Check.calls a1_0 a1_1 a1_2 a1_3 a1_4 a1_5 t153 _ A6.out).mono ?_); rintro e w13 ⟨rfl, hb⟩; refine ⟨_, rfl, ?_⟩; replace BK151 := bB BK151 hb; replace HB := bS HB hb; (try clear hb); (try clear hb2); (try clear hk); (try clear hi)) | ((with_reducible refine gc (f := 47) rfl ?_); refine goesL_ (some 20) rfl rfl Try.func47 (by kernel_rfl) rfl #[.int .i64 a2] rfl (by (try simp only [pml]); first | done | rfl | (simp only [pdt]; rfl)) ?_; (with_reducible refine (model_state.calls a2 true _ A8.out).mono ?_); rintro e w' ⟨rfl, ⟨nd, rfl⟩⟩; refine ⟨_, rfl, ?_⟩))
   go_ret
   exact ⟨sqE, fW HB.out⟩
  replace c9 := Bool.eq_false_iff.mpr c9
  subst c9
  have H1 : (some 1) = some r := by rw [if_neg (show ¬ (false = true) by decide)] at H; exact H
  clear H
  have H := H1
  clear H1
  obtain rfl := Option.some.inj H
  go_enter Try.func49, Try.ntmps49
  go_wp2_with (first | ((with_reducible refine gd (N := 4) rfl ?_); refine be ?hg (N := 4) ?hd (cs := #[.int .i64 a1_0, .int .i64 a1_1, .int .i64 a1_2, .int .i64 a1_3, .int .i64 a1_4, .int .i64 a1_5]) (t := 43) ?hr ?_; (case hd | hg => rfl); (case hr => first | (go_simp; done) | (go_simp; rfl)); intro gb151 hg w14 hbox hb; have BK151 := am hbox; have GW151 := sG HB hg; have GE151 := sG HB hg; replace HB := bS HB hb; clear hb hbox hg) | ((with_reducible refine gc (f := 15) rfl ?_); refine goesL_ (some 10) rfl rfl Try.func15 (by kernel_rfl) rfl #[.slice A0 l0.length c0] rfl (by (try simp only [pml]); first | done | rfl | (simp only [pdt]; rfl)) ?_; (with_reducible refine (model_Check.calls k _ _ l0 t152 _ ?side1 ?side2 A4.out).mono ?_); (case side1 => repeat (first | exact (Kd.C_below HR0.out HB.out) | (with_reducible refine Kd.C_alloc ?_ _) | (with_reducible refine Kd.C_drewN ?_ _) | (with_reducible refine Kd.C_drew ?_))); (case side2 => exact HC0.out); rintro e w15 ⟨rfl, hb⟩; refine ⟨_, rfl, ?_⟩; replace BK151 := bB BK151 hb; replace HB := bS HB hb; (try clear hb); (try clear hb2); (try clear hk); (try clear hi); obtain ⟨_, _, _, _, _, _, _, _, _, _, _, _⟩ := zC6 BK151) | ((with_reducible refine gc (f := 43) rfl ?_); refine goesL_ (some 15) rfl rfl Try.func43 (by kernel_rfl) rfl #[.agg #[.int .i64 a1_0, .int .i64 a1_1, .int .i64 a1_2, .int .i64 a1_3, .int .i64 a1_4, .int .i64 a1_5]] rfl (by (try simp only [pml]); first | done | rfl | (simp only [pdt]; rfl)) ?_; (with_reducible refine (box_Check.calls a1_0 a1_1 a1_2 a1_3 a1_4 a1_5 t153 _ A6.out).mono ?_); rintro e w17 ⟨rfl, hb⟩; refine ⟨_, rfl, ?_⟩; replace BK151 := bB BK151 hb; replace HB := bS HB hb; (try clear hb); (try clear hb2); (try clear hk); (try clear hi)) | ((with_reducible refine gc (f := 47) rfl ?_); refine goesL_ (some 20) rfl rfl Try.func47 (by kernel_rfl) rfl #[.int .i64 a2] rfl (by (try simp only [pml]); first | done | rfl | (simp only [pdt]; rfl)) ?_; (with_reducible refine (model_state.calls a2 false _ A8.out).mono ?_); rintro e w' ⟨rfl, ⟨nd, rfl⟩⟩; refine ⟨_, rfl, ?_⟩))
  go_ret
  exact ⟨sqE, fW HB.out⟩
 ·rw [if_neg c5] at H
  have c5b0 : (t152 == 0) = false := beq_eq_false_iff_ne.mpr c5
  have c5b1 : (t152 != 0) = true := bne_iff_ne.mpr c5
  obtain rfl := Option.some.inj H
  go_enter Try.func49, Try.ntmps49
  go_wp2_with (first | ((with_reducible refine gd (N := 4) rfl ?_); refine be ?hg (N := 4) ?hd (cs := #[.int .i64 a1_0, .int .i64 a1_1, .int .i64 a1_2, .int .i64 a1_3, .int .i64 a1_4, .int .i64 a1_5]) (t := 43) ?hr ?_; (case hd | hg => rfl); (case hr => first | (go_simp; done) | (go_simp; rfl)); intro gb151 hg w22 hbox hb; have BK151 := am hbox; have GW151 := sG HB hg; have GE151 := sG HB hg; replace HB := bS HB hb; clear hb hbox hg) | ((with_reducible refine gc (f := 15) rfl ?_); refine goesL_ (some 10) rfl rfl Try.func15 (by kernel_rfl) rfl #[.slice A0 l0.length c0] rfl (by (try simp only [pml]); first | done | rfl | (simp only [pdt]; rfl)) ?_; (with_reducible refine (model_Check.calls k _ _ l0 t152 _ ?side1 ?side2 A4.out).mono ?_); (case side1 => repeat (first | exact (Kd.C_below HR0.out HB.out) | (with_reducible refine Kd.C_alloc ?_ _) | (with_reducible refine Kd.C_drewN ?_ _) | (with_reducible refine Kd.C_drew ?_))); (case side2 => exact HC0.out); rintro e w23 ⟨rfl, hb⟩; refine ⟨_, rfl, ?_⟩; replace BK151 := bB BK151 hb; replace HB := bS HB hb; (try clear hb); (try clear hb2); (try clear hk); (try clear hi)))
  go_ret
  exact ⟨sqE, fW HB.out⟩

def box_Size.f (a0_0 : Int) (a0_1 : Int) (a0_2 : Int) (a0_3 : Int) (a0_4 : Int) (a0_5 : Int) : Option (Int × Int × Int) := some (wrap64 (a0_3 - a0_0), wrap64 (a0_4 - a0_1), wrap64 (a0_5 - a0_2))
set_option maxHeartbeats 8000000 in
set_option maxRecDepth 100000 in
theorem box_Size.calls (a0_0 : Int) (a0_1 : Int) (a0_2 : Int) (a0_3 : Int) (a0_4 : Int) (a0_5 : Int) (r1 : Int) (r2 : Int) (r3 : Int) (w : World) (h : box_Size.f a0_0 a0_1 a0_2 a0_3 a0_4 a0_5 = some (r1, r2, r3)) :
  Calls Try.prog 93 #[.agg #[.int .i64 a0_0, .int .i64 a0_1, .int .i64 a0_2, .int .i64 a0_3, .int .i64 a0_4, .int .i64 a0_5]] w fun e w' => e = .returned (.agg #[.int .i64 r1, .int .i64 r2, .int .i64 r3]) ∧ Below w.heap.size w w' := by
 have hu43 := Try.underlying43
 have hu24 := Try.underlying24
 have HB := am (Below.refl w.heap.size w)
 have H : (some (wrap64 (a0_3 - a0_0), wrap64 (a0_4 - a0_1), wrap64 (a0_5 - a0_2))) = some (r1, r2, r3) := h
 clear h
 simp only [Option.some.injEq, Prod.mk.injEq] at H
 obtain ⟨rfl, rfl, rfl⟩ := H
 go_enter Try.func93, Try.ntmps93
 go_wp2_with (first | ((with_reducible refine gd (N := 1) rfl ?_); refine be ?hg (N := 1) ?hd (cs := #[.int .i64 a0_0, .int .i64 a0_1, .int .i64 a0_2, .int .i64 a0_3, .int .i64 a0_4, .int .i64 a0_5]) (t := 43) ?hr ?_; (case hd | hg => rfl); (case hr => first | (go_simp; done) | (go_simp; rfl)); intro gb155 hg w2 hbox hb; have BK155 := am hbox; have GW155 := sG HB hg; have GE155 := sG HB hg; replace HB := bS HB hb; clear hb hbox hg) | ((with_reducible refine gd (N := 2) rfl ?_); refine be ?hg (N := 2) ?hd (cs := #[.int .i64 0, .int .i64 0, .int .i64 0]) (t := 24) ?hr ?_; (case hd | hg => rfl); (case hr => first | (go_simp; done) | (go_simp; rfl)); intro gb156 hg w3 hbox hb; have BK156 := am hbox; have GW156 := sG HB hg; have GE156 := sG HB hg; replace HB := bS HB hb; have NB155_156 := nL BK155 hg; have NB156_155 := nG BK155 hg; replace BK155 := bB BK155 hb; clear hb hbox hg; have hnb4 := NB155_156.out; have hnc4 := NB156_155.out; obtain ⟨_, _, _, _, _, _, _, _, _, _, _, _⟩ := zC6 BK155; obtain ⟨_, _, _, _, _, _⟩ := zC3 BK156))
 refine bodyPost_ret (results_cell_row rfl _ _ gb156 24 #[.int .i64 (wrap64 (a0_3 - a0_0)), .int .i64 (wrap64 (a0_4 - a0_1)), .int .i64 (wrap64 (a0_5 - a0_2))] (0, 0) _ rfl (kkC BK156.out) Try.underlying24 rfl (by kernel_rfl)) rfl ?_
 exact ⟨sqE, fW HB.out⟩

def box_volume.f (a0_0 : Int) (a0_1 : Int) (a0_2 : Int) (a0_3 : Int) (a0_4 : Int) (a0_5 : Int) : Option (Int) := (box_Size.f a0_0 a0_1 a0_2 a0_3 a0_4 a0_5).bind fun bt158 => (some (wrap64 ((wrap64 (bt158.1 * bt158.2.1)) * bt158.2.2)))
set_option maxHeartbeats 8000000 in
set_option maxRecDepth 100000 in
theorem box_volume.calls (a0_0 : Int) (a0_1 : Int) (a0_2 : Int) (a0_3 : Int) (a0_4 : Int) (a0_5 : Int) (r : Int) (w : World) (h : box_volume.f a0_0 a0_1 a0_2 a0_3 a0_4 a0_5 = some r) :
  Calls Try.prog 77 #[.agg #[.int .i64 a0_0, .int .i64 a0_1, .int .i64 a0_2, .int .i64 a0_3, .int .i64 a0_4, .int .i64 a0_5]] w fun e w' => e = .returned (.int .i64 r) ∧ Below w.heap.size w w' := by
 have hu43 := Try.underlying43
 have hu24 := Try.underlying24
 have HB := am (Below.refl w.heap.size w)
 have H : ((box_Size.f a0_0 a0_1 a0_2 a0_3 a0_4 a0_5).bind fun bt158 => (some (wrap64 ((wrap64 (bt158.1 * bt158.2.1)) * bt158.2.2)))) = some r := h
 clear h
 replace H := Option.bind_eq_some_iff.mp H
 obtain ⟨⟨t158, t159, t160⟩, A20, H⟩ := H
 replace H : (some (wrap64 ((wrap64 (t158 * t159)) * t160))) = some r := H
 have A2 := am A20
 clear A20
 obtain rfl := Option.some.inj H
 go_enter Try.func77, Try.ntmps77
 go_wp2_with (first | ((with_reducible refine gd (N := 1) rfl ?_); refine be ?hg (N := 1) ?hd (cs := #[.int .i64 a0_0, .int .i64 a0_1, .int .i64 a0_2, .int .i64 a0_3, .int .i64 a0_4, .int .i64 a0_5]) (t := 43) ?hr ?_; (case hd | hg => rfl); (case hr => first | (go_simp; done) | (go_simp; rfl)); intro gb157 hg w3 hbox hb; have BK157 := am hbox; have GW157 := sG HB hg; have GE157 := sG HB hg; replace HB := bS HB hb; clear hb hbox hg; obtain ⟨_, _, _, _, _, _, _, _, _, _, _, _⟩ := zC6 BK157) | ((with_reducible refine gc (f := 93) rfl ?_); refine goesL_ (some 5) rfl rfl Try.func93 (by kernel_rfl) rfl #[.agg #[.int .i64 a0_0, .int .i64 a0_1, .int .i64 a0_2, .int .i64 a0_3, .int .i64 a0_4, .int .i64 a0_5]] rfl (by (try simp only [pml]); first | done | rfl | (simp only [pdt]; rfl)) ?_; (with_reducible refine (box_Size.calls a0_0 a0_1 a0_2 a0_3 a0_4 a0_5 t158 t159 t160 _ A2.out).mono ?_); rintro e w5 ⟨rfl, hb⟩; refine ⟨_, rfl, ?_⟩; replace BK157 := bB BK157 hb; replace HB := bS HB hb; (try clear hb); (try clear hb2); (try clear hk); (try clear hi)) | ((with_reducible refine gd (N := 3) rfl ?_); refine be ?hg (N := 3) ?hd (cs := #[.int .i64 0, .int .i64 0, .int .i64 0]) (t := 24) ?hr ?_; (case hd | hg => rfl); (case hr => first | (go_simp; done) | (go_simp; rfl)); intro gb161 hg w6 hbox hb; have BK161 := am hbox; have GW161 := sG HB hg; have GE161 := sG HB hg; replace HB := bS HB hb; have NB157_161 := nL BK157 hg; have NB161_157 := nG BK157 hg; replace BK157 := bB BK157 hb; clear hb hbox hg; have hnb7 := NB161_157.out; have hnc7 := NB157_161.out; obtain ⟨_, _, _, _, _, _⟩ := zC3 BK161))
 go_ret
 exact ⟨sqE, fW HB.out⟩

def box_Volume.f (a0_0 : Int) (a0_1 : Int) (a0_2 : Int) (a0_3 : Int) (a0_4 : Int) (a0_5 : Int) : Option (Int × Int) := (box_Check.f a0_0 a0_1 a0_2 a0_3 a0_4 a0_5).bind fun t163 => (if t163 = 0 then ((box_volume.f a0_0 a0_1 a0_2 a0_3 a0_4 a0_5).bind fun t164 => (some (t164, 0))) else (some (0, t163)))
set_option maxHeartbeats 8000000 in
set_option maxRecDepth 100000 in
theorem box_Volume.calls (a0_0 : Int) (a0_1 : Int) (a0_2 : Int) (a0_3 : Int) (a0_4 : Int) (a0_5 : Int) (r1 : Int) (r2 : Int) (w : World) (h : box_Volume.f a0_0 a0_1 a0_2 a0_3 a0_4 a0_5 = some (r1, r2)) :
  Calls Try.prog 52 #[.agg #[.int .i64 a0_0, .int .i64 a0_1, .int .i64 a0_2, .int .i64 a0_3, .int .i64 a0_4, .int .i64 a0_5]] w fun e w' => e = .returned (.tuple #[.int .i64 r1, .int .i64 r2]) ∧ Below w.heap.size w w' := by
 have hu43 := Try.underlying43
 have HB := am (Below.refl w.heap.size w)
 have H : ((box_Check.f a0_0 a0_1 a0_2 a0_3 a0_4 a0_5).bind fun t163 => (if t163 = 0 then ((box_volume.f a0_0 a0_1 a0_2 a0_3 a0_4 a0_5).bind fun t164 => (some (t164, 0))) else (some (0, t163)))) = some (r1, r2) := h
 clear h
 replace H := Option.bind_eq_some_iff.mp H
 obtain ⟨t163, A20, H⟩ := H
 replace H : (if t163 = 0 then ((box_volume.f a0_0 a0_1 a0_2 a0_3 a0_4 a0_5).bind fun t164 => (some (t164, 0))) else (some (0, t163))) = some (r1, r2) := H
 have A2 := am A20
 clear A20
 by_cases c3 : t163 = 0
 ·rw [if_pos c3] at H
  have c3b0 : (t163 == 0) = true := beq_iff_eq.mpr c3
  have c3b1 : (t163 != 0) = false := bne_eq_false_iff_eq.mpr c3
  clear c3
  replace H := Option.bind_eq_some_iff.mp H
  obtain ⟨t164, A40, H⟩ := H
  replace H : (some (t164, 0)) = some (r1, r2) := H
  have A4 := am A40
  clear A40
  simp only [Option.some.injEq, Prod.mk.injEq] at H
  obtain ⟨rfl, rfl⟩ := H
  go_enter Try.func52, Try.ntmps52
  go_wp2_with (first | ((with_reducible refine gd (N := 1) rfl ?_); refine be ?hg (N := 1) ?hd (cs := #[.int .i64 a0_0, .int .i64 a0_1, .int .i64 a0_2, .int .i64 a0_3, .int .i64 a0_4, .int .i64 a0_5]) (t := 43) ?hr ?_; (case hd | hg => rfl); (case hr => first | (go_simp; done) | (go_simp; rfl)); intro gb162 hg w5 hbox hb; have BK162 := am hbox; have GW162 := sG HB hg; have GE162 := sG HB hg; replace HB := bS HB hb; clear hb hbox hg; obtain ⟨_, _, _, _, _, _, _, _, _, _, _, _⟩ := zC6 BK162) | ((with_reducible refine gc (f := 43) rfl ?_); refine goesL_ (some 6) rfl rfl Try.func43 (by kernel_rfl) rfl #[.agg #[.int .i64 a0_0, .int .i64 a0_1, .int .i64 a0_2, .int .i64 a0_3, .int .i64 a0_4, .int .i64 a0_5]] rfl (by (try simp only [pml]); first | done | rfl | (simp only [pdt]; rfl)) ?_; (with_reducible refine (box_Check.calls a0_0 a0_1 a0_2 a0_3 a0_4 a0_5 t163 _ A2.out).mono ?_); rintro e w7 ⟨rfl, hb⟩; refine ⟨_, rfl, ?_⟩; replace BK162 := bB BK162 hb; replace HB := bS HB hb; (try clear hb); (try clear hb2); (try clear hk); (try clear hi); obtain ⟨_, _, _, _, _, _, _, _, _, _, _, _⟩ := zC6 BK162) | ((with_reducible refine gc (f := 77) rfl ?_); refine goesL_ (some 11) rfl rfl Try.func77 (by kernel_rfl) rfl #[.agg #[.int .i64 a0_0, .int .i64 a0_1, .int .i64 a0_2, .int .i64 a0_3, .int .i64 a0_4, .int .i64 a0_5]] rfl (by (try simp only [pml]); first | done | rfl | (simp only [pdt]; rfl)) ?_; (with_reducible refine (box_volume.calls a0_0 a0_1 a0_2 a0_3 a0_4 a0_5 t164 _ A4.out).mono ?_); rintro e w9 ⟨rfl, hb⟩; refine ⟨_, rfl, ?_⟩; replace BK162 := bB BK162 hb; replace HB := bS HB hb; (try clear hb); (try clear hb2); (try clear hk); (try clear hi)))
  go_ret2
  exact ⟨sqE, fW HB.out⟩
 ·rw [if_neg c3] at H
  have c3b0 : (t163 == 0) = false := beq_eq_false_iff_ne.mpr c3
  have c3b1 : (t163 != 0) = true := bne_iff_ne.mpr c3
  simp only [Option.some.injEq, Prod.mk.injEq] at H
  obtain ⟨rfl, rfl⟩ := H
  go_enter Try.func52, Try.ntmps52
  go_wp2_with (first | ((with_reducible refine gd (N := 1) rfl ?_); refine be ?hg (N := 1) ?hd (cs := #[.int .i64 a0_0, .int .i64 a0_1, .int .i64 a0_2, .int .i64 a0_3, .int .i64 a0_4, .int .i64 a0_5]) (t := 43) ?hr ?_; (case hd | hg => rfl); (case hr => first | (go_simp; done) | (go_simp; rfl)); intro gb162 hg w10 hbox hb; have BK162 := am hbox; have GW162 := sG HB hg; have GE162 := sG HB hg; replace HB := bS HB hb; clear hb hbox hg; obtain ⟨_, _, _, _, _, _, _, _, _, _, _, _⟩ := zC6 BK162) | ((with_reducible refine gc (f := 43) rfl ?_); refine goesL_ (some 6) rfl rfl Try.func43 (by kernel_rfl) rfl #[.agg #[.int .i64 a0_0, .int .i64 a0_1, .int .i64 a0_2, .int .i64 a0_3, .int .i64 a0_4, .int .i64 a0_5]] rfl (by (try simp only [pml]); first | done | rfl | (simp only [pdt]; rfl)) ?_; (with_reducible refine (box_Check.calls a0_0 a0_1 a0_2 a0_3 a0_4 a0_5 t163 _ A2.out).mono ?_); rintro e w12 ⟨rfl, hb⟩; refine ⟨_, rfl, ?_⟩; replace BK162 := bB BK162 hb; replace HB := bS HB hb; (try clear hb); (try clear hb2); (try clear hk); (try clear hi)))
  go_ret2
  exact ⟨sqE, fW HB.out⟩

end Go.Proofs.Ytcofgnbopodahaa.QA
