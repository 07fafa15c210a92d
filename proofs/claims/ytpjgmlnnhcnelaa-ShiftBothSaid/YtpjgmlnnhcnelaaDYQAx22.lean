import Derived.Test.YtpjgmlnnhcnelaaDYQAx0
import Derived.Test.YtpjgmlnnhcnelaaLay
import Derived.Test.YtpjgmlnnhcnelaaDYRowOne
import Derived.Shelf.SlicesE.Compact
import Derived.Shelf.SlicesE.Kit
import Derived.Shelf.SortM.Plain
import Derived.Shelf.SortM.SortNone
namespace Go.Proofs.Ytpjgmlnnhcnelaa.QA
open Go.RowKit Go.Proofs.YtpjgmlnnhcnelaaW.PrintWords Go.Proofs.YtpjgmlnnhcnelaaW.PrintLast Go.Proofs.YtpjgmlnnhcnelaaW.PrintMore
open Aside0 renaming mk → am
attribute [local go_sem] max2_int min2_int max_two min_two max_three min_three max_four min_four
set_option linter.unusedVariables false
set_option linter.unusedSimpArgs false

theorem infoI : (Try.prog.info? 3).map (fun i => (i.zero, i.size, i.bytes)) = some (some (.int .i64 0), 1, 8) := by kernel_rfl
set_option maxHeartbeats 1000000 in
set_option maxRecDepth 100000 in
theorem Grow_nil (n : Nat) (w : World) (hn : n < 1099511627776) :
  Calls Try.prog 56 #[.slice none 0 0, .int .i64 n] w fun e w' => ∃ v0_ : Value, e = .returned v0_ ∧ Kd.R (Kd.int .i64) 3 w' w.heap.size (fun _ => True) v0_ [] ∧ Below w.heap.size w w' := by
 rcases Nat.eq_zero_or_pos n with rfl | h0
 ·go_enter Try.func56, Try.ntmps56
  go_wp2
  go_ret
  exact ⟨_, rfl, Kd.R_nil _ _ _ _ _, Below.refl _ _⟩
 ·have HN := am hn
  have hb0 : decide (0 < (n : Int)) = true := decide_eq_true (by omega)
  have hn2 : (n : Int) ≤ 9223372036854775807 := by omega
  have h02 : 0 < (n : Int) := by omega
  clear hn h0
  go_enter Try.func56, Try.ntmps56
  go_wp2_with ((with_reducible refine gate_builtin (b := .append) (xs := #[.tmp 20, .tmp 21]) rfl ?_); at_builtin; refine Kd.R_append_zeros (Kd.int .i64) (w0 := w) w.heap.size rfl (.tmp 20) (.tmp 21) 23 3 3 (.int .i64 0) 8 rfl Try.underlying23 Try.underlying3 infoI rfl (by decide) (by omega) (.slice none 0 0) [] (0 : Int) (n : Int) (fun _ => True) rfl rfl ?aZ (fun _ _ => trivial) ?aO ?a0 ?aB ?aS ?aL ?_; (case aZ => exact rfl); (case aO => exact Kd.R_nil _ _ _ _ _); (case a0 => omega); (case aB => exact Below.refl _ _); (case aS => exact Nat.le_refl _); (case aL => have := HN.out; simp; omega); intro v1 w1 ho hb hg hat; obtain ⟨A1, c1, eo1⟩ := Kd.R_slice ho; subst eo1; have HO := am ho; have HB := am hb; clear ho hb hg hat)
  go_ret
  exact ⟨_, rfl, Kd.R_take (m := 0) HO.out (Nat.zero_le _), HB.out⟩

def flen (l : List (List Int)) (k : Nat) : Nat := (l.take k).flatten.length
theorem flat_take_succ (l : List (List Int)) (k : Nat) (hk : k < l.length) : (l.take (k + 1)).flatten = (l.take k).flatten ++ rd_L4 l (k : Int) := by
 rw [List.take_succ_eq_append_getElem hk, List.flatten_append]
 simp [rd_L4, List.getD_eq_getElem?_getD, List.getElem?_eq_getElem hk]
theorem flen_succ (l : List (List Int)) (k : Nat) (hk : k < l.length) : flen l (k + 1) = flen l k + (rd_L4 l (k : Int)).length := by
 unfold flen
 rw [flat_take_succ l k hk, List.length_append]
theorem flen_le (l : List (List Int)) (k : Nat) : flen l k ≤ l.flatten.length := by
 have h := congrArg (fun z => z.flatten.length) (List.take_append_drop k l)
 simp only [List.flatten_append, List.length_append] at h
 unfold flen
 omega
theorem flen_all (l : List (List Int)) : flen l l.length = l.flatten.length := by rw [flen, List.take_length]

def slices_Concat_int_int.f (l0 : List (List Int)) : Option (List Int) := if l0.flatten.length < 1099511627776 then some l0.flatten else none

set_option maxHeartbeats 4000000 in
set_option maxRecDepth 100000 in
theorem slices_Concat_int_int.calls (A0 : Option Addr) (c0 : Nat) (l0 : List (List Int)) (r : List Int) (w : World) (hr0 : Kd.C (Kd.slice 3 (Kd.int .i64)) w A0 l0.length l0) (hc0 : l0.length ≤ c0) (h : slices_Concat_int_int.f l0 = some r) :
  Calls Try.prog 46 #[.slice A0 l0.length c0] w fun e w' => ∃ v0_ : Value, e = .returned v0_ ∧ Kd.R (Kd.int .i64) 3 w' w.heap.size (fun _ => True) v0_ r ∧ Below w.heap.size w w' := by
 unfold slices_Concat_int_int.f at h
 split at h
 case isFalse => exact absurd h (by simp)
 case isTrue hl =>
 obtain rfl := Option.some.inj h
 clear h
 have HL := am hl
 clear hl
 have hn := hr0.2.1
 have HR := am hr0
 clear hr0
 go_enter Try.func46, Try.ntmps46
 go_wp2
 go_loopw [3, 11] (fun s i wr => ∃ k : Nat, k ≤ l0.length ∧ i = .int .i64 k ∧ s = .int .i64 (flen l0 k : Nat) ∧ Drawn0 w wr)
  (fun _ i _ => l0.length - (intOf i).toNat)
 case atStart => exact ⟨0, Nat.zero_le _, rfl, rfl, Drawn0.refl _⟩
 case round =>
  obtain ⟨k, hk, rfl, rfl, hd⟩ := hrel
  have HD := am hd
  clear hd
  by_cases hlt : k < l0.length
  ·have hb := flen_succ l0 k hlt
   have hle := flen_le l0 (k + 1)
   have hL := HL.out
   obtain ⟨ad, A1, c1, eA, hcell, hc1, hC1⟩ := at_L4 (Kd.C_below HR.out HD.out.below) (k : Int) (by omega) (by omega)
   subst eA
   rw [Int.toNat_natCast] at hcell
   have hs1 : flen l0 k + (rd_L4 l0 (k : Int)).length ≤ 1099511627776 := by omega
   have HS := am hb
   clear hb hle hL
   go_wp2
   go_roundw
   case rel => exact ⟨k + 1, by omega, by go_num, by rw [HS.out]; go_num, HD.out⟩
   case measure => simp [intOf]; omega
  ·obtain rfl : k = l0.length := by omega
   have hL := HL.out
   rw [flen_all]
   have hfl : l0.flatten.length ≤ 1099511627776 := by omega
   obtain ⟨fl, hfl0⟩ : ∃ fl : Nat, fl = l0.flatten.length := ⟨_, rfl⟩
   rw [← hfl0] at hfl hL ⊢
   have HF := am hfl0
   clear hfl0 hL
   go_wp2_with (go_at_call 56; refine (Grow_nil fl _ (by have := HF.out; have := HL.out; omega)).mono ?_; rintro e w2 ⟨v2, rfl, hR2, hB2⟩; have HR2 := am hR2; have HB2 := am hB2; clear hR2 hB2)
   go_loopw [6, 27] (fun s i W => ∃ k : Nat, k ≤ l0.length ∧ i = .int .i64 k ∧ Aside0 (Kd.R (Kd.int .i64) 3 W w.heap.size (fun _ => True) s (l0.take k).flatten) ∧ Aside0 (Below w.heap.size w W))
    (fun _ i _ => l0.length - (intOf i).toNat)
   case atStart => exact ⟨0, Nat.zero_le _, rfl, ⟨Kd.R_lower HR2.out HD.out.below.size⟩, ⟨below_step HD.out.below HB2.out⟩⟩
   case round =>
    obtain ⟨k, hk, rfl, HO, HB⟩ := hrel
    by_cases hlt2 : k < l0.length
    ·obtain ⟨ad, A1, c1, eA, hcell, hc1, hC1⟩ := at_L4 (Kd.C_below HR.out HB.out) (k : Int) (by omega) (by omega)
     subst eA
     rw [Int.toNat_natCast] at hcell
     have HC1 := am hC1
     clear hC1
     have hlen := flen_succ l0 k hlt2
     have hle := flen_le l0 (k + 1)
     have hfs := flat_take_succ l0 k hlt2
     have hL := HL.out
     have hlim : (l0.take k).flatten.length + (rd_L4 l0 (k : Int)).length ≤ 1099511627776 := by unfold flen at hlen hle; omega
     have HLIM := am hlim
     have HFS := am hfs
     clear hlen hle hL hlim hfs
     obtain ⟨xs, hxs⟩ : ∃ xs, xs = (l0.take k).flatten := ⟨_, rfl⟩
     obtain ⟨ys, hys⟩ : ∃ ys, ys = rd_L4 l0 (k : Int) := ⟨_, rfl⟩
     rw [← hxs] at HO HLIM HFS
     rw [← hys] at hcell HC1 HLIM HFS hc1
     clear hxs hys
     go_wp2_with ((with_reducible refine gate_builtin (b := .append) (xs := #[.tmp 31, .tmp 32]) rfl ?_); at_builtin; refine Kd.R_append_rows (Kd.int .i64) (w0 := w) w.heap.size rfl (.tmp 31) (.tmp 32) 23 3 (.int .i64 0) 8 rfl Try.underlying23 infoI rfl (by decide) (by omega) _ xs ys _ _ _ (fun _ => True) (fun _ => False) rfl rfl ?aO ?aR (fun _ _ h => h) (fun _ h => h.elim) ?aF ?aB ?aS ?aL ?_; (case aR => exact HC1.out); (case aB => exact HB.out); (case aF => exact (fun _ _ => trivial)); (case aO => exact HO.out); (case aS => exact below_size HB.out); (case aL => have := HLIM.out; omega); intro v1 w1 ho hb hg hat; have HO2 := am ho; have HB2' := am hb; clear ho hb hg hat)
     go_roundw
     case rel => exact ⟨k + 1, by omega, by go_num, by rw [HFS.out]; exact HO2, HB2'⟩
     case measure => simp [intOf]; omega
    ·obtain rfl : k = l0.length := by omega
     rw [List.take_length] at HO
     go_wp2
     go_ret
     exact ⟨_, rfl, HO.out, HB.out⟩

def sortI (l : List Int) : List Int := l.mergeSort fun x y => decide (x ≤ y)
theorem sortI_length (l : List Int) : (sortI l).length = l.length := List.length_mergeSort l
def slices_Sort_int_int.f (l0 : List Int) : Option (List Int) := if l0.length < 1099511627776 then some (sortI l0) else none
set_option maxHeartbeats 1000000 in
set_option maxRecDepth 100000 in
theorem slices_Sort_int_int.calls (P0_ : Nat → Prop) (u9000_ : Value) (l0 : List Int) (r : List Int) (w0 w : World) (hB : Below w0.heap.size w0 w) (ho0 : Kd.R (Kd.int .i64) 3 w w0.heap.size P0_ u9000_ l0) (h : slices_Sort_int_int.f l0 = some r) :
  Calls Try.prog 47 #[u9000_] w fun e w' => e = .returned (.tuple #[]) ∧ Kd.R (Kd.int .i64) 3 w' w0.heap.size (fun k_ => (P0_ k_ ∨ w.heap.size ≤ k_)) u9000_ r ∧ Below w0.heap.size w0 w' ∧ Kept w w' (fun k_ => P0_ k_) := by
 unfold slices_Sort_int_int.f at h
 split at h
 case isFalse => exact absurd h (by simp)
 case isTrue hl =>
 obtain rfl := Option.some.inj h
 clear h
 rcases List.eq_nil_or_concat l0 with rfl | ⟨l', x', hx⟩
 ·obtain ⟨A1, c1, rfl⟩ := Kd.R_slice ho0
  have hcon := Go.Proofs.AnyM.slices_Sort_int_none (P := Try.prog) Lay.sortI A1 c1 w
  refine Calls.mono hcon ?_
  rintro e w' ⟨rfl, rfl⟩
  have e0 : sortI ([] : List Int) = [] := List.eq_nil_of_length_eq_zero (sortI_length [])
  rw [e0]
  exact ⟨rfl, Kd.R_mono ho0 (fun _ hk => .inl hk), hB, Kept.refl _ _⟩
 ·have hne : l0 ≠ [] := by rw [hx]; simp
  obtain ⟨g, cap, rfl, hH, hg, hbg, hP⟩ := SortRow.holds_of_R (RowOne.flatI .i64) ho0 hne
  have hcon := Go.Proofs.AnyM.slices_Sort_int (P := Try.prog) Lay.sortI g 0 cap l0 w (RowOne.holds_one _ hH) hg (by omega)
  refine Calls.mono hcon ?_
  rintro e w' ⟨rfl, n, os, rfl⟩
  have hlen : (sortI l0).length = l0.length := sortI_length l0
  have hR := SortRow.R_of_sorted (RowOne.flatI .i64) (by decide) ho0 (by simp) hlen hne n os
  rw [RowOne.putRow_one]
  exact ⟨rfl, Kd.R_mono hR (fun _ hk => .inl hk), SortRow.below_sorted (d := Kd.int .i64) hB g n _ os hbg, SortRow.kept_sorted (d := Kd.int .i64) w g n _ os _ hP⟩

theorem compactUpTo_length (l : List Int) : (Go.Lib.compactUpTo l.toArray l.length).length ≤ l.length := by
 unfold Go.Lib.compactUpTo
 rw [List.length_map]
 exact Nat.le_trans (List.length_filter_le _ _) (by simp)
theorem compact_nil (A : Option Addr) (c : Nat) (w : World) : Calls Try.prog 48 #[.slice A 0 c] w fun e w' => e = .returned (.slice A 0 c) ∧ w' = w := by
 go_enter Try.func48, Try.ntmps48
 go_wp2
 go_ret
 exact ⟨rfl, rfl⟩
def slices_Compact_int_int.f (l0 : List Int) : Option (List Int) := if l0.length < 1099511627776 then some (Go.Lib.compactUpTo l0.toArray l0.length) else none
set_option maxHeartbeats 1000000 in
set_option maxRecDepth 100000 in
theorem slices_Compact_int_int.calls (P0_ : Nat → Prop) (u9000_ : Value) (l0 : List Int) (r : List Int) (w0 w : World) (hB : Below w0.heap.size w0 w) (ho0 : Kd.R (Kd.int .i64) 3 w w0.heap.size P0_ u9000_ l0) (h : slices_Compact_int_int.f l0 = some r) :
  Calls Try.prog 48 #[u9000_] w fun e w' => ∃ v0_ : Value, e = .returned v0_ ∧ Kd.R (Kd.int .i64) 3 w' w0.heap.size (fun k_ => (P0_ k_ ∨ w.heap.size ≤ k_)) v0_ r ∧ Below w0.heap.size w0 w' ∧ Kept w w' (fun k_ => P0_ k_) := by
 unfold slices_Compact_int_int.f at h
 split at h
 case isFalse => exact absurd h (by simp)
 case isTrue hl =>
 obtain rfl := Option.some.inj h
 clear h
 rcases List.eq_nil_or_concat l0 with rfl | ⟨l', x', hx⟩
 ·obtain ⟨A1, c1, rfl⟩ := Kd.R_slice ho0
  refine Calls.mono (compact_nil A1 c1 w) ?_
  rintro e w' ⟨rfl, rfl⟩
  exact ⟨_, rfl, Kd.R_mono ho0 (fun _ hk => .inl hk), hB, Kept.refl _ _⟩
 ·have hne : l0 ≠ [] := by rw [hx]; simp
  obtain ⟨g, cap, rfl, hH, hg, hbg, hP⟩ := SortRow.holds_of_R (RowOne.flatI .i64) ho0 hne
  have hcap : l0.length ≤ cap ∧ cap ≤ 9223372036854775807 := by
   obtain ⟨_, inner, ho, _⟩ := ho0
   rcases ho.2 with ⟨e, _⟩ | ⟨g', cap', cur, e, _, _, q1, q2, _⟩
   ·cases e
   cases e; exact ⟨q1, by unfold maxLen at q2; omega⟩
  have hcon := Go.Proofs.AnyE.slices_Compact (P := Try.prog) Lay.compI (Value.int .i64) (fun _ => rfl) (EqlAt.intD _ _ _) (NeqAt.intD _ _ _) 0 Try.zeroValue3 g 0 cap l0.toArray w (RowOne.holds_one _ hH) (by simp; omega) (by simpa using hcap.1)
  refine Calls.mono hcon ?_
  rintro e w' ⟨rfl, q, rfl⟩
  have hle := compactUpTo_length l0
  have e1 : l0.toArray.size = l0.length := by simp
  rw [e1] at *
  have hlen : (Go.Lib.compactUpTo l0.toArray l0.length ++ List.replicate (l0.length - (Go.Lib.compactUpTo l0.toArray l0.length).length) 0).length = l0.length := by
   rw [List.length_append, List.length_replicate]; omega
  have hR := SortRow.R_of_sorted (RowOne.flatI .i64) (by decide) ho0 rfl hlen hne q #[]
  have ew : Go.Proofs.sortWorldK (fun x => [Value.int .i64 x]) (Kd.int .i64).sz w g 0 q (Go.Lib.compactUpTo l0.toArray l0.length ++ List.replicate (l0.length - (Go.Lib.compactUpTo l0.toArray l0.length).length) 0).toArray #[] = Go.Sort.putRow (Value.int .i64) (Go.Sort.ahead w q) g 0 (Go.Lib.compactUpTo l0.toArray l0.length ++ List.replicate (l0.length - (Go.Lib.compactUpTo l0.toArray l0.length).length) 0).toArray := by
   rw [RowOne.putRow_one]
   unfold Go.Proofs.sortWorldK
   exact Go.Sort.grow_empty _
  have hb := SortRow.below_sorted (d := Kd.int .i64) (enc := fun x => [Value.int .i64 x]) hB g q (Go.Lib.compactUpTo l0.toArray l0.length ++ List.replicate (l0.length - (Go.Lib.compactUpTo l0.toArray l0.length).length) 0).toArray #[] hbg
  have hk := SortRow.kept_sorted (d := Kd.int .i64) (enc := fun x => [Value.int .i64 x]) w g q (Go.Lib.compactUpTo l0.toArray l0.length ++ List.replicate (l0.length - (Go.Lib.compactUpTo l0.toArray l0.length).length) 0).toArray #[] P0_ hP
  rw [ew] at hR hb hk
  have hT := Kd.R_take (m := (Go.Lib.compactUpTo l0.toArray l0.length).length) hR (by rw [hlen]; exact hle)
  rw [List.take_left] at hT
  exact ⟨_, rfl, Kd.R_mono hT (fun _ hk => .inl hk), hb, hk⟩

end Go.Proofs.Ytpjgmlnnhcnelaa.QA
