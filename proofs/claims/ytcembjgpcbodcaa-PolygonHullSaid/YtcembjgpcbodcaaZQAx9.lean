import Derived.Test.YtcembjgpcbodcaaZQAx0
import Derived.Test.YtcembjgpcbodcaaZQAx1
import Derived.Test.YtcembjgpcbodcaaZQAx2
import Derived.Test.YtcembjgpcbodcaaZQAx6
import Derived.Test.YtcembjgpcbodcaaZQAx7
import Derived.Test.YtcembjgpcbodcaaZQAx8
import Derived.Shelf.SlicesQ.Reverse
namespace Go.Proofs.Ytcembjgpcbodcaa.QA
open Go.RowKit Go.Proofs.YtcembjgpcbodcaaW.PrintWords Go.Proofs.YtcembjgpcbodcaaW.PrintLast Go.Proofs.YtcembjgpcbodcaaW.PrintMore
open Go.Proofs.YtcembjgpcbodcaaW.PrintWords renaming pw_below_drewN → wN, below_drew1 → wd, below_size → wz, gate_callee → gc
open Aside0 renaming mk → am
attribute [local go_sem] max2_int min2_int max_two min_two max_three min_three max_four min_four
set_option linter.unusedVariables false
set_option linter.unusedSimpArgs false

attribute [local go_sem high] eqA23
def api_Point_52.f (l0 : List S23) : Option (List S23) := if l0.length < 1099511627776 then some l0.reverse else none
set_option maxHeartbeats 1000000 in
set_option maxRecDepth 100000 in
theorem api_Point_52.calls (P0_ : Nat → Prop) (u9000_ : Value) (l0 : List S23) (r : List S23) (w0 w : World) (hB : Below w0.heap.size w0 w) (ho0 : Kd.R k23 23 w w0.heap.size P0_ u9000_ l0) (h : api_Point_52.f l0 = some r) :
  Calls Try.prog 52 #[u9000_] w fun e w' => e = .returned (.tuple #[]) ∧ Kd.R k23 23 w' w0.heap.size (fun k_ => (P0_ k_ ∨ w.heap.size ≤ k_)) u9000_ r ∧ Below w0.heap.size w0 w' ∧ Kept w w' (fun k_ => P0_ k_) := by
 unfold api_Point_52.f at h
 split at h
 case isFalse => exact absurd h (by simp)
 case isTrue hl =>
 obtain rfl := Option.some.inj h
 clear h
 rcases List.eq_nil_or_concat l0 with rfl | ⟨l', x', hx⟩
 ·obtain ⟨A1, c1, rfl⟩ := Kd.R_slice ho0
  refine Calls.mono (Go.Proofs.AnyQ.slices_Reverse_empty (P := Try.prog) Lay.rev52 A1 c1 w) ?_
  rintro e w' ⟨rfl, rfl⟩
  exact ⟨rfl, Kd.R_mono ho0 (fun _ hk => .inl hk), hB, Kept.refl _ _⟩
 ·have hne : l0 ≠ [] := by rw [hx]; simp
  obtain ⟨g, cap, rfl, hH, hg, hbg, hP⟩ := Go.Proofs.Ytcembjgpcbodcaa.SortRow.holds_of_R flat23 ho0 hne
  have hcon := Go.Proofs.AnyQ.slices_Reverse (P := Try.prog) Lay.rev52 2 Try.isAgg23 Try.sizeOf23 enc23 (fun _ => rfl) (fun x v hv => by simp [enc23] at hv; rcases hv with rfl | rfl <;> rfl) g 0 cap l0.toArray w hH (by simp; omega)
  refine Calls.mono hcon ?_
  rintro e w' ⟨rfl, n, rfl⟩
  have hR := Go.Proofs.Ytcembjgpcbodcaa.SortRow.R_of_sorted (l' := l0.reverse) flat23 (by decide) ho0 rfl (by simp) hne n #[]
  have ew : Go.Proofs.sortWorldK enc23 k23.sz w g 0 n l0.reverse.toArray #[] = Go.Sort.putRowK enc23 2 (Go.Sort.ahead w n) g 0 l0.toArray.reverse := by
   unfold Go.Proofs.sortWorldK
   rw [List.reverse_toArray]
   exact Go.Sort.grow_empty _
  have hb := Go.Proofs.Ytcembjgpcbodcaa.SortRow.below_sorted (d := k23) (enc := enc23) hB g n l0.reverse.toArray #[] hbg
  have hk := Go.Proofs.Ytcembjgpcbodcaa.SortRow.kept_sorted (d := k23) (enc := enc23) w g n l0.reverse.toArray #[] P0_ hP
  rw [ew] at hR hb hk
  exact ⟨rfl, Kd.R_mono hR (fun _ hk => .inl hk), hb, hk⟩

set_option maxHeartbeats 1000000 in
set_option maxRecDepth 100000 in
theorem Grow_nil68 (n : Nat) (w : World) (hn : n < 1099511627776) :
  Calls Try.prog 68 #[.slice none 0 0, .int .i64 n] w fun e w' => ∃ v0_ : Value, e = .returned v0_ ∧ Kd.R k23 23 w' w.heap.size (fun _ => True) v0_ [] ∧ Below w.heap.size w w' := by
 rcases Nat.eq_zero_or_pos n with rfl | h0
 ·go_enter Try.func68, Try.ntmps68
  go_wp2
  go_ret
  exact ⟨_, rfl, Kd.R_nil _ _ _ _ _, Below.refl _ _⟩
 ·have HN := am hn
  have hb0 : decide (0 < (n : Int)) = true := decide_eq_true (by omega)
  have hn2 : (n : Int) ≤ 9223372036854775807 := by omega
  have h02 : 0 < (n : Int) := by omega
  clear hn h0
  go_enter Try.func68, Try.ntmps68
  go_wp2_with ((with_reducible refine gate_builtin (b := .append) (xs := #[.tmp 20, .tmp 21]) rfl ?_); at_builtin; refine Kd.R_append_zeros k23 (w0 := w) w.heap.size rfl (.tmp 20) (.tmp 21) 28 3 23 (.agg #[(.int .i64 0), (.int .i64 0)]) 16 rfl Try.underlying28 Try.underlying3 info23 rfl (by decide) (by omega) (.slice none 0 0) [] z23 (n : Int) (fun _ => True) rfl rfl ?aZ (fun _ _ => trivial) ?aO ?a0 ?aB ?aS ?aL ?_; (case aZ => exact k23_mkM _ _ _ z23); (case aO => exact Kd.R_nil _ _ _ _ _); (case a0 => omega); (case aB => exact Below.refl _ _); (case aS => exact Nat.le_refl _); (case aL => have := HN.out; simp; omega); intro v1 w1 ho hb hg hat; obtain ⟨A1, c1, eo1⟩ := Kd.R_slice ho; subst eo1; have HO := am ho; have HB := am hb; clear ho hb hg hat)
  go_ret
  exact ⟨_, rfl, Kd.R_take (m := 0) HO.out (Nat.zero_le _), HB.out⟩

def flen (l : List (List S23)) (k : Nat) : Nat := (l.take k).flatten.length
theorem flat_take_succ (l : List (List S23)) (k : Nat) (hk : k < l.length) : (l.take (k + 1)).flatten = (l.take k).flatten ++ rd_L2 l (k : Int) := by
 rw [List.take_succ_eq_append_getElem hk, List.flatten_append]
 simp [rd_L2, List.getD_eq_getElem?_getD, List.getElem?_eq_getElem hk]
theorem flen_succ (l : List (List S23)) (k : Nat) (hk : k < l.length) : flen l (k + 1) = flen l k + (rd_L2 l (k : Int)).length := by
 unfold flen
 rw [flat_take_succ l k hk, List.length_append]
theorem flen_le (l : List (List S23)) (k : Nat) : flen l k ≤ l.flatten.length := by
 have h := congrArg (fun z => z.flatten.length) (List.take_append_drop k l)
 simp only [List.flatten_append, List.length_append] at h
 unfold flen
 omega
theorem flen_all (l : List (List S23)) : flen l l.length = l.flatten.length := by rw [flen, List.take_length]

def api_Point_53.f (l0 : List (List S23)) : Option (List S23) := if l0.flatten.length < 1099511627776 then some l0.flatten else none

set_option maxHeartbeats 4000000 in
set_option maxRecDepth 100000 in
theorem api_Point_53.calls (A0 : Option Addr) (c0 : Nat) (l0 : List (List S23)) (r : List S23) (w : World) (hr0 : Kd.C (Kd.slice 23 k23) w A0 l0.length l0) (hc0 : l0.length ≤ c0) (h : api_Point_53.f l0 = some r) :
  Calls Try.prog 53 #[.slice A0 l0.length c0] w fun e w' => ∃ v0_ : Value, e = .returned v0_ ∧ Kd.R k23 23 w' w.heap.size (fun _ => True) v0_ r ∧ Below w.heap.size w w' := by
 unfold api_Point_53.f at h
 split at h
 case isFalse => exact absurd h (by simp)
 case isTrue hl =>
 obtain rfl := Option.some.inj h
 clear h
 have HL := am hl
 clear hl
 have hn := hr0.2.1
 have HR := am hr0
 clear hr0
 go_enter Try.func53, Try.ntmps53
 go_wp2
 go_loopw [3, 11] (fun s i wr => ∃ k : Nat, k ≤ l0.length ∧ i = .int .i64 k ∧ s = .int .i64 (flen l0 k : Nat) ∧ Drawn0 w wr)
  (fun _ i _ => l0.length - (intOf i).toNat)
 case atStart => exact ⟨0, Nat.zero_le _, rfl, rfl, Drawn0.refl _⟩
 case round =>
  obtain ⟨k, hk, rfl, rfl, hd⟩ := hrel
  have HD := am hd
  clear hd
  by_cases hlt : k < l0.length
  ·have hb := flen_succ l0 k hlt
   have hle := flen_le l0 (k + 1)
   have hL := HL.out
   obtain ⟨ad, A1, c1, eA, hcell, hc1, hC1⟩ := at_L2 (Kd.C_below HR.out HD.out.below) (k : Int) (by omega) (by omega)
   subst eA
   rw [Int.toNat_natCast] at hcell
   have hs1 : flen l0 k + (rd_L2 l0 (k : Int)).length ≤ 1099511627776 := by omega
   have HS := am hb
   clear hb hle hL
   go_wp2
   go_roundw
   case rel => exact ⟨k + 1, by omega, by go_num, by rw [HS.out]; go_num, HD.out⟩
   case measure => simp [intOf]; omega
  ·obtain rfl : k = l0.length := by omega
   have hL := HL.out
   rw [flen_all]
   have hfl : l0.flatten.length ≤ 1099511627776 := by omega
   obtain ⟨fl, hfl0⟩ : ∃ fl : Nat, fl = l0.flatten.length := ⟨_, rfl⟩
   rw [← hfl0] at hfl hL ⊢
   have HF := am hfl0
   clear hfl0 hL
   go_wp2_with (go_at_call 68; refine (Grow_nil68 fl _ (by have := HF.out; have := HL.out; omega)).mono ?_; rintro e w2 ⟨v2, rfl, hR2, hB2⟩; have HR2 := am hR2; have HB2 := am hB2; clear hR2 hB2)
   go_loopw [6, 27] (fun s i W => ∃ k : Nat, k ≤ l0.length ∧ i = .int .i64 k ∧ Aside0 (Kd.R k23 23 W w.heap.size (fun _ => True) s (l0.take k).flatten) ∧ Aside0 (Below w.heap.size w W))
    (fun _ i _ => l0.length - (intOf i).toNat)
   case atStart => exact ⟨0, Nat.zero_le _, rfl, ⟨Kd.R_lower HR2.out HD.out.below.size⟩, ⟨below_step HD.out.below HB2.out⟩⟩
   case round =>
    obtain ⟨k, hk, rfl, HO, HB⟩ := hrel
    by_cases hlt2 : k < l0.length
    ·obtain ⟨ad, A1, c1, eA, hcell, hc1, hC1⟩ := at_L2 (Kd.C_below HR.out HB.out) (k : Int) (by omega) (by omega)
     subst eA
     rw [Int.toNat_natCast] at hcell
     have HC1 := am hC1
     clear hC1
     have hlen := flen_succ l0 k hlt2
     have hle := flen_le l0 (k + 1)
     have hfs := flat_take_succ l0 k hlt2
     have hL := HL.out
     have hlim : (l0.take k).flatten.length + (rd_L2 l0 (k : Int)).length ≤ 1099511627776 := by unfold flen at hlen hle; omega
     have HLIM := am hlim
     have HFS := am hfs
     clear hlen hle hL hlim hfs
     obtain ⟨xs, hxs⟩ : ∃ xs, xs = (l0.take k).flatten := ⟨_, rfl⟩
     obtain ⟨ys, hys⟩ : ∃ ys, ys = rd_L2 l0 (k : Int) := ⟨_, rfl⟩
     rw [← hxs] at HO HLIM HFS
     rw [← hys] at hcell HC1 HLIM HFS hc1
     clear hxs hys
     go_wp2_with ((with_reducible refine gate_builtin (b := .append) (xs := #[.tmp 31, .tmp 32]) rfl ?_); at_builtin; refine Kd.R_append_rows k23 (w0 := w) w.heap.size rfl (.tmp 31) (.tmp 32) 28 23 (.agg #[(.int .i64 0), (.int .i64 0)]) 16 rfl Try.underlying28 info23 rfl (by decide) (by omega) _ xs ys _ _ _ (fun _ => True) (fun _ => False) rfl rfl ?aO ?aR (fun _ _ h => h) (fun _ h => h.elim) ?aF ?aB ?aS ?aL ?_; (case aR => exact HC1.out); (case aB => exact HB.out); (case aF => exact (fun _ _ => trivial)); (case aO => exact HO.out); (case aS => exact wz HB.out); (case aL => have := HLIM.out; omega); intro v1 w1 ho hb hg hat; have HO2 := am ho; have HB2' := am hb; clear ho hb hg hat)
     go_roundw
     case rel => exact ⟨k + 1, by omega, by go_num, by rw [HFS.out]; exact HO2, HB2'⟩
     case measure => simp [intOf]; omega
    ·obtain rfl : k = l0.length := by omega
     rw [List.take_length] at HO
     go_wp2
     go_ret
     exact ⟨_, rfl, HO.out, HB.out⟩

def polygon_Hull.f (k : Nat) (l0 : List (S23)) : Option ((List (S23)) × Int) := if (l0.length : Int) > 1000 then (some (([] : List (S23)), 7)) else ((polygon_allowed.f l0).bind fun t186 => (if t186 = true then ((api_Point_47.f l0).bind fun t187 => ((api_Point_48.f t187 49).bind fun t190 => ((api_Point_50.f t190).bind fun t191 => ((polygon_chain.f k t191).bind fun t194 => ((api_Point_52.f t191).bind fun t197 => ((polygon_chain.f k t197).bind fun t198 => (if (wrap64 ((t194.length : Int) + (t198.length : Int))) < 5 then (some (([] : List (S23)), 9)) else (if 0 ≤ (wrap64 ((t194.length : Int) - 1)) then (if (wrap64 ((t194.length : Int) - 1)) ≤ (t194.length : Int) then (if 0 ≤ (wrap64 ((t198.length : Int) - 1)) then (if (wrap64 ((t198.length : Int) - 1)) ≤ (t198.length : Int) then ((api_Point_53.f (([(t194.take ((wrap64 ((t194.length : Int) - 1)) : Int).toNat), (t198.take ((wrap64 ((t198.length : Int) - 1)) : Int).toNat)] : List (List (S23))))).bind fun t214 => (some (t214, 0))) else (none)) else (none)) else (none)) else (none))))))))) else (some (([] : List (S23)), 6))))
theorem polygon_Hull.mono : ∀ a0 k, LeO (polygon_Hull.f k a0) (polygon_Hull.f (k + 1) a0) := by
 intro a0 k
 unfold polygon_Hull.f
 repeat' first
   | (with_reducible exact polygon_chain.mono _ _)
   | (with_reducible exact LeO.refl _)
   | (with_reducible exact LeO.none _)
   | (with_reducible refine LeO.ite ?_ ?_)
   | (with_reducible refine LeO.bind ?_ (fun _ => ?_))
   | exact polygon_chain.mono _ _
   | exact LeO.none _
   | refine LeO.ite ?_ ?_
   | refine LeO.bind ?_ (fun _ => ?_)
def polygon_Hull.T13 : Bool × List (List Nat × List Nat) := (true, [([], []), ([], []), ([1], [1]), ([2], [2]), ([0, 3], [0, 3]), ([], []), ([], []), ([6], [6]), ([7], [7]), ([5, 8], [5, 8]), ([4, 9], [4, 9]), ([10], [10]), ([11, 11, 0, 1, 2, 3, 4, 5, 6, 7, 8, 9, 10, 11], [11]), ([12, 0, 1, 2, 3, 4, 5, 6, 7, 8, 9, 10, 11, 12], [])])
def polygon_Hull.B13 : List Nat := [0, 0, 2, 6, 15, 0, 0, 64, 192, 480, 1023, 2047, 4095, 8191]
theorem polygon_Hull.tab13 : rtab .any (opsOf Try.f20 13) = polygon_Hull.T13 := by kernel_rfl
theorem polygon_Hull.bits13 : waitsOk polygon_Hull.T13.2 polygon_Hull.B13 = true := by kernel_rfl
set_option maxHeartbeats 8000000 in
set_option maxRecDepth 100000 in
theorem polygon_Hull.calls (k : Nat) (A0 : Option Addr) (c0 : Nat) (l0 : List (S23)) (r1 : List (S23)) (r2 : Int) (w : World) (hr0 : Kd.C k23 w A0 l0.length l0) (hc0 : l0.length ≤ c0) (h : polygon_Hull.f k l0 = some (r1, r2)) :
  Calls Try.prog 20 #[.slice A0 l0.length c0] w fun e w' => ∃ v0_ : Value, e = .returned (.tuple #[v0_, .int .i64 r2]) ∧ Kd.R k23 23 w' w.heap.size (fun _ => True) v0_ r1 ∧ Below w.heap.size w w' := by
 have HR0 := am hr0
 have HC0 := am hc0
 clear hr0 hc0
 have HB := am (Below.refl w.heap.size w)
 have H : (if (l0.length : Int) > 1000 then (some (([] : List (S23)), 7)) else ((polygon_allowed.f l0).bind fun t186 => (if t186 = true then ((api_Point_47.f l0).bind fun t187 => ((api_Point_48.f t187 49).bind fun t190 => ((api_Point_50.f t190).bind fun t191 => ((polygon_chain.f k t191).bind fun t194 => ((api_Point_52.f t191).bind fun t197 => ((polygon_chain.f k t197).bind fun t198 => (if (wrap64 ((t194.length : Int) + (t198.length : Int))) < 5 then (some (([] : List (S23)), 9)) else (if 0 ≤ (wrap64 ((t194.length : Int) - 1)) then (if (wrap64 ((t194.length : Int) - 1)) ≤ (t194.length : Int) then (if 0 ≤ (wrap64 ((t198.length : Int) - 1)) then (if (wrap64 ((t198.length : Int) - 1)) ≤ (t198.length : Int) then ((api_Point_53.f (([(t194.take ((wrap64 ((t194.length : Int) - 1)) : Int).toNat), (t198.take ((wrap64 ((t198.length : Int) - 1)) : Int).toNat)] : List (List (S23))))).bind fun t214 => (some (t214, 0))) else (none)) else (none)) else (none)) else (none))))))))) else (some (([] : List (S23)), 6))))) = some (r1, r2) := h
 clear h
 by_cases c2 : (l0.length : Int) > 1000
 ·rw [if_pos c2] at H
  have c2b0 : decide (1000 < (l0.length : Int)) = true := decide_eq_true c2
  have c2b1 : decide (1000 < l0.length) = true := decide_eq_true (by omega)
  clear c2
  simp only [Option.some.injEq, Prod.mk.injEq] at H
  obtain ⟨rfl, rfl⟩ := H
  go_enter Try.func20, Try.ntmps20
  go_wp2
  go_ret2
  exact ⟨_, sqE, by first | exact Kd.R_nil _ _ _ _ _ | exact Kd.N_nil _ _ _ _ _ | exact Kd.V_nil _ _ _ _ _ | exact Kd.Q_nil _ _ _ _ _ | exact Kd.S_nil _ _ _ _ _, fW HB.out⟩
 ·rw [if_neg c2] at H
  have c2b0 : decide (1000 < (l0.length : Int)) = false := decide_eq_false c2
  have c2b1 : decide (1000 < l0.length) = false := decide_eq_false (by omega)
  clear c2
  replace H := Option.bind_eq_some_iff.mp H
  obtain ⟨t186, A30, H⟩ := H
  replace H : (if t186 = true then ((api_Point_47.f l0).bind fun t187 => ((api_Point_48.f t187 49).bind fun t190 => ((api_Point_50.f t190).bind fun t191 => ((polygon_chain.f k t191).bind fun t194 => ((api_Point_52.f t191).bind fun t197 => ((polygon_chain.f k t197).bind fun t198 => (if (wrap64 ((t194.length : Int) + (t198.length : Int))) < 5 then (some (([] : List (S23)), 9)) else (if 0 ≤ (wrap64 ((t194.length : Int) - 1)) then (if (wrap64 ((t194.length : Int) - 1)) ≤ (t194.length : Int) then (if 0 ≤ (wrap64 ((t198.length : Int) - 1)) then (if (wrap64 ((t198.length : Int) - 1)) ≤ (t198.length : Int) then ((api_Point_53.f (([(t194.take ((wrap64 ((t194.length : Int) - 1)) : Int).toNat), (t198.take ((wrap64 ((t198.length : Int) - 1)) : Int).toNat)] : List (List (S23))))).bind fun t214 => (some (t214, 0))) else (none)) else (none)) else (none)) else (none))))))))) else (some (([] : List (S23)), 6))) = some (r1, r2) := H
  have A3 := am A30
  clear A30
  by_cases c4 : t186 = true
  ·subst c4
   have H1 : ((api_Point_47.f l0).bind fun t187 => ((api_Point_48.f t187 49).bind fun t190 => ((api_Point_50.f t190).bind fun t191 => ((polygon_chain.f k t191).bind fun t194 => ((api_Point_52.f t191).bind fun t197 => ((polygon_chain.f k t197).bind fun t198 => (if (wrap64 ((t194.length : Int) + (t198.length : Int))) < 5 then (some (([] : List (S23)), 9)) else (if 0 ≤ (wrap64 ((t194.length : Int) - 1)) then (if (wrap64 ((t194.length : Int) - 1)) ≤ (t194.length : Int) then (if 0 ≤ (wrap64 ((t198.length : Int) - 1)) then (if (wrap64 ((t198.length : Int) - 1)) ≤ (t198.length : Int) then ((api_Point_53.f (([(t194.take ((wrap64 ((t194.length : Int) - 1)) : Int).toNat), (t198.take ((wrap64 ((t198.length : Int) - 1)) : Int).toNat)] : List (List (S23))))).bind fun t214 => (some (t214, 0))) else (none)) else (none)) else (none)) else (none))))))))) = some (r1, r2) := by rw [if_pos rfl] at H; exact H
   clear H
   have H := H1
   clear H1
   replace H := Option.bind_eq_some_iff.mp H
   obtain ⟨t187, A50, H⟩ := H
   replace H : ((api_Point_48.f t187 49).bind fun t190 => ((api_Point_50.f t190).bind fun t191 => ((polygon_chain.f k t191).bind fun t194 => ((api_Point_52.f t191).bind fun t197 => ((polygon_chain.f k t197).bind fun t198 => (if (wrap64 ((t194.length : Int) + (t198.length : Int))) < 5 then (some (([] : List (S23)), 9)) else (if 0 ≤ (wrap64 ((t194.length : Int) - 1)) then (if (wrap64 ((t194.length : Int) - 1)) ≤ (t194.length : Int) then (if 0 ≤ (wrap64 ((t198.length : Int) - 1)) then (if (wrap64 ((t198.length : Int) - 1)) ≤ (t198.length : Int) then ((api_Point_53.f (([(t194.take ((wrap64 ((t194.length : Int) - 1)) : Int).toNat), (t198.take ((wrap64 ((t198.length : Int) - 1)) : Int).toNat)] : List (List (S23))))).bind fun t214 => (some (t214, 0))) else (none)) else (none)) else (none)) else (none)))))))) = some (r1, r2) := H
   have A5 := am A50
   clear A50
   replace H := Option.bind_eq_some_iff.mp H
   obtain ⟨t190, A60, H⟩ := H
   replace H : ((api_Point_50.f t190).bind fun t191 => ((polygon_chain.f k t191).bind fun t194 => ((api_Point_52.f t191).bind fun t197 => ((polygon_chain.f k t197).bind fun t198 => (if (wrap64 ((t194.length : Int) + (t198.length : Int))) < 5 then (some (([] : List (S23)), 9)) else (if 0 ≤ (wrap64 ((t194.length : Int) - 1)) then (if (wrap64 ((t194.length : Int) - 1)) ≤ (t194.length : Int) then (if 0 ≤ (wrap64 ((t198.length : Int) - 1)) then (if (wrap64 ((t198.length : Int) - 1)) ≤ (t198.length : Int) then ((api_Point_53.f (([(t194.take ((wrap64 ((t194.length : Int) - 1)) : Int).toNat), (t198.take ((wrap64 ((t198.length : Int) - 1)) : Int).toNat)] : List (List (S23))))).bind fun t214 => (some (t214, 0))) else (none)) else (none)) else (none)) else (none))))))) = some (r1, r2) := H
   have A6 := am A60
   clear A60
   replace H := Option.bind_eq_some_iff.mp H
   obtain ⟨t191, A70, H⟩ := H
   replace H : ((polygon_chain.f k t191).bind fun t194 => ((api_Point_52.f t191).bind fun t197 => ((polygon_chain.f k t197).bind fun t198 => (if (wrap64 ((t194.length : Int) + (t198.length : Int))) < 5 then (some (([] : List (S23)), 9)) else (if 0 ≤ (wrap64 ((t194.length : Int) - 1)) then (if (wrap64 ((t194.length : Int) - 1)) ≤ (t194.length : Int) then (if 0 ≤ (wrap64 ((t198.length : Int) - 1)) then (if (wrap64 ((t198.length : Int) - 1)) ≤ (t198.length : Int) then ((api_Point_53.f (([(t194.take ((wrap64 ((t194.length : Int) - 1)) : Int).toNat), (t198.take ((wrap64 ((t198.length : Int) - 1)) : Int).toNat)] : List (List (S23))))).bind fun t214 => (some (t214, 0))) else (none)) else (none)) else (none)) else (none)))))) = some (r1, r2) := H
   have A7 := am A70
   clear A70
   replace H := Option.bind_eq_some_iff.mp H
   obtain ⟨t194, A80, H⟩ := H
   replace H : ((api_Point_52.f t191).bind fun t197 => ((polygon_chain.f k t197).bind fun t198 => (if (wrap64 ((t194.length : Int) + (t198.length : Int))) < 5 then (some (([] : List (S23)), 9)) else (if 0 ≤ (wrap64 ((t194.length : Int) - 1)) then (if (wrap64 ((t194.length : Int) - 1)) ≤ (t194.length : Int) then (if 0 ≤ (wrap64 ((t198.length : Int) - 1)) then (if (wrap64 ((t198.length : Int) - 1)) ≤ (t198.length : Int) then ((api_Point_53.f (([(t194.take ((wrap64 ((t194.length : Int) - 1)) : Int).toNat), (t198.take ((wrap64 ((t198.length : Int) - 1)) : Int).toNat)] : List (List (S23))))).bind fun t214 => (some (t214, 0))) else (none)) else (none)) else (none)) else (none))))) = some (r1, r2) := H
   have A8 := am A80
   clear A80
   replace H := Option.bind_eq_some_iff.mp H
   obtain ⟨t197, A90, H⟩ := H
   replace H : ((polygon_chain.f k t197).bind fun t198 => (if (wrap64 ((t194.length : Int) + (t198.length : Int))) < 5 then (some (([] : List (S23)), 9)) else (if 0 ≤ (wrap64 ((t194.length : Int) - 1)) then (if (wrap64 ((t194.length : Int) - 1)) ≤ (t194.length : Int) then (if 0 ≤ (wrap64 ((t198.length : Int) - 1)) then (if (wrap64 ((t198.length : Int) - 1)) ≤ (t198.length : Int) then ((api_Point_53.f (([(t194.take ((wrap64 ((t194.length : Int) - 1)) : Int).toNat), (t198.take ((wrap64 ((t198.length : Int) - 1)) : Int).toNat)] : List (List (S23))))).bind fun t214 => (some (t214, 0))) else (none)) else (none)) else (none)) else (none)))) = some (r1, r2) := H
   have A9 := am A90
   clear A90
   replace H := Option.bind_eq_some_iff.mp H
   obtain ⟨t198, A100, H⟩ := H
   replace H : (if (wrap64 ((t194.length : Int) + (t198.length : Int))) < 5 then (some (([] : List (S23)), 9)) else (if 0 ≤ (wrap64 ((t194.length : Int) - 1)) then (if (wrap64 ((t194.length : Int) - 1)) ≤ (t194.length : Int) then (if 0 ≤ (wrap64 ((t198.length : Int) - 1)) then (if (wrap64 ((t198.length : Int) - 1)) ≤ (t198.length : Int) then ((api_Point_53.f (([(t194.take ((wrap64 ((t194.length : Int) - 1)) : Int).toNat), (t198.take ((wrap64 ((t198.length : Int) - 1)) : Int).toNat)] : List (List (S23))))).bind fun t214 => (some (t214, 0))) else (none)) else (none)) else (none)) else (none))) = some (r1, r2) := H
   have A10 := am A100
   clear A100
   by_cases c11 : (wrap64 ((t194.length : Int) + (t198.length : Int))) < 5
   ·rw [if_pos c11] at H
    have c11b0 : decide ((wrap64 ((t194.length : Int) + (t198.length : Int))) < 5) = true := decide_eq_true c11
    clear c11
    simp only [Option.some.injEq, Prod.mk.injEq] at H
    obtain ⟨rfl, rfl⟩ := H
    go_enter Try.func20, Try.ntmps20
    go_wp2_with (first | ((with_reducible refine gc (f := 46) rfl ?_); refine goesL_ (some 11) rfl rfl Try.func46 (by kernel_rfl) rfl #[.slice A0 l0.length c0] rfl (by (try simp only [pml]); first | done | rfl | (simp only [pdt]; rfl)) ?_; (with_reducible refine (polygon_allowed.calls _ _ l0 true _ ?side1 ?side2 A3.out).mono ?_); (case side1 => repeat (first | exact HR0.out | (with_reducible refine Kd.C_alloc ?_ _) | (with_reducible refine Kd.C_drewN ?_ _) | (with_reducible refine Kd.C_drew ?_))); (case side2 => exact HC0.out); rintro e w12 ⟨rfl, hb⟩; refine ⟨_, rfl, ?_⟩; replace HB := bS HB hb; (try clear hb); (try clear hb2); (try clear hk); (try clear hi)) | ((with_reducible refine gc (f := 47) rfl ?_); refine goesL_ (some 14) rfl rfl Try.func47 (by kernel_rfl) rfl #[.slice A0 l0.length c0] rfl (by (try simp only [pml]); first | done | rfl | (simp only [pdt]; rfl)) ?_; (with_reducible refine (api_Point_47.calls _ _ l0 t187 _ ?side1 ?side2 A5.out).mono ?_); (case side1 => repeat (first | exact (Kd.C_below HR0.out HB.out) | (with_reducible refine Kd.C_alloc ?_ _) | (with_reducible refine Kd.C_drewN ?_ _) | (with_reducible refine Kd.C_drew ?_))); (case side2 => exact HC0.out); rintro e w13 ⟨v188, rfl, ho0, hb⟩; refine ⟨_, rfl, ?_⟩; have HO189 := am (Kd.R_lower ho0 (wz (fW HB.out))); replace HB := bS HB hb; (try clear hb); (try clear hb2); (try clear hk); (try clear hi); (try clear ho0); obtain ⟨Ao14, co14, eo14⟩ := Kd.R_slice HO189.out; subst eo14) | ((with_reducible refine gc (f := 48) rfl ?_); refine goesL_ (some 16) rfl rfl Try.func48 (by kernel_rfl) rfl #[.slice Ao14 t187.length co14, .func (.func 49) #[] #[]] rfl (by (try simp only [pml]); first | done | rfl | (simp only [pdt]; rfl)) ?_; (with_reducible refine (api_Point_48.calls (fun k_ => some k_ = (.slice Ao14 t187.length co14 : Value).ownBlock) (.slice Ao14 t187.length co14) t187 49 t190 w _ ?side1 ?side2 A6.out).mono ?_); (case side1 => repeat (first | (with_reducible first | exact HB.out | apply below_alloc | apply wN | apply wd) | exact HB.out)); (case side2 => exact Kd.R_tight rfl HO189.out); rintro e w15 ⟨rfl, hy0, hb, hkp⟩; refine ⟨_, rfl, ?_⟩; replace HO189 := am (Kd.R_reok rfl hy0 (fun k_ e_ => HO189.out.1 k_ e_)); replace HB := am (hb); (try clear hb); (try clear hkp); (try clear hy0)) | ((with_reducible refine gc (f := 50) rfl ?_); refine goesL_ (some 18) rfl rfl Try.func50 (by kernel_rfl) rfl #[.slice Ao14 t187.length co14] rfl (by (try simp only [pml]); first | done | rfl | (simp only [pdt]; rfl)) ?_; (with_reducible refine (api_Point_50.calls (fun k_ => some k_ = (.slice Ao14 t187.length co14 : Value).ownBlock) (.slice Ao14 t187.length co14) t190 t191 w _ ?side1 ?side2 A7.out).mono ?_); (case side1 => repeat (first | (with_reducible first | exact HB.out | apply below_alloc | apply wN | apply wd) | exact HB.out)); (case side2 => exact Kd.R_tight rfl HO189.out); rintro e w16 ⟨v192, rfl, ho0, hb, hkp⟩; refine ⟨_, rfl, ?_⟩; have HO193 := am (Kd.R_mono (ok' := fun k_ => True) ho0 (fun k_ hk_ => trivial)); replace HB := am (hb); clear HO189; (try clear hb); (try clear hkp); (try clear ho0); obtain ⟨Ao17, co17, eo17⟩ := Kd.R_slice HO193.out; subst eo17) | ((with_reducible refine gc (f := 51) rfl ?_); refine goesL_ (some 20) rfl rfl Try.func51 (by kernel_rfl) rfl #[.slice Ao17 t191.length co17] rfl (by (try simp only [pml]); first | done | rfl | (simp only [pdt]; rfl)) ?_; (with_reducible refine (polygon_chain.calls k _ _ t191 t194 _ ?side1 ?side2 A8.out).mono ?_); (case side1 => repeat (first | exact (Kd.R_reads' HO193.out).2.2 | (with_reducible refine Kd.C_alloc ?_ _) | (with_reducible refine Kd.C_drewN ?_ _) | (with_reducible refine Kd.C_drew ?_))); (case side2 => exact (Kd.R_reads' HO193.out).2.1); rintro e w18 ⟨v195, rfl, ho0, hb⟩; refine ⟨_, rfl, ?_⟩; have HO196 := am (Kd.R_lower (Kd.R_new' ho0 (Kd.R_lt (fR HO193.out))) (wz (fW HB.out))); replace HO193 := am (Kd.R_elder' (fR HO193.out) (Kd.R_base ho0) hb); replace HB := bS HB hb; (try clear hb); (try clear hb2); (try clear hk); (try clear hi); (try clear ho0)) | ((with_reducible refine gc (f := 52) rfl ?_); refine goesL_ (some 22) rfl rfl Try.func52 (by kernel_rfl) rfl #[.slice Ao17 t191.length co17] rfl (by (try simp only [pml]); first | done | rfl | (simp only [pdt]; rfl)) ?_; (with_reducible refine (api_Point_52.calls (fun k_ => some k_ = (.slice Ao17 t191.length co17 : Value).ownBlock) (.slice Ao17 t191.length co17) t191 t197 w _ ?side1 ?side2 A9.out).mono ?_); (case side1 => repeat (first | (with_reducible first | exact HB.out | apply below_alloc | apply wN | apply wd) | exact HB.out)); (case side2 => exact Kd.R_tight rfl HO193.out); rintro e w19 ⟨rfl, hy0, hb, hkp⟩; refine ⟨_, rfl, ?_⟩; replace HO193 := am (Kd.R_reok rfl hy0 (fun k_ e_ => HO193.out.1 k_ e_)); replace HO196 := am (Kd.R_mono (ok' := fun k_ => some k_ ≠ (.slice Ao17 t191.length co17 : Value).ownBlock) (Kd.R_keptB (HO196.out) hkp (fun k_ hk_ hs_ => (hk_.2) hs_)) (fun k_ hk_ => hk_.1.2)); replace HB := am (hb); (try clear hb); (try clear hkp); (try clear hy0)) | ((with_reducible refine gc (f := 51) rfl ?_); refine goesL_ (some 24) rfl rfl Try.func51 (by kernel_rfl) rfl #[.slice Ao17 t197.length co17] rfl (by (try simp only [pml]); first | done | (rw [show t197.length = t191.length from (Kd.R_reads' HO193.out).1.symm] <;> rfl) | rfl | (simp only [pdt]; rfl)) ?_; (with_reducible refine (polygon_chain.calls k _ _ t197 t198 _ ?side1 ?side2 A10.out).mono ?_); (case side1 => repeat (first | exact (Kd.R_reads' HO193.out).2.2 | (with_reducible refine Kd.C_alloc ?_ _) | (with_reducible refine Kd.C_drewN ?_ _) | (with_reducible refine Kd.C_drew ?_))); (case side2 => rw [show t197.length = t191.length from (Kd.R_reads' HO193.out).1.symm]; exact (Kd.R_reads' HO193.out).2.1); rintro e w20 ⟨v199, rfl, ho0, hb⟩; refine ⟨_, rfl, ?_⟩; have HO200 := am (Kd.R_lower (Kd.R_new' (Kd.R_new' ho0 (Kd.R_lt (fR HO193.out))) (Kd.R_lt (fR HO196.out))) (wz (fW HB.out))); replace HO193 := am (Kd.R_elder' (fR HO193.out) (Kd.R_base ho0) hb); replace HO196 := am (Kd.R_elder' (fR HO196.out) (Kd.R_base ho0) hb); replace HB := bS HB hb; (try clear hb); (try clear hb2); (try clear hk); (try clear hi); (try clear ho0); obtain ⟨Ao21, co21, eo21⟩ := Kd.R_slice HO196.out; subst eo21; obtain ⟨Ao22, co22, eo22⟩ := Kd.R_slice HO200.out; subst eo22))
    go_ret2
    exact ⟨_, sqE, by first | exact Kd.R_nil _ _ _ _ _ | exact Kd.N_nil _ _ _ _ _ | exact Kd.V_nil _ _ _ _ _ | exact Kd.Q_nil _ _ _ _ _ | exact Kd.S_nil _ _ _ _ _, fW HB.out⟩
   rw [if_neg c11] at H
   have c11b0 : decide ((wrap64 ((t194.length : Int) + (t198.length : Int))) < 5) = false := decide_eq_false c11
   clear c11
   obtain ⟨ji23, hji23⟩ : ∃ j_ : Int, (wrap64 ((t194.length : Int) - 1)) = j_ := ⟨_, rfl⟩
   replace H : (if 0 ≤ (ji23) then (if (ji23) ≤ (t194.length : Int) then (if 0 ≤ (wrap64 ((t198.length : Int) - 1)) then (if (wrap64 ((t198.length : Int) - 1)) ≤ (t198.length : Int) then ((api_Point_53.f (([(t194.take ((ji23) : Int).toNat), (t198.take ((wrap64 ((t198.length : Int) - 1)) : Int).toNat)] : List (List (S23))))).bind fun t214 => (some (t214, 0))) else (none)) else (none)) else (none)) else (none)) = some (r1, r2) := by first | (rw [hji23] at H; exact H) | (simp only [hji23] at H ⊢; exact H)
   (try rw [hji23] at A3)
   (try rw [hji23] at A5)
   (try rw [hji23] at A6)
   (try rw [hji23] at A7)
   (try rw [hji23] at A8)
   (try rw [hji23] at A9)
   (try rw [hji23] at A10)
   have hji23w : (IntKind.i64.wrap ((t194.length : Int) - 1)) = ji23 := (i64_w _).trans hji23
   by_cases c24 : 0 ≤ (ji23)
   rotate_left
   ·rw [if_neg c24] at H
    exact absurd H (by simp)
   rw [if_pos c24] at H
   have c24b0 := eq_true c24
   have c24b1 : decide (0 ≤ (ji23)) = true := decide_eq_true c24
   clear c24
   by_cases c25 : (ji23) ≤ (t194.length : Int)
   rotate_left
   ·rw [if_neg c25] at H
    exact absurd H (by simp)
   rw [if_pos c25] at H
   have c25b0 := eq_true c25
   have c25b1 : decide ((ji23) ≤ (t194.length : Int)) = true := decide_eq_true c25
   clear c25
   obtain ⟨y201, hy201⟩ : ∃ y_ : List (S23), y_ = (t194.take ((ji23) : Int).toNat) := ⟨_, rfl⟩
   replace H : (if 0 ≤ (wrap64 ((t198.length : Int) - 1)) then (if (wrap64 ((t198.length : Int) - 1)) ≤ (t198.length : Int) then ((api_Point_53.f (([y201, (t198.take ((wrap64 ((t198.length : Int) - 1)) : Int).toNat)] : List (List (S23))))).bind fun t214 => (some (t214, 0))) else (none)) else (none)) = some (r1, r2) := by first | (rw [hy201]; with_reducible exact H) | (have H2_ := (Option.bind_some _ _).symm.trans H; rw [hy201]; with_reducible exact H2_) | (have H2_ := (Option.bind_some _ _).symm.trans H; with_reducible exact H2_) | with_reducible exact H | (rw [hy201]; exact H) | exact H
   have Ny201 := am hy201
   clear hy201
   obtain ⟨ji26, hji26⟩ : ∃ j_ : Int, (wrap64 ((t198.length : Int) - 1)) = j_ := ⟨_, rfl⟩
   replace H : (if 0 ≤ (ji26) then (if (ji26) ≤ (t198.length : Int) then ((api_Point_53.f (([y201, (t198.take ((ji26) : Int).toNat)] : List (List (S23))))).bind fun t214 => (some (t214, 0))) else (none)) else (none)) = some (r1, r2) := by first | (rw [hji26] at H; exact H) | (simp only [hji26] at H ⊢; exact H)
   (try rw [hji26] at A3)
   (try rw [hji26] at A5)
   (try rw [hji26] at A6)
   (try rw [hji26] at A7)
   (try rw [hji26] at A8)
   (try rw [hji26] at A9)
   (try rw [hji26] at A10)
   have hji26w : (IntKind.i64.wrap ((t198.length : Int) - 1)) = ji26 := (i64_w _).trans hji26
   by_cases c27 : 0 ≤ (ji26)
   rotate_left
   ·rw [if_neg c27] at H
    exact absurd H (by simp)
   rw [if_pos c27] at H
   have c27b0 := eq_true c27
   have c27b1 : decide (0 ≤ (ji26)) = true := decide_eq_true c27
   clear c27
   by_cases c28 : (ji26) ≤ (t198.length : Int)
   rotate_left
   ·rw [if_neg c28] at H
    exact absurd H (by simp)
   rw [if_pos c28] at H
   have c28b0 := eq_true c28
   have c28b1 : decide ((ji26) ≤ (t198.length : Int)) = true := decide_eq_true c28
   clear c28
   obtain ⟨y206, hy206⟩ : ∃ y_ : List (S23), y_ = (t198.take ((ji26) : Int).toNat) := ⟨_, rfl⟩
   replace H : ((api_Point_53.f (([y201, y206] : List (List (S23))))).bind fun t214 => (some (t214, 0))) = some (r1, r2) := by first | (rw [hy206]; with_reducible exact H) | (have H2_ := (Option.bind_some _ _).symm.trans H; rw [hy206]; with_reducible exact H2_) | (have H2_ := (Option.bind_some _ _).symm.trans H; with_reducible exact H2_) | with_reducible exact H | (rw [hy206]; exact H) | exact H
   have Ny206 := am hy206
   clear hy206
   obtain ⟨y211, hy211⟩ : ∃ y_ : List (List (S23)), y_ = (([y201, y206] : List (List (S23)))) := ⟨_, rfl⟩
   replace H : ((api_Point_53.f y211).bind fun t214 => (some (t214, 0))) = some (r1, r2) := by first | (rw [hy211]; with_reducible exact H) | (have H2_ := (Option.bind_some _ _).symm.trans H; rw [hy211]; with_reducible exact H2_) | (have H2_ := (Option.bind_some _ _).symm.trans H; with_reducible exact H2_) | with_reducible exact H | (rw [hy211]; exact H) | exact H
   have Ny211 := am hy211
   clear hy211
   replace H := Option.bind_eq_some_iff.mp H
   obtain ⟨t214, A290, H⟩ := H
   replace H : (some (t214, 0)) = some (r1, r2) := H
   have A29 := am A290
   clear A290
   simp only [Option.some.injEq, Prod.mk.injEq] at H
   obtain ⟨rfl, rfl⟩ := H
   go_enter Try.func20, Try.ntmps20
   try go_wp2_with (first | ((with_reducible refine gc (f := 46) rfl ?_); refine goesL_ (some 11) rfl rfl Try.func46 (by kernel_rfl) rfl #[.slice A0 l0.length c0] rfl (by (try simp only [pml]); first | done | rfl | (simp only [pdt]; rfl)) ?_; (with_reducible refine (polygon_allowed.calls _ _ l0 true _ ?side1 ?side2 A3.out).mono ?_); (case side1 => repeat (first | exact HR0.out | (with_reducible refine Kd.C_alloc ?_ _) | (with_reducible refine Kd.C_drewN ?_ _) | (with_reducible refine Kd.C_drew ?_))); (case side2 => exact HC0.out); rintro e w30 ⟨rfl, hb⟩; refine ⟨_, rfl, ?_⟩; replace HB := bS HB hb; (try clear hb); (try clear hb2); (try clear hk); (try clear hi)) | ((with_reducible refine gc (f := 47) rfl ?_); refine goesL_ (some 14) rfl rfl Try.func47 (by kernel_rfl) rfl #[.slice A0 l0.length c0] rfl (by (try simp only [pml]); first | done | rfl | (simp only [pdt]; rfl)) ?_; (with_reducible refine (api_Point_47.calls _ _ l0 t187 _ ?side1 ?side2 A5.out).mono ?_); (case side1 => repeat (first | exact (Kd.C_below HR0.out HB.out) | (with_reducible refine Kd.C_alloc ?_ _) | (with_reducible refine Kd.C_drewN ?_ _) | (with_reducible refine Kd.C_drew ?_))); (case side2 => exact HC0.out); rintro e w31 ⟨v188, rfl, ho0, hb⟩; refine ⟨_, rfl, ?_⟩; have HO189 := am (Kd.R_lower ho0 (wz (fW HB.out))); replace HB := bS HB hb; (try clear hb); (try clear hb2); (try clear hk); (try clear hi); (try clear ho0); obtain ⟨Ao32, co32, eo32⟩ := Kd.R_slice HO189.out; subst eo32) | ((with_reducible refine gc (f := 48) rfl ?_); refine goesL_ (some 16) rfl rfl Try.func48 (by kernel_rfl) rfl #[.slice Ao32 t187.length co32, .func (.func 49) #[] #[]] rfl (by (try simp only [pml]); first | done | rfl | (simp only [pdt]; rfl)) ?_; (with_reducible refine (api_Point_48.calls (fun k_ => some k_ = (.slice Ao32 t187.length co32 : Value).ownBlock) (.slice Ao32 t187.length co32) t187 49 t190 w _ ?side1 ?side2 A6.out).mono ?_); (case side1 => repeat (first | (with_reducible first | exact HB.out | apply below_alloc | apply wN | apply wd) | exact HB.out)); (case side2 => exact Kd.R_tight rfl HO189.out); rintro e w33 ⟨rfl, hy0, hb, hkp⟩; refine ⟨_, rfl, ?_⟩; replace HO189 := am (Kd.R_reok rfl hy0 (fun k_ e_ => HO189.out.1 k_ e_)); replace HB := am (hb); (try clear hb); (try clear hkp); (try clear hy0)) | ((with_reducible refine gc (f := 50) rfl ?_); refine goesL_ (some 18) rfl rfl Try.func50 (by kernel_rfl) rfl #[.slice Ao32 t187.length co32] rfl (by (try simp only [pml]); first | done | rfl | (simp only [pdt]; rfl)) ?_; (with_reducible refine (api_Point_50.calls (fun k_ => some k_ = (.slice Ao32 t187.length co32 : Value).ownBlock) (.slice Ao32 t187.length co32) t190 t191 w _ ?side1 ?side2 A7.out).mono ?_); (case side1 => repeat (first | (with_reducible first | exact HB.out | apply below_alloc | apply wN | apply wd) | exact HB.out)); (case side2 => exact Kd.R_tight rfl HO189.out); rintro e w34 ⟨v192, rfl, ho0, hb, hkp⟩; refine ⟨_, rfl, ?_⟩; have HO193 := am (Kd.R_mono (ok' := fun k_ => True) ho0 (fun k_ hk_ => trivial)); replace HB := am (hb); clear HO189; (try clear hb); (try clear hkp); (try clear ho0); obtain ⟨Ao35, co35, eo35⟩ := Kd.R_slice HO193.out; subst eo35) | ((with_reducible refine gc (f := 51) rfl ?_); refine goesL_ (some 20) rfl rfl Try.func51 (by kernel_rfl) rfl #[.slice Ao35 t191.length co35] rfl (by (try simp only [pml]); first | done | rfl | (simp only [pdt]; rfl)) ?_; (with_reducible refine (polygon_chain.calls k _ _ t191 t194 _ ?side1 ?side2 A8.out).mono ?_); (case side1 => repeat (first | exact (Kd.R_reads' HO193.out).2.2 | (with_reducible refine Kd.C_alloc ?_ _) | (with_reducible refine Kd.C_drewN ?_ _) | (with_reducible refine Kd.C_drew ?_))); (case side2 => exact (Kd.R_reads' HO193.out).2.1); rintro e w36 ⟨v195, rfl, ho0, hb⟩; refine ⟨_, rfl, ?_⟩; have HO196 := am (Kd.R_lower (Kd.R_new' ho0 (Kd.R_lt (fR HO193.out))) (wz (fW HB.out))); replace HO193 := am (Kd.R_elder' (fR HO193.out) (Kd.R_base ho0) hb); replace HB := bS HB hb; (try clear hb); (try clear hb2); (try clear hk); (try clear hi); (try clear ho0)) | ((with_reducible refine gc (f := 52) rfl ?_); refine goesL_ (some 22) rfl rfl Try.func52 (by kernel_rfl) rfl #[.slice Ao35 t191.length co35] rfl (by (try simp only [pml]); first | done | rfl | (simp only [pdt]; rfl)) ?_; (with_reducible refine (api_Point_52.calls (fun k_ => some k_ = (.slice Ao35 t191.length co35 : Value).ownBlock) (.slice Ao35 t191.length co35) t191 t197 w _ ?side1 ?side2 A9.out).mono ?_); (case side1 => repeat (first | (with_reducible first | exact HB.out | apply below_alloc | apply wN | apply wd) | exact HB.out)); (case side2 => exact Kd.R_tight rfl HO193.out); rintro e w37 ⟨rfl, hy0, hb, hkp⟩; refine ⟨_, rfl, ?_⟩; replace HO193 := am (Kd.R_reok rfl hy0 (fun k_ e_ => HO193.out.1 k_ e_)); replace HO196 := am (Kd.R_mono (ok' := fun k_ => some k_ ≠ (.slice Ao35 t191.length co35 : Value).ownBlock) (Kd.R_keptB (HO196.out) hkp (fun k_ hk_ hs_ => (hk_.2) hs_)) (fun k_ hk_ => hk_.1.2)); replace HB := am (hb); (try clear hb); (try clear hkp); (try clear hy0)) | ((with_reducible refine gc (f := 51) rfl ?_); refine goesL_ (some 24) rfl rfl Try.func51 (by kernel_rfl) rfl #[.slice Ao35 t197.length co35] rfl (by (try simp only [pml]); first | done | (rw [show t197.length = t191.length from (Kd.R_reads' HO193.out).1.symm] <;> rfl) | rfl | (simp only [pdt]; rfl)) ?_; (with_reducible refine (polygon_chain.calls k _ _ t197 t198 _ ?side1 ?side2 A10.out).mono ?_); (case side1 => repeat (first | exact (Kd.R_reads' HO193.out).2.2 | (with_reducible refine Kd.C_alloc ?_ _) | (with_reducible refine Kd.C_drewN ?_ _) | (with_reducible refine Kd.C_drew ?_))); (case side2 => rw [show t197.length = t191.length from (Kd.R_reads' HO193.out).1.symm]; exact (Kd.R_reads' HO193.out).2.1); rintro e w38 ⟨v199, rfl, ho0, hb⟩; refine ⟨_, rfl, ?_⟩; have HO200 := am (Kd.R_lower (Kd.R_new' (Kd.R_new' ho0 (Kd.R_lt (fR HO193.out))) (Kd.R_lt (fR HO196.out))) (wz (fW HB.out))); replace HO193 := am (Kd.R_elder' (fR HO193.out) (Kd.R_base ho0) hb); replace HO196 := am (Kd.R_elder' (fR HO196.out) (Kd.R_base ho0) hb); replace HB := bS HB hb; (try clear hb); (try clear hb2); (try clear hk); (try clear hi); (try clear ho0); obtain ⟨Ao39, co39, eo39⟩ := Kd.R_slice HO196.out; subst eo39; obtain ⟨Ao40, co40, eo40⟩ := Kd.R_slice HO200.out; subst eo40))
   have n0_ := am (Kd.R_drew HO193.out)
   have n1_ := am (Kd.R_drew HO196.out)
   have n2_ := am (Kd.R_drew HO200.out)
   have n3_ := am (wd HB.out)
   clear HO193 HO196 HO200 HB
   have HO193 := n0_
   have HO196 := n1_
   have HO200 := n2_
   have HB := n3_
   clear n0_ n1_ n2_ n3_
   have q42 : ((ji23) : Int) ≤ ((t194.length : Int) : Int) := of_decide_eq_true (by assumption)
   obtain ⟨i042, hi042, _, hsz42, _⟩ := info_parts info23
   have hroom42 : t194.length ≤ co39 := (Kd.R_reads' HO196.out).2.1
   have hC42 : Kd.F k23 _ _ Ao39 t194.length t194 := (Kd.V_at (base := w.heap.size) (Kd.R_V HO196.out)).2.2
   have hcut42 := cut_to (P := Try.prog) 28 23 .i64 Try.underlying28 hi042 Ao39 t194.length co39 (ji23) (of_decide_eq_true (by assumption)) q42 hroom42
   have hr42 := Kd.F_take (m := ((ji23) : Int).toNat) hC42 (by omega)
   have hy42 : y201.length = ((ji23) : Int).toNat := (by rw [Ny201.out, List.length_take]; omega)
   rw [← Ny201.out] at hr42
   rw [← hy42] at hcut42
   have HO205 := am (show Kd.V k23 23 _ w.heap.size _ (.slice Ao39 y201.length co39) y201 from Kd.V_mk (by omega) hr42)
   have HC205 := am (show y201.length ≤ co39 from by omega)
   clear hr42 hC42 hroom42 hi042 hsz42
   have KY42 := am hy42
   clear hy42
   replace q42 := eq_true q42
   have q43 : ((ji26) : Int) ≤ ((t198.length : Int) : Int) := of_decide_eq_true (by assumption)
   obtain ⟨i043, hi043, _, hsz43, _⟩ := info_parts info23
   have hroom43 : t198.length ≤ co40 := (Kd.R_reads' HO200.out).2.1
   have hC43 : Kd.F k23 _ _ Ao40 t198.length t198 := (Kd.V_at (base := w.heap.size) (Kd.R_V HO200.out)).2.2
   have hcut43 := cut_to (P := Try.prog) 28 23 .i64 Try.underlying28 hi043 Ao40 t198.length co40 (ji26) (of_decide_eq_true (by assumption)) q43 hroom43
   have hr43 := Kd.F_take (m := ((ji26) : Int).toNat) hC43 (by omega)
   have hy43 : y206.length = ((ji26) : Int).toNat := (by rw [Ny206.out, List.length_take]; omega)
   rw [← Ny206.out] at hr43
   rw [← hy43] at hcut43
   have HO210 := am (show Kd.V k23 23 _ w.heap.size _ (.slice Ao40 y206.length co40) y206 from Kd.V_mk (by omega) hr43)
   have HC210 := am (show y206.length ≤ co40 from by omega)
   clear hr43 hC43 hroom43 hi043 hsz43
   have KY43 := am hy43
   clear hy43
   replace q43 := eq_true q43
   refine start_ (n := 14) (S := fun w' => True) (ds := []) #[F,F,F,F,F,F,F,F,F,F,F,F,F,F] (by kernel_rfl) rfl rfl trivial (fun hHeld => ?_); refine with_tabW polygon_Hull.tab13 polygon_Hull.bits13 (fun HT_ HW_ => ?_)
   generalize w38.drew = w41 at HO193 HO196 HO200 HB HO205 HO210 hHeld ⊢
   refine pu (i := 0) (N := some 31) (fl 14 1 []) HT_ ?_
   refine pu (i := 1) (N := some 32) (fl 14 2 []) HT_ ?_
   refine pu (i := 2) (N := some 33) (fl 14 3 []) HT_ ?_
   refine pu (i := 3) (N := some 34) (fl 14 4 []) HT_ ?_
   refine pu (i := 4) (N := some 35) (fl 14 5 []) HT_ ?_
   refine pu (i := 5) (N := some 36) (fl 14 6 []) HT_ ?_
   refine pu (i := 6) (N := some 37) (fl 14 7 []) HT_ ?_
   refine pu (i := 7) (N := some 38) (fl 14 8 []) HT_ ?_
   refine pu (i := 8) (N := some 39) (fl 14 9 []) HT_ ?_
   refine pu (i := 9) (N := some 40) (fl 14 10 []) HT_ ?_
   refine one_ (i := 10) (N := some 41) (fl 14 11 []) rfl rfl (one_of HT_.out (by kernel_rfl)) (by decide) (fun K hK => ?_)
   refine Kd.N_lit_step (Kd.slice 23 k23) _ 28 ?hg (N' := 41) ?hd (xs := ([y201, y206] : List (List (S23)))) (inner := [.slice Ao39 y201.length co39, .slice Ao40 y206.length co40]) (ok := (fun k_ => some k_ ≠ (.slice Ao35 t191.length co35 : Value).ownBlock)) (okp := (fun k_ => some k_ ≠ (.slice Ao35 t191.length co35 : Value).ownBlock)) ?hr ?hp (fun _ hk => hk) ((show ∀ k_, w41.heap.size ≤ k_ → (fun k_ => some k_ ≠ (.slice Ao35 t191.length co35 : Value).ownBlock) k_ from fun k_ hk => Kd.fresh' (Kd.R_lt (fR HO193.out)) k_ hk) _ (Nat.le_refl _)) (Below.refl _ _) (Nat.le_refl _) (by simp) ?_; (case hd | hg => rfl); (case hr => first | (go_simp; done) | (go_simp; rfl)); (case hp => exact (Reps.one (show Kd.FK (Kd.slice 23 k23) _ _ y201 [.slice Ao39 y201.length co39] from (Kd.FK_slice_mk (Kd.V_reads' (Kd.V_mono (ok' := (fun k_ => some k_ ≠ (.slice Ao35 t191.length co35 : Value).ownBlock)) (HO205.out) (fun k_ hk => hk.1))).2.1 (Kd.V_F (Kd.V_mono (ok' := (fun k_ => some k_ ≠ (.slice Ao35 t191.length co35 : Value).ownBlock)) (HO205.out) (fun k_ hk => hk.1))))) (Reps.one (show Kd.FK (Kd.slice 23 k23) _ _ y206 [.slice Ao40 y206.length co40] from (Kd.FK_slice_mk (Kd.V_reads' (Kd.V_mono (ok' := (fun k_ => some k_ ≠ (.slice Ao35 t191.length co35 : Value).ownBlock)) (HO210.out) (fun k_ hk => hk.1.2))).2.1 (Kd.V_F (Kd.V_mono (ok' := (fun k_ => some k_ ≠ (.slice Ao35 t191.length co35 : Value).ownBlock)) (HO210.out) (fun k_ hk => hk.1.2))))) (Reps.none _ _))))
   intro v212 w44 ho45 hb hg_ hnew_
   clear hg_ hnew_
   (first | rw [← Ny211.out] at ho45 | (simp only [Int.reduceToNat] at ho45; rw [← Ny211.out] at ho45))
   have n0_ := dR HO193 hb
   have n1_ := dR HO196 hb
   have n2_ := dR HO200 hb
   have n3_ := am (Kd.V_elder' (fV HO205.out) (Kd.N_base ho45) hb)
   have n4_ := am (Kd.V_elder' (fV HO210.out) (Kd.N_base ho45) hb)
   have n5_ := am (Kd.N_lower ho45 (wz (fW HB.out)))
   have n6_ := bS HB hb
   clear HO193 HO196 HO200 HO205 HO210 HB
   have HO193 := n0_
   have HO196 := n1_
   have HO200 := n2_
   have HO205 := n3_
   have HO210 := n4_
   have HO213 := n5_
   have HB := n6_
   clear n0_ n1_ n2_ n3_ n4_ n5_ n6_ hb ho45
   obtain ⟨Ao46, co46, eo46⟩ := Kd.N_slice HO213.out
   (first | subst eo46 | (injection eo46 with f1_ f2_ f3_; have f4_ := f1_.symm; have f5_ := f3_.symm; clear f1_ f2_ f3_; subst f4_; subst f5_))
   refine hK.out _ _ trivial (fun hHeld => ?_)
   clear hK K
   refine norm_ (a' := ?_) ?_ ?_
   rotate_left
   ·show Act.put _ (some 41) _ = _
    simp only [Act.put, psl, i64_w, i32_w]
    rfl
   refine one_ (i := 11) (N := some 42) (fl 14 12 []) rfl rfl (one_of HT_.out (by kernel_rfl)) (by decide) (fun K hK => ?_)
   refine goes_ Try.func53 (by kernel_rfl) rfl #[.slice Ao46 y211.length co46] (by rfl) rfl rfl (by (try simp only [pml]); first | done | rfl | (simp only [pdt]; rfl)) ?_
   with_reducible refine (api_Point_53.calls _ _ y211 t214 _ ?side1 ?side2 A29.out).mono ?_
   (case side1 => repeat (first | exact (Kd.N_reads' HO213.out).2.2 | (with_reducible refine Kd.C_alloc ?_ _) | (with_reducible refine Kd.C_drewN ?_ _) | (with_reducible refine Kd.C_drew ?_)))
   (case side2 => exact (Kd.N_reads' HO213.out).2.1)
   rintro e w47 ⟨v215, rfl, ho0, hb⟩
   refine ⟨_, rfl, ?_⟩
   have n0_ := am (Kd.R_elder' (fR HO193.out) (Kd.R_base ho0) hb)
   have n1_ := am (Kd.R_elder' (fR HO196.out) (Kd.R_base ho0) hb)
   have n2_ := am (Kd.R_elder' (fR HO200.out) (Kd.R_base ho0) hb)
   have n3_ := am (Kd.V_elder' (fV HO205.out) (Kd.R_base ho0) hb)
   have n4_ := am (Kd.V_elder' (fV HO210.out) (Kd.R_base ho0) hb)
   have n5_ := am (Kd.N_elder' (fN HO213.out) (Kd.R_base ho0) hb)
   have n6_ := am (Kd.R_lower (Kd.R_new' (Kd.R_new' (Kd.R_new' ho0 (Kd.R_lt (fR HO193.out))) (Kd.R_lt (fR HO196.out))) (Kd.R_lt (fR HO200.out))) (wz (fW HB.out)))
   have n7_ := bS HB hb
   clear HO193 HO196 HO200 HO205 HO210 HO213 HB
   have HO193 := n0_
   have HO196 := n1_
   have HO200 := n2_
   have HO205 := n3_
   have HO210 := n4_
   have HO213 := n5_
   have HO216 := n6_
   have HB := n7_
   clear n0_ n1_ n2_ n3_ n4_ n5_ n6_ n7_
   (try clear hb)
   (try clear hb2)
   (try clear hk)
   (try clear hi)
   (try clear ho0)
   refine hK.out _ _ trivial (fun hHeld => ?_)
   clear hK K
   refine norm_ (a' := ?_) ?_ ?_
   rotate_left
   ·show Act.put _ (some 42) _ = _
    simp only [Act.put, psl, i64_w, i32_w]
    rfl
   refine pu (i := 12) (N := some 2) (fl 14 13 []) HT_ ?_
   refine pu (i := 13) (N := some 3) (fl 14 14 []) HT_ ?_
   refine done_ (done_of HT_.out (by kernel_rfl)) ?_
   try go_wp2
   go_ret2
   exact ⟨_, by first | rfl | (simp [errW_none, errW_some] <;> rfl) | (simp only [← hji23, ← hji26]; first | rfl | (simp [errW_none, errW_some] <;> rfl)) | (simp [*, errW_none, errW_some] <;> rfl), by (with_reducible repeat (first | apply Kd.R_alloc | apply Kd.R_drewN | apply Kd.R_drew)); exact Kd.R_mono HO216.out (fun _ hk => trivial), fW HB.out⟩
  ·replace c4 := Bool.eq_false_iff.mpr c4
   subst c4
   have H1 : (some (([] : List (S23)), 6)) = some (r1, r2) := by rw [if_neg (show ¬ (false = true) by decide)] at H; exact H
   clear H
   have H := H1
   clear H1
   simp only [Option.some.injEq, Prod.mk.injEq] at H
   obtain ⟨rfl, rfl⟩ := H
   go_enter Try.func20, Try.ntmps20
   go_wp2_with (first | ((with_reducible refine gc (f := 46) rfl ?_); refine goesL_ (some 11) rfl rfl Try.func46 (by kernel_rfl) rfl #[.slice A0 l0.length c0] rfl (by (try simp only [pml]); first | done | rfl | (simp only [pdt]; rfl)) ?_; (with_reducible refine (polygon_allowed.calls _ _ l0 false _ ?side1 ?side2 A3.out).mono ?_); (case side1 => repeat (first | exact HR0.out | (with_reducible refine Kd.C_alloc ?_ _) | (with_reducible refine Kd.C_drewN ?_ _) | (with_reducible refine Kd.C_drew ?_))); (case side2 => exact HC0.out); rintro e w48 ⟨rfl, hb⟩; refine ⟨_, rfl, ?_⟩; replace HB := bS HB hb; (try clear hb); (try clear hb2); (try clear hk); (try clear hi)))
   go_ret2
   exact ⟨_, sqE, by first | exact Kd.R_nil _ _ _ _ _ | exact Kd.N_nil _ _ _ _ _ | exact Kd.V_nil _ _ _ _ _ | exact Kd.Q_nil _ _ _ _ _ | exact Kd.S_nil _ _ _ _ _, fW HB.out⟩

def r_Same.l0 : Nat → List (S23) → List (S23) → Int → Option (Bool)
 | 0, _, _, _ => none
 | k + 1, x0, x1, x5 => if x5 < (x0.length : Int) then (if 0 ≤ x5 then (if x5 < (x1.length : Int) then (if (!(((rd_T23 x0 x5).f0) == ((rd_T23 x1 x5).f0)) || (!(((rd_T23 x0 x5).f1) == ((rd_T23 x1 x5).f1)))) = true then (some false) else (r_Same.l0 k x0 x1 (wrap64 (x5 + 1)))) else (none)) else (none)) else (some true)
def r_Same.f (k : Nat) (l0 : List (S23)) (l1 : List (S23)) : Option (Bool) := if (l0.length : Int) = (l1.length : Int) then (r_Same.l0 k l0 l1 0) else (some false)
theorem r_Same.mono_l : ∀ k, (∀ y0 y1 y2, LeO (r_Same.l0 k y0 y1 y2) (r_Same.l0 (k + 1) y0 y1 y2))
 | 0 => fun _ _ _ r h => by simp [r_Same.l0] at h
 | k + 1 => by
  have ih0 := r_Same.mono_l k
  intro y0 y1 y2
  unfold r_Same.l0
  repeat' first
  | (with_reducible exact ih0 _ _ _)
  | (with_reducible exact LeO.refl _)
  | (with_reducible exact LeO.none _)
  | (with_reducible refine LeO.ite ?_ ?_)
  | (with_reducible refine LeO.bind ?_ (fun _ => ?_))
  | exact ih0 _ _ _
  | exact LeO.none _
  | refine LeO.ite ?_ ?_
  | refine LeO.bind ?_ (fun _ => ?_)
theorem r_Same.mono : ∀ a0 a1 k, LeO (r_Same.f k a0 a1) (r_Same.f (k + 1) a0 a1) := by
 intro a0 a1 k
 have ih0 := r_Same.mono_l k
 unfold r_Same.f
 repeat' first
   | (with_reducible exact ih0 _ _ _)
   | (with_reducible exact LeO.refl _)
   | (with_reducible exact LeO.none _)
   | (with_reducible refine LeO.ite ?_ ?_)
   | (with_reducible refine LeO.bind ?_ (fun _ => ?_))
   | exact ih0 _ _ _
   | exact LeO.none _
   | refine LeO.ite ?_ ?_
   | refine LeO.bind ?_ (fun _ => ?_)
set_option maxHeartbeats 8000000 in
set_option maxRecDepth 100000 in
theorem r_Same.calls (k : Nat) (A0 : Option Addr) (c0 : Nat) (l0 : List (S23)) (A1 : Option Addr) (c1 : Nat) (l1 : List (S23)) (r : Bool) (w : World) (hr0 : Kd.C k23 w A0 l0.length l0) (hc0 : l0.length ≤ c0) (hr1 : Kd.C k23 w A1 l1.length l1) (hc1 : l1.length ≤ c1) (h : r_Same.f k l0 l1 = some r) :
  Calls Try.prog 22 #[.slice A0 l0.length c0, .slice A1 l1.length c1] w fun e w' => e = .returned (.bool r) ∧ Drawn0 w w' := by
 have hu23 := Try.underlying23
 have HR0 := am hr0
 have HC0 := am hc0
 clear hr0 hc0
 have HR1 := am hr1
 have HC1 := am hc1
 clear hr1 hc1
 have H : (if (l0.length : Int) = (l1.length : Int) then (r_Same.l0 k l0 l1 0) else (some false)) = some r := h
 clear h
 by_cases c3 : (l0.length : Int) = (l1.length : Int)
 ·rw [if_pos c3] at H
  have c3b0 : ((l0.length : Int) == (l1.length : Int)) = true := beq_iff_eq.mpr c3
  have c3b1 : ((l0.length : Int) != (l1.length : Int)) = false := bne_eq_false_iff_eq.mpr c3
  have c3b2 : (l0.length == l1.length) = true := by first | simpa using c3 | (simp at c3 ⊢; omega)
  clear c3
  have H' := am H
  clear H
  go_enter Try.func22, Try.ntmps22
  go_wp2
  repeat (go_quiet (fail); try go_wp2)
  go_loopg [5] k (fun kq v5 w' => ∃ (x5_1 : Int), v5 = .int .i64 x5_1 ∧ Aside0 (r_Same.l0 kq l0 l1 x5_1 = some r) ∧ Aside0 (kq ≤ k) ∧ Drawn0 w w')
  case atStart => exact ⟨(0), sqD, H', ⟨Nat.le_refl _⟩, by repeat (first | exact Drawn0.refl _ | apply Drawn0.step)⟩
  case round =>
   clear H'
   try clear c1;try clear c2;try clear p2;try clear c3;try clear c3b0;try clear c3b1;try clear c3b2
   obtain ⟨x5_1, rfl, HA, HK1, ⟨m1, rfl⟩⟩ := hrel
   cases gk with
   | zero => exact absurd HA.out (by simp [r_Same.l0])
   | succ k1 =>
    have H := HA.out
    clear HA
    simp only [r_Same.l0] at H
    by_cases c4 : x5_1 < (l0.length : Int)
    rotate_left
    ·rw [if_neg c4] at H
     have c4b0 : decide (x5_1 < (l0.length : Int)) = false := decide_eq_false c4
     clear c4
     obtain rfl := Option.some.inj H
     go_wp2
     repeat (go_quiet (fail); try go_wp2)
     go_ret
     exact ⟨by first | rfl | (simp; done) | (simp [*]; done), by repeat (first | exact Drawn0.refl _ | apply Drawn0.step)⟩
    rw [if_pos c4] at H
    have c4b0 : decide (x5_1 < (l0.length : Int)) = true := decide_eq_true c4
    clear c4
    by_cases c5 : 0 ≤ x5_1
    rotate_left
    ·rw [if_neg c5] at H
     exact absurd H (by simp)
    rw [if_pos c5] at H
    have c5b0 : decide (0 ≤ x5_1) = true := decide_eq_true c5
    clear c5
    by_cases c6 : x5_1 < (l1.length : Int)
    rotate_left
    ·rw [if_neg c6] at H
     exact absurd H (by simp)
    rw [if_pos c6] at H
    have c6b0 : decide (x5_1 < (l1.length : Int)) = true := decide_eq_true c6
    clear c6
    by_cases c7 : (!(((rd_T23 l0 x5_1).f0) == ((rd_T23 l1 x5_1).f0)) || (!(((rd_T23 l0 x5_1).f1) == ((rd_T23 l1 x5_1).f1)))) = true
    ·rw [if_pos c7] at H
     have c7b0 : (!(((rd_T23 l0 x5_1).f0) == ((rd_T23 l1 x5_1).f0)) || (!(((rd_T23 l0 x5_1).f1) == ((rd_T23 l1 x5_1).f1)))) = true := c7
     clear c7
     obtain rfl := Option.some.inj H
     have p217 : 0 ≤ (x5_1 : Int) := of_decide_eq_true (by assumption)
     have q217 : x5_1 < (l0.length : Int) := of_decide_eq_true (by assumption)
     obtain ⟨ad217, e217, hx217_0, hx217_1⟩ := at_T23 HR0.out x5_1 p217 q217
     cases e217
     replace p217 := eq_true p217
     replace q217 := eq_true q217
     have p218 : 0 ≤ (x5_1 : Int) := of_decide_eq_true (by assumption)
     have q218 : x5_1 < (l1.length : Int) := of_decide_eq_true (by assumption)
     obtain ⟨ad218, e218, hx218_0, hx218_1⟩ := at_T23 HR1.out x5_1 p218 q218
     cases e218
     replace p218 := eq_true p218
     replace q218 := eq_true q218
     go_wp2
     repeat (go_quiet (fail); try go_wp2)
     go_ret
     exact ⟨by first | rfl | (simp; done) | (simp [*]; done), by repeat (first | exact Drawn0.refl _ | apply Drawn0.step)⟩
    rw [if_neg c7] at H
    have c7b0 : (!(((rd_T23 l0 x5_1).f0) == ((rd_T23 l1 x5_1).f0)) || (!(((rd_T23 l0 x5_1).f1) == ((rd_T23 l1 x5_1).f1)))) = false := by simpa using c7
    clear c7
    have H' := am H
    clear H
    have p217 : 0 ≤ (x5_1 : Int) := of_decide_eq_true (by assumption)
    have q217 : x5_1 < (l0.length : Int) := of_decide_eq_true (by assumption)
    obtain ⟨ad217, e217, hx217_0, hx217_1⟩ := at_T23 HR0.out x5_1 p217 q217
    cases e217
    replace p217 := eq_true p217
    replace q217 := eq_true q217
    have p218 : 0 ≤ (x5_1 : Int) := of_decide_eq_true (by assumption)
    have q218 : x5_1 < (l1.length : Int) := of_decide_eq_true (by assumption)
    obtain ⟨ad218, e218, hx218_0, hx218_1⟩ := at_T23 HR1.out x5_1 p218 q218
    cases e218
    replace p218 := eq_true p218
    replace q218 := eq_true q218
    go_wp2
    repeat (go_quiet (fail); try go_wp2)
    go_roundg k1
    case measure => have := HK1.out; omega
    case rel => exact ⟨(wrap64 (x5_1 + 1)), sqD, H', ⟨by have := HK1.out; omega⟩, by repeat (first | exact Drawn0.refl _ | apply Drawn0.step)⟩
 ·rw [if_neg c3] at H
  have c3b0 : ((l0.length : Int) == (l1.length : Int)) = false := beq_eq_false_iff_ne.mpr c3
  have c3b1 : ((l0.length : Int) != (l1.length : Int)) = true := bne_iff_ne.mpr c3
  have c3b2 : (l0.length == l1.length) = false := by first | simpa using c3 | (simp at c3 ⊢; omega)
  obtain rfl := Option.some.inj H
  go_enter Try.func22, Try.ntmps22
  go_wp2
  repeat (go_quiet (fail); try go_wp2)
  go_ret
  exact ⟨by first | rfl | (simp; done) | (simp [*]; done), by repeat (first | exact Drawn0.refl _ | apply Drawn0.step)⟩

end Go.Proofs.Ytcembjgpcbodcaa.QA
