import Derived.Test.YtcembjgpcbodcaaDPQAx0
import Derived.Test.YtcembjgpcbodcaaDPQAx6
import Derived.Test.YtcembjgpcbodcaaDPQAx9
import Derived.Test.YtcembjgpcbodcaaDPQAx10
import Derived.Test.YtcembjgpcbodcaaDPQAx11
import Derived.Test.YtcembjgpcbodcaaDPQAx22
import Derived.Test.YtcembjgpcbodcaaDPQAx24
namespace Go.Proofs.Ytcembjgpcbodcaa.QA
open Go.RowKit Go.Proofs.YtcembjgpcbodcaaW.PrintWords Go.Proofs.YtcembjgpcbodcaaW.PrintLast Go.Proofs.YtcembjgpcbodcaaW.PrintMore
open Aside0 renaming mk → am
attribute [local go_sem] max2_int min2_int max_two min_two max_three min_three max_four min_four
set_option linter.unusedVariables false
set_option linter.unusedSimpArgs false

set_option maxHeartbeats 1000000 in
set_option maxRecDepth 100000 in
theorem Grow_nil69 (n : Nat) (w : World) (hn : n < 1099511627776) :
  Calls Try.prog 69 #[.slice none 0 0, .int .i64 n] w fun e w' => ∃ v0_ : Value, e = .returned v0_ ∧ Kd.R k23 23 w' w.heap.size (fun _ => True) v0_ [] ∧ Below w.heap.size w w' := by
 rcases Nat.eq_zero_or_pos n with rfl | h0
 ·go_enter Try.func69, Try.ntmps69
  go_wp2
  go_ret
  exact ⟨_, rfl, Kd.R_nil _ _ _ _ _, Below.refl _ _⟩
 ·have HN := am hn
  have hb0 : decide (0 < (n : Int)) = true := decide_eq_true (by omega)
  have hn2 : (n : Int) ≤ 9223372036854775807 := by omega
  have h02 : 0 < (n : Int) := by omega
  clear hn h0
  go_enter Try.func69, Try.ntmps69
  go_wp2_with ((with_reducible refine gate_builtin (b := .append) (xs := #[.tmp 20, .tmp 21]) rfl ?_); at_builtin; refine Kd.R_append_zeros k23 (w0 := w) w.heap.size rfl (.tmp 20) (.tmp 21) 29 3 23 (.agg #[(.int .i64 0), (.int .i64 0)]) 16 rfl Try.underlying29 Try.underlying3 info23 rfl (by decide) (by omega) (.slice none 0 0) [] z23 (n : Int) (fun _ => True) rfl rfl ?aZ (fun _ _ => trivial) ?aO ?a0 ?aB ?aS ?aL ?_; (case aZ => exact k23_mkM _ _ _ z23); (case aO => exact Kd.R_nil _ _ _ _ _); (case a0 => omega); (case aB => exact Below.refl _ _); (case aS => exact Nat.le_refl _); (case aL => have := HN.out; simp; omega); intro v1 w1 ho hb hg hat; obtain ⟨A1, c1, eo1⟩ := Kd.R_slice ho; subst eo1; have HO := am ho; have HB := am hb; clear ho hb hg hat)
  go_ret
  exact ⟨_, rfl, Kd.R_take (m := 0) HO.out (Nat.zero_le _), HB.out⟩

def api_Point_59.f (l0 : List (List S23)) : Option (List S23) := if l0.flatten.length < 1099511627776 then some l0.flatten else none

set_option maxHeartbeats 4000000 in
set_option maxRecDepth 100000 in
theorem api_Point_59.calls (A0 : Option Addr) (c0 : Nat) (l0 : List (List S23)) (r : List S23) (w : World) (hr0 : Kd.C (Kd.slice 23 k23) w A0 l0.length l0) (hc0 : l0.length ≤ c0) (h : api_Point_59.f l0 = some r) :
  Calls Try.prog 59 #[.slice A0 l0.length c0] w fun e w' => ∃ v0_ : Value, e = .returned v0_ ∧ Kd.R k23 23 w' w.heap.size (fun _ => True) v0_ r ∧ Below w.heap.size w w' := by
 unfold api_Point_59.f at h
 split at h
 case isFalse => exact absurd h (by simp)
 case isTrue hl =>
 obtain rfl := Option.some.inj h
 clear h
 have HL := am hl
 clear hl
 have hn := hr0.2.1
 have HR := am hr0
 clear hr0
 go_enter Try.func59, Try.ntmps59
 go_wp2
 go_loopw [3, 11] (fun s i wr => ∃ k : Nat, k ≤ l0.length ∧ i = .int .i64 k ∧ s = .int .i64 (flen l0 k : Nat) ∧ Drawn0 w wr)
  (fun _ i _ => l0.length - (intOf i).toNat)
 case atStart => exact ⟨0, Nat.zero_le _, rfl, rfl, Drawn0.refl _⟩
 case round =>
  obtain ⟨k, hk, rfl, rfl, hd⟩ := hrel
  have HD := am hd
  clear hd
  by_cases hlt : k < l0.length
  ·have hb := flen_succ l0 k hlt
   have hle := flen_le l0 (k + 1)
   have hL := HL.out
   obtain ⟨ad, A1, c1, eA, hcell, hc1, hC1⟩ := at_L2 (Kd.C_below HR.out HD.out.below) (k : Int) (by omega) (by omega)
   subst eA
   rw [Int.toNat_natCast] at hcell
   have hs1 : flen l0 k + (rd_L2 l0 (k : Int)).length ≤ 1099511627776 := by omega
   have HS := am hb
   clear hb hle hL
   go_wp2
   go_roundw
   case rel => exact ⟨k + 1, by omega, by go_num, by rw [HS.out]; go_num, HD.out⟩
   case measure => simp [intOf]; omega
  ·obtain rfl : k = l0.length := by omega
   have hL := HL.out
   rw [flen_all]
   have hfl : l0.flatten.length ≤ 1099511627776 := by omega
   obtain ⟨fl, hfl0⟩ : ∃ fl : Nat, fl = l0.flatten.length := ⟨_, rfl⟩
   rw [← hfl0] at hfl hL ⊢
   have HF := am hfl0
   clear hfl0 hL
   go_wp2_with (go_at_call 69; refine (Grow_nil69 fl _ (by have := HF.out; have := HL.out; omega)).mono ?_; rintro e w2 ⟨v2, rfl, hR2, hB2⟩; have HR2 := am hR2; have HB2 := am hB2; clear hR2 hB2)
   go_loopw [6, 27] (fun s i W => ∃ k : Nat, k ≤ l0.length ∧ i = .int .i64 k ∧ Aside0 (Kd.R k23 23 W w.heap.size (fun _ => True) s (l0.take k).flatten) ∧ Aside0 (Below w.heap.size w W))
    (fun _ i _ => l0.length - (intOf i).toNat)
   case atStart => exact ⟨0, Nat.zero_le _, rfl, ⟨Kd.R_lower HR2.out HD.out.below.size⟩, ⟨below_step HD.out.below HB2.out⟩⟩
   case round =>
    obtain ⟨k, hk, rfl, HO, HB⟩ := hrel
    by_cases hlt2 : k < l0.length
    ·obtain ⟨ad, A1, c1, eA, hcell, hc1, hC1⟩ := at_L2 (Kd.C_below HR.out HB.out) (k : Int) (by omega) (by omega)
     subst eA
     rw [Int.toNat_natCast] at hcell
     have HC1 := am hC1
     clear hC1
     have hlen := flen_succ l0 k hlt2
     have hle := flen_le l0 (k + 1)
     have hfs := flat_take_succ l0 k hlt2
     have hL := HL.out
     have hlim : (l0.take k).flatten.length + (rd_L2 l0 (k : Int)).length ≤ 1099511627776 := by unfold flen at hlen hle; omega
     have HLIM := am hlim
     have HFS := am hfs
     clear hlen hle hL hlim hfs
     obtain ⟨xs, hxs⟩ : ∃ xs, xs = (l0.take k).flatten := ⟨_, rfl⟩
     obtain ⟨ys, hys⟩ : ∃ ys, ys = rd_L2 l0 (k : Int) := ⟨_, rfl⟩
     rw [← hxs] at HO HLIM HFS
     rw [← hys] at hcell HC1 HLIM HFS hc1
     clear hxs hys
     go_wp2_with ((with_reducible refine gate_builtin (b := .append) (xs := #[.tmp 31, .tmp 32]) rfl ?_); at_builtin; refine Kd.R_append_rows k23 (w0 := w) w.heap.size rfl (.tmp 31) (.tmp 32) 29 23 (.agg #[(.int .i64 0), (.int .i64 0)]) 16 rfl Try.underlying29 info23 rfl (by decide) (by omega) _ xs ys _ _ _ (fun _ => True) (fun _ => False) rfl rfl ?aO ?aR (fun _ _ h => h) (fun _ h => h.elim) ?aF ?aB ?aS ?aL ?_; (case aR => exact HC1.out); (case aB => exact HB.out); (case aF => exact (fun _ _ => trivial)); (case aO => exact HO.out); (case aS => exact below_size HB.out); (case aL => have := HLIM.out; omega); intro v1 w1 ho hb hg hat; have HO2 := am ho; have HB2' := am hb; clear ho hb hg hat)
     go_roundw
     case rel => exact ⟨k + 1, by omega, by go_num, by rw [HFS.out]; exact HO2, HB2'⟩
     case measure => simp [intOf]; omega
    ·obtain rfl : k = l0.length := by omega
     rw [List.take_length] at HO
     go_wp2
     go_ret
     exact ⟨_, rfl, HO.out, HB.out⟩

end Go.Proofs.Ytcembjgpcbodcaa.QA
