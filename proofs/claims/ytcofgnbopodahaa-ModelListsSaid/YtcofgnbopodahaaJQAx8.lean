import Derived.Test.YtcofgnbopodahaaJQAx0
import Derived.Test.YtcofgnbopodahaaJQAx6
import Derived.Test.YtcofgnbopodahaaJQAx7
import Derived.Test.YtcofgnbopodahaaJEvKit
import Derived.Test.YtcofgnbopodahaaJMapKit
import Derived.Test.YtcofgnbopodahaaJMapS
import Derived.Test.YtcofgnbopodahaaJRegInv
import Derived.Carry
import Derived.Deep.RegionHeld3
import Derived.Deep.RegionLaw
import Derived.IntWalk
import Derived.Lib.SlicesCompact
import Derived.LoopN
import Derived.RegionTactic
import Derived.StillTailTactics
import Derived.WalkSpells
namespace Go.Proofs.Ytcofgnbopodahaa.QA
open Go.RowKit Go.Proofs.YtcofgnbopodahaaW.PrintWords Go.Proofs.YtcofgnbopodahaaW.PrintLast Go.Proofs.YtcofgnbopodahaaW.PrintMore
open Go.Proofs.YtcofgnbopodahaaW.PrintWords renaming below_alloc → wa, blk_cell → bc, below_step → wt
open Aside0 renaming mk → am
open World renaming block_lt_of_cell? → bq
attribute [local go_sem] max2_int min2_int max_two min_two max_three min_three max_four min_four
set_option linter.unusedVariables false
set_option linter.unusedSimpArgs false

section
open Go.Proofs.Ytcofgnbopodahaa.EvKit Go.Proofs.Ytcofgnbopodahaa.MapKit
attribute [local go_sem] max2_int min2_int max_two min_two Oper.semAt_some
set_option linter.unusedVariables false
set_option linter.unusedSimpArgs false
theorem insL_len (l : List Int) : (insL l).length = l.length := (insL_perm l).length_eq
theorem cells8 {w : World} {g t : Nat} {v0 v1 v2 v3 v4 v5 v6 v7 : Value} (h : w.heap[g]? = some (.cells #[v0, v1, v2, v3, v4, v5, v6, v7] t (0, 0))) : w.cell? ⟨g, 0, none⟩ = some v0 ∧ w.cell? ⟨g, 1, none⟩ = some v1 ∧ w.cell? ⟨g, 2, none⟩ = some v2 ∧ w.cell? ⟨g, 3, none⟩ = some v3 ∧ w.cell? ⟨g, 4, none⟩ = some v4 ∧ w.cell? ⟨g, 5, none⟩ = some v5 ∧ w.cell? ⟨g, 6, none⟩ = some v6 ∧ w.cell? ⟨g, 7, none⟩ = some v7 := ⟨(bc h 0).trans rfl, (bc h 1).trans rfl, (bc h 2).trans rfl, (bc h 3).trans rfl, (bc h 4).trans rfl, (bc h 5).trans rfl, (bc h 6).trans rfl, (bc h 7).trans rfl⟩
theorem cells3 {w : World} {g t : Nat} {v0 v1 v2 : Value} (h : w.heap[g]? = some (.cells #[v0, v1, v2] t (0, 0))) : w.cell? ⟨g, 0, none⟩ = some v0 ∧ w.cell? ⟨g, 1, none⟩ = some v1 ∧ w.cell? ⟨g, 2, none⟩ = some v2 := ⟨(bc h 0).trans rfl, (bc h 1).trans rfl, (bc h 2).trans rfl⟩
theorem free3 {w : World} {g t : Nat} {v0 v1 v2 : Value} (h : w.heap[g]? = some (.cells #[v0, v1, v2] t (0, 0))) : w.frozen? ⟨g, 0, none⟩ = false ∧ w.frozen? ⟨g, 1, none⟩ = false ∧ w.frozen? ⟨g, 2, none⟩ = false := ⟨blk_frozen h 0, blk_frozen h 1, blk_frozen h 2⟩
theorem at_I {w : World} {A : Option Addr} {n : Nat} {xs : List Int} (h : Kd.C (Kd.int .i64) w A n xs) (k : Nat) (hk : k < n) : ∃ ad, A = some ad ∧ w.cell? (ad.add k) = some (.int .i64 (xs.getD k 0)) := by
 obtain ⟨ad, c, e, _, hK, hc⟩ := Kd.C_get h 0 (k : Int) (by omega) (by omega)
 refine ⟨ad, e, ?_⟩
 obtain rfl : c = [.int .i64 (xs.getD k 0)] := hK
 have := hc 0 _ rfl
 rw [Int.toNat_natCast] at this
 rw [show k * (Kd.int .i64).sz + 0 = k by show k * 1 + 0 = k; omega] at this
 exact this
theorem wrow_ne {ws : World} {g : Nat} {v v9 : Value} {o : Obj} (hat : v9.ownBlock = v.ownBlock ∨ ∃ b, v9.ownBlock = some b ∧ ws.heap.size ≤ b) (h : ws.heap[g]? = some o) (hne : some g ≠ v.ownBlock) : some g ≠ v9.ownBlock := by
 rcases hat with h1 | ⟨b, h1, h2⟩
 ·rw [h1]; exact hne
 rw [h1]; intro e; injection e with e
 have h3 := blk_lt h
 omega
theorem wrow_new {α : Type} {d : Kd α} {e : Nat} {w : World} {base : Nat} {ok : Nat → Prop} {v : Value} {xs : List α} (h : Kd.R d e w base ok v xs) : some w.heap.size ≠ v.ownBlock := fun e => Nat.lt_irrefl _ (Kd.R_lt h _ e.symm)
def inC (lo hi n : Int) : Bool := decide (lo < n) && decide (n < hi)
def cutA (p : S43 → Int × Int) (lo hi : Int) : List S68 → List Int → List Int
 | [], out => out
 | x :: l, out => cutA p lo hi l (out ++ [(p x.f1).1, (p x.f1).2].filter (inC lo hi))
theorem cutA_len (p : S43 → Int × Int) (lo hi : Int) : ∀ (l : List S68) (out : List Int), (cutA p lo hi l out).length ≤ out.length + 2 * l.length
 | [], out => by simp [cutA]
 | x :: l, out => by
  have h := cutA_len p lo hi l (out ++ [(p x.f1).1, (p x.f1).2].filter (inC lo hi))
  have h2 := List.length_filter_le (inC lo hi) [(p x.f1).1, (p x.f1).2]
  unfold cutA
  simp only [List.length_append, List.length_cons, List.length_nil] at h h2 ⊢
  omega
def cutL (p : S43 → Int × Int) (lo hi : Int) (l : List S68) : List Int := Go.Lib.compactUpTo (insL (cutA p lo hi l [lo, hi])).toArray (insL (cutA p lo hi l [lo, hi])).length
def endX (b : S43) : Int × Int := (b.f0.f0, b.f1.f0)
def endY (b : S43) : Int × Int := (b.f0.f1, b.f1.f1)
def endZ (b : S43) : Int × Int := (b.f0.f2, b.f1.f2)
theorem cut_start (w : World) (lo hi : Int) : Kd.R (Kd.int .i64) 3 (w.alloc (.cells #[.int .i64 lo, .int .i64 hi] 3)) w.heap.size (fun _ => True) (.slice (some ⟨w.heap.size, 0, none⟩) 2 2) [lo, hi] :=
 Kd.R_of_own (own_lit_of (enc := Value.int .i64) w w.heap.size 3 [lo, hi] (Nat.le_refl _) (by simp)) (fun _ _ => trivial)
set_option maxHeartbeats 4000000 in
set_option maxRecDepth 100000 in
theorem cuts74 (lo hi : Int) (A0 : Option Addr) (c0 : Nat) (l0 : List S68) (w : World) (hr0 : Kd.C k68 w A0 l0.length l0) (hc0 : l0.length ≤ c0) (hl : l0.length < 1000000) :
  Calls Try.prog 73 #[.int .i64 lo, .int .i64 hi, .slice A0 l0.length c0, .func (.func 74) #[] #[]] w fun e w' => ∃ v0_ : Value, e = .returned v0_ ∧ Kd.R (Kd.int .i64) 3 w' w.heap.size (fun _ => True) v0_ (cutL endX lo hi l0) ∧ Below w.heap.size w w' := by
 have hu43 := Try.underlying43
 have HR := am hr0
 have HQ := am (fun (x : S43) W => model_each_1.calls x.f0.f0 x.f0.f1 x.f0.f2 x.f1.f0 x.f1.f1 x.f1.f2 (endX x).1 (endX x).2 W rfl)
 have HST := am (cut_start w lo hi)
 have HT := am (rfl : cutA endX lo hi l0 [lo, hi] = cutA endX lo hi l0 [lo, hi])
 obtain ⟨tot, htot⟩ : ∃ t, t = cutA endX lo hi l0 [lo, hi] := ⟨_, rfl⟩
 have HTOT := am htot
 have HLT := am (cutA_len endX lo hi l0 [lo, hi])
 have HB := am (wa (Below.refl w.heap.size w) (.cells #[.int .i64 lo, .int .i64 hi] 3))
 clear hr0 htot
 go_enter Try.func73, Try.ntmps73
 go_wp2
 go_loopw [9, 21] (fun v i wr => ∃ (j : Nat) (out : List Int), j ≤ l0.length ∧ i = .int .i64 j ∧ Aside0 (Kd.R (Kd.int .i64) 3 wr w.heap.size (fun _ => True) v out) ∧ Aside0 (Below w.heap.size w wr) ∧ Aside0 (cutA endX lo hi (l0.drop j) out = tot) ∧ Aside0 (out.length ≤ 2 + 2 * j))
  (fun _ i _ => l0.length - (intOf i).toNat)
 case atStart => exact ⟨0, _, Nat.zero_le _, rfl, HST, HB, ⟨HTOT.out.symm⟩, ⟨Nat.le_refl _⟩⟩
 case round =>
  clear HST HB HT
  obtain ⟨j, out, hk, rfl, HO, HB, HP, HL⟩ := hrel
  by_cases hlt : j < l0.length
  rotate_left
  ·obtain rfl : j = l0.length := by omega
   have hp := HP.out
   rw [List.drop_length] at hp
   unfold cutA at hp
   have HP3 := am hp
   have HLL := am (show out.length < 1099511627776 by have := HL.out; omega)
   have HLS := am (show (insL out).length < 1099511627776 by rw [insL_len]; exact HLL.out)
   have HF1 := am (show slices_Sort_int_int.f out = some (insL out) from if_pos HLL.out)
   have HF2 := am (show slices_Compact_int_int.f (insL out) = some (Go.Lib.compactUpTo (insL out).toArray (insL out).length) from if_pos HLS.out)
   have HC := am (show cutL endX lo hi l0 = Go.Lib.compactUpTo (insL out).toArray (insL out).length by unfold cutL; rw [← HTOT.out, ← hp])
   clear hp HP
   go_wp2_with (first | (go_at_call 91; (with_reducible refine (slices_Sort_int_int.calls (fun _ => True) _ out (insL out) w _ HB.out HO.out HF1.out).mono ?_); rintro e w5 ⟨rfl, ho, hb, hk⟩; have HO5 := am (Kd.R_mono ho (ok' := fun _ => True) (fun _ _ => trivial)); have HB5 := am hb; clear ho hb hk) | (go_at_call 92; (with_reducible refine (slices_Compact_int_int.calls (fun _ => True) _ (insL out) _ w _ HB5.out HO5.out HF2.out).mono ?_); rintro e w6 ⟨v0, rfl, ho, hb, hk⟩; have HO6 := am (Kd.R_mono ho (ok' := fun _ => True) (fun _ _ => trivial)); have HB6 := am hb; clear ho hb hk))
   go_ret
   exact ⟨_, rfl, by rw [HC.out]; exact HO6.out, HB6.out⟩
  obtain ⟨ad, e, h0, h1, h2, h3, h4, h5, h6, h7⟩ := at_T68 HR.out (j : Int) (by omega) (by omega)
  cases e
  replace h0 := cl HB h0
  replace h1 := cl HB h1
  replace h2 := cl HB h2
  replace h3 := cl HB h3
  replace h4 := cl HB h4
  replace h5 := cl HB h5
  replace h6 := cl HB h6
  replace h7 := cl HB h7
  rw [Int.toNat_natCast] at h0 h1 h2 h3 h4 h5 h6 h7
  have hp := HP.out
  rw [EvKit.drop_cons l0 j z68 hlt, show l0.getD j z68 = rd_T68 l0 (j : Int) by simp [rd_T68]] at hp
  obtain ⟨x, hx⟩ : ∃ x, x = rd_T68 l0 (j : Int) := ⟨_, rfl⟩
  rw [← hx] at h0 h1 h2 h3 h4 h5 h6 h7 hp
  unfold cutA at hp
  obtain ⟨pa, hpa⟩ : ∃ z, z = (endX x.f1).1 := ⟨_, rfl⟩
  obtain ⟨pb, hpb⟩ : ∃ z, z = (endX x.f1).2 := ⟨_, rfl⟩
  rw [← hpa, ← hpb] at hp
  have HPP := am hp
  have HPA := am hpa
  have HPB := am hpb
  clear hp HP hx hpa hpb
  go_wp2_with (go_at_call 74; refine (HQ.out x.f1 _).mono ?_; rintro e w3 ⟨rfl, hb⟩; rw [← HPA.out, ← HPB.out]; have HB3 := bS HB hb; have HO3 := am (Kd.R_below (Kd.R_below HO.out (wa (Below.refl _ _) _)) hb); clear hb h0 h1 h2 h3 h4 h5 h6 h7)
  have HG := am (blk_new w3 (.cells #[.int .i64 pa, .int .i64 pb] 3))
  have HO4 := am (Kd.R_alloc HO3.out (.cells #[.int .i64 pa, .int .i64 pb] 3))
  have HB4 := am (wa HB3.out (.cells #[.int .i64 pa, .int .i64 pb] 3))
  have HN := am (wrow_new HO3.out)
  generalize hW4 : w3.alloc (.cells #[.int .i64 pa, .int .i64 pb] 3) = w4 at HG HO4 HB4 ⊢
  generalize w3.heap.size = g at HG HN ⊢
  clear hW4 HO3 HB3 HO HB
  go_loopw [9, 36] (fun v i wr => ∃ (q : Nat) (out1 : List Int), q ≤ 2 ∧ i = .int .i64 q ∧ Aside0 (Kd.R (Kd.int .i64) 3 wr w.heap.size (fun _ => True) v out1) ∧ Aside0 (Below w.heap.size w wr) ∧ Aside0 (wr.heap[g]? = some (.cells #[.int .i64 pa, .int .i64 pb] 3 (0, 0))) ∧ Aside0 (some g ≠ v.ownBlock) ∧ Aside0 (out1 ++ ([pa, pb].drop q).filter (inC lo hi) = out ++ [pa, pb].filter (inC lo hi)) ∧ Aside0 (out1.length ≤ 2 + 2 * j + q))
   (fun _ i _ => 2 - (intOf i).toNat)
  case atStart => exact ⟨0, out, by omega, rfl, HO4, HB4, HG, HN, ⟨rfl⟩, HL⟩
  case round =>
   clear HG HO4 HB4 HN
   obtain ⟨q, out1, hq, rfl, HO2, HB2, HG2, HN2, HP2, HL2⟩ := hrel
   by_cases hq2 : q < 2
   rotate_left
   ·obtain rfl : q = 2 := by omega
    have hp2 := HP2.out
    rw [show [pa, pb].drop 2 = [] from rfl, List.filter_nil, List.append_nil] at hp2
    have HP3 := am (show cutA endX lo hi (l0.drop (j + 1)) out1 = tot by rw [hp2]; exact HPP.out)
    clear hp2 HP2 hq2
    go_wp2
    go_roundw
    case rel => exact ⟨j + 1, out1, by omega, by go_num, HO2, HB2, HP3, ⟨by have := HL2.out; omega⟩⟩
    case measure => simp [intOf]; omega
   obtain ⟨n, hn, hcell⟩ : ∃ n, [pa, pb].drop q = n :: [pa, pb].drop (q + 1) ∧ wr.cell? ⟨g, q, none⟩ = some (.int .i64 n) := by
    match q, hq2 with
    | 0, _ => exact ⟨pa, rfl, (bc HG2.out 0).trans rfl⟩
    | 1, _ => exact ⟨pb, rfl, (bc HG2.out 1).trans rfl⟩
   have hp2 := HP2.out
   rw [hn, List.filter_cons] at hp2
   clear hn HP2
   by_cases ha : lo < n
   ·have d1 : decide (n > lo) = true := decide_eq_true ha
    by_cases hb : n < hi
    ·have d2 : decide (n < hi) = true := decide_eq_true hb
     rw [if_pos (by simp [inC, ha, hb])] at hp2
     have HP3 := am (show (out1 ++ [n]) ++ ([pa, pb].drop (q + 1)).filter (inC lo hi) = out ++ [pa, pb].filter (inC lo hi) by rw [List.append_assoc]; exact hp2)
     clear hp2 ha hb
     go_wp2_with ((with_reducible refine gate_builtin (b := .append) (xs := #[.tmp 48, .tmp 50]) rfl ?_); at_builtin; refine Kd.R_append (Kd.int .i64) (w0 := w) w.heap.size rfl (.tmp 48) (.tmp 50) 98 3 (.int .i64 0) 8 rfl Try.underlying98 info3 rfl (by decide) (by omega) _ out1 n [.int .i64 n] (fun _ => True) (fun _ => False) rfl rfl ?aP (fun _ hk => hk.elim) ?aF ?aO ?aB ?aS ?aL ?_; (case aP => exact rfl); (case aB => exact HB2.out); (case aF => exact (fun _ _ => trivial)); (case aO => exact HO2.out); (case aS => exact below_size HB2.out); (case aL => have := HL2.out; omega); intro v9 w9 ho hb hg hat; have n0_ := am hb; have n1_ := am ho; have n2_ := am ((hg.block _ (blk_lt HG2.out) HN2.out).trans HG2.out); have n3_ := am (wrow_ne hat HG2.out HN2.out); clear ho hb hg hat)
     go_roundw
     case rel => exact ⟨q + 1, out1 ++ [n], by omega, by go_num, n1_, n0_, n2_, n3_, HP3, ⟨by have := HL2.out; rw [List.length_append, List.length_singleton]; omega⟩⟩
     case measure => simp [intOf]; omega
    have d2 : decide (n < hi) = false := decide_eq_false hb
    rw [if_neg (by simp [inC, ha, hb])] at hp2
    have HP3 := am hp2
    clear hp2 ha hb
    go_wp2
    go_roundw
    case rel => exact ⟨q + 1, out1, by omega, by go_num, HO2, HB2, HG2, HN2, HP3, ⟨by have := HL2.out; omega⟩⟩
    case measure => simp [intOf]; omega
   have d1 : decide (n > lo) = false := decide_eq_false ha
   rw [if_neg (by simp [inC, ha])] at hp2
   have HP3 := am hp2
   clear hp2 ha
   go_wp2
   go_roundw
   case rel => exact ⟨q + 1, out1, by omega, by go_num, HO2, HB2, HG2, HN2, HP3, ⟨by have := HL2.out; omega⟩⟩
   case measure => simp [intOf]; omega
set_option maxHeartbeats 4000000 in
set_option maxRecDepth 100000 in
theorem cuts75 (lo hi : Int) (A0 : Option Addr) (c0 : Nat) (l0 : List S68) (w : World) (hr0 : Kd.C k68 w A0 l0.length l0) (hc0 : l0.length ≤ c0) (hl : l0.length < 1000000) :
  Calls Try.prog 73 #[.int .i64 lo, .int .i64 hi, .slice A0 l0.length c0, .func (.func 75) #[] #[]] w fun e w' => ∃ v0_ : Value, e = .returned v0_ ∧ Kd.R (Kd.int .i64) 3 w' w.heap.size (fun _ => True) v0_ (cutL endY lo hi l0) ∧ Below w.heap.size w w' := by
 have hu43 := Try.underlying43
 have HR := am hr0
 have HQ := am (fun (x : S43) W => model_each_2.calls x.f0.f0 x.f0.f1 x.f0.f2 x.f1.f0 x.f1.f1 x.f1.f2 (endY x).1 (endY x).2 W rfl)
 have HST := am (cut_start w lo hi)
 have HT := am (rfl : cutA endY lo hi l0 [lo, hi] = cutA endY lo hi l0 [lo, hi])
 obtain ⟨tot, htot⟩ : ∃ t, t = cutA endY lo hi l0 [lo, hi] := ⟨_, rfl⟩
 have HTOT := am htot
 have HLT := am (cutA_len endY lo hi l0 [lo, hi])
 have HB := am (wa (Below.refl w.heap.size w) (.cells #[.int .i64 lo, .int .i64 hi] 3))
 clear hr0 htot
 go_enter Try.func73, Try.ntmps73
 go_wp2
 go_loopw [9, 21] (fun v i wr => ∃ (j : Nat) (out : List Int), j ≤ l0.length ∧ i = .int .i64 j ∧ Aside0 (Kd.R (Kd.int .i64) 3 wr w.heap.size (fun _ => True) v out) ∧ Aside0 (Below w.heap.size w wr) ∧ Aside0 (cutA endY lo hi (l0.drop j) out = tot) ∧ Aside0 (out.length ≤ 2 + 2 * j))
  (fun _ i _ => l0.length - (intOf i).toNat)
 case atStart => exact ⟨0, _, Nat.zero_le _, rfl, HST, HB, ⟨HTOT.out.symm⟩, ⟨Nat.le_refl _⟩⟩
 case round =>
  clear HST HB HT
  obtain ⟨j, out, hk, rfl, HO, HB, HP, HL⟩ := hrel
  by_cases hlt : j < l0.length
  rotate_left
  ·obtain rfl : j = l0.length := by omega
   have hp := HP.out
   rw [List.drop_length] at hp
   unfold cutA at hp
   have HP3 := am hp
   have HLL := am (show out.length < 1099511627776 by have := HL.out; omega)
   have HLS := am (show (insL out).length < 1099511627776 by rw [insL_len]; exact HLL.out)
   have HF1 := am (show slices_Sort_int_int.f out = some (insL out) from if_pos HLL.out)
   have HF2 := am (show slices_Compact_int_int.f (insL out) = some (Go.Lib.compactUpTo (insL out).toArray (insL out).length) from if_pos HLS.out)
   have HC := am (show cutL endY lo hi l0 = Go.Lib.compactUpTo (insL out).toArray (insL out).length by unfold cutL; rw [← HTOT.out, ← hp])
   clear hp HP
   go_wp2_with (first | (go_at_call 91; (with_reducible refine (slices_Sort_int_int.calls (fun _ => True) _ out (insL out) w _ HB.out HO.out HF1.out).mono ?_); rintro e w5 ⟨rfl, ho, hb, hk⟩; have HO5 := am (Kd.R_mono ho (ok' := fun _ => True) (fun _ _ => trivial)); have HB5 := am hb; clear ho hb hk) | (go_at_call 92; (with_reducible refine (slices_Compact_int_int.calls (fun _ => True) _ (insL out) _ w _ HB5.out HO5.out HF2.out).mono ?_); rintro e w6 ⟨v0, rfl, ho, hb, hk⟩; have HO6 := am (Kd.R_mono ho (ok' := fun _ => True) (fun _ _ => trivial)); have HB6 := am hb; clear ho hb hk))
   go_ret
   exact ⟨_, rfl, by rw [HC.out]; exact HO6.out, HB6.out⟩
  obtain ⟨ad, e, h0, h1, h2, h3, h4, h5, h6, h7⟩ := at_T68 HR.out (j : Int) (by omega) (by omega)
  cases e
  replace h0 := cl HB h0
  replace h1 := cl HB h1
  replace h2 := cl HB h2
  replace h3 := cl HB h3
  replace h4 := cl HB h4
  replace h5 := cl HB h5
  replace h6 := cl HB h6
  replace h7 := cl HB h7
  rw [Int.toNat_natCast] at h0 h1 h2 h3 h4 h5 h6 h7
  have hp := HP.out
  rw [EvKit.drop_cons l0 j z68 hlt, show l0.getD j z68 = rd_T68 l0 (j : Int) by simp [rd_T68]] at hp
  obtain ⟨x, hx⟩ : ∃ x, x = rd_T68 l0 (j : Int) := ⟨_, rfl⟩
  rw [← hx] at h0 h1 h2 h3 h4 h5 h6 h7 hp
  unfold cutA at hp
  obtain ⟨pa, hpa⟩ : ∃ z, z = (endY x.f1).1 := ⟨_, rfl⟩
  obtain ⟨pb, hpb⟩ : ∃ z, z = (endY x.f1).2 := ⟨_, rfl⟩
  rw [← hpa, ← hpb] at hp
  have HPP := am hp
  have HPA := am hpa
  have HPB := am hpb
  clear hp HP hx hpa hpb
  go_wp2_with (go_at_call 75; refine (HQ.out x.f1 _).mono ?_; rintro e w3 ⟨rfl, hb⟩; rw [← HPA.out, ← HPB.out]; have HB3 := bS HB hb; have HO3 := am (Kd.R_below (Kd.R_below HO.out (wa (Below.refl _ _) _)) hb); clear hb h0 h1 h2 h3 h4 h5 h6 h7)
  have HG := am (blk_new w3 (.cells #[.int .i64 pa, .int .i64 pb] 3))
  have HO4 := am (Kd.R_alloc HO3.out (.cells #[.int .i64 pa, .int .i64 pb] 3))
  have HB4 := am (wa HB3.out (.cells #[.int .i64 pa, .int .i64 pb] 3))
  have HN := am (wrow_new HO3.out)
  generalize hW4 : w3.alloc (.cells #[.int .i64 pa, .int .i64 pb] 3) = w4 at HG HO4 HB4 ⊢
  generalize w3.heap.size = g at HG HN ⊢
  clear hW4 HO3 HB3 HO HB
  go_loopw [9, 36] (fun v i wr => ∃ (q : Nat) (out1 : List Int), q ≤ 2 ∧ i = .int .i64 q ∧ Aside0 (Kd.R (Kd.int .i64) 3 wr w.heap.size (fun _ => True) v out1) ∧ Aside0 (Below w.heap.size w wr) ∧ Aside0 (wr.heap[g]? = some (.cells #[.int .i64 pa, .int .i64 pb] 3 (0, 0))) ∧ Aside0 (some g ≠ v.ownBlock) ∧ Aside0 (out1 ++ ([pa, pb].drop q).filter (inC lo hi) = out ++ [pa, pb].filter (inC lo hi)) ∧ Aside0 (out1.length ≤ 2 + 2 * j + q))
   (fun _ i _ => 2 - (intOf i).toNat)
  case atStart => exact ⟨0, out, by omega, rfl, HO4, HB4, HG, HN, ⟨rfl⟩, HL⟩
  case round =>
   clear HG HO4 HB4 HN
   obtain ⟨q, out1, hq, rfl, HO2, HB2, HG2, HN2, HP2, HL2⟩ := hrel
   by_cases hq2 : q < 2
   rotate_left
   ·obtain rfl : q = 2 := by omega
    have hp2 := HP2.out
    rw [show [pa, pb].drop 2 = [] from rfl, List.filter_nil, List.append_nil] at hp2
    have HP3 := am (show cutA endY lo hi (l0.drop (j + 1)) out1 = tot by rw [hp2]; exact HPP.out)
    clear hp2 HP2 hq2
    go_wp2
    go_roundw
    case rel => exact ⟨j + 1, out1, by omega, by go_num, HO2, HB2, HP3, ⟨by have := HL2.out; omega⟩⟩
    case measure => simp [intOf]; omega
   obtain ⟨n, hn, hcell⟩ : ∃ n, [pa, pb].drop q = n :: [pa, pb].drop (q + 1) ∧ wr.cell? ⟨g, q, none⟩ = some (.int .i64 n) := by
    match q, hq2 with
    | 0, _ => exact ⟨pa, rfl, (bc HG2.out 0).trans rfl⟩
    | 1, _ => exact ⟨pb, rfl, (bc HG2.out 1).trans rfl⟩
   have hp2 := HP2.out
   rw [hn, List.filter_cons] at hp2
   clear hn HP2
   by_cases ha : lo < n
   ·have d1 : decide (n > lo) = true := decide_eq_true ha
    by_cases hb : n < hi
    ·have d2 : decide (n < hi) = true := decide_eq_true hb
     rw [if_pos (by simp [inC, ha, hb])] at hp2
     have HP3 := am (show (out1 ++ [n]) ++ ([pa, pb].drop (q + 1)).filter (inC lo hi) = out ++ [pa, pb].filter (inC lo hi) by rw [List.append_assoc]; exact hp2)
     clear hp2 ha hb
     go_wp2_with ((with_reducible refine gate_builtin (b := .append) (xs := #[.tmp 48, .tmp 50]) rfl ?_); at_builtin; refine Kd.R_append (Kd.int .i64) (w0 := w) w.heap.size rfl (.tmp 48) (.tmp 50) 98 3 (.int .i64 0) 8 rfl Try.underlying98 info3 rfl (by decide) (by omega) _ out1 n [.int .i64 n] (fun _ => True) (fun _ => False) rfl rfl ?aP (fun _ hk => hk.elim) ?aF ?aO ?aB ?aS ?aL ?_; (case aP => exact rfl); (case aB => exact HB2.out); (case aF => exact (fun _ _ => trivial)); (case aO => exact HO2.out); (case aS => exact below_size HB2.out); (case aL => have := HL2.out; omega); intro v9 w9 ho hb hg hat; have n0_ := am hb; have n1_ := am ho; have n2_ := am ((hg.block _ (blk_lt HG2.out) HN2.out).trans HG2.out); have n3_ := am (wrow_ne hat HG2.out HN2.out); clear ho hb hg hat)
     go_roundw
     case rel => exact ⟨q + 1, out1 ++ [n], by omega, by go_num, n1_, n0_, n2_, n3_, HP3, ⟨by have := HL2.out; rw [List.length_append, List.length_singleton]; omega⟩⟩
     case measure => simp [intOf]; omega
    have d2 : decide (n < hi) = false := decide_eq_false hb
    rw [if_neg (by simp [inC, ha, hb])] at hp2
    have HP3 := am hp2
    clear hp2 ha hb
    go_wp2
    go_roundw
    case rel => exact ⟨q + 1, out1, by omega, by go_num, HO2, HB2, HG2, HN2, HP3, ⟨by have := HL2.out; omega⟩⟩
    case measure => simp [intOf]; omega
   have d1 : decide (n > lo) = false := decide_eq_false ha
   rw [if_neg (by simp [inC, ha])] at hp2
   have HP3 := am hp2
   clear hp2 ha
   go_wp2
   go_roundw
   case rel => exact ⟨q + 1, out1, by omega, by go_num, HO2, HB2, HG2, HN2, HP3, ⟨by have := HL2.out; omega⟩⟩
   case measure => simp [intOf]; omega
set_option maxHeartbeats 4000000 in
set_option maxRecDepth 100000 in
theorem cuts76 (lo hi : Int) (A0 : Option Addr) (c0 : Nat) (l0 : List S68) (w : World) (hr0 : Kd.C k68 w A0 l0.length l0) (hc0 : l0.length ≤ c0) (hl : l0.length < 1000000) :
  Calls Try.prog 73 #[.int .i64 lo, .int .i64 hi, .slice A0 l0.length c0, .func (.func 76) #[] #[]] w fun e w' => ∃ v0_ : Value, e = .returned v0_ ∧ Kd.R (Kd.int .i64) 3 w' w.heap.size (fun _ => True) v0_ (cutL endZ lo hi l0) ∧ Below w.heap.size w w' := by
 have hu43 := Try.underlying43
 have HR := am hr0
 have HQ := am (fun (x : S43) W => model_each_3.calls x.f0.f0 x.f0.f1 x.f0.f2 x.f1.f0 x.f1.f1 x.f1.f2 (endZ x).1 (endZ x).2 W rfl)
 have HST := am (cut_start w lo hi)
 have HT := am (rfl : cutA endZ lo hi l0 [lo, hi] = cutA endZ lo hi l0 [lo, hi])
 obtain ⟨tot, htot⟩ : ∃ t, t = cutA endZ lo hi l0 [lo, hi] := ⟨_, rfl⟩
 have HTOT := am htot
 have HLT := am (cutA_len endZ lo hi l0 [lo, hi])
 have HB := am (wa (Below.refl w.heap.size w) (.cells #[.int .i64 lo, .int .i64 hi] 3))
 clear hr0 htot
 go_enter Try.func73, Try.ntmps73
 go_wp2
 go_loopw [9, 21] (fun v i wr => ∃ (j : Nat) (out : List Int), j ≤ l0.length ∧ i = .int .i64 j ∧ Aside0 (Kd.R (Kd.int .i64) 3 wr w.heap.size (fun _ => True) v out) ∧ Aside0 (Below w.heap.size w wr) ∧ Aside0 (cutA endZ lo hi (l0.drop j) out = tot) ∧ Aside0 (out.length ≤ 2 + 2 * j))
  (fun _ i _ => l0.length - (intOf i).toNat)
 case atStart => exact ⟨0, _, Nat.zero_le _, rfl, HST, HB, ⟨HTOT.out.symm⟩, ⟨Nat.le_refl _⟩⟩
 case round =>
  clear HST HB HT
  obtain ⟨j, out, hk, rfl, HO, HB, HP, HL⟩ := hrel
  by_cases hlt : j < l0.length
  rotate_left
  ·obtain rfl : j = l0.length := by omega
   have hp := HP.out
   rw [List.drop_length] at hp
   unfold cutA at hp
   have HP3 := am hp
   have HLL := am (show out.length < 1099511627776 by have := HL.out; omega)
   have HLS := am (show (insL out).length < 1099511627776 by rw [insL_len]; exact HLL.out)
   have HF1 := am (show slices_Sort_int_int.f out = some (insL out) from if_pos HLL.out)
   have HF2 := am (show slices_Compact_int_int.f (insL out) = some (Go.Lib.compactUpTo (insL out).toArray (insL out).length) from if_pos HLS.out)
   have HC := am (show cutL endZ lo hi l0 = Go.Lib.compactUpTo (insL out).toArray (insL out).length by unfold cutL; rw [← HTOT.out, ← hp])
   clear hp HP
   go_wp2_with (first | (go_at_call 91; (with_reducible refine (slices_Sort_int_int.calls (fun _ => True) _ out (insL out) w _ HB.out HO.out HF1.out).mono ?_); rintro e w5 ⟨rfl, ho, hb, hk⟩; have HO5 := am (Kd.R_mono ho (ok' := fun _ => True) (fun _ _ => trivial)); have HB5 := am hb; clear ho hb hk) | (go_at_call 92; (with_reducible refine (slices_Compact_int_int.calls (fun _ => True) _ (insL out) _ w _ HB5.out HO5.out HF2.out).mono ?_); rintro e w6 ⟨v0, rfl, ho, hb, hk⟩; have HO6 := am (Kd.R_mono ho (ok' := fun _ => True) (fun _ _ => trivial)); have HB6 := am hb; clear ho hb hk))
   go_ret
   exact ⟨_, rfl, by rw [HC.out]; exact HO6.out, HB6.out⟩
  obtain ⟨ad, e, h0, h1, h2, h3, h4, h5, h6, h7⟩ := at_T68 HR.out (j : Int) (by omega) (by omega)
  cases e
  replace h0 := cl HB h0
  replace h1 := cl HB h1
  replace h2 := cl HB h2
  replace h3 := cl HB h3
  replace h4 := cl HB h4
  replace h5 := cl HB h5
  replace h6 := cl HB h6
  replace h7 := cl HB h7
  rw [Int.toNat_natCast] at h0 h1 h2 h3 h4 h5 h6 h7
  have hp := HP.out
  rw [EvKit.drop_cons l0 j z68 hlt, show l0.getD j z68 = rd_T68 l0 (j : Int) by simp [rd_T68]] at hp
  obtain ⟨x, hx⟩ : ∃ x, x = rd_T68 l0 (j : Int) := ⟨_, rfl⟩
  rw [← hx] at h0 h1 h2 h3 h4 h5 h6 h7 hp
  unfold cutA at hp
  obtain ⟨pa, hpa⟩ : ∃ z, z = (endZ x.f1).1 := ⟨_, rfl⟩
  obtain ⟨pb, hpb⟩ : ∃ z, z = (endZ x.f1).2 := ⟨_, rfl⟩
  rw [← hpa, ← hpb] at hp
  have HPP := am hp
  have HPA := am hpa
  have HPB := am hpb
  clear hp HP hx hpa hpb
  go_wp2_with (go_at_call 76; refine (HQ.out x.f1 _).mono ?_; rintro e w3 ⟨rfl, hb⟩; rw [← HPA.out, ← HPB.out]; have HB3 := bS HB hb; have HO3 := am (Kd.R_below (Kd.R_below HO.out (wa (Below.refl _ _) _)) hb); clear hb h0 h1 h2 h3 h4 h5 h6 h7)
  have HG := am (blk_new w3 (.cells #[.int .i64 pa, .int .i64 pb] 3))
  have HO4 := am (Kd.R_alloc HO3.out (.cells #[.int .i64 pa, .int .i64 pb] 3))
  have HB4 := am (wa HB3.out (.cells #[.int .i64 pa, .int .i64 pb] 3))
  have HN := am (wrow_new HO3.out)
  generalize hW4 : w3.alloc (.cells #[.int .i64 pa, .int .i64 pb] 3) = w4 at HG HO4 HB4 ⊢
  generalize w3.heap.size = g at HG HN ⊢
  clear hW4 HO3 HB3 HO HB
  go_loopw [9, 36] (fun v i wr => ∃ (q : Nat) (out1 : List Int), q ≤ 2 ∧ i = .int .i64 q ∧ Aside0 (Kd.R (Kd.int .i64) 3 wr w.heap.size (fun _ => True) v out1) ∧ Aside0 (Below w.heap.size w wr) ∧ Aside0 (wr.heap[g]? = some (.cells #[.int .i64 pa, .int .i64 pb] 3 (0, 0))) ∧ Aside0 (some g ≠ v.ownBlock) ∧ Aside0 (out1 ++ ([pa, pb].drop q).filter (inC lo hi) = out ++ [pa, pb].filter (inC lo hi)) ∧ Aside0 (out1.length ≤ 2 + 2 * j + q))
   (fun _ i _ => 2 - (intOf i).toNat)
  case atStart => exact ⟨0, out, by omega, rfl, HO4, HB4, HG, HN, ⟨rfl⟩, HL⟩
  case round =>
   clear HG HO4 HB4 HN
   obtain ⟨q, out1, hq, rfl, HO2, HB2, HG2, HN2, HP2, HL2⟩ := hrel
   by_cases hq2 : q < 2
   rotate_left
   ·obtain rfl : q = 2 := by omega
    have hp2 := HP2.out
    rw [show [pa, pb].drop 2 = [] from rfl, List.filter_nil, List.append_nil] at hp2
    have HP3 := am (show cutA endZ lo hi (l0.drop (j + 1)) out1 = tot by rw [hp2]; exact HPP.out)
    clear hp2 HP2 hq2
    go_wp2
    go_roundw
    case rel => exact ⟨j + 1, out1, by omega, by go_num, HO2, HB2, HP3, ⟨by have := HL2.out; omega⟩⟩
    case measure => simp [intOf]; omega
   obtain ⟨n, hn, hcell⟩ : ∃ n, [pa, pb].drop q = n :: [pa, pb].drop (q + 1) ∧ wr.cell? ⟨g, q, none⟩ = some (.int .i64 n) := by
    match q, hq2 with
    | 0, _ => exact ⟨pa, rfl, (bc HG2.out 0).trans rfl⟩
    | 1, _ => exact ⟨pb, rfl, (bc HG2.out 1).trans rfl⟩
   have hp2 := HP2.out
   rw [hn, List.filter_cons] at hp2
   clear hn HP2
   by_cases ha : lo < n
   ·have d1 : decide (n > lo) = true := decide_eq_true ha
    by_cases hb : n < hi
    ·have d2 : decide (n < hi) = true := decide_eq_true hb
     rw [if_pos (by simp [inC, ha, hb])] at hp2
     have HP3 := am (show (out1 ++ [n]) ++ ([pa, pb].drop (q + 1)).filter (inC lo hi) = out ++ [pa, pb].filter (inC lo hi) by rw [List.append_assoc]; exact hp2)
     clear hp2 ha hb
     go_wp2_with ((with_reducible refine gate_builtin (b := .append) (xs := #[.tmp 48, .tmp 50]) rfl ?_); at_builtin; refine Kd.R_append (Kd.int .i64) (w0 := w) w.heap.size rfl (.tmp 48) (.tmp 50) 98 3 (.int .i64 0) 8 rfl Try.underlying98 info3 rfl (by decide) (by omega) _ out1 n [.int .i64 n] (fun _ => True) (fun _ => False) rfl rfl ?aP (fun _ hk => hk.elim) ?aF ?aO ?aB ?aS ?aL ?_; (case aP => exact rfl); (case aB => exact HB2.out); (case aF => exact (fun _ _ => trivial)); (case aO => exact HO2.out); (case aS => exact below_size HB2.out); (case aL => have := HL2.out; omega); intro v9 w9 ho hb hg hat; have n0_ := am hb; have n1_ := am ho; have n2_ := am ((hg.block _ (blk_lt HG2.out) HN2.out).trans HG2.out); have n3_ := am (wrow_ne hat HG2.out HN2.out); clear ho hb hg hat)
     go_roundw
     case rel => exact ⟨q + 1, out1 ++ [n], by omega, by go_num, n1_, n0_, n2_, n3_, HP3, ⟨by have := HL2.out; rw [List.length_append, List.length_singleton]; omega⟩⟩
     case measure => simp [intOf]; omega
    have d2 : decide (n < hi) = false := decide_eq_false hb
    rw [if_neg (by simp [inC, ha, hb])] at hp2
    have HP3 := am hp2
    clear hp2 ha hb
    go_wp2
    go_roundw
    case rel => exact ⟨q + 1, out1, by omega, by go_num, HO2, HB2, HG2, HN2, HP3, ⟨by have := HL2.out; omega⟩⟩
    case measure => simp [intOf]; omega
   have d1 : decide (n > lo) = false := decide_eq_false ha
   rw [if_neg (by simp [inC, ha])] at hp2
   have HP3 := am hp2
   clear hp2 ha
   go_wp2
   go_roundw
   case rel => exact ⟨q + 1, out1, by omega, by go_num, HO2, HB2, HG2, HN2, HP3, ⟨by have := HL2.out; omega⟩⟩
   case measure => simp [intOf]; omega
structure Rest (B : Nat) (w w' : World) : Prop where
 os : w'.os = w.os
 tape : w'.tape = w.tape
 output : w'.output = w.output
 size : w.heap.size ≤ w'.heap.size
 block : ∀ k, B ≤ k → k < w.heap.size → w'.heap[k]? = w.heap[k]?
theorem Rest.refl (B : Nat) (w : World) : Rest B w w := ⟨rfl, rfl, rfl, Nat.le_refl _, fun _ _ _ => rfl⟩
theorem Rest.trans {B : Nat} {a b c : World} (h : Rest B a b) (k : Rest B b c) : Rest B a c :=
 ⟨k.os.trans h.os, k.tape.trans h.tape, k.output.trans h.output, Nat.le_trans h.size k.size, fun i hi hl => (k.block i hi (Nat.lt_of_lt_of_le hl h.size)).trans (h.block i hi hl)⟩
theorem Rest.of_below {B : Nat} {a b : World} (h : Below a.heap.size a b) : Rest B a b := ⟨h.os, h.tape, h.output, h.size, fun i _ hl => h.block i hl⟩
theorem R_rest {α : Type} {d : Kd α} {e B : Nat} {w w1 : World} {ok : Nat → Prop} {v : Value} {xs : List α} (h : Kd.R d e w B ok v xs) (k : Rest B w w1) : Kd.R d e w1 B ok v xs :=
 Kd.R_mono (Kd.R_step (Kd.R_bound h) fun i hi hl => k.block i hi.2.1 hl) fun _ hk => hk.1
def ovB (x b : S43) : Bool := decide (mx x.f0.f0 b.f0.f0 < mn x.f1.f0 b.f1.f0) && (decide (mx x.f0.f1 b.f0.f1 < mn x.f1.f1 b.f1.f1) && decide (mx x.f0.f2 b.f0.f2 < mn x.f1.f2 b.f1.f2))
def nearL (b : S43) (l : List S68) : List S68 := l.filter fun x => ovB x.f1 b
def segsI : List Int → List (Int × Int)
 | a :: b :: l => (a, b) :: segsI (b :: l)
 | _ => []
def fX (z y x : Int × Int) : S43 := ⟨⟨x.1, y.1, z.1⟩, ⟨x.2, y.2, z.2⟩⟩
def fY (xs : List Int) (z y : Int × Int) : List S43 := (segsI xs).map (fX z y)
def fZ (xs ys : List Int) (z : Int × Int) : List S43 := (segsI ys).flatMap (fY xs z)
def partsB (xs ys zs : List Int) : List S43 := (segsI zs).flatMap (fZ xs ys)
def yl {σ : Type} (at_ : S43 → Option Int) (stp : σ → S43 → Int → Option (σ × Bool)) : List S43 → σ → Option σ
 | [], s => some s
 | p :: l, s => (at_ p).bind fun n => (stp s p n).bind fun r => if r.2 = true then yl at_ stp l r.1 else some r.1
def eachF {σ : Type} (at_ : List S68 → S43 → Option Int) (stp : σ → S43 → Int → Option (σ × Bool)) (l : List S68) (b : S43) (s : σ) : Option σ :=
 yl (at_ (nearL b l)) stp (partsB (cutL endX b.f0.f0 b.f1.f0 (nearL b l)) (cutL endY b.f0.f1 b.f1.f1 (nearL b l)) (cutL endZ b.f0.f2 b.f1.f2 (nearL b l))) s
theorem segsI_drop : ∀ (l : List Int) (k : Nat), k + 1 < l.length → (segsI l).drop k = (l.getD k 0, l.getD (k + 1) 0) :: (segsI l).drop (k + 1)
 | a :: b :: l, 0, _ => rfl
 | a :: b :: l, k + 1, h => by
  have := segsI_drop (b :: l) k (by simpa using h)
  simpa [segsI] using this
 | [a], k, h => by simp at h
 | [], k, h => by simp at h
theorem segsI_len : ∀ l : List Int, (segsI l).length = l.length - 1
 | a :: b :: l => by
  have := segsI_len (b :: l)
  simp [segsI] at this ⊢
  omega
 | [a] => rfl
 | [] => rfl
theorem segsI_end (l : List Int) (k : Nat) (h : l.length ≤ k + 1) : (segsI l).drop k = [] := List.drop_eq_nil_of_le (by rw [segsI_len]; omega)
theorem cell_add1 {w : World} {a : Addr} {k : Nat} {v : Value} (h : w.cell? (a.add (k + 1)) = some v) : w.cell? ⟨a.block, a.off + (k + 1), none⟩ = some v := by
 unfold Addr.add at h
 rw [if_neg (by omega)] at h
 exact h
theorem goesV_ {P : Program} {ops : Array Oper} {Q : Exit → Act → World → Prop} {oi : Oper} {N : Option Tmp} {a : Act} {w : World} {K : Act → World → Prop} {f : FuncId} {fn : Func} {x : Operand} {ars : Array Operand} {ts : Array TypeId} (hf : P.funcs[f]? = some fn) (hname : (fn.name == "runtime.NumGoroutine") = false) (hb : fn.body.isSome = true) (args caps : Array Value)
  (hw : Region.wanted oi (yielded ops a.tmps) = true) (hN : oi.dst = N) (hop : oi.op = .call { callee := .value x, args := ars, argTypes := ts }) (hx : a.eval x = .func (.func f) #[] caps) (hargs : ars.map a.eval = args)
  (h : Calls P f (args ++ caps) w fun e w' => ∃ v, e = .returned v ∧ K (a.put N v) w') : if Region.wanted oi (yielded ops a.tmps) = true then Oper.wp P oi a w K Q else K (a.put N undef) w := by
 refine call_ f (args ++ caps) hw hN ?_ h
 have he := enters_ hf hname hb (args ++ caps) w
 unfold execOp
 simp [hop, resolve, Deferred.ofValue, invoke, hx, hargs, he]
def model_each.T20 : Bool × List (List Nat × List Nat) := (true, [([], []), ([], []), ([1], [1]), ([0, 2], [0, 2]), ([3], [3]), ([], []), ([], []), ([6], [6]), ([5, 7], [5, 7]), ([8], [8]), ([], []), ([], []), ([11], [11]), ([10, 12], [10, 12]), ([13], [13]), ([4, 9, 14], [4, 9, 14]), ([], []), ([], []), ([16, 17], [16, 17]), ([18], [18]), ([], []), ([], []), ([20, 21], [20, 21]), ([22], [22]), ([], []), ([], []), ([24, 25], [24, 25]), ([26], [26]), ([19, 23, 27], [19, 23, 27]), ([15, 28], [15, 28]), ([], []), ([30, 29, 0, 1, 2, 3, 4, 5, 6, 7, 8, 9, 10, 11, 12, 13, 14, 15, 16, 17, 18, 19, 20, 21, 22, 23, 24, 25, 26, 27, 28, 29, 30], [29, 30])])
def model_each.B20 : List Nat := [0, 0, 2, 7, 15, 0, 0, 64, 224, 480, 0, 0, 2048, 7168, 15360, 32767, 0, 0, 196608, 458752, 0, 0, 3145728, 7340032, 0, 0, 50331648, 117440512, 268369920, 536870911, 0, 2147483647]
theorem model_each.tab20 : rtab .any (opsOf Try.f50 20) = model_each.T20 := by kernel_rfl
theorem model_each.bits20 : waitsOk model_each.T20.2 model_each.B20 = true := by kernel_rfl
def model_each.T21 : Bool × List (List Nat × List Nat) := (true, [([], []), ([], []), ([], []), ([], []), ([3], [3]), ([2, 4], [2, 4]), ([0, 1, 5, 5], [0, 1, 5]), ([6], [6])])
def model_each.B21 : List Nat := [0, 0, 0, 0, 8, 28, 63, 127]
theorem model_each.tab21 : rtab .any (opsOf Try.f50 21) = model_each.T21 := by kernel_rfl
theorem model_each.bits21 : waitsOk model_each.T21.2 model_each.B21 = true := by kernel_rfl
structure EInv (B : Nat) (w wr : World) (vn vx vy vz : Value) (nr : List S68) (xs ys zs : List Int) : Prop where
 n : Kd.R k68 68 wr B (fun _ => True) vn nr
 x : Kd.R (Kd.int .i64) 3 wr B (fun _ => True) vx xs
 y : Kd.R (Kd.int .i64) 3 wr B (fun _ => True) vy ys
 z : Kd.R (Kd.int .i64) 3 wr B (fun _ => True) vz zs
 r : Rest B w wr
theorem EInv.rest {B : Nat} {w wr w2 : World} {vn vx vy vz : Value} {nr : List S68} {xs ys zs : List Int} (h : EInv B w wr vn vx vy vz nr xs ys zs) (k : Rest B wr w2) : EInv B w w2 vn vx vy vz nr xs ys zs :=
 ⟨R_rest h.n k, R_rest h.x k, R_rest h.y k, R_rest h.z k, h.r.trans k⟩
set_option maxHeartbeats 8000000 in
set_option maxRecDepth 100000 in
theorem each_is (F : FuncId) (fn : Func) (hF : Try.prog.funcs[F]? = some fn) (hF2 : (fn.name == "runtime.NumGoroutine") = false) (hF3 : fn.body.isSome = true) (caps : Array Value) {σ : Type} (I : σ → World → Prop) (stp : σ → S43 → Int → Option (σ × Bool)) (kf : Nat) (A0 : Option Addr) (c0 : Nat) (l0 : List S68) (b : S43) (s0 sf : σ) (w : World)
  (hI : ∀ s W W', I s W → Below W.heap.size W W' → I s W')
  (hY : ∀ s W p n r, I s W → stp s p n = some r → Calls Try.prog F (#[.agg #[.int .i64 p.f0.f0, .int .i64 p.f0.f1, .int .i64 p.f0.f2, .int .i64 p.f1.f0, .int .i64 p.f1.f1, .int .i64 p.f1.f2], .int .i64 n] ++ caps) W fun e W' => e = .returned (.bool r.2) ∧ I r.1 W' ∧ Rest w.heap.size W W')
  (hr0 : Kd.C k68 w A0 l0.length l0) (hc0 : l0.length ≤ c0) (hl : l0.length < 1000000) (h0 : I s0 w)
  (h : eachF (fun l p => model_at.f kf l p.f0.f0 p.f0.f1 p.f0.f2) stp l0 b s0 = some sf) :
  Calls Try.prog 50 #[.slice A0 l0.length c0, .agg #[.int .i64 b.f0.f0, .int .i64 b.f0.f1, .int .i64 b.f0.f2, .int .i64 b.f1.f0, .int .i64 b.f1.f1, .int .i64 b.f1.f2], .func (.func F) #[] caps] w fun e w' => e = .returned (.tuple #[]) ∧ I sf w' ∧ Rest w.heap.size w w' := by
 have hu43 := Try.underlying43
 have hu24 := Try.underlying24
 have HR := am hr0
 replace h : yl (fun p => model_at.f kf (nearL b l0) p.f0.f0 p.f0.f1 p.f0.f2) stp (partsB (cutL endX b.f0.f0 b.f1.f0 (nearL b l0)) (cutL endY b.f0.f1 b.f1.f1 (nearL b l0)) (cutL endZ b.f0.f2 b.f1.f2 (nearL b l0))) s0 = some sf := h
 have HFN := am (And.intro hF (And.intro hF2 hF3))
 replace h : yl (fun p => model_at.f kf (nearL b l0) p.f0.f0 p.f0.f1 p.f0.f2) stp (partsB (cutL endX b.f0.f0 b.f1.f0 (nearL b l0)) (cutL endY b.f0.f1 b.f1.f1 (nearL b l0)) (cutL endZ b.f0.f2 b.f1.f2 (nearL b l0))) s0 = some sf := h
 have HFN := am (And.intro hF (And.intro hF2 hF3))
 replace h : yl (fun p => model_at.f kf (nearL b l0) p.f0.f0 p.f0.f1 p.f0.f2) stp (partsB (cutL endX b.f0.f0 b.f1.f0 (nearL b l0)) (cutL endY b.f0.f1 b.f1.f1 (nearL b l0)) (cutL endZ b.f0.f2 b.f1.f2 (nearL b l0))) s0 = some sf := h
 have HFN := am (And.intro hF (And.intro hF2 hF3))
 replace h : yl (fun p => model_at.f kf (nearL b l0) p.f0.f0 p.f0.f1 p.f0.f2) stp (partsB (cutL endX b.f0.f0 b.f1.f0 (nearL b l0)) (cutL endY b.f0.f1 b.f1.f1 (nearL b l0)) (cutL endZ b.f0.f2 b.f1.f2 (nearL b l0))) s0 = some sf := h
 have HFN := am (And.intro hF (And.intro hF2 hF3))
 replace h : yl (fun p => model_at.f kf (nearL b l0) p.f0.f0 p.f0.f1 p.f0.f2) stp (partsB (cutL endX b.f0.f0 b.f1.f0 (nearL b l0)) (cutL endY b.f0.f1 b.f1.f1 (nearL b l0)) (cutL endZ b.f0.f2 b.f1.f2 (nearL b l0))) s0 = some sf := h
 have HFN := am (And.intro hF (And.intro hF2 hF3))
 have HI := am hI
 have HY := am hY
 have H0 := am h0
 have H := am h
 clear hr0 hI hY h0 h hF hF2 hF3
 go_enter Try.func50, Try.ntmps50
 go_wp2
 obtain ⟨W1, hW1⟩ : ∃ W1, W1 = w.alloc (.cells #[.int .i64 b.f0.f0, .int .i64 b.f0.f1, .int .i64 b.f0.f2, .int .i64 b.f1.f0, .int .i64 b.f1.f1, .int .i64 b.f1.f2] 43) := ⟨_, rfl⟩
 have hb1 : Below w.heap.size w W1 := by rw [hW1]; exact wa (Below.refl _ _) _
 have b1 : W1.heap[w.heap.size]? = some (.cells #[.int .i64 b.f0.f0, .int .i64 b.f0.f1, .int .i64 b.f0.f2, .int .i64 b.f1.f0, .int .i64 b.f1.f1, .int .i64 b.f1.f2] 43 (0, 0)) := by rw [hW1]; exact blk_new w _
 have HB1 := am hb1
 have HG := am b1
 have HZ := am (blk_lt b1)
 rw [← hW1]
 clear hb1 b1 hW1
 have HN := am (rfl : nearL b l0 = nearL b l0)
 obtain ⟨nr, hnr⟩ : ∃ t, t = nearL b l0 := ⟨_, rfl⟩
 have HNR := am hnr
 have HNL := am (show nr.length ≤ l0.length by rw [hnr]; exact List.length_filter_le _ _)
 replace H := am (by have := H.out; rw [← hnr] at this; exact this)
 clear hnr HN
 go_loopw [6, 18] (fun v i wr => ∃ (j : Nat) (out : List S68), j ≤ l0.length ∧ i = .int .i64 j ∧ Aside0 (Kd.R k68 68 wr W1.heap.size (fun _ => True) v out) ∧ Aside0 (Below W1.heap.size W1 wr) ∧ Aside0 (out ++ nearL b (l0.drop j) = nr) ∧ Aside0 (out.length ≤ j))
  (fun _ i _ => l0.length - (intOf i).toNat)
 case atStart => exact ⟨0, [], Nat.zero_le _, rfl, ⟨Kd.R_nil _ _ _ _ _⟩, ⟨Below.refl _ _⟩, ⟨HNR.out.symm⟩, ⟨Nat.le_refl _⟩⟩
 case round =>
  obtain ⟨j, out, hk, rfl, HO, HB, HP, HL⟩ := hrel
  by_cases hlt : j < l0.length
  ·obtain ⟨ad, e, h0, h1, h2, h3, h4, h5, h6, h7⟩ := at_T68 (Kd.C_below HR.out HB1.out) (j : Int) (by omega) (by omega)
   cases e
   replace h0 := (HB.out.cell (bq W1 _ h0)).trans h0
   replace h1 := (HB.out.cell (bq W1 _ h1)).trans h1
   replace h2 := (HB.out.cell (bq W1 _ h2)).trans h2
   replace h3 := (HB.out.cell (bq W1 _ h3)).trans h3
   replace h4 := (HB.out.cell (bq W1 _ h4)).trans h4
   replace h5 := (HB.out.cell (bq W1 _ h5)).trans h5
   replace h6 := (HB.out.cell (bq W1 _ h6)).trans h6
   replace h7 := (HB.out.cell (bq W1 _ h7)).trans h7
   rw [Int.toNat_natCast] at h0 h1 h2 h3 h4 h5 h6 h7
   have hp := HP.out
   rw [EvKit.drop_cons l0 j z68 hlt, show l0.getD j z68 = rd_T68 l0 (j : Int) by simp [rd_T68]] at hp
   obtain ⟨x, hx⟩ : ∃ x, x = rd_T68 l0 (j : Int) := ⟨_, rfl⟩
   rw [← hx] at h0 h1 h2 h3 h4 h5 h6 h7 hp
   unfold nearL at hp
   rw [List.filter_cons] at hp
   have HQ := am (fun W => box_Overlap.calls x.f1.f0.f0 x.f1.f0.f1 x.f1.f0.f2 x.f1.f1.f0 x.f1.f1.f1 x.f1.f1.f2 b.f0.f0 b.f0.f1 b.f0.f2 b.f1.f0 b.f1.f1 b.f1.f2 (ovB x.f1 b) W rfl)
   obtain ⟨k0, k1, k2, k3, k4, k5⟩ := RegInv.cells6 (blk_alloc ((HB.out.block _ HZ.out).trans HG.out) (.cells #[.string x.f0, .int .i64 x.f1.f0.f0, .int .i64 x.f1.f0.f1, .int .i64 x.f1.f0.f2, .int .i64 x.f1.f1.f0, .int .i64 x.f1.f1.f1, .int .i64 x.f1.f1.f2, .int .i64 x.f2] 68))
   clear hx HP
   cases hov : ovB x.f1 b with
   | true =>
    rw [hov] at HQ
    rw [if_pos hov] at hp
    have HP2 := am (show (out ++ [x]) ++ nearL b (l0.drop (j + 1)) = nr by rw [List.append_assoc]; exact hp)
    clear hp hov
    go_wp2_with (first | (go_at_call 60; refine (HQ.out _).mono ?_; rintro e w3 ⟨rfl, hb⟩; obtain ⟨g0, g1, g2, g3, g4, g5, g6, g7⟩ := cells8 (blk_below (blk_new wr _) hb); have HB3 := am (wt (wa HB.out _) hb); have HO3 := am (Kd.R_below (Kd.R_below HO.out (wa (Below.refl _ _) _)) hb); clear hb h0 h1 h2 h3 h4 h5 h6 h7 k0 k1 k2 k3 k4 k5) | ((with_reducible refine gate_builtin (b := .append) (xs := #[.tmp 26, .tmp 28]) rfl ?_); at_builtin; refine Kd.R_append k68 (w0 := W1) W1.heap.size rfl (.tmp 26) (.tmp 28) 22 68 (.agg #[(.string ⟨#[]⟩), (.int .i64 0), (.int .i64 0), (.int .i64 0), (.int .i64 0), (.int .i64 0), (.int .i64 0), (.int .i64 0)]) 72 rfl Try.underlying22 info68 rfl (by decide) (by omega) _ out x [.string x.f0, .int .i64 x.f1.f0.f0, .int .i64 x.f1.f0.f1, .int .i64 x.f1.f0.f2, .int .i64 x.f1.f1.f0, .int .i64 x.f1.f1.f1, .int .i64 x.f1.f1.f2, .int .i64 x.f2] (fun _ => True) (fun _ => False) rfl rfl ?aP (fun _ hk => hk.elim) ?aF ?aO ?aB ?aS ?aL ?_; (case aP => exact k68_mkM _ _ _ x); (case aB => exact HB3.out); (case aF => exact (fun _ _ => trivial)); (case aO => exact HO3.out); (case aS => exact below_size HB3.out); (case aL => have := HL.out; omega); intro v9 w9 ho hb hg hat; have n0_ := am hb; have n1_ := am ho; clear ho hb hg hat))
    go_roundw
    case rel => exact ⟨j + 1, out ++ [x], by omega, by go_num, n1_, n0_, HP2, ⟨by have := HL.out; rw [List.length_append, List.length_singleton]; omega⟩⟩
    case measure => simp [intOf]; omega
   | false =>
    rw [hov] at HQ
    rw [if_neg (by rw [hov]; simp)] at hp
    have HP2 := am (show out ++ nearL b (l0.drop (j + 1)) = nr from hp)
    clear hp hov
    go_wp2_with (go_at_call 60; refine (HQ.out _).mono ?_; rintro e w3 ⟨rfl, hb⟩; have HB3 := am (wt (wa HB.out _) hb); have HO3 := am (Kd.R_below (Kd.R_below HO.out (wa (Below.refl _ _) _)) hb); clear hb h0 h1 h2 h3 h4 h5 h6 h7 k0 k1 k2 k3 k4 k5)
    go_roundw
    case rel => exact ⟨j + 1, out, by omega, by go_num, HO3, HB3, HP2, ⟨by have := HL.out; omega⟩⟩
    case measure => simp [intOf]; omega
  ·obtain rfl : j = l0.length := by omega
   have hp := HP.out
   rw [List.drop_length, show nearL b [] = [] from rfl, List.append_nil] at hp
   subst hp
   clear HP hlt hk
   obtain ⟨A6, c6, rfl⟩ := Kd.R_slice HO.out
   have HON := am (Kd.R_reads' HO.out).2.2
   have HOC := am (Kd.R_reads' HO.out).2.1
   have HOL := am (show out.length < 1000000 by have := HL.out; omega)
   have HGr := am ((HB.out.block _ HZ.out).trans HG.out)
   obtain ⟨k0, k1, k2, k3, k4, k5⟩ := RegInv.cells6 HGr.out
   have HBN := am (HB1.out.trans (HB.out.mono (Nat.le_of_lt HZ.out)))
   go_wp2_with (go_at_call 73; first
    | ((with_reducible refine (cuts74 _ _ _ _ out _ HON.out HOC.out HOL.out).mono ?_); rintro e w3 ⟨v3, rfl, hx, hb⟩; have HX3 := am hx; have HB3 := am hb; obtain ⟨g0, g1, g2, g3, g4, g5⟩ := RegInv.cells6 (blk_below HGr.out hb); clear hx hb k0 k1 k2 k3 k4 k5)
    | ((with_reducible refine (cuts75 _ _ _ _ out _ (Kd.C_below HON.out HB3.out) HOC.out HOL.out).mono ?_); rintro e w4 ⟨v4, rfl, hx, hb⟩; have HX4 := am hx; have HB4 := am hb; obtain ⟨i0, i1, i2, i3, i4, i5⟩ := RegInv.cells6 (blk_below (blk_below HGr.out HB3.out) hb); clear hx hb g0 g1 g2 g3 g4 g5)
    | ((with_reducible refine (cuts76 _ _ _ _ out _ (Kd.C_below (Kd.C_below HON.out HB3.out) HB4.out) HOC.out HOL.out).mono ?_); rintro e w5 ⟨v5, rfl, hx, hb⟩; have HX5 := am hx; have HB5 := am hb; clear hx hb i0 i1 i2 i3 i4 i5))
   have hs0 : w.heap.size ≤ wr.heap.size := HBN.out.size
   have hs3 : wr.heap.size ≤ w3.heap.size := HB3.out.size
   have hs4 : w3.heap.size ≤ w4.heap.size := HB4.out.size
   have hE : EInv w.heap.size w w5 (.slice A6 out.length c6) v3 v4 v5 out (cutL endX b.f0.f0 b.f1.f0 out) (cutL endY b.f0.f1 b.f1.f1 out) (cutL endZ b.f0.f2 b.f1.f2 out) :=
    ⟨Kd.R_lower (Kd.R_below (Kd.R_below (Kd.R_below HO.out HB3.out) HB4.out) HB5.out) (Nat.le_of_lt HZ.out), Kd.R_lower (Kd.R_below (Kd.R_below HX3.out HB4.out) HB5.out) hs0, Kd.R_lower (Kd.R_below HX4.out HB5.out) (Nat.le_trans hs0 hs3), Kd.R_lower HX5.out (Nat.le_trans hs0 (Nat.le_trans hs3 hs4)), Rest.of_below (wt (wt (wt HBN.out HB3.out) HB4.out) HB5.out)⟩
   have hI5 := HI.out _ _ _ H0.out (wt (wt (wt HBN.out HB3.out) HB4.out) HB5.out)
   have hh := H.out
   generalize cutL endX b.f0.f0 b.f1.f0 out = xs at hE hh
   generalize cutL endY b.f0.f1 b.f1.f1 out = ys at hE hh
   generalize cutL endZ b.f0.f2 b.f1.f2 out = zs at hE hh
   have HE := am hE
   have H5 := am hI5
   have HH := am hh
   clear hE hI5 hh H H0 HX3 HX4 HX5 HO HON HOC HGr HB3 HB4 HB5 HBN HB hs0 hs3 hs4 HR HNR HNL HG HZ HB1
   obtain ⟨Ax, cx, rfl⟩ := Kd.R_slice HE.out.x
   obtain ⟨Ay, cy, rfl⟩ := Kd.R_slice HE.out.y
   obtain ⟨Az, cz, rfl⟩ := Kd.R_slice HE.out.z
   have hx1 : xs.length ≤ 9223372036854775807 := by have := (Kd.R_reads' HE.out.x).2.2.2.1; omega
   have hy1 : ys.length ≤ 9223372036854775807 := by have := (Kd.R_reads' HE.out.y).2.2.2.1; omega
   have hz1 : zs.length ≤ 9223372036854775807 := by have := (Kd.R_reads' HE.out.z).2.2.2.1; omega
   go_loopw [12] (fun i wr => ∃ (kk : Nat) (s : σ), kk ≤ zs.length ∧ i = .int .i64 ((kk : Int) + 1) ∧ Aside0 (I s wr) ∧ Aside0 (EInv w.heap.size w wr (.slice A6 out.length c6) (.slice Ax xs.length cx) (.slice Ay ys.length cy) (.slice Az zs.length cz) out xs ys zs) ∧ Aside0 (yl (fun p => model_at.f kf out p.f0.f0 p.f0.f1 p.f0.f2) stp (((segsI zs).drop kk).flatMap (fZ xs ys)) s = some sf))
    (fun i _ => zs.length + 1 - (intOf i).toNat)
   case atStart => exact ⟨0, s0, Nat.zero_le _, rfl, H5, HE, HH⟩
   case round =>
    clear H5 HE HH
    obtain ⟨kk, s, hk1, rfl, HIs, HE, HH⟩ := hrel
    by_cases hlt : kk + 1 < zs.length
    ·have hseg := segsI_drop zs kk (by omega)
     have hh := HH.out
     rw [hseg, List.flatMap_cons] at hh
     have HHz := am hh
     clear hseg hh HH
     obtain ⟨z, hz⟩ : ∃ z : Int × Int, z = (zs.getD kk 0, zs.getD (kk + 1) 0) := ⟨_, rfl⟩
     rw [← hz] at HHz
     obtain ⟨hza, hzb⟩ : z.1 = zs.getD kk 0 ∧ z.2 = zs.getD (kk + 1) 0 := by rw [hz]; exact ⟨rfl, rfl⟩
     have HZA := am hza
     have HZB := am hzb
     clear hz hza hzb
     obtain ⟨restZ, hrz⟩ : ∃ t, t = ((segsI zs).drop (kk + 1)).flatMap (fZ xs ys) := ⟨_, rfl⟩
     rw [← hrz] at HHz
     have HRZ := am hrz
     have HHz' := am (show yl (fun p => model_at.f kf out p.f0.f0 p.f0.f1 p.f0.f2) stp (((segsI ys).drop 0).flatMap (fY xs z) ++ restZ) s = some sf from HHz.out)
     clear hrz HHz
     go_wp2
     obtain ⟨wo, hwo⟩ : ∃ wo : World, wo = wr := ⟨_, rfl⟩
     rw [← hwo] at HIs HE ⊢
     clear hwo
     go_loopw [13] (fun i wr => ∃ (jj : Nat) (s : σ), jj ≤ ys.length ∧ i = .int .i64 ((jj : Int) + 1) ∧ Aside0 (I s wr) ∧ Aside0 (EInv w.heap.size w wr (.slice A6 out.length c6) (.slice Ax xs.length cx) (.slice Ay ys.length cy) (.slice Az zs.length cz) out xs ys zs) ∧ Aside0 (yl (fun p => model_at.f kf out p.f0.f0 p.f0.f1 p.f0.f2) stp (((segsI ys).drop jj).flatMap (fY xs z) ++ restZ) s = some sf))
      (fun i _ => ys.length + 1 - (intOf i).toNat)
     case atStart => exact ⟨0, s, Nat.zero_le _, rfl, HIs, HE, HHz'⟩
     case round =>
      clear HIs HE HHz'
      obtain ⟨jj, s, hj1, rfl, HIs, HE, HH⟩ := hrel
      by_cases hltj : jj + 1 < ys.length
      ·have hseg := segsI_drop ys jj (by omega)
       have hh := HH.out
       rw [hseg, List.flatMap_cons, List.append_assoc] at hh
       have HHy := am hh
       clear hseg hh HH
       obtain ⟨y, hy⟩ : ∃ y : Int × Int, y = (ys.getD jj 0, ys.getD (jj + 1) 0) := ⟨_, rfl⟩
       rw [← hy] at HHy
       obtain ⟨hya, hyb⟩ : y.1 = ys.getD jj 0 ∧ y.2 = ys.getD (jj + 1) 0 := by rw [hy]; exact ⟨rfl, rfl⟩
       have HYA := am hya
       have HYB := am hyb
       clear hy hya hyb
       obtain ⟨restY, hry⟩ : ∃ t, t = ((segsI ys).drop (jj + 1)).flatMap (fY xs z) ++ restZ := ⟨_, rfl⟩
       rw [← hry] at HHy
       have HRY := am hry
       have HHy' := am (show yl (fun p => model_at.f kf out p.f0.f0 p.f0.f1 p.f0.f2) stp (((segsI xs).drop 0).map (fX z y) ++ restY) s = some sf from HHy.out)
       clear hry HHy
       go_wp2
       obtain ⟨wo, hwo⟩ : ∃ wo : World, wo = wr := ⟨_, rfl⟩
       rw [← hwo] at HIs HE ⊢
       clear hwo
       go_loopw [14] (fun i wr => ∃ (ii : Nat) (s : σ), ii ≤ xs.length ∧ i = .int .i64 ((ii : Int) + 1) ∧ Aside0 (I s wr) ∧ Aside0 (EInv w.heap.size w wr (.slice A6 out.length c6) (.slice Ax xs.length cx) (.slice Ay ys.length cy) (.slice Az zs.length cz) out xs ys zs) ∧ Aside0 (yl (fun p => model_at.f kf out p.f0.f0 p.f0.f1 p.f0.f2) stp (((segsI xs).drop ii).map (fX z y) ++ restY) s = some sf))
        (fun i _ => xs.length + 1 - (intOf i).toNat)
       case atStart => exact ⟨0, s, Nat.zero_le _, rfl, HIs, HE, HHy'⟩
       case round =>
        clear HIs HE HHy'
        obtain ⟨ii, s, hi1, rfl, HIs, HE, HH⟩ := hrel
        by_cases hlti : ii + 1 < xs.length
        ·have hseg := segsI_drop xs ii (by omega)
         have hh := HH.out
         rw [hseg, List.map_cons, List.cons_append] at hh
         clear hseg HH
         obtain ⟨ax, eX, cx0⟩ := at_I (Kd.R_reads' HE.out.x).2.2 ii (by omega)
         obtain ⟨ax', eX', cx1⟩ := at_I (Kd.R_reads' HE.out.x).2.2 (ii + 1) hlti
         cases eX
         cases eX'
         obtain ⟨ay, eY, cy0⟩ := at_I (Kd.R_reads' HE.out.y).2.2 jj (by omega)
         obtain ⟨ay', eY', cy1⟩ := at_I (Kd.R_reads' HE.out.y).2.2 (jj + 1) hltj
         cases eY
         cases eY'
         obtain ⟨az, eZ, cz0⟩ := at_I (Kd.R_reads' HE.out.z).2.2 kk (by omega)
         obtain ⟨az', eZ', cz1⟩ := at_I (Kd.R_reads' HE.out.z).2.2 (kk + 1) hlt
         cases eZ
         cases eZ'
         rw [← HYA.out] at cy0
         rw [← HYB.out] at cy1
         rw [← HZA.out] at cz0
         rw [← HZB.out] at cz1
         obtain ⟨x, hx⟩ : ∃ x : Int × Int, x = (xs.getD ii 0, xs.getD (ii + 1) 0) := ⟨_, rfl⟩
         rw [← hx] at hh
         rw [show xs.getD ii 0 = x.1 by rw [hx]] at cx0
         rw [show xs.getD (ii + 1) 0 = x.2 by rw [hx]] at cx1
         unfold yl at hh
         obtain ⟨n, hn, hh⟩ := Option.bind_eq_some_iff.1 hh
         obtain ⟨r, hr, hh⟩ := Option.bind_eq_some_iff.1 hh
         have HN := am (show model_at.f kf out x.1 y.1 z.1 = some n from hn)
         have HS := am hr
         have HHr := am hh
         clear hx hn hr hh
         go_wp2
         have wii : IntKind.i64.wrap (ii : Int) = (ii : Int) := IntWalk.i64_in _ (by omega)
         have pii : (0 : Int) ≤ (ii : Int) + 1 := by omega
         have qii : ((ii : Int) + 1).toNat = ii + 1 := by omega
         have uii : (ii : Int) < (xs.length : Int) := by omega
         have vii : (ii : Int) + 1 < (xs.length : Int) := by omega
         have oii : (0 : Int) ≤ (ii : Int) := by omega
         have wjj : IntKind.i64.wrap (jj : Int) = (jj : Int) := IntWalk.i64_in _ (by omega)
         have pjj : (0 : Int) ≤ (jj : Int) + 1 := by omega
         have qjj : ((jj : Int) + 1).toNat = jj + 1 := by omega
         have ujj : (jj : Int) < (ys.length : Int) := by omega
         have vjj : (jj : Int) + 1 < (ys.length : Int) := by omega
         have ojj : (0 : Int) ≤ (jj : Int) := by omega
         have wkk : IntKind.i64.wrap (kk : Int) = (kk : Int) := IntWalk.i64_in _ (by omega)
         have pkk : (0 : Int) ≤ (kk : Int) + 1 := by omega
         have qkk : ((kk : Int) + 1).toNat = kk + 1 := by omega
         have ukk : (kk : Int) < (zs.length : Int) := by omega
         have vkk : (kk : Int) + 1 < (zs.length : Int) := by omega
         have okk : (0 : Int) ≤ (kk : Int) := by omega
         replace cx1 := cell_add1 cx1
         replace cy1 := cell_add1 cy1
         replace cz1 := cell_add1 cz1
         refine start_ (n := 32) (S := fun w' => w'.cell? (ax.add ii) = some (.int .i64 x.1) ∧ w'.cell? ⟨ax.block, ax.off + (ii + 1), none⟩ = some (.int .i64 x.2) ∧ w'.cell? (ay.add jj) = some (.int .i64 y.1) ∧ w'.cell? ⟨ay.block, ay.off + (jj + 1), none⟩ = some (.int .i64 y.2) ∧ w'.cell? (az.add kk) = some (.int .i64 z.1) ∧ w'.cell? ⟨az.block, az.off + (kk + 1), none⟩ = some (.int .i64 z.2)) (ds := [31]) #[false, false, false, false, false, false, false, false, false, false, false, false, false, false, false, false, false, false, false, false, false, false, false, false, false, false, false, false, false, false, false, false] (by kernel_rfl) rfl rfl ⟨cx0, cx1, cy0, cy1, cz0, cz1⟩ (fun hHeld => ?_)
         refine with_tabW model_each.tab20 model_each.bits20 (fun HT_ HW_ => ?_)
         refine pu (i := 0) (N := some 73) (fl 32 1 []) HT_ ?_
         refine pu (i := 1) (N := some 74) (fl 32 2 []) HT_ ?_
         refine pu (i := 2) (N := some 75) (fl 32 3 []) HT_ ?_
         refine pu (i := 3) (N := some 76) (fl 32 4 []) HT_ ?_
         refine pu (i := 5) (N := some 78) (fl 32 4 [5]) HT_ ?_
         refine pu (i := 6) (N := some 79) (fl 32 4 [5, 6]) HT_ ?_
         refine pu (i := 7) (N := some 80) (fl 32 4 [5, 6, 7]) HT_ ?_
         refine pu (i := 8) (N := some 81) (fl 32 4 [5, 6, 7, 8]) HT_ ?_
         refine pu (i := 10) (N := some 83) (fl 32 4 [5, 6, 7, 8, 10]) HT_ ?_
         refine pu (i := 11) (N := some 84) (fl 32 4 [5, 6, 7, 8, 10, 11]) HT_ ?_
         refine pu (i := 12) (N := some 85) (fl 32 4 [5, 6, 7, 8, 10, 11, 12]) HT_ ?_
         refine pu (i := 13) (N := some 86) (fl 32 4 [5, 6, 7, 8, 10, 11, 12, 13]) HT_ ?_
         refine pu (i := 16) (N := some 89) (fl 32 4 [5, 6, 7, 8, 10, 11, 12, 13, 16]) HT_ ?_
         refine pu (i := 17) (N := some 90) (fl 32 4 [5, 6, 7, 8, 10, 11, 12, 13, 16, 17]) HT_ ?_
         refine pu (i := 18) (N := some 91) (fl 32 4 [5, 6, 7, 8, 10, 11, 12, 13, 16, 17, 18]) HT_ ?_
         refine pu (i := 20) (N := some 93) (fl 32 4 [5, 6, 7, 8, 10, 11, 12, 13, 16, 17, 18, 20]) HT_ ?_
         refine pu (i := 21) (N := some 94) (fl 32 4 [5, 6, 7, 8, 10, 11, 12, 13, 16, 17, 18, 20, 21]) HT_ ?_
         refine pu (i := 22) (N := some 95) (fl 32 4 [5, 6, 7, 8, 10, 11, 12, 13, 16, 17, 18, 20, 21, 22]) HT_ ?_
         refine pu (i := 24) (N := some 97) (fl 32 4 [5, 6, 7, 8, 10, 11, 12, 13, 16, 17, 18, 20, 21, 22, 24]) HT_ ?_
         refine pu (i := 25) (N := some 98) (fl 32 4 [5, 6, 7, 8, 10, 11, 12, 13, 16, 17, 18, 20, 21, 22, 24, 25]) HT_ ?_
         refine pu (i := 26) (N := some 99) (fl 32 4 [5, 6, 7, 8, 10, 11, 12, 13, 16, 17, 18, 20, 21, 22, 24, 25, 26]) HT_ ?_
         refine tk (i := 4) (N := some 77) (fl 32 9 [10, 11, 12, 13, 16, 17, 18, 20, 21, 22, 24, 25, 26]) HT_ HW_ hHeld ?_
         refine tk (i := 9) (N := some 82) (fl 32 14 [16, 17, 18, 20, 21, 22, 24, 25, 26]) HT_ HW_ hHeld ?_
         refine tk (i := 14) (N := some 87) (fl 32 15 [16, 17, 18, 20, 21, 22, 24, 25, 26]) HT_ HW_ hHeld ?_
         refine pu (i := 15) (N := some 88) (fl 32 19 [20, 21, 22, 24, 25, 26]) HT_ ?_
         refine tk (i := 19) (N := some 92) (fl 32 23 [24, 25, 26]) HT_ HW_ hHeld ?_
         refine tk (i := 23) (N := some 96) (fl 32 27 []) HT_ HW_ hHeld ?_
         refine tk (i := 27) (N := some 100) (fl 32 28 []) HT_ HW_ hHeld ?_
         refine pu (i := 28) (N := some 101) (fl 32 29 []) HT_ ?_
         refine pu (i := 29) (N := some 102) (fl 32 30 []) HT_ ?_
         refine one_ (i := 30) (N := some 15) (fl 32 31 []) rfl rfl (one_of HT_.out (by kernel_rfl)) (by decide) (fun K hK => ?_)
         refine value_ (w1 := ?_) (v := ?_) (by rfl) rfl ?_ ?_
         rotate_left 2
         ·go_simp
          constructor
          ·rfl
          rfl
         refine hK.out _ _ ⟨(pw_cell_below (wa (Below.refl _ _) _) hHeld.1), (pw_cell_below (wa (Below.refl _ _) _) hHeld.2.1), (pw_cell_below (wa (Below.refl _ _) _) hHeld.2.2.1), (pw_cell_below (wa (Below.refl _ _) _) hHeld.2.2.2.1), (pw_cell_below (wa (Below.refl _ _) _) hHeld.2.2.2.2.1), (pw_cell_below (wa (Below.refl _ _) _) hHeld.2.2.2.2.2)⟩ (fun hHeld => ?_)
         clear hK K
         refine norm_ (a' := ?_) ?_ ?_
         rotate_left
         ·show Act.put _ (some 15) _ = _
          simp only [Act.put, psl, i64_w, i32_w]
          rfl
         refine last_ (i := 31) (N := none) #[true, true, true, true, true, true, true, true, true, true, true, true, true, true, true, true, true, true, true, true, true, true, true, true, true, true, true, true, true, true, true, true] rfl rfl (one_of HT_.out (by kernel_rfl)) (by decide) (fun K hK => ?_)
         refine skip_ (w1 := ?_) (by rfl) rfl ?_ ?_
         rotate_left
         ·go_simp
          rfl
         refine hK.out _ _ ?_
         clear hK K
         refine done_ (done_of HT_.out (by kernel_rfl)) ?_

         clear cx0 cx1 cy0 cy1 cz0 cz1 wii pii qii uii vii oii wjj pjj qjj ujj vjj ojj wkk pkk qkk ukk vkk okk
         have hb7 : Below wr.heap.size wr ((wr.alloc (.cells #[.int .i64 x.1, .int .i64 y.1, .int .i64 z.1, .int .i64 x.2, .int .i64 y.2, .int .i64 z.2] 43)).drew) := below_drew1 (wa (Below.refl _ _) _)
         have HPB := am (blk_drew (blk_new wr (.cells #[.int .i64 x.1, .int .i64 y.1, .int .i64 z.1, .int .i64 x.2, .int .i64 y.2, .int .i64 z.2] 43)))
         have HI7 := am (HI.out _ _ _ HIs.out (below_drew1 hb7))
         have HE7 := am (HE.out.rest (Rest.of_below (below_drew1 hb7)))
         generalize hW7 : (wr.alloc (.cells #[.int .i64 x.1, .int .i64 y.1, .int .i64 z.1, .int .i64 x.2, .int .i64 y.2, .int .i64 z.2] 43)).drew = w7 at hb7 HPB HI7 HE7 ⊢
         generalize wr.heap.size = gp at HPB hb7 ⊢
         clear hW7 hb7 HIs HE
         obtain ⟨s1, bb⟩ := r
         go_wp2
         cases bb with
         | true =>
          have HH2 := am (show yl (fun p => model_at.f kf out p.f0.f0 p.f0.f1 p.f0.f2) stp (((segsI xs).drop (ii + 1)).map (fX z y) ++ restY) s1 = some sf from HHr.out)
          clear HHr
          refine start_ (n := 8) (S := fun w' => w'.cell? ⟨gp, 0, none⟩ = some (.int .i64 x.1) ∧ w'.cell? ⟨gp, 1, none⟩ = some (.int .i64 y.1) ∧ w'.cell? ⟨gp, 2, none⟩ = some (.int .i64 z.1) ∧ w'.cell? ⟨gp, 3, none⟩ = some (.int .i64 x.2) ∧ w'.cell? ⟨gp, 4, none⟩ = some (.int .i64 y.2) ∧ w'.cell? ⟨gp, 5, none⟩ = some (.int .i64 z.2)) (ds := [6]) #[false, false, false, false, false, false, false, false] (by kernel_rfl) rfl rfl ⟨(bc HPB.out 0).trans rfl, (bc HPB.out 1).trans rfl, (bc HPB.out 2).trans rfl, (bc HPB.out 3).trans rfl, (bc HPB.out 4).trans rfl, (bc HPB.out 5).trans rfl⟩ (fun hHeld => ?_)
          refine with_tabW model_each.tab21 model_each.bits21 (fun HT_ HW_ => ?_)
          refine pu (i := 0) (N := some 103) (fl 8 1 []) HT_ ?_
          refine pu (i := 2) (N := some 105) (fl 8 1 [2]) HT_ ?_
          refine pu (i := 3) (N := some 106) (fl 8 1 [2, 3]) HT_ ?_
          refine tk (i := 1) (N := some 104) (fl 8 4 []) HT_ HW_ hHeld ?_
          refine tk (i := 4) (N := some 107) (fl 8 5 []) HT_ HW_ hHeld ?_
          refine one_ (i := 5) (N := some 108) (fl 8 6 []) rfl rfl (one_of HT_.out (by kernel_rfl)) (by decide) (fun K hK => ?_)
          refine goes_ Try.func37 (by kernel_rfl) rfl #[.slice A6 out.length c6, .agg #[.int .i64 x.1, .int .i64 y.1, .int .i64 z.1]] (by rfl) rfl rfl (by simp only [pml]; rfl) ?_
          with_reducible refine (model_at.calls kf A6 c6 out x.1 y.1 z.1 n _ (Kd.R_reads' HE7.out.n).2.2 (Kd.R_reads' HE7.out.n).2.1 HN.out).mono ?_
          rintro e w8 ⟨rfl, hb⟩
          refine ⟨_, rfl, ?_⟩
          have HI8 := am (HI.out _ _ _ HI7.out hb)
          have HE8 := am (HE7.out.rest (Rest.of_below hb))
          refine hK.out _ _ ⟨(pw_cell_below hb hHeld.1), (pw_cell_below hb hHeld.2.1), (pw_cell_below hb hHeld.2.2.1), (pw_cell_below hb hHeld.2.2.2.1), (pw_cell_below hb hHeld.2.2.2.2.1), (pw_cell_below hb hHeld.2.2.2.2.2)⟩ (fun hHeld => ?_)
          clear hK K
          refine norm_ (a' := ?_) ?_ ?_
          rotate_left
          ·show Act.put _ (some 108) _ = _
           simp only [Act.put, psl, i64_w, i32_w]
           rfl
          refine last_ (i := 6) (N := some 109) #[true, true, true, true, true, true, true, false] rfl rfl (one_of HT_.out (by kernel_rfl)) (by decide) (fun K hK => ?_)
          refine goesV_ (x := .tmp 103) HFN.out.1 HFN.out.2.1 HFN.out.2.2 #[.agg #[.int .i64 x.1, .int .i64 y.1, .int .i64 z.1, .int .i64 x.2, .int .i64 y.2, .int .i64 z.2], .int .i64 n] caps (by rfl) rfl rfl rfl (by simp only [pml]; rfl) ?_
          refine (HY.out s _ (fX z y x) n _ HI8.out HS.out).mono ?_
          rintro e w9 ⟨rfl, hi9, hr9⟩
          refine ⟨_, rfl, ?_⟩
          have HI9 := am hi9
          have HE9 := am (HE8.out.rest hr9)
          clear hi9 hr9
          refine hK.out _ _ ?_
          clear hK K
          refine norm_ (a' := ?_) ?_ ?_
          rotate_left
          ·show Act.put _ (some 109) _ = _
           simp only [Act.put, psl, i64_w, i32_w]
           rfl
          refine pu (i := 7) (N := some 110) (fl 8 8 []) HT_ ?_
          refine done_ (done_of HT_.out (by kernel_rfl)) ?_

          go_wp2
          exact ⟨⟨ii + 1, by omega, by omega, s1, HI9, by rw [← List.map_drop]; exact HH2⟩, by simp [intOf]; omega⟩
         | false =>
          obtain rfl : s1 = sf := Option.some.inj HHr.out
          clear HHr
          refine start_ (n := 8) (S := fun w' => w'.cell? ⟨gp, 0, none⟩ = some (.int .i64 x.1) ∧ w'.cell? ⟨gp, 1, none⟩ = some (.int .i64 y.1) ∧ w'.cell? ⟨gp, 2, none⟩ = some (.int .i64 z.1) ∧ w'.cell? ⟨gp, 3, none⟩ = some (.int .i64 x.2) ∧ w'.cell? ⟨gp, 4, none⟩ = some (.int .i64 y.2) ∧ w'.cell? ⟨gp, 5, none⟩ = some (.int .i64 z.2)) (ds := [6]) #[false, false, false, false, false, false, false, false] (by kernel_rfl) rfl rfl ⟨(bc HPB.out 0).trans rfl, (bc HPB.out 1).trans rfl, (bc HPB.out 2).trans rfl, (bc HPB.out 3).trans rfl, (bc HPB.out 4).trans rfl, (bc HPB.out 5).trans rfl⟩ (fun hHeld => ?_)
          refine with_tabW model_each.tab21 model_each.bits21 (fun HT_ HW_ => ?_)
          refine pu (i := 0) (N := some 103) (fl 8 1 []) HT_ ?_
          refine pu (i := 2) (N := some 105) (fl 8 1 [2]) HT_ ?_
          refine pu (i := 3) (N := some 106) (fl 8 1 [2, 3]) HT_ ?_
          refine tk (i := 1) (N := some 104) (fl 8 4 []) HT_ HW_ hHeld ?_
          refine tk (i := 4) (N := some 107) (fl 8 5 []) HT_ HW_ hHeld ?_
          refine one_ (i := 5) (N := some 108) (fl 8 6 []) rfl rfl (one_of HT_.out (by kernel_rfl)) (by decide) (fun K hK => ?_)
          refine goes_ Try.func37 (by kernel_rfl) rfl #[.slice A6 out.length c6, .agg #[.int .i64 x.1, .int .i64 y.1, .int .i64 z.1]] (by rfl) rfl rfl (by simp only [pml]; rfl) ?_
          with_reducible refine (model_at.calls kf A6 c6 out x.1 y.1 z.1 n _ (Kd.R_reads' HE7.out.n).2.2 (Kd.R_reads' HE7.out.n).2.1 HN.out).mono ?_
          rintro e w8 ⟨rfl, hb⟩
          refine ⟨_, rfl, ?_⟩
          have HI8 := am (HI.out _ _ _ HI7.out hb)
          have HE8 := am (HE7.out.rest (Rest.of_below hb))
          refine hK.out _ _ ⟨(pw_cell_below hb hHeld.1), (pw_cell_below hb hHeld.2.1), (pw_cell_below hb hHeld.2.2.1), (pw_cell_below hb hHeld.2.2.2.1), (pw_cell_below hb hHeld.2.2.2.2.1), (pw_cell_below hb hHeld.2.2.2.2.2)⟩ (fun hHeld => ?_)
          clear hK K
          refine norm_ (a' := ?_) ?_ ?_
          rotate_left
          ·show Act.put _ (some 108) _ = _
           simp only [Act.put, psl, i64_w, i32_w]
           rfl
          refine last_ (i := 6) (N := some 109) #[true, true, true, true, true, true, true, false] rfl rfl (one_of HT_.out (by kernel_rfl)) (by decide) (fun K hK => ?_)
          refine goesV_ (x := .tmp 103) HFN.out.1 HFN.out.2.1 HFN.out.2.2 #[.agg #[.int .i64 x.1, .int .i64 y.1, .int .i64 z.1, .int .i64 x.2, .int .i64 y.2, .int .i64 z.2], .int .i64 n] caps (by rfl) rfl rfl rfl (by simp only [pml]; rfl) ?_
          refine (HY.out s _ (fX z y x) n _ HI8.out HS.out).mono ?_
          rintro e w9 ⟨rfl, hi9, hr9⟩
          refine ⟨_, rfl, ?_⟩
          have HI9 := am hi9
          have HE9 := am (HE8.out.rest hr9)
          clear hi9 hr9
          refine hK.out _ _ ?_
          clear hK K
          refine norm_ (a' := ?_) ?_ ?_
          rotate_left
          ·show Act.put _ (some 109) _ = _
           simp only [Act.put, psl, i64_w, i32_w]
           rfl
          refine pu (i := 7) (N := some 110) (fl 8 8 []) HT_ ?_
          refine done_ (done_of HT_.out (by kernel_rfl)) ?_

          go_wp2
          exact bodyPost_ret (v := .tuple #[]) (by simp [results, Try.results50, go_sem]) rfl ⟨rfl, HI9.out, HE9.out.r⟩
        have hh := HH.out
        rw [segsI_end xs ii (by omega), List.map_nil, List.nil_append, HRY.out] at hh
        have HHn := am hh
        clear hh HH
        go_wp2
        go_roundw
        case rel => exact ⟨jj + 1, s, by omega, by go_num, HIs, HE, HHn⟩
        case measure => simp [intOf]; omega
      have hh := HH.out
      rw [segsI_end ys jj (by omega), List.flatMap_nil, List.nil_append, HRZ.out] at hh
      have HHn := am hh
      clear hh HH
      go_wp2
      go_roundw
      case rel => exact ⟨kk + 1, s, by omega, by go_num, HIs, HE, HHn⟩
      case measure => simp [intOf]; omega
    have hh := HH.out
    rw [segsI_end zs kk (by omega)] at hh
    obtain rfl : s = sf := Option.some.inj hh
    clear hh HH
    go_wp2
    go_end0
    exact ⟨rfl, HIs.out, HE.out.r⟩
theorem rest_set {B g j : Nat} {W w3 : World} {v : Value} (h : Below W.heap.size W w3) (hg : g < B) : Rest B W (w3.setCell ⟨g, j, none⟩ v) := by
 have hs := Below.setCell (B := 0) (Below.refl 0 w3) (p := ⟨g, j, none⟩) (Nat.zero_le _) v
 exact ⟨hs.os.trans h.os, hs.tape.trans h.tape, hs.output.trans h.output, Nat.le_trans h.size hs.size, fun k hk hl => (Below.heap_setCell w3 ⟨g, j, none⟩ v k (by show k ≠ g; omega)).trans (h.block k hl)⟩
structure VolI (w : World) (g5 g9 : Nat) (n s : Int) (W : World) : Prop where
 b : Below w.heap.size w W
 n5 : W.heap[g5]? = some (.cells #[.int .i64 n] 3 (0, 0))
 n9 : W.heap[g9]? = some (.cells #[.int .i64 s] 2 (0, 0))
theorem VolI.keep {w W W' : World} {g5 g9 : Nat} {n s : Int} (h : VolI w g5 g9 n s W) (hb : Below W.heap.size W W') : VolI w g5 g9 n s W' := ⟨wt h.b hb, blk_below h.n5 hb, blk_below h.n9 hb⟩
def volStep (n : Int) (s : Int) (p : S43) (m : Int) : Option (Int × Bool) := if m = n then (box_Volume.f p.f0.f0 p.f0.f1 p.f0.f2 p.f1.f0 p.f1.f1 p.f1.f2).bind fun r => some (wrap64 (s + r.1), true) else some (s, true)
set_option maxHeartbeats 2000000 in
theorem clo51 (w : World) (g5 g9 B : Nat) (n s : Int) (W : World) (p : S43) (m : Int) (r : Int × Bool) (h59 : g5 ≠ g9) (h9 : w.heap.size ≤ g9) (hB : g9 < B) (hI : VolI w g5 g9 n s W) (h : volStep n s p m = some r) :
  Calls Try.prog 51 (#[.agg #[.int .i64 p.f0.f0, .int .i64 p.f0.f1, .int .i64 p.f0.f2, .int .i64 p.f1.f0, .int .i64 p.f1.f1, .int .i64 p.f1.f2], .int .i64 m] ++ #[.pointer (some ⟨g5, 0, none⟩), .pointer (some ⟨g9, 0, none⟩)]) W fun e W' => e = .returned (.bool r.2) ∧ VolI w g5 g9 n r.1 W' ∧ Rest B W W' := by
 have hu43 := Try.underlying43
 have HI := am hI
 have c5 := (bc (blk_alloc hI.n5 (.cells #[.int .i64 p.f0.f0, .int .i64 p.f0.f1, .int .i64 p.f0.f2, .int .i64 p.f1.f0, .int .i64 p.f1.f1, .int .i64 p.f1.f2] 43)) 0).trans rfl
 have HB1 := am (wa (Below.refl W.heap.size W) (.cells #[.int .i64 p.f0.f0, .int .i64 p.f0.f1, .int .i64 p.f0.f2, .int .i64 p.f1.f0, .int .i64 p.f1.f1, .int .i64 p.f1.f2] 43))
 have H59 := am h59
 have H9 := am h9
 have HLB := am hB
 clear hI h59 h9 hB
 show Calls Try.prog 51 #[.agg #[.int .i64 p.f0.f0, .int .i64 p.f0.f1, .int .i64 p.f0.f2, .int .i64 p.f1.f0, .int .i64 p.f1.f1, .int .i64 p.f1.f2], .int .i64 m, .pointer (some ⟨g5, 0, none⟩), .pointer (some ⟨g9, 0, none⟩)] W _
 unfold volStep at h
 by_cases hm : m = n
 ·rw [if_pos hm] at h
  obtain ⟨q, hq, h⟩ := Option.bind_eq_some_iff.1 h
  obtain rfl := Option.some.inj h
  have d1 : (m == n) = true := beq_iff_eq.2 hm
  obtain ⟨q1, q2⟩ := q
  have HQ := am (fun W => box_Volume.calls p.f0.f0 p.f0.f1 p.f0.f2 p.f1.f0 p.f1.f1 p.f1.f2 q1 q2 W hq)
  clear hm h hq
  go_enter Try.func51, Try.ntmps51
  go_wp2_with (go_at_call 52; refine (HQ.out _).mono ?_; rintro e w3 ⟨rfl, hb⟩; have HB3 := am (wt HB1.out hb); have k9 := (bc (blk_below (blk_below HI.out.n9 HB1.out) hb) 0).trans rfl; have f9 := blk_frozen (blk_below (blk_below HI.out.n9 HB1.out) hb) 0; clear hb)
  go_ret
  refine ⟨rfl, ⟨below_set (wt HI.out.b HB3.out) H9.out, blk_far (blk_below HI.out.n5 HB3.out) H59.out _, ?_⟩, rest_set HB3.out HLB.out⟩
  exact blk_put (blk_below HI.out.n9 HB3.out) 0 _ rfl
 rw [if_neg hm] at h
 obtain rfl := Option.some.inj h
 have d1 : (m == n) = false := beq_eq_false_iff_ne.2 hm
 clear hm h
 go_enter Try.func51, Try.ntmps51
 go_wp2
 go_ret
 exact ⟨rfl, HI.out.keep HB1.out, Rest.of_below HB1.out⟩
def model_Volume.f (k : Nat) (l0 : List S68) (a1_0 a1_1 a1_2 a1_3 a1_4 a1_5 a2 : Int) : Option (Int × Int) :=
 (model_ready.f k l0 a1_0 a1_1 a1_2 a1_3 a1_4 a1_5 a2).bind fun e => if e = 0 then (if l0.length < 1000000 then (eachF (fun l p => model_at.f k l p.f0.f0 p.f0.f1 p.f0.f2) (volStep a2) l0 ⟨⟨a1_0, a1_1, a1_2⟩, ⟨a1_3, a1_4, a1_5⟩⟩ 0).bind fun s => some (s, 0) else none) else some (0, e)
set_option maxHeartbeats 4000000 in
theorem model_Volume.calls (k : Nat) (A0 : Option Addr) (c0 : Nat) (l0 : List S68) (a1_0 a1_1 a1_2 a1_3 a1_4 a1_5 a2 : Int) (r1 r2 : Int) (w : World) (hr0 : Kd.C k68 w A0 l0.length l0) (hc0 : l0.length ≤ c0) (h : model_Volume.f k l0 a1_0 a1_1 a1_2 a1_3 a1_4 a1_5 a2 = some (r1, r2)) :
  Calls Try.prog 21 #[.slice A0 l0.length c0, .agg #[.int .i64 a1_0, .int .i64 a1_1, .int .i64 a1_2, .int .i64 a1_3, .int .i64 a1_4, .int .i64 a1_5], .int .i64 a2] w fun e w' => e = .returned (.tuple #[.int .i64 r1, .int .i64 r2]) ∧ Below w.heap.size w w' := by
 have hu43 := Try.underlying43
 obtain ⟨e, he, hh⟩ := Option.bind_eq_some_iff.1 h
 replace h := hh
 clear hh
 obtain ⟨W2, hW2⟩ : ∃ W2, W2 = (w.alloc (.cells #[.int .i64 a1_0, .int .i64 a1_1, .int .i64 a1_2, .int .i64 a1_3, .int .i64 a1_4, .int .i64 a1_5] 43)).alloc (.cells #[.int .i64 a2] 3) := ⟨_, rfl⟩
 have hb2 : Below w.heap.size w W2 := by rw [hW2]; exact wa (wa (Below.refl _ _) _) _
 have b4 : W2.heap[w.heap.size]? = some (.cells #[.int .i64 a1_0, .int .i64 a1_1, .int .i64 a1_2, .int .i64 a1_3, .int .i64 a1_4, .int .i64 a1_5] 43 (0, 0)) := by rw [hW2]; exact blk_alloc (blk_new w _) _
 have b5 : W2.heap[w.heap.size + 1]? = some (.cells #[.int .i64 a2] 3 (0, 0)) := by
  rw [hW2]; have h := blk_new (w.alloc (.cells #[.int .i64 a1_0, .int .i64 a1_1, .int .i64 a1_2, .int .i64 a1_3, .int .i64 a1_4, .int .i64 a1_5] 43)) (.cells #[.int .i64 a2] 3); rw [World.size_alloc] at h; exact h
 have HB2 := am hb2
 have H4 := am b4
 have H5 := am b5
 have HW := am hW2
 have HR := am hr0
 have HE := am he
 clear hb2 b4 b5 hW2 hr0 he
 by_cases he0 : e = 0
 case neg =>
  rw [if_neg he0] at h
  obtain ⟨rfl, rfl⟩ : r1 = 0 ∧ r2 = e := by have := Option.some.inj h; simp only [Prod.mk.injEq] at this; exact ⟨this.1.symm, this.2.symm⟩
  have e2 : (r2 != 0) = true := by simpa using he0
  clear he0 h
  go_enter Try.func21, Try.ntmps21
  go_wp2_with (go_at_call 49; rw [← HW.out]; (with_reducible refine (model_ready.calls k _ c0 l0 a1_0 a1_1 a1_2 a1_3 a1_4 a1_5 a2 r2 _ (Kd.C_below HR.out HB2.out) hc0 HE.out).mono ?_); rintro e w3 ⟨rfl, hb⟩; have HB3 := am (wt HB2.out hb); clear hb)
  go_ret2
  exact ⟨rfl, HB3.out⟩
 subst he0
 rw [if_pos rfl] at h
 have hl : l0.length < 1000000 := by
  by_cases hq : l0.length < 1000000
  ·exact hq
  rw [if_neg hq] at h; cases h
 rw [if_pos hl] at h
 obtain ⟨s, hs, hh⟩ := Option.bind_eq_some_iff.1 h
 replace h := hh
 clear hh
 obtain ⟨rfl, rfl⟩ : r1 = s ∧ r2 = 0 := by have := Option.some.inj h; simp only [Prod.mk.injEq] at this; exact ⟨this.1.symm, this.2.symm⟩
 have HS := am hs
 clear h hs
 go_enter Try.func21, Try.ntmps21
 go_wp2_with (first | (go_at_call 49; rw [← HW.out]; (with_reducible refine (model_ready.calls k _ c0 l0 a1_0 a1_1 a1_2 a1_3 a1_4 a1_5 a2 0 _ (Kd.C_below HR.out HB2.out) hc0 HE.out).mono ?_); rintro e w3 ⟨rfl, hb⟩; obtain ⟨k0, k1, k2, k3, k4, k5⟩ := RegInv.cells6 (blk_alloc (blk_below H4.out hb) (.cells #[.int .i64 0] 2)); have HB3 := am hb; clear hb) | (go_at_call 50; have l5 := blk_lt H5.out; have ls := HB3.out.size; have HBn := am (wa (Below.refl w3.heap.size w3) (.cells #[.int .i64 0] 2)); (with_reducible refine (each_is 51 Try.f51 Try.func51 (by kernel_rfl) rfl #[.pointer (some ⟨w.heap.size + 1, 0, none⟩), .pointer (some ⟨w3.heap.size, 0, none⟩)] (VolI w (w.heap.size + 1) w3.heap.size a2) (volStep a2) k A0 c0 l0 ⟨⟨a1_0, a1_1, a1_2⟩, ⟨a1_3, a1_4, a1_5⟩⟩ 0 r1 _ (fun s W W' h hb => h.keep hb) (fun s W p m r hI hs => clo51 w (w.heap.size + 1) w3.heap.size _ a2 s W p m r (by omega) (by omega) (by simp) hI hs) (Kd.C_below (Kd.C_below (Kd.C_below HR.out HB2.out) HB3.out) HBn.out) hc0 hl ⟨wt (wt HB2.out HB3.out) HBn.out, blk_below (blk_below H5.out HB3.out) HBn.out, blk_new _ _⟩ HS.out).mono ?_); rintro e w5 ⟨rfl, hi, hr⟩; have c9 := (bc hi.n9 0).trans rfl; have HI9 := am hi.b; clear hi hr k0 k1 k2 k3 k4 k5))
 go_ret2
 exact ⟨rfl, HI9.out⟩
end

end Go.Proofs.Ytcofgnbopodahaa.QA
