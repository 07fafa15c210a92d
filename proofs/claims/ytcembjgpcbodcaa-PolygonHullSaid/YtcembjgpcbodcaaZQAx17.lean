import Derived.Test.YtcembjgpcbodcaaZQAx0
import Derived.Test.YtcembjgpcbodcaaZQAx1
import Derived.Test.YtcembjgpcbodcaaZQAx11
namespace Go.Proofs.Ytcembjgpcbodcaa.QA
open Go.RowKit Go.Proofs.YtcembjgpcbodcaaW.PrintWords Go.Proofs.YtcembjgpcbodcaaW.PrintLast Go.Proofs.YtcembjgpcbodcaaW.PrintMore
open Aside0 renaming mk → am
open World renaming block_lt_of_cell? → bq
attribute [local go_sem] max2_int min2_int max_two min_two max_three min_three max_four min_four
set_option linter.unusedVariables false
set_option linter.unusedSimpArgs false

attribute [local go_sem high] eqA23
mutual
def r_Flat.j1 : Nat → List (S23) → Int → Option (Bool)
 | 0, _, _ => none
 | k + 1, x0, x3 => r_Flat.l1 k x0 x3 x3
def r_Flat.l1 : Nat → List (S23) → Int → Int → Option (Bool)
 | 0, _, _, _ => none
 | k + 1, x0, x3, x4 => if x4 < (x0.length : Int) then (if 0 < (x0.length : Int) then (if 0 ≤ x3 then (if x3 < (x0.length : Int) then (if 0 ≤ x4 then ((r_Orient.f ((rd_T23 x0 0).f0) ((rd_T23 x0 0).f1) ((rd_T23 x0 x3).f0) ((rd_T23 x0 x3).f1) ((rd_T23 x0 x4).f0) ((rd_T23 x0 x4).f1)).bind fun t342 => (if t342 = 0 then (r_Flat.l1 k x0 x3 (wrap64 (x4 + 1))) else (some false))) else (none)) else (none)) else (none)) else (none)) else (some true)
def r_Flat.l0 : Nat → List (S23) → Int → Option (Bool)
 | 0, _, _ => none
 | k + 1, x0, x3 => if x3 < (x0.length : Int) then (if 0 ≤ x3 then (if 0 < (x0.length : Int) then (if (((rd_T23 x0 x3).f0) == ((rd_T23 x0 0).f0) && (((rd_T23 x0 x3).f1) == ((rd_T23 x0 0).f1))) = true then (r_Flat.l0 k x0 (wrap64 (x3 + 1))) else (r_Flat.j1 k x0 x3)) else (none)) else (none)) else (r_Flat.j1 k x0 x3)
end
def r_Flat.f (k : Nat) (l0 : List (S23)) : Option (Bool) := r_Flat.l0 k l0 0
def r_Flat.T2 : Bool × List (List Nat × List Nat) := (true, [([], []), ([], []), ([1], [1]), ([0, 2], [0, 2]), ([3], [3]), ([4], [4]), ([4], [4]), ([5, 6, 4], [4, 5, 6]), ([7, 4], [4, 7]), ([4], [4]), ([9, 4], [4, 9]), ([10, 4], [4, 10]), ([8, 11, 4], [4, 8, 11]), ([4, 12], [4, 12])])
def r_Flat.B2 : List Nat := [0, 0, 2, 7, 15, 31, 31, 127, 255, 31, 543, 1567, 4095, 8191]
theorem r_Flat.tab2 : rtab .any (opsOf Try.f21 2) = r_Flat.T2 := by kernel_rfl
theorem r_Flat.bits2 : waitsOk r_Flat.T2.2 r_Flat.B2 = true := by kernel_rfl
def r_Flat.T7 : Bool × List (List Nat × List Nat) := (true, [([], []), ([0], [0]), ([1], [1]), ([], []), ([], []), ([3, 4], [3, 4]), ([5], [5]), ([], []), ([], []), ([7, 8], [7, 8]), ([9], [9]), ([2, 6, 10], [2, 6, 10]), ([11], [11])])
def r_Flat.B7 : List Nat := [0, 1, 3, 0, 0, 24, 56, 0, 0, 384, 896, 2047, 4095]
theorem r_Flat.tab7 : rtab .any (opsOf Try.f21 7) = r_Flat.T7 := by kernel_rfl
theorem r_Flat.bits7 : waitsOk r_Flat.T7.2 r_Flat.B7 = true := by kernel_rfl
set_option maxHeartbeats 8000000 in
set_option maxRecDepth 100000 in
theorem r_Flat.calls (k : Nat) (A0 : Option Addr) (c0 : Nat) (l0 : List (S23)) (r : Bool) (w : World) (hr0 : Kd.C k23 w A0 l0.length l0) (hc0 : l0.length ≤ c0) (h : r_Flat.f k l0 = some r) :
  Calls Try.prog 21 #[.slice A0 l0.length c0] w fun e w' => e = .returned (.bool r) ∧ Below w.heap.size w w' := by
 have hu23 := Try.underlying23
 have HR0 := am hr0
 have HC0 := am hc0
 clear hr0 hc0
 have HB := am (Below.refl w.heap.size w)
 have H : (r_Flat.l0 k l0 0) = some r := h
 clear h
 have HC2 := am H
 clear H
 go_enter Try.func21, Try.ntmps21
 go_upto_block 0 with (fail)
 go_cut [3] (fun v3 wc => ∃ (kq : Nat) (x3_1 : Int), v3 = .int .i64 x3_1 ∧ Aside0 (r_Flat.j1 kq l0 x3_1 = some r) ∧ Aside0 (kq ≤ k) ∧ Aside0 (Below w.heap.size w wc))
 case first =>
  have H := HC2.out
  clear HC2
  have H' := am H
  clear H
  go_wp2
  go_loopg [3] k (fun kq v3 w' => ∃ (x3_1 : Int), v3 = .int .i64 x3_1 ∧ Aside0 (r_Flat.l0 kq l0 x3_1 = some r) ∧ Aside0 (kq ≤ k) ∧ Aside0 (Below w.heap.size w w'))
  case atStart => exact ⟨(0), sqD, H', ⟨Nat.le_refl _⟩, ⟨fW HB.out⟩⟩
  case round =>
   clear H'
   try clear c2;try clear p2
   obtain ⟨x3_1, rfl, HA, HK1, HB⟩ := hrel
   cases gk with
   | zero => exact absurd HA.out (by simp [r_Flat.l0])
   | succ k1 =>
    have H := HA.out
    clear HA
    simp only [r_Flat.l0] at H
    by_cases c3 : x3_1 < (l0.length : Int)
    rotate_left
    ·rw [if_neg c3] at H
     have c3b0 : decide (x3_1 < (l0.length : Int)) = false := decide_eq_false c3
     clear c3
     (first | rw [c3b0] | (simp only [i64_w, i32_w]; rw [c3b0]) | skip)
     have H' := am H
     clear H
     try go_wp2
     have n0_ := am (below_drew1 HB.out)
     clear HB
     have HB := n0_
     clear n0_
     refine start_ (n := 14) (S := fun w' => True) (ds := []) #[F,F,F,F,F,F,F,F,F,F,F,F,F,F] (by kernel_rfl) rfl rfl trivial (fun hHeld => ?_); refine with_tabW r_Flat.tab2 r_Flat.bits2 (fun HT_ HW_ => ?_)
     generalize wr.drew = w9 at HB hHeld ⊢
     refine pu (i := 0) (N := some 5) (fl 14 1 []) HT_ ?_
     refine pu (i := 1) (N := some 6) (fl 14 2 []) HT_ ?_
     refine pu (i := 2) (N := some 7) (fl 14 3 []) HT_ ?_
     refine pu (i := 3) (N := some 8) (fl 14 4 []) HT_ ?_
     refine pu (i := 4) (N := some 9) (fl 14 5 []) HT_ ?_
     refine pure_ (i := 5) (N := some 10) (v := undef) (a' := ?_) #[T,T,T,T,T,T,F,F,F,F,F,F,F,F] rfl rfl (any_of HT_.out (by kernel_rfl)) (fun _ _ _ h => h) (Or.inr ⟨by rfl, rfl⟩) ?_ ?_
     rotate_left
     ·simp only [Act.put, psl, i64_w, i32_w]
      rfl
     refine pure_ (i := 6) (N := some 11) (v := undef) (a' := ?_) #[T,T,T,T,T,T,T,F,F,F,F,F,F,F] rfl rfl (any_of HT_.out (by kernel_rfl)) (fun _ _ _ h => h) (Or.inr ⟨by rfl, rfl⟩) ?_ ?_
     rotate_left
     ·simp only [Act.put, psl, i64_w, i32_w]
      rfl
     refine pure_ (i := 7) (N := some 12) (v := undef) (a' := ?_) #[T,T,T,T,T,T,T,T,F,F,F,F,F,F] rfl rfl (any_of HT_.out (by kernel_rfl)) (fun _ _ _ h => h) (Or.inr ⟨by rfl, rfl⟩) ?_ ?_
     rotate_left
     ·simp only [Act.put, psl, i64_w, i32_w]
      rfl
     refine pure_ (i := 8) (N := some 13) (v := undef) (a' := ?_) #[T,T,T,T,T,T,T,T,T,F,F,F,F,F] rfl rfl (any_of HT_.out (by kernel_rfl)) (fun _ _ _ h => h) (Or.inr ⟨by rfl, rfl⟩) ?_ ?_
     rotate_left
     ·simp only [Act.put, psl, i64_w, i32_w]
      rfl
     refine pure_ (i := 9) (N := some 14) (v := undef) (a' := ?_) #[T,T,T,T,T,T,T,T,T,T,F,F,F,F] rfl rfl (any_of HT_.out (by kernel_rfl)) (fun _ _ _ h => h) (Or.inr ⟨by rfl, rfl⟩) ?_ ?_
     rotate_left
     ·simp only [Act.put, psl, i64_w, i32_w]
      rfl
     refine pure_ (i := 10) (N := some 15) (v := undef) (a' := ?_) #[T,T,T,T,T,T,T,T,T,T,T,F,F,F] rfl rfl (any_of HT_.out (by kernel_rfl)) (fun _ _ _ h => h) (Or.inr ⟨by rfl, rfl⟩) ?_ ?_
     rotate_left
     ·simp only [Act.put, psl, i64_w, i32_w]
      rfl
     refine pure_ (i := 11) (N := some 16) (v := undef) (a' := ?_) #[T,T,T,T,T,T,T,T,T,T,T,T,F,F] rfl rfl (any_of HT_.out (by kernel_rfl)) (fun _ _ _ h => h) (Or.inr ⟨by rfl, rfl⟩) ?_ ?_
     rotate_left
     ·simp only [Act.put, psl, i64_w, i32_w]
      rfl
     refine pure_ (i := 12) (N := some 17) (v := undef) (a' := ?_) #[T,T,T,T,T,T,T,T,T,T,T,T,T,F] rfl rfl (any_of HT_.out (by kernel_rfl)) (fun _ _ _ h => h) (Or.inr ⟨by rfl, rfl⟩) ?_ ?_
     rotate_left
     ·simp only [Act.put, psl, i64_w, i32_w]
      rfl
     refine pu (i := 13) (N := some 18) (fl 14 14 []) HT_ ?_
     refine done_ (done_of HT_.out (by kernel_rfl)) ?_
     try go_wp2
     go_meet
     case rel => exact ⟨_, (x3_1), sqD, H', ⟨by have := HK1.out; first | omega | exact Nat.le_refl _⟩, ⟨fW HB.out⟩⟩
    rw [if_pos c3] at H
    have c3b0 : decide (x3_1 < (l0.length : Int)) = true := decide_eq_true c3
    clear c3
    (first | rw [c3b0] | (simp only [i64_w, i32_w]; rw [c3b0]) | skip)
    by_cases c4 : 0 ≤ x3_1
    rotate_left
    ·rw [if_neg c4] at H
     exact absurd H (by simp)
    rw [if_pos c4] at H
    have c4b0 : decide (0 ≤ x3_1) = true := decide_eq_true c4
    clear c4
    by_cases c5 : 0 < (l0.length : Int)
    rotate_left
    ·rw [if_neg c5] at H
     exact absurd H (by simp)
    rw [if_pos c5] at H
    have c5b0 : decide (0 < (l0.length : Int)) = true := decide_eq_true c5
    have c5b1 : decide (0 < l0.length) = true := decide_eq_true (by omega)
    clear c5
    by_cases c6 : (((rd_T23 l0 x3_1).f0) == ((rd_T23 l0 0).f0) && (((rd_T23 l0 x3_1).f1) == ((rd_T23 l0 0).f1))) = true
    ·rw [if_pos c6] at H
     have c6b0 : (((rd_T23 l0 x3_1).f0) == ((rd_T23 l0 0).f0) && (((rd_T23 l0 x3_1).f1) == ((rd_T23 l0 0).f1))) = true := c6
     (try (have c6b1 : decide (((rd_T23 l0 x3_1).f0) = ((rd_T23 l0 0).f0) && (((rd_T23 l0 x3_1).f1) == ((rd_T23 l0 0).f1))) = true := by simpa using c6))
     (try (have c6b2 : (((rd_T23 l0 x3_1).f0) == ((rd_T23 l0 0).f0) && (((rd_T23 l0 x3_1).f1) == ((rd_T23 l0 0).f1))) = true := by simpa using c6))
     clear c6
     have H' := am H
     clear H
     try go_wp2
     have n0_ := am (below_drew1 HB.out)
     clear HB
     have HB := n0_
     clear n0_
     have p337 : 0 ≤ (x3_1 : Int) := of_decide_eq_true (by assumption)
     have q337 : x3_1 < (l0.length : Int) := of_decide_eq_true (by assumption)
     obtain ⟨ad337, e337, hx337_0, hx337_1⟩ := at_T23 HR0.out x3_1 p337 q337
     have hw337_1 := hx337_1
     have hw337_0 := hx337_0
     cases e337
     replace hx337_0 := cl HB hx337_0
     replace hx337_1 := cl HB hx337_1
     replace p337 := eq_true p337
     replace q337 := eq_true q337
     have p338 : 0 ≤ (0 : Int) := (by omega)
     have q338 : 0 < (l0.length : Int) := of_decide_eq_true (by assumption)
     obtain ⟨ad338, e338, hx338_0, hx338_1⟩ := at_T23 HR0.out 0 p338 q338
     have hw338_1 := hx338_1
     (try rw [show ((0 : Int)).toNat = 0 from rfl] at hw338_1)
     (try rw [show 0 * 2 = 0 from rfl] at hw338_1)
     (try rw [Addr.add_zero'] at hw338_1)
     have hw338_0 := hx338_0
     (try rw [show ((0 : Int)).toNat = 0 from rfl] at hw338_0)
     (try rw [show 0 * 2 = 0 from rfl] at hw338_0)
     (try rw [Addr.add_zero'] at hw338_0)
     obtain rfl : ad337 = ad338 := (by injection e338)
     have qi338 : (0 < l0.length) = True := eq_true (by omega)
     (try rw [show ((0 : Int)).toNat = 0 from rfl] at hx338_0)
     (try rw [show 0 * 2 = 0 from rfl] at hx338_0)
     (try rw [Addr.add_zero'] at hx338_0)
     (try rw [show ((0 : Int)).toNat = 0 from rfl] at hx338_1)
     (try rw [show 0 * 2 = 0 from rfl] at hx338_1)
     (try rw [Addr.add_zero'] at hx338_1)
     replace hx338_0 := cl HB hx338_0
     replace hx338_1 := cl HB hx338_1
     replace p338 := eq_true p338
     replace q338 := eq_true q338
     refine start_ (n := 14) (S := fun w' => w'.cell? (ad337.add ((x3_1).toNat * 2)) = some (.int .i64 ((rd_T23 l0 x3_1).f0)) ∧ w'.cell? ⟨(ad337.add ((x3_1).toNat * 2)).block, (ad337.add ((x3_1).toNat * 2)).off + 1, none⟩ = some (.int .i64 ((rd_T23 l0 x3_1).f1)) ∧ w'.cell? ad337 = some (.int .i64 ((rd_T23 l0 0).f0)) ∧ w'.cell? ⟨ad337.block, ad337.off + 1, none⟩ = some (.int .i64 ((rd_T23 l0 0).f1))) (ds := []) #[F,F,F,F,F,F,F,F,F,F,F,F,F,F] (by kernel_rfl) rfl rfl ⟨((HB.out.cell (bq w _ hw337_0)).trans hw337_0), ((HB.out.cell (bq w _ hw337_1)).trans hw337_1), ((HB.out.cell (bq w _ hw338_0)).trans hw338_0), ((HB.out.cell (bq w _ hw338_1)).trans hw338_1)⟩ (fun hHeld => ?_); refine with_tabW r_Flat.tab2 r_Flat.bits2 (fun HT_ HW_ => ?_)
     generalize wr.drew = w7 at HB hx337_0 hx337_1 hx338_0 hx338_1 hHeld ⊢
     refine pu (i := 0) (N := some 5) (fl 14 1 []) HT_ ?_
     refine pu (i := 1) (N := some 6) (fl 14 2 []) HT_ ?_
     refine pu (i := 2) (N := some 7) (fl 14 3 []) HT_ ?_
     refine pu (i := 3) (N := some 8) (fl 14 4 []) HT_ ?_
     refine pu (i := 4) (N := some 9) (fl 14 5 []) HT_ ?_
     refine pu (i := 5) (N := some 10) (fl 14 6 []) HT_ ?_
     refine pu (i := 6) (N := some 11) (fl 14 7 []) HT_ ?_
     refine pu (i := 7) (N := some 12) (fl 14 8 []) HT_ ?_
     refine pu (i := 9) (N := some 14) (fl 14 8 [9]) HT_ ?_
     refine pu (i := 10) (N := some 15) (fl 14 8 [9, 10]) HT_ ?_
     refine tk (i := 8) (N := some 13) (fl 14 11 []) HT_ HW_ hHeld ?_
     refine tk (i := 11) (N := some 16) (fl 14 12 []) HT_ HW_ hHeld ?_
     refine pu (i := 12) (N := some 17) (fl 14 13 []) HT_ ?_
     refine pu (i := 13) (N := some 18) (fl 14 14 []) HT_ ?_
     refine done_ (done_of HT_.out (by kernel_rfl)) ?_
     try go_wp2
     go_roundg k1
     case measure => have := HK1.out; omega
     case rel => exact ⟨(wrap64 (x3_1 + 1)), sqD, H', ⟨by have := HK1.out; omega⟩, ⟨fW HB.out⟩⟩
    rw [if_neg c6] at H
    have c6b0 : (((rd_T23 l0 x3_1).f0) == ((rd_T23 l0 0).f0) && (((rd_T23 l0 x3_1).f1) == ((rd_T23 l0 0).f1))) = false := by simpa using c6
    (try (have c6b1 : decide (((rd_T23 l0 x3_1).f0) = ((rd_T23 l0 0).f0) && (((rd_T23 l0 x3_1).f1) == ((rd_T23 l0 0).f1))) = false := by simpa using c6))
    (try (have c6b2 : (((rd_T23 l0 x3_1).f0) == ((rd_T23 l0 0).f0) && (((rd_T23 l0 x3_1).f1) == ((rd_T23 l0 0).f1))) = false := by simpa using c6))
    (try (have c6b3 : ¬ (((rd_T23 l0 x3_1).f0) = ((rd_T23 l0 0).f0) && (((rd_T23 l0 x3_1).f1) == ((rd_T23 l0 0).f1))) := by simpa using c6))
    clear c6
    have H' := am H
    clear H
    try go_wp2
    have n0_ := am (below_drew1 HB.out)
    clear HB
    have HB := n0_
    clear n0_
    have p337 : 0 ≤ (x3_1 : Int) := of_decide_eq_true (by assumption)
    have q337 : x3_1 < (l0.length : Int) := of_decide_eq_true (by assumption)
    obtain ⟨ad337, e337, hx337_0, hx337_1⟩ := at_T23 HR0.out x3_1 p337 q337
    have hw337_1 := hx337_1
    have hw337_0 := hx337_0
    cases e337
    replace hx337_0 := cl HB hx337_0
    replace hx337_1 := cl HB hx337_1
    replace p337 := eq_true p337
    replace q337 := eq_true q337
    have p338 : 0 ≤ (0 : Int) := (by omega)
    have q338 : 0 < (l0.length : Int) := of_decide_eq_true (by assumption)
    obtain ⟨ad338, e338, hx338_0, hx338_1⟩ := at_T23 HR0.out 0 p338 q338
    have hw338_1 := hx338_1
    (try rw [show ((0 : Int)).toNat = 0 from rfl] at hw338_1)
    (try rw [show 0 * 2 = 0 from rfl] at hw338_1)
    (try rw [Addr.add_zero'] at hw338_1)
    have hw338_0 := hx338_0
    (try rw [show ((0 : Int)).toNat = 0 from rfl] at hw338_0)
    (try rw [show 0 * 2 = 0 from rfl] at hw338_0)
    (try rw [Addr.add_zero'] at hw338_0)
    obtain rfl : ad337 = ad338 := (by injection e338)
    have qi338 : (0 < l0.length) = True := eq_true (by omega)
    (try rw [show ((0 : Int)).toNat = 0 from rfl] at hx338_0)
    (try rw [show 0 * 2 = 0 from rfl] at hx338_0)
    (try rw [Addr.add_zero'] at hx338_0)
    (try rw [show ((0 : Int)).toNat = 0 from rfl] at hx338_1)
    (try rw [show 0 * 2 = 0 from rfl] at hx338_1)
    (try rw [Addr.add_zero'] at hx338_1)
    replace hx338_0 := cl HB hx338_0
    replace hx338_1 := cl HB hx338_1
    replace p338 := eq_true p338
    replace q338 := eq_true q338
    refine start_ (n := 14) (S := fun w' => w'.cell? (ad337.add ((x3_1).toNat * 2)) = some (.int .i64 ((rd_T23 l0 x3_1).f0)) ∧ w'.cell? ⟨(ad337.add ((x3_1).toNat * 2)).block, (ad337.add ((x3_1).toNat * 2)).off + 1, none⟩ = some (.int .i64 ((rd_T23 l0 x3_1).f1)) ∧ w'.cell? ad337 = some (.int .i64 ((rd_T23 l0 0).f0)) ∧ w'.cell? ⟨ad337.block, ad337.off + 1, none⟩ = some (.int .i64 ((rd_T23 l0 0).f1))) (ds := []) #[F,F,F,F,F,F,F,F,F,F,F,F,F,F] (by kernel_rfl) rfl rfl ⟨((HB.out.cell (bq w _ hw337_0)).trans hw337_0), ((HB.out.cell (bq w _ hw337_1)).trans hw337_1), ((HB.out.cell (bq w _ hw338_0)).trans hw338_0), ((HB.out.cell (bq w _ hw338_1)).trans hw338_1)⟩ (fun hHeld => ?_); refine with_tabW r_Flat.tab2 r_Flat.bits2 (fun HT_ HW_ => ?_)
    generalize wr.drew = w8 at HB hx337_0 hx337_1 hx338_0 hx338_1 hHeld ⊢
    refine pu (i := 0) (N := some 5) (fl 14 1 []) HT_ ?_
    refine pu (i := 1) (N := some 6) (fl 14 2 []) HT_ ?_
    refine pu (i := 2) (N := some 7) (fl 14 3 []) HT_ ?_
    refine pu (i := 3) (N := some 8) (fl 14 4 []) HT_ ?_
    refine pu (i := 4) (N := some 9) (fl 14 5 []) HT_ ?_
    refine pu (i := 5) (N := some 10) (fl 14 6 []) HT_ ?_
    refine pu (i := 6) (N := some 11) (fl 14 7 []) HT_ ?_
    refine pu (i := 7) (N := some 12) (fl 14 8 []) HT_ ?_
    refine pu (i := 9) (N := some 14) (fl 14 8 [9]) HT_ ?_
    refine pu (i := 10) (N := some 15) (fl 14 8 [9, 10]) HT_ ?_
    refine tk (i := 8) (N := some 13) (fl 14 11 []) HT_ HW_ hHeld ?_
    refine tk (i := 11) (N := some 16) (fl 14 12 []) HT_ HW_ hHeld ?_
    refine pu (i := 12) (N := some 17) (fl 14 13 []) HT_ ?_
    refine pu (i := 13) (N := some 18) (fl 14 14 []) HT_ ?_
    refine done_ (done_of HT_.out (by kernel_rfl)) ?_
    try go_wp2
    go_meet
    case rel => exact ⟨_, (x3_1), sqD, H', ⟨by have := HK1.out; first | omega | exact Nat.le_refl _⟩, ⟨fW HB.out⟩⟩
 case rest =>
  clear HC2
  try clear c2;try clear p2;try clear c3;try clear c3b0;try clear p3;try clear q3;try clear hx3;try clear qi3;try clear c4;try clear c4b0;try clear c5;try clear c5b0;try clear c5b1;try clear c6;try clear c6b0;try clear c6b1;try clear c6b2;try clear p6;try clear hx337_0;try clear hx337_1;try clear hx338_0;try clear hx338_1;try clear p2;try clear p337;try clear p338;try clear q337;try clear q338
  obtain ⟨kq, x3_1, rfl, HA, HJ1, HB⟩ := hcut
  cases kq with
  | zero => exact absurd HA.out (by simp [r_Flat.j1])
  | succ kj1 =>
   have H := HA.out
   clear HA
   simp only [r_Flat.j1] at H
   have H' := am H
   clear H
   go_wp2
   go_loopg [4] kj1 (fun kq v4 w' => ∃ (x4_2 : Int), v4 = .int .i64 x4_2 ∧ Aside0 (r_Flat.l1 kq l0 x3_1 x4_2 = some r) ∧ Aside0 (kq ≤ kj1) ∧ Aside0 (Below w.heap.size w w'))
   case atStart => exact ⟨(x3_1), sqD, H', ⟨Nat.le_refl _⟩, ⟨fW HB.out⟩⟩
   case round =>
    clear H'
    try clear c2;try clear p2;try clear c3;try clear c3b0;try clear p3;try clear q3;try clear hx3;try clear qi3;try clear c4;try clear c4b0;try clear c5;try clear c5b0;try clear c5b1;try clear c6;try clear c6b0;try clear c6b1;try clear c6b2;try clear p6;try clear hx337_0;try clear hx337_1;try clear hx338_0;try clear hx338_1;try clear p2;try clear p3;try clear p337;try clear p338;try clear p6;try clear q3;try clear q337;try clear q338
    obtain ⟨x4_2, rfl, HA, HK2, HB⟩ := hrel
    cases gk with
    | zero => exact absurd HA.out (by simp [r_Flat.l1])
    | succ k2 =>
     have H := HA.out
     clear HA
     simp only [r_Flat.l1] at H
     by_cases c10 : x4_2 < (l0.length : Int)
     ·rw [if_pos c10] at H
      have c10b0 : decide (x4_2 < (l0.length : Int)) = true := decide_eq_true c10
      clear c10
      by_cases c11 : 0 < (l0.length : Int)
      rotate_left
      ·rw [if_neg c11] at H
       exact absurd H (by simp)
      rw [if_pos c11] at H
      have c11b0 : decide (0 < (l0.length : Int)) = true := decide_eq_true c11
      have c11b1 : decide (0 < l0.length) = true := decide_eq_true (by omega)
      clear c11
      by_cases c12 : 0 ≤ x3_1
      rotate_left
      ·rw [if_neg c12] at H
       exact absurd H (by simp)
      rw [if_pos c12] at H
      have c12b0 : decide (0 ≤ x3_1) = true := decide_eq_true c12
      clear c12
      by_cases c13 : x3_1 < (l0.length : Int)
      rotate_left
      ·rw [if_neg c13] at H
       exact absurd H (by simp)
      rw [if_pos c13] at H
      have c13b0 : decide (x3_1 < (l0.length : Int)) = true := decide_eq_true c13
      clear c13
      by_cases c14 : 0 ≤ x4_2
      rotate_left
      ·rw [if_neg c14] at H
       exact absurd H (by simp)
      rw [if_pos c14] at H
      have c14b0 : decide (0 ≤ x4_2) = true := decide_eq_true c14
      clear c14
      replace H := Option.bind_eq_some_iff.mp H
      obtain ⟨t342, A150, H⟩ := H
      replace H : (if t342 = 0 then (r_Flat.l1 k2 l0 x3_1 (wrap64 (x4_2 + 1))) else (some false)) = some r := H
      have A15 := am A150
      clear A150
      by_cases c16 : t342 = 0
      ·rw [if_pos c16] at H
       have c16b0 : (t342 == 0) = true := beq_iff_eq.mpr c16
       have c16b1 : (t342 != 0) = false := bne_eq_false_iff_eq.mpr c16
       clear c16
       have H' := am H
       clear H
       try go_wp2
       have n0_ := am (below_drew1 HB.out)
       clear HB
       have HB := n0_
       clear n0_
       have p339 : 0 ≤ (0 : Int) := (by omega)
       have q339 : 0 < (l0.length : Int) := of_decide_eq_true (by assumption)
       obtain ⟨ad339, e339, hx339_0, hx339_1⟩ := at_T23 HR0.out 0 p339 q339
       have hw339_1 := hx339_1
       (try rw [show ((0 : Int)).toNat = 0 from rfl] at hw339_1)
       (try rw [show 0 * 2 = 0 from rfl] at hw339_1)
       (try rw [Addr.add_zero'] at hw339_1)
       have hw339_0 := hx339_0
       (try rw [show ((0 : Int)).toNat = 0 from rfl] at hw339_0)
       (try rw [show 0 * 2 = 0 from rfl] at hw339_0)
       (try rw [Addr.add_zero'] at hw339_0)
       cases e339
       have qi339 : (0 < l0.length) = True := eq_true (by omega)
       (try rw [show ((0 : Int)).toNat = 0 from rfl] at hx339_0)
       (try rw [show 0 * 2 = 0 from rfl] at hx339_0)
       (try rw [Addr.add_zero'] at hx339_0)
       (try rw [show ((0 : Int)).toNat = 0 from rfl] at hx339_1)
       (try rw [show 0 * 2 = 0 from rfl] at hx339_1)
       (try rw [Addr.add_zero'] at hx339_1)
       replace hx339_0 := cl HB hx339_0
       replace hx339_1 := cl HB hx339_1
       replace p339 := eq_true p339
       replace q339 := eq_true q339
       have p340 : 0 ≤ (x3_1 : Int) := of_decide_eq_true (by assumption)
       have q340 : x3_1 < (l0.length : Int) := of_decide_eq_true (by assumption)
       obtain ⟨ad340, e340, hx340_0, hx340_1⟩ := at_T23 HR0.out x3_1 p340 q340
       have hw340_1 := hx340_1
       have hw340_0 := hx340_0
       obtain rfl : ad339 = ad340 := (by injection e340)
       replace hx340_0 := cl HB hx340_0
       replace hx340_1 := cl HB hx340_1
       replace p340 := eq_true p340
       replace q340 := eq_true q340
       have p341 : 0 ≤ (x4_2 : Int) := of_decide_eq_true (by assumption)
       have q341 : x4_2 < (l0.length : Int) := of_decide_eq_true (by assumption)
       obtain ⟨ad341, e341, hx341_0, hx341_1⟩ := at_T23 HR0.out x4_2 p341 q341
       have hw341_1 := hx341_1
       have hw341_0 := hx341_0
       obtain rfl : ad339 = ad341 := (by injection e341)
       replace hx341_0 := cl HB hx341_0
       replace hx341_1 := cl HB hx341_1
       replace p341 := eq_true p341
       replace q341 := eq_true q341
       refine start_ (n := 13) (S := fun w' => w'.cell? ad339 = some (.int .i64 ((rd_T23 l0 0).f0)) ∧ w'.cell? ⟨ad339.block, ad339.off + 1, none⟩ = some (.int .i64 ((rd_T23 l0 0).f1)) ∧ w'.cell? (ad339.add ((x3_1).toNat * 2)) = some (.int .i64 ((rd_T23 l0 x3_1).f0)) ∧ w'.cell? ⟨(ad339.add ((x3_1).toNat * 2)).block, (ad339.add ((x3_1).toNat * 2)).off + 1, none⟩ = some (.int .i64 ((rd_T23 l0 x3_1).f1)) ∧ w'.cell? (ad339.add ((x4_2).toNat * 2)) = some (.int .i64 ((rd_T23 l0 x4_2).f0)) ∧ w'.cell? ⟨(ad339.add ((x4_2).toNat * 2)).block, (ad339.add ((x4_2).toNat * 2)).off + 1, none⟩ = some (.int .i64 ((rd_T23 l0 x4_2).f1))) (ds := []) #[F,F,F,F,F,F,F,F,F,F,F,F,F] (by kernel_rfl) rfl rfl ⟨((HB.out.cell (bq w _ hw339_0)).trans hw339_0), ((HB.out.cell (bq w _ hw339_1)).trans hw339_1), ((HB.out.cell (bq w _ hw340_0)).trans hw340_0), ((HB.out.cell (bq w _ hw340_1)).trans hw340_1), ((HB.out.cell (bq w _ hw341_0)).trans hw341_0), ((HB.out.cell (bq w _ hw341_1)).trans hw341_1)⟩ (fun hHeld => ?_); refine with_tabW r_Flat.tab7 r_Flat.bits7 (fun HT_ HW_ => ?_)
       generalize wr.drew = w17 at HB hx339_0 hx339_1 hx340_0 hx340_1 hx341_0 hx341_1 hHeld ⊢
       refine pu (i := 0) (N := some 28) (fl 13 1 []) HT_ ?_
       refine pu (i := 1) (N := some 29) (fl 13 2 []) HT_ ?_
       refine pu (i := 3) (N := some 31) (fl 13 2 [3]) HT_ ?_
       refine pu (i := 4) (N := some 32) (fl 13 2 [3, 4]) HT_ ?_
       refine pu (i := 5) (N := some 33) (fl 13 2 [3, 4, 5]) HT_ ?_
       refine pu (i := 7) (N := some 35) (fl 13 2 [3, 4, 5, 7]) HT_ ?_
       refine pu (i := 8) (N := some 36) (fl 13 2 [3, 4, 5, 7, 8]) HT_ ?_
       refine pu (i := 9) (N := some 37) (fl 13 2 [3, 4, 5, 7, 8, 9]) HT_ ?_
       refine tk (i := 2) (N := some 30) (fl 13 6 [7, 8, 9]) HT_ HW_ hHeld ?_
       refine tk (i := 6) (N := some 34) (fl 13 10 []) HT_ HW_ hHeld ?_
       refine tk (i := 10) (N := some 38) (fl 13 11 []) HT_ HW_ hHeld ?_
       refine one_ (i := 11) (N := some 39) (fl 13 12 []) rfl rfl (one_of HT_.out (by kernel_rfl)) (by decide) (fun K hK => ?_)
       refine goes_ Try.func14 (by kernel_rfl) rfl #[.agg #[.int .i64 ((rd_T23 l0 0).f0), .int .i64 ((rd_T23 l0 0).f1)], .agg #[.int .i64 ((rd_T23 l0 x3_1).f0), .int .i64 ((rd_T23 l0 x3_1).f1)], .agg #[.int .i64 ((rd_T23 l0 x4_2).f0), .int .i64 ((rd_T23 l0 x4_2).f1)]] (by rfl) rfl rfl (by (try simp only [pml]); first | done | rfl | (simp only [pdt]; rfl)) ?_
       with_reducible refine (r_Orient.calls ((rd_T23 l0 0).f0) ((rd_T23 l0 0).f1) ((rd_T23 l0 x3_1).f0) ((rd_T23 l0 x3_1).f1) ((rd_T23 l0 x4_2).f0) ((rd_T23 l0 x4_2).f1) t342 _ A15.out).mono ?_
       rintro e w18 ⟨rfl, hb⟩
       refine ⟨_, rfl, ?_⟩
       have n0_ := bS HB hb
       clear HB
       have HB := n0_
       clear n0_
       (try clear hb)
       (try clear hb2)
       (try clear hk)
       (try clear hi)
       refine hK.out _ _ ⟨((HB.out.cell (bq w _ hw339_0)).trans hw339_0), ((HB.out.cell (bq w _ hw339_1)).trans hw339_1), ((HB.out.cell (bq w _ hw340_0)).trans hw340_0), ((HB.out.cell (bq w _ hw340_1)).trans hw340_1), ((HB.out.cell (bq w _ hw341_0)).trans hw341_0), ((HB.out.cell (bq w _ hw341_1)).trans hw341_1)⟩ (fun hHeld => ?_)
       clear hK K
       refine norm_ (a' := ?_) ?_ ?_
       rotate_left
       ·show Act.put _ (some 39) _ = _
        simp only [Act.put, psl, i64_w, i32_w]
        rfl
       refine pu (i := 12) (N := some 40) (fl 13 13 []) HT_ ?_
       refine done_ (done_of HT_.out (by kernel_rfl)) ?_
       try go_wp2
       go_roundg k2
       case measure => have := HJ1.out; have := HK2.out; omega
       case rel => exact ⟨(wrap64 (x4_2 + 1)), sqD, H', ⟨by have := HJ1.out; have := HK2.out; omega⟩, ⟨fW HB.out⟩⟩
      rw [if_neg c16] at H
      have c16b0 : (t342 == 0) = false := beq_eq_false_iff_ne.mpr c16
      have c16b1 : (t342 != 0) = true := bne_iff_ne.mpr c16
      obtain rfl := Option.some.inj H
      try go_wp2
      have n0_ := am (below_drew1 HB.out)
      clear HB
      have HB := n0_
      clear n0_
      have p339 : 0 ≤ (0 : Int) := (by omega)
      have q339 : 0 < (l0.length : Int) := of_decide_eq_true (by assumption)
      obtain ⟨ad339, e339, hx339_0, hx339_1⟩ := at_T23 HR0.out 0 p339 q339
      have hw339_1 := hx339_1
      (try rw [show ((0 : Int)).toNat = 0 from rfl] at hw339_1)
      (try rw [show 0 * 2 = 0 from rfl] at hw339_1)
      (try rw [Addr.add_zero'] at hw339_1)
      have hw339_0 := hx339_0
      (try rw [show ((0 : Int)).toNat = 0 from rfl] at hw339_0)
      (try rw [show 0 * 2 = 0 from rfl] at hw339_0)
      (try rw [Addr.add_zero'] at hw339_0)
      cases e339
      have qi339 : (0 < l0.length) = True := eq_true (by omega)
      (try rw [show ((0 : Int)).toNat = 0 from rfl] at hx339_0)
      (try rw [show 0 * 2 = 0 from rfl] at hx339_0)
      (try rw [Addr.add_zero'] at hx339_0)
      (try rw [show ((0 : Int)).toNat = 0 from rfl] at hx339_1)
      (try rw [show 0 * 2 = 0 from rfl] at hx339_1)
      (try rw [Addr.add_zero'] at hx339_1)
      replace hx339_0 := cl HB hx339_0
      replace hx339_1 := cl HB hx339_1
      replace p339 := eq_true p339
      replace q339 := eq_true q339
      have p340 : 0 ≤ (x3_1 : Int) := of_decide_eq_true (by assumption)
      have q340 : x3_1 < (l0.length : Int) := of_decide_eq_true (by assumption)
      obtain ⟨ad340, e340, hx340_0, hx340_1⟩ := at_T23 HR0.out x3_1 p340 q340
      have hw340_1 := hx340_1
      have hw340_0 := hx340_0
      obtain rfl : ad339 = ad340 := (by injection e340)
      replace hx340_0 := cl HB hx340_0
      replace hx340_1 := cl HB hx340_1
      replace p340 := eq_true p340
      replace q340 := eq_true q340
      have p341 : 0 ≤ (x4_2 : Int) := of_decide_eq_true (by assumption)
      have q341 : x4_2 < (l0.length : Int) := of_decide_eq_true (by assumption)
      obtain ⟨ad341, e341, hx341_0, hx341_1⟩ := at_T23 HR0.out x4_2 p341 q341
      have hw341_1 := hx341_1
      have hw341_0 := hx341_0
      obtain rfl : ad339 = ad341 := (by injection e341)
      replace hx341_0 := cl HB hx341_0
      replace hx341_1 := cl HB hx341_1
      replace p341 := eq_true p341
      replace q341 := eq_true q341
      refine start_ (n := 13) (S := fun w' => w'.cell? ad339 = some (.int .i64 ((rd_T23 l0 0).f0)) ∧ w'.cell? ⟨ad339.block, ad339.off + 1, none⟩ = some (.int .i64 ((rd_T23 l0 0).f1)) ∧ w'.cell? (ad339.add ((x3_1).toNat * 2)) = some (.int .i64 ((rd_T23 l0 x3_1).f0)) ∧ w'.cell? ⟨(ad339.add ((x3_1).toNat * 2)).block, (ad339.add ((x3_1).toNat * 2)).off + 1, none⟩ = some (.int .i64 ((rd_T23 l0 x3_1).f1)) ∧ w'.cell? (ad339.add ((x4_2).toNat * 2)) = some (.int .i64 ((rd_T23 l0 x4_2).f0)) ∧ w'.cell? ⟨(ad339.add ((x4_2).toNat * 2)).block, (ad339.add ((x4_2).toNat * 2)).off + 1, none⟩ = some (.int .i64 ((rd_T23 l0 x4_2).f1))) (ds := []) #[F,F,F,F,F,F,F,F,F,F,F,F,F] (by kernel_rfl) rfl rfl ⟨((HB.out.cell (bq w _ hw339_0)).trans hw339_0), ((HB.out.cell (bq w _ hw339_1)).trans hw339_1), ((HB.out.cell (bq w _ hw340_0)).trans hw340_0), ((HB.out.cell (bq w _ hw340_1)).trans hw340_1), ((HB.out.cell (bq w _ hw341_0)).trans hw341_0), ((HB.out.cell (bq w _ hw341_1)).trans hw341_1)⟩ (fun hHeld => ?_); refine with_tabW r_Flat.tab7 r_Flat.bits7 (fun HT_ HW_ => ?_)
      generalize wr.drew = w19 at HB hx339_0 hx339_1 hx340_0 hx340_1 hx341_0 hx341_1 hHeld ⊢
      refine pu (i := 0) (N := some 28) (fl 13 1 []) HT_ ?_
      refine pu (i := 1) (N := some 29) (fl 13 2 []) HT_ ?_
      refine pu (i := 3) (N := some 31) (fl 13 2 [3]) HT_ ?_
      refine pu (i := 4) (N := some 32) (fl 13 2 [3, 4]) HT_ ?_
      refine pu (i := 5) (N := some 33) (fl 13 2 [3, 4, 5]) HT_ ?_
      refine pu (i := 7) (N := some 35) (fl 13 2 [3, 4, 5, 7]) HT_ ?_
      refine pu (i := 8) (N := some 36) (fl 13 2 [3, 4, 5, 7, 8]) HT_ ?_
      refine pu (i := 9) (N := some 37) (fl 13 2 [3, 4, 5, 7, 8, 9]) HT_ ?_
      refine tk (i := 2) (N := some 30) (fl 13 6 [7, 8, 9]) HT_ HW_ hHeld ?_
      refine tk (i := 6) (N := some 34) (fl 13 10 []) HT_ HW_ hHeld ?_
      refine tk (i := 10) (N := some 38) (fl 13 11 []) HT_ HW_ hHeld ?_
      refine one_ (i := 11) (N := some 39) (fl 13 12 []) rfl rfl (one_of HT_.out (by kernel_rfl)) (by decide) (fun K hK => ?_)
      refine goes_ Try.func14 (by kernel_rfl) rfl #[.agg #[.int .i64 ((rd_T23 l0 0).f0), .int .i64 ((rd_T23 l0 0).f1)], .agg #[.int .i64 ((rd_T23 l0 x3_1).f0), .int .i64 ((rd_T23 l0 x3_1).f1)], .agg #[.int .i64 ((rd_T23 l0 x4_2).f0), .int .i64 ((rd_T23 l0 x4_2).f1)]] (by rfl) rfl rfl (by (try simp only [pml]); first | done | rfl | (simp only [pdt]; rfl)) ?_
      with_reducible refine (r_Orient.calls ((rd_T23 l0 0).f0) ((rd_T23 l0 0).f1) ((rd_T23 l0 x3_1).f0) ((rd_T23 l0 x3_1).f1) ((rd_T23 l0 x4_2).f0) ((rd_T23 l0 x4_2).f1) t342 _ A15.out).mono ?_
      rintro e w20 ⟨rfl, hb⟩
      refine ⟨_, rfl, ?_⟩
      have n0_ := bS HB hb
      clear HB
      have HB := n0_
      clear n0_
      (try clear hb)
      (try clear hb2)
      (try clear hk)
      (try clear hi)
      refine hK.out _ _ ⟨((HB.out.cell (bq w _ hw339_0)).trans hw339_0), ((HB.out.cell (bq w _ hw339_1)).trans hw339_1), ((HB.out.cell (bq w _ hw340_0)).trans hw340_0), ((HB.out.cell (bq w _ hw340_1)).trans hw340_1), ((HB.out.cell (bq w _ hw341_0)).trans hw341_0), ((HB.out.cell (bq w _ hw341_1)).trans hw341_1)⟩ (fun hHeld => ?_)
      clear hK K
      refine norm_ (a' := ?_) ?_ ?_
      rotate_left
      ·show Act.put _ (some 39) _ = _
       simp only [Act.put, psl, i64_w, i32_w]
       rfl
      refine pu (i := 12) (N := some 40) (fl 13 13 []) HT_ ?_
      refine done_ (done_of HT_.out (by kernel_rfl)) ?_
      try go_wp2
      go_ret
      exact ⟨sqE, fW HB.out⟩
     ·rw [if_neg c10] at H
      have c10b0 : decide (x4_2 < (l0.length : Int)) = false := decide_eq_false c10
      clear c10
      obtain rfl := Option.some.inj H
      go_wp2
      go_ret
      exact ⟨sqE, fW HB.out⟩

end Go.Proofs.Ytcembjgpcbodcaa.QA
