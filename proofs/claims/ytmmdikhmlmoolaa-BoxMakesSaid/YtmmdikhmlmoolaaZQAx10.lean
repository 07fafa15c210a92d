import Derived.Test.YtmmdikhmlmoolaaZQAx0
import Derived.Test.YtmmdikhmlmoolaaZQAx3
import Derived.Test.YtmmdikhmlmoolaaZQAx6
import Derived.Test.YtmmdikhmlmoolaaZQAx7
import Derived.Test.YtmmdikhmlmoolaaZQAx8
import Derived.Test.YtmmdikhmlmoolaaZQAx9
namespace Go.Proofs.Ytmmdikhmlmoolaa.QA
open Go.RowKit Go.Proofs.YtmmdikhmlmoolaaW.PrintWords Go.Proofs.YtmmdikhmlmoolaaW.PrintLast Go.Proofs.YtmmdikhmlmoolaaW.PrintMore
open Go.Proofs.YtmmdikhmlmoolaaW.PrintWords renaming gate_callee → gc
open Aside0 renaming mk → am
open World renaming block_lt_of_cell? → bq
attribute [local go_sem] max2_int min2_int max_two min_two max_three min_three max_four min_four
set_option linter.unusedVariables false
set_option linter.unusedSimpArgs false

mutual
def box_Total.l0 : Nat → List (S25) → Int → List Int → Int → Option (Int × Int)
 | 0, _, _, _, _ => none
 | k + 1, x0, x5, x6, x7 => if x7 < (x6.length : Int) then (if 0 ≤ (wrap64 (x7 - 1)) then (if (wrap64 (x7 - 1)) < (x6.length : Int) then ((box_at.f k x0 2 (rd x6 (wrap64 (x7 - 1)))).bind fun t284 => ((box_cuts.f k t284 1).bind fun t287 => (box_Total.l1 k x0 x5 x6 x7 t284 t287 1))) else (none)) else (none)) else (some (x5, 0))
def box_Total.l1 : Nat → List (S25) → Int → List Int → Int → List (S25) → List Int → Int → Option (Int × Int)
 | 0, _, _, _, _, _, _, _ => none
 | k + 1, x0, x5, x6, x7, x8, x9, x10 => if x10 < (x9.length : Int) then (if 0 ≤ (wrap64 (x10 - 1)) then (if (wrap64 (x10 - 1)) < (x9.length : Int) then ((box_at.f k x8 1 (rd x9 (wrap64 (x10 - 1)))).bind fun t291 => ((box_covered.f k t291).bind fun t294 => (if 0 ≤ x10 then (if 0 ≤ x7 then (if x7 < (x6.length : Int) then (if 0 ≤ (wrap64 (x7 - 1)) then (if (wrap64 (x7 - 1)) < (x6.length : Int) then (box_Total.l1 k x0 (wrap64 (x5 + (wrap64 ((wrap64 (t294 * (wrap64 ((rd x9 x10) - (rd x9 (wrap64 (x10 - 1))))))) * (wrap64 ((rd x6 x7) - (rd x6 (wrap64 (x7 - 1))))))))) x6 x7 x8 x9 (wrap64 (x10 + 1))) else (none)) else (none)) else (none)) else (none)) else (none)))) else (none)) else (none)) else (box_Total.l0 k x0 x5 x6 (wrap64 (x7 + 1)))
end
def box_Total.f (k : Nat) (l0 : List (S25)) : Option (Int × Int) := (box_many.f k l0 ([] : List (S25))).bind fun t279 => (if t279 = 0 then ((box_cuts.f k l0 2).bind fun t280 => (box_Total.l0 k l0 0 t280 1)) else (some (0, t279)))
def box_Total.T14 : Bool × List (List Nat × List Nat) := (true, [([], []), ([], []), ([], []), ([], []), ([3], [3]), ([2, 4], [2, 4]), ([5], [5]), ([1, 6], [1, 6]), ([7, 7], [7]), ([], []), ([], []), ([9, 10], [9, 10]), ([11], [11]), ([], []), ([], []), ([14], [14]), ([13, 15], [13, 15]), ([16], [16]), ([12, 17], [12, 17]), ([8, 18], [8, 18]), ([], []), ([], []), ([20, 21], [20, 21]), ([22], [22]), ([], []), ([], []), ([25], [25]), ([24, 26], [24, 26]), ([27], [27]), ([23, 28], [23, 28]), ([19, 29], [19, 29]), ([0, 30], [0, 30]), ([31, 8, 0, 1, 2, 3, 4, 5, 6, 7, 8, 9, 10, 11, 12, 13, 14, 15, 16, 17, 18, 19, 20, 21, 22, 23, 24, 25, 26, 27, 28, 29, 30, 31], [0, 31])])
def box_Total.B14 : List Nat := [0, 0, 0, 0, 8, 28, 60, 126, 254, 0, 0, 1536, 3584, 0, 0, 16384, 57344, 122880, 261632, 524286, 0, 0, 3145728, 7340032, 0, 0, 33554432, 117440512, 251658240, 535822336, 1073741822, 2147483647, 4294967295]
theorem box_Total.tab14 : rtab .any (opsOf Try.f40 14) = box_Total.T14 := by kernel_rfl
theorem box_Total.bits14 : waitsOk box_Total.T14.2 box_Total.B14 = true := by kernel_rfl
set_option maxHeartbeats 8000000 in
set_option maxRecDepth 100000 in
theorem box_Total.calls (k : Nat) (A0 : Option Addr) (c0 : Nat) (l0 : List (S25)) (r1 : Int) (r2 : Int) (w : World) (hr0 : Kd.C k25 w A0 l0.length l0) (hc0 : l0.length ≤ c0) (h : box_Total.f k l0 = some (r1, r2)) :
  Calls Try.prog 40 #[.slice A0 l0.length c0] w fun e w' => e = .returned (.tuple #[.int .i64 r1, .int .i64 r2]) ∧ Below w.heap.size w w' := by
 have HR0 := am hr0
 have HC0 := am hc0
 clear hr0 hc0
 have HB := am (Below.refl w.heap.size w)
 have H : ((box_many.f k l0 ([] : List (S25))).bind fun t279 => (if t279 = 0 then ((box_cuts.f k l0 2).bind fun t280 => (box_Total.l0 k l0 0 t280 1)) else (some (0, t279)))) = some (r1, r2) := h
 clear h
 replace H := Option.bind_eq_some_iff.mp H
 obtain ⟨t279, A20, H⟩ := H
 replace H : (if t279 = 0 then ((box_cuts.f k l0 2).bind fun t280 => (box_Total.l0 k l0 0 t280 1)) else (some (0, t279))) = some (r1, r2) := H
 have A2 := am A20
 clear A20
 by_cases c3 : t279 = 0
 ·rw [if_pos c3] at H
  have c3b0 : (t279 == 0) = true := beq_iff_eq.mpr c3
  have c3b1 : (t279 != 0) = false := bne_eq_false_iff_eq.mpr c3
  clear c3
  replace H := Option.bind_eq_some_iff.mp H
  obtain ⟨t280, A40, H⟩ := H
  replace H : (box_Total.l0 k l0 0 t280 1) = some (r1, r2) := H
  have A4 := am A40
  clear A40
  have H' := am H
  clear H
  go_enter Try.func40, Try.ntmps40
  go_wp2_with (first | ((with_reducible refine gc (f := 48) rfl ?_); refine goesL_ (some 12) rfl rfl Try.func48 (by kernel_rfl) rfl #[.slice A0 l0.length c0, .slice none 0 0] rfl (by (try simp only [pml]); first | done | rfl | (simp only [pdt]; rfl)) ?_; (refine (box_many.calls k _ _ l0 _ _ ([] : List (S25)) t279 _ ?side1 ?side2 ?side3 ?side4 A2.out).mono ?_); (case side1 => repeat (first | exact HR0.out | (with_reducible refine Kd.C_alloc ?_ _) | (with_reducible refine Kd.C_drewN ?_ _) | (with_reducible refine Kd.C_drew ?_))); (case side2 => exact HC0.out); (case side3 => exact Kd.C_nil _ _); (case side4 => exact Nat.le_refl _); rintro e w5 ⟨rfl, hb⟩; refine ⟨_, rfl, ?_⟩; replace HB := bS HB hb; (try clear hb); (try clear hb2); (try clear hk); (try clear hi)) | ((with_reducible refine gc (f := 63) rfl ?_); refine goesL_ (some 17) rfl rfl Try.func63 (by kernel_rfl) rfl #[.slice A0 l0.length c0, .int .i64 2] rfl (by (try simp only [pml]); first | done | rfl | (simp only [pdt]; rfl)) ?_; (with_reducible refine (box_cuts.calls k _ _ l0 2 t280 _ ?side1 ?side2 A4.out).mono ?_); (case side1 => repeat (first | exact (Kd.C_below HR0.out HB.out) | (with_reducible refine Kd.C_alloc ?_ _) | (with_reducible refine Kd.C_drewN ?_ _) | (with_reducible refine Kd.C_drew ?_))); (case side2 => exact HC0.out); rintro e w6 ⟨v281, rfl, ho0, hb⟩; refine ⟨_, rfl, ?_⟩; have HO282 := am (Kd.R_lower ho0 (below_size (fW HB.out))); replace HB := bS HB hb; (try clear hb); (try clear hb2); (try clear hk); (try clear hi); (try clear ho0)))
  go_loopg [5, 7] k (fun kq v5 v7 w' => ∃ (x5_1 : Int) (x7_1 : Int), v5 = .int .i64 x5_1 ∧ v7 = .int .i64 x7_1 ∧ Aside0 (box_Total.l0 kq l0 x5_1 t280 x7_1 = some (r1, r2)) ∧ Aside0 (kq ≤ k) ∧ Aside0 (Kd.R (Kd.int .i64) 3 w' w.heap.size (fun _ => True) v281 t280) ∧ Aside0 (Below w.heap.size w w'))
  case atStart => exact ⟨(0), (1), sqD, sqD, H', ⟨Nat.le_refl _⟩, ⟨fR HO282.out⟩, ⟨fW HB.out⟩⟩
  case round =>
   clear H'
   try clear p2;try clear c3;try clear c3b0;try clear c3b1;try clear c4;try clear c6
   obtain ⟨x5_1, x7_1, rfl, rfl, HA, HK1, HO_6, HB⟩ := hrel
   cases gk with
   | zero => exact absurd HA.out (by simp [box_Total.l0])
   | succ k1 =>
    have H := HA.out
    clear HA
    simp only [box_Total.l0] at H
    by_cases c7 : x7_1 < (t280.length : Int)
    rotate_left
    ·rw [if_neg c7] at H
     have c7b0 : decide (x7_1 < (t280.length : Int)) = false := decide_eq_false c7
     clear c7
     simp only [Option.some.injEq, Prod.mk.injEq] at H
     obtain ⟨rfl, rfl⟩ := H
     obtain ⟨Ao35, co35, eo35⟩ := Kd.R_slice HO_6.out
     subst eo35
     go_wp2
     go_ret2
     exact ⟨sqE, fW HB.out⟩
    rw [if_pos c7] at H
    have c7b0 : decide (x7_1 < (t280.length : Int)) = true := decide_eq_true c7
    clear c7
    obtain ⟨ji8, hji8⟩ : ∃ j_ : Int, (wrap64 (x7_1 - 1)) = j_ := ⟨_, rfl⟩
    replace H : (if 0 ≤ (ji8) then (if (ji8) < (t280.length : Int) then ((box_at.f k1 l0 2 (rd t280 (ji8))).bind fun t284 => ((box_cuts.f k1 t284 1).bind fun t287 => (box_Total.l1 k1 l0 x5_1 t280 x7_1 t284 t287 1))) else (none)) else (none)) = some (r1, r2) := by first | (rw [hji8] at H; exact H) | (simp only [hji8] at H ⊢; exact H)
    have hji8w : (IntKind.i64.wrap (x7_1 - 1)) = ji8 := (i64_w _).trans hji8
    by_cases c9 : 0 ≤ (ji8)
    rotate_left
    ·rw [if_neg c9] at H
     exact absurd H (by simp)
    rw [if_pos c9] at H
    have c9b0 : decide (0 ≤ (ji8)) = true := decide_eq_true c9
    clear c9
    by_cases c10 : (ji8) < (t280.length : Int)
    rotate_left
    ·rw [if_neg c10] at H
     exact absurd H (by simp)
    rw [if_pos c10] at H
    have c10b0 : decide ((ji8) < (t280.length : Int)) = true := decide_eq_true c10
    clear c10
    replace H := Option.bind_eq_some_iff.mp H
    obtain ⟨t284, A110, H⟩ := H
    replace H : ((box_cuts.f k1 t284 1).bind fun t287 => (box_Total.l1 k1 l0 x5_1 t280 x7_1 t284 t287 1)) = some (r1, r2) := H
    have A11 := am A110
    clear A110
    replace H := Option.bind_eq_some_iff.mp H
    obtain ⟨t287, A120, H⟩ := H
    replace H : (box_Total.l1 k1 l0 x5_1 t280 x7_1 t284 t287 1) = some (r1, r2) := H
    have A12 := am A120
    clear A120
    have H' := am H
    clear H
    obtain ⟨Ao13, co13, eo13⟩ := Kd.R_slice HO_6.out
    subst eo13
    have p283 : 0 ≤ ((ji8) : Int) := of_decide_eq_true (by assumption)
    have q283 : (ji8) < (t280.length : Int) := of_decide_eq_true (by assumption)
    obtain ⟨ad283, e283, hx283_0⟩ := Kd.at_int (Kd.R_reads' HO_6.out).2.2 (ji8) p283 q283
    cases e283
    replace p283 := eq_true p283
    replace q283 := eq_true q283
    go_wp2_with (first | ((with_reducible refine gc (f := 50) rfl ?_); refine goesL_ (some 30) rfl rfl Try.func50 (by kernel_rfl) rfl #[.slice A0 l0.length c0, .int .i64 2, .int .i64 (rd t280 (ji8))] rfl (by (try simp only [pml]); first | done | (simp only [hji8]; rfl) | rfl | (simp only [pdt]; rfl)) ?_; (with_reducible refine (box_at.calls k1 _ _ l0 2 (rd t280 (ji8)) t284 _ ?side1 ?side2 A11.out).mono ?_); (case side1 => repeat (first | exact (Kd.C_below HR0.out HB.out) | (with_reducible refine Kd.C_alloc ?_ _) | (with_reducible refine Kd.C_drewN ?_ _) | (with_reducible refine Kd.C_drew ?_))); (case side2 => exact HC0.out); rintro e w14 ⟨v285, rfl, ho0, hb⟩; refine ⟨_, rfl, ?_⟩; replace HO_6 := dR HO_6 hb; have HO286 := am (Kd.R_lower ho0 (below_size (fW HB.out))); replace HB := bS HB hb; (try clear hb); (try clear hb2); (try clear hk); (try clear hi); (try clear ho0); obtain ⟨Ao15, co15, eo15⟩ := Kd.R_slice HO286.out; subst eo15) | ((with_reducible refine gc (f := 63) rfl ?_); refine goesL_ (some 32) rfl rfl Try.func63 (by kernel_rfl) rfl #[.slice Ao15 t284.length co15, .int .i64 1] rfl (by (try simp only [pml]); first | done | rfl | (simp only [pdt]; rfl)) ?_; (with_reducible refine (box_cuts.calls k1 _ _ t284 1 t287 _ ?side1 ?side2 A12.out).mono ?_); (case side1 => repeat (first | exact (Kd.R_reads' HO286.out).2.2 | (with_reducible refine Kd.C_alloc ?_ _) | (with_reducible refine Kd.C_drewN ?_ _) | (with_reducible refine Kd.C_drew ?_))); (case side2 => exact (Kd.R_reads' HO286.out).2.1); rintro e w16 ⟨v288, rfl, ho0, hb⟩; refine ⟨_, rfl, ?_⟩; replace HO286 := dR HO286 hb; have HO289 := am (Kd.R_lower (Kd.R_new' ho0 (Kd.R_lt (fR HO_6.out))) (below_size (fW HB.out))); replace HO_6 := am (Kd.R_elder' (fR HO_6.out) (Kd.R_base ho0) hb); replace HB := bS HB hb; (try clear hb); (try clear hb2); (try clear hk); (try clear hi); (try clear ho0)))
    go_loopg [5, 10] k1 (fun kq v5 v10 w' => ∃ (x5_2 : Int) (x10_2 : Int), v5 = .int .i64 x5_2 ∧ v10 = .int .i64 x10_2 ∧ Aside0 (box_Total.l1 kq l0 x5_2 t280 x7_1 t284 t287 x10_2 = some (r1, r2)) ∧ Aside0 (kq ≤ k1) ∧ Aside0 (Kd.R (Kd.int .i64) 3 w' w.heap.size (fun k_ => some k_ ≠ (v288 : Value).ownBlock) (.slice (some ad283) t280.length co13) t280) ∧ Aside0 (Kd.R k25 25 w' w.heap.size (fun _ => True) (.slice Ao15 t284.length co15) t284) ∧ Aside0 (Kd.R (Kd.int .i64) 3 w' w.heap.size (fun k_ => some k_ ≠ ((.slice (some ad283) t280.length co13) : Value).ownBlock) v288 t287) ∧ Aside0 (Below w.heap.size w w'))
    case atStart => exact ⟨(x5_1), (1), sqD, sqD, H', ⟨Nat.le_refl _⟩, ⟨by (with_reducible repeat (first | apply Kd.R_alloc | apply Kd.R_drewN | apply Kd.R_drew)); exact Kd.R_mono HO_6.out (fun _ hk => hk.2)⟩, ⟨fR HO286.out⟩, ⟨by (with_reducible repeat (first | apply Kd.R_alloc | apply Kd.R_drewN | apply Kd.R_drew)); exact Kd.R_mono HO289.out (fun _ hk => hk.2)⟩, ⟨fW HB.out⟩⟩
    case round =>
     try clear hji8w
     clear H'
     try clear c1;try clear p2;try clear q2;try clear hx2;try clear c3;try clear c3b0;try clear c3b1;try clear c4;try clear c5;try clear c6;try clear p6;try clear c7;try clear c7b0;try clear c9;try clear c9b0;try clear c10;try clear c10b0;try clear hx283_0;try clear p2;try clear p283;try clear q283
     obtain ⟨x5_2, x10_2, rfl, rfl, HA, HK2, HO_6, HO_8, HO_9, HB⟩ := hrel
     cases gk with
     | zero => exact absurd HA.out (by simp [box_Total.l1])
     | succ k2 =>
      have H := HA.out
      clear HA
      simp only [box_Total.l1] at H
      by_cases c17 : x10_2 < (t287.length : Int)
      rotate_left
      ·rw [if_neg c17] at H
       have c17b0 : decide (x10_2 < (t287.length : Int)) = false := decide_eq_false c17
       clear c17
       have H' := am H
       clear H
       obtain ⟨Ao34, co34, eo34⟩ := Kd.R_slice HO_9.out
       subst eo34
       go_wp2
       go_roundg k2
       case measure => have := HK1.out; have := HK2.out; omega
       case rel => exact ⟨(x5_2), (wrap64 (x7_1 + 1)), sqD, sqD, H', ⟨by have := HK1.out; have := HK2.out; omega⟩, ⟨by (with_reducible repeat (first | apply Kd.R_alloc | apply Kd.R_drewN | apply Kd.R_drew)); exact Kd.R_mono HO_6.out (fun _ hk => trivial)⟩, ⟨fW HB.out⟩⟩
      rw [if_pos c17] at H
      have c17b0 : decide (x10_2 < (t287.length : Int)) = true := decide_eq_true c17
      clear c17
      obtain ⟨ji18, hji18⟩ : ∃ j_ : Int, (wrap64 (x10_2 - 1)) = j_ := ⟨_, rfl⟩
      replace H : (if 0 ≤ (ji18) then (if (ji18) < (t287.length : Int) then ((box_at.f k2 t284 1 (rd t287 (ji18))).bind fun t291 => ((box_covered.f k2 t291).bind fun t294 => (if 0 ≤ x10_2 then (if 0 ≤ x7_1 then (if x7_1 < (t280.length : Int) then (if 0 ≤ (wrap64 (x7_1 - 1)) then (if (wrap64 (x7_1 - 1)) < (t280.length : Int) then (box_Total.l1 k2 l0 (wrap64 (x5_2 + (wrap64 ((wrap64 (t294 * (wrap64 ((rd t287 x10_2) - (rd t287 (ji18)))))) * (wrap64 ((rd t280 x7_1) - (rd t280 (wrap64 (x7_1 - 1))))))))) t280 x7_1 t284 t287 (wrap64 (x10_2 + 1))) else (none)) else (none)) else (none)) else (none)) else (none)))) else (none)) else (none)) = some (r1, r2) := by first | (rw [hji18] at H; exact H) | (simp only [hji18] at H ⊢; exact H)
      have hji18w : (IntKind.i64.wrap (x10_2 - 1)) = ji18 := (i64_w _).trans hji18
      by_cases c19 : 0 ≤ (ji18)
      rotate_left
      ·rw [if_neg c19] at H
       exact absurd H (by simp)
      rw [if_pos c19] at H
      have c19b0 : decide (0 ≤ (ji18)) = true := decide_eq_true c19
      clear c19
      by_cases c20 : (ji18) < (t287.length : Int)
      rotate_left
      ·rw [if_neg c20] at H
       exact absurd H (by simp)
      rw [if_pos c20] at H
      have c20b0 : decide ((ji18) < (t287.length : Int)) = true := decide_eq_true c20
      clear c20
      replace H := Option.bind_eq_some_iff.mp H
      obtain ⟨t291, A210, H⟩ := H
      replace H : ((box_covered.f k2 t291).bind fun t294 => (if 0 ≤ x10_2 then (if 0 ≤ x7_1 then (if x7_1 < (t280.length : Int) then (if 0 ≤ (wrap64 (x7_1 - 1)) then (if (wrap64 (x7_1 - 1)) < (t280.length : Int) then (box_Total.l1 k2 l0 (wrap64 (x5_2 + (wrap64 ((wrap64 (t294 * (wrap64 ((rd t287 x10_2) - (rd t287 (ji18)))))) * (wrap64 ((rd t280 x7_1) - (rd t280 (wrap64 (x7_1 - 1))))))))) t280 x7_1 t284 t287 (wrap64 (x10_2 + 1))) else (none)) else (none)) else (none)) else (none)) else (none))) = some (r1, r2) := H
      have A21 := am A210
      clear A210
      replace H := Option.bind_eq_some_iff.mp H
      obtain ⟨t294, A220, H⟩ := H
      replace H : (if 0 ≤ x10_2 then (if 0 ≤ x7_1 then (if x7_1 < (t280.length : Int) then (if 0 ≤ (wrap64 (x7_1 - 1)) then (if (wrap64 (x7_1 - 1)) < (t280.length : Int) then (box_Total.l1 k2 l0 (wrap64 (x5_2 + (wrap64 ((wrap64 (t294 * (wrap64 ((rd t287 x10_2) - (rd t287 (ji18)))))) * (wrap64 ((rd t280 x7_1) - (rd t280 (wrap64 (x7_1 - 1))))))))) t280 x7_1 t284 t287 (wrap64 (x10_2 + 1))) else (none)) else (none)) else (none)) else (none)) else (none)) = some (r1, r2) := H
      have A22 := am A220
      clear A220
      by_cases c23 : 0 ≤ x10_2
      rotate_left
      ·rw [if_neg c23] at H
       exact absurd H (by simp)
      rw [if_pos c23] at H
      have c23b0 : decide (0 ≤ x10_2) = true := decide_eq_true c23
      clear c23
      by_cases c24 : 0 ≤ x7_1
      rotate_left
      ·rw [if_neg c24] at H
       exact absurd H (by simp)
      rw [if_pos c24] at H
      have c24b0 : decide (0 ≤ x7_1) = true := decide_eq_true c24
      clear c24
      by_cases c25 : x7_1 < (t280.length : Int)
      rotate_left
      ·rw [if_neg c25] at H
       exact absurd H (by simp)
      rw [if_pos c25] at H
      have c25b0 : decide (x7_1 < (t280.length : Int)) = true := decide_eq_true c25
      clear c25
      obtain ⟨ji26, hji26⟩ : ∃ j_ : Int, (wrap64 (x7_1 - 1)) = j_ := ⟨_, rfl⟩
      replace H : (if 0 ≤ (ji26) then (if (ji26) < (t280.length : Int) then (box_Total.l1 k2 l0 (wrap64 (x5_2 + (wrap64 ((wrap64 (t294 * (wrap64 ((rd t287 x10_2) - (rd t287 (ji18)))))) * (wrap64 ((rd t280 x7_1) - (rd t280 (ji26)))))))) t280 x7_1 t284 t287 (wrap64 (x10_2 + 1))) else (none)) else (none)) = some (r1, r2) := by first | (rw [hji26] at H; exact H) | (simp only [hji26] at H ⊢; exact H)
      (try rw [hji26] at A21)
      (try rw [hji26] at A22)
      have hji26w : (IntKind.i64.wrap (x7_1 - 1)) = ji26 := (i64_w _).trans hji26
      by_cases c27 : 0 ≤ (ji26)
      rotate_left
      ·rw [if_neg c27] at H
       exact absurd H (by simp)
      rw [if_pos c27] at H
      have c27b0 : decide (0 ≤ (ji26)) = true := decide_eq_true c27
      clear c27
      by_cases c28 : (ji26) < (t280.length : Int)
      rotate_left
      ·rw [if_neg c28] at H
       exact absurd H (by simp)
      rw [if_pos c28] at H
      have c28b0 : decide ((ji26) < (t280.length : Int)) = true := decide_eq_true c28
      clear c28
      have H' := am H
      clear H
      obtain ⟨Ao29, co29, eo29⟩ := Kd.R_slice HO_9.out
      subst eo29
      try go_wp2
      have n0_ := am (Kd.R_drew HO_6.out)
      have n1_ := am (Kd.R_drew HO_8.out)
      have n2_ := am (Kd.R_drew HO_9.out)
      have n3_ := am (below_drew1 HB.out)
      clear HO_6 HO_8 HO_9 HB
      have HO_6 := n0_
      have HO_8 := n1_
      have HO_9 := n2_
      have HB := n3_
      clear n0_ n1_ n2_ n3_
      have p290 : 0 ≤ ((ji18) : Int) := of_decide_eq_true (by assumption)
      have q290 : (ji18) < (t287.length : Int) := of_decide_eq_true (by assumption)
      obtain ⟨ad290, e290, hx290_0⟩ := Kd.at_int (Kd.R_reads' HO_9.out).2.2 (ji18) p290 q290
      cases e290
      replace p290 := eq_true p290
      replace q290 := eq_true q290
      have p295 : 0 ≤ (x10_2 : Int) := of_decide_eq_true (by assumption)
      have q295 : x10_2 < (t287.length : Int) := of_decide_eq_true (by assumption)
      obtain ⟨ad295, e295, hx295_0⟩ := Kd.at_int (Kd.R_reads' HO_9.out).2.2 x10_2 p295 q295
      obtain rfl : ad290 = ad295 := (by injection e295)
      replace p295 := eq_true p295
      replace q295 := eq_true q295
      have p296 : 0 ≤ ((ji18) : Int) := of_decide_eq_true (by assumption)
      have q296 : (ji18) < (t287.length : Int) := of_decide_eq_true (by assumption)
      obtain ⟨ad296, e296, hx296_0⟩ := Kd.at_int (Kd.R_reads' HO_9.out).2.2 (ji18) p296 q296
      obtain rfl : ad290 = ad296 := (by injection e296)
      replace p296 := eq_true p296
      replace q296 := eq_true q296
      have p297 : 0 ≤ (x7_1 : Int) := of_decide_eq_true (by assumption)
      have q297 : x7_1 < (t280.length : Int) := of_decide_eq_true (by assumption)
      obtain ⟨ad297, e297, hx297_0⟩ := Kd.at_int (Kd.R_reads' HO_6.out).2.2 x7_1 p297 q297
      obtain rfl : ad283 = ad297 := (by injection e297)
      replace p297 := eq_true p297
      replace q297 := eq_true q297
      have p298 : 0 ≤ ((ji26) : Int) := of_decide_eq_true (by assumption)
      have q298 : (ji26) < (t280.length : Int) := of_decide_eq_true (by assumption)
      obtain ⟨ad298, e298, hx298_0⟩ := Kd.at_int (Kd.R_reads' HO_6.out).2.2 (ji26) p298 q298
      obtain rfl : ad283 = ad298 := (by injection e298)
      replace p298 := eq_true p298
      replace q298 := eq_true q298
      refine start_ (n := 33) (S := fun w' => w'.cell? (ad290.add ((ji18)).toNat) = some (.int .i64 (rd t287 (ji18))) ∧ w'.cell? (ad290.add (x10_2).toNat) = some (.int .i64 (rd t287 x10_2)) ∧ w'.cell? (ad290.add ((ji18)).toNat) = some (.int .i64 (rd t287 (ji18))) ∧ w'.cell? (ad283.add (x7_1).toNat) = some (.int .i64 (rd t280 x7_1)) ∧ w'.cell? (ad283.add ((ji26)).toNat) = some (.int .i64 (rd t280 (ji26)))) (ds := []) #[F,F,F,F,F,F,F,F,F,F,F,F,F,F,F,F,F,F,F,F,F,F,F,F,F,F,F,F,F,F,F,F,F] (by kernel_rfl) rfl rfl ⟨hx290_0, hx295_0, hx296_0, hx297_0, hx298_0⟩ (fun hHeld => ?_); refine with_tabW box_Total.tab14 box_Total.bits14 (fun HT_ HW_ => ?_)
      generalize wr.drew = w30 at HO_6 HO_8 HO_9 HB hx290_0 hx295_0 hx296_0 hx297_0 hx298_0 hHeld ⊢
      refine pu (i := 0) (N := some 39) (fl 33 1 []) HT_ ?_
      refine pu (i := 1) (N := some 40) (fl 33 2 []) HT_ ?_
      refine pu (i := 2) (N := some 41) (fl 33 3 []) HT_ ?_
      refine pu (i := 3) (N := some 42) (fl 33 4 []) HT_ ?_
      refine pu (i := 4) (N := some 43) (fl 33 5 []) HT_ ?_
      refine pu (i := 5) (N := some 44) (fl 33 6 []) HT_ ?_
      refine pu (i := 9) (N := some 48) (fl 33 6 [9]) HT_ ?_
      refine pu (i := 10) (N := some 49) (fl 33 6 [9, 10]) HT_ ?_
      refine pu (i := 11) (N := some 50) (fl 33 6 [9, 10, 11]) HT_ ?_
      refine pu (i := 13) (N := some 52) (fl 33 6 [9, 10, 11, 13]) HT_ ?_
      refine pu (i := 14) (N := some 53) (fl 33 6 [9, 10, 11, 13, 14]) HT_ ?_
      refine pu (i := 15) (N := some 54) (fl 33 6 [9, 10, 11, 13, 14, 15]) HT_ ?_
      refine pu (i := 16) (N := some 55) (fl 33 6 [9, 10, 11, 13, 14, 15, 16]) HT_ ?_
      refine pu (i := 20) (N := some 59) (fl 33 6 [9, 10, 11, 13, 14, 15, 16, 20]) HT_ ?_
      refine pu (i := 21) (N := some 60) (fl 33 6 [9, 10, 11, 13, 14, 15, 16, 20, 21]) HT_ ?_
      refine pu (i := 22) (N := some 61) (fl 33 6 [9, 10, 11, 13, 14, 15, 16, 20, 21, 22]) HT_ ?_
      refine pu (i := 24) (N := some 63) (fl 33 6 [9, 10, 11, 13, 14, 15, 16, 20, 21, 22, 24]) HT_ ?_
      refine pu (i := 25) (N := some 64) (fl 33 6 [9, 10, 11, 13, 14, 15, 16, 20, 21, 22, 24, 25]) HT_ ?_
      refine pu (i := 26) (N := some 65) (fl 33 6 [9, 10, 11, 13, 14, 15, 16, 20, 21, 22, 24, 25, 26]) HT_ ?_
      refine pu (i := 27) (N := some 66) (fl 33 6 [9, 10, 11, 13, 14, 15, 16, 20, 21, 22, 24, 25, 26, 27]) HT_ ?_
      refine tk (i := 6) (N := some 45) (fl 33 7 [9, 10, 11, 13, 14, 15, 16, 20, 21, 22, 24, 25, 26, 27]) HT_ HW_ hHeld ?_
      refine tk (i := 12) (N := some 51) (fl 33 7 [9, 10, 11, 12, 13, 14, 15, 16, 20, 21, 22, 24, 25, 26, 27]) HT_ HW_ hHeld ?_
      refine tk (i := 17) (N := some 56) (fl 33 7 [9, 10, 11, 12, 13, 14, 15, 16, 17, 20, 21, 22, 24, 25, 26, 27]) HT_ HW_ hHeld ?_
      refine pu (i := 18) (N := some 57) (fl 33 7 [9, 10, 11, 12, 13, 14, 15, 16, 17, 18, 20, 21, 22, 24, 25, 26, 27]) HT_ ?_
      refine tk (i := 23) (N := some 62) (fl 33 7 [9, 10, 11, 12, 13, 14, 15, 16, 17, 18, 20, 21, 22, 23, 24, 25, 26, 27]) HT_ HW_ hHeld ?_
      refine tk (i := 28) (N := some 67) (fl 33 7 [9, 10, 11, 12, 13, 14, 15, 16, 17, 18, 20, 21, 22, 23, 24, 25, 26, 27, 28]) HT_ HW_ hHeld ?_
      refine pu (i := 29) (N := some 68) (fl 33 7 [9, 10, 11, 12, 13, 14, 15, 16, 17, 18, 20, 21, 22, 23, 24, 25, 26, 27, 28, 29]) HT_ ?_
      refine one_ (i := 7) (N := some 46) (fl 33 8 [9, 10, 11, 12, 13, 14, 15, 16, 17, 18, 20, 21, 22, 23, 24, 25, 26, 27, 28, 29]) rfl rfl (one_of HT_.out (by kernel_rfl)) (by decide) (fun K hK => ?_)
      refine goes_ Try.func50 (by kernel_rfl) rfl #[.slice Ao15 t284.length co15, .int .i64 1, .int .i64 (rd t287 (ji18))] (by rfl) rfl rfl (by (try simp only [pml]); first | done | (simp only [hji18]; rfl) | rfl | (simp only [pdt]; rfl)) ?_
      with_reducible refine (box_at.calls k2 _ _ t284 1 (rd t287 (ji18)) t291 _ ?side1 ?side2 A21.out).mono ?_
      (case side1 => repeat (first | exact (Kd.R_reads' HO_8.out).2.2 | (with_reducible refine Kd.C_alloc ?_ _) | (with_reducible refine Kd.C_drewN ?_ _) | (with_reducible refine Kd.C_drew ?_)))
      (case side2 => exact (Kd.R_reads' HO_8.out).2.1)
      rintro e w31 ⟨v292, rfl, ho0, hb⟩
      have HS0_ := (hb.cell (bq _ _ (hHeld.1))).trans (hHeld.1)
      have HS1_ := (hb.cell (bq _ _ (hHeld.2.1))).trans (hHeld.2.1)
      have HS2_ := (hb.cell (bq _ _ (hHeld.2.2.1))).trans (hHeld.2.2.1)
      have HS3_ := (hb.cell (bq _ _ (hHeld.2.2.2.1))).trans (hHeld.2.2.2.1)
      have HS4_ := (hb.cell (bq _ _ (hHeld.2.2.2.2))).trans (hHeld.2.2.2.2)
      refine ⟨_, rfl, ?_⟩
      have n0_ := dR HO_6 hb
      have n1_ := am (Kd.R_elder' (fR HO_8.out) (Kd.R_base ho0) hb)
      have n2_ := dR HO_9 hb
      have n3_ := am (Kd.R_lower (Kd.R_new' ho0 (Kd.R_lt (fR HO_8.out))) (below_size (fW HB.out)))
      have n4_ := bS HB hb
      clear HO_6 HO_8 HO_9 HB
      have HO_6 := n0_
      have HO_8 := n1_
      have HO_9 := n2_
      have HO293 := n3_
      have HB := n4_
      clear n0_ n1_ n2_ n3_ n4_
      (try clear hb)
      (try clear hb2)
      (try clear hk)
      (try clear hi)
      (try clear ho0)
      obtain ⟨Ao32, co32, eo32⟩ := Kd.R_slice HO293.out
      (first | subst eo32 | (injection eo32 with f1_ f2_ f3_; have f4_ := f1_.symm; have f5_ := f3_.symm; clear f1_ f2_ f3_; subst f4_; subst f5_))
      refine hK.out _ _ ⟨HS0_, HS1_, HS2_, HS3_, HS4_⟩ (fun hHeld => ?_)
      clear hK K
      refine norm_ (a' := ?_) ?_ ?_
      rotate_left
      ·show Act.put _ (some 46) _ = _
       simp only [Act.put, psl, i64_w, i32_w]
       rfl
      refine one_ (i := 8) (N := some 47) (fl 33 19 [20, 21, 22, 23, 24, 25, 26, 27, 28, 29]) rfl rfl (one_of HT_.out (by kernel_rfl)) (by decide) (fun K hK => ?_)
      refine goes_ Try.func64 (by kernel_rfl) rfl #[.slice Ao32 t291.length co32] (by rfl) rfl rfl (by (try simp only [pml]); first | done | rfl | (simp only [pdt]; rfl)) ?_
      with_reducible refine (box_covered.calls k2 _ _ t291 t294 _ ?side1 ?side2 A22.out).mono ?_
      (case side1 => repeat (first | exact (Kd.R_reads' HO293.out).2.2 | (with_reducible refine Kd.C_alloc ?_ _) | (with_reducible refine Kd.C_drewN ?_ _) | (with_reducible refine Kd.C_drew ?_)))
      (case side2 => exact (Kd.R_reads' HO293.out).2.1)
      rintro e w33 ⟨rfl, hb⟩
      have HS0_ := (hb.cell (bq _ _ (hHeld.1))).trans (hHeld.1)
      have HS1_ := (hb.cell (bq _ _ (hHeld.2.1))).trans (hHeld.2.1)
      have HS2_ := (hb.cell (bq _ _ (hHeld.2.2.1))).trans (hHeld.2.2.1)
      have HS3_ := (hb.cell (bq _ _ (hHeld.2.2.2.1))).trans (hHeld.2.2.2.1)
      have HS4_ := (hb.cell (bq _ _ (hHeld.2.2.2.2))).trans (hHeld.2.2.2.2)
      refine ⟨_, rfl, ?_⟩
      have n0_ := dR HO_6 hb
      have n1_ := dR HO_8 hb
      have n2_ := dR HO_9 hb
      have n3_ := dR HO293 hb
      have n4_ := bS HB hb
      clear HO_6 HO_8 HO_9 HO293 HB
      have HO_6 := n0_
      have HO_8 := n1_
      have HO_9 := n2_
      have HO293 := n3_
      have HB := n4_
      clear n0_ n1_ n2_ n3_ n4_
      (try clear hb)
      (try clear hb2)
      (try clear hk)
      (try clear hi)
      refine hK.out _ _ ⟨HS0_, HS1_, HS2_, HS3_, HS4_⟩ (fun hHeld => ?_)
      clear hK K
      refine norm_ (a' := ?_) ?_ ?_
      rotate_left
      ·show Act.put _ (some 47) _ = _
       simp only [Act.put, psl, i64_w, i32_w]
       rfl
      refine pu (i := 19) (N := some 58) (fl 33 30 []) HT_ ?_
      refine pu (i := 30) (N := some 69) (fl 33 31 []) HT_ ?_
      refine pu (i := 31) (N := some 70) (fl 33 32 []) HT_ ?_
      refine pu (i := 32) (N := some 5) (fl 33 33 []) HT_ ?_
      refine done_ (done_of HT_.out (by kernel_rfl)) ?_
      try go_wp2
      go_roundg k2
      case measure => have := HK1.out; have := HK2.out; omega
      case rel => exact ⟨(wrap64 (x5_2 + (wrap64 ((wrap64 (t294 * (wrap64 ((rd t287 x10_2) - (rd t287 (ji18)))))) * (wrap64 ((rd t280 x7_1) - (rd t280 (ji26)))))))), (wrap64 (x10_2 + 1)), (by first | rfl | (simp; done) | (simp only [← hji18, ← hji26] <;> (first | rfl | simp)) | (simp [*]; done)), sqD, H', ⟨by have := HK1.out; have := HK2.out; omega⟩, ⟨fR HO_6.out⟩, ⟨by (with_reducible repeat (first | apply Kd.R_alloc | apply Kd.R_drewN | apply Kd.R_drew)); exact Kd.R_mono HO_8.out (fun _ hk => trivial)⟩, ⟨fR HO_9.out⟩, ⟨fW HB.out⟩⟩
 ·rw [if_neg c3] at H
  have c3b0 : (t279 == 0) = false := beq_eq_false_iff_ne.mpr c3
  have c3b1 : (t279 != 0) = true := bne_iff_ne.mpr c3
  simp only [Option.some.injEq, Prod.mk.injEq] at H
  obtain ⟨rfl, rfl⟩ := H
  go_enter Try.func40, Try.ntmps40
  go_wp2_with (first | ((with_reducible refine gc (f := 48) rfl ?_); refine goesL_ (some 12) rfl rfl Try.func48 (by kernel_rfl) rfl #[.slice A0 l0.length c0, .slice none 0 0] rfl (by (try simp only [pml]); first | done | rfl | (simp only [pdt]; rfl)) ?_; (refine (box_many.calls k _ _ l0 _ _ ([] : List (S25)) t279 _ ?side1 ?side2 ?side3 ?side4 A2.out).mono ?_); (case side1 => repeat (first | exact HR0.out | (with_reducible refine Kd.C_alloc ?_ _) | (with_reducible refine Kd.C_drewN ?_ _) | (with_reducible refine Kd.C_drew ?_))); (case side2 => exact HC0.out); (case side3 => exact Kd.C_nil _ _); (case side4 => exact Nat.le_refl _); rintro e w36 ⟨rfl, hb⟩; refine ⟨_, rfl, ?_⟩; replace HB := bS HB hb; (try clear hb); (try clear hb2); (try clear hk); (try clear hi)))
  go_ret2
  exact ⟨sqE, fW HB.out⟩

def box_Size.f (a0_0 : Int) (a0_1 : Int) (a0_2 : Int) (a0_3 : Int) (a0_4 : Int) (a0_5 : Int) : Option (Int × Int × Int) := some (wrap64 (a0_3 - a0_0), wrap64 (a0_4 - a0_1), wrap64 (a0_5 - a0_2))
set_option maxHeartbeats 8000000 in
set_option maxRecDepth 100000 in
theorem box_Size.calls (a0_0 : Int) (a0_1 : Int) (a0_2 : Int) (a0_3 : Int) (a0_4 : Int) (a0_5 : Int) (r1 : Int) (r2 : Int) (r3 : Int) (w : World) (h : box_Size.f a0_0 a0_1 a0_2 a0_3 a0_4 a0_5 = some (r1, r2, r3)) :
  Calls Try.prog 21 #[.agg #[.int .i64 a0_0, .int .i64 a0_1, .int .i64 a0_2, .int .i64 a0_3, .int .i64 a0_4, .int .i64 a0_5]] w fun e w' => e = .returned (.agg #[.int .i64 r1, .int .i64 r2, .int .i64 r3]) ∧ Below w.heap.size w w' := by
 have hu25 := Try.underlying25
 have hu23 := Try.underlying23
 have HB := am (Below.refl w.heap.size w)
 have H : (some (wrap64 (a0_3 - a0_0), wrap64 (a0_4 - a0_1), wrap64 (a0_5 - a0_2))) = some (r1, r2, r3) := h
 clear h
 simp only [Option.some.injEq, Prod.mk.injEq] at H
 obtain ⟨rfl, rfl, rfl⟩ := H
 go_enter Try.func21, Try.ntmps21
 go_wp2_with (first | ((with_reducible refine gate_dst (N := 1) rfl ?_); refine box_event ?hg (N := 1) ?hd (cs := #[.int .i64 a0_0, .int .i64 a0_1, .int .i64 a0_2, .int .i64 a0_3, .int .i64 a0_4, .int .i64 a0_5]) (t := 25) ?hr ?_; (case hd | hg => rfl); (case hr => first | (go_simp; done) | (go_simp; rfl)); intro gb299 hg w2 hbox hb; have BK299 := am hbox; have GW299 := sG HB hg; have GE299 := sG HB hg; replace HB := bS HB hb; clear hb hbox hg) | ((with_reducible refine gate_dst (N := 2) rfl ?_); refine box_event ?hg (N := 2) ?hd (cs := #[.int .i64 0, .int .i64 0, .int .i64 0]) (t := 23) ?hr ?_; (case hd | hg => rfl); (case hr => first | (go_simp; done) | (go_simp; rfl)); intro gb300 hg w3 hbox hb; have BK300 := am hbox; have GW300 := sG HB hg; have GE300 := sG HB hg; replace HB := bS HB hb; have NB299_300 := nL BK299 hg; have NB300_299 := nG BK299 hg; replace BK299 := bB BK299 hb; clear hb hbox hg; have hnb4 := NB299_300.out; have hnc4 := NB300_299.out; obtain ⟨_, _, _, _, _, _, _, _, _, _, _, _⟩ := zC6 BK299; obtain ⟨_, _, _, _, _, _⟩ := zC3 BK300))
 refine bodyPost_ret (results_cell_row rfl _ _ gb300 23 #[.int .i64 (wrap64 (a0_3 - a0_0)), .int .i64 (wrap64 (a0_4 - a0_1)), .int .i64 (wrap64 (a0_5 - a0_2))] (0, 0) _ rfl (kkC BK300.out) Try.underlying23 rfl (by kernel_rfl)) rfl ?_
 exact ⟨sqE, fW HB.out⟩

def box_volume.f (a0_0 : Int) (a0_1 : Int) (a0_2 : Int) (a0_3 : Int) (a0_4 : Int) (a0_5 : Int) : Option (Int) := (box_Size.f a0_0 a0_1 a0_2 a0_3 a0_4 a0_5).bind fun bt302 => (some (wrap64 ((wrap64 (bt302.1 * bt302.2.1)) * bt302.2.2)))
set_option maxHeartbeats 8000000 in
set_option maxRecDepth 100000 in
theorem box_volume.calls (a0_0 : Int) (a0_1 : Int) (a0_2 : Int) (a0_3 : Int) (a0_4 : Int) (a0_5 : Int) (r : Int) (w : World) (h : box_volume.f a0_0 a0_1 a0_2 a0_3 a0_4 a0_5 = some r) :
  Calls Try.prog 55 #[.agg #[.int .i64 a0_0, .int .i64 a0_1, .int .i64 a0_2, .int .i64 a0_3, .int .i64 a0_4, .int .i64 a0_5]] w fun e w' => e = .returned (.int .i64 r) ∧ Below w.heap.size w w' := by
 have hu25 := Try.underlying25
 have hu23 := Try.underlying23
 have HB := am (Below.refl w.heap.size w)
 have H : ((box_Size.f a0_0 a0_1 a0_2 a0_3 a0_4 a0_5).bind fun bt302 => (some (wrap64 ((wrap64 (bt302.1 * bt302.2.1)) * bt302.2.2)))) = some r := h
 clear h
 replace H := Option.bind_eq_some_iff.mp H
 obtain ⟨⟨t302, t303, t304⟩, A20, H⟩ := H
 replace H : (some (wrap64 ((wrap64 (t302 * t303)) * t304))) = some r := H
 have A2 := am A20
 clear A20
 obtain rfl := Option.some.inj H
 go_enter Try.func55, Try.ntmps55
 go_wp2_with (first | ((with_reducible refine gate_dst (N := 1) rfl ?_); refine box_event ?hg (N := 1) ?hd (cs := #[.int .i64 a0_0, .int .i64 a0_1, .int .i64 a0_2, .int .i64 a0_3, .int .i64 a0_4, .int .i64 a0_5]) (t := 25) ?hr ?_; (case hd | hg => rfl); (case hr => first | (go_simp; done) | (go_simp; rfl)); intro gb301 hg w3 hbox hb; have BK301 := am hbox; have GW301 := sG HB hg; have GE301 := sG HB hg; replace HB := bS HB hb; clear hb hbox hg; obtain ⟨_, _, _, _, _, _, _, _, _, _, _, _⟩ := zC6 BK301) | ((with_reducible refine gc (f := 21) rfl ?_); refine goesL_ (some 5) rfl rfl Try.func21 (by kernel_rfl) rfl #[.agg #[.int .i64 a0_0, .int .i64 a0_1, .int .i64 a0_2, .int .i64 a0_3, .int .i64 a0_4, .int .i64 a0_5]] rfl (by (try simp only [pml]); first | done | rfl | (simp only [pdt]; rfl)) ?_; (with_reducible refine (box_Size.calls a0_0 a0_1 a0_2 a0_3 a0_4 a0_5 t302 t303 t304 _ A2.out).mono ?_); rintro e w5 ⟨rfl, hb⟩; refine ⟨_, rfl, ?_⟩; replace BK301 := bB BK301 hb; replace HB := bS HB hb; (try clear hb); (try clear hb2); (try clear hk); (try clear hi)) | ((with_reducible refine gate_dst (N := 3) rfl ?_); refine box_event ?hg (N := 3) ?hd (cs := #[.int .i64 0, .int .i64 0, .int .i64 0]) (t := 23) ?hr ?_; (case hd | hg => rfl); (case hr => first | (go_simp; done) | (go_simp; rfl)); intro gb305 hg w6 hbox hb; have BK305 := am hbox; have GW305 := sG HB hg; have GE305 := sG HB hg; replace HB := bS HB hb; have NB301_305 := nL BK301 hg; have NB305_301 := nG BK301 hg; replace BK301 := bB BK301 hb; clear hb hbox hg; have hnb7 := NB305_301.out; have hnc7 := NB301_305.out; obtain ⟨_, _, _, _, _, _⟩ := zC3 BK305))
 go_ret
 exact ⟨sqE, fW HB.out⟩

def box_Volume.f (a0_0 : Int) (a0_1 : Int) (a0_2 : Int) (a0_3 : Int) (a0_4 : Int) (a0_5 : Int) : Option (Int × Int) := (box_Check.f a0_0 a0_1 a0_2 a0_3 a0_4 a0_5).bind fun t307 => (if t307 = 0 then ((box_volume.f a0_0 a0_1 a0_2 a0_3 a0_4 a0_5).bind fun t308 => (some (t308, 0))) else (some (0, t307)))
set_option maxHeartbeats 8000000 in
set_option maxRecDepth 100000 in
theorem box_Volume.calls (a0_0 : Int) (a0_1 : Int) (a0_2 : Int) (a0_3 : Int) (a0_4 : Int) (a0_5 : Int) (r1 : Int) (r2 : Int) (w : World) (h : box_Volume.f a0_0 a0_1 a0_2 a0_3 a0_4 a0_5 = some (r1, r2)) :
  Calls Try.prog 16 #[.agg #[.int .i64 a0_0, .int .i64 a0_1, .int .i64 a0_2, .int .i64 a0_3, .int .i64 a0_4, .int .i64 a0_5]] w fun e w' => e = .returned (.tuple #[.int .i64 r1, .int .i64 r2]) ∧ Below w.heap.size w w' := by
 have hu25 := Try.underlying25
 have HB := am (Below.refl w.heap.size w)
 have H : ((box_Check.f a0_0 a0_1 a0_2 a0_3 a0_4 a0_5).bind fun t307 => (if t307 = 0 then ((box_volume.f a0_0 a0_1 a0_2 a0_3 a0_4 a0_5).bind fun t308 => (some (t308, 0))) else (some (0, t307)))) = some (r1, r2) := h
 clear h
 replace H := Option.bind_eq_some_iff.mp H
 obtain ⟨t307, A20, H⟩ := H
 replace H : (if t307 = 0 then ((box_volume.f a0_0 a0_1 a0_2 a0_3 a0_4 a0_5).bind fun t308 => (some (t308, 0))) else (some (0, t307))) = some (r1, r2) := H
 have A2 := am A20
 clear A20
 by_cases c3 : t307 = 0
 ·rw [if_pos c3] at H
  have c3b0 : (t307 == 0) = true := beq_iff_eq.mpr c3
  have c3b1 : (t307 != 0) = false := bne_eq_false_iff_eq.mpr c3
  clear c3
  replace H := Option.bind_eq_some_iff.mp H
  obtain ⟨t308, A40, H⟩ := H
  replace H : (some (t308, 0)) = some (r1, r2) := H
  have A4 := am A40
  clear A40
  simp only [Option.some.injEq, Prod.mk.injEq] at H
  obtain ⟨rfl, rfl⟩ := H
  go_enter Try.func16, Try.ntmps16
  go_wp2_with (first | ((with_reducible refine gate_dst (N := 1) rfl ?_); refine box_event ?hg (N := 1) ?hd (cs := #[.int .i64 a0_0, .int .i64 a0_1, .int .i64 a0_2, .int .i64 a0_3, .int .i64 a0_4, .int .i64 a0_5]) (t := 25) ?hr ?_; (case hd | hg => rfl); (case hr => first | (go_simp; done) | (go_simp; rfl)); intro gb306 hg w5 hbox hb; have BK306 := am hbox; have GW306 := sG HB hg; have GE306 := sG HB hg; replace HB := bS HB hb; clear hb hbox hg; obtain ⟨_, _, _, _, _, _, _, _, _, _, _, _⟩ := zC6 BK306) | ((with_reducible refine gc (f := 20) rfl ?_); refine goesL_ (some 6) rfl rfl Try.func20 (by kernel_rfl) rfl #[.agg #[.int .i64 a0_0, .int .i64 a0_1, .int .i64 a0_2, .int .i64 a0_3, .int .i64 a0_4, .int .i64 a0_5]] rfl (by (try simp only [pml]); first | done | rfl | (simp only [pdt]; rfl)) ?_; (with_reducible refine (box_Check.calls a0_0 a0_1 a0_2 a0_3 a0_4 a0_5 t307 _ A2.out).mono ?_); rintro e w7 ⟨rfl, hb⟩; refine ⟨_, rfl, ?_⟩; replace BK306 := bB BK306 hb; replace HB := bS HB hb; (try clear hb); (try clear hb2); (try clear hk); (try clear hi); obtain ⟨_, _, _, _, _, _, _, _, _, _, _, _⟩ := zC6 BK306) | ((with_reducible refine gc (f := 55) rfl ?_); refine goesL_ (some 11) rfl rfl Try.func55 (by kernel_rfl) rfl #[.agg #[.int .i64 a0_0, .int .i64 a0_1, .int .i64 a0_2, .int .i64 a0_3, .int .i64 a0_4, .int .i64 a0_5]] rfl (by (try simp only [pml]); first | done | rfl | (simp only [pdt]; rfl)) ?_; (with_reducible refine (box_volume.calls a0_0 a0_1 a0_2 a0_3 a0_4 a0_5 t308 _ A4.out).mono ?_); rintro e w9 ⟨rfl, hb⟩; refine ⟨_, rfl, ?_⟩; replace BK306 := bB BK306 hb; replace HB := bS HB hb; (try clear hb); (try clear hb2); (try clear hk); (try clear hi)))
  go_ret2
  exact ⟨sqE, fW HB.out⟩
 ·rw [if_neg c3] at H
  have c3b0 : (t307 == 0) = false := beq_eq_false_iff_ne.mpr c3
  have c3b1 : (t307 != 0) = true := bne_iff_ne.mpr c3
  simp only [Option.some.injEq, Prod.mk.injEq] at H
  obtain ⟨rfl, rfl⟩ := H
  go_enter Try.func16, Try.ntmps16
  go_wp2_with (first | ((with_reducible refine gate_dst (N := 1) rfl ?_); refine box_event ?hg (N := 1) ?hd (cs := #[.int .i64 a0_0, .int .i64 a0_1, .int .i64 a0_2, .int .i64 a0_3, .int .i64 a0_4, .int .i64 a0_5]) (t := 25) ?hr ?_; (case hd | hg => rfl); (case hr => first | (go_simp; done) | (go_simp; rfl)); intro gb306 hg w10 hbox hb; have BK306 := am hbox; have GW306 := sG HB hg; have GE306 := sG HB hg; replace HB := bS HB hb; clear hb hbox hg; obtain ⟨_, _, _, _, _, _, _, _, _, _, _, _⟩ := zC6 BK306) | ((with_reducible refine gc (f := 20) rfl ?_); refine goesL_ (some 6) rfl rfl Try.func20 (by kernel_rfl) rfl #[.agg #[.int .i64 a0_0, .int .i64 a0_1, .int .i64 a0_2, .int .i64 a0_3, .int .i64 a0_4, .int .i64 a0_5]] rfl (by (try simp only [pml]); first | done | rfl | (simp only [pdt]; rfl)) ?_; (with_reducible refine (box_Check.calls a0_0 a0_1 a0_2 a0_3 a0_4 a0_5 t307 _ A2.out).mono ?_); rintro e w12 ⟨rfl, hb⟩; refine ⟨_, rfl, ?_⟩; replace BK306 := bB BK306 hb; replace HB := bS HB hb; (try clear hb); (try clear hb2); (try clear hk); (try clear hi)))
  go_ret2
  exact ⟨sqE, fW HB.out⟩

end Go.Proofs.Ytmmdikhmlmoolaa.QA
