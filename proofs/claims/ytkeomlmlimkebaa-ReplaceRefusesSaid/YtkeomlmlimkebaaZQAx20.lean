import Derived.Test.YtkeomlmlimkebaaZQAx0
import Derived.Test.YtkeomlmlimkebaaZQAx2
import Derived.Test.YtkeomlmlimkebaaZQAx4
import Derived.Test.YtkeomlmlimkebaaZQAx5
import Derived.Test.YtkeomlmlimkebaaZQAx8
import Derived.Test.YtkeomlmlimkebaaZQAx9
import Derived.Test.YtkeomlmlimkebaaZQAx10
import Derived.Test.YtkeomlmlimkebaaZQAx16
import Derived.Test.YtkeomlmlimkebaaZQAx18
import Derived.Test.YtkeomlmlimkebaaZQAx19
namespace Go.Proofs.Ytkeomlmlimkebaa.QA
open Go.RowKit Go.Proofs.YtkeomlmlimkebaaW.PrintWords Go.Proofs.YtkeomlmlimkebaaW.PrintLast Go.Proofs.YtkeomlmlimkebaaW.PrintMore
open Go.Proofs.YtkeomlmlimkebaaW.PrintWords renaming blk_frozen → bf, blk_cell → bc, below_size → wz, gate_callee → gc
open Aside0 renaming mk → am
attribute [local go_sem] max2_int min2_int max_two min_two max_three min_three max_four min_four
set_option linter.unusedVariables false
set_option linter.unusedSimpArgs false

mutual
def w_ReplaceRefuses.j0 : Nat → Int → List Int → List Int → Bool → List (List Int) → Int → List Int → List Bool → Option (Bool)
 | 0, _, _, _, _, _, _, _, _ => none
 | k + 1, x1, x2, x3, x27, x528000, x528001, x528002, x528003 => if x27 = true then ((w_awake.f k).bind fun t529 => (some t529)) else ((w_ours.f x528000 x528001 x528002 x528003).bind fun bt530 => ((replace_Refusal.f bt530.1 bt530.2.1 bt530.2.2.1 bt530.2.2.2 x1).bind fun bt540 => (if x1 ≥ 0 then (if x1 < (x528002.length : Int) then (if x1 < (x528000.length : Int) then ((w_ours.f x528000 x528001 x528002 x528003).bind fun bt547 => ((replace_Refutes.f bt547.1 bt547.2.1 bt547.2.2.1 bt547.2.2.2 x1 x2 x3).bind fun t557 => ((r_Refutes.f k x528000 x528001 x528002 x528003 x1 x2 x3).bind fun t558 => (w_ReplaceRefuses.j1 k x1 bt540.1 bt540.2.1 bt540.2.2 (t557 != t558) x528000 x528001 x528002 x528003)))) else (w_ReplaceRefuses.j1 k x1 bt540.1 bt540.2.1 bt540.2.2 false x528000 x528001 x528002 x528003)) else (w_ReplaceRefuses.j1 k x1 bt540.1 bt540.2.1 bt540.2.2 false x528000 x528001 x528002 x528003)) else (w_ReplaceRefuses.j1 k x1 bt540.1 bt540.2.1 bt540.2.2 false x528000 x528001 x528002 x528003))))
def w_ReplaceRefuses.j1 : Nat → Int → List Int → List Int → Int → Bool → List (List Int) → Int → List Int → List Bool → Option (Bool)
 | 0, _, _, _, _, _, _, _, _, _ => none
 | k + 1, x1, x9, x10, x11, x66, x528000, x528001, x528002, x528003 => if x66 = true then (some false) else ((r_Check.f x528000 x528001 x528002 x528003).bind fun t559 => (if t559 = 0 then (if x1 < 0 then (w_ReplaceRefuses.j2 k x1 x9 x10 x11 t559 true x528000 x528001 x528002 x528003) else (w_ReplaceRefuses.j2 k x1 x9 x10 x11 t559 (decide (x1 ≥ (x528000.length : Int))) x528000 x528001 x528002 x528003)) else (w_ReplaceRefuses.j3 k x1 x9 x10 x11 t559 x528000 x528001 x528002 x528003)))
def w_ReplaceRefuses.j3 : Nat → Int → List Int → List Int → Int → Int → List (List Int) → Int → List Int → List Bool → Option (Bool)
 | 0, _, _, _, _, _, _, _, _, _ => none
 | k + 1, x1, x9, x10, x11, x12, x528000, x528001, x528002, x528003 => if x12 = 0 then ((r_Refusal.f k x528000 x528001 x528002 x528003 x1).bind fun bt565 => ((w_awake.f k).bind fun t571 => (if t571 = true then (if x11 = 0 then ((r_SameInts.f k x9 bt565.1).bind fun t572 => (if t572 = true then ((r_SameInts.f k x10 bt565.2).bind fun t573 => (if t573 = true then ((w_ours.f x528000 x528001 x528002 x528003).bind fun bt574 => ((replace_Refutes.f bt574.1 bt574.2.1 bt574.2.2.1 bt574.2.2.2 x1 x9 x10).bind fun t584 => (some t584))) else (some false))) else (some false))) else (some false)) else (some false)))) else ((w_awake.f k).bind fun t564 => (if t564 = true then (if x11 = x12 then (if (x9.length : Int) = 0 then (some ((x10.length : Int) == 0)) else (some false)) else (some false)) else (some false)))
def w_ReplaceRefuses.j2 : Nat → Int → List Int → List Int → Int → Int → Bool → List (List Int) → Int → List Int → List Bool → Option (Bool)
 | 0, _, _, _, _, _, _, _, _, _, _ => none
 | k + 1, x1, x9, x10, x11, x12, x72, x528000, x528001, x528002, x528003 => if x72 = true then (w_ReplaceRefuses.j3 k x1 x9 x10 x11 6 x528000 x528001 x528002 x528003) else (if 0 ≤ x1 then (if x1 < (x528002.length : Int) then (if (rd x528002 x1) ≥ 0 then (w_ReplaceRefuses.j3 k x1 x9 x10 x11 8 x528000 x528001 x528002 x528003) else ((r_Repair.f k x528000 x528001 x528002 x528003 x1).bind fun t561 => (if (t561.length : Int) > 0 then (w_ReplaceRefuses.j3 k x1 x9 x10 x11 9 x528000 x528001 x528002 x528003) else (w_ReplaceRefuses.j3 k x1 x9 x10 x11 x12 x528000 x528001 x528002 x528003)))) else (none)) else (none))
end
def w_ReplaceRefuses.f (k : Nat) (l0_0 : List (List Int)) (a0_1 : Int) (l0_2 : List Int) (l0_3 : List Bool) (a1 : Int) (l2 : List Int) (l3 : List Int) : Option (Bool) := (r_Few.f k l0_0 a0_1 l0_2 l0_3).bind fun t528 => (if t528 = true then (if (l2.length : Int) > 70 then (w_ReplaceRefuses.j0 k a1 l2 l3 true l0_0 a0_1 l0_2 l0_3) else (w_ReplaceRefuses.j0 k a1 l2 l3 (decide ((l3.length : Int) > 70)) l0_0 a0_1 l0_2 l0_3)) else (w_ReplaceRefuses.j0 k a1 l2 l3 true l0_0 a0_1 l0_2 l0_3))
def w_ReplaceRefuses.T4 : Bool × List (List Nat × List Nat) := (true, [([], []), ([0], [0]), ([1], [1]), ([2], [2]), ([2], [2]), ([4, 2], [2, 4]), ([5, 2], [2, 5]), ([3, 6, 2], [2, 3, 6]), ([2, 7], [2, 7]), ([8, 2], [8]), ([9], [9]), ([9], [9]), ([11, 9], [9, 11]), ([12, 9], [9, 12]), ([10, 13, 9], [9, 10, 13]), ([9, 14], [9, 14]), ([15, 9], [15]), ([16], [16]), ([17, 16, 16], [16, 17]), ([16], [16]), ([16], [16]), ([16], [16]), ([18, 19, 20, 21, 18, 16], [16, 18, 19, 20, 21]), ([16], [16]), ([16], [16]), ([16], [16]), ([16], [16]), ([23, 24, 25, 26, 22, 16], [16, 23, 24, 25, 26]), ([22, 27, 16], [16, 22, 27]), ([16, 28], [16, 28])])
def w_ReplaceRefuses.B4 : List Nat := [0, 1, 3, 7, 7, 23, 55, 127, 255, 511, 1023, 1023, 3071, 7167, 16383, 32767, 65535, 131071, 262143, 131071, 131071, 131071, 4194303, 131071, 131071, 131071, 131071, 134217727, 268435455, 536870911]
theorem w_ReplaceRefuses.tab4 : rtab .any (opsOf Try.f4 4) = w_ReplaceRefuses.T4 := by kernel_rfl
theorem w_ReplaceRefuses.bits4 : waitsOk w_ReplaceRefuses.T4.2 w_ReplaceRefuses.B4 = true := by kernel_rfl
set_option maxHeartbeats 8000000 in
set_option maxRecDepth 100000 in
theorem w_ReplaceRefuses.calls (k : Nat) (A0_0 : Option Addr) (c0_0 : Nat) (l0_0 : List (List Int)) (a0_1 : Int) (A0_2 : Option Addr) (c0_2 : Nat) (l0_2 : List Int) (A0_3 : Option Addr) (c0_3 : Nat) (l0_3 : List Bool) (a1 : Int) (A2 : Option Addr) (c2 : Nat) (l2 : List Int) (A3 : Option Addr) (c3 : Nat) (l3 : List Int) (r : Bool) (w : World) (hr0_0 : Kd.C (Kd.slice 3 (Kd.int .i64)) w A0_0 l0_0.length l0_0) (hc0_0 : l0_0.length ≤ c0_0) (hr0_2 : Kd.C (Kd.int .i64) w A0_2 l0_2.length l0_2) (hc0_2 : l0_2.length ≤ c0_2) (hr0_3 : Kd.C Kd.bool w A0_3 l0_3.length l0_3) (hc0_3 : l0_3.length ≤ c0_3) (hr2 : Kd.C (Kd.int .i64) w A2 l2.length l2) (hc2 : l2.length ≤ c2) (hr3 : Kd.C (Kd.int .i64) w A3 l3.length l3) (hc3 : l3.length ≤ c3) (h : w_ReplaceRefuses.f k l0_0 a0_1 l0_2 l0_3 a1 l2 l3 = some r) :
  Calls Try.prog 4 #[.agg #[.slice A0_0 l0_0.length c0_0, .int .i64 a0_1, .slice A0_2 l0_2.length c0_2, .slice A0_3 l0_3.length c0_3], .int .i64 a1, .slice A2 l2.length c2, .slice A3 l3.length c3] w fun e w' => e = .returned (.bool r) ∧ Below w.heap.size w w' := by
 have hu26 := Try.underlying26
 have HR0_0 := am hr0_0
 have HC0_0 := am hc0_0
 clear hr0_0 hc0_0
 have HR0_2 := am hr0_2
 have HC0_2 := am hc0_2
 clear hr0_2 hc0_2
 have HR0_3 := am hr0_3
 have HC0_3 := am hc0_3
 clear hr0_3 hc0_3
 have HR2 := am hr2
 have HC2 := am hc2
 clear hr2 hc2
 have HR3 := am hr3
 have HC3 := am hc3
 clear hr3 hc3
 have HB := am (Below.refl w.heap.size w)
 have H : ((r_Few.f k l0_0 a0_1 l0_2 l0_3).bind fun t528 => (if t528 = true then (if (l2.length : Int) > 70 then (w_ReplaceRefuses.j0 k a1 l2 l3 true l0_0 a0_1 l0_2 l0_3) else (w_ReplaceRefuses.j0 k a1 l2 l3 (decide ((l3.length : Int) > 70)) l0_0 a0_1 l0_2 l0_3)) else (w_ReplaceRefuses.j0 k a1 l2 l3 true l0_0 a0_1 l0_2 l0_3))) = some r := h
 clear h
 have HC5 := am H
 clear H
 go_enter Try.func4, Try.ntmps4
 go_upto_region 1 with (first | ((with_reducible refine gate_dst (N := 4) rfl ?_); (try (refine gate_guard (by rfl) ?_; dsimp only)); refine box_event ?hg (N := 4) ?hd (cs := #[.slice A0_0 l0_0.length c0_0, .int .i64 a0_1, .slice A0_2 l0_2.length c0_2, .slice A0_3 l0_3.length c0_3]) (t := 26) ?hr ?_; (case hd | hg => rfl); (case hr => first | (go_simp; done) | (go_simp; rfl)); intro gb527 hg w6 hbox hb; have BK527 := am hbox; have GW527 := sG HB hg; have GE527 := sG HB hg; replace HB := bS HB hb; clear hb hbox hg))
 (try simp only [Act.put, psl])
 go_cut [27] (fun v27 wc => ∃ (kq : Nat) (x27_4 : Bool), v27 = .bool x27_4 ∧ Aside0 (w_ReplaceRefuses.j0 kq a1 l2 l3 x27_4 l0_0 a0_1 l0_2 l0_3 = some r) ∧ Aside0 (kq ≤ k) ∧ Aside0 (wc.heap[gb527]? = some (.cells #[(.slice A0_0 l0_0.length c0_0), .int .i64 a0_1, (.slice A0_2 l0_2.length c0_2), (.slice A0_3 l0_3.length c0_3)] 26 (0, 0))) ∧ Aside0 (Below w.heap.size w wc))
 case first =>
  have H := HC5.out
  clear HC5
  replace H := Option.bind_eq_some_iff.mp H
  obtain ⟨t528, A70, H⟩ := H
  replace H : (if t528 = true then (if (l2.length : Int) > 70 then (w_ReplaceRefuses.j0 k a1 l2 l3 true l0_0 a0_1 l0_2 l0_3) else (w_ReplaceRefuses.j0 k a1 l2 l3 (decide ((l3.length : Int) > 70)) l0_0 a0_1 l0_2 l0_3)) else (w_ReplaceRefuses.j0 k a1 l2 l3 true l0_0 a0_1 l0_2 l0_3)) = some r := H
  have A7 := am A70
  clear A70
  by_cases c8 : t528 = true
  rotate_left
  ·replace c8 := Bool.eq_false_iff.mpr c8
   subst c8
   have H1 : (w_ReplaceRefuses.j0 k a1 l2 l3 true l0_0 a0_1 l0_2 l0_3) = some r := by rw [if_neg (show ¬ (false = true) by decide)] at H; exact H
   clear H
   have H := H1
   clear H1
   have H' := am H
   clear H
   have := yC1 BK527
   have := kC1 BK527
   have := kC2 BK527
   have := kC3 BK527
   have := bf BK527.out 0
   have := bf BK527.out 1
   have := bf BK527.out 2
   have := bf BK527.out 3
   go_wp2_with (first | ((with_reducible refine gc (f := 10) rfl ?_); refine goesL_ (some 16) rfl rfl Try.func10 (by kernel_rfl) rfl #[.agg #[.slice A0_0 l0_0.length c0_0, .int .i64 a0_1, .slice A0_2 l0_2.length c0_2, .slice A0_3 l0_3.length c0_3]] rfl (by (try simp only [pml]); first | done | rfl | (simp only [pdt]; rfl)) ?_; (with_reducible refine (r_Few.calls k _ _ l0_0 a0_1 _ _ l0_2 _ _ l0_3 false _ ?side1 ?side2 ?side3 ?side4 ?side5 ?side6 A7.out).mono ?_); (case side1 => repeat (first | exact (Kd.C_below HR0_0.out HB.out) | (with_reducible refine Kd.C_alloc ?_ _) | (with_reducible refine Kd.C_drewN ?_ _) | (with_reducible refine Kd.C_drew ?_))); (case side2 => exact HC0_0.out); (case side3 => repeat (first | exact (Kd.C_below HR0_2.out HB.out) | (with_reducible refine Kd.C_alloc ?_ _) | (with_reducible refine Kd.C_drewN ?_ _) | (with_reducible refine Kd.C_drew ?_))); (case side4 => exact HC0_2.out); (case side5 => repeat (first | exact (Kd.C_below HR0_3.out HB.out) | (with_reducible refine Kd.C_alloc ?_ _) | (with_reducible refine Kd.C_drewN ?_ _) | (with_reducible refine Kd.C_drew ?_))); (case side6 => exact HC0_3.out); rintro e w15 ⟨rfl, hb⟩; refine ⟨_, rfl, ?_⟩; replace BK527 := bB BK527 hb; replace HB := bS HB hb; (try clear hb); (try clear hb2); (try clear hk); (try clear hi)))
   go_meet
   case rel => exact ⟨_, (true), sqD, H', ⟨by first | omega | exact Nat.le_refl _⟩, ⟨fb BK527.out⟩, ⟨fW HB.out⟩⟩
  subst c8
  have H1 : (if (l2.length : Int) > 70 then (w_ReplaceRefuses.j0 k a1 l2 l3 true l0_0 a0_1 l0_2 l0_3) else (w_ReplaceRefuses.j0 k a1 l2 l3 (decide ((l3.length : Int) > 70)) l0_0 a0_1 l0_2 l0_3)) = some r := by rw [if_pos rfl] at H; exact H
  clear H
  have H := H1
  clear H1
  by_cases c9 : (l2.length : Int) > 70
  ·rw [if_pos c9] at H
   have c9b0 : decide (70 < (l2.length : Int)) = true := decide_eq_true c9
   have c9b1 : decide (70 < l2.length) = true := decide_eq_true (by omega)
   clear c9
   (first | rw [c9b0] | (simp only [i64_w, i32_w]; rw [c9b0]) | skip)
   have H' := am H
   clear H
   have := yC1 BK527
   have := kC1 BK527
   have := kC2 BK527
   have := kC3 BK527
   have := bf BK527.out 0
   have := bf BK527.out 1
   have := bf BK527.out 2
   have := bf BK527.out 3
   go_wp2_with (first | ((with_reducible refine gc (f := 10) rfl ?_); refine goesL_ (some 16) rfl rfl Try.func10 (by kernel_rfl) rfl #[.agg #[.slice A0_0 l0_0.length c0_0, .int .i64 a0_1, .slice A0_2 l0_2.length c0_2, .slice A0_3 l0_3.length c0_3]] rfl (by (try simp only [pml]); first | done | rfl | (simp only [pdt]; rfl)) ?_; (with_reducible refine (r_Few.calls k _ _ l0_0 a0_1 _ _ l0_2 _ _ l0_3 true _ ?side1 ?side2 ?side3 ?side4 ?side5 ?side6 A7.out).mono ?_); (case side1 => repeat (first | exact (Kd.C_below HR0_0.out HB.out) | (with_reducible refine Kd.C_alloc ?_ _) | (with_reducible refine Kd.C_drewN ?_ _) | (with_reducible refine Kd.C_drew ?_))); (case side2 => exact HC0_0.out); (case side3 => repeat (first | exact (Kd.C_below HR0_2.out HB.out) | (with_reducible refine Kd.C_alloc ?_ _) | (with_reducible refine Kd.C_drewN ?_ _) | (with_reducible refine Kd.C_drew ?_))); (case side4 => exact HC0_2.out); (case side5 => repeat (first | exact (Kd.C_below HR0_3.out HB.out) | (with_reducible refine Kd.C_alloc ?_ _) | (with_reducible refine Kd.C_drewN ?_ _) | (with_reducible refine Kd.C_drew ?_))); (case side6 => exact HC0_3.out); rintro e w11 ⟨rfl, hb⟩; refine ⟨_, rfl, ?_⟩; replace BK527 := bB BK527 hb; replace HB := bS HB hb; (try clear hb); (try clear hb2); (try clear hk); (try clear hi)))
   go_meet
   case rel => exact ⟨_, (true), sqD, H', ⟨by first | omega | exact Nat.le_refl _⟩, ⟨fb BK527.out⟩, ⟨fW HB.out⟩⟩
  rw [if_neg c9] at H
  have c9b0 : decide (70 < (l2.length : Int)) = false := decide_eq_false c9
  have c9b1 : decide (70 < l2.length) = false := decide_eq_false (by omega)
  clear c9
  (first | rw [c9b0] | (simp only [i64_w, i32_w]; rw [c9b0]) | skip)
  have H' := am H
  clear H
  have := yC1 BK527
  have := kC1 BK527
  have := kC2 BK527
  have := kC3 BK527
  have := bf BK527.out 0
  have := bf BK527.out 1
  have := bf BK527.out 2
  have := bf BK527.out 3
  go_wp2_with (first | ((with_reducible refine gc (f := 10) rfl ?_); refine goesL_ (some 16) rfl rfl Try.func10 (by kernel_rfl) rfl #[.agg #[.slice A0_0 l0_0.length c0_0, .int .i64 a0_1, .slice A0_2 l0_2.length c0_2, .slice A0_3 l0_3.length c0_3]] rfl (by (try simp only [pml]); first | done | rfl | (simp only [pdt]; rfl)) ?_; (with_reducible refine (r_Few.calls k _ _ l0_0 a0_1 _ _ l0_2 _ _ l0_3 true _ ?side1 ?side2 ?side3 ?side4 ?side5 ?side6 A7.out).mono ?_); (case side1 => repeat (first | exact (Kd.C_below HR0_0.out HB.out) | (with_reducible refine Kd.C_alloc ?_ _) | (with_reducible refine Kd.C_drewN ?_ _) | (with_reducible refine Kd.C_drew ?_))); (case side2 => exact HC0_0.out); (case side3 => repeat (first | exact (Kd.C_below HR0_2.out HB.out) | (with_reducible refine Kd.C_alloc ?_ _) | (with_reducible refine Kd.C_drewN ?_ _) | (with_reducible refine Kd.C_drew ?_))); (case side4 => exact HC0_2.out); (case side5 => repeat (first | exact (Kd.C_below HR0_3.out HB.out) | (with_reducible refine Kd.C_alloc ?_ _) | (with_reducible refine Kd.C_drewN ?_ _) | (with_reducible refine Kd.C_drew ?_))); (case side6 => exact HC0_3.out); rintro e w13 ⟨rfl, hb⟩; refine ⟨_, rfl, ?_⟩; replace BK527 := bB BK527 hb; replace HB := bS HB hb; (try clear hb); (try clear hb2); (try clear hk); (try clear hi)))
  go_meet
  case rel => exact ⟨_, (decide ((l3.length : Int) > 70)), sqD, H', ⟨by first | omega | exact Nat.le_refl _⟩, ⟨fb BK527.out⟩, ⟨fW HB.out⟩⟩
 case rest =>
  clear HC5
  try clear c1;try clear c2;try clear p2;try clear c3;try clear c4;try clear c8;try clear c9;try clear c9b0;try clear c9b1;try clear c10
  obtain ⟨kq, x27_4, rfl, HA, HJ4, BK527, HB⟩ := hcut
  cases kq with
  | zero => exact absurd HA.out (by simp [w_ReplaceRefuses.j0])
  | succ kj4 =>
   have H := HA.out
   clear HA
   simp only [w_ReplaceRefuses.j0] at H
   by_cases c16 : x27_4 = true
   ·subst c16
    have H1 : ((w_awake.f kj4).bind fun t529 => (some t529)) = some r := by rw [if_pos rfl] at H; exact H
    clear H
    have H := H1
    clear H1
    replace H := Option.bind_eq_some_iff.mp H
    obtain ⟨t529, A170, H⟩ := H
    replace H : (some t529) = some r := H
    have A17 := am A170
    clear A170
    obtain rfl := Option.some.inj H
    go_wp2_with (first | ((with_reducible refine gc (f := 11) rfl ?_); refine goesL_ (some 28) rfl rfl Try.func11 (by kernel_rfl) rfl #[] rfl (by (try simp only [pml]); first | done | rfl | (simp only [pdt]; rfl)) ?_; (with_reducible refine (w_awake.calls kj4  t529 _ A17.out).mono ?_); rintro e w18 ⟨rfl, hb⟩; refine ⟨_, rfl, ?_⟩; replace BK527 := bB BK527 hb; replace HB := bS HB hb; (try clear hb); (try clear hb2); (try clear hk); (try clear hi)))
    go_ret
    exact ⟨sqE, fW HB.out⟩
   ·replace c16 := Bool.eq_false_iff.mpr c16
    subst c16
    have H1 : ((w_ours.f l0_0 a0_1 l0_2 l0_3).bind fun bt530 => ((replace_Refusal.f bt530.1 bt530.2.1 bt530.2.2.1 bt530.2.2.2 a1).bind fun bt540 => (if a1 ≥ 0 then (if a1 < (l0_2.length : Int) then (if a1 < (l0_0.length : Int) then ((w_ours.f l0_0 a0_1 l0_2 l0_3).bind fun bt547 => ((replace_Refutes.f bt547.1 bt547.2.1 bt547.2.2.1 bt547.2.2.2 a1 l2 l3).bind fun t557 => ((r_Refutes.f kj4 l0_0 a0_1 l0_2 l0_3 a1 l2 l3).bind fun t558 => (w_ReplaceRefuses.j1 kj4 a1 bt540.1 bt540.2.1 bt540.2.2 (t557 != t558) l0_0 a0_1 l0_2 l0_3)))) else (w_ReplaceRefuses.j1 kj4 a1 bt540.1 bt540.2.1 bt540.2.2 false l0_0 a0_1 l0_2 l0_3)) else (w_ReplaceRefuses.j1 kj4 a1 bt540.1 bt540.2.1 bt540.2.2 false l0_0 a0_1 l0_2 l0_3)) else (w_ReplaceRefuses.j1 kj4 a1 bt540.1 bt540.2.1 bt540.2.2 false l0_0 a0_1 l0_2 l0_3)))) = some r := by rw [if_neg (show ¬ (false = true) by decide)] at H; exact H
    clear H
    have H := H1
    clear H1
    replace H := Option.bind_eq_some_iff.mp H
    obtain ⟨⟨t530, t533, t534, t537⟩, A190, H⟩ := H
    replace H : ((replace_Refusal.f t530 t533 t534 t537 a1).bind fun bt540 => (if a1 ≥ 0 then (if a1 < (l0_2.length : Int) then (if a1 < (l0_0.length : Int) then ((w_ours.f l0_0 a0_1 l0_2 l0_3).bind fun bt547 => ((replace_Refutes.f bt547.1 bt547.2.1 bt547.2.2.1 bt547.2.2.2 a1 l2 l3).bind fun t557 => ((r_Refutes.f kj4 l0_0 a0_1 l0_2 l0_3 a1 l2 l3).bind fun t558 => (w_ReplaceRefuses.j1 kj4 a1 bt540.1 bt540.2.1 bt540.2.2 (t557 != t558) l0_0 a0_1 l0_2 l0_3)))) else (w_ReplaceRefuses.j1 kj4 a1 bt540.1 bt540.2.1 bt540.2.2 false l0_0 a0_1 l0_2 l0_3)) else (w_ReplaceRefuses.j1 kj4 a1 bt540.1 bt540.2.1 bt540.2.2 false l0_0 a0_1 l0_2 l0_3)) else (w_ReplaceRefuses.j1 kj4 a1 bt540.1 bt540.2.1 bt540.2.2 false l0_0 a0_1 l0_2 l0_3))) = some r := H
    have A19 := am A190
    clear A190
    replace H := Option.bind_eq_some_iff.mp H
    obtain ⟨⟨t540, t543, t546⟩, A200, H⟩ := H
    replace H : (if a1 ≥ 0 then (if a1 < (l0_2.length : Int) then (if a1 < (l0_0.length : Int) then ((w_ours.f l0_0 a0_1 l0_2 l0_3).bind fun bt547 => ((replace_Refutes.f bt547.1 bt547.2.1 bt547.2.2.1 bt547.2.2.2 a1 l2 l3).bind fun t557 => ((r_Refutes.f kj4 l0_0 a0_1 l0_2 l0_3 a1 l2 l3).bind fun t558 => (w_ReplaceRefuses.j1 kj4 a1 t540 t543 t546 (t557 != t558) l0_0 a0_1 l0_2 l0_3)))) else (w_ReplaceRefuses.j1 kj4 a1 t540 t543 t546 false l0_0 a0_1 l0_2 l0_3)) else (w_ReplaceRefuses.j1 kj4 a1 t540 t543 t546 false l0_0 a0_1 l0_2 l0_3)) else (w_ReplaceRefuses.j1 kj4 a1 t540 t543 t546 false l0_0 a0_1 l0_2 l0_3)) = some r := H
    have A20 := am A200
    clear A200
    have HC21 := am H
    clear H
    have := yC1 BK527
    have := kC1 BK527
    have := kC2 BK527
    have := kC3 BK527
    have := bf BK527.out 0
    have := bf BK527.out 1
    have := bf BK527.out 2
    have := bf BK527.out 3
    go_upto_region 4 with (first | ((with_reducible refine gc (f := 13) rfl ?_); refine goesL_ (some 31) rfl rfl Try.func13 (by kernel_rfl) rfl #[.agg #[.slice A0_0 l0_0.length c0_0, .int .i64 a0_1, .slice A0_2 l0_2.length c0_2, .slice A0_3 l0_3.length c0_3]] rfl (by (try simp only [pml]); first | done | rfl | (simp only [pdt]; rfl)) ?_; (with_reducible refine (w_ours.calls (fun k_ => k_ < w.heap.size) _ _ l0_0 a0_1 (fun k_ => k_ < w.heap.size) _ _ l0_2 (fun k_ => k_ < w.heap.size) _ _ l0_3 t530 t533 t534 t537 _ ?side1 ?side2 ?side3 A19.out).mono ?_); (case side1 => exact Kd.V_mk HC0_0.out (Kd.F_below (Kd.C_F (Kd.heap_slice 3 (Kd.heap_int .i64)) HR0_0.out) (fW HB.out))); (case side2 => exact Kd.V_mk HC0_2.out (Kd.F_below (Kd.C_F (Kd.heap_int .i64) HR0_2.out) (fW HB.out))); (case side3 => exact Kd.V_mk HC0_3.out (Kd.F_below (Kd.C_F Kd.heap_bool HR0_3.out) (fW HB.out))); rintro e w23 ⟨v531, v535, v538, rfl, ho0, ho1, ho2, hb⟩; refine ⟨_, rfl, ?_⟩; have HO532 := am (Kd.V_lower (Kd.V_mono (ok' := fun k_ => k_ ≠ gb527) ho0 (fun k_ hk_ => Or.elim hk_ (fun hs_ => Or.elim hs_ (fun hs_ => fun e_ => Nat.not_le.2 hs_ (by rw [e_]; exact GW527.out)) (fun hs_ => Or.elim hs_ (fun hs_ => fun e_ => Nat.not_le.2 hs_ (by rw [e_]; exact GW527.out)) (fun hs_ => fun e_ => Nat.not_le.2 hs_ (by rw [e_]; exact GW527.out)))) (fun hn_ => (Kd.freshB (g := gb527) (o := .cells #[.slice A0_0 l0_0.length c0_0, .int .i64 a0_1, .slice A0_2 l0_2.length c0_2, .slice A0_3 l0_3.length c0_3] 26 (0, 0)) (fb BK527.out) k_ hn_)))) (wz (fW HB.out))); have HO536 := am (Kd.V_lower (Kd.V_mono (ok' := fun k_ => k_ ≠ gb527) ho1 (fun k_ hk_ => Or.elim hk_ (fun hs_ => Or.elim hs_ (fun hs_ => fun e_ => Nat.not_le.2 hs_ (by rw [e_]; exact GW527.out)) (fun hs_ => Or.elim hs_ (fun hs_ => fun e_ => Nat.not_le.2 hs_ (by rw [e_]; exact GW527.out)) (fun hs_ => fun e_ => Nat.not_le.2 hs_ (by rw [e_]; exact GW527.out)))) (fun hn_ => (Kd.freshB (g := gb527) (o := .cells #[.slice A0_0 l0_0.length c0_0, .int .i64 a0_1, .slice A0_2 l0_2.length c0_2, .slice A0_3 l0_3.length c0_3] 26 (0, 0)) (fb BK527.out) k_ hn_)))) (wz (fW HB.out))); have HO539 := am (Kd.V_lower (Kd.V_mono (ok' := fun k_ => k_ ≠ gb527) ho2 (fun k_ hk_ => Or.elim hk_ (fun hs_ => Or.elim hs_ (fun hs_ => fun e_ => Nat.not_le.2 hs_ (by rw [e_]; exact GW527.out)) (fun hs_ => Or.elim hs_ (fun hs_ => fun e_ => Nat.not_le.2 hs_ (by rw [e_]; exact GW527.out)) (fun hs_ => fun e_ => Nat.not_le.2 hs_ (by rw [e_]; exact GW527.out)))) (fun hn_ => (Kd.freshB (g := gb527) (o := .cells #[.slice A0_0 l0_0.length c0_0, .int .i64 a0_1, .slice A0_2 l0_2.length c0_2, .slice A0_3 l0_3.length c0_3] 26 (0, 0)) (fb BK527.out) k_ hn_)))) (wz (fW HB.out))); replace BK527 := bB BK527 hb; replace HB := bS HB hb; (try clear hb); (try clear hb2); (try clear hk); (try clear hi); (try clear ho0); (try clear ho1); (try clear ho2); obtain ⟨Ao24, co24, eo24⟩ := Kd.V_slice HO532.out; subst eo24; obtain ⟨Ao25, co25, eo25⟩ := Kd.V_slice HO536.out; subst eo25; obtain ⟨Ao26, co26, eo26⟩ := Kd.V_slice HO539.out; subst eo26) | ((with_reducible refine gc (f := 18) rfl ?_); refine goesL_ (some 33) rfl rfl Try.func18 (by kernel_rfl) rfl #[.agg #[.slice Ao24 t530.length co24, .int .i64 t533, .slice Ao25 t534.length co25, .slice Ao26 t537.length co26], .int .i64 a1] rfl (by (try simp only [pml]); first | done | rfl | (simp only [pdt]; rfl)) ?_; (with_reducible refine (replace_Refusal.calls _ _ t530 t533 _ _ t534 _ _ t537 a1 t540 t543 t546 _ ?side1 ?side2 ?side3 ?side4 ?side5 ?side6 A20.out).mono ?_); (case side1 => repeat (first | exact (Kd.V_reads' HO532.out).2.2 | (with_reducible refine Kd.C_alloc ?_ _) | (with_reducible refine Kd.C_drewN ?_ _) | (with_reducible refine Kd.C_drew ?_))); (case side2 => exact (Kd.V_reads' HO532.out).2.1); (case side3 => repeat (first | exact (Kd.V_reads' HO536.out).2.2 | (with_reducible refine Kd.C_alloc ?_ _) | (with_reducible refine Kd.C_drewN ?_ _) | (with_reducible refine Kd.C_drew ?_))); (case side4 => exact (Kd.V_reads' HO536.out).2.1); (case side5 => repeat (first | exact (Kd.V_reads' HO539.out).2.2 | (with_reducible refine Kd.C_alloc ?_ _) | (with_reducible refine Kd.C_drewN ?_ _) | (with_reducible refine Kd.C_drew ?_))); (case side6 => exact (Kd.V_reads' HO539.out).2.1); rintro e w27 ⟨v541, v544, rfl, ho0, ho1, hb⟩; refine ⟨_, rfl, ?_⟩; replace HO532 := am (Kd.V_mono (Kd.V_told (Kd.V_told (Kd.V_old (fV HO532.out) hb) (Kd.R_base ho0)) (Kd.R_base ho1)) (fun _ h_ => h_.1)); replace HO536 := am (Kd.V_mono (Kd.V_told (Kd.V_told (Kd.V_old (fV HO536.out) hb) (Kd.R_base ho0)) (Kd.R_base ho1)) (fun _ h_ => h_.1)); replace HO539 := am (Kd.V_mono (Kd.V_told (Kd.V_told (Kd.V_old (fV HO539.out) hb) (Kd.R_base ho0)) (Kd.R_base ho1)) (fun _ h_ => h_.1)); have HO542 := am (Kd.R_lower ho0 (wz (fW HB.out))); have HO545 := am (Kd.R_lower ho1 (wz (fW HB.out))); replace BK527 := bB BK527 hb; replace HB := bS HB hb; (try clear hb); (try clear hb2); (try clear hk); (try clear hi); (try clear ho0); (try clear ho1)))
    (try simp only [Act.put, psl])
    go_cut [66] (fun v66 wc => ∃ (kq : Nat) (x66_20 : Bool), v66 = .bool x66_20 ∧ Aside0 (w_ReplaceRefuses.j1 kq a1 t540 t543 t546 x66_20 l0_0 a0_1 l0_2 l0_3 = some r) ∧ Aside0 (kq ≤ kj4) ∧ Aside0 (Kd.R (Kd.int .i64) 3 wc w.heap.size (fun k_ => some k_ ≠ (v544 : Value).ownBlock) v541 t540) ∧ Aside0 (Kd.R (Kd.int .i64) 3 wc w.heap.size (fun k_ => some k_ ≠ (v541 : Value).ownBlock) v544 t543) ∧ Aside0 (wc.heap[gb527]? = some (.cells #[(.slice A0_0 l0_0.length c0_0), .int .i64 a0_1, (.slice A0_2 l0_2.length c0_2), (.slice A0_3 l0_3.length c0_3)] 26 (0, 0))) ∧ Aside0 (Below w.heap.size w wc))
    case first =>
     have H := HC21.out
     clear HC21
     by_cases c28 : a1 ≥ 0
     rotate_left
     ·rw [if_neg c28] at H
      have c28b0 : decide (0 ≤ a1) = false := decide_eq_false c28
      clear c28
      (first | rw [c28b0] | (simp only [i64_w, i32_w]; rw [c28b0]) | skip)
      have H' := am H
      clear H
      try go_wp2
      have n0_ := am (Kd.V_drew HO532.out)
      have n1_ := am (Kd.V_drew HO536.out)
      have n2_ := am (Kd.V_drew HO539.out)
      have n3_ := am (Kd.R_drew HO542.out)
      have n4_ := am (Kd.R_drew HO545.out)
      have n5_ := am (blk_drew BK527.out)
      have n6_ := am (below_drew1 HB.out)
      clear HO532 HO536 HO539 HO542 HO545 BK527 HB
      have HO532 := n0_
      have HO536 := n1_
      have HO539 := n2_
      have HO542 := n3_
      have HO545 := n4_
      have BK527 := n5_
      have HB := n6_
      clear n0_ n1_ n2_ n3_ n4_ n5_ n6_
      refine start_ (n := 30) (S := fun w' => True) (ds := []) #[F,F,F,F,F,F,F,F,F,F,F,F,F,F,F,F,F,F,F,F,F,F,F,F,F,F,F,F,F,F] (by kernel_rfl) rfl rfl trivial (fun hHeld => ?_); refine with_tabW w_ReplaceRefuses.tab4 w_ReplaceRefuses.bits4 (fun HT_ HW_ => ?_)
      generalize w27.drew = w43 at HO532 HO536 HO539 HO542 HO545 BK527 HB hHeld ⊢
      refine pu (i := 0) (N := some 37) (fl 30 1 []) HT_ ?_
      refine pu (i := 1) (N := some 38) (fl 30 2 []) HT_ ?_
      refine pu (i := 2) (N := some 39) (fl 30 3 []) HT_ ?_
      refine pure_ (i := 3) (N := some 40) (v := undef) (a' := ?_) #[T,T,T,T,F,F,F,F,F,F,F,F,F,F,F,F,F,F,F,F,F,F,F,F,F,F,F,F,F,F] rfl rfl (any_of HT_.out (by kernel_rfl)) (fun _ _ _ h => h) (Or.inr ⟨by rfl, rfl⟩) ?_ ?_
      rotate_left
      ·simp only [Act.put, psl, i64_w, i32_w]
       rfl
      refine pure_ (i := 4) (N := some 41) (v := undef) (a' := ?_) #[T,T,T,T,T,F,F,F,F,F,F,F,F,F,F,F,F,F,F,F,F,F,F,F,F,F,F,F,F,F] rfl rfl (any_of HT_.out (by kernel_rfl)) (fun _ _ _ h => h) (Or.inr ⟨by rfl, rfl⟩) ?_ ?_
      rotate_left
      ·simp only [Act.put, psl, i64_w, i32_w]
       rfl
      refine pure_ (i := 5) (N := some 42) (v := undef) (a' := ?_) #[T,T,T,T,T,T,F,F,F,F,F,F,F,F,F,F,F,F,F,F,F,F,F,F,F,F,F,F,F,F] rfl rfl (any_of HT_.out (by kernel_rfl)) (fun _ _ _ h => h) (Or.inr ⟨by rfl, rfl⟩) ?_ ?_
      rotate_left
      ·simp only [Act.put, psl, i64_w, i32_w]
       rfl
      refine pure_ (i := 6) (N := some 43) (v := undef) (a' := ?_) #[T,T,T,T,T,T,T,F,F,F,F,F,F,F,F,F,F,F,F,F,F,F,F,F,F,F,F,F,F,F] rfl rfl (any_of HT_.out (by kernel_rfl)) (fun _ _ _ h => h) (Or.inr ⟨by rfl, rfl⟩) ?_ ?_
      rotate_left
      ·simp only [Act.put, psl, i64_w, i32_w]
       rfl
      refine pure_ (i := 7) (N := some 44) (v := undef) (a' := ?_) #[T,T,T,T,T,T,T,T,F,F,F,F,F,F,F,F,F,F,F,F,F,F,F,F,F,F,F,F,F,F] rfl rfl (any_of HT_.out (by kernel_rfl)) (fun _ _ _ h => h) (Or.inr ⟨by rfl, rfl⟩) ?_ ?_
      rotate_left
      ·simp only [Act.put, psl, i64_w, i32_w]
       rfl
      refine pu (i := 8) (N := some 45) (fl 30 9 []) HT_ ?_
      refine pu (i := 9) (N := some 46) (fl 30 10 []) HT_ ?_
      refine pure_ (i := 10) (N := some 47) (v := undef) (a' := ?_) #[T,T,T,T,T,T,T,T,T,T,T,F,F,F,F,F,F,F,F,F,F,F,F,F,F,F,F,F,F,F] rfl rfl (any_of HT_.out (by kernel_rfl)) (fun _ _ _ h => h) (Or.inr ⟨by rfl, rfl⟩) ?_ ?_
      rotate_left
      ·simp only [Act.put, psl, i64_w, i32_w]
       rfl
      refine pure_ (i := 11) (N := some 48) (v := undef) (a' := ?_) #[T,T,T,T,T,T,T,T,T,T,T,T,F,F,F,F,F,F,F,F,F,F,F,F,F,F,F,F,F,F] rfl rfl (any_of HT_.out (by kernel_rfl)) (fun _ _ _ h => h) (Or.inr ⟨by rfl, rfl⟩) ?_ ?_
      rotate_left
      ·simp only [Act.put, psl, i64_w, i32_w]
       rfl
      refine pure_ (i := 12) (N := some 49) (v := undef) (a' := ?_) #[T,T,T,T,T,T,T,T,T,T,T,T,T,F,F,F,F,F,F,F,F,F,F,F,F,F,F,F,F,F] rfl rfl (any_of HT_.out (by kernel_rfl)) (fun _ _ _ h => h) (Or.inr ⟨by rfl, rfl⟩) ?_ ?_
      rotate_left
      ·simp only [Act.put, psl, i64_w, i32_w]
       rfl
      refine pure_ (i := 13) (N := some 50) (v := undef) (a' := ?_) #[T,T,T,T,T,T,T,T,T,T,T,T,T,T,F,F,F,F,F,F,F,F,F,F,F,F,F,F,F,F] rfl rfl (any_of HT_.out (by kernel_rfl)) (fun _ _ _ h => h) (Or.inr ⟨by rfl, rfl⟩) ?_ ?_
      rotate_left
      ·simp only [Act.put, psl, i64_w, i32_w]
       rfl
      refine pure_ (i := 14) (N := some 51) (v := undef) (a' := ?_) #[T,T,T,T,T,T,T,T,T,T,T,T,T,T,T,F,F,F,F,F,F,F,F,F,F,F,F,F,F,F] rfl rfl (any_of HT_.out (by kernel_rfl)) (fun _ _ _ h => h) (Or.inr ⟨by rfl, rfl⟩) ?_ ?_
      rotate_left
      ·simp only [Act.put, psl, i64_w, i32_w]
       rfl
      refine pu (i := 15) (N := some 52) (fl 30 16 []) HT_ ?_
      refine pu (i := 16) (N := some 53) (fl 30 17 []) HT_ ?_
      refine pure_ (i := 17) (N := some 54) (v := undef) (a' := ?_) #[T,T,T,T,T,T,T,T,T,T,T,T,T,T,T,T,T,T,F,F,F,F,F,F,F,F,F,F,F,F] rfl rfl (any_of HT_.out (by kernel_rfl)) (fun _ _ _ h => h) (Or.inr ⟨by rfl, rfl⟩) ?_ ?_
      rotate_left
      ·simp only [Act.put, psl, i64_w, i32_w]
       rfl
      refine pure_ (i := 18) (N := some 55) (v := undef) (a' := ?_) #[T,T,T,T,T,T,T,T,T,T,T,T,T,T,T,T,T,T,T,F,F,F,F,F,F,F,F,F,F,F] rfl rfl (any_of HT_.out (by kernel_rfl)) (fun _ _ _ h => h) (Or.inr ⟨by rfl, rfl⟩) ?_ ?_
      rotate_left
      ·simp only [Act.put, psl, i64_w, i32_w]
       rfl
      refine pure_ (i := 19) (N := some 56) (v := undef) (a' := ?_) #[T,T,T,T,T,T,T,T,T,T,T,T,T,T,T,T,T,T,T,T,F,F,F,F,F,F,F,F,F,F] rfl rfl (any_of HT_.out (by kernel_rfl)) (fun _ _ _ h => h) (Or.inr ⟨by rfl, rfl⟩) ?_ ?_
      rotate_left
      ·simp only [Act.put, psl, i64_w, i32_w]
       rfl
      refine pure_ (i := 20) (N := some 57) (v := undef) (a' := ?_) #[T,T,T,T,T,T,T,T,T,T,T,T,T,T,T,T,T,T,T,T,T,F,F,F,F,F,F,F,F,F] rfl rfl (any_of HT_.out (by kernel_rfl)) (fun _ _ _ h => h) (Or.inr ⟨by rfl, rfl⟩) ?_ ?_
      rotate_left
      ·simp only [Act.put, psl, i64_w, i32_w]
       rfl
      refine pure_ (i := 21) (N := some 58) (v := undef) (a' := ?_) #[T,T,T,T,T,T,T,T,T,T,T,T,T,T,T,T,T,T,T,T,T,T,F,F,F,F,F,F,F,F] rfl rfl (any_of HT_.out (by kernel_rfl)) (fun _ _ _ h => h) (Or.inr ⟨by rfl, rfl⟩) ?_ ?_
      rotate_left
      ·simp only [Act.put, psl, i64_w, i32_w]
       rfl
      refine pure_ (i := 22) (N := some 59) (v := undef) (a' := ?_) #[T,T,T,T,T,T,T,T,T,T,T,T,T,T,T,T,T,T,T,T,T,T,T,F,F,F,F,F,F,F] rfl rfl (any_of HT_.out (by kernel_rfl)) (fun _ _ _ h => h) (Or.inr ⟨by rfl, rfl⟩) ?_ ?_
      rotate_left
      ·simp only [Act.put, psl, i64_w, i32_w]
       rfl
      refine pure_ (i := 23) (N := some 60) (v := undef) (a' := ?_) #[T,T,T,T,T,T,T,T,T,T,T,T,T,T,T,T,T,T,T,T,T,T,T,T,F,F,F,F,F,F] rfl rfl (any_of HT_.out (by kernel_rfl)) (fun _ _ _ h => h) (Or.inr ⟨by rfl, rfl⟩) ?_ ?_
      rotate_left
      ·simp only [Act.put, psl, i64_w, i32_w]
       rfl
      refine pure_ (i := 24) (N := some 61) (v := undef) (a' := ?_) #[T,T,T,T,T,T,T,T,T,T,T,T,T,T,T,T,T,T,T,T,T,T,T,T,T,F,F,F,F,F] rfl rfl (any_of HT_.out (by kernel_rfl)) (fun _ _ _ h => h) (Or.inr ⟨by rfl, rfl⟩) ?_ ?_
      rotate_left
      ·simp only [Act.put, psl, i64_w, i32_w]
       rfl
      refine pure_ (i := 25) (N := some 62) (v := undef) (a' := ?_) #[T,T,T,T,T,T,T,T,T,T,T,T,T,T,T,T,T,T,T,T,T,T,T,T,T,T,F,F,F,F] rfl rfl (any_of HT_.out (by kernel_rfl)) (fun _ _ _ h => h) (Or.inr ⟨by rfl, rfl⟩) ?_ ?_
      rotate_left
      ·simp only [Act.put, psl, i64_w, i32_w]
       rfl
      refine pure_ (i := 26) (N := some 63) (v := undef) (a' := ?_) #[T,T,T,T,T,T,T,T,T,T,T,T,T,T,T,T,T,T,T,T,T,T,T,T,T,T,T,F,F,F] rfl rfl (any_of HT_.out (by kernel_rfl)) (fun _ _ _ h => h) (Or.inr ⟨by rfl, rfl⟩) ?_ ?_
      rotate_left
      ·simp only [Act.put, psl, i64_w, i32_w]
       rfl
      refine pure_ (i := 27) (N := some 64) (v := undef) (a' := ?_) #[T,T,T,T,T,T,T,T,T,T,T,T,T,T,T,T,T,T,T,T,T,T,T,T,T,T,T,T,F,F] rfl rfl (any_of HT_.out (by kernel_rfl)) (fun _ _ _ h => h) (Or.inr ⟨by rfl, rfl⟩) ?_ ?_
      rotate_left
      ·simp only [Act.put, psl, i64_w, i32_w]
       rfl
      refine pure_ (i := 28) (N := some 65) (v := undef) (a' := ?_) #[T,T,T,T,T,T,T,T,T,T,T,T,T,T,T,T,T,T,T,T,T,T,T,T,T,T,T,T,T,F] rfl rfl (any_of HT_.out (by kernel_rfl)) (fun _ _ _ h => h) (Or.inr ⟨by rfl, rfl⟩) ?_ ?_
      rotate_left
      ·simp only [Act.put, psl, i64_w, i32_w]
       rfl
      refine pu (i := 29) (N := some 66) (fl 30 30 []) HT_ ?_
      refine done_ (done_of HT_.out (by kernel_rfl)) ?_
      try go_wp2
      go_meet
      case rel => exact ⟨_, (false), sqD, H', ⟨by have := HJ4.out; first | omega | exact Nat.le_refl _⟩, ⟨fR HO542.out⟩, ⟨fR HO545.out⟩, ⟨fb BK527.out⟩, ⟨fW HB.out⟩⟩
     rw [if_pos c28] at H
     have c28b0 : decide (0 ≤ a1) = true := decide_eq_true c28
     clear c28
     (first | rw [c28b0] | (simp only [i64_w, i32_w]; rw [c28b0]) | skip)
     by_cases c29 : a1 < (l0_2.length : Int)
     rotate_left
     ·rw [if_neg c29] at H
      have c29b0 : decide (a1 < (l0_2.length : Int)) = false := decide_eq_false c29
      clear c29
      have H' := am H
      clear H
      try go_wp2
      have n0_ := am (Kd.V_drew HO532.out)
      have n1_ := am (Kd.V_drew HO536.out)
      have n2_ := am (Kd.V_drew HO539.out)
      have n3_ := am (Kd.R_drew HO542.out)
      have n4_ := am (Kd.R_drew HO545.out)
      have n5_ := am (blk_drew BK527.out)
      have n6_ := am (below_drew1 HB.out)
      clear HO532 HO536 HO539 HO542 HO545 BK527 HB
      have HO532 := n0_
      have HO536 := n1_
      have HO539 := n2_
      have HO542 := n3_
      have HO545 := n4_
      have BK527 := n5_
      have HB := n6_
      clear n0_ n1_ n2_ n3_ n4_ n5_ n6_
      refine start_ (n := 30) (S := fun w' => w'.cell? ⟨gb527, 0, none⟩ = some (.slice A0_0 l0_0.length c0_0) ∧ w'.cell? ⟨gb527, 1, none⟩ = some (.int .i64 a0_1) ∧ w'.cell? ⟨gb527, 2, none⟩ = some (.slice A0_2 l0_2.length c0_2) ∧ w'.cell? ⟨gb527, 3, none⟩ = some (.slice A0_3 l0_3.length c0_3)) (ds := []) #[F,F,F,F,F,F,F,F,F,F,F,F,F,F,F,F,F,F,F,F,F,F,F,F,F,F,F,F,F,F] (by kernel_rfl) rfl rfl ⟨(bc BK527.out 0).trans rfl, (bc BK527.out 1).trans rfl, (bc BK527.out 2).trans rfl, (bc BK527.out 3).trans rfl⟩ (fun hHeld => ?_); refine with_tabW w_ReplaceRefuses.tab4 w_ReplaceRefuses.bits4 (fun HT_ HW_ => ?_)
      generalize w27.drew = w42 at HO532 HO536 HO539 HO542 HO545 BK527 HB hHeld ⊢
      refine pu (i := 0) (N := some 37) (fl 30 1 []) HT_ ?_
      refine pu (i := 1) (N := some 38) (fl 30 2 []) HT_ ?_
      refine pu (i := 2) (N := some 39) (fl 30 3 []) HT_ ?_
      refine pu (i := 3) (N := some 40) (fl 30 4 []) HT_ ?_
      refine pu (i := 4) (N := some 41) (fl 30 5 []) HT_ ?_
      refine tk (i := 5) (N := some 42) (fl 30 6 []) HT_ HW_ hHeld ?_
      refine pu (i := 6) (N := some 43) (fl 30 7 []) HT_ ?_
      refine pu (i := 7) (N := some 44) (fl 30 8 []) HT_ ?_
      refine pu (i := 8) (N := some 45) (fl 30 9 []) HT_ ?_
      refine pu (i := 9) (N := some 46) (fl 30 10 []) HT_ ?_
      refine pure_ (i := 10) (N := some 47) (v := undef) (a' := ?_) #[T,T,T,T,T,T,T,T,T,T,T,F,F,F,F,F,F,F,F,F,F,F,F,F,F,F,F,F,F,F] rfl rfl (any_of HT_.out (by kernel_rfl)) (fun _ _ _ h => h) (Or.inr ⟨by rfl, rfl⟩) ?_ ?_
      rotate_left
      ·simp only [Act.put, psl, i64_w, i32_w]
       rfl
      refine pure_ (i := 11) (N := some 48) (v := undef) (a' := ?_) #[T,T,T,T,T,T,T,T,T,T,T,T,F,F,F,F,F,F,F,F,F,F,F,F,F,F,F,F,F,F] rfl rfl (any_of HT_.out (by kernel_rfl)) (fun _ _ _ h => h) (Or.inr ⟨by rfl, rfl⟩) ?_ ?_
      rotate_left
      ·simp only [Act.put, psl, i64_w, i32_w]
       rfl
      refine pure_ (i := 12) (N := some 49) (v := undef) (a' := ?_) #[T,T,T,T,T,T,T,T,T,T,T,T,T,F,F,F,F,F,F,F,F,F,F,F,F,F,F,F,F,F] rfl rfl (any_of HT_.out (by kernel_rfl)) (fun _ _ _ h => h) (Or.inr ⟨by rfl, rfl⟩) ?_ ?_
      rotate_left
      ·simp only [Act.put, psl, i64_w, i32_w]
       rfl
      refine pure_ (i := 13) (N := some 50) (v := undef) (a' := ?_) #[T,T,T,T,T,T,T,T,T,T,T,T,T,T,F,F,F,F,F,F,F,F,F,F,F,F,F,F,F,F] rfl rfl (any_of HT_.out (by kernel_rfl)) (fun _ _ _ h => h) (Or.inr ⟨by rfl, rfl⟩) ?_ ?_
      rotate_left
      ·simp only [Act.put, psl, i64_w, i32_w]
       rfl
      refine pure_ (i := 14) (N := some 51) (v := undef) (a' := ?_) #[T,T,T,T,T,T,T,T,T,T,T,T,T,T,T,F,F,F,F,F,F,F,F,F,F,F,F,F,F,F] rfl rfl (any_of HT_.out (by kernel_rfl)) (fun _ _ _ h => h) (Or.inr ⟨by rfl, rfl⟩) ?_ ?_
      rotate_left
      ·simp only [Act.put, psl, i64_w, i32_w]
       rfl
      refine pu (i := 15) (N := some 52) (fl 30 16 []) HT_ ?_
      refine pu (i := 16) (N := some 53) (fl 30 17 []) HT_ ?_
      refine pure_ (i := 17) (N := some 54) (v := undef) (a' := ?_) #[T,T,T,T,T,T,T,T,T,T,T,T,T,T,T,T,T,T,F,F,F,F,F,F,F,F,F,F,F,F] rfl rfl (any_of HT_.out (by kernel_rfl)) (fun _ _ _ h => h) (Or.inr ⟨by rfl, rfl⟩) ?_ ?_
      rotate_left
      ·simp only [Act.put, psl, i64_w, i32_w]
       rfl
      refine pure_ (i := 18) (N := some 55) (v := undef) (a' := ?_) #[T,T,T,T,T,T,T,T,T,T,T,T,T,T,T,T,T,T,T,F,F,F,F,F,F,F,F,F,F,F] rfl rfl (any_of HT_.out (by kernel_rfl)) (fun _ _ _ h => h) (Or.inr ⟨by rfl, rfl⟩) ?_ ?_
      rotate_left
      ·simp only [Act.put, psl, i64_w, i32_w]
       rfl
      refine pure_ (i := 19) (N := some 56) (v := undef) (a' := ?_) #[T,T,T,T,T,T,T,T,T,T,T,T,T,T,T,T,T,T,T,T,F,F,F,F,F,F,F,F,F,F] rfl rfl (any_of HT_.out (by kernel_rfl)) (fun _ _ _ h => h) (Or.inr ⟨by rfl, rfl⟩) ?_ ?_
      rotate_left
      ·simp only [Act.put, psl, i64_w, i32_w]
       rfl
      refine pure_ (i := 20) (N := some 57) (v := undef) (a' := ?_) #[T,T,T,T,T,T,T,T,T,T,T,T,T,T,T,T,T,T,T,T,T,F,F,F,F,F,F,F,F,F] rfl rfl (any_of HT_.out (by kernel_rfl)) (fun _ _ _ h => h) (Or.inr ⟨by rfl, rfl⟩) ?_ ?_
      rotate_left
      ·simp only [Act.put, psl, i64_w, i32_w]
       rfl
      refine pure_ (i := 21) (N := some 58) (v := undef) (a' := ?_) #[T,T,T,T,T,T,T,T,T,T,T,T,T,T,T,T,T,T,T,T,T,T,F,F,F,F,F,F,F,F] rfl rfl (any_of HT_.out (by kernel_rfl)) (fun _ _ _ h => h) (Or.inr ⟨by rfl, rfl⟩) ?_ ?_
      rotate_left
      ·simp only [Act.put, psl, i64_w, i32_w]
       rfl
      refine pure_ (i := 22) (N := some 59) (v := undef) (a' := ?_) #[T,T,T,T,T,T,T,T,T,T,T,T,T,T,T,T,T,T,T,T,T,T,T,F,F,F,F,F,F,F] rfl rfl (any_of HT_.out (by kernel_rfl)) (fun _ _ _ h => h) (Or.inr ⟨by rfl, rfl⟩) ?_ ?_
      rotate_left
      ·simp only [Act.put, psl, i64_w, i32_w]
       rfl
      refine pure_ (i := 23) (N := some 60) (v := undef) (a' := ?_) #[T,T,T,T,T,T,T,T,T,T,T,T,T,T,T,T,T,T,T,T,T,T,T,T,F,F,F,F,F,F] rfl rfl (any_of HT_.out (by kernel_rfl)) (fun _ _ _ h => h) (Or.inr ⟨by rfl, rfl⟩) ?_ ?_
      rotate_left
      ·simp only [Act.put, psl, i64_w, i32_w]
       rfl
      refine pure_ (i := 24) (N := some 61) (v := undef) (a' := ?_) #[T,T,T,T,T,T,T,T,T,T,T,T,T,T,T,T,T,T,T,T,T,T,T,T,T,F,F,F,F,F] rfl rfl (any_of HT_.out (by kernel_rfl)) (fun _ _ _ h => h) (Or.inr ⟨by rfl, rfl⟩) ?_ ?_
      rotate_left
      ·simp only [Act.put, psl, i64_w, i32_w]
       rfl
      refine pure_ (i := 25) (N := some 62) (v := undef) (a' := ?_) #[T,T,T,T,T,T,T,T,T,T,T,T,T,T,T,T,T,T,T,T,T,T,T,T,T,T,F,F,F,F] rfl rfl (any_of HT_.out (by kernel_rfl)) (fun _ _ _ h => h) (Or.inr ⟨by rfl, rfl⟩) ?_ ?_
      rotate_left
      ·simp only [Act.put, psl, i64_w, i32_w]
       rfl
      refine pure_ (i := 26) (N := some 63) (v := undef) (a' := ?_) #[T,T,T,T,T,T,T,T,T,T,T,T,T,T,T,T,T,T,T,T,T,T,T,T,T,T,T,F,F,F] rfl rfl (any_of HT_.out (by kernel_rfl)) (fun _ _ _ h => h) (Or.inr ⟨by rfl, rfl⟩) ?_ ?_
      rotate_left
      ·simp only [Act.put, psl, i64_w, i32_w]
       rfl
      refine pure_ (i := 27) (N := some 64) (v := undef) (a' := ?_) #[T,T,T,T,T,T,T,T,T,T,T,T,T,T,T,T,T,T,T,T,T,T,T,T,T,T,T,T,F,F] rfl rfl (any_of HT_.out (by kernel_rfl)) (fun _ _ _ h => h) (Or.inr ⟨by rfl, rfl⟩) ?_ ?_
      rotate_left
      ·simp only [Act.put, psl, i64_w, i32_w]
       rfl
      refine pure_ (i := 28) (N := some 65) (v := undef) (a' := ?_) #[T,T,T,T,T,T,T,T,T,T,T,T,T,T,T,T,T,T,T,T,T,T,T,T,T,T,T,T,T,F] rfl rfl (any_of HT_.out (by kernel_rfl)) (fun _ _ _ h => h) (Or.inr ⟨by rfl, rfl⟩) ?_ ?_
      rotate_left
      ·simp only [Act.put, psl, i64_w, i32_w]
       rfl
      refine pu (i := 29) (N := some 66) (fl 30 30 []) HT_ ?_
      refine done_ (done_of HT_.out (by kernel_rfl)) ?_
      try go_wp2
      go_meet
      case rel => exact ⟨_, (false), sqD, H', ⟨by have := HJ4.out; first | omega | exact Nat.le_refl _⟩, ⟨fR HO542.out⟩, ⟨fR HO545.out⟩, ⟨fb BK527.out⟩, ⟨fW HB.out⟩⟩
     rw [if_pos c29] at H
     have c29b0 : decide (a1 < (l0_2.length : Int)) = true := decide_eq_true c29
     clear c29
     by_cases c30 : a1 < (l0_0.length : Int)
     rotate_left
     ·rw [if_neg c30] at H
      have c30b0 : decide (a1 < (l0_0.length : Int)) = false := decide_eq_false c30
      clear c30
      have H' := am H
      clear H
      try go_wp2
      have n0_ := am (Kd.V_drew HO532.out)
      have n1_ := am (Kd.V_drew HO536.out)
      have n2_ := am (Kd.V_drew HO539.out)
      have n3_ := am (Kd.R_drew HO542.out)
      have n4_ := am (Kd.R_drew HO545.out)
      have n5_ := am (blk_drew BK527.out)
      have n6_ := am (below_drew1 HB.out)
      clear HO532 HO536 HO539 HO542 HO545 BK527 HB
      have HO532 := n0_
      have HO536 := n1_
      have HO539 := n2_
      have HO542 := n3_
      have HO545 := n4_
      have BK527 := n5_
      have HB := n6_
      clear n0_ n1_ n2_ n3_ n4_ n5_ n6_
      refine start_ (n := 30) (S := fun w' => w'.cell? ⟨gb527, 0, none⟩ = some (.slice A0_0 l0_0.length c0_0) ∧ w'.cell? ⟨gb527, 1, none⟩ = some (.int .i64 a0_1) ∧ w'.cell? ⟨gb527, 2, none⟩ = some (.slice A0_2 l0_2.length c0_2) ∧ w'.cell? ⟨gb527, 3, none⟩ = some (.slice A0_3 l0_3.length c0_3)) (ds := []) #[F,F,F,F,F,F,F,F,F,F,F,F,F,F,F,F,F,F,F,F,F,F,F,F,F,F,F,F,F,F] (by kernel_rfl) rfl rfl ⟨(bc BK527.out 0).trans rfl, (bc BK527.out 1).trans rfl, (bc BK527.out 2).trans rfl, (bc BK527.out 3).trans rfl⟩ (fun hHeld => ?_); refine with_tabW w_ReplaceRefuses.tab4 w_ReplaceRefuses.bits4 (fun HT_ HW_ => ?_)
      generalize w27.drew = w41 at HO532 HO536 HO539 HO542 HO545 BK527 HB hHeld ⊢
      refine pu (i := 0) (N := some 37) (fl 30 1 []) HT_ ?_
      refine pu (i := 1) (N := some 38) (fl 30 2 []) HT_ ?_
      refine pu (i := 2) (N := some 39) (fl 30 3 []) HT_ ?_
      refine pu (i := 3) (N := some 40) (fl 30 4 []) HT_ ?_
      refine pu (i := 4) (N := some 41) (fl 30 5 []) HT_ ?_
      refine tk (i := 5) (N := some 42) (fl 30 6 []) HT_ HW_ hHeld ?_
      refine pu (i := 6) (N := some 43) (fl 30 7 []) HT_ ?_
      refine pu (i := 7) (N := some 44) (fl 30 8 []) HT_ ?_
      refine pu (i := 8) (N := some 45) (fl 30 9 []) HT_ ?_
      refine pu (i := 9) (N := some 46) (fl 30 10 []) HT_ ?_
      refine pu (i := 10) (N := some 47) (fl 30 11 []) HT_ ?_
      refine pu (i := 11) (N := some 48) (fl 30 12 []) HT_ ?_
      refine tk (i := 12) (N := some 49) (fl 30 13 []) HT_ HW_ hHeld ?_
      refine pu (i := 13) (N := some 50) (fl 30 14 []) HT_ ?_
      refine pu (i := 14) (N := some 51) (fl 30 15 []) HT_ ?_
      refine pu (i := 15) (N := some 52) (fl 30 16 []) HT_ ?_
      refine pu (i := 16) (N := some 53) (fl 30 17 []) HT_ ?_
      refine pure_ (i := 17) (N := some 54) (v := undef) (a' := ?_) #[T,T,T,T,T,T,T,T,T,T,T,T,T,T,T,T,T,T,F,F,F,F,F,F,F,F,F,F,F,F] rfl rfl (any_of HT_.out (by kernel_rfl)) (fun _ _ _ h => h) (Or.inr ⟨by rfl, rfl⟩) ?_ ?_
      rotate_left
      ·simp only [Act.put, psl, i64_w, i32_w]
       rfl
      refine pure_ (i := 18) (N := some 55) (v := undef) (a' := ?_) #[T,T,T,T,T,T,T,T,T,T,T,T,T,T,T,T,T,T,T,F,F,F,F,F,F,F,F,F,F,F] rfl rfl (any_of HT_.out (by kernel_rfl)) (fun _ _ _ h => h) (Or.inr ⟨by rfl, rfl⟩) ?_ ?_
      rotate_left
      ·simp only [Act.put, psl, i64_w, i32_w]
       rfl
      refine pure_ (i := 19) (N := some 56) (v := undef) (a' := ?_) #[T,T,T,T,T,T,T,T,T,T,T,T,T,T,T,T,T,T,T,T,F,F,F,F,F,F,F,F,F,F] rfl rfl (any_of HT_.out (by kernel_rfl)) (fun _ _ _ h => h) (Or.inr ⟨by rfl, rfl⟩) ?_ ?_
      rotate_left
      ·simp only [Act.put, psl, i64_w, i32_w]
       rfl
      refine pure_ (i := 20) (N := some 57) (v := undef) (a' := ?_) #[T,T,T,T,T,T,T,T,T,T,T,T,T,T,T,T,T,T,T,T,T,F,F,F,F,F,F,F,F,F] rfl rfl (any_of HT_.out (by kernel_rfl)) (fun _ _ _ h => h) (Or.inr ⟨by rfl, rfl⟩) ?_ ?_
      rotate_left
      ·simp only [Act.put, psl, i64_w, i32_w]
       rfl
      refine pure_ (i := 21) (N := some 58) (v := undef) (a' := ?_) #[T,T,T,T,T,T,T,T,T,T,T,T,T,T,T,T,T,T,T,T,T,T,F,F,F,F,F,F,F,F] rfl rfl (any_of HT_.out (by kernel_rfl)) (fun _ _ _ h => h) (Or.inr ⟨by rfl, rfl⟩) ?_ ?_
      rotate_left
      ·simp only [Act.put, psl, i64_w, i32_w]
       rfl
      refine pure_ (i := 22) (N := some 59) (v := undef) (a' := ?_) #[T,T,T,T,T,T,T,T,T,T,T,T,T,T,T,T,T,T,T,T,T,T,T,F,F,F,F,F,F,F] rfl rfl (any_of HT_.out (by kernel_rfl)) (fun _ _ _ h => h) (Or.inr ⟨by rfl, rfl⟩) ?_ ?_
      rotate_left
      ·simp only [Act.put, psl, i64_w, i32_w]
       rfl
      refine pure_ (i := 23) (N := some 60) (v := undef) (a' := ?_) #[T,T,T,T,T,T,T,T,T,T,T,T,T,T,T,T,T,T,T,T,T,T,T,T,F,F,F,F,F,F] rfl rfl (any_of HT_.out (by kernel_rfl)) (fun _ _ _ h => h) (Or.inr ⟨by rfl, rfl⟩) ?_ ?_
      rotate_left
      ·simp only [Act.put, psl, i64_w, i32_w]
       rfl
      refine pure_ (i := 24) (N := some 61) (v := undef) (a' := ?_) #[T,T,T,T,T,T,T,T,T,T,T,T,T,T,T,T,T,T,T,T,T,T,T,T,T,F,F,F,F,F] rfl rfl (any_of HT_.out (by kernel_rfl)) (fun _ _ _ h => h) (Or.inr ⟨by rfl, rfl⟩) ?_ ?_
      rotate_left
      ·simp only [Act.put, psl, i64_w, i32_w]
       rfl
      refine pure_ (i := 25) (N := some 62) (v := undef) (a' := ?_) #[T,T,T,T,T,T,T,T,T,T,T,T,T,T,T,T,T,T,T,T,T,T,T,T,T,T,F,F,F,F] rfl rfl (any_of HT_.out (by kernel_rfl)) (fun _ _ _ h => h) (Or.inr ⟨by rfl, rfl⟩) ?_ ?_
      rotate_left
      ·simp only [Act.put, psl, i64_w, i32_w]
       rfl
      refine pure_ (i := 26) (N := some 63) (v := undef) (a' := ?_) #[T,T,T,T,T,T,T,T,T,T,T,T,T,T,T,T,T,T,T,T,T,T,T,T,T,T,T,F,F,F] rfl rfl (any_of HT_.out (by kernel_rfl)) (fun _ _ _ h => h) (Or.inr ⟨by rfl, rfl⟩) ?_ ?_
      rotate_left
      ·simp only [Act.put, psl, i64_w, i32_w]
       rfl
      refine pure_ (i := 27) (N := some 64) (v := undef) (a' := ?_) #[T,T,T,T,T,T,T,T,T,T,T,T,T,T,T,T,T,T,T,T,T,T,T,T,T,T,T,T,F,F] rfl rfl (any_of HT_.out (by kernel_rfl)) (fun _ _ _ h => h) (Or.inr ⟨by rfl, rfl⟩) ?_ ?_
      rotate_left
      ·simp only [Act.put, psl, i64_w, i32_w]
       rfl
      refine pure_ (i := 28) (N := some 65) (v := undef) (a' := ?_) #[T,T,T,T,T,T,T,T,T,T,T,T,T,T,T,T,T,T,T,T,T,T,T,T,T,T,T,T,T,F] rfl rfl (any_of HT_.out (by kernel_rfl)) (fun _ _ _ h => h) (Or.inr ⟨by rfl, rfl⟩) ?_ ?_
      rotate_left
      ·simp only [Act.put, psl, i64_w, i32_w]
       rfl
      refine pu (i := 29) (N := some 66) (fl 30 30 []) HT_ ?_
      refine done_ (done_of HT_.out (by kernel_rfl)) ?_
      try go_wp2
      go_meet
      case rel => exact ⟨_, (false), sqD, H', ⟨by have := HJ4.out; first | omega | exact Nat.le_refl _⟩, ⟨fR HO542.out⟩, ⟨fR HO545.out⟩, ⟨fb BK527.out⟩, ⟨fW HB.out⟩⟩
     rw [if_pos c30] at H
     have c30b0 : decide (a1 < (l0_0.length : Int)) = true := decide_eq_true c30
     clear c30
     replace H := Option.bind_eq_some_iff.mp H
     obtain ⟨⟨t547, t550, t551, t554⟩, A310, H⟩ := H
     replace H : ((replace_Refutes.f t547 t550 t551 t554 a1 l2 l3).bind fun t557 => ((r_Refutes.f kj4 l0_0 a0_1 l0_2 l0_3 a1 l2 l3).bind fun t558 => (w_ReplaceRefuses.j1 kj4 a1 t540 t543 t546 (t557 != t558) l0_0 a0_1 l0_2 l0_3))) = some r := H
     have A31 := am A310
     clear A310
     replace H := Option.bind_eq_some_iff.mp H
     obtain ⟨t557, A320, H⟩ := H
     replace H : ((r_Refutes.f kj4 l0_0 a0_1 l0_2 l0_3 a1 l2 l3).bind fun t558 => (w_ReplaceRefuses.j1 kj4 a1 t540 t543 t546 (t557 != t558) l0_0 a0_1 l0_2 l0_3)) = some r := H
     have A32 := am A320
     clear A320
     replace H := Option.bind_eq_some_iff.mp H
     obtain ⟨t558, A330, H⟩ := H
     replace H : (w_ReplaceRefuses.j1 kj4 a1 t540 t543 t546 (t557 != t558) l0_0 a0_1 l0_2 l0_3) = some r := H
     have A33 := am A330
     clear A330
     have H' := am H
     clear H
     try go_wp2
     have n0_ := am (Kd.V_drew HO532.out)
     have n1_ := am (Kd.V_drew HO536.out)
     have n2_ := am (Kd.V_drew HO539.out)
     have n3_ := am (Kd.R_drew HO542.out)
     have n4_ := am (Kd.R_drew HO545.out)
     have n5_ := am (blk_drew BK527.out)
     have n6_ := am (below_drew1 HB.out)
     clear HO532 HO536 HO539 HO542 HO545 BK527 HB
     have HO532 := n0_
     have HO536 := n1_
     have HO539 := n2_
     have HO542 := n3_
     have HO545 := n4_
     have BK527 := n5_
     have HB := n6_
     clear n0_ n1_ n2_ n3_ n4_ n5_ n6_
     refine start_ (n := 30) (S := fun w' => w'.cell? ⟨gb527, 0, none⟩ = some (.slice A0_0 l0_0.length c0_0) ∧ w'.cell? ⟨gb527, 1, none⟩ = some (.int .i64 a0_1) ∧ w'.cell? ⟨gb527, 2, none⟩ = some (.slice A0_2 l0_2.length c0_2) ∧ w'.cell? ⟨gb527, 3, none⟩ = some (.slice A0_3 l0_3.length c0_3)) (ds := []) #[F,F,F,F,F,F,F,F,F,F,F,F,F,F,F,F,F,F,F,F,F,F,F,F,F,F,F,F,F,F] (by kernel_rfl) rfl rfl ⟨(bc BK527.out 0).trans rfl, (bc BK527.out 1).trans rfl, (bc BK527.out 2).trans rfl, (bc BK527.out 3).trans rfl⟩ (fun hHeld => ?_); refine with_tabW w_ReplaceRefuses.tab4 w_ReplaceRefuses.bits4 (fun HT_ HW_ => ?_)
     generalize w27.drew = w34 at HO532 HO536 HO539 HO542 HO545 BK527 HB hHeld ⊢
     refine pu (i := 0) (N := some 37) (fl 30 1 []) HT_ ?_
     refine pu (i := 1) (N := some 38) (fl 30 2 []) HT_ ?_
     refine pu (i := 2) (N := some 39) (fl 30 3 []) HT_ ?_
     refine pu (i := 3) (N := some 40) (fl 30 4 []) HT_ ?_
     refine pu (i := 4) (N := some 41) (fl 30 5 []) HT_ ?_
     refine tk (i := 5) (N := some 42) (fl 30 6 []) HT_ HW_ hHeld ?_
     refine pu (i := 6) (N := some 43) (fl 30 7 []) HT_ ?_
     refine pu (i := 7) (N := some 44) (fl 30 8 []) HT_ ?_
     refine pu (i := 8) (N := some 45) (fl 30 9 []) HT_ ?_
     refine pu (i := 9) (N := some 46) (fl 30 10 []) HT_ ?_
     refine pu (i := 10) (N := some 47) (fl 30 11 []) HT_ ?_
     refine pu (i := 11) (N := some 48) (fl 30 12 []) HT_ ?_
     refine tk (i := 12) (N := some 49) (fl 30 13 []) HT_ HW_ hHeld ?_
     refine pu (i := 13) (N := some 50) (fl 30 14 []) HT_ ?_
     refine pu (i := 14) (N := some 51) (fl 30 15 []) HT_ ?_
     refine pu (i := 15) (N := some 52) (fl 30 16 []) HT_ ?_
     refine pu (i := 16) (N := some 53) (fl 30 17 []) HT_ ?_
     refine pu (i := 19) (N := some 56) (fl 30 17 [19]) HT_ ?_
     refine pu (i := 20) (N := some 57) (fl 30 17 [19, 20]) HT_ ?_
     refine pu (i := 21) (N := some 58) (fl 30 17 [19, 20, 21]) HT_ ?_
     refine pu (i := 24) (N := some 61) (fl 30 17 [19, 20, 21, 24]) HT_ ?_
     refine pu (i := 25) (N := some 62) (fl 30 17 [19, 20, 21, 24, 25]) HT_ ?_
     refine pu (i := 26) (N := some 63) (fl 30 17 [19, 20, 21, 24, 25, 26]) HT_ ?_
     refine tk (i := 17) (N := some 54) (fl 30 18 [19, 20, 21, 24, 25, 26]) HT_ HW_ hHeld ?_
     refine tk (i := 23) (N := some 60) (fl 30 18 [19, 20, 21, 23, 24, 25, 26]) HT_ HW_ hHeld ?_
     refine one_ (i := 18) (N := some 55) (fl 30 22 [23, 24, 25, 26]) rfl rfl (one_of HT_.out (by kernel_rfl)) (by decide) (fun K hK => ?_)
     refine goes_ Try.func13 (by kernel_rfl) rfl #[.agg #[.slice A0_0 l0_0.length c0_0, .int .i64 a0_1, .slice A0_2 l0_2.length c0_2, .slice A0_3 l0_3.length c0_3]] (by rfl) rfl rfl (by (try simp only [pml]); first | done | rfl | (simp only [pdt]; rfl)) ?_
     with_reducible refine (w_ours.calls (fun k_ => k_ < w.heap.size) _ _ l0_0 a0_1 (fun k_ => k_ < w.heap.size) _ _ l0_2 (fun k_ => k_ < w.heap.size) _ _ l0_3 t547 t550 t551 t554 _ ?side1 ?side2 ?side3 A31.out).mono ?_
     (case side1 => exact Kd.V_mk HC0_0.out (Kd.F_below (Kd.C_F (Kd.heap_slice 3 (Kd.heap_int .i64)) HR0_0.out) (fW HB.out)))
     (case side2 => exact Kd.V_mk HC0_2.out (Kd.F_below (Kd.C_F (Kd.heap_int .i64) HR0_2.out) (fW HB.out)))
     (case side3 => exact Kd.V_mk HC0_3.out (Kd.F_below (Kd.C_F Kd.heap_bool HR0_3.out) (fW HB.out)))
     rintro e w35 ⟨v548, v552, v555, rfl, ho0, ho1, ho2, hb⟩
     refine ⟨_, rfl, ?_⟩
     have n0_ := dV HO532 hb
     have n1_ := dV HO536 hb
     have n2_ := dV HO539 hb
     have n3_ := dR HO542 hb
     have n4_ := dR HO545 hb
     have n5_ := am (Kd.V_lower (Kd.V_mono (ok' := fun k_ => some k_ ≠ (v541 : Value).ownBlock ∧ some k_ ≠ (v544 : Value).ownBlock ∧ k_ ≠ gb527) ho0 (fun k_ hk_ => ⟨Or.elim hk_ (fun hs_ => Or.elim hs_ (fun hs_ => fun e_ => Nat.not_le.2 hs_ (Kd.R_base HO542.out k_ e_.symm)) (fun hs_ => Or.elim hs_ (fun hs_ => fun e_ => Nat.not_le.2 hs_ (Kd.R_base HO542.out k_ e_.symm)) (fun hs_ => fun e_ => Nat.not_le.2 hs_ (Kd.R_base HO542.out k_ e_.symm)))) (fun hn_ => (Kd.fresh' (Kd.R_lt (fR HO542.out)) k_ hn_)), Or.elim hk_ (fun hs_ => Or.elim hs_ (fun hs_ => fun e_ => Nat.not_le.2 hs_ (Kd.R_base HO545.out k_ e_.symm)) (fun hs_ => Or.elim hs_ (fun hs_ => fun e_ => Nat.not_le.2 hs_ (Kd.R_base HO545.out k_ e_.symm)) (fun hs_ => fun e_ => Nat.not_le.2 hs_ (Kd.R_base HO545.out k_ e_.symm)))) (fun hn_ => (Kd.fresh' (Kd.R_lt (fR HO545.out)) k_ hn_)), Or.elim hk_ (fun hs_ => Or.elim hs_ (fun hs_ => fun e_ => Nat.not_le.2 hs_ (by rw [e_]; exact GW527.out)) (fun hs_ => Or.elim hs_ (fun hs_ => fun e_ => Nat.not_le.2 hs_ (by rw [e_]; exact GW527.out)) (fun hs_ => fun e_ => Nat.not_le.2 hs_ (by rw [e_]; exact GW527.out)))) (fun hn_ => (Kd.freshB (g := gb527) (o := .cells #[.slice A0_0 l0_0.length c0_0, .int .i64 a0_1, .slice A0_2 l0_2.length c0_2, .slice A0_3 l0_3.length c0_3] 26 (0, 0)) (fb BK527.out) k_ hn_))⟩)) (wz (fW HB.out)))
     have n6_ := am (Kd.V_lower (Kd.V_mono (ok' := fun k_ => some k_ ≠ (v541 : Value).ownBlock ∧ some k_ ≠ (v544 : Value).ownBlock ∧ k_ ≠ gb527) ho1 (fun k_ hk_ => ⟨Or.elim hk_ (fun hs_ => Or.elim hs_ (fun hs_ => fun e_ => Nat.not_le.2 hs_ (Kd.R_base HO542.out k_ e_.symm)) (fun hs_ => Or.elim hs_ (fun hs_ => fun e_ => Nat.not_le.2 hs_ (Kd.R_base HO542.out k_ e_.symm)) (fun hs_ => fun e_ => Nat.not_le.2 hs_ (Kd.R_base HO542.out k_ e_.symm)))) (fun hn_ => (Kd.fresh' (Kd.R_lt (fR HO542.out)) k_ hn_)), Or.elim hk_ (fun hs_ => Or.elim hs_ (fun hs_ => fun e_ => Nat.not_le.2 hs_ (Kd.R_base HO545.out k_ e_.symm)) (fun hs_ => Or.elim hs_ (fun hs_ => fun e_ => Nat.not_le.2 hs_ (Kd.R_base HO545.out k_ e_.symm)) (fun hs_ => fun e_ => Nat.not_le.2 hs_ (Kd.R_base HO545.out k_ e_.symm)))) (fun hn_ => (Kd.fresh' (Kd.R_lt (fR HO545.out)) k_ hn_)), Or.elim hk_ (fun hs_ => Or.elim hs_ (fun hs_ => fun e_ => Nat.not_le.2 hs_ (by rw [e_]; exact GW527.out)) (fun hs_ => Or.elim hs_ (fun hs_ => fun e_ => Nat.not_le.2 hs_ (by rw [e_]; exact GW527.out)) (fun hs_ => fun e_ => Nat.not_le.2 hs_ (by rw [e_]; exact GW527.out)))) (fun hn_ => (Kd.freshB (g := gb527) (o := .cells #[.slice A0_0 l0_0.length c0_0, .int .i64 a0_1, .slice A0_2 l0_2.length c0_2, .slice A0_3 l0_3.length c0_3] 26 (0, 0)) (fb BK527.out) k_ hn_))⟩)) (wz (fW HB.out)))
     have n7_ := am (Kd.V_lower (Kd.V_mono (ok' := fun k_ => some k_ ≠ (v541 : Value).ownBlock ∧ some k_ ≠ (v544 : Value).ownBlock ∧ k_ ≠ gb527) ho2 (fun k_ hk_ => ⟨Or.elim hk_ (fun hs_ => Or.elim hs_ (fun hs_ => fun e_ => Nat.not_le.2 hs_ (Kd.R_base HO542.out k_ e_.symm)) (fun hs_ => Or.elim hs_ (fun hs_ => fun e_ => Nat.not_le.2 hs_ (Kd.R_base HO542.out k_ e_.symm)) (fun hs_ => fun e_ => Nat.not_le.2 hs_ (Kd.R_base HO542.out k_ e_.symm)))) (fun hn_ => (Kd.fresh' (Kd.R_lt (fR HO542.out)) k_ hn_)), Or.elim hk_ (fun hs_ => Or.elim hs_ (fun hs_ => fun e_ => Nat.not_le.2 hs_ (Kd.R_base HO545.out k_ e_.symm)) (fun hs_ => Or.elim hs_ (fun hs_ => fun e_ => Nat.not_le.2 hs_ (Kd.R_base HO545.out k_ e_.symm)) (fun hs_ => fun e_ => Nat.not_le.2 hs_ (Kd.R_base HO545.out k_ e_.symm)))) (fun hn_ => (Kd.fresh' (Kd.R_lt (fR HO545.out)) k_ hn_)), Or.elim hk_ (fun hs_ => Or.elim hs_ (fun hs_ => fun e_ => Nat.not_le.2 hs_ (by rw [e_]; exact GW527.out)) (fun hs_ => Or.elim hs_ (fun hs_ => fun e_ => Nat.not_le.2 hs_ (by rw [e_]; exact GW527.out)) (fun hs_ => fun e_ => Nat.not_le.2 hs_ (by rw [e_]; exact GW527.out)))) (fun hn_ => (Kd.freshB (g := gb527) (o := .cells #[.slice A0_0 l0_0.length c0_0, .int .i64 a0_1, .slice A0_2 l0_2.length c0_2, .slice A0_3 l0_3.length c0_3] 26 (0, 0)) (fb BK527.out) k_ hn_))⟩)) (wz (fW HB.out)))
     have n8_ := bB BK527 hb
     have n9_ := bS HB hb
     clear HO532 HO536 HO539 HO542 HO545 BK527 HB
     have HO532 := n0_
     have HO536 := n1_
     have HO539 := n2_
     have HO542 := n3_
     have HO545 := n4_
     have HO549 := n5_
     have HO553 := n6_
     have HO556 := n7_
     have BK527 := n8_
     have HB := n9_
     clear n0_ n1_ n2_ n3_ n4_ n5_ n6_ n7_ n8_ n9_
     (try clear hb)
     (try clear hb2)
     (try clear hk)
     (try clear hi)
     (try clear ho0)
     (try clear ho1)
     (try clear ho2)
     obtain ⟨Ao36, co36, eo36⟩ := Kd.V_slice HO549.out
     (first | subst eo36 | (injection eo36 with f1_ f2_ f3_; have f4_ := f1_.symm; have f5_ := f3_.symm; clear f1_ f2_ f3_; subst f4_; subst f5_))
     obtain ⟨Ao37, co37, eo37⟩ := Kd.V_slice HO553.out
     (first | subst eo37 | (injection eo37 with f1_ f2_ f3_; have f4_ := f1_.symm; have f5_ := f3_.symm; clear f1_ f2_ f3_; subst f4_; subst f5_))
     obtain ⟨Ao38, co38, eo38⟩ := Kd.V_slice HO556.out
     (first | subst eo38 | (injection eo38 with f1_ f2_ f3_; have f4_ := f1_.symm; have f5_ := f3_.symm; clear f1_ f2_ f3_; subst f4_; subst f5_))
     refine hK.out _ _ ⟨(bc BK527.out 0).trans rfl, (bc BK527.out 1).trans rfl, (bc BK527.out 2).trans rfl, (bc BK527.out 3).trans rfl⟩ (fun hHeld => ?_)
     clear hK K
     refine norm_ (a' := ?_) ?_ ?_
     rotate_left
     ·show Act.put _ (some 55) _ = _
      simp only [Act.put, psl, i64_w, i32_w]
      rfl
     refine one_ (i := 22) (N := some 59) (fl 30 27 []) rfl rfl (one_of HT_.out (by kernel_rfl)) (by decide) (fun K hK => ?_)
     refine goes_ Try.func19 (by kernel_rfl) rfl #[.agg #[.slice Ao36 t547.length co36, .int .i64 t550, .slice Ao37 t551.length co37, .slice Ao38 t554.length co38], .int .i64 a1, .slice A2 l2.length c2, .slice A3 l3.length c3] (by rfl) rfl rfl (by (try simp only [pml]); first | done | rfl | (simp only [pdt]; rfl)) ?_
     with_reducible refine (replace_Refutes.calls _ _ t547 t550 _ _ t551 _ _ t554 a1 _ _ l2 _ _ l3 t557 _ ?side1 ?side2 ?side3 ?side4 ?side5 ?side6 ?side7 ?side8 ?side9 ?side10 A32.out).mono ?_
     (case side1 => repeat (first | exact (Kd.V_reads' HO549.out).2.2 | (with_reducible refine Kd.C_alloc ?_ _) | (with_reducible refine Kd.C_drewN ?_ _) | (with_reducible refine Kd.C_drew ?_)))
     (case side2 => exact (Kd.V_reads' HO549.out).2.1)
     (case side3 => repeat (first | exact (Kd.V_reads' HO553.out).2.2 | (with_reducible refine Kd.C_alloc ?_ _) | (with_reducible refine Kd.C_drewN ?_ _) | (with_reducible refine Kd.C_drew ?_)))
     (case side4 => exact (Kd.V_reads' HO553.out).2.1)
     (case side5 => repeat (first | exact (Kd.V_reads' HO556.out).2.2 | (with_reducible refine Kd.C_alloc ?_ _) | (with_reducible refine Kd.C_drewN ?_ _) | (with_reducible refine Kd.C_drew ?_)))
     (case side6 => exact (Kd.V_reads' HO556.out).2.1)
     (case side7 => repeat (first | exact (Kd.C_below HR2.out HB.out) | (with_reducible refine Kd.C_alloc ?_ _) | (with_reducible refine Kd.C_drewN ?_ _) | (with_reducible refine Kd.C_drew ?_)))
     (case side8 => exact HC2.out)
     (case side9 => repeat (first | exact (Kd.C_below HR3.out HB.out) | (with_reducible refine Kd.C_alloc ?_ _) | (with_reducible refine Kd.C_drewN ?_ _) | (with_reducible refine Kd.C_drew ?_)))
     (case side10 => exact HC3.out)
     rintro e w39 ⟨rfl, hb⟩
     refine ⟨_, rfl, ?_⟩
     have n0_ := dV HO532 hb
     have n1_ := dV HO536 hb
     have n2_ := dV HO539 hb
     have n3_ := dR HO542 hb
     have n4_ := dR HO545 hb
     have n5_ := dV HO549 hb
     have n6_ := dV HO553 hb
     have n7_ := dV HO556 hb
     have n8_ := bB BK527 hb
     have n9_ := bS HB hb
     clear HO532 HO536 HO539 HO542 HO545 HO549 HO553 HO556 BK527 HB
     have HO532 := n0_
     have HO536 := n1_
     have HO539 := n2_
     have HO542 := n3_
     have HO545 := n4_
     have HO549 := n5_
     have HO553 := n6_
     have HO556 := n7_
     have BK527 := n8_
     have HB := n9_
     clear n0_ n1_ n2_ n3_ n4_ n5_ n6_ n7_ n8_ n9_
     (try clear hb)
     (try clear hb2)
     (try clear hk)
     (try clear hi)
     refine hK.out _ _ ⟨(bc BK527.out 0).trans rfl, (bc BK527.out 1).trans rfl, (bc BK527.out 2).trans rfl, (bc BK527.out 3).trans rfl⟩ (fun hHeld => ?_)
     clear hK K
     refine norm_ (a' := ?_) ?_ ?_
     rotate_left
     ·show Act.put _ (some 59) _ = _
      simp only [Act.put, psl, i64_w, i32_w]
      rfl
     refine one_ (i := 27) (N := some 64) (fl 30 28 []) rfl rfl (one_of HT_.out (by kernel_rfl)) (by decide) (fun K hK => ?_)
     refine goes_ Try.func20 (by kernel_rfl) rfl #[.agg #[.slice A0_0 l0_0.length c0_0, .int .i64 a0_1, .slice A0_2 l0_2.length c0_2, .slice A0_3 l0_3.length c0_3], .int .i64 a1, .slice A2 l2.length c2, .slice A3 l3.length c3] (by rfl) rfl rfl (by (try simp only [pml]); first | done | rfl | (simp only [pdt]; rfl)) ?_
     with_reducible refine (r_Refutes.calls kj4 _ _ l0_0 a0_1 _ _ l0_2 _ _ l0_3 a1 _ _ l2 _ _ l3 t558 _ ?side1 ?side2 ?side3 ?side4 ?side5 ?side6 ?side7 ?side8 ?side9 ?side10 A33.out).mono ?_
     (case side1 => repeat (first | exact (Kd.C_below HR0_0.out HB.out) | (with_reducible refine Kd.C_alloc ?_ _) | (with_reducible refine Kd.C_drewN ?_ _) | (with_reducible refine Kd.C_drew ?_)))
     (case side2 => exact HC0_0.out)
     (case side3 => repeat (first | exact (Kd.C_below HR0_2.out HB.out) | (with_reducible refine Kd.C_alloc ?_ _) | (with_reducible refine Kd.C_drewN ?_ _) | (with_reducible refine Kd.C_drew ?_)))
     (case side4 => exact HC0_2.out)
     (case side5 => repeat (first | exact (Kd.C_below HR0_3.out HB.out) | (with_reducible refine Kd.C_alloc ?_ _) | (with_reducible refine Kd.C_drewN ?_ _) | (with_reducible refine Kd.C_drew ?_)))
     (case side6 => exact HC0_3.out)
     (case side7 => repeat (first | exact (Kd.C_below HR2.out HB.out) | (with_reducible refine Kd.C_alloc ?_ _) | (with_reducible refine Kd.C_drewN ?_ _) | (with_reducible refine Kd.C_drew ?_)))
     (case side8 => exact HC2.out)
     (case side9 => repeat (first | exact (Kd.C_below HR3.out HB.out) | (with_reducible refine Kd.C_alloc ?_ _) | (with_reducible refine Kd.C_drewN ?_ _) | (with_reducible refine Kd.C_drew ?_)))
     (case side10 => exact HC3.out)
     rintro e w40 ⟨rfl, hb⟩
     refine ⟨_, rfl, ?_⟩
     have n0_ := dV HO532 hb
     have n1_ := dV HO536 hb
     have n2_ := dV HO539 hb
     have n3_ := dR HO542 hb
     have n4_ := dR HO545 hb
     have n5_ := dV HO549 hb
     have n6_ := dV HO553 hb
     have n7_ := dV HO556 hb
     have n8_ := bB BK527 hb
     have n9_ := bS HB hb
     clear HO532 HO536 HO539 HO542 HO545 HO549 HO553 HO556 BK527 HB
     have HO532 := n0_
     have HO536 := n1_
     have HO539 := n2_
     have HO542 := n3_
     have HO545 := n4_
     have HO549 := n5_
     have HO553 := n6_
     have HO556 := n7_
     have BK527 := n8_
     have HB := n9_
     clear n0_ n1_ n2_ n3_ n4_ n5_ n6_ n7_ n8_ n9_
     (try clear hb)
     (try clear hb2)
     (try clear hk)
     (try clear hi)
     refine hK.out _ _ ⟨(bc BK527.out 0).trans rfl, (bc BK527.out 1).trans rfl, (bc BK527.out 2).trans rfl, (bc BK527.out 3).trans rfl⟩ (fun hHeld => ?_)
     clear hK K
     refine norm_ (a' := ?_) ?_ ?_
     rotate_left
     ·show Act.put _ (some 64) _ = _
      simp only [Act.put, psl, i64_w, i32_w]
      rfl
     refine pu (i := 28) (N := some 65) (fl 30 29 []) HT_ ?_
     refine pu (i := 29) (N := some 66) (fl 30 30 []) HT_ ?_
     refine done_ (done_of HT_.out (by kernel_rfl)) ?_
     try go_wp2
     go_meet
     case rel => exact ⟨_, ((t557 != t558)), sqD, H', ⟨by have := HJ4.out; first | omega | exact Nat.le_refl _⟩, ⟨fR HO542.out⟩, ⟨fR HO545.out⟩, ⟨fb BK527.out⟩, ⟨fW HB.out⟩⟩
    case rest =>
     clear HC21
     try clear c2;try clear p2;try clear c28;try clear c28b0;try clear c29;try clear c29b0
     obtain ⟨kq, x66_20, rfl, HA, HJ20, HO_9, HO_10, BK527, HB⟩ := hcut
     cases kq with
     | zero => exact absurd HA.out (by simp [w_ReplaceRefuses.j1])
     | succ kj20 =>
      have H := HA.out
      clear HA
      simp only [w_ReplaceRefuses.j1] at H
      by_cases c44 : x66_20 = true
      ·subst c44
       have H1 : (some false) = some r := by rw [if_pos rfl] at H; exact H
       clear H
       have H := H1
       clear H1
       obtain rfl := Option.some.inj H
       go_wp2
       go_ret
       exact ⟨sqE, fW HB.out⟩
      ·replace c44 := Bool.eq_false_iff.mpr c44
       subst c44
       have H1 : ((r_Check.f l0_0 a0_1 l0_2 l0_3).bind fun t559 => (if t559 = 0 then (if a1 < 0 then (w_ReplaceRefuses.j2 kj20 a1 t540 t543 t546 t559 true l0_0 a0_1 l0_2 l0_3) else (w_ReplaceRefuses.j2 kj20 a1 t540 t543 t546 t559 (decide (a1 ≥ (l0_0.length : Int))) l0_0 a0_1 l0_2 l0_3)) else (w_ReplaceRefuses.j3 kj20 a1 t540 t543 t546 t559 l0_0 a0_1 l0_2 l0_3))) = some r := by rw [if_neg (show ¬ (false = true) by decide)] at H; exact H
       clear H
       have H := H1
       clear H1
       replace H := Option.bind_eq_some_iff.mp H
       obtain ⟨t559, A450, H⟩ := H
       replace H : (if t559 = 0 then (if a1 < 0 then (w_ReplaceRefuses.j2 kj20 a1 t540 t543 t546 t559 true l0_0 a0_1 l0_2 l0_3) else (w_ReplaceRefuses.j2 kj20 a1 t540 t543 t546 t559 (decide (a1 ≥ (l0_0.length : Int))) l0_0 a0_1 l0_2 l0_3)) else (w_ReplaceRefuses.j3 kj20 a1 t540 t543 t546 t559 l0_0 a0_1 l0_2 l0_3)) = some r := H
       have A45 := am A450
       clear A450
       have HC46 := am H
       clear H
       have := yC1 BK527
       have := kC1 BK527
       have := kC2 BK527
       have := kC3 BK527
       have := bf BK527.out 0
       have := bf BK527.out 1
       have := bf BK527.out 2
       have := bf BK527.out 3
       go_upto_block 0 with (first | ((with_reducible refine gc (f := 14) rfl ?_); refine goesL_ (some 68) rfl rfl Try.func14 (by kernel_rfl) rfl #[.agg #[.slice A0_0 l0_0.length c0_0, .int .i64 a0_1, .slice A0_2 l0_2.length c0_2, .slice A0_3 l0_3.length c0_3]] rfl (by (try simp only [pml]); first | done | rfl | (simp only [pdt]; rfl)) ?_; (with_reducible refine (r_Check.calls _ _ l0_0 a0_1 _ _ l0_2 _ _ l0_3 t559 _ ?side1 ?side2 ?side3 ?side4 ?side5 ?side6 A45.out).mono ?_); (case side1 => repeat (first | exact (Kd.C_below HR0_0.out HB.out) | (with_reducible refine Kd.C_alloc ?_ _) | (with_reducible refine Kd.C_drewN ?_ _) | (with_reducible refine Kd.C_drew ?_))); (case side2 => exact HC0_0.out); (case side3 => repeat (first | exact (Kd.C_below HR0_2.out HB.out) | (with_reducible refine Kd.C_alloc ?_ _) | (with_reducible refine Kd.C_drewN ?_ _) | (with_reducible refine Kd.C_drew ?_))); (case side4 => exact HC0_2.out); (case side5 => repeat (first | exact (Kd.C_below HR0_3.out HB.out) | (with_reducible refine Kd.C_alloc ?_ _) | (with_reducible refine Kd.C_drewN ?_ _) | (with_reducible refine Kd.C_drew ?_))); (case side6 => exact HC0_3.out); rintro e w48 ⟨rfl, hb⟩; refine ⟨_, rfl, ?_⟩; replace HO_9 := dR HO_9 hb; replace HO_10 := dR HO_10 hb; replace BK527 := bB BK527 hb; replace HB := bS HB hb; (try clear hb); (try clear hb2); (try clear hk); (try clear hi)))
       (try simp only [Act.put, psl])
       go_cut [12] (fun v12 wc => ∃ (kq : Nat) (x12_45 : Int), v12 = .int .i64 x12_45 ∧ Aside0 (w_ReplaceRefuses.j3 kq a1 t540 t543 t546 x12_45 l0_0 a0_1 l0_2 l0_3 = some r) ∧ Aside0 (kq ≤ kj20) ∧ Aside0 (Kd.R (Kd.int .i64) 3 wc w.heap.size (fun k_ => some k_ ≠ (v544 : Value).ownBlock) v541 t540) ∧ Aside0 (Kd.R (Kd.int .i64) 3 wc w.heap.size (fun k_ => some k_ ≠ (v541 : Value).ownBlock) v544 t543) ∧ Aside0 (wc.heap[gb527]? = some (.cells #[(.slice A0_0 l0_0.length c0_0), .int .i64 a0_1, (.slice A0_2 l0_2.length c0_2), (.slice A0_3 l0_3.length c0_3)] 26 (0, 0))) ∧ Aside0 (Below w.heap.size w wc))
       case first =>
        have H := HC46.out
        clear HC46
        by_cases c49 : t559 = 0
        rotate_left
        ·rw [if_neg c49] at H
         have c49b0 : (t559 == 0) = false := beq_eq_false_iff_ne.mpr c49
         have c49b1 : (t559 != 0) = true := bne_iff_ne.mpr c49
         (first | rw [c49b0] | (simp only [i64_w, i32_w]; rw [c49b0]) | skip)
         have H' := am H
         clear H
         go_wp2
         go_meet
         case rel => exact ⟨_, (t559), sqD, H', ⟨by have := HJ4.out; have := HJ20.out; first | omega | exact Nat.le_refl _⟩, ⟨fR HO_9.out⟩, ⟨fR HO_10.out⟩, ⟨fb BK527.out⟩, ⟨fW HB.out⟩⟩
        rw [if_pos c49] at H
        have c49b0 : (t559 == 0) = true := beq_iff_eq.mpr c49
        have c49b1 : (t559 != 0) = false := bne_eq_false_iff_eq.mpr c49
        clear c49
        (first | rw [c49b0] | (simp only [i64_w, i32_w]; rw [c49b0]) | skip)
        have HC50 := am H
        clear H
        go_upto_region 8 with (fail)
        go_cut [72] (fun v72 wc => ∃ (kq : Nat) (x72_49 : Bool), v72 = .bool x72_49 ∧ Aside0 (w_ReplaceRefuses.j2 kq a1 t540 t543 t546 t559 x72_49 l0_0 a0_1 l0_2 l0_3 = some r) ∧ Aside0 (kq ≤ kj20) ∧ Aside0 (Kd.R (Kd.int .i64) 3 wc w.heap.size (fun k_ => some k_ ≠ (v544 : Value).ownBlock) v541 t540) ∧ Aside0 (Kd.R (Kd.int .i64) 3 wc w.heap.size (fun k_ => some k_ ≠ (v541 : Value).ownBlock) v544 t543) ∧ Aside0 (wc.heap[gb527]? = some (.cells #[(.slice A0_0 l0_0.length c0_0), .int .i64 a0_1, (.slice A0_2 l0_2.length c0_2), (.slice A0_3 l0_3.length c0_3)] 26 (0, 0))) ∧ Aside0 (Below w.heap.size w wc))
        case first =>
         have H := HC50.out
         clear HC50
         by_cases c51 : a1 < 0
         ·rw [if_pos c51] at H
          have c51b0 : decide (a1 < 0) = true := decide_eq_true c51
          clear c51
          (first | rw [c51b0] | (simp only [i64_w, i32_w]; rw [c51b0]) | skip)
          have H' := am H
          clear H
          go_wp2
          go_meet
          case rel => exact ⟨_, (true), sqD, H', ⟨by have := HJ4.out; have := HJ20.out; first | omega | exact Nat.le_refl _⟩, ⟨fR HO_9.out⟩, ⟨fR HO_10.out⟩, ⟨fb BK527.out⟩, ⟨fW HB.out⟩⟩
         rw [if_neg c51] at H
         have c51b0 : decide (a1 < 0) = false := decide_eq_false c51
         clear c51
         (first | rw [c51b0] | (simp only [i64_w, i32_w]; rw [c51b0]) | skip)
         have H' := am H
         clear H
         have := yC1 BK527
         have := kC1 BK527
         have := kC2 BK527
         have := kC3 BK527
         have := bf BK527.out 0
         have := bf BK527.out 1
         have := bf BK527.out 2
         have := bf BK527.out 3
         go_wp2
         go_meet
         case rel => exact ⟨_, (decide (a1 ≥ (l0_0.length : Int))), sqD, H', ⟨by have := HJ4.out; have := HJ20.out; first | omega | exact Nat.le_refl _⟩, ⟨fR HO_9.out⟩, ⟨fR HO_10.out⟩, ⟨fb BK527.out⟩, ⟨fW HB.out⟩⟩
        case rest =>
         clear HC50
         try clear c1;try clear c2;try clear p2;try clear c4;try clear c5;try clear c14;try clear c28;try clear c28b0;try clear c29;try clear c29b0;try clear c44;try clear c49;try clear c49b0;try clear c49b1;try clear c51;try clear c51b0;try clear p2
         obtain ⟨kq, x72_49, rfl, HA, HJ49, HO_9, HO_10, BK527, HB⟩ := hcut
         cases kq with
         | zero => exact absurd HA.out (by simp [w_ReplaceRefuses.j2])
         | succ kj49 =>
          have H := HA.out
          clear HA
          simp only [w_ReplaceRefuses.j2] at H
          by_cases c53 : x72_49 = true
          ·subst c53
           have H1 : (w_ReplaceRefuses.j3 kj49 a1 t540 t543 t546 6 l0_0 a0_1 l0_2 l0_3) = some r := by rw [if_pos rfl] at H; exact H
           clear H
           have H := H1
           clear H1
           have H' := am H
           clear H
           go_wp2
           go_meet
           case rel => exact ⟨_, (6), sqD, H', ⟨by have := HJ4.out; have := HJ20.out; have := HJ49.out; first | omega | exact Nat.le_refl _⟩, ⟨fR HO_9.out⟩, ⟨fR HO_10.out⟩, ⟨fb BK527.out⟩, ⟨fW HB.out⟩⟩
          replace c53 := Bool.eq_false_iff.mpr c53
          subst c53
          have H1 : (if 0 ≤ a1 then (if a1 < (l0_2.length : Int) then (if (rd l0_2 a1) ≥ 0 then (w_ReplaceRefuses.j3 kj49 a1 t540 t543 t546 8 l0_0 a0_1 l0_2 l0_3) else ((r_Repair.f kj49 l0_0 a0_1 l0_2 l0_3 a1).bind fun t561 => (if (t561.length : Int) > 0 then (w_ReplaceRefuses.j3 kj49 a1 t540 t543 t546 9 l0_0 a0_1 l0_2 l0_3) else (w_ReplaceRefuses.j3 kj49 a1 t540 t543 t546 t559 l0_0 a0_1 l0_2 l0_3)))) else (none)) else (none)) = some r := by rw [if_neg (show ¬ (false = true) by decide)] at H; exact H
          clear H
          have H := H1
          clear H1
          by_cases c54 : 0 ≤ a1
          rotate_left
          ·rw [if_neg c54] at H
           exact absurd H (by simp)
          rw [if_pos c54] at H
          have c54b0 : decide (0 ≤ a1) = true := decide_eq_true c54
          clear c54
          by_cases c55 : a1 < (l0_2.length : Int)
          rotate_left
          ·rw [if_neg c55] at H
           exact absurd H (by simp)
          rw [if_pos c55] at H
          have c55b0 : decide (a1 < (l0_2.length : Int)) = true := decide_eq_true c55
          clear c55
          by_cases c56 : (rd l0_2 a1) ≥ 0
          ·rw [if_pos c56] at H
           have c56b0 : decide (0 ≤ (rd l0_2 a1)) = true := decide_eq_true c56
           clear c56
           have H' := am H
           clear H
           have := yC1 BK527
           have := kC1 BK527
           have := kC2 BK527
           have := kC3 BK527
           have := bf BK527.out 0
           have := bf BK527.out 1
           have := bf BK527.out 2
           have := bf BK527.out 3
           have p560 : 0 ≤ (a1 : Int) := of_decide_eq_true (by assumption)
           have q560 : a1 < (l0_2.length : Int) := of_decide_eq_true (by assumption)
           obtain ⟨ad560, e560, hx560_0⟩ := Kd.at_int HR0_2.out a1 p560 q560
           cases e560
           replace hx560_0 := cl HB hx560_0
           replace p560 := eq_true p560
           replace q560 := eq_true q560
           go_wp2
           go_meet
           case rel => exact ⟨_, (8), sqD, H', ⟨by have := HJ4.out; have := HJ20.out; have := HJ49.out; first | omega | exact Nat.le_refl _⟩, ⟨fR HO_9.out⟩, ⟨fR HO_10.out⟩, ⟨fb BK527.out⟩, ⟨fW HB.out⟩⟩
          rw [if_neg c56] at H
          have c56b0 : decide (0 ≤ (rd l0_2 a1)) = false := decide_eq_false c56
          clear c56
          replace H := Option.bind_eq_some_iff.mp H
          obtain ⟨t561, A580, H⟩ := H
          replace H : (if (t561.length : Int) > 0 then (w_ReplaceRefuses.j3 kj49 a1 t540 t543 t546 9 l0_0 a0_1 l0_2 l0_3) else (w_ReplaceRefuses.j3 kj49 a1 t540 t543 t546 t559 l0_0 a0_1 l0_2 l0_3)) = some r := H
          have A58 := am A580
          clear A580
          by_cases c59 : (t561.length : Int) > 0
          ·rw [if_pos c59] at H
           have c59b0 : decide (0 < (t561.length : Int)) = true := decide_eq_true c59
           have c59b1 : decide (0 < t561.length) = true := decide_eq_true (by omega)
           clear c59
           have H' := am H
           clear H
           have := yC1 BK527
           have := kC1 BK527
           have := kC2 BK527
           have := kC3 BK527
           have := bf BK527.out 0
           have := bf BK527.out 1
           have := bf BK527.out 2
           have := bf BK527.out 3
           have p560 : 0 ≤ (a1 : Int) := of_decide_eq_true (by assumption)
           have q560 : a1 < (l0_2.length : Int) := of_decide_eq_true (by assumption)
           obtain ⟨ad560, e560, hx560_0⟩ := Kd.at_int HR0_2.out a1 p560 q560
           cases e560
           replace hx560_0 := cl HB hx560_0
           replace p560 := eq_true p560
           replace q560 := eq_true q560
           go_wp2_with (first | ((with_reducible refine gc (f := 15) rfl ?_); refine goesL_ (some 92) rfl rfl Try.func15 (by kernel_rfl) rfl #[.agg #[.slice A0_0 l0_0.length c0_0, .int .i64 a0_1, .slice (some ad560) l0_2.length c0_2, .slice A0_3 l0_3.length c0_3], .int .i64 a1] rfl (by (try simp only [pml]); first | done | rfl | (simp only [pdt]; rfl)) ?_; (with_reducible refine (r_Repair.calls kj49 _ _ l0_0 a0_1 _ _ l0_2 _ _ l0_3 a1 t561 _ ?side1 ?side2 ?side3 ?side4 ?side5 ?side6 A58.out).mono ?_); (case side1 => repeat (first | exact (Kd.C_below HR0_0.out HB.out) | (with_reducible refine Kd.C_alloc ?_ _) | (with_reducible refine Kd.C_drewN ?_ _) | (with_reducible refine Kd.C_drew ?_))); (case side2 => exact HC0_0.out); (case side3 => repeat (first | exact (Kd.C_below HR0_2.out HB.out) | (with_reducible refine Kd.C_alloc ?_ _) | (with_reducible refine Kd.C_drewN ?_ _) | (with_reducible refine Kd.C_drew ?_))); (case side4 => exact HC0_2.out); (case side5 => repeat (first | exact (Kd.C_below HR0_3.out HB.out) | (with_reducible refine Kd.C_alloc ?_ _) | (with_reducible refine Kd.C_drewN ?_ _) | (with_reducible refine Kd.C_drew ?_))); (case side6 => exact HC0_3.out); rintro e w61 ⟨v562, rfl, ho0, hb⟩; refine ⟨_, rfl, ?_⟩; replace HO_9 := dR HO_9 hb; replace HO_10 := dR HO_10 hb; have HO563 := am (Kd.R_lower ho0 (wz (fW HB.out))); replace BK527 := bB BK527 hb; replace HB := bS HB hb; (try clear hb); (try clear hb2); (try clear hk); (try clear hi); (try clear ho0); obtain ⟨Ao62, co62, eo62⟩ := Kd.R_slice HO563.out; subst eo62))
           go_meet
           case rel => exact ⟨_, (9), sqD, H', ⟨by have := HJ4.out; have := HJ20.out; have := HJ49.out; first | omega | exact Nat.le_refl _⟩, ⟨fR HO_9.out⟩, ⟨fR HO_10.out⟩, ⟨fb BK527.out⟩, ⟨fW HB.out⟩⟩
          rw [if_neg c59] at H
          have c59b0 : decide (0 < (t561.length : Int)) = false := decide_eq_false c59
          have c59b1 : decide (0 < t561.length) = false := decide_eq_false (by omega)
          clear c59
          have H' := am H
          clear H
          have := yC1 BK527
          have := kC1 BK527
          have := kC2 BK527
          have := kC3 BK527
          have := bf BK527.out 0
          have := bf BK527.out 1
          have := bf BK527.out 2
          have := bf BK527.out 3
          have p560 : 0 ≤ (a1 : Int) := of_decide_eq_true (by assumption)
          have q560 : a1 < (l0_2.length : Int) := of_decide_eq_true (by assumption)
          obtain ⟨ad560, e560, hx560_0⟩ := Kd.at_int HR0_2.out a1 p560 q560
          cases e560
          replace hx560_0 := cl HB hx560_0
          replace p560 := eq_true p560
          replace q560 := eq_true q560
          go_wp2_with (first | ((with_reducible refine gc (f := 15) rfl ?_); refine goesL_ (some 92) rfl rfl Try.func15 (by kernel_rfl) rfl #[.agg #[.slice A0_0 l0_0.length c0_0, .int .i64 a0_1, .slice (some ad560) l0_2.length c0_2, .slice A0_3 l0_3.length c0_3], .int .i64 a1] rfl (by (try simp only [pml]); first | done | rfl | (simp only [pdt]; rfl)) ?_; (with_reducible refine (r_Repair.calls kj49 _ _ l0_0 a0_1 _ _ l0_2 _ _ l0_3 a1 t561 _ ?side1 ?side2 ?side3 ?side4 ?side5 ?side6 A58.out).mono ?_); (case side1 => repeat (first | exact (Kd.C_below HR0_0.out HB.out) | (with_reducible refine Kd.C_alloc ?_ _) | (with_reducible refine Kd.C_drewN ?_ _) | (with_reducible refine Kd.C_drew ?_))); (case side2 => exact HC0_0.out); (case side3 => repeat (first | exact (Kd.C_below HR0_2.out HB.out) | (with_reducible refine Kd.C_alloc ?_ _) | (with_reducible refine Kd.C_drewN ?_ _) | (with_reducible refine Kd.C_drew ?_))); (case side4 => exact HC0_2.out); (case side5 => repeat (first | exact (Kd.C_below HR0_3.out HB.out) | (with_reducible refine Kd.C_alloc ?_ _) | (with_reducible refine Kd.C_drewN ?_ _) | (with_reducible refine Kd.C_drew ?_))); (case side6 => exact HC0_3.out); rintro e w64 ⟨v562, rfl, ho0, hb⟩; refine ⟨_, rfl, ?_⟩; replace HO_9 := dR HO_9 hb; replace HO_10 := dR HO_10 hb; have HO563 := am (Kd.R_lower ho0 (wz (fW HB.out))); replace BK527 := bB BK527 hb; replace HB := bS HB hb; (try clear hb); (try clear hb2); (try clear hk); (try clear hi); (try clear ho0); obtain ⟨Ao65, co65, eo65⟩ := Kd.R_slice HO563.out; subst eo65))
          go_meet
          case rel => exact ⟨_, (t559), sqD, H', ⟨by have := HJ4.out; have := HJ20.out; have := HJ49.out; first | omega | exact Nat.le_refl _⟩, ⟨fR HO_9.out⟩, ⟨fR HO_10.out⟩, ⟨fb BK527.out⟩, ⟨fW HB.out⟩⟩
       case rest =>
        clear HC46
        try clear c1;try clear c2;try clear p2;try clear c4;try clear c5;try clear p5;try clear q5;try clear hx5;try clear c14;try clear c15;try clear c28;try clear c28b0;try clear c29;try clear c29b0;try clear c44;try clear c49;try clear c49b0;try clear c49b1;try clear c51;try clear c51b0;try clear c53;try clear c54;try clear c54b0;try clear c55;try clear c55b0;try clear c56;try clear c56b0;try clear p56;try clear q56;try clear hx56;try clear c59;try clear c59b0;try clear c59b1;try clear hx560_0;try clear p2;try clear p560;try clear q560
        obtain ⟨kq, x12_45, rfl, HA, HJ45, HO_9, HO_10, BK527, HB⟩ := hcut
        cases kq with
        | zero => exact absurd HA.out (by simp [w_ReplaceRefuses.j3])
        | succ kj45 =>
         have H := HA.out
         clear HA
         simp only [w_ReplaceRefuses.j3] at H
         by_cases c66 : x12_45 = 0
         ·rw [if_pos c66] at H
          have c66b0 : (x12_45 == 0) = true := beq_iff_eq.mpr c66
          have c66b1 : (x12_45 != 0) = false := bne_eq_false_iff_eq.mpr c66
          clear c66
          replace H := Option.bind_eq_some_iff.mp H
          obtain ⟨⟨t565, t568⟩, A670, H⟩ := H
          replace H : ((w_awake.f kj45).bind fun t571 => (if t571 = true then (if t546 = 0 then ((r_SameInts.f kj45 t540 t565).bind fun t572 => (if t572 = true then ((r_SameInts.f kj45 t543 t568).bind fun t573 => (if t573 = true then ((w_ours.f l0_0 a0_1 l0_2 l0_3).bind fun bt574 => ((replace_Refutes.f bt574.1 bt574.2.1 bt574.2.2.1 bt574.2.2.2 a1 t540 t543).bind fun t584 => (some t584))) else (some false))) else (some false))) else (some false)) else (some false))) = some r := H
          have A67 := am A670
          clear A670
          replace H := Option.bind_eq_some_iff.mp H
          obtain ⟨t571, A680, H⟩ := H
          replace H : (if t571 = true then (if t546 = 0 then ((r_SameInts.f kj45 t540 t565).bind fun t572 => (if t572 = true then ((r_SameInts.f kj45 t543 t568).bind fun t573 => (if t573 = true then ((w_ours.f l0_0 a0_1 l0_2 l0_3).bind fun bt574 => ((replace_Refutes.f bt574.1 bt574.2.1 bt574.2.2.1 bt574.2.2.2 a1 t540 t543).bind fun t584 => (some t584))) else (some false))) else (some false))) else (some false)) else (some false)) = some r := H
          have A68 := am A680
          clear A680
          by_cases c69 : t571 = true
          rotate_left
          ·replace c69 := Bool.eq_false_iff.mpr c69
           subst c69
           have H1 : (some false) = some r := by rw [if_neg (show ¬ (false = true) by decide)] at H; exact H
           clear H
           have H := H1
           clear H1
           obtain rfl := Option.some.inj H
           have := yC1 BK527
           have := kC1 BK527
           have := kC2 BK527
           have := kC3 BK527
           have := bf BK527.out 0
           have := bf BK527.out 1
           have := bf BK527.out 2
           have := bf BK527.out 3
           go_wp2_with (first | ((with_reducible refine gc (f := 21) rfl ?_); refine goesL_ (some 116) rfl rfl Try.func21 (by kernel_rfl) rfl #[.agg #[.slice A0_0 l0_0.length c0_0, .int .i64 a0_1, .slice A0_2 l0_2.length c0_2, .slice A0_3 l0_3.length c0_3], .int .i64 a1] rfl (by (try simp only [pml]); first | done | rfl | (simp only [pdt]; rfl)) ?_; (with_reducible refine (r_Refusal.calls kj45 _ _ l0_0 a0_1 _ _ l0_2 _ _ l0_3 a1 t565 t568 _ ?side1 ?side2 ?side3 ?side4 ?side5 ?side6 A67.out).mono ?_); (case side1 => repeat (first | exact (Kd.C_below HR0_0.out HB.out) | (with_reducible refine Kd.C_alloc ?_ _) | (with_reducible refine Kd.C_drewN ?_ _) | (with_reducible refine Kd.C_drew ?_))); (case side2 => exact HC0_0.out); (case side3 => repeat (first | exact (Kd.C_below HR0_2.out HB.out) | (with_reducible refine Kd.C_alloc ?_ _) | (with_reducible refine Kd.C_drewN ?_ _) | (with_reducible refine Kd.C_drew ?_))); (case side4 => exact HC0_2.out); (case side5 => repeat (first | exact (Kd.C_below HR0_3.out HB.out) | (with_reducible refine Kd.C_alloc ?_ _) | (with_reducible refine Kd.C_drewN ?_ _) | (with_reducible refine Kd.C_drew ?_))); (case side6 => exact HC0_3.out); rintro e w106 ⟨v566, v569, rfl, ho0, ho1, hb⟩; refine ⟨_, rfl, ?_⟩; have HO567 := am (Kd.R_lower (Kd.R_new' (Kd.R_new' ho0 (Kd.R_lt (fR HO_9.out))) (Kd.R_lt (fR HO_10.out))) (wz (fW HB.out))); have HO570 := am (Kd.R_lower (Kd.R_new' (Kd.R_new' ho1 (Kd.R_lt (fR HO_9.out))) (Kd.R_lt (fR HO_10.out))) (wz (fW HB.out))); replace HO_9 := am (Kd.R_mono (Kd.R_told (Kd.R_told (Kd.R_old (fR HO_9.out) hb) (Kd.R_base ho0)) (Kd.R_base ho1)) (fun _ h_ => h_.1)); replace HO_10 := am (Kd.R_mono (Kd.R_told (Kd.R_told (Kd.R_old (fR HO_10.out) hb) (Kd.R_base ho0)) (Kd.R_base ho1)) (fun _ h_ => h_.1)); replace BK527 := bB BK527 hb; replace HB := bS HB hb; (try clear hb); (try clear hb2); (try clear hk); (try clear hi); (try clear ho0); (try clear ho1)) | ((with_reducible refine gc (f := 11) rfl ?_); refine goesL_ (some 119) rfl rfl Try.func11 (by kernel_rfl) rfl #[] rfl (by (try simp only [pml]); first | done | rfl | (simp only [pdt]; rfl)) ?_; (with_reducible refine (w_awake.calls kj45  false _ A68.out).mono ?_); rintro e w107 ⟨rfl, hb⟩; refine ⟨_, rfl, ?_⟩; replace HO_9 := dR HO_9 hb; replace HO_10 := dR HO_10 hb; replace HO567 := dR HO567 hb; replace HO570 := dR HO570 hb; replace BK527 := bB BK527 hb; replace HB := bS HB hb; (try clear hb); (try clear hb2); (try clear hk); (try clear hi)))
           go_ret
           exact ⟨sqE, fW HB.out⟩
          subst c69
          have H1 : (if t546 = 0 then ((r_SameInts.f kj45 t540 t565).bind fun t572 => (if t572 = true then ((r_SameInts.f kj45 t543 t568).bind fun t573 => (if t573 = true then ((w_ours.f l0_0 a0_1 l0_2 l0_3).bind fun bt574 => ((replace_Refutes.f bt574.1 bt574.2.1 bt574.2.2.1 bt574.2.2.2 a1 t540 t543).bind fun t584 => (some t584))) else (some false))) else (some false))) else (some false)) = some r := by rw [if_pos rfl] at H; exact H
          clear H
          have H := H1
          clear H1
          by_cases c70 : t546 = 0
          rotate_left
          ·rw [if_neg c70] at H
           have c70b0 : (t546 == 0) = false := beq_eq_false_iff_ne.mpr c70
           have c70b1 : (t546 != 0) = true := bne_iff_ne.mpr c70
           obtain rfl := Option.some.inj H
           have := yC1 BK527
           have := kC1 BK527
           have := kC2 BK527
           have := kC3 BK527
           have := bf BK527.out 0
           have := bf BK527.out 1
           have := bf BK527.out 2
           have := bf BK527.out 3
           go_wp2_with (first | ((with_reducible refine gc (f := 21) rfl ?_); refine goesL_ (some 116) rfl rfl Try.func21 (by kernel_rfl) rfl #[.agg #[.slice A0_0 l0_0.length c0_0, .int .i64 a0_1, .slice A0_2 l0_2.length c0_2, .slice A0_3 l0_3.length c0_3], .int .i64 a1] rfl (by (try simp only [pml]); first | done | rfl | (simp only [pdt]; rfl)) ?_; (with_reducible refine (r_Refusal.calls kj45 _ _ l0_0 a0_1 _ _ l0_2 _ _ l0_3 a1 t565 t568 _ ?side1 ?side2 ?side3 ?side4 ?side5 ?side6 A67.out).mono ?_); (case side1 => repeat (first | exact (Kd.C_below HR0_0.out HB.out) | (with_reducible refine Kd.C_alloc ?_ _) | (with_reducible refine Kd.C_drewN ?_ _) | (with_reducible refine Kd.C_drew ?_))); (case side2 => exact HC0_0.out); (case side3 => repeat (first | exact (Kd.C_below HR0_2.out HB.out) | (with_reducible refine Kd.C_alloc ?_ _) | (with_reducible refine Kd.C_drewN ?_ _) | (with_reducible refine Kd.C_drew ?_))); (case side4 => exact HC0_2.out); (case side5 => repeat (first | exact (Kd.C_below HR0_3.out HB.out) | (with_reducible refine Kd.C_alloc ?_ _) | (with_reducible refine Kd.C_drewN ?_ _) | (with_reducible refine Kd.C_drew ?_))); (case side6 => exact HC0_3.out); rintro e w103 ⟨v566, v569, rfl, ho0, ho1, hb⟩; refine ⟨_, rfl, ?_⟩; have HO567 := am (Kd.R_lower (Kd.R_new' (Kd.R_new' ho0 (Kd.R_lt (fR HO_9.out))) (Kd.R_lt (fR HO_10.out))) (wz (fW HB.out))); have HO570 := am (Kd.R_lower (Kd.R_new' (Kd.R_new' ho1 (Kd.R_lt (fR HO_9.out))) (Kd.R_lt (fR HO_10.out))) (wz (fW HB.out))); replace HO_9 := am (Kd.R_mono (Kd.R_told (Kd.R_told (Kd.R_old (fR HO_9.out) hb) (Kd.R_base ho0)) (Kd.R_base ho1)) (fun _ h_ => h_.1)); replace HO_10 := am (Kd.R_mono (Kd.R_told (Kd.R_told (Kd.R_old (fR HO_10.out) hb) (Kd.R_base ho0)) (Kd.R_base ho1)) (fun _ h_ => h_.1)); replace BK527 := bB BK527 hb; replace HB := bS HB hb; (try clear hb); (try clear hb2); (try clear hk); (try clear hi); (try clear ho0); (try clear ho1)) | ((with_reducible refine gc (f := 11) rfl ?_); refine goesL_ (some 119) rfl rfl Try.func11 (by kernel_rfl) rfl #[] rfl (by (try simp only [pml]); first | done | rfl | (simp only [pdt]; rfl)) ?_; (with_reducible refine (w_awake.calls kj45  true _ A68.out).mono ?_); rintro e w104 ⟨rfl, hb⟩; refine ⟨_, rfl, ?_⟩; replace HO_9 := dR HO_9 hb; replace HO_10 := dR HO_10 hb; replace HO567 := dR HO567 hb; replace HO570 := dR HO570 hb; replace BK527 := bB BK527 hb; replace HB := bS HB hb; (try clear hb); (try clear hb2); (try clear hk); (try clear hi)))
           go_ret
           exact ⟨sqE, fW HB.out⟩
          rw [if_pos c70] at H
          have c70b0 : (t546 == 0) = true := beq_iff_eq.mpr c70
          have c70b1 : (t546 != 0) = false := bne_eq_false_iff_eq.mpr c70
          clear c70
          replace H := Option.bind_eq_some_iff.mp H
          obtain ⟨t572, A710, H⟩ := H
          replace H : (if t572 = true then ((r_SameInts.f kj45 t543 t568).bind fun t573 => (if t573 = true then ((w_ours.f l0_0 a0_1 l0_2 l0_3).bind fun bt574 => ((replace_Refutes.f bt574.1 bt574.2.1 bt574.2.2.1 bt574.2.2.2 a1 t540 t543).bind fun t584 => (some t584))) else (some false))) else (some false)) = some r := H
          have A71 := am A710
          clear A710
          by_cases c72 : t572 = true
          rotate_left
          ·replace c72 := Bool.eq_false_iff.mpr c72
           subst c72
           have H1 : (some false) = some r := by rw [if_neg (show ¬ (false = true) by decide)] at H; exact H
           clear H
           have H := H1
           clear H1
           obtain rfl := Option.some.inj H
           have := yC1 BK527
           have := kC1 BK527
           have := kC2 BK527
           have := kC3 BK527
           have := bf BK527.out 0
           have := bf BK527.out 1
           have := bf BK527.out 2
           have := bf BK527.out 3
           go_wp2_with (first | ((with_reducible refine gc (f := 21) rfl ?_); refine goesL_ (some 116) rfl rfl Try.func21 (by kernel_rfl) rfl #[.agg #[.slice A0_0 l0_0.length c0_0, .int .i64 a0_1, .slice A0_2 l0_2.length c0_2, .slice A0_3 l0_3.length c0_3], .int .i64 a1] rfl (by (try simp only [pml]); first | done | rfl | (simp only [pdt]; rfl)) ?_; (with_reducible refine (r_Refusal.calls kj45 _ _ l0_0 a0_1 _ _ l0_2 _ _ l0_3 a1 t565 t568 _ ?side1 ?side2 ?side3 ?side4 ?side5 ?side6 A67.out).mono ?_); (case side1 => repeat (first | exact (Kd.C_below HR0_0.out HB.out) | (with_reducible refine Kd.C_alloc ?_ _) | (with_reducible refine Kd.C_drewN ?_ _) | (with_reducible refine Kd.C_drew ?_))); (case side2 => exact HC0_0.out); (case side3 => repeat (first | exact (Kd.C_below HR0_2.out HB.out) | (with_reducible refine Kd.C_alloc ?_ _) | (with_reducible refine Kd.C_drewN ?_ _) | (with_reducible refine Kd.C_drew ?_))); (case side4 => exact HC0_2.out); (case side5 => repeat (first | exact (Kd.C_below HR0_3.out HB.out) | (with_reducible refine Kd.C_alloc ?_ _) | (with_reducible refine Kd.C_drewN ?_ _) | (with_reducible refine Kd.C_drew ?_))); (case side6 => exact HC0_3.out); rintro e w98 ⟨v566, v569, rfl, ho0, ho1, hb⟩; refine ⟨_, rfl, ?_⟩; have HO567 := am (Kd.R_lower (Kd.R_new' (Kd.R_new' ho0 (Kd.R_lt (fR HO_9.out))) (Kd.R_lt (fR HO_10.out))) (wz (fW HB.out))); have HO570 := am (Kd.R_lower (Kd.R_new' (Kd.R_new' ho1 (Kd.R_lt (fR HO_9.out))) (Kd.R_lt (fR HO_10.out))) (wz (fW HB.out))); replace HO_9 := am (Kd.R_mono (Kd.R_told (Kd.R_told (Kd.R_old (fR HO_9.out) hb) (Kd.R_base ho0)) (Kd.R_base ho1)) (fun _ h_ => h_.1)); replace HO_10 := am (Kd.R_mono (Kd.R_told (Kd.R_told (Kd.R_old (fR HO_10.out) hb) (Kd.R_base ho0)) (Kd.R_base ho1)) (fun _ h_ => h_.1)); replace BK527 := bB BK527 hb; replace HB := bS HB hb; (try clear hb); (try clear hb2); (try clear hk); (try clear hi); (try clear ho0); (try clear ho1)) | ((with_reducible refine gc (f := 11) rfl ?_); refine goesL_ (some 119) rfl rfl Try.func11 (by kernel_rfl) rfl #[] rfl (by (try simp only [pml]); first | done | rfl | (simp only [pdt]; rfl)) ?_; (with_reducible refine (w_awake.calls kj45  true _ A68.out).mono ?_); rintro e w99 ⟨rfl, hb⟩; refine ⟨_, rfl, ?_⟩; replace HO_9 := dR HO_9 hb; replace HO_10 := dR HO_10 hb; replace HO567 := dR HO567 hb; replace HO570 := dR HO570 hb; replace BK527 := bB BK527 hb; replace HB := bS HB hb; (try clear hb); (try clear hb2); (try clear hk); (try clear hi); obtain ⟨Ao100, co100, eo100⟩ := Kd.R_slice HO_9.out; subst eo100; obtain ⟨Ao101, co101, eo101⟩ := Kd.R_slice HO567.out; subst eo101) | (go_at_call 22; (with_reducible refine (r_SameInts.calls kj45 _ _ t540 _ _ t565 false _ ?side1 ?side2 ?side3 ?side4 A71.out).mono ?_); (case side1 => repeat (first | exact (Kd.R_reads' HO_9.out).2.2 | (with_reducible refine Kd.C_alloc ?_ _) | (with_reducible refine Kd.C_drewN ?_ _) | (with_reducible refine Kd.C_drew ?_))); (case side2 => exact (Kd.R_reads' HO_9.out).2.1); (case side3 => repeat (first | exact (Kd.R_reads' HO567.out).2.2 | (with_reducible refine Kd.C_alloc ?_ _) | (with_reducible refine Kd.C_drewN ?_ _) | (with_reducible refine Kd.C_drew ?_))); (case side4 => exact (Kd.R_reads' HO567.out).2.1); rintro e w' ⟨rfl, ⟨nd, rfl⟩⟩))
           go_ret
           exact ⟨sqE, fW HB.out⟩
          subst c72
          have H1 : ((r_SameInts.f kj45 t543 t568).bind fun t573 => (if t573 = true then ((w_ours.f l0_0 a0_1 l0_2 l0_3).bind fun bt574 => ((replace_Refutes.f bt574.1 bt574.2.1 bt574.2.2.1 bt574.2.2.2 a1 t540 t543).bind fun t584 => (some t584))) else (some false))) = some r := by rw [if_pos rfl] at H; exact H
          clear H
          have H := H1
          clear H1
          replace H := Option.bind_eq_some_iff.mp H
          obtain ⟨t573, A730, H⟩ := H
          replace H : (if t573 = true then ((w_ours.f l0_0 a0_1 l0_2 l0_3).bind fun bt574 => ((replace_Refutes.f bt574.1 bt574.2.1 bt574.2.2.1 bt574.2.2.2 a1 t540 t543).bind fun t584 => (some t584))) else (some false)) = some r := H
          have A73 := am A730
          clear A730
          by_cases c74 : t573 = true
          ·subst c74
           have H1 : ((w_ours.f l0_0 a0_1 l0_2 l0_3).bind fun bt574 => ((replace_Refutes.f bt574.1 bt574.2.1 bt574.2.2.1 bt574.2.2.2 a1 t540 t543).bind fun t584 => (some t584))) = some r := by rw [if_pos rfl] at H; exact H
           clear H
           have H := H1
           clear H1
           replace H := Option.bind_eq_some_iff.mp H
           obtain ⟨⟨t574, t577, t578, t581⟩, A750, H⟩ := H
           replace H : ((replace_Refutes.f t574 t577 t578 t581 a1 t540 t543).bind fun t584 => (some t584)) = some r := H
           have A75 := am A750
           clear A750
           replace H := Option.bind_eq_some_iff.mp H
           obtain ⟨t584, A760, H⟩ := H
           replace H : (some t584) = some r := H
           have A76 := am A760
           clear A760
           obtain rfl := Option.some.inj H
           have := yC1 BK527
           have := kC1 BK527
           have := kC2 BK527
           have := kC3 BK527
           have := bf BK527.out 0
           have := bf BK527.out 1
           have := bf BK527.out 2
           have := bf BK527.out 3
           go_wp2_with (first | ((with_reducible refine gc (f := 21) rfl ?_); refine goesL_ (some 116) rfl rfl Try.func21 (by kernel_rfl) rfl #[.agg #[.slice A0_0 l0_0.length c0_0, .int .i64 a0_1, .slice A0_2 l0_2.length c0_2, .slice A0_3 l0_3.length c0_3], .int .i64 a1] rfl (by (try simp only [pml]); first | done | rfl | (simp only [pdt]; rfl)) ?_; (with_reducible refine (r_Refusal.calls kj45 _ _ l0_0 a0_1 _ _ l0_2 _ _ l0_3 a1 t565 t568 _ ?side1 ?side2 ?side3 ?side4 ?side5 ?side6 A67.out).mono ?_); (case side1 => repeat (first | exact (Kd.C_below HR0_0.out HB.out) | (with_reducible refine Kd.C_alloc ?_ _) | (with_reducible refine Kd.C_drewN ?_ _) | (with_reducible refine Kd.C_drew ?_))); (case side2 => exact HC0_0.out); (case side3 => repeat (first | exact (Kd.C_below HR0_2.out HB.out) | (with_reducible refine Kd.C_alloc ?_ _) | (with_reducible refine Kd.C_drewN ?_ _) | (with_reducible refine Kd.C_drew ?_))); (case side4 => exact HC0_2.out); (case side5 => repeat (first | exact (Kd.C_below HR0_3.out HB.out) | (with_reducible refine Kd.C_alloc ?_ _) | (with_reducible refine Kd.C_drewN ?_ _) | (with_reducible refine Kd.C_drew ?_))); (case side6 => exact HC0_3.out); rintro e w78 ⟨v566, v569, rfl, ho0, ho1, hb⟩; refine ⟨_, rfl, ?_⟩; have HO567 := am (Kd.R_lower (Kd.R_new' (Kd.R_new' ho0 (Kd.R_lt (fR HO_9.out))) (Kd.R_lt (fR HO_10.out))) (wz (fW HB.out))); have HO570 := am (Kd.R_lower (Kd.R_new' (Kd.R_new' ho1 (Kd.R_lt (fR HO_9.out))) (Kd.R_lt (fR HO_10.out))) (wz (fW HB.out))); replace HO_9 := am (Kd.R_mono (Kd.R_told (Kd.R_told (Kd.R_old (fR HO_9.out) hb) (Kd.R_base ho0)) (Kd.R_base ho1)) (fun _ h_ => h_.1)); replace HO_10 := am (Kd.R_mono (Kd.R_told (Kd.R_told (Kd.R_old (fR HO_10.out) hb) (Kd.R_base ho0)) (Kd.R_base ho1)) (fun _ h_ => h_.1)); replace BK527 := bB BK527 hb; replace HB := bS HB hb; (try clear hb); (try clear hb2); (try clear hk); (try clear hi); (try clear ho0); (try clear ho1)) | ((with_reducible refine gc (f := 11) rfl ?_); refine goesL_ (some 119) rfl rfl Try.func11 (by kernel_rfl) rfl #[] rfl (by (try simp only [pml]); first | done | rfl | (simp only [pdt]; rfl)) ?_; (with_reducible refine (w_awake.calls kj45  true _ A68.out).mono ?_); rintro e w79 ⟨rfl, hb⟩; refine ⟨_, rfl, ?_⟩; replace HO_9 := dR HO_9 hb; replace HO_10 := dR HO_10 hb; replace HO567 := dR HO567 hb; replace HO570 := dR HO570 hb; replace BK527 := bB BK527 hb; replace HB := bS HB hb; (try clear hb); (try clear hb2); (try clear hk); (try clear hi); obtain ⟨Ao80, co80, eo80⟩ := Kd.R_slice HO_9.out; subst eo80; obtain ⟨Ao81, co81, eo81⟩ := Kd.R_slice HO567.out; subst eo81) | (go_at_call 22; (with_reducible refine (r_SameInts.calls kj45 _ _ t540 _ _ t565 true _ ?side1 ?side2 ?side3 ?side4 A71.out).mono ?_); (case side1 => repeat (first | exact (Kd.R_reads' HO_9.out).2.2 | (with_reducible refine Kd.C_alloc ?_ _) | (with_reducible refine Kd.C_drewN ?_ _) | (with_reducible refine Kd.C_drew ?_))); (case side2 => exact (Kd.R_reads' HO_9.out).2.1); (case side3 => repeat (first | exact (Kd.R_reads' HO567.out).2.2 | (with_reducible refine Kd.C_alloc ?_ _) | (with_reducible refine Kd.C_drewN ?_ _) | (with_reducible refine Kd.C_drew ?_))); (case side4 => exact (Kd.R_reads' HO567.out).2.1); rintro e w' ⟨rfl, ⟨nd, rfl⟩⟩; obtain ⟨Ao82, co82, eo82⟩ := Kd.R_slice HO_10.out; subst eo82; obtain ⟨Ao83, co83, eo83⟩ := Kd.R_slice HO570.out; subst eo83) | (go_at_call 22; (with_reducible refine (r_SameInts.calls kj45 _ _ t543 _ _ t568 true _ ?side1 ?side2 ?side3 ?side4 A73.out).mono ?_); (case side1 => repeat (first | exact (Kd.R_reads' HO_10.out).2.2 | (with_reducible refine Kd.C_alloc ?_ _) | (with_reducible refine Kd.C_drewN ?_ _) | (with_reducible refine Kd.C_drew ?_))); (case side2 => exact (Kd.R_reads' HO_10.out).2.1); (case side3 => repeat (first | exact (Kd.R_reads' HO570.out).2.2 | (with_reducible refine Kd.C_alloc ?_ _) | (with_reducible refine Kd.C_drewN ?_ _) | (with_reducible refine Kd.C_drew ?_))); (case side4 => exact (Kd.R_reads' HO570.out).2.1); rintro e w' ⟨rfl, ⟨nd, rfl⟩⟩; obtain ⟨_, _, _, _, _, _, _, _⟩ := zC4 BK527) | (go_at_call 13; (with_reducible refine (w_ours.calls (fun k_ => k_ < w.heap.size) _ _ l0_0 a0_1 (fun k_ => k_ < w.heap.size) _ _ l0_2 (fun k_ => k_ < w.heap.size) _ _ l0_3 t574 t577 t578 t581 _ ?side1 ?side2 ?side3 A75.out).mono ?_); (case side1 => exact Kd.V_mk HC0_0.out (Kd.F_below (Kd.C_F (Kd.heap_slice 3 (Kd.heap_int .i64)) HR0_0.out) (fW HB.out))); (case side2 => exact Kd.V_mk HC0_2.out (Kd.F_below (Kd.C_F (Kd.heap_int .i64) HR0_2.out) (fW HB.out))); (case side3 => exact Kd.V_mk HC0_3.out (Kd.F_below (Kd.C_F Kd.heap_bool HR0_3.out) (fW HB.out))); rintro e w85 ⟨v575, v579, v582, rfl, ho0, ho1, ho2, hb⟩; have HO576 := am (Kd.V_lower (Kd.V_mono (ok' := fun k_ => some k_ ≠ (.slice Ao80 t540.length co80 : Value).ownBlock ∧ some k_ ≠ (.slice Ao82 t543.length co82 : Value).ownBlock ∧ some k_ ≠ (.slice Ao81 t565.length co81 : Value).ownBlock ∧ some k_ ≠ (.slice Ao83 t568.length co83 : Value).ownBlock ∧ k_ ≠ gb527) ho0 (fun k_ hk_ => ⟨Or.elim hk_ (fun hs_ => Or.elim hs_ (fun hs_ => fun e_ => Nat.not_le.2 hs_ (Kd.R_base HO_9.out k_ e_.symm)) (fun hs_ => Or.elim hs_ (fun hs_ => fun e_ => Nat.not_le.2 hs_ (Kd.R_base HO_9.out k_ e_.symm)) (fun hs_ => fun e_ => Nat.not_le.2 hs_ (Kd.R_base HO_9.out k_ e_.symm)))) (fun hn_ => (Kd.fresh' (Kd.R_lt (fR HO_9.out)) k_ hn_)), Or.elim hk_ (fun hs_ => Or.elim hs_ (fun hs_ => fun e_ => Nat.not_le.2 hs_ (Kd.R_base HO_10.out k_ e_.symm)) (fun hs_ => Or.elim hs_ (fun hs_ => fun e_ => Nat.not_le.2 hs_ (Kd.R_base HO_10.out k_ e_.symm)) (fun hs_ => fun e_ => Nat.not_le.2 hs_ (Kd.R_base HO_10.out k_ e_.symm)))) (fun hn_ => (Kd.fresh' (Kd.R_lt (fR HO_10.out)) k_ hn_)), Or.elim hk_ (fun hs_ => Or.elim hs_ (fun hs_ => fun e_ => Nat.not_le.2 hs_ (Kd.R_base HO567.out k_ e_.symm)) (fun hs_ => Or.elim hs_ (fun hs_ => fun e_ => Nat.not_le.2 hs_ (Kd.R_base HO567.out k_ e_.symm)) (fun hs_ => fun e_ => Nat.not_le.2 hs_ (Kd.R_base HO567.out k_ e_.symm)))) (fun hn_ => (Kd.fresh' (Kd.R_lt (fR HO567.out)) k_ hn_)), Or.elim hk_ (fun hs_ => Or.elim hs_ (fun hs_ => fun e_ => Nat.not_le.2 hs_ (Kd.R_base HO570.out k_ e_.symm)) (fun hs_ => Or.elim hs_ (fun hs_ => fun e_ => Nat.not_le.2 hs_ (Kd.R_base HO570.out k_ e_.symm)) (fun hs_ => fun e_ => Nat.not_le.2 hs_ (Kd.R_base HO570.out k_ e_.symm)))) (fun hn_ => (Kd.fresh' (Kd.R_lt (fR HO570.out)) k_ hn_)), Or.elim hk_ (fun hs_ => Or.elim hs_ (fun hs_ => fun e_ => Nat.not_le.2 hs_ (by rw [e_]; exact GW527.out)) (fun hs_ => Or.elim hs_ (fun hs_ => fun e_ => Nat.not_le.2 hs_ (by rw [e_]; exact GW527.out)) (fun hs_ => fun e_ => Nat.not_le.2 hs_ (by rw [e_]; exact GW527.out)))) (fun hn_ => (Kd.freshB (g := gb527) (o := .cells #[.slice A0_0 l0_0.length c0_0, .int .i64 a0_1, .slice A0_2 l0_2.length c0_2, .slice A0_3 l0_3.length c0_3] 26 (0, 0)) (fb BK527.out) k_ hn_))⟩)) (wz (fW HB.out))); have HO580 := am (Kd.V_lower (Kd.V_mono (ok' := fun k_ => some k_ ≠ (.slice Ao80 t540.length co80 : Value).ownBlock ∧ some k_ ≠ (.slice Ao82 t543.length co82 : Value).ownBlock ∧ some k_ ≠ (.slice Ao81 t565.length co81 : Value).ownBlock ∧ some k_ ≠ (.slice Ao83 t568.length co83 : Value).ownBlock ∧ k_ ≠ gb527) ho1 (fun k_ hk_ => ⟨Or.elim hk_ (fun hs_ => Or.elim hs_ (fun hs_ => fun e_ => Nat.not_le.2 hs_ (Kd.R_base HO_9.out k_ e_.symm)) (fun hs_ => Or.elim hs_ (fun hs_ => fun e_ => Nat.not_le.2 hs_ (Kd.R_base HO_9.out k_ e_.symm)) (fun hs_ => fun e_ => Nat.not_le.2 hs_ (Kd.R_base HO_9.out k_ e_.symm)))) (fun hn_ => (Kd.fresh' (Kd.R_lt (fR HO_9.out)) k_ hn_)), Or.elim hk_ (fun hs_ => Or.elim hs_ (fun hs_ => fun e_ => Nat.not_le.2 hs_ (Kd.R_base HO_10.out k_ e_.symm)) (fun hs_ => Or.elim hs_ (fun hs_ => fun e_ => Nat.not_le.2 hs_ (Kd.R_base HO_10.out k_ e_.symm)) (fun hs_ => fun e_ => Nat.not_le.2 hs_ (Kd.R_base HO_10.out k_ e_.symm)))) (fun hn_ => (Kd.fresh' (Kd.R_lt (fR HO_10.out)) k_ hn_)), Or.elim hk_ (fun hs_ => Or.elim hs_ (fun hs_ => fun e_ => Nat.not_le.2 hs_ (Kd.R_base HO567.out k_ e_.symm)) (fun hs_ => Or.elim hs_ (fun hs_ => fun e_ => Nat.not_le.2 hs_ (Kd.R_base HO567.out k_ e_.symm)) (fun hs_ => fun e_ => Nat.not_le.2 hs_ (Kd.R_base HO567.out k_ e_.symm)))) (fun hn_ => (Kd.fresh' (Kd.R_lt (fR HO567.out)) k_ hn_)), Or.elim hk_ (fun hs_ => Or.elim hs_ (fun hs_ => fun e_ => Nat.not_le.2 hs_ (Kd.R_base HO570.out k_ e_.symm)) (fun hs_ => Or.elim hs_ (fun hs_ => fun e_ => Nat.not_le.2 hs_ (Kd.R_base HO570.out k_ e_.symm)) (fun hs_ => fun e_ => Nat.not_le.2 hs_ (Kd.R_base HO570.out k_ e_.symm)))) (fun hn_ => (Kd.fresh' (Kd.R_lt (fR HO570.out)) k_ hn_)), Or.elim hk_ (fun hs_ => Or.elim hs_ (fun hs_ => fun e_ => Nat.not_le.2 hs_ (by rw [e_]; exact GW527.out)) (fun hs_ => Or.elim hs_ (fun hs_ => fun e_ => Nat.not_le.2 hs_ (by rw [e_]; exact GW527.out)) (fun hs_ => fun e_ => Nat.not_le.2 hs_ (by rw [e_]; exact GW527.out)))) (fun hn_ => (Kd.freshB (g := gb527) (o := .cells #[.slice A0_0 l0_0.length c0_0, .int .i64 a0_1, .slice A0_2 l0_2.length c0_2, .slice A0_3 l0_3.length c0_3] 26 (0, 0)) (fb BK527.out) k_ hn_))⟩)) (wz (fW HB.out))); have HO583 := am (Kd.V_lower (Kd.V_mono (ok' := fun k_ => some k_ ≠ (.slice Ao80 t540.length co80 : Value).ownBlock ∧ some k_ ≠ (.slice Ao82 t543.length co82 : Value).ownBlock ∧ some k_ ≠ (.slice Ao81 t565.length co81 : Value).ownBlock ∧ some k_ ≠ (.slice Ao83 t568.length co83 : Value).ownBlock ∧ k_ ≠ gb527) ho2 (fun k_ hk_ => ⟨Or.elim hk_ (fun hs_ => Or.elim hs_ (fun hs_ => fun e_ => Nat.not_le.2 hs_ (Kd.R_base HO_9.out k_ e_.symm)) (fun hs_ => Or.elim hs_ (fun hs_ => fun e_ => Nat.not_le.2 hs_ (Kd.R_base HO_9.out k_ e_.symm)) (fun hs_ => fun e_ => Nat.not_le.2 hs_ (Kd.R_base HO_9.out k_ e_.symm)))) (fun hn_ => (Kd.fresh' (Kd.R_lt (fR HO_9.out)) k_ hn_)), Or.elim hk_ (fun hs_ => Or.elim hs_ (fun hs_ => fun e_ => Nat.not_le.2 hs_ (Kd.R_base HO_10.out k_ e_.symm)) (fun hs_ => Or.elim hs_ (fun hs_ => fun e_ => Nat.not_le.2 hs_ (Kd.R_base HO_10.out k_ e_.symm)) (fun hs_ => fun e_ => Nat.not_le.2 hs_ (Kd.R_base HO_10.out k_ e_.symm)))) (fun hn_ => (Kd.fresh' (Kd.R_lt (fR HO_10.out)) k_ hn_)), Or.elim hk_ (fun hs_ => Or.elim hs_ (fun hs_ => fun e_ => Nat.not_le.2 hs_ (Kd.R_base HO567.out k_ e_.symm)) (fun hs_ => Or.elim hs_ (fun hs_ => fun e_ => Nat.not_le.2 hs_ (Kd.R_base HO567.out k_ e_.symm)) (fun hs_ => fun e_ => Nat.not_le.2 hs_ (Kd.R_base HO567.out k_ e_.symm)))) (fun hn_ => (Kd.fresh' (Kd.R_lt (fR HO567.out)) k_ hn_)), Or.elim hk_ (fun hs_ => Or.elim hs_ (fun hs_ => fun e_ => Nat.not_le.2 hs_ (Kd.R_base HO570.out k_ e_.symm)) (fun hs_ => Or.elim hs_ (fun hs_ => fun e_ => Nat.not_le.2 hs_ (Kd.R_base HO570.out k_ e_.symm)) (fun hs_ => fun e_ => Nat.not_le.2 hs_ (Kd.R_base HO570.out k_ e_.symm)))) (fun hn_ => (Kd.fresh' (Kd.R_lt (fR HO570.out)) k_ hn_)), Or.elim hk_ (fun hs_ => Or.elim hs_ (fun hs_ => fun e_ => Nat.not_le.2 hs_ (by rw [e_]; exact GW527.out)) (fun hs_ => Or.elim hs_ (fun hs_ => fun e_ => Nat.not_le.2 hs_ (by rw [e_]; exact GW527.out)) (fun hs_ => fun e_ => Nat.not_le.2 hs_ (by rw [e_]; exact GW527.out)))) (fun hn_ => (Kd.freshB (g := gb527) (o := .cells #[.slice A0_0 l0_0.length c0_0, .int .i64 a0_1, .slice A0_2 l0_2.length c0_2, .slice A0_3 l0_3.length c0_3] 26 (0, 0)) (fb BK527.out) k_ hn_))⟩)) (wz (fW HB.out))); replace HO_9 := dR HO_9 hb; replace HO_10 := dR HO_10 hb; replace HO567 := dR HO567 hb; replace HO570 := dR HO570 hb; replace BK527 := bB BK527 hb; replace HB := bS HB hb; (try clear hb); (try clear hb2); (try clear hk); (try clear hi); (try clear ho0); (try clear ho1); (try clear ho2); obtain ⟨Ao86, co86, eo86⟩ := Kd.V_slice HO576.out; subst eo86; obtain ⟨Ao87, co87, eo87⟩ := Kd.V_slice HO580.out; subst eo87; obtain ⟨Ao88, co88, eo88⟩ := Kd.V_slice HO583.out; subst eo88) | (go_at_call 19; (with_reducible refine (replace_Refutes.calls _ _ t574 t577 _ _ t578 _ _ t581 a1 _ _ t540 _ _ t543 t584 _ ?side1 ?side2 ?side3 ?side4 ?side5 ?side6 ?side7 ?side8 ?side9 ?side10 A76.out).mono ?_); (case side1 => repeat (first | exact (Kd.V_reads' HO576.out).2.2 | (with_reducible refine Kd.C_alloc ?_ _) | (with_reducible refine Kd.C_drewN ?_ _) | (with_reducible refine Kd.C_drew ?_))); (case side2 => exact (Kd.V_reads' HO576.out).2.1); (case side3 => repeat (first | exact (Kd.V_reads' HO580.out).2.2 | (with_reducible refine Kd.C_alloc ?_ _) | (with_reducible refine Kd.C_drewN ?_ _) | (with_reducible refine Kd.C_drew ?_))); (case side4 => exact (Kd.V_reads' HO580.out).2.1); (case side5 => repeat (first | exact (Kd.V_reads' HO583.out).2.2 | (with_reducible refine Kd.C_alloc ?_ _) | (with_reducible refine Kd.C_drewN ?_ _) | (with_reducible refine Kd.C_drew ?_))); (case side6 => exact (Kd.V_reads' HO583.out).2.1); (case side7 => repeat (first | exact (Kd.R_reads' HO_9.out).2.2 | (with_reducible refine Kd.C_alloc ?_ _) | (with_reducible refine Kd.C_drewN ?_ _) | (with_reducible refine Kd.C_drew ?_))); (case side8 => exact (Kd.R_reads' HO_9.out).2.1); (case side9 => repeat (first | exact (Kd.R_reads' HO_10.out).2.2 | (with_reducible refine Kd.C_alloc ?_ _) | (with_reducible refine Kd.C_drewN ?_ _) | (with_reducible refine Kd.C_drew ?_))); (case side10 => exact (Kd.R_reads' HO_10.out).2.1); rintro e w89 ⟨rfl, hb⟩; replace HO_9 := dR HO_9 hb; replace HO_10 := dR HO_10 hb; replace HO567 := dR HO567 hb; replace HO570 := dR HO570 hb; replace HO576 := dV HO576 hb; replace HO580 := dV HO580 hb; replace HO583 := dV HO583 hb; replace BK527 := bB BK527 hb; replace HB := bS HB hb; (try clear hb); (try clear hb2); (try clear hk); (try clear hi)))
           go_ret
           exact ⟨sqE, fW HB.out⟩
          replace c74 := Bool.eq_false_iff.mpr c74
          subst c74
          have H1 : (some false) = some r := by rw [if_neg (show ¬ (false = true) by decide)] at H; exact H
          clear H
          have H := H1
          clear H1
          obtain rfl := Option.some.inj H
          have := yC1 BK527
          have := kC1 BK527
          have := kC2 BK527
          have := kC3 BK527
          have := bf BK527.out 0
          have := bf BK527.out 1
          have := bf BK527.out 2
          have := bf BK527.out 3
          go_wp2_with (first | ((with_reducible refine gc (f := 21) rfl ?_); refine goesL_ (some 116) rfl rfl Try.func21 (by kernel_rfl) rfl #[.agg #[.slice A0_0 l0_0.length c0_0, .int .i64 a0_1, .slice A0_2 l0_2.length c0_2, .slice A0_3 l0_3.length c0_3], .int .i64 a1] rfl (by (try simp only [pml]); first | done | rfl | (simp only [pdt]; rfl)) ?_; (with_reducible refine (r_Refusal.calls kj45 _ _ l0_0 a0_1 _ _ l0_2 _ _ l0_3 a1 t565 t568 _ ?side1 ?side2 ?side3 ?side4 ?side5 ?side6 A67.out).mono ?_); (case side1 => repeat (first | exact (Kd.C_below HR0_0.out HB.out) | (with_reducible refine Kd.C_alloc ?_ _) | (with_reducible refine Kd.C_drewN ?_ _) | (with_reducible refine Kd.C_drew ?_))); (case side2 => exact HC0_0.out); (case side3 => repeat (first | exact (Kd.C_below HR0_2.out HB.out) | (with_reducible refine Kd.C_alloc ?_ _) | (with_reducible refine Kd.C_drewN ?_ _) | (with_reducible refine Kd.C_drew ?_))); (case side4 => exact HC0_2.out); (case side5 => repeat (first | exact (Kd.C_below HR0_3.out HB.out) | (with_reducible refine Kd.C_alloc ?_ _) | (with_reducible refine Kd.C_drewN ?_ _) | (with_reducible refine Kd.C_drew ?_))); (case side6 => exact HC0_3.out); rintro e w91 ⟨v566, v569, rfl, ho0, ho1, hb⟩; refine ⟨_, rfl, ?_⟩; have HO567 := am (Kd.R_lower (Kd.R_new' (Kd.R_new' ho0 (Kd.R_lt (fR HO_9.out))) (Kd.R_lt (fR HO_10.out))) (wz (fW HB.out))); have HO570 := am (Kd.R_lower (Kd.R_new' (Kd.R_new' ho1 (Kd.R_lt (fR HO_9.out))) (Kd.R_lt (fR HO_10.out))) (wz (fW HB.out))); replace HO_9 := am (Kd.R_mono (Kd.R_told (Kd.R_told (Kd.R_old (fR HO_9.out) hb) (Kd.R_base ho0)) (Kd.R_base ho1)) (fun _ h_ => h_.1)); replace HO_10 := am (Kd.R_mono (Kd.R_told (Kd.R_told (Kd.R_old (fR HO_10.out) hb) (Kd.R_base ho0)) (Kd.R_base ho1)) (fun _ h_ => h_.1)); replace BK527 := bB BK527 hb; replace HB := bS HB hb; (try clear hb); (try clear hb2); (try clear hk); (try clear hi); (try clear ho0); (try clear ho1)) | ((with_reducible refine gc (f := 11) rfl ?_); refine goesL_ (some 119) rfl rfl Try.func11 (by kernel_rfl) rfl #[] rfl (by (try simp only [pml]); first | done | rfl | (simp only [pdt]; rfl)) ?_; (with_reducible refine (w_awake.calls kj45  true _ A68.out).mono ?_); rintro e w92 ⟨rfl, hb⟩; refine ⟨_, rfl, ?_⟩; replace HO_9 := dR HO_9 hb; replace HO_10 := dR HO_10 hb; replace HO567 := dR HO567 hb; replace HO570 := dR HO570 hb; replace BK527 := bB BK527 hb; replace HB := bS HB hb; (try clear hb); (try clear hb2); (try clear hk); (try clear hi); obtain ⟨Ao93, co93, eo93⟩ := Kd.R_slice HO_9.out; subst eo93; obtain ⟨Ao94, co94, eo94⟩ := Kd.R_slice HO567.out; subst eo94) | (go_at_call 22; (with_reducible refine (r_SameInts.calls kj45 _ _ t540 _ _ t565 true _ ?side1 ?side2 ?side3 ?side4 A71.out).mono ?_); (case side1 => repeat (first | exact (Kd.R_reads' HO_9.out).2.2 | (with_reducible refine Kd.C_alloc ?_ _) | (with_reducible refine Kd.C_drewN ?_ _) | (with_reducible refine Kd.C_drew ?_))); (case side2 => exact (Kd.R_reads' HO_9.out).2.1); (case side3 => repeat (first | exact (Kd.R_reads' HO567.out).2.2 | (with_reducible refine Kd.C_alloc ?_ _) | (with_reducible refine Kd.C_drewN ?_ _) | (with_reducible refine Kd.C_drew ?_))); (case side4 => exact (Kd.R_reads' HO567.out).2.1); rintro e w' ⟨rfl, ⟨nd, rfl⟩⟩; obtain ⟨Ao95, co95, eo95⟩ := Kd.R_slice HO_10.out; subst eo95; obtain ⟨Ao96, co96, eo96⟩ := Kd.R_slice HO570.out; subst eo96) | (go_at_call 22; (with_reducible refine (r_SameInts.calls kj45 _ _ t543 _ _ t568 false _ ?side1 ?side2 ?side3 ?side4 A73.out).mono ?_); (case side1 => repeat (first | exact (Kd.R_reads' HO_10.out).2.2 | (with_reducible refine Kd.C_alloc ?_ _) | (with_reducible refine Kd.C_drewN ?_ _) | (with_reducible refine Kd.C_drew ?_))); (case side2 => exact (Kd.R_reads' HO_10.out).2.1); (case side3 => repeat (first | exact (Kd.R_reads' HO570.out).2.2 | (with_reducible refine Kd.C_alloc ?_ _) | (with_reducible refine Kd.C_drewN ?_ _) | (with_reducible refine Kd.C_drew ?_))); (case side4 => exact (Kd.R_reads' HO570.out).2.1); rintro e w' ⟨rfl, ⟨nd, rfl⟩⟩))
          go_ret
          exact ⟨sqE, fW HB.out⟩
         ·rw [if_neg c66] at H
          have c66b0 : (x12_45 == 0) = false := beq_eq_false_iff_ne.mpr c66
          have c66b1 : (x12_45 != 0) = true := bne_iff_ne.mpr c66
          replace H := Option.bind_eq_some_iff.mp H
          obtain ⟨t564, A1080, H⟩ := H
          replace H : (if t564 = true then (if t546 = x12_45 then (if (t540.length : Int) = 0 then (some ((t543.length : Int) == 0)) else (some false)) else (some false)) else (some false)) = some r := H
          have A108 := am A1080
          clear A1080
          by_cases c109 : t564 = true
          ·subst c109
           have H1 : (if t546 = x12_45 then (if (t540.length : Int) = 0 then (some ((t543.length : Int) == 0)) else (some false)) else (some false)) = some r := by rw [if_pos rfl] at H; exact H
           clear H
           have H := H1
           clear H1
           by_cases c110 : t546 = x12_45
           rotate_left
           ·rw [if_neg c110] at H
            have c110b0 : (t546 == x12_45) = false := beq_eq_false_iff_ne.mpr c110
            have c110b1 : (t546 != x12_45) = true := bne_iff_ne.mpr c110
            obtain rfl := Option.some.inj H
            go_wp2_with (first | ((with_reducible refine gc (f := 11) rfl ?_); refine goesL_ (some 97) rfl rfl Try.func11 (by kernel_rfl) rfl #[] rfl (by (try simp only [pml]); first | done | rfl | (simp only [pdt]; rfl)) ?_; (with_reducible refine (w_awake.calls kj45  true _ A108.out).mono ?_); rintro e w117 ⟨rfl, hb⟩; refine ⟨_, rfl, ?_⟩; replace HO_9 := dR HO_9 hb; replace HO_10 := dR HO_10 hb; replace BK527 := bB BK527 hb; replace HB := bS HB hb; (try clear hb); (try clear hb2); (try clear hk); (try clear hi)))
            go_ret
            exact ⟨sqE, fW HB.out⟩
           rw [if_pos c110] at H
           have c110b0 : (t546 == x12_45) = true := beq_iff_eq.mpr c110
           have c110b1 : (t546 != x12_45) = false := bne_eq_false_iff_eq.mpr c110
           clear c110
           by_cases c111 : (t540.length : Int) = 0
           ·rw [if_pos c111] at H
            have c111b0 : ((t540.length : Int) == 0) = true := beq_iff_eq.mpr c111
            have c111b1 : ((t540.length : Int) != 0) = false := bne_eq_false_iff_eq.mpr c111
            clear c111
            obtain rfl := Option.some.inj H
            go_wp2_with (first | ((with_reducible refine gc (f := 11) rfl ?_); refine goesL_ (some 97) rfl rfl Try.func11 (by kernel_rfl) rfl #[] rfl (by (try simp only [pml]); first | done | rfl | (simp only [pdt]; rfl)) ?_; (with_reducible refine (w_awake.calls kj45  true _ A108.out).mono ?_); rintro e w112 ⟨rfl, hb⟩; refine ⟨_, rfl, ?_⟩; replace HO_9 := dR HO_9 hb; replace HO_10 := dR HO_10 hb; replace BK527 := bB BK527 hb; replace HB := bS HB hb; (try clear hb); (try clear hb2); (try clear hk); (try clear hi); obtain ⟨Ao113, co113, eo113⟩ := Kd.R_slice HO_9.out; subst eo113; obtain ⟨Ao114, co114, eo114⟩ := Kd.R_slice HO_10.out; subst eo114))
            go_ret
            exact ⟨sqE, fW HB.out⟩
           rw [if_neg c111] at H
           have c111b0 : ((t540.length : Int) == 0) = false := beq_eq_false_iff_ne.mpr c111
           have c111b1 : ((t540.length : Int) != 0) = true := bne_iff_ne.mpr c111
           have c111b2 : ¬ (t540 = []) := fun h_ => c111 (by rw [h_]; rfl)
           obtain rfl := Option.some.inj H
           go_wp2_with (first | ((with_reducible refine gc (f := 11) rfl ?_); refine goesL_ (some 97) rfl rfl Try.func11 (by kernel_rfl) rfl #[] rfl (by (try simp only [pml]); first | done | rfl | (simp only [pdt]; rfl)) ?_; (with_reducible refine (w_awake.calls kj45  true _ A108.out).mono ?_); rintro e w115 ⟨rfl, hb⟩; refine ⟨_, rfl, ?_⟩; replace HO_9 := dR HO_9 hb; replace HO_10 := dR HO_10 hb; replace BK527 := bB BK527 hb; replace HB := bS HB hb; (try clear hb); (try clear hb2); (try clear hk); (try clear hi); obtain ⟨Ao116, co116, eo116⟩ := Kd.R_slice HO_9.out; subst eo116))
           go_ret
           exact ⟨sqE, fW HB.out⟩
          ·replace c109 := Bool.eq_false_iff.mpr c109
           subst c109
           have H1 : (some false) = some r := by rw [if_neg (show ¬ (false = true) by decide)] at H; exact H
           clear H
           have H := H1
           clear H1
           obtain rfl := Option.some.inj H
           go_wp2_with (first | ((with_reducible refine gc (f := 11) rfl ?_); refine goesL_ (some 97) rfl rfl Try.func11 (by kernel_rfl) rfl #[] rfl (by (try simp only [pml]); first | done | rfl | (simp only [pdt]; rfl)) ?_; (with_reducible refine (w_awake.calls kj45  false _ A108.out).mono ?_); rintro e w118 ⟨rfl, hb⟩; refine ⟨_, rfl, ?_⟩; replace HO_9 := dR HO_9 hb; replace HO_10 := dR HO_10 hb; replace BK527 := bB BK527 hb; replace HB := bS HB hb; (try clear hb); (try clear hb2); (try clear hk); (try clear hi)))
           go_ret
           exact ⟨sqE, fW HB.out⟩

def w_ReplaceRefuses.Pure : Prop := ∀ (l0_0 : List (List Int)) (a0_1 : Int) (l0_2 : List Int) (l0_3 : List Bool) (a1 : Int) (l2 : List Int) (l3 : List Int), (l0_0.length ≤ maxLen ∧ ∀ e9_, e9_ ∈ l0_0 → e9_.length ≤ maxLen ∧ ∀ e10_, e10_ ∈ e9_ → (Lit.int .i64 e10_).wf = true) → ((Lit.int .i64 a0_1).wf = true) → (l0_2.length ≤ maxLen ∧ ∀ e11_, e11_ ∈ l0_2 → (Lit.int .i64 e11_).wf = true) → (l0_3.length ≤ maxLen) → ((Lit.int .i64 a1).wf = true) → (l2.length ≤ maxLen ∧ ∀ e13_, e13_ ∈ l2 → (Lit.int .i64 e13_).wf = true) → (l3.length ≤ maxLen ∧ ∀ e14_, e14_ ∈ l3 → (Lit.int .i64 e14_).wf = true) → ∃ k, w_ReplaceRefuses.f k l0_0 a0_1 l0_2 l0_3 a1 l2 l3 = some true
theorem w_ReplaceRefuses.walk (P_ : w_ReplaceRefuses.Pure) (A0_0 : Option Addr) (c0_0 : Nat) (l0_0 : List (List Int)) (a0_1 : Int) (A0_2 : Option Addr) (c0_2 : Nat) (l0_2 : List Int) (A0_3 : Option Addr) (c0_3 : Nat) (l0_3 : List Bool) (a1 : Int) (A2 : Option Addr) (c2 : Nat) (l2 : List Int) (A3 : Option Addr) (c3 : Nat) (l3 : List Int) (w : World) (hr0_0 : Kd.C (Kd.slice 3 (Kd.int .i64)) w A0_0 l0_0.length l0_0) (hc0_0 : l0_0.length ≤ c0_0) (hr0_2 : Kd.C (Kd.int .i64) w A0_2 l0_2.length l0_2) (hc0_2 : l0_2.length ≤ c0_2) (hr0_3 : Kd.C Kd.bool w A0_3 l0_3.length l0_3) (hc0_3 : l0_3.length ≤ c0_3) (hr2 : Kd.C (Kd.int .i64) w A2 l2.length l2) (hc2 : l2.length ≤ c2) (hr3 : Kd.C (Kd.int .i64) w A3 l3.length l3) (hc3 : l3.length ≤ c3) (o0 : (l0_0.length ≤ maxLen ∧ ∀ e9_, e9_ ∈ l0_0 → e9_.length ≤ maxLen ∧ ∀ e10_, e10_ ∈ e9_ → (Lit.int .i64 e10_).wf = true)) (o1 : ((Lit.int .i64 a0_1).wf = true)) (o2 : (l0_2.length ≤ maxLen ∧ ∀ e11_, e11_ ∈ l0_2 → (Lit.int .i64 e11_).wf = true)) (o3 : (l0_3.length ≤ maxLen)) (o4 : ((Lit.int .i64 a1).wf = true)) (o5 : (l2.length ≤ maxLen ∧ ∀ e13_, e13_ ∈ l2 → (Lit.int .i64 e13_).wf = true)) (o6 : (l3.length ≤ maxLen ∧ ∀ e14_, e14_ ∈ l3 → (Lit.int .i64 e14_).wf = true)) :
  Calls Try.prog 4 #[.agg #[.slice A0_0 l0_0.length c0_0, .int .i64 a0_1, .slice A0_2 l0_2.length c0_2, .slice A0_3 l0_3.length c0_3], .int .i64 a1, .slice A2 l2.length c2, .slice A3 l3.length c3] w fun e w' => e = .returned (.bool true) ∧ Below w.heap.size w w' := by
 obtain ⟨k, h⟩ := P_ l0_0 a0_1 l0_2 l0_3 a1 l2 l3 o0 o1 o2 o3 o4 o5 o6
 refine (w_ReplaceRefuses.calls k A0_0 c0_0 l0_0 a0_1 A0_2 c0_2 l0_2 A0_3 c0_3 l0_3 a1 A2 c2 l2 A3 c3 l3 true w hr0_0 hc0_0 hr0_2 hc0_2 hr0_3 hc0_3 hr2 hc2 hr3 hc3 h).mono ?_
 rintro e w' ⟨rfl, hd⟩
 exact ⟨rfl, hd⟩

end Go.Proofs.Ytkeomlmlimkebaa.QA
