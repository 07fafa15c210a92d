import Derived.Test.YtcembjgpcbodcaaZQAx0
import Derived.Test.YtcembjgpcbodcaaZQAx1
import Derived.Test.YtcembjgpcbodcaaZQAx11
import Derived.Test.YtcembjgpcbodcaaZQAx12
namespace Go.Proofs.Ytcembjgpcbodcaa.QA
open Go.RowKit Go.Proofs.YtcembjgpcbodcaaW.PrintWords Go.Proofs.YtcembjgpcbodcaaW.PrintLast Go.Proofs.YtcembjgpcbodcaaW.PrintMore
open Go.Proofs.YtcembjgpcbodcaaW.PrintWords renaming blk_frozen → bf, gate_callee → gc, box_event → be
open Aside0 renaming mk → am
attribute [local go_sem] max2_int min2_int max_two min_two max_three min_three max_four min_four
set_option linter.unusedVariables false
set_option linter.unusedSimpArgs false

attribute [local go_sem high] eqA23
mutual
def r_Check.l0 : Nat → List (S23) → Int → Option (Int)
 | 0, _, _ => none
 | k + 1, x0, x3 => if x3 < (x0.length : Int) then (if 0 ≤ x3 then ((r_Allowed.f k ((rd_T23 x0 x3).f0) ((rd_T23 x0 x3).f1)).bind fun t279 => (if t279 = true then (r_Check.l0 k x0 (wrap64 (x3 + 1))) else (some 6))) else (none)) else (r_Check.l1 k x0 0)
def r_Check.l1 : Nat → List (S23) → Int → Option (Int)
 | 0, _, _ => none
 | k + 1, x0, x4 => if x4 < (x0.length : Int) then (if 0 ≤ x4 then ((r_next.f x0 x4).bind fun t281 => (if 0 ≤ t281 then (if t281 < (x0.length : Int) then (if (((rd_T23 x0 x4).f0) == ((rd_T23 x0 t281).f0) && (((rd_T23 x0 x4).f1) == ((rd_T23 x0 t281).f1))) = true then (some 5) else (r_Check.l1 k x0 (wrap64 (x4 + 1)))) else (none)) else (none))) else (none)) else (some 0)
end
def r_Check.f (k : Nat) (l0 : List (S23)) : Option (Int) := if (l0.length : Int) > 64 then (some 7) else (if (l0.length : Int) < 3 then (some 1) else (r_Check.l0 k l0 0))
set_option maxHeartbeats 8000000 in
set_option maxRecDepth 100000 in
theorem r_Check.calls (k : Nat) (A0 : Option Addr) (c0 : Nat) (l0 : List (S23)) (r : Int) (w : World) (hr0 : Kd.C k23 w A0 l0.length l0) (hc0 : l0.length ≤ c0) (h : r_Check.f k l0 = some r) :
  Calls Try.prog 17 #[.slice A0 l0.length c0] w fun e w' => e = .returned (.int .i64 r) ∧ Below w.heap.size w w' := by
 have hu23 := Try.underlying23
 have HR0 := am hr0
 have HC0 := am hc0
 clear hr0 hc0
 have HB := am (Below.refl w.heap.size w)
 have H : (if (l0.length : Int) > 64 then (some 7) else (if (l0.length : Int) < 3 then (some 1) else (r_Check.l0 k l0 0))) = some r := h
 clear h
 by_cases c2 : (l0.length : Int) > 64
 ·rw [if_pos c2] at H
  have c2b0 : decide (64 < (l0.length : Int)) = true := decide_eq_true c2
  have c2b1 : decide (64 < l0.length) = true := decide_eq_true (by omega)
  clear c2
  obtain rfl := Option.some.inj H
  go_enter Try.func17, Try.ntmps17
  go_wp2
  repeat (go_quiet (fail); try go_wp2)
  go_ret
  exact ⟨sqE, fW HB.out⟩
 ·rw [if_neg c2] at H
  have c2b0 : decide (64 < (l0.length : Int)) = false := decide_eq_false c2
  have c2b1 : decide (64 < l0.length) = false := decide_eq_false (by omega)
  clear c2
  by_cases c3 : (l0.length : Int) < 3
  ·rw [if_pos c3] at H
   have c3b0 : decide ((l0.length : Int) < 3) = true := decide_eq_true c3
   have c3b1 : decide (l0.length < 3) = true := decide_eq_true (by omega)
   clear c3
   obtain rfl := Option.some.inj H
   go_enter Try.func17, Try.ntmps17
   go_wp2
   repeat (go_quiet (fail); try go_wp2)
   go_ret
   exact ⟨sqE, fW HB.out⟩
  ·rw [if_neg c3] at H
   have c3b0 : decide ((l0.length : Int) < 3) = false := decide_eq_false c3
   have c3b1 : decide (l0.length < 3) = false := decide_eq_false (by omega)
   clear c3
   have H' := am H
   clear H
   go_enter Try.func17, Try.ntmps17
   go_wp2
   repeat (go_quiet (fail); try go_wp2)
   go_loopg [3] k (fun kq v3 w' => ∃ (x3_1 : Int), v3 = .int .i64 x3_1 ∧ Aside0 (r_Check.l0 kq l0 x3_1 = some r) ∧ Aside0 (kq ≤ k) ∧ Aside0 (Below w.heap.size w w'))
   case atStart => exact ⟨(0), sqD, H', ⟨Nat.le_refl _⟩, ⟨fW HB.out⟩⟩
   case round =>
    clear H'
    try clear c1;try clear c2;try clear c2b0;try clear c2b1;try clear p2;try clear c3;try clear c3b0;try clear c3b1
    obtain ⟨x3_1, rfl, HA, HK1, HB⟩ := hrel
    cases gk with
    | zero => exact absurd HA.out (by simp [r_Check.l0])
    | succ k1 =>
     have H := HA.out
     clear HA
     simp only [r_Check.l0] at H
     by_cases c4 : x3_1 < (l0.length : Int)
     ·rw [if_pos c4] at H
      have c4b0 : decide (x3_1 < (l0.length : Int)) = true := decide_eq_true c4
      clear c4
      by_cases c5 : 0 ≤ x3_1
      rotate_left
      ·rw [if_neg c5] at H
       exact absurd H (by simp)
      rw [if_pos c5] at H
      have c5b0 : decide (0 ≤ x3_1) = true := decide_eq_true c5
      clear c5
      replace H := Option.bind_eq_some_iff.mp H
      obtain ⟨t279, A60, H⟩ := H
      replace H : (if t279 = true then (r_Check.l0 k1 l0 (wrap64 (x3_1 + 1))) else (some 6)) = some r := H
      have A6 := am A60
      clear A60
      by_cases c7 : t279 = true
      ·subst c7
       have H1 : (r_Check.l0 k1 l0 (wrap64 (x3_1 + 1))) = some r := by rw [if_pos rfl] at H; exact H
       clear H
       have H := H1
       clear H1
       have H' := am H
       clear H
       have p278 : 0 ≤ (x3_1 : Int) := of_decide_eq_true (by assumption)
       have q278 : x3_1 < (l0.length : Int) := of_decide_eq_true (by assumption)
       obtain ⟨ad278, e278, hx278_0, hx278_1⟩ := at_T23 HR0.out x3_1 p278 q278
       cases e278
       replace hx278_0 := cl HB hx278_0
       replace hx278_1 := cl HB hx278_1
       replace p278 := eq_true p278
       replace q278 := eq_true q278
       go_wp2_with (first | (go_at_call 12; (with_reducible refine (r_Allowed.calls k1 ((rd_T23 l0 x3_1).f0) ((rd_T23 l0 x3_1).f1) true _ A6.out).mono ?_); rintro e w8 ⟨rfl, hb⟩; replace HB := bS HB hb; (try clear hb); (try clear hb2); (try clear hk); (try clear hi)))
       repeat (go_quiet (first | (go_at_call 12; (with_reducible refine (r_Allowed.calls k1 ((rd_T23 l0 x3_1).f0) ((rd_T23 l0 x3_1).f1) true _ A6.out).mono ?_); rintro e w8 ⟨rfl, hb⟩; replace HB := bS HB hb; (try clear hb); (try clear hb2); (try clear hk); (try clear hi))); try go_wp2_with (first | (go_at_call 12; (with_reducible refine (r_Allowed.calls k1 ((rd_T23 l0 x3_1).f0) ((rd_T23 l0 x3_1).f1) true _ A6.out).mono ?_); rintro e w8 ⟨rfl, hb⟩; replace HB := bS HB hb; (try clear hb); (try clear hb2); (try clear hk); (try clear hi))))
       go_roundg k1
       case measure => have := HK1.out; omega
       case rel => exact ⟨(wrap64 (x3_1 + 1)), sqD, H', ⟨by have := HK1.out; omega⟩, ⟨fW HB.out⟩⟩
      replace c7 := Bool.eq_false_iff.mpr c7
      subst c7
      have H1 : (some 6) = some r := by rw [if_neg (show ¬ (false = true) by decide)] at H; exact H
      clear H
      have H := H1
      clear H1
      obtain rfl := Option.some.inj H
      have p278 : 0 ≤ (x3_1 : Int) := of_decide_eq_true (by assumption)
      have q278 : x3_1 < (l0.length : Int) := of_decide_eq_true (by assumption)
      obtain ⟨ad278, e278, hx278_0, hx278_1⟩ := at_T23 HR0.out x3_1 p278 q278
      cases e278
      replace hx278_0 := cl HB hx278_0
      replace hx278_1 := cl HB hx278_1
      replace p278 := eq_true p278
      replace q278 := eq_true q278
      go_wp2_with (first | (go_at_call 12; (with_reducible refine (r_Allowed.calls k1 ((rd_T23 l0 x3_1).f0) ((rd_T23 l0 x3_1).f1) false _ A6.out).mono ?_); rintro e w9 ⟨rfl, hb⟩; replace HB := bS HB hb; (try clear hb); (try clear hb2); (try clear hk); (try clear hi)))
      repeat (go_quiet (first | (go_at_call 12; (with_reducible refine (r_Allowed.calls k1 ((rd_T23 l0 x3_1).f0) ((rd_T23 l0 x3_1).f1) false _ A6.out).mono ?_); rintro e w9 ⟨rfl, hb⟩; replace HB := bS HB hb; (try clear hb); (try clear hb2); (try clear hk); (try clear hi))); try go_wp2_with (first | (go_at_call 12; (with_reducible refine (r_Allowed.calls k1 ((rd_T23 l0 x3_1).f0) ((rd_T23 l0 x3_1).f1) false _ A6.out).mono ?_); rintro e w9 ⟨rfl, hb⟩; replace HB := bS HB hb; (try clear hb); (try clear hb2); (try clear hk); (try clear hi))))
      go_ret
      exact ⟨sqE, fW HB.out⟩
     ·rw [if_neg c4] at H
      have c4b0 : decide (x3_1 < (l0.length : Int)) = false := decide_eq_false c4
      clear c4
      have H' := am H
      clear H
      go_wp2
      repeat (go_quiet (fail); try go_wp2)
      go_loopg [4] k1 (fun kq v4 w' => ∃ (x4_2 : Int), v4 = .int .i64 x4_2 ∧ Aside0 (r_Check.l1 kq l0 x4_2 = some r) ∧ Aside0 (kq ≤ k1) ∧ Aside0 (Below w.heap.size w w'))
      case atStart => exact ⟨(0), sqD, H', ⟨Nat.le_refl _⟩, ⟨fW HB.out⟩⟩
      case round =>
       clear H'
       try clear c1;try clear c2;try clear c2b0;try clear c2b1;try clear p2;try clear q2;try clear hx2;try clear c3;try clear c3b0;try clear c3b1;try clear c4;try clear c4b0;try clear c5;try clear c5b0;try clear p6;try clear c7;try clear hx278_0;try clear hx278_1;try clear p2;try clear p278;try clear q278
       obtain ⟨x4_2, rfl, HA, HK2, HB⟩ := hrel
       cases gk with
       | zero => exact absurd HA.out (by simp [r_Check.l1])
       | succ k2 =>
        have H := HA.out
        clear HA
        simp only [r_Check.l1] at H
        by_cases c10 : x4_2 < (l0.length : Int)
        ·rw [if_pos c10] at H
         have c10b0 : decide (x4_2 < (l0.length : Int)) = true := decide_eq_true c10
         clear c10
         by_cases c11 : 0 ≤ x4_2
         rotate_left
         ·rw [if_neg c11] at H
          exact absurd H (by simp)
         rw [if_pos c11] at H
         have c11b0 : decide (0 ≤ x4_2) = true := decide_eq_true c11
         clear c11
         replace H := Option.bind_eq_some_iff.mp H
         obtain ⟨t281, A120, H⟩ := H
         replace H : (if 0 ≤ t281 then (if t281 < (l0.length : Int) then (if (((rd_T23 l0 x4_2).f0) == ((rd_T23 l0 t281).f0) && (((rd_T23 l0 x4_2).f1) == ((rd_T23 l0 t281).f1))) = true then (some 5) else (r_Check.l1 k2 l0 (wrap64 (x4_2 + 1)))) else (none)) else (none)) = some r := H
         have A12 := am A120
         clear A120
         by_cases c13 : 0 ≤ t281
         rotate_left
         ·rw [if_neg c13] at H
          exact absurd H (by simp)
         rw [if_pos c13] at H
         have c13b0 : decide (0 ≤ t281) = true := decide_eq_true c13
         clear c13
         by_cases c14 : t281 < (l0.length : Int)
         rotate_left
         ·rw [if_neg c14] at H
          exact absurd H (by simp)
         rw [if_pos c14] at H
         have c14b0 : decide (t281 < (l0.length : Int)) = true := decide_eq_true c14
         clear c14
         by_cases c15 : (((rd_T23 l0 x4_2).f0) == ((rd_T23 l0 t281).f0) && (((rd_T23 l0 x4_2).f1) == ((rd_T23 l0 t281).f1))) = true
         ·rw [if_pos c15] at H
          have c15b0 : (((rd_T23 l0 x4_2).f0) == ((rd_T23 l0 t281).f0) && (((rd_T23 l0 x4_2).f1) == ((rd_T23 l0 t281).f1))) = true := c15
          (try (have c15b1 : decide (((rd_T23 l0 x4_2).f0) = ((rd_T23 l0 t281).f0) && (((rd_T23 l0 x4_2).f1) == ((rd_T23 l0 t281).f1))) = true := by simpa using c15))
          (try (have c15b2 : (((rd_T23 l0 x4_2).f0) == ((rd_T23 l0 t281).f0) && (((rd_T23 l0 x4_2).f1) == ((rd_T23 l0 t281).f1))) = true := by simpa using c15))
          clear c15
          obtain rfl := Option.some.inj H
          have p280 : 0 ≤ (x4_2 : Int) := of_decide_eq_true (by assumption)
          have q280 : x4_2 < (l0.length : Int) := of_decide_eq_true (by assumption)
          obtain ⟨ad280, e280, hx280_0, hx280_1⟩ := at_T23 HR0.out x4_2 p280 q280
          cases e280
          replace hx280_0 := cl HB hx280_0
          replace hx280_1 := cl HB hx280_1
          replace p280 := eq_true p280
          replace q280 := eq_true q280
          go_wp2_with (first | (go_at_call 42; (with_reducible refine (r_next.calls _ _ l0 x4_2 t281 _ ?side1 ?side2 A12.out).mono ?_); (case side1 => repeat (first | exact (Kd.C_below HR0.out HB.out) | (with_reducible refine Kd.C_alloc ?_ _) | (with_reducible refine Kd.C_drewN ?_ _) | (with_reducible refine Kd.C_drew ?_))); (case side2 => exact HC0.out); rintro e w' ⟨rfl, ⟨nd, rfl⟩⟩; (try first | exact ⟨rfl, _, World.drewN_drewN _ _ _⟩ | exact ⟨rfl, _, Eq.trans (World.drewN_drewN _ _ _) (congrArg (World.drewN _) (Nat.add_assoc _ _ _))⟩); have p282 : 0 ≤ (t281 : Int) := of_decide_eq_true (by assumption); have q282 : t281 < (l0.length : Int) := of_decide_eq_true (by assumption); obtain ⟨ad282, e282, hx282_0, hx282_1⟩ := at_T23 HR0.out t281 p282 q282; obtain rfl : ad280 = ad282 := (by injection e282); replace hx282_0 := cl HB hx282_0; replace hx282_1 := cl HB hx282_1; replace p282 := eq_true p282; replace q282 := eq_true q282))
          repeat (go_quiet (first | (go_at_call 42; (with_reducible refine (r_next.calls _ _ l0 x4_2 t281 _ ?side1 ?side2 A12.out).mono ?_); (case side1 => repeat (first | exact (Kd.C_below HR0.out HB.out) | (with_reducible refine Kd.C_alloc ?_ _) | (with_reducible refine Kd.C_drewN ?_ _) | (with_reducible refine Kd.C_drew ?_))); (case side2 => exact HC0.out); rintro e w' ⟨rfl, ⟨nd, rfl⟩⟩; (try first | exact ⟨rfl, _, World.drewN_drewN _ _ _⟩ | exact ⟨rfl, _, Eq.trans (World.drewN_drewN _ _ _) (congrArg (World.drewN _) (Nat.add_assoc _ _ _))⟩); have p282 : 0 ≤ (t281 : Int) := of_decide_eq_true (by assumption); have q282 : t281 < (l0.length : Int) := of_decide_eq_true (by assumption); obtain ⟨ad282, e282, hx282_0, hx282_1⟩ := at_T23 HR0.out t281 p282 q282; obtain rfl : ad280 = ad282 := (by injection e282); replace hx282_0 := cl HB hx282_0; replace hx282_1 := cl HB hx282_1; replace p282 := eq_true p282; replace q282 := eq_true q282)); try go_wp2_with (first | (go_at_call 42; (with_reducible refine (r_next.calls _ _ l0 x4_2 t281 _ ?side1 ?side2 A12.out).mono ?_); (case side1 => repeat (first | exact (Kd.C_below HR0.out HB.out) | (with_reducible refine Kd.C_alloc ?_ _) | (with_reducible refine Kd.C_drewN ?_ _) | (with_reducible refine Kd.C_drew ?_))); (case side2 => exact HC0.out); rintro e w' ⟨rfl, ⟨nd, rfl⟩⟩; (try first | exact ⟨rfl, _, World.drewN_drewN _ _ _⟩ | exact ⟨rfl, _, Eq.trans (World.drewN_drewN _ _ _) (congrArg (World.drewN _) (Nat.add_assoc _ _ _))⟩); have p282 : 0 ≤ (t281 : Int) := of_decide_eq_true (by assumption); have q282 : t281 < (l0.length : Int) := of_decide_eq_true (by assumption); obtain ⟨ad282, e282, hx282_0, hx282_1⟩ := at_T23 HR0.out t281 p282 q282; obtain rfl : ad280 = ad282 := (by injection e282); replace hx282_0 := cl HB hx282_0; replace hx282_1 := cl HB hx282_1; replace p282 := eq_true p282; replace q282 := eq_true q282)))
          go_ret
          exact ⟨sqE, fW HB.out⟩
         rw [if_neg c15] at H
         have c15b0 : (((rd_T23 l0 x4_2).f0) == ((rd_T23 l0 t281).f0) && (((rd_T23 l0 x4_2).f1) == ((rd_T23 l0 t281).f1))) = false := by simpa using c15
         (try (have c15b1 : decide (((rd_T23 l0 x4_2).f0) = ((rd_T23 l0 t281).f0) && (((rd_T23 l0 x4_2).f1) == ((rd_T23 l0 t281).f1))) = false := by simpa using c15))
         (try (have c15b2 : (((rd_T23 l0 x4_2).f0) == ((rd_T23 l0 t281).f0) && (((rd_T23 l0 x4_2).f1) == ((rd_T23 l0 t281).f1))) = false := by simpa using c15))
         (try (have c15b3 : ¬ (((rd_T23 l0 x4_2).f0) = ((rd_T23 l0 t281).f0) && (((rd_T23 l0 x4_2).f1) == ((rd_T23 l0 t281).f1))) := by simpa using c15))
         clear c15
         have H' := am H
         clear H
         have p280 : 0 ≤ (x4_2 : Int) := of_decide_eq_true (by assumption)
         have q280 : x4_2 < (l0.length : Int) := of_decide_eq_true (by assumption)
         obtain ⟨ad280, e280, hx280_0, hx280_1⟩ := at_T23 HR0.out x4_2 p280 q280
         cases e280
         replace hx280_0 := cl HB hx280_0
         replace hx280_1 := cl HB hx280_1
         replace p280 := eq_true p280
         replace q280 := eq_true q280
         go_wp2_with (first | (go_at_call 42; (with_reducible refine (r_next.calls _ _ l0 x4_2 t281 _ ?side1 ?side2 A12.out).mono ?_); (case side1 => repeat (first | exact (Kd.C_below HR0.out HB.out) | (with_reducible refine Kd.C_alloc ?_ _) | (with_reducible refine Kd.C_drewN ?_ _) | (with_reducible refine Kd.C_drew ?_))); (case side2 => exact HC0.out); rintro e w' ⟨rfl, ⟨nd, rfl⟩⟩; (try first | exact ⟨rfl, _, World.drewN_drewN _ _ _⟩ | exact ⟨rfl, _, Eq.trans (World.drewN_drewN _ _ _) (congrArg (World.drewN _) (Nat.add_assoc _ _ _))⟩); have p282 : 0 ≤ (t281 : Int) := of_decide_eq_true (by assumption); have q282 : t281 < (l0.length : Int) := of_decide_eq_true (by assumption); obtain ⟨ad282, e282, hx282_0, hx282_1⟩ := at_T23 HR0.out t281 p282 q282; obtain rfl : ad280 = ad282 := (by injection e282); replace hx282_0 := cl HB hx282_0; replace hx282_1 := cl HB hx282_1; replace p282 := eq_true p282; replace q282 := eq_true q282))
         repeat (go_quiet (first | (go_at_call 42; (with_reducible refine (r_next.calls _ _ l0 x4_2 t281 _ ?side1 ?side2 A12.out).mono ?_); (case side1 => repeat (first | exact (Kd.C_below HR0.out HB.out) | (with_reducible refine Kd.C_alloc ?_ _) | (with_reducible refine Kd.C_drewN ?_ _) | (with_reducible refine Kd.C_drew ?_))); (case side2 => exact HC0.out); rintro e w' ⟨rfl, ⟨nd, rfl⟩⟩; (try first | exact ⟨rfl, _, World.drewN_drewN _ _ _⟩ | exact ⟨rfl, _, Eq.trans (World.drewN_drewN _ _ _) (congrArg (World.drewN _) (Nat.add_assoc _ _ _))⟩); have p282 : 0 ≤ (t281 : Int) := of_decide_eq_true (by assumption); have q282 : t281 < (l0.length : Int) := of_decide_eq_true (by assumption); obtain ⟨ad282, e282, hx282_0, hx282_1⟩ := at_T23 HR0.out t281 p282 q282; obtain rfl : ad280 = ad282 := (by injection e282); replace hx282_0 := cl HB hx282_0; replace hx282_1 := cl HB hx282_1; replace p282 := eq_true p282; replace q282 := eq_true q282)); try go_wp2_with (first | (go_at_call 42; (with_reducible refine (r_next.calls _ _ l0 x4_2 t281 _ ?side1 ?side2 A12.out).mono ?_); (case side1 => repeat (first | exact (Kd.C_below HR0.out HB.out) | (with_reducible refine Kd.C_alloc ?_ _) | (with_reducible refine Kd.C_drewN ?_ _) | (with_reducible refine Kd.C_drew ?_))); (case side2 => exact HC0.out); rintro e w' ⟨rfl, ⟨nd, rfl⟩⟩; (try first | exact ⟨rfl, _, World.drewN_drewN _ _ _⟩ | exact ⟨rfl, _, Eq.trans (World.drewN_drewN _ _ _) (congrArg (World.drewN _) (Nat.add_assoc _ _ _))⟩); have p282 : 0 ≤ (t281 : Int) := of_decide_eq_true (by assumption); have q282 : t281 < (l0.length : Int) := of_decide_eq_true (by assumption); obtain ⟨ad282, e282, hx282_0, hx282_1⟩ := at_T23 HR0.out t281 p282 q282; obtain rfl : ad280 = ad282 := (by injection e282); replace hx282_0 := cl HB hx282_0; replace hx282_1 := cl HB hx282_1; replace p282 := eq_true p282; replace q282 := eq_true q282)))
         go_roundg k2
         case measure => have := HK1.out; have := HK2.out; omega
         case rel => exact ⟨(wrap64 (x4_2 + 1)), sqD, H', ⟨by have := HK1.out; have := HK2.out; omega⟩, ⟨fW HB.out⟩⟩
        ·rw [if_neg c10] at H
         have c10b0 : decide (x4_2 < (l0.length : Int)) = false := decide_eq_false c10
         clear c10
         obtain rfl := Option.some.inj H
         go_wp2
         repeat (go_quiet (fail); try go_wp2)
         go_ret
         exact ⟨sqE, fW HB.out⟩

def r_On.j0 : Nat → Bool → Option (Bool)
 | 0, _ => none
 | k + 1, x6 => some x6
def r_On.f (k : Nat) (a0_0 : Int) (a0_1 : Int) (a1_0 : Int) (a1_1 : Int) (a2_0 : Int) (a2_1 : Int) : Option (Bool) := (r_Orient.f a0_0 a0_1 a1_0 a1_1 a2_0 a2_1).bind fun t286 => (if t286 = 0 then (if (mn a0_0 a1_0) ≤ a2_0 then (if a2_0 ≤ (mx a0_0 a1_0) then (if (mn a0_1 a1_1) ≤ a2_1 then (r_On.j0 k (decide (a2_1 ≤ (mx a0_1 a1_1)))) else (r_On.j0 k false)) else (r_On.j0 k false)) else (r_On.j0 k false)) else (r_On.j0 k false))
set_option maxHeartbeats 8000000 in
set_option maxRecDepth 100000 in
theorem r_On.calls (k : Nat) (a0_0 : Int) (a0_1 : Int) (a1_0 : Int) (a1_1 : Int) (a2_0 : Int) (a2_1 : Int) (r : Bool) (w : World) (h : r_On.f k a0_0 a0_1 a1_0 a1_1 a2_0 a2_1 = some r) :
  Calls Try.prog 45 #[.agg #[.int .i64 a0_0, .int .i64 a0_1], .agg #[.int .i64 a1_0, .int .i64 a1_1], .agg #[.int .i64 a2_0, .int .i64 a2_1]] w fun e w' => e = .returned (.bool r) ∧ Below w.heap.size w w' := by
 have hu23 := Try.underlying23
 have HB := am (Below.refl w.heap.size w)
 have H : ((r_Orient.f a0_0 a0_1 a1_0 a1_1 a2_0 a2_1).bind fun t286 => (if t286 = 0 then (if (mn a0_0 a1_0) ≤ a2_0 then (if a2_0 ≤ (mx a0_0 a1_0) then (if (mn a0_1 a1_1) ≤ a2_1 then (r_On.j0 k (decide (a2_1 ≤ (mx a0_1 a1_1)))) else (r_On.j0 k false)) else (r_On.j0 k false)) else (r_On.j0 k false)) else (r_On.j0 k false))) = some r := h
 clear h
 have HC4 := am H
 clear H
 go_enter Try.func45, Try.ntmps45
 go_upto_region 1 with (first | ((with_reducible refine gate_dst (N := 3) rfl ?_); (try (refine gate_guard (by rfl) ?_; dsimp only)); refine be ?hg (N := 3) ?hd (cs := #[.int .i64 a0_0, .int .i64 a0_1]) (t := 23) ?hr ?_; (case hd | hg => rfl); (case hr => first | (go_simp; done) | (go_simp; rfl)); intro gb283 hg w5 hbox hb; have BK283 := am hbox; have GW283 := sG HB hg; have GE283 := sG HB hg; replace HB := bS HB hb; clear hb hbox hg) | ((with_reducible refine gate_dst (N := 4) rfl ?_); (try (refine gate_guard (by rfl) ?_; dsimp only)); refine be ?hg (N := 4) ?hd (cs := #[.int .i64 a1_0, .int .i64 a1_1]) (t := 23) ?hr ?_; (case hd | hg => rfl); (case hr => first | (go_simp; done) | (go_simp; rfl)); intro gb284 hg w6 hbox hb; have BK284 := am hbox; have GW284 := sG HB hg; have GE284 := sG HB hg; replace HB := bS HB hb; have NB283_284 := nL BK283 hg; have NB284_283 := nG BK283 hg; replace BK283 := bB BK283 hb; clear hb hbox hg) | ((with_reducible refine gate_dst (N := 5) rfl ?_); (try (refine gate_guard (by rfl) ?_; dsimp only)); refine be ?hg (N := 5) ?hd (cs := #[.int .i64 a2_0, .int .i64 a2_1]) (t := 23) ?hr ?_; (case hd | hg => rfl); (case hr => first | (go_simp; done) | (go_simp; rfl)); intro gb285 hg w7 hbox hb; have BK285 := am hbox; have GW285 := sG HB hg; have GE285 := sG HB hg; replace HB := bS HB hb; have NB283_285 := nL BK283 hg; have NB285_283 := nG BK283 hg; replace BK283 := bB BK283 hb; have NB284_285 := nL BK284 hg; have NB285_284 := nG BK284 hg; replace BK284 := bB BK284 hb; clear hb hbox hg))
 (try simp only [Act.put, psl])
 go_cut [6] (fun v6 wc => ∃ (kq : Nat) (x6_3 : Bool), v6 = .bool x6_3 ∧ Aside0 (r_On.j0 kq x6_3 = some r) ∧ Aside0 (kq ≤ k) ∧ Aside0 (wc.heap[gb283]? = some (.cells #[.int .i64 a0_0, .int .i64 a0_1] 23 (0, 0))) ∧ Aside0 (wc.heap[gb284]? = some (.cells #[.int .i64 a1_0, .int .i64 a1_1] 23 (0, 0))) ∧ Aside0 (wc.heap[gb285]? = some (.cells #[.int .i64 a2_0, .int .i64 a2_1] 23 (0, 0))) ∧ Aside0 (Below w.heap.size w wc))
 case first =>
  have H := HC4.out
  clear HC4
  replace H := Option.bind_eq_some_iff.mp H
  obtain ⟨t286, A80, H⟩ := H
  replace H : (if t286 = 0 then (if (mn a0_0 a1_0) ≤ a2_0 then (if a2_0 ≤ (mx a0_0 a1_0) then (if (mn a0_1 a1_1) ≤ a2_1 then (r_On.j0 k (decide (a2_1 ≤ (mx a0_1 a1_1)))) else (r_On.j0 k false)) else (r_On.j0 k false)) else (r_On.j0 k false)) else (r_On.j0 k false)) = some r := H
  have A8 := am A80
  clear A80
  by_cases c9 : t286 = 0
  rotate_left
  ·rw [if_neg c9] at H
   have c9b0 : (t286 == 0) = false := beq_eq_false_iff_ne.mpr c9
   have c9b1 : (t286 != 0) = true := bne_iff_ne.mpr c9
   (first | rw [c9b0] | (simp only [i64_w, i32_w]; rw [c9b0]) | skip)
   have H' := am H
   clear H
   have hnb57 := NB283_284.out
   have hnc57 := NB284_283.out
   have hnb58 := NB283_285.out
   have hnc58 := NB285_283.out
   have := yC1 BK283
   have := kC1 BK283
   have := bf BK283.out 0
   have := bf BK283.out 1
   have hnb60 := NB284_285.out
   have hnc60 := NB285_284.out
   have := yC1 BK284
   have := kC1 BK284
   have := bf BK284.out 0
   have := bf BK284.out 1
   have := yC1 BK285
   have := kC1 BK285
   have := bf BK285.out 0
   have := bf BK285.out 1
   go_wp2_with (first | ((with_reducible refine gc (f := 14) rfl ?_); refine goesL_ (some 10) rfl rfl Try.func14 (by kernel_rfl) rfl #[.agg #[.int .i64 a0_0, .int .i64 a0_1], .agg #[.int .i64 a1_0, .int .i64 a1_1], .agg #[.int .i64 a2_0, .int .i64 a2_1]] rfl (by (try simp only [pml]); first | done | rfl | (simp only [pdt]; rfl)) ?_; (with_reducible refine (r_Orient.calls a0_0 a0_1 a1_0 a1_1 a2_0 a2_1 t286 _ A8.out).mono ?_); rintro e w63 ⟨rfl, hb⟩; refine ⟨_, rfl, ?_⟩; replace BK283 := bB BK283 hb; replace BK284 := bB BK284 hb; replace BK285 := bB BK285 hb; replace HB := bS HB hb; (try clear hb); (try clear hb2); (try clear hk); (try clear hi)))
   go_meet
   case rel => exact ⟨_, (false), sqD, H', ⟨by first | omega | exact Nat.le_refl _⟩, ⟨fb BK283.out⟩, ⟨fb BK284.out⟩, ⟨fb BK285.out⟩, ⟨fW HB.out⟩⟩
  rw [if_pos c9] at H
  have c9b0 : (t286 == 0) = true := beq_iff_eq.mpr c9
  have c9b1 : (t286 != 0) = false := bne_eq_false_iff_eq.mpr c9
  clear c9
  (first | rw [c9b0] | (simp only [i64_w, i32_w]; rw [c9b0]) | skip)
  obtain ⟨ji10, hji10⟩ : ∃ j_ : Int, (mn a0_0 a1_0) = j_ := ⟨_, rfl⟩
  replace H : (if (ji10) ≤ a2_0 then (if a2_0 ≤ (mx a0_0 a1_0) then (if (mn a0_1 a1_1) ≤ a2_1 then (r_On.j0 k (decide (a2_1 ≤ (mx a0_1 a1_1)))) else (r_On.j0 k false)) else (r_On.j0 k false)) else (r_On.j0 k false)) = some r := by first | (rw [hji10] at H; exact H) | (simp only [hji10] at H ⊢; exact H)
  (try rw [hji10] at A8)
  have hji10_ : (if a1_0 < a0_0 then a1_0 else a0_0) = ji10 := hji10
  by_cases c11 : (ji10) ≤ a2_0
  rotate_left
  ·rw [if_neg c11] at H
   have c11b0 : decide ((ji10) ≤ a2_0) = false := decide_eq_false c11
   clear c11
   have H' := am H
   clear H
   have hnb47 := NB283_284.out
   have hnc47 := NB284_283.out
   have hnb48 := NB283_285.out
   have hnc48 := NB285_283.out
   have := yC1 BK283
   have := kC1 BK283
   have := bf BK283.out 0
   have := bf BK283.out 1
   have hnb50 := NB284_285.out
   have hnc50 := NB285_284.out
   have := yC1 BK284
   have := kC1 BK284
   have := bf BK284.out 0
   have := bf BK284.out 1
   have := yC1 BK285
   have := kC1 BK285
   have := bf BK285.out 0
   have := bf BK285.out 1
   go_wp2_with (first | ((with_reducible refine gc (f := 14) rfl ?_); refine goesL_ (some 10) rfl rfl Try.func14 (by kernel_rfl) rfl #[.agg #[.int .i64 a0_0, .int .i64 a0_1], .agg #[.int .i64 a1_0, .int .i64 a1_1], .agg #[.int .i64 a2_0, .int .i64 a2_1]] rfl (by (try simp only [pml]); first | done | rfl | (simp only [pdt]; rfl)) ?_; (with_reducible refine (r_Orient.calls a0_0 a0_1 a1_0 a1_1 a2_0 a2_1 t286 _ A8.out).mono ?_); rintro e w53 ⟨rfl, hb⟩; refine ⟨_, rfl, ?_⟩; replace BK283 := bB BK283 hb; replace BK284 := bB BK284 hb; replace BK285 := bB BK285 hb; replace HB := bS HB hb; (try clear hb); (try clear hb2); (try clear hk); (try clear hi); obtain ⟨_, _, _, _⟩ := zC2 BK283; obtain ⟨_, _, _, _⟩ := zC2 BK284; obtain ⟨_, _, _, _⟩ := zC2 BK285))
   go_meet
   case rel => exact ⟨_, (false), sqD, H', ⟨by first | omega | exact Nat.le_refl _⟩, ⟨fb BK283.out⟩, ⟨fb BK284.out⟩, ⟨fb BK285.out⟩, ⟨fW HB.out⟩⟩
  rw [if_pos c11] at H
  have c11b0 : decide ((ji10) ≤ a2_0) = true := decide_eq_true c11
  clear c11
  obtain ⟨ji12, hji12⟩ : ∃ j_ : Int, (mx a0_0 a1_0) = j_ := ⟨_, rfl⟩
  replace H : (if a2_0 ≤ (ji12) then (if (mn a0_1 a1_1) ≤ a2_1 then (r_On.j0 k (decide (a2_1 ≤ (mx a0_1 a1_1)))) else (r_On.j0 k false)) else (r_On.j0 k false)) = some r := by first | (rw [hji12] at H; exact H) | (simp only [hji12] at H ⊢; exact H)
  (try rw [hji12] at A8)
  have hji12_ : (if a0_0 < a1_0 then a1_0 else a0_0) = ji12 := hji12
  by_cases c13 : a2_0 ≤ (ji12)
  rotate_left
  ·rw [if_neg c13] at H
   have c13b0 : decide (a2_0 ≤ (ji12)) = false := decide_eq_false c13
   clear c13
   have H' := am H
   clear H
   have hnb37 := NB283_284.out
   have hnc37 := NB284_283.out
   have hnb38 := NB283_285.out
   have hnc38 := NB285_283.out
   have := yC1 BK283
   have := kC1 BK283
   have := bf BK283.out 0
   have := bf BK283.out 1
   have hnb40 := NB284_285.out
   have hnc40 := NB285_284.out
   have := yC1 BK284
   have := kC1 BK284
   have := bf BK284.out 0
   have := bf BK284.out 1
   have := yC1 BK285
   have := kC1 BK285
   have := bf BK285.out 0
   have := bf BK285.out 1
   go_wp2_with (first | ((with_reducible refine gc (f := 14) rfl ?_); refine goesL_ (some 10) rfl rfl Try.func14 (by kernel_rfl) rfl #[.agg #[.int .i64 a0_0, .int .i64 a0_1], .agg #[.int .i64 a1_0, .int .i64 a1_1], .agg #[.int .i64 a2_0, .int .i64 a2_1]] rfl (by (try simp only [pml]); first | done | rfl | (simp only [pdt]; rfl)) ?_; (with_reducible refine (r_Orient.calls a0_0 a0_1 a1_0 a1_1 a2_0 a2_1 t286 _ A8.out).mono ?_); rintro e w43 ⟨rfl, hb⟩; refine ⟨_, rfl, ?_⟩; replace BK283 := bB BK283 hb; replace BK284 := bB BK284 hb; replace BK285 := bB BK285 hb; replace HB := bS HB hb; (try clear hb); (try clear hb2); (try clear hk); (try clear hi); obtain ⟨_, _, _, _⟩ := zC2 BK283; obtain ⟨_, _, _, _⟩ := zC2 BK284; obtain ⟨_, _, _, _⟩ := zC2 BK285))
   go_meet
   case rel => exact ⟨_, (false), sqD, H', ⟨by first | omega | exact Nat.le_refl _⟩, ⟨fb BK283.out⟩, ⟨fb BK284.out⟩, ⟨fb BK285.out⟩, ⟨fW HB.out⟩⟩
  rw [if_pos c13] at H
  have c13b0 : decide (a2_0 ≤ (ji12)) = true := decide_eq_true c13
  clear c13
  obtain ⟨ji14, hji14⟩ : ∃ j_ : Int, (mn a0_1 a1_1) = j_ := ⟨_, rfl⟩
  replace H : (if (ji14) ≤ a2_1 then (r_On.j0 k (decide (a2_1 ≤ (mx a0_1 a1_1)))) else (r_On.j0 k false)) = some r := by first | (rw [hji14] at H; exact H) | (simp only [hji14] at H ⊢; exact H)
  (try rw [hji14] at A8)
  have hji14_ : (if a1_1 < a0_1 then a1_1 else a0_1) = ji14 := hji14
  by_cases c15 : (ji14) ≤ a2_1
  ·rw [if_pos c15] at H
   have c15b0 : decide ((ji14) ≤ a2_1) = true := decide_eq_true c15
   clear c15
   obtain ⟨ji16, hji16⟩ : ∃ j_ : Int, (mx a0_1 a1_1) = j_ := ⟨_, rfl⟩
   replace H : (r_On.j0 k (decide (a2_1 ≤ (ji16)))) = some r := by first | (rw [hji16] at H; exact H) | (simp only [hji16] at H ⊢; exact H)
   (try rw [hji16] at A8)
   have hji16_ : (if a0_1 < a1_1 then a1_1 else a0_1) = ji16 := hji16
   have H' := am H
   clear H
   have hnb17 := NB283_284.out
   have hnc17 := NB284_283.out
   have hnb18 := NB283_285.out
   have hnc18 := NB285_283.out
   have := yC1 BK283
   have := kC1 BK283
   have := bf BK283.out 0
   have := bf BK283.out 1
   have hnb20 := NB284_285.out
   have hnc20 := NB285_284.out
   have := yC1 BK284
   have := kC1 BK284
   have := bf BK284.out 0
   have := bf BK284.out 1
   have := yC1 BK285
   have := kC1 BK285
   have := bf BK285.out 0
   have := bf BK285.out 1
   go_wp2_with (first | ((with_reducible refine gc (f := 14) rfl ?_); refine goesL_ (some 10) rfl rfl Try.func14 (by kernel_rfl) rfl #[.agg #[.int .i64 a0_0, .int .i64 a0_1], .agg #[.int .i64 a1_0, .int .i64 a1_1], .agg #[.int .i64 a2_0, .int .i64 a2_1]] rfl (by (try simp only [pml]); first | done | rfl | (simp only [pdt]; rfl)) ?_; (with_reducible refine (r_Orient.calls a0_0 a0_1 a1_0 a1_1 a2_0 a2_1 t286 _ A8.out).mono ?_); rintro e w23 ⟨rfl, hb⟩; refine ⟨_, rfl, ?_⟩; replace BK283 := bB BK283 hb; replace BK284 := bB BK284 hb; replace BK285 := bB BK285 hb; replace HB := bS HB hb; (try clear hb); (try clear hb2); (try clear hk); (try clear hi); obtain ⟨_, _, _, _⟩ := zC2 BK283; obtain ⟨_, _, _, _⟩ := zC2 BK284; obtain ⟨_, _, _, _⟩ := zC2 BK285))
   go_meet
   case rel => exact ⟨_, (decide (a2_1 ≤ (ji16))), (by first | rfl | (simp; done) | (simp only [← hji16] <;> (first | rfl | simp)) | (simp [*]; done)), H', ⟨by first | omega | exact Nat.le_refl _⟩, ⟨fb BK283.out⟩, ⟨fb BK284.out⟩, ⟨fb BK285.out⟩, ⟨fW HB.out⟩⟩
  rw [if_neg c15] at H
  have c15b0 : decide ((ji14) ≤ a2_1) = false := decide_eq_false c15
  clear c15
  have H' := am H
  clear H
  have hnb27 := NB283_284.out
  have hnc27 := NB284_283.out
  have hnb28 := NB283_285.out
  have hnc28 := NB285_283.out
  have := yC1 BK283
  have := kC1 BK283
  have := bf BK283.out 0
  have := bf BK283.out 1
  have hnb30 := NB284_285.out
  have hnc30 := NB285_284.out
  have := yC1 BK284
  have := kC1 BK284
  have := bf BK284.out 0
  have := bf BK284.out 1
  have := yC1 BK285
  have := kC1 BK285
  have := bf BK285.out 0
  have := bf BK285.out 1
  go_wp2_with (first | ((with_reducible refine gc (f := 14) rfl ?_); refine goesL_ (some 10) rfl rfl Try.func14 (by kernel_rfl) rfl #[.agg #[.int .i64 a0_0, .int .i64 a0_1], .agg #[.int .i64 a1_0, .int .i64 a1_1], .agg #[.int .i64 a2_0, .int .i64 a2_1]] rfl (by (try simp only [pml]); first | done | rfl | (simp only [pdt]; rfl)) ?_; (with_reducible refine (r_Orient.calls a0_0 a0_1 a1_0 a1_1 a2_0 a2_1 t286 _ A8.out).mono ?_); rintro e w33 ⟨rfl, hb⟩; refine ⟨_, rfl, ?_⟩; replace BK283 := bB BK283 hb; replace BK284 := bB BK284 hb; replace BK285 := bB BK285 hb; replace HB := bS HB hb; (try clear hb); (try clear hb2); (try clear hk); (try clear hi); obtain ⟨_, _, _, _⟩ := zC2 BK283; obtain ⟨_, _, _, _⟩ := zC2 BK284; obtain ⟨_, _, _, _⟩ := zC2 BK285))
  go_meet
  case rel => exact ⟨_, (false), sqD, H', ⟨by first | omega | exact Nat.le_refl _⟩, ⟨fb BK283.out⟩, ⟨fb BK284.out⟩, ⟨fb BK285.out⟩, ⟨fW HB.out⟩⟩
 case rest =>
  clear HC4
  try clear c1;try clear c2;try clear p2;try clear c3;try clear c4;try clear c5;try clear c6;try clear c9;try clear c9b0;try clear c9b1;try clear c11;try clear c11b0;try clear c13;try clear c13b0;try clear c14;try clear c15;try clear c15b0;try clear c17;try clear c18;try clear c20;try clear c27;try clear c28;try clear c30;try clear c37;try clear c38;try clear c40;try clear c45;try clear c47;try clear c48;try clear c50;try clear c57;try clear c58;try clear c60
  obtain ⟨kq, x6_3, rfl, HA, HJ3, BK283, BK284, BK285, HB⟩ := hcut
  cases kq with
  | zero => exact absurd HA.out (by simp [r_On.j0])
  | succ kj3 =>
   have H := HA.out
   clear HA
   simp only [r_On.j0] at H
   obtain rfl := Option.some.inj H
   go_wp2
   go_ret
   exact ⟨sqE, fW HB.out⟩

def r_back.f (k : Nat) (a0_0 : Int) (a0_1 : Int) (a1_0 : Int) (a1_1 : Int) (a2_0 : Int) (a2_1 : Int) : Option (Bool) := (r_On.f k a0_0 a0_1 a1_0 a1_1 a2_0 a2_1).bind fun t290 => (if t290 = true then (some true) else ((r_On.f k a1_0 a1_1 a2_0 a2_1 a0_0 a0_1).bind fun t291 => (some t291)))
set_option maxHeartbeats 8000000 in
set_option maxRecDepth 100000 in
theorem r_back.calls (k : Nat) (a0_0 : Int) (a0_1 : Int) (a1_0 : Int) (a1_1 : Int) (a2_0 : Int) (a2_1 : Int) (r : Bool) (w : World) (h : r_back.f k a0_0 a0_1 a1_0 a1_1 a2_0 a2_1 = some r) :
  Calls Try.prog 43 #[.agg #[.int .i64 a0_0, .int .i64 a0_1], .agg #[.int .i64 a1_0, .int .i64 a1_1], .agg #[.int .i64 a2_0, .int .i64 a2_1]] w fun e w' => e = .returned (.bool r) ∧ Below w.heap.size w w' := by
 have hu23 := Try.underlying23
 have HB := am (Below.refl w.heap.size w)
 have H : ((r_On.f k a0_0 a0_1 a1_0 a1_1 a2_0 a2_1).bind fun t290 => (if t290 = true then (some true) else ((r_On.f k a1_0 a1_1 a2_0 a2_1 a0_0 a0_1).bind fun t291 => (some t291)))) = some r := h
 clear h
 replace H := Option.bind_eq_some_iff.mp H
 obtain ⟨t290, A40, H⟩ := H
 replace H : (if t290 = true then (some true) else ((r_On.f k a1_0 a1_1 a2_0 a2_1 a0_0 a0_1).bind fun t291 => (some t291))) = some r := H
 have A4 := am A40
 clear A40
 by_cases c5 : t290 = true
 ·subst c5
  have H1 : (some true) = some r := by rw [if_pos rfl] at H; exact H
  clear H
  have H := H1
  clear H1
  obtain rfl := Option.some.inj H
  go_enter Try.func43, Try.ntmps43
  go_wp2_with (first | ((with_reducible refine gate_dst (N := 3) rfl ?_); refine be ?hg (N := 3) ?hd (cs := #[.int .i64 a0_0, .int .i64 a0_1]) (t := 23) ?hr ?_; (case hd | hg => rfl); (case hr => first | (go_simp; done) | (go_simp; rfl)); intro gb287 hg w6 hbox hb; have BK287 := am hbox; have GW287 := sG HB hg; have GE287 := sG HB hg; replace HB := bS HB hb; clear hb hbox hg) | ((with_reducible refine gate_dst (N := 4) rfl ?_); refine be ?hg (N := 4) ?hd (cs := #[.int .i64 a1_0, .int .i64 a1_1]) (t := 23) ?hr ?_; (case hd | hg => rfl); (case hr => first | (go_simp; done) | (go_simp; rfl)); intro gb288 hg w7 hbox hb; have BK288 := am hbox; have GW288 := sG HB hg; have GE288 := sG HB hg; replace HB := bS HB hb; have NB287_288 := nL BK287 hg; have NB288_287 := nG BK287 hg; replace BK287 := bB BK287 hb; clear hb hbox hg) | ((with_reducible refine gate_dst (N := 5) rfl ?_); refine be ?hg (N := 5) ?hd (cs := #[.int .i64 a2_0, .int .i64 a2_1]) (t := 23) ?hr ?_; (case hd | hg => rfl); (case hr => first | (go_simp; done) | (go_simp; rfl)); intro gb289 hg w8 hbox hb; have BK289 := am hbox; have GW289 := sG HB hg; have GE289 := sG HB hg; replace HB := bS HB hb; have NB287_289 := nL BK287 hg; have NB289_287 := nG BK287 hg; replace BK287 := bB BK287 hb; have NB288_289 := nL BK288 hg; have NB289_288 := nG BK288 hg; replace BK288 := bB BK288 hb; clear hb hbox hg; have hnb9 := NB287_288.out; have hnc9 := NB288_287.out; have hnb10 := NB287_289.out; have hnc10 := NB289_287.out; obtain ⟨_, _, _, _⟩ := zC2 BK287; have hnb12 := NB288_289.out; have hnc12 := NB289_288.out; obtain ⟨_, _, _, _⟩ := zC2 BK288; obtain ⟨_, _, _, _⟩ := zC2 BK289) | ((with_reducible refine gc (f := 45) rfl ?_); refine goesL_ (some 10) rfl rfl Try.func45 (by kernel_rfl) rfl #[.agg #[.int .i64 a0_0, .int .i64 a0_1], .agg #[.int .i64 a1_0, .int .i64 a1_1], .agg #[.int .i64 a2_0, .int .i64 a2_1]] rfl (by (try simp only [pml]); first | done | rfl | (simp only [pdt]; rfl)) ?_; (with_reducible refine (r_On.calls k a0_0 a0_1 a1_0 a1_1 a2_0 a2_1 true _ A4.out).mono ?_); rintro e w15 ⟨rfl, hb⟩; refine ⟨_, rfl, ?_⟩; replace BK287 := bB BK287 hb; replace BK288 := bB BK288 hb; replace BK289 := bB BK289 hb; replace HB := bS HB hb; (try clear hb); (try clear hb2); (try clear hk); (try clear hi)))
  go_ret
  exact ⟨sqE, fW HB.out⟩
 ·replace c5 := Bool.eq_false_iff.mpr c5
  subst c5
  have H1 : ((r_On.f k a1_0 a1_1 a2_0 a2_1 a0_0 a0_1).bind fun t291 => (some t291)) = some r := by rw [if_neg (show ¬ (false = true) by decide)] at H; exact H
  clear H
  have H := H1
  clear H1
  replace H := Option.bind_eq_some_iff.mp H
  obtain ⟨t291, A160, H⟩ := H
  replace H : (some t291) = some r := H
  have A16 := am A160
  clear A160
  obtain rfl := Option.some.inj H
  go_enter Try.func43, Try.ntmps43
  go_wp2_with (first | ((with_reducible refine gate_dst (N := 3) rfl ?_); refine be ?hg (N := 3) ?hd (cs := #[.int .i64 a0_0, .int .i64 a0_1]) (t := 23) ?hr ?_; (case hd | hg => rfl); (case hr => first | (go_simp; done) | (go_simp; rfl)); intro gb287 hg w17 hbox hb; have BK287 := am hbox; have GW287 := sG HB hg; have GE287 := sG HB hg; replace HB := bS HB hb; clear hb hbox hg) | ((with_reducible refine gate_dst (N := 4) rfl ?_); refine be ?hg (N := 4) ?hd (cs := #[.int .i64 a1_0, .int .i64 a1_1]) (t := 23) ?hr ?_; (case hd | hg => rfl); (case hr => first | (go_simp; done) | (go_simp; rfl)); intro gb288 hg w18 hbox hb; have BK288 := am hbox; have GW288 := sG HB hg; have GE288 := sG HB hg; replace HB := bS HB hb; have NB287_288 := nL BK287 hg; have NB288_287 := nG BK287 hg; replace BK287 := bB BK287 hb; clear hb hbox hg) | ((with_reducible refine gate_dst (N := 5) rfl ?_); refine be ?hg (N := 5) ?hd (cs := #[.int .i64 a2_0, .int .i64 a2_1]) (t := 23) ?hr ?_; (case hd | hg => rfl); (case hr => first | (go_simp; done) | (go_simp; rfl)); intro gb289 hg w19 hbox hb; have BK289 := am hbox; have GW289 := sG HB hg; have GE289 := sG HB hg; replace HB := bS HB hb; have NB287_289 := nL BK287 hg; have NB289_287 := nG BK287 hg; replace BK287 := bB BK287 hb; have NB288_289 := nL BK288 hg; have NB289_288 := nG BK288 hg; replace BK288 := bB BK288 hb; clear hb hbox hg; have hnb20 := NB287_288.out; have hnc20 := NB288_287.out; have hnb21 := NB287_289.out; have hnc21 := NB289_287.out; obtain ⟨_, _, _, _⟩ := zC2 BK287; have hnb23 := NB288_289.out; have hnc23 := NB289_288.out; obtain ⟨_, _, _, _⟩ := zC2 BK288; obtain ⟨_, _, _, _⟩ := zC2 BK289) | ((with_reducible refine gc (f := 45) rfl ?_); refine goesL_ (some 10) rfl rfl Try.func45 (by kernel_rfl) rfl #[.agg #[.int .i64 a0_0, .int .i64 a0_1], .agg #[.int .i64 a1_0, .int .i64 a1_1], .agg #[.int .i64 a2_0, .int .i64 a2_1]] rfl (by (try simp only [pml]); first | done | rfl | (simp only [pdt]; rfl)) ?_; (with_reducible refine (r_On.calls k a0_0 a0_1 a1_0 a1_1 a2_0 a2_1 false _ A4.out).mono ?_); rintro e w26 ⟨rfl, hb⟩; refine ⟨_, rfl, ?_⟩; replace BK287 := bB BK287 hb; replace BK288 := bB BK288 hb; replace BK289 := bB BK289 hb; replace HB := bS HB hb; (try clear hb); (try clear hb2); (try clear hk); (try clear hi); obtain ⟨_, _, _, _⟩ := zC2 BK288; obtain ⟨_, _, _, _⟩ := zC2 BK289; obtain ⟨_, _, _, _⟩ := zC2 BK287) | (go_at_call 45; (with_reducible refine (r_On.calls k a1_0 a1_1 a2_0 a2_1 a0_0 a0_1 t291 _ A16.out).mono ?_); rintro e w30 ⟨rfl, hb⟩; replace BK287 := bB BK287 hb; replace BK288 := bB BK288 hb; replace BK289 := bB BK289 hb; replace HB := bS HB hb; (try clear hb); (try clear hb2); (try clear hk); (try clear hi)))
  go_ret
  exact ⟨sqE, fW HB.out⟩

end Go.Proofs.Ytcembjgpcbodcaa.QA
