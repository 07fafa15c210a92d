import Derived.Test.YtcofgnbopodahaaJQAx0
import Derived.Test.YtcofgnbopodahaaJQAx11
import Derived.Test.YtcofgnbopodahaaJQAx12
namespace Go.Proofs.Ytcofgnbopodahaa.QA
open Go.RowKit Go.Proofs.YtcofgnbopodahaaW.PrintWords Go.Proofs.YtcofgnbopodahaaW.PrintLast Go.Proofs.YtcofgnbopodahaaW.PrintMore
open Aside0 renaming mk → am
attribute [local go_sem] max2_int min2_int max_two min_two max_three min_three max_four min_four
set_option linter.unusedVariables false
set_option linter.unusedSimpArgs false

mutual
def r_Check.l0 : Nat → List (S68) → Int → Option (Int)
 | 0, _, _ => none
 | k + 1, x0, x3 => if x3 < (x0.length : Int) then (if 0 ≤ x3 then ((r_Label.f k ((rd_T68 x0 x3).f0)).bind fun t187 => (if t187 = true then (r_Check.l0 k x0 (wrap64 (x3 + 1))) else (some 4))) else (none)) else (r_Check.l1 k x0 0)
def r_Check.l1 : Nat → List (S68) → Int → Option (Int)
 | 0, _, _ => none
 | k + 1, x0, x4 => if x4 < (x0.length : Int) then (if 0 ≤ x4 then ((r06_Check.f k ((rd_T68 x0 x4).f1.f0.f0) ((rd_T68 x0 x4).f1.f0.f1) ((rd_T68 x0 x4).f1.f0.f2) ((rd_T68 x0 x4).f1.f1.f0) ((rd_T68 x0 x4).f1.f1.f1) ((rd_T68 x0 x4).f1.f1.f2)).bind fun t189 => (if t189 = 0 then (r_Check.l1 k x0 (wrap64 (x4 + 1))) else (some t189))) else (none)) else (r_Check.l2 k x0 0)
def r_Check.l2 : Nat → List (S68) → Int → Option (Int)
 | 0, _, _ => none
 | k + 1, x0, x6 => if x6 < (x0.length : Int) then (if 0 ≤ x6 then (if ((rd_T68 x0 x6).f2) = 1 then (r_Check.j3 k x0 x6) else (if ((rd_T68 x0 x6).f2) = 2 then (r_Check.j3 k x0 x6) else (some 1))) else (none)) else (some 0)
def r_Check.j3 : Nat → List (S68) → Int → Option (Int)
 | 0, _, _ => none
 | k + 1, x0, x6 => r_Check.l2 k x0 (wrap64 (x6 + 1))
end
def r_Check.f (k : Nat) (l0 : List (S68)) : Option (Int) := if (l0.length : Int) > 256 then (some 7) else (r_Check.l0 k l0 0)
set_option maxHeartbeats 8000000 in
set_option maxRecDepth 100000 in
theorem r_Check.calls (k : Nat) (A0 : Option Addr) (c0 : Nat) (l0 : List (S68)) (r : Int) (w : World) (hr0 : Kd.C k68 w A0 l0.length l0) (hc0 : l0.length ≤ c0) (h : r_Check.f k l0 = some r) :
  Calls Try.prog 12 #[.slice A0 l0.length c0] w fun e w' => e = .returned (.int .i64 r) ∧ Below w.heap.size w w' := by
 have hu43 := Try.underlying43
 have HR0 := am hr0
 have HC0 := am hc0
 clear hr0 hc0
 have HB := am (Below.refl w.heap.size w)
 have H : (if (l0.length : Int) > 256 then (some 7) else (r_Check.l0 k l0 0)) = some r := h
 clear h
 by_cases c2 : (l0.length : Int) > 256
 ·rw [if_pos c2] at H
  have c2b0 : decide (256 < (l0.length : Int)) = true := decide_eq_true c2
  have c2b1 : decide (256 < l0.length) = true := decide_eq_true (by omega)
  clear c2
  obtain rfl := Option.some.inj H
  go_enter Try.func12, Try.ntmps12
  go_wp2
  go_ret
  exact ⟨sqE, fW HB.out⟩
 ·rw [if_neg c2] at H
  have c2b0 : decide (256 < (l0.length : Int)) = false := decide_eq_false c2
  have c2b1 : decide (256 < l0.length) = false := decide_eq_false (by omega)
  clear c2
  have H' := am H
  clear H
  go_enter Try.func12, Try.ntmps12
  go_wp2
  go_loopg [3] k (fun kq v3 w' => ∃ (x3_1 : Int), v3 = .int .i64 x3_1 ∧ Aside0 (r_Check.l0 kq l0 x3_1 = some r) ∧ Aside0 (kq ≤ k) ∧ Aside0 (Below w.heap.size w w'))
  case atStart => exact ⟨(0), sqD, H', ⟨Nat.le_refl _⟩, ⟨fW HB.out⟩⟩
  case round =>
   clear H'
   try clear c1;try clear c2;try clear c2b0;try clear c2b1;try clear p2
   obtain ⟨x3_1, rfl, HA, HK1, HB⟩ := hrel
   cases gk with
   | zero => exact absurd HA.out (by simp [r_Check.l0])
   | succ k1 =>
    have H := HA.out
    clear HA
    simp only [r_Check.l0] at H
    by_cases c3 : x3_1 < (l0.length : Int)
    ·rw [if_pos c3] at H
     have c3b0 : decide (x3_1 < (l0.length : Int)) = true := decide_eq_true c3
     clear c3
     by_cases c4 : 0 ≤ x3_1
     rotate_left
     ·rw [if_neg c4] at H
      exact absurd H (by simp)
     rw [if_pos c4] at H
     have c4b0 : decide (0 ≤ x3_1) = true := decide_eq_true c4
     clear c4
     replace H := Option.bind_eq_some_iff.mp H
     obtain ⟨t187, A50, H⟩ := H
     replace H : (if t187 = true then (r_Check.l0 k1 l0 (wrap64 (x3_1 + 1))) else (some 4)) = some r := H
     have A5 := am A50
     clear A50
     by_cases c6 : t187 = true
     ·subst c6
      have H1 : (r_Check.l0 k1 l0 (wrap64 (x3_1 + 1))) = some r := by rw [if_pos rfl] at H; exact H
      clear H
      have H := H1
      clear H1
      have H' := am H
      clear H
      have p186 : 0 ≤ (x3_1 : Int) := of_decide_eq_true (by assumption)
      have q186 : x3_1 < (l0.length : Int) := of_decide_eq_true (by assumption)
      obtain ⟨ad186, e186, hx186_0, hx186_1, hx186_2, hx186_3, hx186_4, hx186_5, hx186_6, hx186_7⟩ := at_T68 HR0.out x3_1 p186 q186
      cases e186
      replace hx186_0 := cl HB hx186_0
      replace hx186_1 := cl HB hx186_1
      replace hx186_2 := cl HB hx186_2
      replace hx186_3 := cl HB hx186_3
      replace hx186_4 := cl HB hx186_4
      replace hx186_5 := cl HB hx186_5
      replace hx186_6 := cl HB hx186_6
      replace hx186_7 := cl HB hx186_7
      replace p186 := eq_true p186
      replace q186 := eq_true q186
      go_wp2_with (first | ((with_reducible refine gate_callee (f := 35) rfl ?_); refine goesL_ (some 21) rfl rfl Try.func35 (by kernel_rfl) rfl #[.string ((rd_T68 l0 x3_1).f0)] rfl (by (try simp only [pml]); first | done | rfl | (simp only [pdt]; rfl)) ?_; (with_reducible refine (r_Label.calls k1 ((rd_T68 l0 x3_1).f0) true _ A5.out).mono ?_); rintro e w' ⟨rfl, ⟨nd, rfl⟩⟩; refine ⟨_, rfl, ?_⟩))
      go_roundg k1
      case measure => have := HK1.out; omega
      case rel => exact ⟨(wrap64 (x3_1 + 1)), sqD, H', ⟨by have := HK1.out; omega⟩, ⟨fW HB.out⟩⟩
     replace c6 := Bool.eq_false_iff.mpr c6
     subst c6
     have H1 : (some 4) = some r := by rw [if_neg (show ¬ (false = true) by decide)] at H; exact H
     clear H
     have H := H1
     clear H1
     obtain rfl := Option.some.inj H
     have p186 : 0 ≤ (x3_1 : Int) := of_decide_eq_true (by assumption)
     have q186 : x3_1 < (l0.length : Int) := of_decide_eq_true (by assumption)
     obtain ⟨ad186, e186, hx186_0, hx186_1, hx186_2, hx186_3, hx186_4, hx186_5, hx186_6, hx186_7⟩ := at_T68 HR0.out x3_1 p186 q186
     cases e186
     replace hx186_0 := cl HB hx186_0
     replace hx186_1 := cl HB hx186_1
     replace hx186_2 := cl HB hx186_2
     replace hx186_3 := cl HB hx186_3
     replace hx186_4 := cl HB hx186_4
     replace hx186_5 := cl HB hx186_5
     replace hx186_6 := cl HB hx186_6
     replace hx186_7 := cl HB hx186_7
     replace p186 := eq_true p186
     replace q186 := eq_true q186
     go_wp2_with (first | ((with_reducible refine gate_callee (f := 35) rfl ?_); refine goesL_ (some 21) rfl rfl Try.func35 (by kernel_rfl) rfl #[.string ((rd_T68 l0 x3_1).f0)] rfl (by (try simp only [pml]); first | done | rfl | (simp only [pdt]; rfl)) ?_; (with_reducible refine (r_Label.calls k1 ((rd_T68 l0 x3_1).f0) false _ A5.out).mono ?_); rintro e w' ⟨rfl, ⟨nd, rfl⟩⟩; refine ⟨_, rfl, ?_⟩))
     go_ret
     exact ⟨sqE, fW HB.out⟩
    ·rw [if_neg c3] at H
     have c3b0 : decide (x3_1 < (l0.length : Int)) = false := decide_eq_false c3
     clear c3
     have H' := am H
     clear H
     go_wp2
     go_loopg [4] k1 (fun kq v4 w' => ∃ (x4_2 : Int), v4 = .int .i64 x4_2 ∧ Aside0 (r_Check.l1 kq l0 x4_2 = some r) ∧ Aside0 (kq ≤ k1) ∧ Aside0 (Below w.heap.size w w'))
     case atStart => exact ⟨(0), sqD, H', ⟨Nat.le_refl _⟩, ⟨fW HB.out⟩⟩
     case round =>
      clear H'
      try clear c1;try clear p1;try clear q1;try clear hx1;try clear c2;try clear c2b0;try clear c2b1;try clear p2;try clear c3;try clear c3b0;try clear c4;try clear c4b0;try clear c6;try clear p6;try clear hx186_0;try clear hx186_1;try clear hx186_2;try clear hx186_3;try clear hx186_4;try clear hx186_5;try clear hx186_6;try clear hx186_7;try clear p186;try clear p2;try clear q186
      obtain ⟨x4_2, rfl, HA, HK2, HB⟩ := hrel
      cases gk with
      | zero => exact absurd HA.out (by simp [r_Check.l1])
      | succ k2 =>
       have H := HA.out
       clear HA
       simp only [r_Check.l1] at H
       by_cases c7 : x4_2 < (l0.length : Int)
       ·rw [if_pos c7] at H
        have c7b0 : decide (x4_2 < (l0.length : Int)) = true := decide_eq_true c7
        clear c7
        by_cases c8 : 0 ≤ x4_2
        rotate_left
        ·rw [if_neg c8] at H
         exact absurd H (by simp)
        rw [if_pos c8] at H
        have c8b0 : decide (0 ≤ x4_2) = true := decide_eq_true c8
        clear c8
        replace H := Option.bind_eq_some_iff.mp H
        obtain ⟨t189, A90, H⟩ := H
        replace H : (if t189 = 0 then (r_Check.l1 k2 l0 (wrap64 (x4_2 + 1))) else (some t189)) = some r := H
        have A9 := am A90
        clear A90
        by_cases c10 : t189 = 0
        ·rw [if_pos c10] at H
         have c10b0 : (t189 == 0) = true := beq_iff_eq.mpr c10
         have c10b1 : (t189 != 0) = false := bne_eq_false_iff_eq.mpr c10
         clear c10
         have H' := am H
         clear H
         have p188 : 0 ≤ (x4_2 : Int) := of_decide_eq_true (by assumption)
         have q188 : x4_2 < (l0.length : Int) := of_decide_eq_true (by assumption)
         obtain ⟨ad188, e188, hx188_0, hx188_1, hx188_2, hx188_3, hx188_4, hx188_5, hx188_6, hx188_7⟩ := at_T68 HR0.out x4_2 p188 q188
         cases e188
         replace hx188_0 := cl HB hx188_0
         replace hx188_1 := cl HB hx188_1
         replace hx188_2 := cl HB hx188_2
         replace hx188_3 := cl HB hx188_3
         replace hx188_4 := cl HB hx188_4
         replace hx188_5 := cl HB hx188_5
         replace hx188_6 := cl HB hx188_6
         replace hx188_7 := cl HB hx188_7
         replace p188 := eq_true p188
         replace q188 := eq_true q188
         go_wp2_with (first | ((with_reducible refine gate_callee (f := 24) rfl ?_); refine goesL_ (some 34) rfl rfl Try.func24 (by kernel_rfl) rfl #[.agg #[.int .i64 ((rd_T68 l0 x4_2).f1.f0.f0), .int .i64 ((rd_T68 l0 x4_2).f1.f0.f1), .int .i64 ((rd_T68 l0 x4_2).f1.f0.f2), .int .i64 ((rd_T68 l0 x4_2).f1.f1.f0), .int .i64 ((rd_T68 l0 x4_2).f1.f1.f1), .int .i64 ((rd_T68 l0 x4_2).f1.f1.f2)]] rfl (by (try simp only [pml]); first | done | rfl | (simp only [pdt]; rfl)) ?_; (with_reducible refine (r06_Check.calls k2 ((rd_T68 l0 x4_2).f1.f0.f0) ((rd_T68 l0 x4_2).f1.f0.f1) ((rd_T68 l0 x4_2).f1.f0.f2) ((rd_T68 l0 x4_2).f1.f1.f0) ((rd_T68 l0 x4_2).f1.f1.f1) ((rd_T68 l0 x4_2).f1.f1.f2) t189 _ A9.out).mono ?_); rintro e w11 ⟨rfl, hb⟩; refine ⟨_, rfl, ?_⟩; replace HB := bS HB hb; (try clear hb); (try clear hb2); (try clear hk); (try clear hi)))
         go_roundg k2
         case measure => have := HK1.out; have := HK2.out; omega
         case rel => exact ⟨(wrap64 (x4_2 + 1)), sqD, H', ⟨by have := HK1.out; have := HK2.out; omega⟩, ⟨fW HB.out⟩⟩
        rw [if_neg c10] at H
        have c10b0 : (t189 == 0) = false := beq_eq_false_iff_ne.mpr c10
        have c10b1 : (t189 != 0) = true := bne_iff_ne.mpr c10
        obtain rfl := Option.some.inj H
        have p188 : 0 ≤ (x4_2 : Int) := of_decide_eq_true (by assumption)
        have q188 : x4_2 < (l0.length : Int) := of_decide_eq_true (by assumption)
        obtain ⟨ad188, e188, hx188_0, hx188_1, hx188_2, hx188_3, hx188_4, hx188_5, hx188_6, hx188_7⟩ := at_T68 HR0.out x4_2 p188 q188
        cases e188
        replace hx188_0 := cl HB hx188_0
        replace hx188_1 := cl HB hx188_1
        replace hx188_2 := cl HB hx188_2
        replace hx188_3 := cl HB hx188_3
        replace hx188_4 := cl HB hx188_4
        replace hx188_5 := cl HB hx188_5
        replace hx188_6 := cl HB hx188_6
        replace hx188_7 := cl HB hx188_7
        replace p188 := eq_true p188
        replace q188 := eq_true q188
        go_wp2_with (first | ((with_reducible refine gate_callee (f := 24) rfl ?_); refine goesL_ (some 34) rfl rfl Try.func24 (by kernel_rfl) rfl #[.agg #[.int .i64 ((rd_T68 l0 x4_2).f1.f0.f0), .int .i64 ((rd_T68 l0 x4_2).f1.f0.f1), .int .i64 ((rd_T68 l0 x4_2).f1.f0.f2), .int .i64 ((rd_T68 l0 x4_2).f1.f1.f0), .int .i64 ((rd_T68 l0 x4_2).f1.f1.f1), .int .i64 ((rd_T68 l0 x4_2).f1.f1.f2)]] rfl (by (try simp only [pml]); first | done | rfl | (simp only [pdt]; rfl)) ?_; (with_reducible refine (r06_Check.calls k2 ((rd_T68 l0 x4_2).f1.f0.f0) ((rd_T68 l0 x4_2).f1.f0.f1) ((rd_T68 l0 x4_2).f1.f0.f2) ((rd_T68 l0 x4_2).f1.f1.f0) ((rd_T68 l0 x4_2).f1.f1.f1) ((rd_T68 l0 x4_2).f1.f1.f2) t189 _ A9.out).mono ?_); rintro e w12 ⟨rfl, hb⟩; refine ⟨_, rfl, ?_⟩; replace HB := bS HB hb; (try clear hb); (try clear hb2); (try clear hk); (try clear hi)))
        go_ret
        exact ⟨sqE, fW HB.out⟩
       ·rw [if_neg c7] at H
        have c7b0 : decide (x4_2 < (l0.length : Int)) = false := decide_eq_false c7
        clear c7
        have H' := am H
        clear H
        go_wp2
        go_loopg [6] k2 (fun kq v6 w' => ∃ (x6_3 : Int), v6 = .int .i64 x6_3 ∧ Aside0 (r_Check.l2 kq l0 x6_3 = some r) ∧ Aside0 (kq ≤ k2) ∧ Aside0 (Below w.heap.size w w'))
        case atStart => exact ⟨(0), sqD, H', ⟨Nat.le_refl _⟩, ⟨fW HB.out⟩⟩
        case round =>
         clear H'
         try clear c1;try clear p1;try clear q1;try clear hx1;try clear c2;try clear c2b0;try clear c2b1;try clear p2;try clear c3;try clear c3b0;try clear c4;try clear c4b0;try clear c6;try clear p6;try clear c7;try clear c7b0;try clear c8;try clear c8b0;try clear c10;try clear c10b0;try clear c10b1;try clear c12;try clear hx186_0;try clear hx186_1;try clear hx186_2;try clear hx186_3;try clear hx186_4;try clear hx186_5;try clear hx186_6;try clear hx186_7;try clear hx188_0;try clear hx188_1;try clear hx188_2;try clear hx188_3;try clear hx188_4;try clear hx188_5;try clear hx188_6;try clear hx188_7;try clear p1;try clear p186;try clear p188;try clear p2;try clear p6;try clear q1;try clear q186;try clear q188
         obtain ⟨x6_3, rfl, HA, HK3, HB⟩ := hrel
         cases gk with
         | zero => exact absurd HA.out (by simp [r_Check.l2])
         | succ k3 =>
          have H := HA.out
          clear HA
          simp only [r_Check.l2] at H
          by_cases c13 : x6_3 < (l0.length : Int)
          ·rw [if_pos c13] at H
           have c13b0 : decide (x6_3 < (l0.length : Int)) = true := decide_eq_true c13
           clear c13
           have HC14 := am H
           clear H
           go_upto_block 5 with (fail)
           go_cut [] (fun wc => ∃ (kq : Nat), Aside0 (r_Check.j3 kq l0 x6_3 = some r) ∧ Aside0 (kq ≤ k3) ∧ Aside0 (Below w.heap.size w wc))
           case first =>
            have H := HC14.out
            clear HC14
            by_cases c15 : 0 ≤ x6_3
            rotate_left
            ·rw [if_neg c15] at H
             exact absurd H (by simp)
            rw [if_pos c15] at H
            have c15b0 : decide (0 ≤ x6_3) = true := decide_eq_true c15
            clear c15
            (first | rw [c15b0] | (simp only [i64_w, i32_w]; rw [c15b0]) | skip)
            by_cases c16 : ((rd_T68 l0 x6_3).f2) = 1
            ·rw [if_pos c16] at H
             have c16b0 : (((rd_T68 l0 x6_3).f2) == 1) = true := beq_iff_eq.mpr c16
             have c16b1 : (((rd_T68 l0 x6_3).f2) != 1) = false := bne_eq_false_iff_eq.mpr c16
             clear c16
             have H' := am H
             clear H
             have p190 : 0 ≤ (x6_3 : Int) := of_decide_eq_true (by assumption)
             have q190 : x6_3 < (l0.length : Int) := of_decide_eq_true (by assumption)
             obtain ⟨ad190, e190, hx190_0, hx190_1, hx190_2, hx190_3, hx190_4, hx190_5, hx190_6, hx190_7⟩ := at_T68 HR0.out x6_3 p190 q190
             cases e190
             replace hx190_0 := cl HB hx190_0
             replace hx190_1 := cl HB hx190_1
             replace hx190_2 := cl HB hx190_2
             replace hx190_3 := cl HB hx190_3
             replace hx190_4 := cl HB hx190_4
             replace hx190_5 := cl HB hx190_5
             replace hx190_6 := cl HB hx190_6
             replace hx190_7 := cl HB hx190_7
             replace p190 := eq_true p190
             replace q190 := eq_true q190
             go_wp2
             go_meet
             case rel => exact ⟨_, H', ⟨by have := HK1.out; have := HK2.out; have := HK3.out; first | omega | exact Nat.le_refl _⟩, ⟨fW HB.out⟩⟩
            rw [if_neg c16] at H
            have c16b0 : (((rd_T68 l0 x6_3).f2) == 1) = false := beq_eq_false_iff_ne.mpr c16
            have c16b1 : (((rd_T68 l0 x6_3).f2) != 1) = true := bne_iff_ne.mpr c16
            by_cases c17 : ((rd_T68 l0 x6_3).f2) = 2
            ·rw [if_pos c17] at H
             have c17b0 : (((rd_T68 l0 x6_3).f2) == 2) = true := beq_iff_eq.mpr c17
             have c17b1 : (((rd_T68 l0 x6_3).f2) != 2) = false := bne_eq_false_iff_eq.mpr c17
             clear c17
             have H' := am H
             clear H
             have p190 : 0 ≤ (x6_3 : Int) := of_decide_eq_true (by assumption)
             have q190 : x6_3 < (l0.length : Int) := of_decide_eq_true (by assumption)
             obtain ⟨ad190, e190, hx190_0, hx190_1, hx190_2, hx190_3, hx190_4, hx190_5, hx190_6, hx190_7⟩ := at_T68 HR0.out x6_3 p190 q190
             cases e190
             replace hx190_0 := cl HB hx190_0
             replace hx190_1 := cl HB hx190_1
             replace hx190_2 := cl HB hx190_2
             replace hx190_3 := cl HB hx190_3
             replace hx190_4 := cl HB hx190_4
             replace hx190_5 := cl HB hx190_5
             replace hx190_6 := cl HB hx190_6
             replace hx190_7 := cl HB hx190_7
             replace p190 := eq_true p190
             replace q190 := eq_true q190
             have p191 : 0 ≤ (x6_3 : Int) := of_decide_eq_true (by assumption)
             have q191 : x6_3 < (l0.length : Int) := of_decide_eq_true (by assumption)
             obtain ⟨ad191, e191, hx191_0, hx191_1, hx191_2, hx191_3, hx191_4, hx191_5, hx191_6, hx191_7⟩ := at_T68 HR0.out x6_3 p191 q191
             obtain rfl : ad190 = ad191 := (by injection e191)
             replace hx191_0 := cl HB hx191_0
             replace hx191_1 := cl HB hx191_1
             replace hx191_2 := cl HB hx191_2
             replace hx191_3 := cl HB hx191_3
             replace hx191_4 := cl HB hx191_4
             replace hx191_5 := cl HB hx191_5
             replace hx191_6 := cl HB hx191_6
             replace hx191_7 := cl HB hx191_7
             replace p191 := eq_true p191
             replace q191 := eq_true q191
             go_wp2
             go_meet
             case rel => exact ⟨_, H', ⟨by have := HK1.out; have := HK2.out; have := HK3.out; first | omega | exact Nat.le_refl _⟩, ⟨fW HB.out⟩⟩
            rw [if_neg c17] at H
            have c17b0 : (((rd_T68 l0 x6_3).f2) == 2) = false := beq_eq_false_iff_ne.mpr c17
            have c17b1 : (((rd_T68 l0 x6_3).f2) != 2) = true := bne_iff_ne.mpr c17
            obtain rfl := Option.some.inj H
            have p190 : 0 ≤ (x6_3 : Int) := of_decide_eq_true (by assumption)
            have q190 : x6_3 < (l0.length : Int) := of_decide_eq_true (by assumption)
            obtain ⟨ad190, e190, hx190_0, hx190_1, hx190_2, hx190_3, hx190_4, hx190_5, hx190_6, hx190_7⟩ := at_T68 HR0.out x6_3 p190 q190
            cases e190
            replace hx190_0 := cl HB hx190_0
            replace hx190_1 := cl HB hx190_1
            replace hx190_2 := cl HB hx190_2
            replace hx190_3 := cl HB hx190_3
            replace hx190_4 := cl HB hx190_4
            replace hx190_5 := cl HB hx190_5
            replace hx190_6 := cl HB hx190_6
            replace hx190_7 := cl HB hx190_7
            replace p190 := eq_true p190
            replace q190 := eq_true q190
            have p191 : 0 ≤ (x6_3 : Int) := of_decide_eq_true (by assumption)
            have q191 : x6_3 < (l0.length : Int) := of_decide_eq_true (by assumption)
            obtain ⟨ad191, e191, hx191_0, hx191_1, hx191_2, hx191_3, hx191_4, hx191_5, hx191_6, hx191_7⟩ := at_T68 HR0.out x6_3 p191 q191
            obtain rfl : ad190 = ad191 := (by injection e191)
            replace hx191_0 := cl HB hx191_0
            replace hx191_1 := cl HB hx191_1
            replace hx191_2 := cl HB hx191_2
            replace hx191_3 := cl HB hx191_3
            replace hx191_4 := cl HB hx191_4
            replace hx191_5 := cl HB hx191_5
            replace hx191_6 := cl HB hx191_6
            replace hx191_7 := cl HB hx191_7
            replace p191 := eq_true p191
            replace q191 := eq_true q191
            go_wp2
            go_ret
            exact ⟨sqE, fW HB.out⟩
           case rest =>
            clear HC14
            try clear c1;try clear p1;try clear q1;try clear hx1;try clear c2;try clear c2b0;try clear c2b1;try clear p2;try clear c3;try clear c3b0;try clear c4;try clear c4b0;try clear c6;try clear p6;try clear c7;try clear c7b0;try clear c8;try clear c8b0;try clear c10;try clear c10b0;try clear c10b1;try clear c12;try clear c13;try clear c13b0;try clear c15;try clear c15b0;try clear c16;try clear c16b0;try clear c16b1;try clear c17;try clear c17b0;try clear c17b1;try clear hx186_0;try clear hx186_1;try clear hx186_2;try clear hx186_3;try clear hx186_4;try clear hx186_5;try clear hx186_6;try clear hx186_7;try clear hx188_0;try clear hx188_1;try clear hx188_2;try clear hx188_3;try clear hx188_4;try clear hx188_5;try clear hx188_6;try clear hx188_7;try clear hx190_0;try clear hx190_1;try clear hx190_2;try clear hx190_3;try clear hx190_4;try clear hx190_5;try clear hx190_6;try clear hx190_7;try clear hx191_0;try clear hx191_1;try clear hx191_2;try clear hx191_3;try clear hx191_4;try clear hx191_5;try clear hx191_6;try clear hx191_7;try clear p1;try clear p186;try clear p188;try clear p190;try clear p191;try clear p2;try clear p6;try clear q1;try clear q186;try clear q188;try clear q190;try clear q191
            obtain ⟨kq, HA, HJ13, HB⟩ := hcut
            cases kq with
            | zero => exact absurd HA.out (by simp [r_Check.j3])
            | succ kj13 =>
             have H := HA.out
             clear HA
             simp only [r_Check.j3] at H
             have H' := am H
             clear H
             go_wp2
             go_roundg kj13
             case measure => have := HK1.out; have := HK2.out; have := HK3.out; have := HJ13.out; omega
             case rel => exact ⟨(wrap64 (x6_3 + 1)), sqD, H', ⟨by have := HK1.out; have := HK2.out; have := HK3.out; have := HJ13.out; omega⟩, ⟨fW HB.out⟩⟩
          ·rw [if_neg c13] at H
           have c13b0 : decide (x6_3 < (l0.length : Int)) = false := decide_eq_false c13
           clear c13
           obtain rfl := Option.some.inj H
           go_wp2
           go_ret
           exact ⟨sqE, fW HB.out⟩

end Go.Proofs.Ytcofgnbopodahaa.QA
