import Derived.Test.YtcofgnbopodahaaJQAx0
import Derived.Test.YtcofgnbopodahaaJEvKit
import Derived.Test.YtcofgnbopodahaaJMapKit
import Derived.Carry
import Derived.LoopN
namespace Go.Proofs.Ytcofgnbopodahaa.QA
open Go.RowKit Go.Proofs.YtcofgnbopodahaaW.PrintWords Go.Proofs.YtcofgnbopodahaaW.PrintLast Go.Proofs.YtcofgnbopodahaaW.PrintMore
open Go.Proofs.YtcofgnbopodahaaW.PrintWords renaming blk_frozen → bf
open Aside0 renaming mk → am
attribute [local go_sem] max2_int min2_int max_two min_two max_three min_three max_four min_four
set_option linter.unusedVariables false
set_option linter.unusedSimpArgs false

def w_cube.f (a0 : Int) (a1 : Int) : Option (Int × Int × Int × Int × Int × Int) := some (a0, a0, a0, wrap64 (a0 + a1), wrap64 (a0 + a1), wrap64 (a0 + a1))
set_option maxHeartbeats 8000000 in
set_option maxRecDepth 100000 in
theorem w_cube.calls (a0 : Int) (a1 : Int) (r1 : Int) (r2 : Int) (r3 : Int) (r4 : Int) (r5 : Int) (r6 : Int) (w : World) (h : w_cube.f a0 a1 = some (r1, r2, r3, r4, r5, r6)) :
  Calls Try.prog 34 #[.int .i64 a0, .int .i64 a1] w fun e w' => e = .returned (.agg #[.int .i64 r1, .int .i64 r2, .int .i64 r3, .int .i64 r4, .int .i64 r5, .int .i64 r6]) ∧ Below w.heap.size w w' := by
 have hu43 := Try.underlying43
 have hu24 := Try.underlying24
 have HB := am (Below.refl w.heap.size w)
 have H : (some (a0, a0, a0, wrap64 (a0 + a1), wrap64 (a0 + a1), wrap64 (a0 + a1))) = some (r1, r2, r3, r4, r5, r6) := h
 clear h
 simp only [Option.some.injEq, Prod.mk.injEq] at H
 obtain ⟨rfl, rfl, rfl, rfl, rfl, rfl⟩ := H
 go_enter Try.func34, Try.ntmps34
 go_wp2_with (first | ((with_reducible refine gate_dst (N := 4) rfl ?_); refine box_event ?hg (N := 4) ?hd (cs := #[.int .i64 0, .int .i64 0, .int .i64 0, .int .i64 0, .int .i64 0, .int .i64 0]) (t := 43) ?hr ?_; (case hd | hg => rfl); (case hr => first | (go_simp; done) | (go_simp; rfl)); intro gb101 hg w3 hbox hb; have BK101 := am hbox; have GW101 := sG HB hg; have GE101 := sG HB hg; replace HB := bS HB hb; clear hb hbox hg; obtain ⟨_, _, _, _, _, _, _, _, _, _, _, _⟩ := zC6 BK101))
 refine bodyPost_ret (results_cell_row rfl _ _ gb101 43 #[.int .i64 a0, .int .i64 a0, .int .i64 a0, .int .i64 (wrap64 (a0 + a1)), .int .i64 (wrap64 (a0 + a1)), .int .i64 (wrap64 (a0 + a1))] (0, 0) _ rfl (kkC BK101.out) Try.underlying43 rfl (by kernel_rfl)) rfl ?_
 exact ⟨sqE, fW HB.out⟩

mutual
def model_label.j0 : Nat → ByteArray → Bool → Option (Bool)
 | 0, _, _ => none
 | k + 1, x0, x24 => if x24 = true then (some false) else (model_label.l0 k x0 (x0.size : Int) 0)
def model_label.l0 : Nat → ByteArray → Int → Int → Option (Bool)
 | 0, _, _, _ => none
 | k + 1, x0, x26, x27 => if x27 < x26 then (if 0 ≤ x27 then (if x27 < (x0.size : Int) then (if (bt x0 x27) < 32 then (model_label.j2 k x0 x26 x27 true) else (if (bt x0 x27) > 126 then (model_label.j2 k x0 x26 x27 true) else (model_label.j2 k x0 x26 x27 ((bt x0 x27) == 34)))) else (none)) else (none)) else (some true)
def model_label.j2 : Nat → ByteArray → Int → Int → Bool → Option (Bool)
 | 0, _, _, _, _ => none
 | k + 1, x0, x26, x27, x45 => if x45 = true then (some false) else (model_label.l0 k x0 x26 (wrap64 (x27 + 1)))
end
def model_label.f (k : Nat) (a0 : ByteArray) : Option (Bool) := if (a0.size : Int) < 1 then (model_label.j0 k a0 true) else (if (a0.size : Int) > 40 then (model_label.j0 k a0 true) else (if 0 < (a0.size : Int) then (if (bt a0 0) = 32 then (model_label.j0 k a0 true) else (if 0 ≤ (wrap64 ((a0.size : Int) - 1)) then (if (wrap64 ((a0.size : Int) - 1)) < (a0.size : Int) then (model_label.j0 k a0 ((bt a0 (wrap64 ((a0.size : Int) - 1))) == 32)) else (none)) else (none))) else (none)))
set_option maxHeartbeats 8000000 in
set_option maxRecDepth 100000 in
theorem model_label.calls (k : Nat) (a0 : ByteArray) (r : Bool) (w : World) (h : model_label.f k a0 = some r) :
  Calls Try.prog 42 #[.string a0] w fun e w' => e = .returned (.bool r) ∧ Drawn0 w w' := by
 have H : (if (a0.size : Int) < 1 then (model_label.j0 k a0 true) else (if (a0.size : Int) > 40 then (model_label.j0 k a0 true) else (if 0 < (a0.size : Int) then (if (bt a0 0) = 32 then (model_label.j0 k a0 true) else (if 0 ≤ (wrap64 ((a0.size : Int) - 1)) then (if (wrap64 ((a0.size : Int) - 1)) < (a0.size : Int) then (model_label.j0 k a0 ((bt a0 (wrap64 ((a0.size : Int) - 1))) == 32)) else (none)) else (none))) else (none)))) = some r := h
 clear h
 have HC2 := am H
 clear H
 go_enter Try.func42, Try.ntmps42
 go_upto_region 1 with (fail)
 go_cut [24] (fun v24 wc => ∃ (kq : Nat) (x24_1 : Bool), v24 = .bool x24_1 ∧ Aside0 (model_label.j0 kq a0 x24_1 = some r) ∧ Aside0 (kq ≤ k) ∧ Drawn0 w wc)
 case first =>
  have H := HC2.out
  clear HC2
  by_cases c3 : (a0.size : Int) < 1
  ·rw [if_pos c3] at H
   have c3b0 : decide ((a0.size : Int) < 1) = true := decide_eq_true c3
   have c3b1 : decide (a0.size < 1) = true := decide_eq_true (by omega)
   clear c3
   (first | rw [c3b0] | (simp only [i64_w, i32_w]; rw [c3b0]) | skip)
   have H' := am H
   clear H
   go_wp2
   go_meet
   case rel => exact ⟨_, (true), sqD, H', ⟨by first | omega | exact Nat.le_refl _⟩, by repeat (first | exact Drawn0.refl _ | apply Drawn0.step)⟩
  rw [if_neg c3] at H
  have c3b0 : decide ((a0.size : Int) < 1) = false := decide_eq_false c3
  have c3b1 : decide (a0.size < 1) = false := decide_eq_false (by omega)
  clear c3
  (first | rw [c3b0] | (simp only [i64_w, i32_w]; rw [c3b0]) | skip)
  by_cases c4 : (a0.size : Int) > 40
  ·rw [if_pos c4] at H
   have c4b0 : decide (40 < (a0.size : Int)) = true := decide_eq_true c4
   have c4b1 : decide (40 < a0.size) = true := decide_eq_true (by omega)
   clear c4
   have H' := am H
   clear H
   go_wp2
   go_meet
   case rel => exact ⟨_, (true), sqD, H', ⟨by first | omega | exact Nat.le_refl _⟩, by repeat (first | exact Drawn0.refl _ | apply Drawn0.step)⟩
  rw [if_neg c4] at H
  have c4b0 : decide (40 < (a0.size : Int)) = false := decide_eq_false c4
  have c4b1 : decide (40 < a0.size) = false := decide_eq_false (by omega)
  clear c4
  by_cases c5 : 0 < (a0.size : Int)
  rotate_left
  ·rw [if_neg c5] at H
   exact absurd H (by simp)
  rw [if_pos c5] at H
  have c5b0 : decide (0 < (a0.size : Int)) = true := decide_eq_true c5
  have c5b1 : decide (0 < a0.size) = true := decide_eq_true (by omega)
  clear c5
  by_cases c7 : (bt a0 0) = 32
  ·rw [if_pos c7] at H
   have c7b0 : ((bt a0 0) == 32) = true := beq_iff_eq.mpr c7
   have c7b1 : ((bt a0 0) != 32) = false := bne_eq_false_iff_eq.mpr c7
   clear c7
   have H' := am H
   clear H
   have p6 : 0 ≤ (0 : Int) := (by omega)
   have q6 : 0 < a0.size := (by have : (0 : Int) < (a0.size : Int) := of_decide_eq_true (by assumption); omega)
   have hx6 : ∀ h : 0 < a0.size, ((a0[0]'h).toNat : Int) = bt a0 0 := bt_at a0 0
   clear p6
   have qi6 : (0 < (a0.size : Int)) = True := eq_true (of_decide_eq_true (by assumption))
   replace q6 := eq_true q6
   go_wp2
   go_meet
   case rel => exact ⟨_, (true), sqD, H', ⟨by first | omega | exact Nat.le_refl _⟩, by repeat (first | exact Drawn0.refl _ | apply Drawn0.step)⟩
  rw [if_neg c7] at H
  have c7b0 : ((bt a0 0) == 32) = false := beq_eq_false_iff_ne.mpr c7
  have c7b1 : ((bt a0 0) != 32) = true := bne_iff_ne.mpr c7
  obtain ⟨ji8, hji8⟩ : ∃ j_ : Int, (wrap64 ((a0.size : Int) - 1)) = j_ := ⟨_, rfl⟩
  replace H : (if 0 ≤ (ji8) then (if (ji8) < (a0.size : Int) then (model_label.j0 k a0 ((bt a0 (ji8)) == 32)) else (none)) else (none)) = some r := by first | (rw [hji8] at H; exact H) | (simp only [hji8] at H ⊢; exact H)
  have hji8w : (IntKind.i64.wrap ((a0.size : Int) - 1)) = ji8 := (i64_w _).trans hji8
  by_cases c9 : 0 ≤ (ji8)
  rotate_left
  ·rw [if_neg c9] at H
   exact absurd H (by simp)
  rw [if_pos c9] at H
  have c9b0 : decide (0 ≤ (ji8)) = true := decide_eq_true c9
  clear c9
  by_cases c10 : (ji8) < (a0.size : Int)
  rotate_left
  ·rw [if_neg c10] at H
   exact absurd H (by simp)
  rw [if_pos c10] at H
  have c10b0 : decide ((ji8) < (a0.size : Int)) = true := decide_eq_true c10
  clear c10
  have H' := am H
  clear H
  have p6 : 0 ≤ (0 : Int) := (by omega)
  have q6 : 0 < a0.size := (by have : (0 : Int) < (a0.size : Int) := of_decide_eq_true (by assumption); omega)
  have hx6 : ∀ h : 0 < a0.size, ((a0[0]'h).toNat : Int) = bt a0 0 := bt_at a0 0
  clear p6
  have qi6 : (0 < (a0.size : Int)) = True := eq_true (of_decide_eq_true (by assumption))
  replace q6 := eq_true q6
  have p11 : 0 ≤ ((ji8) : Int) := of_decide_eq_true (by assumption)
  have q11 : (ji8) < (a0.size : Int) := of_decide_eq_true (by assumption)
  have hx11 := bt_at a0 (ji8)
  replace p11 := eq_true p11
  replace q11 := eq_true q11
  go_wp2
  go_meet
  case rel => exact ⟨_, (((bt a0 (ji8)) == 32)), (by first | rfl | (simp; done) | (simp only [← hji8] <;> (first | rfl | simp)) | (simp [*]; done)), H', ⟨by first | omega | exact Nat.le_refl _⟩, by repeat (first | exact Drawn0.refl _ | apply Drawn0.step)⟩
 case rest =>
  clear HC2
  try clear c1;try clear p1;try clear q1;try clear hx1;try clear p2;try clear c3;try clear c3b0;try clear c3b1;try clear c4;try clear c4b0;try clear c4b1;try clear c5;try clear c5b0;try clear c5b1;try clear p6;try clear q6;try clear hx6;try clear qi6;try clear c7;try clear c7b0;try clear c7b1;try clear c9;try clear c9b0;try clear c10;try clear c10b0;try clear p11;try clear q11;try clear hx11;try clear p11;try clear p6;try clear q11;try clear q6
  obtain ⟨kq, x24_1, rfl, HA, HJ1, ⟨mc1, rfl⟩⟩ := hcut
  cases kq with
  | zero => exact absurd HA.out (by simp [model_label.j0])
  | succ kj1 =>
   have H := HA.out
   clear HA
   simp only [model_label.j0] at H
   by_cases c12 : x24_1 = true
   ·subst c12
    have H1 : (some false) = some r := by rw [if_pos rfl] at H; exact H
    clear H
    have H := H1
    clear H1
    obtain rfl := Option.some.inj H
    go_wp2
    go_ret
    exact ⟨by first | rfl | (simp; done) | (simp [*]; done), by repeat (first | exact Drawn0.refl _ | apply Drawn0.step)⟩
   ·replace c12 := Bool.eq_false_iff.mpr c12
    subst c12
    have H1 : (model_label.l0 kj1 a0 (a0.size : Int) 0) = some r := by rw [if_neg (show ¬ (false = true) by decide)] at H; exact H
    clear H
    have H := H1
    clear H1
    have H' := am H
    clear H
    go_wp2
    go_loopg [27] kj1 (fun kq v27 w' => ∃ (x27_2 : Int), v27 = .int .i64 x27_2 ∧ Aside0 (model_label.l0 kq a0 (a0.size : Int) x27_2 = some r) ∧ Aside0 (kq ≤ kj1) ∧ Drawn0 w w')
    case atStart => exact ⟨(0), sqD, H', ⟨Nat.le_refl _⟩, by repeat (first | exact Drawn0.refl _ | apply Drawn0.step)⟩
    case round =>
     clear H'
     try clear c1;try clear p1;try clear q1;try clear hx1;try clear p2;try clear c3;try clear c3b0;try clear c3b1;try clear c4;try clear c4b0;try clear c4b1;try clear c5;try clear c5b0;try clear c5b1;try clear p6;try clear q6;try clear hx6;try clear qi6;try clear c7;try clear c7b0;try clear c7b1;try clear c9;try clear c9b0;try clear c10;try clear c10b0;try clear p11;try clear q11;try clear hx11;try clear c12;try clear p1;try clear p11;try clear p2;try clear p6;try clear q1;try clear q11;try clear q6
     obtain ⟨x27_2, rfl, HA, HK2, ⟨m2, rfl⟩⟩ := hrel
     cases gk with
     | zero => exact absurd HA.out (by simp [model_label.l0])
     | succ k2 =>
      have H := HA.out
      clear HA
      simp only [model_label.l0] at H
      by_cases c13 : x27_2 < (a0.size : Int)
      ·rw [if_pos c13] at H
       have c13b0 : decide (x27_2 < (a0.size : Int)) = true := decide_eq_true c13
       clear c13
       have HC14 := am H
       clear H
       go_upto_region 6 with (fail)
       go_cut [45] (fun v45 wc => ∃ (kq : Nat) (x45_13 : Bool), v45 = .bool x45_13 ∧ Aside0 (model_label.j2 kq a0 (a0.size : Int) x27_2 x45_13 = some r) ∧ Aside0 (kq ≤ k2) ∧ Drawn0 w wc)
       case first =>
        have H := HC14.out
        clear HC14
        by_cases c15 : 0 ≤ x27_2
        rotate_left
        ·rw [if_neg c15] at H
         exact absurd H (by simp)
        rw [if_pos c15] at H
        have c15b0 : decide (0 ≤ x27_2) = true := decide_eq_true c15
        clear c15
        (first | rw [c15b0] | (simp only [i64_w, i32_w]; rw [c15b0]) | skip)
        by_cases c16 : x27_2 < (a0.size : Int)
        rotate_left
        ·rw [if_neg c16] at H
         exact absurd H (by simp)
        rw [if_pos c16] at H
        have c16b0 : decide (x27_2 < (a0.size : Int)) = true := decide_eq_true c16
        clear c16
        by_cases c18 : (bt a0 x27_2) < 32
        ·rw [if_pos c18] at H
         have c18b0 : decide ((bt a0 x27_2) < 32) = true := decide_eq_true c18
         clear c18
         have H' := am H
         clear H
         have p17 : 0 ≤ (x27_2 : Int) := of_decide_eq_true (by assumption)
         have q17 : x27_2 < (a0.size : Int) := of_decide_eq_true (by assumption)
         have hx17 := bt_at a0 x27_2
         replace p17 := eq_true p17
         replace q17 := eq_true q17
         go_wp2
         go_meet
         case rel => exact ⟨_, (true), sqD, H', ⟨by have := HJ1.out; have := HK2.out; first | omega | exact Nat.le_refl _⟩, by repeat (first | exact Drawn0.refl _ | apply Drawn0.step)⟩
        rw [if_neg c18] at H
        have c18b0 : decide ((bt a0 x27_2) < 32) = false := decide_eq_false c18
        clear c18
        by_cases c20 : (bt a0 x27_2) > 126
        ·rw [if_pos c20] at H
         have c20b0 : decide (126 < (bt a0 x27_2)) = true := decide_eq_true c20
         clear c20
         have H' := am H
         clear H
         have p17 : 0 ≤ (x27_2 : Int) := of_decide_eq_true (by assumption)
         have q17 : x27_2 < (a0.size : Int) := of_decide_eq_true (by assumption)
         have hx17 := bt_at a0 x27_2
         replace p17 := eq_true p17
         replace q17 := eq_true q17
         have p19 : 0 ≤ (x27_2 : Int) := of_decide_eq_true (by assumption)
         have q19 : x27_2 < (a0.size : Int) := of_decide_eq_true (by assumption)
         have hx19 := bt_at a0 x27_2
         replace p19 := eq_true p19
         replace q19 := eq_true q19
         go_wp2
         go_meet
         case rel => exact ⟨_, (true), sqD, H', ⟨by have := HJ1.out; have := HK2.out; first | omega | exact Nat.le_refl _⟩, by repeat (first | exact Drawn0.refl _ | apply Drawn0.step)⟩
        rw [if_neg c20] at H
        have c20b0 : decide (126 < (bt a0 x27_2)) = false := decide_eq_false c20
        clear c20
        have H' := am H
        clear H
        have p17 : 0 ≤ (x27_2 : Int) := of_decide_eq_true (by assumption)
        have q17 : x27_2 < (a0.size : Int) := of_decide_eq_true (by assumption)
        have hx17 := bt_at a0 x27_2
        replace p17 := eq_true p17
        replace q17 := eq_true q17
        have p19 : 0 ≤ (x27_2 : Int) := of_decide_eq_true (by assumption)
        have q19 : x27_2 < (a0.size : Int) := of_decide_eq_true (by assumption)
        have hx19 := bt_at a0 x27_2
        replace p19 := eq_true p19
        replace q19 := eq_true q19
        have p21 : 0 ≤ (x27_2 : Int) := of_decide_eq_true (by assumption)
        have q21 : x27_2 < (a0.size : Int) := of_decide_eq_true (by assumption)
        have hx21 := bt_at a0 x27_2
        replace p21 := eq_true p21
        replace q21 := eq_true q21
        go_wp2
        go_meet
        case rel => exact ⟨_, (((bt a0 x27_2) == 34)), sqD, H', ⟨by have := HJ1.out; have := HK2.out; first | omega | exact Nat.le_refl _⟩, by repeat (first | exact Drawn0.refl _ | apply Drawn0.step)⟩
       case rest =>
        clear HC14
        try clear c1;try clear p1;try clear q1;try clear hx1;try clear c2;try clear p2;try clear q2;try clear hx2;try clear c3;try clear c3b0;try clear c3b1;try clear c4;try clear c4b0;try clear c4b1;try clear c5;try clear c5b0;try clear c5b1;try clear p6;try clear q6;try clear hx6;try clear qi6;try clear c7;try clear c7b0;try clear c7b1;try clear c9;try clear c9b0;try clear c10;try clear c10b0;try clear p11;try clear q11;try clear hx11;try clear c12;try clear c13;try clear c13b0;try clear c15;try clear c15b0;try clear c16;try clear c16b0;try clear p17;try clear q17;try clear hx17;try clear c18;try clear c18b0;try clear p19;try clear q19;try clear hx19;try clear c20;try clear c20b0;try clear p21;try clear q21;try clear hx21;try clear p1;try clear p11;try clear p17;try clear p19;try clear p2;try clear p21;try clear p6;try clear q1;try clear q11;try clear q17;try clear q19;try clear q21;try clear q6
        obtain ⟨kq, x45_13, rfl, HA, HJ13, ⟨mc13, rfl⟩⟩ := hcut
        cases kq with
        | zero => exact absurd HA.out (by simp [model_label.j2])
        | succ kj13 =>
         have H := HA.out
         clear HA
         simp only [model_label.j2] at H
         by_cases c22 : x45_13 = true
         ·subst c22
          have H1 : (some false) = some r := by rw [if_pos rfl] at H; exact H
          clear H
          have H := H1
          clear H1
          obtain rfl := Option.some.inj H
          go_wp2
          go_ret
          exact ⟨by first | rfl | (simp; done) | (simp [*]; done), by repeat (first | exact Drawn0.refl _ | apply Drawn0.step)⟩
         replace c22 := Bool.eq_false_iff.mpr c22
         subst c22
         have H1 : (model_label.l0 kj13 a0 (a0.size : Int) (wrap64 (x27_2 + 1))) = some r := by rw [if_neg (show ¬ (false = true) by decide)] at H; exact H
         clear H
         have H := H1
         clear H1
         have H' := am H
         clear H
         go_wp2
         go_roundg kj13
         case measure => have := HJ1.out; have := HK2.out; have := HJ13.out; omega
         case rel => exact ⟨(wrap64 (x27_2 + 1)), sqD, H', ⟨by have := HJ1.out; have := HK2.out; have := HJ13.out; omega⟩, by repeat (first | exact Drawn0.refl _ | apply Drawn0.step)⟩
      ·rw [if_neg c13] at H
       have c13b0 : decide (x27_2 < (a0.size : Int)) = false := decide_eq_false c13
       clear c13
       obtain rfl := Option.some.inj H
       go_wp2
       go_ret
       exact ⟨by first | rfl | (simp; done) | (simp [*]; done), by repeat (first | exact Drawn0.refl _ | apply Drawn0.step)⟩

def model_Check_1.f (k : Nat) (a0_0 : ByteArray) (a0_1 : Int) (a0_2 : Int) (a0_3 : Int) (a0_4 : Int) (a0_5 : Int) (a0_6 : Int) (a0_7 : Int) : Option (Bool) := (model_label.f k a0_0).bind fun t103 => (some (!t103))
set_option maxHeartbeats 8000000 in
set_option maxRecDepth 100000 in
theorem model_Check_1.calls (k : Nat) (a0_0 : ByteArray) (a0_1 : Int) (a0_2 : Int) (a0_3 : Int) (a0_4 : Int) (a0_5 : Int) (a0_6 : Int) (a0_7 : Int) (r : Bool) (w : World) (h : model_Check_1.f k a0_0 a0_1 a0_2 a0_3 a0_4 a0_5 a0_6 a0_7 = some r) :
  Calls Try.prog 41 #[.agg #[.string a0_0, .int .i64 a0_1, .int .i64 a0_2, .int .i64 a0_3, .int .i64 a0_4, .int .i64 a0_5, .int .i64 a0_6, .int .i64 a0_7]] w fun e w' => e = .returned (.bool r) ∧ Below w.heap.size w w' := by
 have hu68 := Try.underlying68
 have HB := am (Below.refl w.heap.size w)
 have H : ((model_label.f k a0_0).bind fun t103 => (some (!t103))) = some r := h
 clear h
 replace H := Option.bind_eq_some_iff.mp H
 obtain ⟨t103, A20, H⟩ := H
 replace H : (some (!t103)) = some r := H
 have A2 := am A20
 clear A20
 obtain rfl := Option.some.inj H
 go_enter Try.func41, Try.ntmps41
 go_wp2_with (first | ((with_reducible refine gate_dst (N := 1) rfl ?_); refine box_event ?hg (N := 1) ?hd (cs := #[.string a0_0, .int .i64 a0_1, .int .i64 a0_2, .int .i64 a0_3, .int .i64 a0_4, .int .i64 a0_5, .int .i64 a0_6, .int .i64 a0_7]) (t := 68) ?hr ?_; (case hd | hg => rfl); (case hr => first | (go_simp; done) | (go_simp; rfl)); intro gb102 hg w3 hbox hb; have BK102 := am hbox; have GW102 := sG HB hg; have GE102 := sG HB hg; replace HB := bS HB hb; clear hb hbox hg; obtain ⟨_, _, _, _, _, _⟩ := yC6 BK102; have hcz4_6 : w3.cell? ⟨gb102, 6, none⟩ = some (.int .i64 a0_6) := (blk_cell BK102.out 6).trans rfl; have hcz4_7 : w3.cell? ⟨gb102, 7, none⟩ = some (.int .i64 a0_7) := (blk_cell BK102.out 7).trans rfl; have := bf BK102.out 0; have := bf BK102.out 1; have := bf BK102.out 2; have := bf BK102.out 3; have := bf BK102.out 4; have := bf BK102.out 5; have := bf BK102.out 6; have := bf BK102.out 7) | ((with_reducible refine gate_callee (f := 42) rfl ?_); refine goesL_ (some 5) rfl rfl Try.func42 (by kernel_rfl) rfl #[.string a0_0] rfl (by (try simp only [pml]); first | done | rfl | (simp only [pdt]; rfl)) ?_; (with_reducible refine (model_label.calls k a0_0 t103 _ A2.out).mono ?_); rintro e w' ⟨rfl, ⟨nd, rfl⟩⟩; refine ⟨_, rfl, ?_⟩))
 go_ret
 exact ⟨sqE, fW HB.out⟩

def model_Check_2.f (a0_0 : ByteArray) (a0_1 : Int) (a0_2 : Int) (a0_3 : Int) (a0_4 : Int) (a0_5 : Int) (a0_6 : Int) (a0_7 : Int) : Option (Bool) := if a0_7 = 1 then (some false) else (some (a0_7 != 2))
set_option maxHeartbeats 8000000 in
set_option maxRecDepth 100000 in
theorem model_Check_2.calls (a0_0 : ByteArray) (a0_1 : Int) (a0_2 : Int) (a0_3 : Int) (a0_4 : Int) (a0_5 : Int) (a0_6 : Int) (a0_7 : Int) (r : Bool) (w : World) (h : model_Check_2.f a0_0 a0_1 a0_2 a0_3 a0_4 a0_5 a0_6 a0_7 = some r) :
  Calls Try.prog 44 #[.agg #[.string a0_0, .int .i64 a0_1, .int .i64 a0_2, .int .i64 a0_3, .int .i64 a0_4, .int .i64 a0_5, .int .i64 a0_6, .int .i64 a0_7]] w fun e w' => e = .returned (.bool r) ∧ Below w.heap.size w w' := by
 have hu68 := Try.underlying68
 have HB := am (Below.refl w.heap.size w)
 have H : (if a0_7 = 1 then (some false) else (some (a0_7 != 2))) = some r := h
 clear h
 by_cases c2 : a0_7 = 1
 ·rw [if_pos c2] at H
  have c2b0 : (a0_7 == 1) = true := beq_iff_eq.mpr c2
  have c2b1 : (a0_7 != 1) = false := bne_eq_false_iff_eq.mpr c2
  clear c2
  obtain rfl := Option.some.inj H
  go_enter Try.func44, Try.ntmps44
  go_wp2_with (first | ((with_reducible refine gate_dst (N := 1) rfl ?_); refine box_event ?hg (N := 1) ?hd (cs := #[.string a0_0, .int .i64 a0_1, .int .i64 a0_2, .int .i64 a0_3, .int .i64 a0_4, .int .i64 a0_5, .int .i64 a0_6, .int .i64 a0_7]) (t := 68) ?hr ?_; (case hd | hg => rfl); (case hr => first | (go_simp; done) | (go_simp; rfl)); intro gb104 hg w3 hbox hb; have BK104 := am hbox; have GW104 := sG HB hg; have GE104 := sG HB hg; replace HB := bS HB hb; clear hb hbox hg; obtain ⟨_, _, _, _, _, _⟩ := yC6 BK104; have hcz4_6 : w3.cell? ⟨gb104, 6, none⟩ = some (.int .i64 a0_6) := (blk_cell BK104.out 6).trans rfl; have hcz4_7 : w3.cell? ⟨gb104, 7, none⟩ = some (.int .i64 a0_7) := (blk_cell BK104.out 7).trans rfl; have := bf BK104.out 0; have := bf BK104.out 1; have := bf BK104.out 2; have := bf BK104.out 3; have := bf BK104.out 4; have := bf BK104.out 5; have := bf BK104.out 6; have := bf BK104.out 7))
  go_ret
  exact ⟨sqE, fW HB.out⟩
 ·rw [if_neg c2] at H
  have c2b0 : (a0_7 == 1) = false := beq_eq_false_iff_ne.mpr c2
  have c2b1 : (a0_7 != 1) = true := bne_iff_ne.mpr c2
  obtain rfl := Option.some.inj H
  go_enter Try.func44, Try.ntmps44
  go_wp2_with (first | ((with_reducible refine gate_dst (N := 1) rfl ?_); refine box_event ?hg (N := 1) ?hd (cs := #[.string a0_0, .int .i64 a0_1, .int .i64 a0_2, .int .i64 a0_3, .int .i64 a0_4, .int .i64 a0_5, .int .i64 a0_6, .int .i64 a0_7]) (t := 68) ?hr ?_; (case hd | hg => rfl); (case hr => first | (go_simp; done) | (go_simp; rfl)); intro gb104 hg w5 hbox hb; have BK104 := am hbox; have GW104 := sG HB hg; have GE104 := sG HB hg; replace HB := bS HB hb; clear hb hbox hg; obtain ⟨_, _, _, _, _, _⟩ := yC6 BK104; have hcz6_6 : w5.cell? ⟨gb104, 6, none⟩ = some (.int .i64 a0_6) := (blk_cell BK104.out 6).trans rfl; have hcz6_7 : w5.cell? ⟨gb104, 7, none⟩ = some (.int .i64 a0_7) := (blk_cell BK104.out 7).trans rfl; have := bf BK104.out 0; have := bf BK104.out 1; have := bf BK104.out 2; have := bf BK104.out 3; have := bf BK104.out 4; have := bf BK104.out 5; have := bf BK104.out 6; have := bf BK104.out 7))
  go_ret
  exact ⟨sqE, fW HB.out⟩

section
open Go.Proofs.Ytcofgnbopodahaa.EvKit Go.Proofs.Ytcofgnbopodahaa.MapKit
attribute [local go_sem] max2_int min2_int max_two min_two Oper.semAt_some
set_option linter.unusedVariables false
set_option linter.unusedSimpArgs false
def anyK {α : Type} (p : α → Option Bool) : List α → Option Bool
 | [] => some false
 | x :: l => (p x).bind fun b => if b = true then some true else anyK p l
theorem clo41 (k : Nat) (x : S68) (b : Bool) (W : World) (h : model_Check_1.f k x.f0 x.f1.f0.f0 x.f1.f0.f1 x.f1.f0.f2 x.f1.f1.f0 x.f1.f1.f1 x.f1.f1.f2 x.f2 = some b) : Calls Try.prog 41 #[.agg #[.string x.f0, .int .i64 x.f1.f0.f0, .int .i64 x.f1.f0.f1, .int .i64 x.f1.f0.f2, .int .i64 x.f1.f1.f0, .int .i64 x.f1.f1.f1, .int .i64 x.f1.f1.f2, .int .i64 x.f2]] W fun e w' => e = .returned (.bool b) ∧ Below W.heap.size W w' :=
 (model_Check_1.calls k x.f0 x.f1.f0.f0 x.f1.f0.f1 x.f1.f0.f2 x.f1.f1.f0 x.f1.f1.f1 x.f1.f1.f2 x.f2 b W h).mono fun e w' ⟨h1, h2⟩ => ⟨h1, h2⟩
set_option maxHeartbeats 1000000 in
set_option maxRecDepth 100000 in
theorem index41 (k : Nat) (A0 : Option Addr) (c0 : Nat) (l0 : List S68) (r : Bool) (w : World) (hr0 : Kd.C k68 w A0 l0.length l0) (hc0 : l0.length ≤ c0) (h : anyK (fun x => model_Check_1.f k x.f0 x.f1.f0.f0 x.f1.f0.f1 x.f1.f0.f2 x.f1.f1.f0 x.f1.f1.f1 x.f1.f1.f2 x.f2) l0 = some r) :
  Calls Try.prog 70 #[.slice A0 l0.length c0, .func (.func 41) #[] #[]] w fun e w' => ∃ i : Int, e = .returned (.int .i64 i) ∧ decide (i ≥ 0) = r ∧ Below w.heap.size w w' := by
 have hn := hr0.2.1
 have HR := am hr0
 have H := am h
 have HQ := am (@clo41 k)
 clear hr0 h
 go_enter Try.func70, Try.ntmps70
 go_wp2
 go_loopw [8] (fun i wr => ∃ j : Nat, j ≤ l0.length ∧ i = .int .i64 j ∧ Aside0 (anyK (fun x => model_Check_1.f k x.f0 x.f1.f0.f0 x.f1.f0.f1 x.f1.f0.f2 x.f1.f1.f0 x.f1.f1.f1 x.f1.f1.f2 x.f2) (l0.drop j) = some r) ∧ Aside0 (Below w.heap.size w wr))
  (fun i _ => l0.length - (intOf i).toNat)
 case atStart => exact ⟨0, Nat.zero_le _, rfl, H, ⟨Below.refl _ _⟩⟩
 case round =>
  clear H
  obtain ⟨j, hk, rfl, HP, HB⟩ := hrel
  by_cases hlt : j < l0.length
  rotate_left
  ·obtain rfl : j = l0.length := by omega
   have hp := HP.out
   rw [List.drop_length] at hp
   obtain rfl : r = false := (Option.some.inj hp).symm
   clear hp HP
   go_wp2
   go_ret
   exact ⟨_, rfl, by simp, HB.out⟩
  obtain ⟨ad, e, h0, h1, h2, h3, h4, h5, h6, h7⟩ := at_T68 HR.out (j : Int) (by omega) (by omega)
  cases e
  replace h0 := cl HB h0
  replace h1 := cl HB h1
  replace h2 := cl HB h2
  replace h3 := cl HB h3
  replace h4 := cl HB h4
  replace h5 := cl HB h5
  replace h6 := cl HB h6
  replace h7 := cl HB h7
  rw [Int.toNat_natCast] at h0 h1 h2 h3 h4 h5 h6 h7
  have hp := HP.out
  rw [EvKit.drop_cons l0 j z68 hlt, show l0.getD j z68 = rd_T68 l0 (j : Int) by simp [rd_T68]] at hp
  obtain ⟨x, hx⟩ : ∃ x, x = rd_T68 l0 (j : Int) := ⟨_, rfl⟩
  rw [← hx] at h0 h1 h2 h3 h4 h5 h6 h7 hp
  unfold anyK at hp
  obtain ⟨b, hb, hp2⟩ := Option.bind_eq_some_iff.1 hp
  clear hp HP hx
  have HX := am hb
  clear hb
  cases b with
  | true =>
   obtain rfl : r = true := (Option.some.inj hp2).symm
   clear hp2
   go_wp2_with (go_at_call 41; refine (HQ.out x true _ HX.out).mono ?_; rintro e w' ⟨rfl, hb⟩; have HB2 := bS HB hb; clear hb)
   go_ret
   exact ⟨_, rfl, by simp, HB2.out⟩
  | false =>
   have HP2 := am (show anyK _ (l0.drop (j + 1)) = some r from hp2)
   clear hp2
   go_wp2_with (go_at_call 41; refine (HQ.out x false _ HX.out).mono ?_; rintro e w' ⟨rfl, hb⟩; have HB2 := bS HB hb; clear hb)
   go_roundw
   case rel => exact ⟨j + 1, by omega, by go_num, HP2, HB2⟩
   case measure => simp [intOf]; omega
set_option maxHeartbeats 1000000 in
set_option maxRecDepth 100000 in
theorem contains41 (k : Nat) (A0 : Option Addr) (c0 : Nat) (l0 : List S68) (r : Bool) (w : World) (hr0 : Kd.C k68 w A0 l0.length l0) (hc0 : l0.length ≤ c0) (h : anyK (fun x => model_Check_1.f k x.f0 x.f1.f0.f0 x.f1.f0.f1 x.f1.f0.f2 x.f1.f1.f0 x.f1.f1.f1 x.f1.f1.f2 x.f2) l0 = some r) :
  Calls Try.prog 40 #[.slice A0 l0.length c0, .func (.func 41) #[] #[]] w fun e w' => e = .returned (.bool r) ∧ Below w.heap.size w w' := by
 have hcon := fun W hW => index41 k A0 c0 l0 r W hW hc0 h
 have HR := am hr0
 clear hr0 h
 go_enter Try.func40, Try.ntmps40
 go_wp2_with (go_at_call 70; refine (hcon _ HR.out).mono ?_; rintro e w' ⟨i, rfl, hi, hb⟩; have HI := am hi; have HB := am hb; clear hi hb)
 go_ret
 exact ⟨by rw [← HI.out]; rfl, HB.out⟩
theorem clo44 (k : Nat) (x : S68) (b : Bool) (W : World) (h : model_Check_2.f  x.f0 x.f1.f0.f0 x.f1.f0.f1 x.f1.f0.f2 x.f1.f1.f0 x.f1.f1.f1 x.f1.f1.f2 x.f2 = some b) : Calls Try.prog 44 #[.agg #[.string x.f0, .int .i64 x.f1.f0.f0, .int .i64 x.f1.f0.f1, .int .i64 x.f1.f0.f2, .int .i64 x.f1.f1.f0, .int .i64 x.f1.f1.f1, .int .i64 x.f1.f1.f2, .int .i64 x.f2]] W fun e w' => e = .returned (.bool b) ∧ Below W.heap.size W w' :=
 (model_Check_2.calls  x.f0 x.f1.f0.f0 x.f1.f0.f1 x.f1.f0.f2 x.f1.f1.f0 x.f1.f1.f1 x.f1.f1.f2 x.f2 b W h).mono fun e w' ⟨h1, h2⟩ => ⟨h1, h2⟩
set_option maxHeartbeats 1000000 in
set_option maxRecDepth 100000 in
theorem index44 (k : Nat) (A0 : Option Addr) (c0 : Nat) (l0 : List S68) (r : Bool) (w : World) (hr0 : Kd.C k68 w A0 l0.length l0) (hc0 : l0.length ≤ c0) (h : anyK (fun x => model_Check_2.f  x.f0 x.f1.f0.f0 x.f1.f0.f1 x.f1.f0.f2 x.f1.f1.f0 x.f1.f1.f1 x.f1.f1.f2 x.f2) l0 = some r) :
  Calls Try.prog 70 #[.slice A0 l0.length c0, .func (.func 44) #[] #[]] w fun e w' => ∃ i : Int, e = .returned (.int .i64 i) ∧ decide (i ≥ 0) = r ∧ Below w.heap.size w w' := by
 have hn := hr0.2.1
 have HR := am hr0
 have H := am h
 have HQ := am (@clo44 k)
 clear hr0 h
 go_enter Try.func70, Try.ntmps70
 go_wp2
 go_loopw [8] (fun i wr => ∃ j : Nat, j ≤ l0.length ∧ i = .int .i64 j ∧ Aside0 (anyK (fun x => model_Check_2.f  x.f0 x.f1.f0.f0 x.f1.f0.f1 x.f1.f0.f2 x.f1.f1.f0 x.f1.f1.f1 x.f1.f1.f2 x.f2) (l0.drop j) = some r) ∧ Aside0 (Below w.heap.size w wr))
  (fun i _ => l0.length - (intOf i).toNat)
 case atStart => exact ⟨0, Nat.zero_le _, rfl, H, ⟨Below.refl _ _⟩⟩
 case round =>
  clear H
  obtain ⟨j, hk, rfl, HP, HB⟩ := hrel
  by_cases hlt : j < l0.length
  rotate_left
  ·obtain rfl : j = l0.length := by omega
   have hp := HP.out
   rw [List.drop_length] at hp
   obtain rfl : r = false := (Option.some.inj hp).symm
   clear hp HP
   go_wp2
   go_ret
   exact ⟨_, rfl, by simp, HB.out⟩
  obtain ⟨ad, e, h0, h1, h2, h3, h4, h5, h6, h7⟩ := at_T68 HR.out (j : Int) (by omega) (by omega)
  cases e
  replace h0 := cl HB h0
  replace h1 := cl HB h1
  replace h2 := cl HB h2
  replace h3 := cl HB h3
  replace h4 := cl HB h4
  replace h5 := cl HB h5
  replace h6 := cl HB h6
  replace h7 := cl HB h7
  rw [Int.toNat_natCast] at h0 h1 h2 h3 h4 h5 h6 h7
  have hp := HP.out
  rw [EvKit.drop_cons l0 j z68 hlt, show l0.getD j z68 = rd_T68 l0 (j : Int) by simp [rd_T68]] at hp
  obtain ⟨x, hx⟩ : ∃ x, x = rd_T68 l0 (j : Int) := ⟨_, rfl⟩
  rw [← hx] at h0 h1 h2 h3 h4 h5 h6 h7 hp
  unfold anyK at hp
  obtain ⟨b, hb, hp2⟩ := Option.bind_eq_some_iff.1 hp
  clear hp HP hx
  have HX := am hb
  clear hb
  cases b with
  | true =>
   obtain rfl : r = true := (Option.some.inj hp2).symm
   clear hp2
   go_wp2_with (go_at_call 44; refine (HQ.out x true _ HX.out).mono ?_; rintro e w' ⟨rfl, hb⟩; have HB2 := bS HB hb; clear hb)
   go_ret
   exact ⟨_, rfl, by simp, HB2.out⟩
  | false =>
   have HP2 := am (show anyK _ (l0.drop (j + 1)) = some r from hp2)
   clear hp2
   go_wp2_with (go_at_call 44; refine (HQ.out x false _ HX.out).mono ?_; rintro e w' ⟨rfl, hb⟩; have HB2 := bS HB hb; clear hb)
   go_roundw
   case rel => exact ⟨j + 1, by omega, by go_num, HP2, HB2⟩
   case measure => simp [intOf]; omega
set_option maxHeartbeats 1000000 in
set_option maxRecDepth 100000 in
theorem contains44 (k : Nat) (A0 : Option Addr) (c0 : Nat) (l0 : List S68) (r : Bool) (w : World) (hr0 : Kd.C k68 w A0 l0.length l0) (hc0 : l0.length ≤ c0) (h : anyK (fun x => model_Check_2.f  x.f0 x.f1.f0.f0 x.f1.f0.f1 x.f1.f0.f2 x.f1.f1.f0 x.f1.f1.f1 x.f1.f1.f2 x.f2) l0 = some r) :
  Calls Try.prog 40 #[.slice A0 l0.length c0, .func (.func 44) #[] #[]] w fun e w' => e = .returned (.bool r) ∧ Below w.heap.size w w' := by
 have hcon := fun W hW => index44 k A0 c0 l0 r W hW hc0 h
 have HR := am hr0
 clear hr0 h
 go_enter Try.func40, Try.ntmps40
 go_wp2_with (go_at_call 70; refine (hcon _ HR.out).mono ?_; rintro e w' ⟨i, rfl, hi, hb⟩; have HI := am hi; have HB := am hb; clear hi hb)
 go_ret
 exact ⟨by rw [← HI.out]; rfl, HB.out⟩
def api_Evidence_40.f (k : Nat) (l0 : List S68) (a1 : Nat) : Option Bool := if a1 = 41 then anyK (fun x => model_Check_1.f k x.f0 x.f1.f0.f0 x.f1.f0.f1 x.f1.f0.f2 x.f1.f1.f0 x.f1.f1.f1 x.f1.f1.f2 x.f2) l0 else if a1 = 44 then anyK (fun x => model_Check_2.f  x.f0 x.f1.f0.f0 x.f1.f0.f1 x.f1.f0.f2 x.f1.f1.f0 x.f1.f1.f1 x.f1.f1.f2 x.f2) l0 else none
theorem api_Evidence_40.calls (k : Nat) (A0 : Option Addr) (c0 : Nat) (l0 : List S68) (a1 : Nat) (r : Bool) (w : World) (hr0 : Kd.C k68 w A0 l0.length l0) (hc0 : l0.length ≤ c0) (h : api_Evidence_40.f k l0 a1 = some r) :
  Calls Try.prog 40 #[.slice A0 l0.length c0, .func (.func a1) #[] #[]] w fun e w' => e = .returned (.bool r) ∧ Below w.heap.size w w' := by
 unfold api_Evidence_40.f at h
 split at h
 ·subst a1
  exact contains41 k A0 c0 l0 r w hr0 hc0 h
 split at h
 ·subst a1
  exact contains44 k A0 c0 l0 r w hr0 hc0 h
 cases h
end

def box_sides.f (a0_0 : Int) (a0_1 : Int) (a0_2 : Int) (a0_3 : Int) (a0_4 : Int) (a0_5 : Int) : Option (Int × Int × Int × Int × Int × Int) := some (a0_0, a0_3, a0_1, a0_4, a0_2, a0_5)
set_option maxHeartbeats 8000000 in
set_option maxRecDepth 100000 in
theorem box_sides.calls (a0_0 : Int) (a0_1 : Int) (a0_2 : Int) (a0_3 : Int) (a0_4 : Int) (a0_5 : Int) (r1 : Int) (r2 : Int) (r3 : Int) (r4 : Int) (r5 : Int) (r6 : Int) (w : World) (h : box_sides.f a0_0 a0_1 a0_2 a0_3 a0_4 a0_5 = some (r1, r2, r3, r4, r5, r6)) :
  Calls Try.prog 71 #[.agg #[.int .i64 a0_0, .int .i64 a0_1, .int .i64 a0_2, .int .i64 a0_3, .int .i64 a0_4, .int .i64 a0_5]] w fun e w' => e = .returned (.agg #[.int .i64 r1, .int .i64 r2, .int .i64 r3, .int .i64 r4, .int .i64 r5, .int .i64 r6]) ∧ Below w.heap.size w w' := by
 have hu43 := Try.underlying43
 have hu96 := Try.underlying96
 have hu65 := Try.underlying65
 have HB := am (Below.refl w.heap.size w)
 have H : (some (a0_0, a0_3, a0_1, a0_4, a0_2, a0_5)) = some (r1, r2, r3, r4, r5, r6) := h
 clear h
 simp only [Option.some.injEq, Prod.mk.injEq] at H
 obtain ⟨rfl, rfl, rfl, rfl, rfl, rfl⟩ := H
 go_enter Try.func71, Try.ntmps71
 go_wp2_with (first | ((with_reducible refine gate_dst (N := 1) rfl ?_); refine box_event ?hg (N := 1) ?hd (cs := #[.int .i64 a0_0, .int .i64 a0_1, .int .i64 a0_2, .int .i64 a0_3, .int .i64 a0_4, .int .i64 a0_5]) (t := 43) ?hr ?_; (case hd | hg => rfl); (case hr => first | (go_simp; done) | (go_simp; rfl)); intro gb105 hg w2 hbox hb; have BK105 := am hbox; have GW105 := sG HB hg; have GE105 := sG HB hg; replace HB := bS HB hb; clear hb hbox hg) | ((with_reducible refine gate_dst (N := 2) rfl ?_); refine box_event ?hg (N := 2) ?hd (cs := #[.int .i64 0, .int .i64 0, .int .i64 0, .int .i64 0, .int .i64 0, .int .i64 0]) (t := 96) ?hr ?_; (case hd | hg => rfl); (case hr => first | (go_simp; done) | (go_simp; rfl)); intro gb106 hg w3 hbox hb; have BK106 := am hbox; have GW106 := sG HB hg; have GE106 := sG HB hg; replace HB := bS HB hb; have NB105_106 := nL BK105 hg; have NB106_105 := nG BK105 hg; replace BK105 := bB BK105 hb; clear hb hbox hg; have hnb4 := NB105_106.out; have hnc4 := NB106_105.out; obtain ⟨_, _, _, _, _, _, _, _, _, _, _, _⟩ := zC6 BK105; obtain ⟨_, _, _, _, _, _, _, _, _, _, _, _⟩ := zC6 BK106))
 refine bodyPost_ret (results_cell_row rfl _ _ gb106 96 #[.int .i64 a0_0, .int .i64 a0_3, .int .i64 a0_1, .int .i64 a0_4, .int .i64 a0_2, .int .i64 a0_5] (0, 0) _ rfl (kkC BK106.out) Try.underlying96 rfl (by kernel_rfl)) rfl ?_
 exact ⟨sqE, fW HB.out⟩

def box_in.f (a0 : Int) : Option (Bool) := if a0 ≥ (-1000000) then (some (decide (a0 ≤ 1000000))) else (some false)
set_option maxHeartbeats 8000000 in
set_option maxRecDepth 100000 in
theorem box_in.calls (a0 : Int) (r : Bool) (w : World) (h : box_in.f a0 = some r) :
  Calls Try.prog 72 #[.int .i64 a0] w fun e w' => e = .returned (.bool r) ∧ Drawn0 w w' := by
 have H : (if a0 ≥ (-1000000) then (some (decide (a0 ≤ 1000000))) else (some false)) = some r := h
 clear h
 by_cases c2 : a0 ≥ (-1000000)
 ·rw [if_pos c2] at H
  have c2b0 : decide ((-1000000) ≤ a0) = true := decide_eq_true c2
  clear c2
  obtain rfl := Option.some.inj H
  go_enter Try.func72, Try.ntmps72
  go_wp2
  go_ret
  exact ⟨by first | rfl | (simp; done) | (simp [*]; done), by repeat (first | exact Drawn0.refl _ | apply Drawn0.step)⟩
 ·rw [if_neg c2] at H
  have c2b0 : decide ((-1000000) ≤ a0) = false := decide_eq_false c2
  clear c2
  obtain rfl := Option.some.inj H
  go_enter Try.func72, Try.ntmps72
  go_wp2
  go_ret
  exact ⟨by first | rfl | (simp; done) | (simp [*]; done), by repeat (first | exact Drawn0.refl _ | apply Drawn0.step)⟩

end Go.Proofs.Ytcofgnbopodahaa.QA
