import Derived.Test.YtcofgnbopodahaaJQAx0
namespace Go.Proofs.Ytcofgnbopodahaa.QA
open Go.RowKit Go.Proofs.YtcofgnbopodahaaW.PrintWords Go.Proofs.YtcofgnbopodahaaW.PrintLast Go.Proofs.YtcofgnbopodahaaW.PrintMore
open Aside0 renaming mk → am
attribute [local go_sem] max2_int min2_int max_two min_two max_three min_three max_four min_four
set_option linter.unusedVariables false
set_option linter.unusedSimpArgs false

mutual
def r_Label.j0 : Nat → ByteArray → Bool → Option (Bool)
 | 0, _, _ => none
 | k + 1, x0, x24 => if x24 = true then (some false) else (r_Label.l0 k x0 0)
def r_Label.l0 : Nat → ByteArray → Int → Option (Bool)
 | 0, _, _ => none
 | k + 1, x0, x3 => if x3 < (x0.size : Int) then (if 0 ≤ x3 then (if (bt x0 x3) < 32 then (r_Label.j2 k x0 x3 true) else (if (bt x0 x3) > 126 then (r_Label.j2 k x0 x3 true) else (r_Label.j2 k x0 x3 ((bt x0 x3) == 34)))) else (none)) else (some true)
def r_Label.j2 : Nat → ByteArray → Int → Bool → Option (Bool)
 | 0, _, _, _ => none
 | k + 1, x0, x3, x46 => if x46 = true then (some false) else (r_Label.l0 k x0 (wrap64 (x3 + 1)))
end
def r_Label.f (k : Nat) (a0 : ByteArray) : Option (Bool) := if (a0.size : Int) < 1 then (r_Label.j0 k a0 true) else (if (a0.size : Int) > 40 then (r_Label.j0 k a0 true) else (if 0 < (a0.size : Int) then (if (bt a0 0) = 32 then (r_Label.j0 k a0 true) else (if 0 ≤ (wrap64 ((a0.size : Int) - 1)) then (if (wrap64 ((a0.size : Int) - 1)) < (a0.size : Int) then (r_Label.j0 k a0 ((bt a0 (wrap64 ((a0.size : Int) - 1))) == 32)) else (none)) else (none))) else (none)))
set_option maxHeartbeats 8000000 in
set_option maxRecDepth 100000 in
theorem r_Label.calls (k : Nat) (a0 : ByteArray) (r : Bool) (w : World) (h : r_Label.f k a0 = some r) :
  Calls Try.prog 35 #[.string a0] w fun e w' => e = .returned (.bool r) ∧ Drawn0 w w' := by
 have H : (if (a0.size : Int) < 1 then (r_Label.j0 k a0 true) else (if (a0.size : Int) > 40 then (r_Label.j0 k a0 true) else (if 0 < (a0.size : Int) then (if (bt a0 0) = 32 then (r_Label.j0 k a0 true) else (if 0 ≤ (wrap64 ((a0.size : Int) - 1)) then (if (wrap64 ((a0.size : Int) - 1)) < (a0.size : Int) then (r_Label.j0 k a0 ((bt a0 (wrap64 ((a0.size : Int) - 1))) == 32)) else (none)) else (none))) else (none)))) = some r := h
 clear h
 have HC2 := am H
 clear H
 go_enter Try.func35, Try.ntmps35
 go_upto_region 1 with (fail)
 go_cut [24] (fun v24 wc => ∃ (kq : Nat) (x24_1 : Bool), v24 = .bool x24_1 ∧ Aside0 (r_Label.j0 kq a0 x24_1 = some r) ∧ Aside0 (kq ≤ k) ∧ Drawn0 w wc)
 case first =>
  have H := HC2.out
  clear HC2
  by_cases c3 : (a0.size : Int) < 1
  ·rw [if_pos c3] at H
   have c3b0 : decide ((a0.size : Int) < 1) = true := decide_eq_true c3
   have c3b1 : decide (a0.size < 1) = true := decide_eq_true (by omega)
   clear c3
   (first | rw [c3b0] | (simp only [i64_w, i32_w]; rw [c3b0]) | skip)
   have H' := am H
   clear H
   go_wp2
   go_meet
   case rel => exact ⟨_, (true), sqD, H', ⟨by first | omega | exact Nat.le_refl _⟩, by repeat (first | exact Drawn0.refl _ | apply Drawn0.step)⟩
  rw [if_neg c3] at H
  have c3b0 : decide ((a0.size : Int) < 1) = false := decide_eq_false c3
  have c3b1 : decide (a0.size < 1) = false := decide_eq_false (by omega)
  clear c3
  (first | rw [c3b0] | (simp only [i64_w, i32_w]; rw [c3b0]) | skip)
  by_cases c4 : (a0.size : Int) > 40
  ·rw [if_pos c4] at H
   have c4b0 : decide (40 < (a0.size : Int)) = true := decide_eq_true c4
   have c4b1 : decide (40 < a0.size) = true := decide_eq_true (by omega)
   clear c4
   have H' := am H
   clear H
   go_wp2
   go_meet
   case rel => exact ⟨_, (true), sqD, H', ⟨by first | omega | exact Nat.le_refl _⟩, by repeat (first | exact Drawn0.refl _ | apply Drawn0.step)⟩
  rw [if_neg c4] at H
  have c4b0 : decide (40 < (a0.size : Int)) = false := decide_eq_false c4
  have c4b1 : decide (40 < a0.size) = false := decide_eq_false (by omega)
  clear c4
  by_cases c5 : 0 < (a0.size : Int)
  rotate_left
  ·rw [if_neg c5] at H
   exact absurd H (by simp)
  rw [if_pos c5] at H
  have c5b0 : decide (0 < (a0.size : Int)) = true := decide_eq_true c5
  have c5b1 : decide (0 < a0.size) = true := decide_eq_true (by omega)
  clear c5
  by_cases c7 : (bt a0 0) = 32
  ·rw [if_pos c7] at H
   have c7b0 : ((bt a0 0) == 32) = true := beq_iff_eq.mpr c7
   have c7b1 : ((bt a0 0) != 32) = false := bne_eq_false_iff_eq.mpr c7
   clear c7
   have H' := am H
   clear H
   have p6 : 0 ≤ (0 : Int) := (by omega)
   have q6 : 0 < a0.size := (by have : (0 : Int) < (a0.size : Int) := of_decide_eq_true (by assumption); omega)
   have hx6 : ∀ h : 0 < a0.size, ((a0[0]'h).toNat : Int) = bt a0 0 := bt_at a0 0
   clear p6
   have qi6 : (0 < (a0.size : Int)) = True := eq_true (of_decide_eq_true (by assumption))
   replace q6 := eq_true q6
   go_wp2
   go_meet
   case rel => exact ⟨_, (true), sqD, H', ⟨by first | omega | exact Nat.le_refl _⟩, by repeat (first | exact Drawn0.refl _ | apply Drawn0.step)⟩
  rw [if_neg c7] at H
  have c7b0 : ((bt a0 0) == 32) = false := beq_eq_false_iff_ne.mpr c7
  have c7b1 : ((bt a0 0) != 32) = true := bne_iff_ne.mpr c7
  obtain ⟨ji8, hji8⟩ : ∃ j_ : Int, (wrap64 ((a0.size : Int) - 1)) = j_ := ⟨_, rfl⟩
  replace H : (if 0 ≤ (ji8) then (if (ji8) < (a0.size : Int) then (r_Label.j0 k a0 ((bt a0 (ji8)) == 32)) else (none)) else (none)) = some r := by first | (rw [hji8] at H; exact H) | (simp only [hji8] at H ⊢; exact H)
  have hji8w : (IntKind.i64.wrap ((a0.size : Int) - 1)) = ji8 := (i64_w _).trans hji8
  by_cases c9 : 0 ≤ (ji8)
  rotate_left
  ·rw [if_neg c9] at H
   exact absurd H (by simp)
  rw [if_pos c9] at H
  have c9b0 : decide (0 ≤ (ji8)) = true := decide_eq_true c9
  clear c9
  by_cases c10 : (ji8) < (a0.size : Int)
  rotate_left
  ·rw [if_neg c10] at H
   exact absurd H (by simp)
  rw [if_pos c10] at H
  have c10b0 : decide ((ji8) < (a0.size : Int)) = true := decide_eq_true c10
  clear c10
  have H' := am H
  clear H
  have p6 : 0 ≤ (0 : Int) := (by omega)
  have q6 : 0 < a0.size := (by have : (0 : Int) < (a0.size : Int) := of_decide_eq_true (by assumption); omega)
  have hx6 : ∀ h : 0 < a0.size, ((a0[0]'h).toNat : Int) = bt a0 0 := bt_at a0 0
  clear p6
  have qi6 : (0 < (a0.size : Int)) = True := eq_true (of_decide_eq_true (by assumption))
  replace q6 := eq_true q6
  have p11 : 0 ≤ ((ji8) : Int) := of_decide_eq_true (by assumption)
  have q11 : (ji8) < (a0.size : Int) := of_decide_eq_true (by assumption)
  have hx11 := bt_at a0 (ji8)
  replace p11 := eq_true p11
  replace q11 := eq_true q11
  go_wp2
  go_meet
  case rel => exact ⟨_, (((bt a0 (ji8)) == 32)), (by first | rfl | (simp; done) | (simp only [← hji8] <;> (first | rfl | simp)) | (simp [*]; done)), H', ⟨by first | omega | exact Nat.le_refl _⟩, by repeat (first | exact Drawn0.refl _ | apply Drawn0.step)⟩
 case rest =>
  clear HC2
  try clear c1;try clear p1;try clear q1;try clear hx1;try clear p2;try clear c3;try clear c3b0;try clear c3b1;try clear c4;try clear c4b0;try clear c4b1;try clear c5;try clear c5b0;try clear c5b1;try clear p6;try clear q6;try clear hx6;try clear qi6;try clear c7;try clear c7b0;try clear c7b1;try clear c9;try clear c9b0;try clear c10;try clear c10b0;try clear p11;try clear q11;try clear hx11;try clear p11;try clear p6;try clear q11;try clear q6
  obtain ⟨kq, x24_1, rfl, HA, HJ1, ⟨mc1, rfl⟩⟩ := hcut
  cases kq with
  | zero => exact absurd HA.out (by simp [r_Label.j0])
  | succ kj1 =>
   have H := HA.out
   clear HA
   simp only [r_Label.j0] at H
   by_cases c12 : x24_1 = true
   ·subst c12
    have H1 : (some false) = some r := by rw [if_pos rfl] at H; exact H
    clear H
    have H := H1
    clear H1
    obtain rfl := Option.some.inj H
    go_wp2
    go_ret
    exact ⟨by first | rfl | (simp; done) | (simp [*]; done), by repeat (first | exact Drawn0.refl _ | apply Drawn0.step)⟩
   ·replace c12 := Bool.eq_false_iff.mpr c12
    subst c12
    have H1 : (r_Label.l0 kj1 a0 0) = some r := by rw [if_neg (show ¬ (false = true) by decide)] at H; exact H
    clear H
    have H := H1
    clear H1
    have H' := am H
    clear H
    go_wp2
    go_loopg [3] kj1 (fun kq v3 w' => ∃ (x3_2 : Int), v3 = .int .i64 x3_2 ∧ Aside0 (r_Label.l0 kq a0 x3_2 = some r) ∧ Aside0 (kq ≤ kj1) ∧ Drawn0 w w')
    case atStart => exact ⟨(0), sqD, H', ⟨Nat.le_refl _⟩, by repeat (first | exact Drawn0.refl _ | apply Drawn0.step)⟩
    case round =>
     clear H'
     try clear c1;try clear p1;try clear q1;try clear hx1;try clear p2;try clear c3;try clear c3b0;try clear c3b1;try clear c4;try clear c4b0;try clear c4b1;try clear c5;try clear c5b0;try clear c5b1;try clear p6;try clear q6;try clear hx6;try clear qi6;try clear c7;try clear c7b0;try clear c7b1;try clear c9;try clear c9b0;try clear c10;try clear c10b0;try clear p11;try clear q11;try clear hx11;try clear c12;try clear p1;try clear p11;try clear p2;try clear p6;try clear q1;try clear q11;try clear q6
     obtain ⟨x3_2, rfl, HA, HK2, ⟨m2, rfl⟩⟩ := hrel
     cases gk with
     | zero => exact absurd HA.out (by simp [r_Label.l0])
     | succ k2 =>
      have H := HA.out
      clear HA
      simp only [r_Label.l0] at H
      by_cases c13 : x3_2 < (a0.size : Int)
      ·rw [if_pos c13] at H
       have c13b0 : decide (x3_2 < (a0.size : Int)) = true := decide_eq_true c13
       clear c13
       have HC14 := am H
       clear H
       go_upto_region 6 with (fail)
       go_cut [46] (fun v46 wc => ∃ (kq : Nat) (x46_13 : Bool), v46 = .bool x46_13 ∧ Aside0 (r_Label.j2 kq a0 x3_2 x46_13 = some r) ∧ Aside0 (kq ≤ k2) ∧ Drawn0 w wc)
       case first =>
        have H := HC14.out
        clear HC14
        by_cases c15 : 0 ≤ x3_2
        rotate_left
        ·rw [if_neg c15] at H
         exact absurd H (by simp)
        rw [if_pos c15] at H
        have c15b0 : decide (0 ≤ x3_2) = true := decide_eq_true c15
        clear c15
        (first | rw [c15b0] | (simp only [i64_w, i32_w]; rw [c15b0]) | skip)
        by_cases c17 : (bt a0 x3_2) < 32
        ·rw [if_pos c17] at H
         have c17b0 : decide ((bt a0 x3_2) < 32) = true := decide_eq_true c17
         clear c17
         have H' := am H
         clear H
         have p16 : 0 ≤ (x3_2 : Int) := of_decide_eq_true (by assumption)
         have q16 : x3_2 < (a0.size : Int) := of_decide_eq_true (by assumption)
         have hx16 := bt_at a0 x3_2
         replace p16 := eq_true p16
         replace q16 := eq_true q16
         go_wp2
         go_meet
         case rel => exact ⟨_, (true), sqD, H', ⟨by have := HJ1.out; have := HK2.out; first | omega | exact Nat.le_refl _⟩, by repeat (first | exact Drawn0.refl _ | apply Drawn0.step)⟩
        rw [if_neg c17] at H
        have c17b0 : decide ((bt a0 x3_2) < 32) = false := decide_eq_false c17
        clear c17
        by_cases c19 : (bt a0 x3_2) > 126
        ·rw [if_pos c19] at H
         have c19b0 : decide (126 < (bt a0 x3_2)) = true := decide_eq_true c19
         clear c19
         have H' := am H
         clear H
         have p16 : 0 ≤ (x3_2 : Int) := of_decide_eq_true (by assumption)
         have q16 : x3_2 < (a0.size : Int) := of_decide_eq_true (by assumption)
         have hx16 := bt_at a0 x3_2
         replace p16 := eq_true p16
         replace q16 := eq_true q16
         have p18 : 0 ≤ (x3_2 : Int) := of_decide_eq_true (by assumption)
         have q18 : x3_2 < (a0.size : Int) := of_decide_eq_true (by assumption)
         have hx18 := bt_at a0 x3_2
         replace p18 := eq_true p18
         replace q18 := eq_true q18
         go_wp2
         go_meet
         case rel => exact ⟨_, (true), sqD, H', ⟨by have := HJ1.out; have := HK2.out; first | omega | exact Nat.le_refl _⟩, by repeat (first | exact Drawn0.refl _ | apply Drawn0.step)⟩
        rw [if_neg c19] at H
        have c19b0 : decide (126 < (bt a0 x3_2)) = false := decide_eq_false c19
        clear c19
        have H' := am H
        clear H
        have p16 : 0 ≤ (x3_2 : Int) := of_decide_eq_true (by assumption)
        have q16 : x3_2 < (a0.size : Int) := of_decide_eq_true (by assumption)
        have hx16 := bt_at a0 x3_2
        replace p16 := eq_true p16
        replace q16 := eq_true q16
        have p18 : 0 ≤ (x3_2 : Int) := of_decide_eq_true (by assumption)
        have q18 : x3_2 < (a0.size : Int) := of_decide_eq_true (by assumption)
        have hx18 := bt_at a0 x3_2
        replace p18 := eq_true p18
        replace q18 := eq_true q18
        have p20 : 0 ≤ (x3_2 : Int) := of_decide_eq_true (by assumption)
        have q20 : x3_2 < (a0.size : Int) := of_decide_eq_true (by assumption)
        have hx20 := bt_at a0 x3_2
        replace p20 := eq_true p20
        replace q20 := eq_true q20
        go_wp2
        go_meet
        case rel => exact ⟨_, (((bt a0 x3_2) == 34)), sqD, H', ⟨by have := HJ1.out; have := HK2.out; first | omega | exact Nat.le_refl _⟩, by repeat (first | exact Drawn0.refl _ | apply Drawn0.step)⟩
       case rest =>
        clear HC14
        try clear c1;try clear p1;try clear q1;try clear hx1;try clear p2;try clear q2;try clear hx2;try clear c3;try clear c3b0;try clear c3b1;try clear c4;try clear c4b0;try clear c4b1;try clear c5;try clear c5b0;try clear c5b1;try clear p6;try clear q6;try clear hx6;try clear qi6;try clear c7;try clear c7b0;try clear c7b1;try clear c9;try clear c9b0;try clear c10;try clear c10b0;try clear p11;try clear q11;try clear hx11;try clear c12;try clear c13;try clear c13b0;try clear c15;try clear c15b0;try clear p16;try clear q16;try clear hx16;try clear c17;try clear c17b0;try clear p18;try clear q18;try clear hx18;try clear c19;try clear c19b0;try clear p20;try clear q20;try clear hx20;try clear p1;try clear p11;try clear p16;try clear p18;try clear p2;try clear p20;try clear p6;try clear q1;try clear q11;try clear q16;try clear q18;try clear q20;try clear q6
        obtain ⟨kq, x46_13, rfl, HA, HJ13, ⟨mc13, rfl⟩⟩ := hcut
        cases kq with
        | zero => exact absurd HA.out (by simp [r_Label.j2])
        | succ kj13 =>
         have H := HA.out
         clear HA
         simp only [r_Label.j2] at H
         by_cases c21 : x46_13 = true
         ·subst c21
          have H1 : (some false) = some r := by rw [if_pos rfl] at H; exact H
          clear H
          have H := H1
          clear H1
          obtain rfl := Option.some.inj H
          go_wp2
          go_ret
          exact ⟨by first | rfl | (simp; done) | (simp [*]; done), by repeat (first | exact Drawn0.refl _ | apply Drawn0.step)⟩
         replace c21 := Bool.eq_false_iff.mpr c21
         subst c21
         have H1 : (r_Label.l0 kj13 a0 (wrap64 (x3_2 + 1))) = some r := by rw [if_neg (show ¬ (false = true) by decide)] at H; exact H
         clear H
         have H := H1
         clear H1
         have H' := am H
         clear H
         go_wp2
         go_roundg kj13
         case measure => have := HJ1.out; have := HK2.out; have := HJ13.out; omega
         case rel => exact ⟨(wrap64 (x3_2 + 1)), sqD, H', ⟨by have := HJ1.out; have := HK2.out; have := HJ13.out; omega⟩, by repeat (first | exact Drawn0.refl _ | apply Drawn0.step)⟩
      ·rw [if_neg c13] at H
       have c13b0 : decide (x3_2 < (a0.size : Int)) = false := decide_eq_false c13
       clear c13
       obtain rfl := Option.some.inj H
       go_wp2
       go_ret
       exact ⟨by first | rfl | (simp; done) | (simp [*]; done), by repeat (first | exact Drawn0.refl _ | apply Drawn0.step)⟩

end Go.Proofs.Ytcofgnbopodahaa.QA
