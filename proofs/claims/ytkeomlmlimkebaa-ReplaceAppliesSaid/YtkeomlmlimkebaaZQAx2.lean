import Derived.Test.YtkeomlmlimkebaaZQAx0
namespace Go.Proofs.Ytkeomlmlimkebaa.QA
open Go.RowKit Go.Proofs.YtkeomlmlimkebaaW.PrintWords Go.Proofs.YtkeomlmlimkebaaW.PrintLast Go.Proofs.YtkeomlmlimkebaaW.PrintMore
open Go.Proofs.YtkeomlmlimkebaaW.PrintWords renaming blk_frozen → bf
open Aside0 renaming mk → am
attribute [local go_sem] max2_int min2_int max_two min_two max_three min_three max_four min_four
set_option linter.unusedVariables false
set_option linter.unusedSimpArgs false

mutual
def r_Few.j0 : Nat → Bool → List (List Int) → Int → List Int → List Bool → Option (Bool)
 | 0, _, _, _, _, _ => none
 | k + 1, x19, x102000, x102001, x102002, x102003 => if x19 = true then (some false) else (r_Few.l0 k 0 x102000 x102001 x102002 x102003)
def r_Few.l0 : Nat → Int → List (List Int) → Int → List Int → List Bool → Option (Bool)
 | 0, _, _, _, _, _ => none
 | k + 1, x3, x102000, x102001, x102002, x102003 => if x3 < (x102000.length : Int) then (if 0 ≤ x3 then (if ((rd_L1 x102000 x3).length : Int) > 70 then (r_Few.j2 k x3 true x102000 x102001 x102002 x102003) else (if (x102000.length : Int) > 20 then (r_Few.j2 k x3 (decide (((rd_L1 x102000 x3).length : Int) > 4)) x102000 x102001 x102002 x102003) else (r_Few.j2 k x3 false x102000 x102001 x102002 x102003))) else (none)) else (some true)
def r_Few.j2 : Nat → Int → Bool → List (List Int) → Int → List Int → List Bool → Option (Bool)
 | 0, _, _, _, _, _, _ => none
 | k + 1, x3, x48, x102000, x102001, x102002, x102003 => if x48 = true then (some false) else (r_Few.l0 k (wrap64 (x3 + 1)) x102000 x102001 x102002 x102003)
end
def r_Few.f (k : Nat) (l0_0 : List (List Int)) (a0_1 : Int) (l0_2 : List Int) (l0_3 : List Bool) : Option (Bool) := if (l0_0.length : Int) > 70 then (r_Few.j0 k true l0_0 a0_1 l0_2 l0_3) else (if (l0_2.length : Int) > 70 then (r_Few.j0 k true l0_0 a0_1 l0_2 l0_3) else (r_Few.j0 k (decide ((l0_3.length : Int) > 70)) l0_0 a0_1 l0_2 l0_3))
set_option maxHeartbeats 8000000 in
set_option maxRecDepth 100000 in
theorem r_Few.calls (k : Nat) (A0_0 : Option Addr) (c0_0 : Nat) (l0_0 : List (List Int)) (a0_1 : Int) (A0_2 : Option Addr) (c0_2 : Nat) (l0_2 : List Int) (A0_3 : Option Addr) (c0_3 : Nat) (l0_3 : List Bool) (r : Bool) (w : World) (hr0_0 : Kd.C (Kd.slice 3 (Kd.int .i64)) w A0_0 l0_0.length l0_0) (hc0_0 : l0_0.length ≤ c0_0) (hr0_2 : Kd.C (Kd.int .i64) w A0_2 l0_2.length l0_2) (hc0_2 : l0_2.length ≤ c0_2) (hr0_3 : Kd.C Kd.bool w A0_3 l0_3.length l0_3) (hc0_3 : l0_3.length ≤ c0_3) (h : r_Few.f k l0_0 a0_1 l0_2 l0_3 = some r) :
  Calls Try.prog 10 #[.agg #[.slice A0_0 l0_0.length c0_0, .int .i64 a0_1, .slice A0_2 l0_2.length c0_2, .slice A0_3 l0_3.length c0_3]] w fun e w' => e = .returned (.bool r) ∧ Below w.heap.size w w' := by
 have hu26 := Try.underlying26
 have HR0_0 := am hr0_0
 have HC0_0 := am hc0_0
 clear hr0_0 hc0_0
 have HR0_2 := am hr0_2
 have HC0_2 := am hc0_2
 clear hr0_2 hc0_2
 have HR0_3 := am hr0_3
 have HC0_3 := am hc0_3
 clear hr0_3 hc0_3
 have HB := am (Below.refl w.heap.size w)
 have H : (if (l0_0.length : Int) > 70 then (r_Few.j0 k true l0_0 a0_1 l0_2 l0_3) else (if (l0_2.length : Int) > 70 then (r_Few.j0 k true l0_0 a0_1 l0_2 l0_3) else (r_Few.j0 k (decide ((l0_3.length : Int) > 70)) l0_0 a0_1 l0_2 l0_3))) = some r := h
 clear h
 have HC2 := am H
 clear H
 go_enter Try.func10, Try.ntmps10
 go_upto_region 1 with (first | ((with_reducible refine gate_dst (N := 1) rfl ?_); (try (refine gate_guard (by rfl) ?_; dsimp only)); refine box_event ?hg (N := 1) ?hd (cs := #[.slice A0_0 l0_0.length c0_0, .int .i64 a0_1, .slice A0_2 l0_2.length c0_2, .slice A0_3 l0_3.length c0_3]) (t := 26) ?hr ?_; (case hd | hg => rfl); (case hr => first | (go_simp; done) | (go_simp; rfl)); intro gb101 hg w3 hbox hb; have BK101 := am hbox; have GW101 := sG HB hg; have GE101 := sG HB hg; replace HB := bS HB hb; clear hb hbox hg))
 (try simp only [Act.put, psl])
 go_cut [19] (fun v19 wc => ∃ (kq : Nat) (x19_1 : Bool), v19 = .bool x19_1 ∧ Aside0 (r_Few.j0 kq x19_1 l0_0 a0_1 l0_2 l0_3 = some r) ∧ Aside0 (kq ≤ k) ∧ Aside0 (wc.heap[gb101]? = some (.cells #[(.slice A0_0 l0_0.length c0_0), .int .i64 a0_1, (.slice A0_2 l0_2.length c0_2), (.slice A0_3 l0_3.length c0_3)] 26 (0, 0))) ∧ Aside0 (Below w.heap.size w wc))
 case first =>
  have H := HC2.out
  clear HC2
  by_cases c4 : (l0_0.length : Int) > 70
  ·rw [if_pos c4] at H
   have c4b0 : decide (70 < (l0_0.length : Int)) = true := decide_eq_true c4
   have c4b1 : decide (70 < l0_0.length) = true := decide_eq_true (by omega)
   clear c4
   (first | rw [c4b0] | (simp only [i64_w, i32_w]; rw [c4b0]) | skip)
   have H' := am H
   clear H
   have := yC1 BK101
   have := kC1 BK101
   have := kC2 BK101
   have := kC3 BK101
   have := bf BK101.out 0
   have := bf BK101.out 1
   have := bf BK101.out 2
   have := bf BK101.out 3
   go_wp2
   go_meet
   case rel => exact ⟨_, (true), sqD, H', ⟨by first | omega | exact Nat.le_refl _⟩, ⟨fb BK101.out⟩, ⟨fW HB.out⟩⟩
  rw [if_neg c4] at H
  have c4b0 : decide (70 < (l0_0.length : Int)) = false := decide_eq_false c4
  have c4b1 : decide (70 < l0_0.length) = false := decide_eq_false (by omega)
  clear c4
  (first | rw [c4b0] | (simp only [i64_w, i32_w]; rw [c4b0]) | skip)
  by_cases c6 : (l0_2.length : Int) > 70
  ·rw [if_pos c6] at H
   have c6b0 : decide (70 < (l0_2.length : Int)) = true := decide_eq_true c6
   have c6b1 : decide (70 < l0_2.length) = true := decide_eq_true (by omega)
   clear c6
   have H' := am H
   clear H
   have := yC1 BK101
   have := kC1 BK101
   have := kC2 BK101
   have := kC3 BK101
   have := bf BK101.out 0
   have := bf BK101.out 1
   have := bf BK101.out 2
   have := bf BK101.out 3
   go_wp2
   go_meet
   case rel => exact ⟨_, (true), sqD, H', ⟨by first | omega | exact Nat.le_refl _⟩, ⟨fb BK101.out⟩, ⟨fW HB.out⟩⟩
  rw [if_neg c6] at H
  have c6b0 : decide (70 < (l0_2.length : Int)) = false := decide_eq_false c6
  have c6b1 : decide (70 < l0_2.length) = false := decide_eq_false (by omega)
  clear c6
  have H' := am H
  clear H
  have := yC1 BK101
  have := kC1 BK101
  have := kC2 BK101
  have := kC3 BK101
  have := bf BK101.out 0
  have := bf BK101.out 1
  have := bf BK101.out 2
  have := bf BK101.out 3
  go_wp2
  go_meet
  case rel => exact ⟨_, (decide ((l0_3.length : Int) > 70)), sqD, H', ⟨by first | omega | exact Nat.le_refl _⟩, ⟨fb BK101.out⟩, ⟨fW HB.out⟩⟩
 case rest =>
  clear HC2
  try clear c1;try clear p2;try clear c4;try clear c4b0;try clear c4b1;try clear c6;try clear c6b0;try clear c6b1
  obtain ⟨kq, x19_1, rfl, HA, HJ1, BK101, HB⟩ := hcut
  cases kq with
  | zero => exact absurd HA.out (by simp [r_Few.j0])
  | succ kj1 =>
   have H := HA.out
   clear HA
   simp only [r_Few.j0] at H
   by_cases c9 : x19_1 = true
   ·subst c9
    have H1 : (some false) = some r := by rw [if_pos rfl] at H; exact H
    clear H
    have H := H1
    clear H1
    obtain rfl := Option.some.inj H
    go_wp2
    go_ret
    exact ⟨sqE, fW HB.out⟩
   ·replace c9 := Bool.eq_false_iff.mpr c9
    subst c9
    have H1 : (r_Few.l0 kj1 0 l0_0 a0_1 l0_2 l0_3) = some r := by rw [if_neg (show ¬ (false = true) by decide)] at H; exact H
    clear H
    have H := H1
    clear H1
    have H' := am H
    clear H
    go_wp2
    go_loopg [3] kj1 (fun kq v3 w' => ∃ (x3_2 : Int), v3 = .int .i64 x3_2 ∧ Aside0 (r_Few.l0 kq x3_2 l0_0 a0_1 l0_2 l0_3 = some r) ∧ Aside0 (kq ≤ kj1) ∧ Aside0 (w'.heap[gb101]? = some (.cells #[(.slice A0_0 l0_0.length c0_0), .int .i64 a0_1, (.slice A0_2 l0_2.length c0_2), (.slice A0_3 l0_3.length c0_3)] 26 (0, 0))) ∧ Aside0 (Below w.heap.size w w'))
    case atStart => exact ⟨(0), sqD, H', ⟨Nat.le_refl _⟩, ⟨fb BK101.out⟩, ⟨fW HB.out⟩⟩
    case round =>
     clear H'
     try clear c1;try clear p2;try clear c4;try clear c4b0;try clear c4b1;try clear c6;try clear c6b0;try clear c6b1;try clear c9;try clear p2
     obtain ⟨x3_2, rfl, HA, HK2, BK101, HB⟩ := hrel
     cases gk with
     | zero => exact absurd HA.out (by simp [r_Few.l0])
     | succ k2 =>
      have H := HA.out
      clear HA
      simp only [r_Few.l0] at H
      by_cases c10 : x3_2 < (l0_0.length : Int)
      ·rw [if_pos c10] at H
       have c10b0 : decide (x3_2 < (l0_0.length : Int)) = true := decide_eq_true c10
       clear c10
       have HC11 := am H
       clear H
       have := yC1 BK101
       have := kC1 BK101
       have := kC2 BK101
       have := kC3 BK101
       have := bf BK101.out 0
       have := bf BK101.out 1
       have := bf BK101.out 2
       have := bf BK101.out 3
       go_upto_region 6 with (fail)
       go_cut [48] (fun v48 wc => ∃ (kq : Nat) (x48_10 : Bool), v48 = .bool x48_10 ∧ Aside0 (r_Few.j2 kq x3_2 x48_10 l0_0 a0_1 l0_2 l0_3 = some r) ∧ Aside0 (kq ≤ k2) ∧ Aside0 (wc.heap[gb101]? = some (.cells #[(.slice A0_0 l0_0.length c0_0), .int .i64 a0_1, (.slice A0_2 l0_2.length c0_2), (.slice A0_3 l0_3.length c0_3)] 26 (0, 0))) ∧ Aside0 (Below w.heap.size w wc))
       case first =>
        have H := HC11.out
        clear HC11
        by_cases c13 : 0 ≤ x3_2
        rotate_left
        ·rw [if_neg c13] at H
         exact absurd H (by simp)
        rw [if_pos c13] at H
        have c13b0 : decide (0 ≤ x3_2) = true := decide_eq_true c13
        clear c13
        (first | rw [c13b0] | (simp only [i64_w, i32_w]; rw [c13b0]) | skip)
        by_cases c14 : ((rd_L1 l0_0 x3_2).length : Int) > 70
        ·rw [if_pos c14] at H
         have c14b0 : decide (70 < ((rd_L1 l0_0 x3_2).length : Int)) = true := decide_eq_true c14
         have c14b1 : decide (70 < (rd_L1 l0_0 x3_2).length) = true := decide_eq_true (by omega)
         clear c14
         have H' := am H
         clear H
         have := yC1 BK101
         have := kC1 BK101
         have := kC2 BK101
         have := kC3 BK101
         have := bf BK101.out 0
         have := bf BK101.out 1
         have := bf BK101.out 2
         have := bf BK101.out 3
         have p102 : 0 ≤ (x3_2 : Int) := of_decide_eq_true (by assumption)
         have q102 : x3_2 < (l0_0.length : Int) := of_decide_eq_true (by assumption)
         obtain ⟨ad102, A102_0, c102_0, e102, hx102_0, hl102_0, hi102_0⟩ := at_L1 HR0_0.out x3_2 p102 q102
         cases e102
         replace hx102_0 := cl HB hx102_0
         have HR102_0 := am hi102_0
         have HC102_0 := am hl102_0
         clear hi102_0 hl102_0
         replace p102 := eq_true p102
         replace q102 := eq_true q102
         go_wp2
         go_meet
         case rel => exact ⟨_, (true), sqD, H', ⟨by have := HJ1.out; have := HK2.out; first | omega | exact Nat.le_refl _⟩, ⟨fb BK101.out⟩, ⟨fW HB.out⟩⟩
        rw [if_neg c14] at H
        have c14b0 : decide (70 < ((rd_L1 l0_0 x3_2).length : Int)) = false := decide_eq_false c14
        have c14b1 : decide (70 < (rd_L1 l0_0 x3_2).length) = false := decide_eq_false (by omega)
        clear c14
        by_cases c16 : (l0_0.length : Int) > 20
        rotate_left
        ·rw [if_neg c16] at H
         have c16b0 : decide (20 < (l0_0.length : Int)) = false := decide_eq_false c16
         have c16b1 : decide (20 < l0_0.length) = false := decide_eq_false (by omega)
         clear c16
         have H' := am H
         clear H
         have := yC1 BK101
         have := kC1 BK101
         have := kC2 BK101
         have := kC3 BK101
         have := bf BK101.out 0
         have := bf BK101.out 1
         have := bf BK101.out 2
         have := bf BK101.out 3
         have p102 : 0 ≤ (x3_2 : Int) := of_decide_eq_true (by assumption)
         have q102 : x3_2 < (l0_0.length : Int) := of_decide_eq_true (by assumption)
         obtain ⟨ad102, A102_0, c102_0, e102, hx102_0, hl102_0, hi102_0⟩ := at_L1 HR0_0.out x3_2 p102 q102
         cases e102
         replace hx102_0 := cl HB hx102_0
         have HR102_0 := am hi102_0
         have HC102_0 := am hl102_0
         clear hi102_0 hl102_0
         replace p102 := eq_true p102
         replace q102 := eq_true q102
         go_wp2
         go_meet
         case rel => exact ⟨_, (false), sqD, H', ⟨by have := HJ1.out; have := HK2.out; first | omega | exact Nat.le_refl _⟩, ⟨fb BK101.out⟩, ⟨fW HB.out⟩⟩
        rw [if_pos c16] at H
        have c16b0 : decide (20 < (l0_0.length : Int)) = true := decide_eq_true c16
        have c16b1 : decide (20 < l0_0.length) = true := decide_eq_true (by omega)
        clear c16
        have H' := am H
        clear H
        have := yC1 BK101
        have := kC1 BK101
        have := kC2 BK101
        have := kC3 BK101
        have := bf BK101.out 0
        have := bf BK101.out 1
        have := bf BK101.out 2
        have := bf BK101.out 3
        have p102 : 0 ≤ (x3_2 : Int) := of_decide_eq_true (by assumption)
        have q102 : x3_2 < (l0_0.length : Int) := of_decide_eq_true (by assumption)
        obtain ⟨ad102, A102_0, c102_0, e102, hx102_0, hl102_0, hi102_0⟩ := at_L1 HR0_0.out x3_2 p102 q102
        cases e102
        replace hx102_0 := cl HB hx102_0
        have HR102_0 := am hi102_0
        have HC102_0 := am hl102_0
        clear hi102_0 hl102_0
        replace p102 := eq_true p102
        replace q102 := eq_true q102
        have p103 : 0 ≤ (x3_2 : Int) := of_decide_eq_true (by assumption)
        have q103 : x3_2 < (l0_0.length : Int) := of_decide_eq_true (by assumption)
        obtain ⟨ad103, A103_0, c103_0, e103, hx103_0, hl103_0, hi103_0⟩ := at_L1 HR0_0.out x3_2 p103 q103
        obtain rfl : ad102 = ad103 := (by injection e103)
        replace hx103_0 := cl HB hx103_0
        have HR103_0 := am hi103_0
        have HC103_0 := am hl103_0
        clear hi103_0 hl103_0
        replace p103 := eq_true p103
        replace q103 := eq_true q103
        have ea_ := Option.some.inj (hx102_0.symm.trans hx103_0)
        injection ea_ with ea_ en_ ec_
        subst ea_
        subst ec_
        clear en_
        go_wp2
        go_meet
        case rel => exact ⟨_, (decide (((rd_L1 l0_0 x3_2).length : Int) > 4)), sqD, H', ⟨by have := HJ1.out; have := HK2.out; first | omega | exact Nat.le_refl _⟩, ⟨fb BK101.out⟩, ⟨fW HB.out⟩⟩
       case rest =>
        clear HC11
        try clear c1;try clear p1;try clear q1;try clear hx1;try clear p2;try clear c4;try clear c4b0;try clear c4b1;try clear c6;try clear c6b0;try clear c6b1;try clear c9;try clear c10;try clear c10b0;try clear p10;try clear q10;try clear hx10;try clear c13;try clear c13b0;try clear c14;try clear c14b0;try clear c14b1;try clear c16;try clear c16b0;try clear c16b1;try clear hx102_0;try clear hx103_0;try clear p102;try clear p103;try clear p2;try clear q102;try clear q103
        obtain ⟨kq, x48_10, rfl, HA, HJ10, BK101, HB⟩ := hcut
        cases kq with
        | zero => exact absurd HA.out (by simp [r_Few.j2])
        | succ kj10 =>
         have H := HA.out
         clear HA
         simp only [r_Few.j2] at H
         by_cases c19 : x48_10 = true
         ·subst c19
          have H1 : (some false) = some r := by rw [if_pos rfl] at H; exact H
          clear H
          have H := H1
          clear H1
          obtain rfl := Option.some.inj H
          go_wp2
          go_ret
          exact ⟨sqE, fW HB.out⟩
         replace c19 := Bool.eq_false_iff.mpr c19
         subst c19
         have H1 : (r_Few.l0 kj10 (wrap64 (x3_2 + 1)) l0_0 a0_1 l0_2 l0_3) = some r := by rw [if_neg (show ¬ (false = true) by decide)] at H; exact H
         clear H
         have H := H1
         clear H1
         have H' := am H
         clear H
         go_wp2
         go_roundg kj10
         case measure => have := HJ1.out; have := HK2.out; have := HJ10.out; omega
         case rel => exact ⟨(wrap64 (x3_2 + 1)), sqD, H', ⟨by have := HJ1.out; have := HK2.out; have := HJ10.out; omega⟩, ⟨fb BK101.out⟩, ⟨fW HB.out⟩⟩
      ·rw [if_neg c10] at H
       have c10b0 : decide (x3_2 < (l0_0.length : Int)) = false := decide_eq_false c10
       clear c10
       obtain rfl := Option.some.inj H
       have := yC1 BK101
       have := kC1 BK101
       have := kC2 BK101
       have := kC3 BK101
       have := bf BK101.out 0
       have := bf BK101.out 1
       have := bf BK101.out 2
       have := bf BK101.out 3
       go_wp2
       go_ret
       exact ⟨sqE, fW HB.out⟩

mutual
def replace_increasing.l0 : Nat → List Int → Int → List Int → Int → Int → Option (Bool)
 | 0, _, _, _, _, _ => none
 | k + 1, x0, x1, x7, x8, x9 => if x9 < x8 then (if 0 ≤ x9 then (if x9 < (x7.length : Int) then (if (rd x7 x9) < 0 then (replace_increasing.j1 k x0 x1 x7 x8 x9 true) else (if (rd x7 x9) ≥ x1 then (replace_increasing.j1 k x0 x1 x7 x8 x9 true) else (if x9 > 0 then (if 0 ≤ (wrap64 (x9 - 1)) then (if (wrap64 (x9 - 1)) < (x0.length : Int) then (replace_increasing.j1 k x0 x1 x7 x8 x9 (decide ((rd x0 (wrap64 (x9 - 1))) ≥ (rd x7 x9)))) else (none)) else (none)) else (replace_increasing.j1 k x0 x1 x7 x8 x9 false)))) else (none)) else (none)) else (some true)
def replace_increasing.j1 : Nat → List Int → Int → List Int → Int → Int → Bool → Option (Bool)
 | 0, _, _, _, _, _, _ => none
 | k + 1, x0, x1, x7, x8, x9, x33 => if x33 = true then (some false) else (replace_increasing.l0 k x0 x1 x7 x8 (wrap64 (x9 + 1)))
end
def replace_increasing.f (k : Nat) (l0 : List Int) (a1 : Int) : Option (Bool) := replace_increasing.l0 k l0 a1 l0 (l0.length : Int) 0
set_option maxHeartbeats 8000000 in
set_option maxRecDepth 100000 in
theorem replace_increasing.calls (k : Nat) (A0 : Option Addr) (c0 : Nat) (l0 : List Int) (a1 : Int) (r : Bool) (w : World) (hr0 : Kd.C (Kd.int .i64) w A0 l0.length l0) (hc0 : l0.length ≤ c0) (h : replace_increasing.f k l0 a1 = some r) :
  Calls Try.prog 43 #[.slice A0 l0.length c0, .int .i64 a1] w fun e w' => e = .returned (.bool r) ∧ Drawn0 w w' := by
 have HR0 := am hr0
 have HC0 := am hc0
 clear hr0 hc0
 have H : (replace_increasing.l0 k l0 a1 l0 (l0.length : Int) 0) = some r := h
 clear h
 have H' := am H
 clear H
 go_enter Try.func43, Try.ntmps43
 go_wp2
 go_loopg [9] k (fun kq v9 w' => ∃ (x9_1 : Int), v9 = .int .i64 x9_1 ∧ Aside0 (replace_increasing.l0 kq l0 a1 l0 (l0.length : Int) x9_1 = some r) ∧ Aside0 (kq ≤ k) ∧ Drawn0 w w')
 case atStart => exact ⟨(0), sqD, H', ⟨Nat.le_refl _⟩, by repeat (first | exact Drawn0.refl _ | apply Drawn0.step)⟩
 case round =>
  clear H'
  try clear p2
  obtain ⟨x9_1, rfl, HA, HK1, ⟨m1, rfl⟩⟩ := hrel
  cases gk with
  | zero => exact absurd HA.out (by simp [replace_increasing.l0])
  | succ k1 =>
   have H := HA.out
   clear HA
   simp only [replace_increasing.l0] at H
   by_cases c3 : x9_1 < (l0.length : Int)
   ·rw [if_pos c3] at H
    have c3b0 : decide (x9_1 < (l0.length : Int)) = true := decide_eq_true c3
    clear c3
    by_cases c4 : 0 ≤ x9_1
    rotate_left
    ·rw [if_neg c4] at H
     exact absurd H (by simp)
    rw [if_pos c4] at H
    have c4b0 : decide (0 ≤ x9_1) = true := decide_eq_true c4
    clear c4
    by_cases c5 : x9_1 < (l0.length : Int)
    rotate_left
    ·rw [if_neg c5] at H
     exact absurd H (by simp)
    rw [if_pos c5] at H
    have c5b0 : decide (x9_1 < (l0.length : Int)) = true := decide_eq_true c5
    clear c5
    have HC6 := am H
    clear H
    have p104 : 0 ≤ (x9_1 : Int) := of_decide_eq_true (by assumption)
    have q104 : x9_1 < (l0.length : Int) := of_decide_eq_true (by assumption)
    obtain ⟨ad104, e104, hx104_0⟩ := Kd.at_int HR0.out x9_1 p104 q104
    cases e104
    replace p104 := eq_true p104
    replace q104 := eq_true q104
    go_upto_region 4 with (fail)
    go_cut [33] (fun v33 wc => ∃ (kq : Nat) (x33_5 : Bool), v33 = .bool x33_5 ∧ Aside0 (replace_increasing.j1 kq l0 a1 l0 (l0.length : Int) x9_1 x33_5 = some r) ∧ Aside0 (kq ≤ k1) ∧ Drawn0 w wc)
    case first =>
     have H := HC6.out
     clear HC6
     by_cases c7 : (rd l0 x9_1) < 0
     ·rw [if_pos c7] at H
      have c7b0 : decide ((rd l0 x9_1) < 0) = true := decide_eq_true c7
      clear c7
      (first | rw [c7b0] | (simp only [i64_w, i32_w]; rw [c7b0]) | skip)
      have H' := am H
      clear H
      go_wp2
      go_meet
      case rel => exact ⟨_, (true), sqD, H', ⟨by have := HK1.out; first | omega | exact Nat.le_refl _⟩, by repeat (first | exact Drawn0.refl _ | apply Drawn0.step)⟩
     rw [if_neg c7] at H
     have c7b0 : decide ((rd l0 x9_1) < 0) = false := decide_eq_false c7
     clear c7
     (first | rw [c7b0] | (simp only [i64_w, i32_w]; rw [c7b0]) | skip)
     by_cases c8 : (rd l0 x9_1) ≥ a1
     ·rw [if_pos c8] at H
      have c8b0 : decide (a1 ≤ (rd l0 x9_1)) = true := decide_eq_true c8
      clear c8
      have H' := am H
      clear H
      go_wp2
      go_meet
      case rel => exact ⟨_, (true), sqD, H', ⟨by have := HK1.out; first | omega | exact Nat.le_refl _⟩, by repeat (first | exact Drawn0.refl _ | apply Drawn0.step)⟩
     rw [if_neg c8] at H
     have c8b0 : decide (a1 ≤ (rd l0 x9_1)) = false := decide_eq_false c8
     clear c8
     by_cases c9 : x9_1 > 0
     rotate_left
     ·rw [if_neg c9] at H
      have c9b0 : decide (0 < x9_1) = false := decide_eq_false c9
      clear c9
      have H' := am H
      clear H
      go_wp2
      go_meet
      case rel => exact ⟨_, (false), sqD, H', ⟨by have := HK1.out; first | omega | exact Nat.le_refl _⟩, by repeat (first | exact Drawn0.refl _ | apply Drawn0.step)⟩
     rw [if_pos c9] at H
     have c9b0 : decide (0 < x9_1) = true := decide_eq_true c9
     clear c9
     obtain ⟨ji10, hji10⟩ : ∃ j_ : Int, (wrap64 (x9_1 - 1)) = j_ := ⟨_, rfl⟩
     replace H : (if 0 ≤ (ji10) then (if (ji10) < (l0.length : Int) then (replace_increasing.j1 k1 l0 a1 l0 (l0.length : Int) x9_1 (decide ((rd l0 (ji10)) ≥ (rd l0 x9_1)))) else (none)) else (none)) = some r := by first | (rw [hji10] at H; exact H) | (simp only [hji10] at H ⊢; exact H)
     have hji10w : (IntKind.i64.wrap (x9_1 - 1)) = ji10 := (i64_w _).trans hji10
     by_cases c11 : 0 ≤ (ji10)
     rotate_left
     ·rw [if_neg c11] at H
      exact absurd H (by simp)
     rw [if_pos c11] at H
     have c11b0 : decide (0 ≤ (ji10)) = true := decide_eq_true c11
     clear c11
     by_cases c12 : (ji10) < (l0.length : Int)
     rotate_left
     ·rw [if_neg c12] at H
      exact absurd H (by simp)
     rw [if_pos c12] at H
     have c12b0 : decide ((ji10) < (l0.length : Int)) = true := decide_eq_true c12
     clear c12
     have H' := am H
     clear H
     have p105 : 0 ≤ ((ji10) : Int) := of_decide_eq_true (by assumption)
     have q105 : (ji10) < (l0.length : Int) := of_decide_eq_true (by assumption)
     obtain ⟨ad105, e105, hx105_0⟩ := Kd.at_int HR0.out (ji10) p105 q105
     obtain rfl : ad104 = ad105 := (by injection e105)
     replace p105 := eq_true p105
     replace q105 := eq_true q105
     go_wp2
     go_meet
     case rel => exact ⟨_, (decide ((rd l0 (ji10)) ≥ (rd l0 x9_1))), (by first | rfl | (simp; done) | (simp only [← hji10] <;> (first | rfl | simp)) | (simp [*]; done)), H', ⟨by have := HK1.out; first | omega | exact Nat.le_refl _⟩, by repeat (first | exact Drawn0.refl _ | apply Drawn0.step)⟩
    case rest =>
     clear HC6
     try clear c1;try clear p1;try clear q1;try clear hx1;try clear p2;try clear c3;try clear c3b0;try clear c4;try clear c4b0;try clear c5;try clear c5b0;try clear p6;try clear c7;try clear c7b0;try clear c8;try clear c8b0;try clear c9;try clear c9b0;try clear p10;try clear q10;try clear hx10;try clear c11;try clear c11b0;try clear c12;try clear c12b0;try clear hx104_0;try clear hx105_0;try clear p104;try clear p105;try clear p2;try clear q104;try clear q105
     obtain ⟨kq, x33_5, rfl, HA, HJ5, ⟨mc5, rfl⟩⟩ := hcut
     cases kq with
     | zero => exact absurd HA.out (by simp [replace_increasing.j1])
     | succ kj5 =>
      have H := HA.out
      clear HA
      simp only [replace_increasing.j1] at H
      by_cases c13 : x33_5 = true
      ·subst c13
       have H1 : (some false) = some r := by rw [if_pos rfl] at H; exact H
       clear H
       have H := H1
       clear H1
       obtain rfl := Option.some.inj H
       go_wp2
       go_ret
       exact ⟨by first | rfl | (simp; done) | (simp [*]; done), by repeat (first | exact Drawn0.refl _ | apply Drawn0.step)⟩
      replace c13 := Bool.eq_false_iff.mpr c13
      subst c13
      have H1 : (replace_increasing.l0 kj5 l0 a1 l0 (l0.length : Int) (wrap64 (x9_1 + 1))) = some r := by rw [if_neg (show ¬ (false = true) by decide)] at H; exact H
      clear H
      have H := H1
      clear H1
      have H' := am H
      clear H
      go_wp2
      go_roundg kj5
      case measure => have := HK1.out; have := HJ5.out; omega
      case rel => exact ⟨(wrap64 (x9_1 + 1)), sqD, H', ⟨by have := HK1.out; have := HJ5.out; omega⟩, by repeat (first | exact Drawn0.refl _ | apply Drawn0.step)⟩
   ·rw [if_neg c3] at H
    have c3b0 : decide (x9_1 < (l0.length : Int)) = false := decide_eq_false c3
    clear c3
    obtain rfl := Option.some.inj H
    go_wp2
    go_ret
    exact ⟨by first | rfl | (simp; done) | (simp [*]; done), by repeat (first | exact Drawn0.refl _ | apply Drawn0.step)⟩

def slices_Index_int_int.l0 : Nat → List Int → Int → Int → Int → Option (Int)
 | 0, _, _, _, _ => none
 | k + 1, x0, x1, x7, x8 => if x8 < x7 then (if 0 ≤ x8 then (if x8 < (x0.length : Int) then (if x1 = (rd x0 x8) then (some x8) else (slices_Index_int_int.l0 k x0 x1 x7 (wrap64 (x8 + 1)))) else (none)) else (none)) else (some (-1))
def slices_Index_int_int.f (k : Nat) (l0 : List Int) (a1 : Int) : Option (Int) := slices_Index_int_int.l0 k l0 a1 (l0.length : Int) 0
set_option maxHeartbeats 8000000 in
set_option maxRecDepth 100000 in
theorem slices_Index_int_int.calls (k : Nat) (A0 : Option Addr) (c0 : Nat) (l0 : List Int) (a1 : Int) (r : Int) (w : World) (hr0 : Kd.C (Kd.int .i64) w A0 l0.length l0) (hc0 : l0.length ≤ c0) (h : slices_Index_int_int.f k l0 a1 = some r) :
  Calls Try.prog 56 #[.slice A0 l0.length c0, .int .i64 a1] w fun e w' => e = .returned (.int .i64 r) ∧ Drawn0 w w' := by
 have HR0 := am hr0
 have HC0 := am hc0
 clear hr0 hc0
 have H : (slices_Index_int_int.l0 k l0 a1 (l0.length : Int) 0) = some r := h
 clear h
 have H' := am H
 clear H
 go_enter Try.func56, Try.ntmps56
 go_wp2
 go_loopg [8] k (fun kq v8 w' => ∃ (x8_1 : Int), v8 = .int .i64 x8_1 ∧ Aside0 (slices_Index_int_int.l0 kq l0 a1 (l0.length : Int) x8_1 = some r) ∧ Aside0 (kq ≤ k) ∧ Drawn0 w w')
 case atStart => exact ⟨(0), sqD, H', ⟨Nat.le_refl _⟩, by repeat (first | exact Drawn0.refl _ | apply Drawn0.step)⟩
 case round =>
  clear H'
  try clear p2
  obtain ⟨x8_1, rfl, HA, HK1, ⟨m1, rfl⟩⟩ := hrel
  cases gk with
  | zero => exact absurd HA.out (by simp [slices_Index_int_int.l0])
  | succ k1 =>
   have H := HA.out
   clear HA
   simp only [slices_Index_int_int.l0] at H
   by_cases c3 : x8_1 < (l0.length : Int)
   ·rw [if_pos c3] at H
    have c3b0 : decide (x8_1 < (l0.length : Int)) = true := decide_eq_true c3
    clear c3
    by_cases c4 : 0 ≤ x8_1
    rotate_left
    ·rw [if_neg c4] at H
     exact absurd H (by simp)
    rw [if_pos c4] at H
    have c4b0 : decide (0 ≤ x8_1) = true := decide_eq_true c4
    clear c4
    by_cases c5 : x8_1 < (l0.length : Int)
    rotate_left
    ·rw [if_neg c5] at H
     exact absurd H (by simp)
    rw [if_pos c5] at H
    have c5b0 : decide (x8_1 < (l0.length : Int)) = true := decide_eq_true c5
    clear c5
    by_cases c6 : a1 = (rd l0 x8_1)
    ·rw [if_pos c6] at H
     have c6b0 : (a1 == (rd l0 x8_1)) = true := beq_iff_eq.mpr c6
     have c6b1 : (a1 != (rd l0 x8_1)) = false := bne_eq_false_iff_eq.mpr c6
     clear c6
     obtain rfl := Option.some.inj H
     have p106 : 0 ≤ (x8_1 : Int) := of_decide_eq_true (by assumption)
     have q106 : x8_1 < (l0.length : Int) := of_decide_eq_true (by assumption)
     obtain ⟨ad106, e106, hx106_0⟩ := Kd.at_int HR0.out x8_1 p106 q106
     cases e106
     replace p106 := eq_true p106
     replace q106 := eq_true q106
     go_wp2
     go_ret
     exact ⟨by first | rfl | (simp; done) | (simp [*]; done), by repeat (first | exact Drawn0.refl _ | apply Drawn0.step)⟩
    rw [if_neg c6] at H
    have c6b0 : (a1 == (rd l0 x8_1)) = false := beq_eq_false_iff_ne.mpr c6
    have c6b1 : (a1 != (rd l0 x8_1)) = true := bne_iff_ne.mpr c6
    have H' := am H
    clear H
    have p106 : 0 ≤ (x8_1 : Int) := of_decide_eq_true (by assumption)
    have q106 : x8_1 < (l0.length : Int) := of_decide_eq_true (by assumption)
    obtain ⟨ad106, e106, hx106_0⟩ := Kd.at_int HR0.out x8_1 p106 q106
    cases e106
    replace p106 := eq_true p106
    replace q106 := eq_true q106
    go_wp2
    go_roundg k1
    case measure => have := HK1.out; omega
    case rel => exact ⟨(wrap64 (x8_1 + 1)), sqD, H', ⟨by have := HK1.out; omega⟩, by repeat (first | exact Drawn0.refl _ | apply Drawn0.step)⟩
   ·rw [if_neg c3] at H
    have c3b0 : decide (x8_1 < (l0.length : Int)) = false := decide_eq_false c3
    clear c3
    obtain rfl := Option.some.inj H
    go_wp2
    go_ret
    exact ⟨by first | rfl | (simp; done) | (simp [*]; done), by repeat (first | exact Drawn0.refl _ | apply Drawn0.step)⟩

end Go.Proofs.Ytkeomlmlimkebaa.QA
