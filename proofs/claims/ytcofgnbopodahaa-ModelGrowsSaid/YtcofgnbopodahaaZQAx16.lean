import Derived.Test.YtcofgnbopodahaaZQAx0
import Derived.Test.YtcofgnbopodahaaZQAx10
import Derived.Test.YtcofgnbopodahaaZQAx11
namespace Go.Proofs.Ytcofgnbopodahaa.QA
open Go.RowKit Go.Proofs.YtcofgnbopodahaaW.PrintWords Go.Proofs.YtcofgnbopodahaaW.PrintLast Go.Proofs.YtcofgnbopodahaaW.PrintMore
open Go.Proofs.YtcofgnbopodahaaW.PrintWords renaming gate_callee → gc
open Aside0 renaming mk → am
attribute [local go_sem] max2_int min2_int max_two min_two max_three min_three max_four min_four
set_option linter.unusedVariables false
set_option linter.unusedSimpArgs false

mutual
def w_ModelJoins.j0 : Nat → Int → Int → Int → Int → Int → Int → Int → Bool → Option (Bool)
 | 0, _, _, _, _, _, _, _, _ => none
 | k + 1, x0, x1, x2, x7, x8, x9, x10, x11 => if x7 = x9 then (if x8 = x10 then (w_ModelJoins.j1 k x0 x1 x2 x7 x8 x11 ((x8 == 0) != x11)) else (w_ModelJoins.j1 k x0 x1 x2 x7 x8 x11 true)) else (w_ModelJoins.j1 k x0 x1 x2 x7 x8 x11 true)
def w_ModelJoins.j1 : Nat → Int → Int → Int → Int → Int → Bool → Bool → Option (Bool)
 | 0, _, _, _, _, _, _, _ => none
 | k + 1, x0, x1, x2, x7, x8, x11, x65 => if x65 = true then (some false) else (if x11 = true then (if x2 < 0 then (w_ModelJoins.j2 k x0 x1 x2 x7 true) else (w_ModelJoins.j2 k x0 x1 x2 x7 (decide (x2 > 3)))) else (if x8 = 1 then (some (x7 == 0)) else (some false)))
def w_ModelJoins.j2 : Nat → Int → Int → Int → Int → Bool → Option (Bool)
 | 0, _, _, _, _, _ => none
 | k + 1, x0, x1, x2, x7, x79 => if x79 = true then (some true) else ((model_Join.f k x1 x2).bind fun bt275 => ((model_Join.f k x7 x2).bind fun bt277 => ((model_Join.f k x0 bt275.1).bind fun bt279 => ((model_Join.f k x0 x0).bind fun bt281 => ((model_Join.f k x0 0).bind fun bt283 => ((model_Join.f k x0 3).bind fun bt285 => (if bt275.2 = 0 then (if bt277.2 = 0 then (if bt279.2 = 0 then (if bt277.1 = bt279.1 then (if bt281.2 = 0 then (if bt281.1 = x0 then (if bt283.2 = 0 then (if bt283.1 = x0 then (if bt285.2 = 0 then (w_ModelJoins.j3 k (bt285.1 == 3)) else (w_ModelJoins.j3 k false)) else (w_ModelJoins.j3 k false)) else (w_ModelJoins.j3 k false)) else (w_ModelJoins.j3 k false)) else (w_ModelJoins.j3 k false)) else (w_ModelJoins.j3 k false)) else (w_ModelJoins.j3 k false)) else (w_ModelJoins.j3 k false)) else (w_ModelJoins.j3 k false))))))))
def w_ModelJoins.j3 : Nat → Bool → Option (Bool)
 | 0, _ => none
 | k + 1, x6 => some x6
end
def w_ModelJoins.f (k : Nat) (a0 : Int) (a1 : Int) (a2 : Int) : Option (Bool) := (w_awake.f).bind fun t270 => (if t270 = true then ((model_Join.f k a0 a1).bind fun bt271 => ((model_Join.f k a1 a0).bind fun bt273 => (if a0 ≥ 0 then (if a0 ≤ 3 then (if a1 ≥ 0 then (w_ModelJoins.j0 k a0 a1 a2 bt271.1 bt271.2 bt273.1 bt273.2 (decide (a1 ≤ 3))) else (w_ModelJoins.j0 k a0 a1 a2 bt271.1 bt271.2 bt273.1 bt273.2 false)) else (w_ModelJoins.j0 k a0 a1 a2 bt271.1 bt271.2 bt273.1 bt273.2 false)) else (w_ModelJoins.j0 k a0 a1 a2 bt271.1 bt271.2 bt273.1 bt273.2 false)))) else (some false))
set_option maxHeartbeats 8000000 in
set_option maxRecDepth 100000 in
theorem w_ModelJoins.calls (k : Nat) (a0 : Int) (a1 : Int) (a2 : Int) (r : Bool) (w : World) (h : w_ModelJoins.f k a0 a1 a2 = some r) :
  Calls Try.prog 4 #[.int .i64 a0, .int .i64 a1, .int .i64 a2] w fun e w' => e = .returned (.bool r) ∧ Below w.heap.size w w' := by
 have HB := am (Below.refl w.heap.size w)
 have H : ((w_awake.f).bind fun t270 => (if t270 = true then ((model_Join.f k a0 a1).bind fun bt271 => ((model_Join.f k a1 a0).bind fun bt273 => (if a0 ≥ 0 then (if a0 ≤ 3 then (if a1 ≥ 0 then (w_ModelJoins.j0 k a0 a1 a2 bt271.1 bt271.2 bt273.1 bt273.2 (decide (a1 ≤ 3))) else (w_ModelJoins.j0 k a0 a1 a2 bt271.1 bt271.2 bt273.1 bt273.2 false)) else (w_ModelJoins.j0 k a0 a1 a2 bt271.1 bt271.2 bt273.1 bt273.2 false)) else (w_ModelJoins.j0 k a0 a1 a2 bt271.1 bt271.2 bt273.1 bt273.2 false)))) else (some false))) = some r := h
 clear h
 replace H := Option.bind_eq_some_iff.mp H
 obtain ⟨t270, A40, H⟩ := H
 replace H : (if t270 = true then ((model_Join.f k a0 a1).bind fun bt271 => ((model_Join.f k a1 a0).bind fun bt273 => (if a0 ≥ 0 then (if a0 ≤ 3 then (if a1 ≥ 0 then (w_ModelJoins.j0 k a0 a1 a2 bt271.1 bt271.2 bt273.1 bt273.2 (decide (a1 ≤ 3))) else (w_ModelJoins.j0 k a0 a1 a2 bt271.1 bt271.2 bt273.1 bt273.2 false)) else (w_ModelJoins.j0 k a0 a1 a2 bt271.1 bt271.2 bt273.1 bt273.2 false)) else (w_ModelJoins.j0 k a0 a1 a2 bt271.1 bt271.2 bt273.1 bt273.2 false)))) else (some false)) = some r := H
 have A4 := am A40
 clear A40
 by_cases c5 : t270 = true
 ·subst c5
  have H1 : ((model_Join.f k a0 a1).bind fun bt271 => ((model_Join.f k a1 a0).bind fun bt273 => (if a0 ≥ 0 then (if a0 ≤ 3 then (if a1 ≥ 0 then (w_ModelJoins.j0 k a0 a1 a2 bt271.1 bt271.2 bt273.1 bt273.2 (decide (a1 ≤ 3))) else (w_ModelJoins.j0 k a0 a1 a2 bt271.1 bt271.2 bt273.1 bt273.2 false)) else (w_ModelJoins.j0 k a0 a1 a2 bt271.1 bt271.2 bt273.1 bt273.2 false)) else (w_ModelJoins.j0 k a0 a1 a2 bt271.1 bt271.2 bt273.1 bt273.2 false)))) = some r := by rw [if_pos rfl] at H; exact H
  clear H
  have H := H1
  clear H1
  replace H := Option.bind_eq_some_iff.mp H
  obtain ⟨⟨t271, t272⟩, A60, H⟩ := H
  replace H : ((model_Join.f k a1 a0).bind fun bt273 => (if a0 ≥ 0 then (if a0 ≤ 3 then (if a1 ≥ 0 then (w_ModelJoins.j0 k a0 a1 a2 t271 t272 bt273.1 bt273.2 (decide (a1 ≤ 3))) else (w_ModelJoins.j0 k a0 a1 a2 t271 t272 bt273.1 bt273.2 false)) else (w_ModelJoins.j0 k a0 a1 a2 t271 t272 bt273.1 bt273.2 false)) else (w_ModelJoins.j0 k a0 a1 a2 t271 t272 bt273.1 bt273.2 false))) = some r := H
  have A6 := am A60
  clear A60
  replace H := Option.bind_eq_some_iff.mp H
  obtain ⟨⟨t273, t274⟩, A70, H⟩ := H
  replace H : (if a0 ≥ 0 then (if a0 ≤ 3 then (if a1 ≥ 0 then (w_ModelJoins.j0 k a0 a1 a2 t271 t272 t273 t274 (decide (a1 ≤ 3))) else (w_ModelJoins.j0 k a0 a1 a2 t271 t272 t273 t274 false)) else (w_ModelJoins.j0 k a0 a1 a2 t271 t272 t273 t274 false)) else (w_ModelJoins.j0 k a0 a1 a2 t271 t272 t273 t274 false)) = some r := H
  have A7 := am A70
  clear A70
  have HC8 := am H
  clear H
  go_enter Try.func4, Try.ntmps4
  go_upto_region 5 with (first | ((with_reducible refine gc (f := 10) rfl ?_); refine goesL_ (some 24) rfl rfl Try.func10 (by kernel_rfl) rfl #[] rfl (by (try simp only [pml]); first | done | rfl | (simp only [pdt]; rfl)) ?_; (with_reducible refine (w_awake.calls  true _ A4.out).mono ?_); rintro e w9 ⟨rfl, hb⟩; refine ⟨_, rfl, ?_⟩; replace HB := bS HB hb; (try clear hb); (try clear hb2); (try clear hk); (try clear hi)) | ((with_reducible refine gc (f := 19) rfl ?_); refine goesL_ (some 29) rfl rfl Try.func19 (by kernel_rfl) rfl #[.int .i64 a0, .int .i64 a1] rfl (by (try simp only [pml]); first | done | rfl | (simp only [pdt]; rfl)) ?_; (with_reducible refine (model_Join.calls k a0 a1 t271 t272 _ A6.out).mono ?_); rintro e w' ⟨rfl, ⟨nd, rfl⟩⟩; refine ⟨_, rfl, ?_⟩) | ((with_reducible refine gc (f := 19) rfl ?_); refine goesL_ (some 35) rfl rfl Try.func19 (by kernel_rfl) rfl #[.int .i64 a1, .int .i64 a0] rfl (by (try simp only [pml]); first | done | rfl | (simp only [pdt]; rfl)) ?_; (with_reducible refine (model_Join.calls k a1 a0 t273 t274 _ A7.out).mono ?_); rintro e w' ⟨rfl, ⟨nd, rfl⟩⟩; refine ⟨_, rfl, ?_⟩))
  (try simp only [Act.put, psl])
  go_cut [11] (fun v11 wc => ∃ (kq : Nat) (x11_7 : Bool), v11 = .bool x11_7 ∧ Aside0 (w_ModelJoins.j0 kq a0 a1 a2 t271 t272 t273 t274 x11_7 = some r) ∧ Aside0 (kq ≤ k) ∧ Aside0 (Below w.heap.size w wc))
  case first =>
   have H := HC8.out
   clear HC8
   by_cases c10 : a0 ≥ 0
   rotate_left
   ·rw [if_neg c10] at H
    have c10b0 : decide (0 ≤ a0) = false := decide_eq_false c10
    clear c10
    (first | rw [c10b0] | (simp only [i64_w, i32_w]; rw [c10b0]) | skip)
    have H' := am H
    clear H
    go_wp2
    go_meet
    case rel => exact ⟨_, (false), sqD, H', ⟨by first | omega | exact Nat.le_refl _⟩, ⟨fW HB.out⟩⟩
   rw [if_pos c10] at H
   have c10b0 : decide (0 ≤ a0) = true := decide_eq_true c10
   clear c10
   (first | rw [c10b0] | (simp only [i64_w, i32_w]; rw [c10b0]) | skip)
   by_cases c11 : a0 ≤ 3
   rotate_left
   ·rw [if_neg c11] at H
    have c11b0 : decide (a0 ≤ 3) = false := decide_eq_false c11
    clear c11
    have H' := am H
    clear H
    go_wp2
    go_meet
    case rel => exact ⟨_, (false), sqD, H', ⟨by first | omega | exact Nat.le_refl _⟩, ⟨fW HB.out⟩⟩
   rw [if_pos c11] at H
   have c11b0 : decide (a0 ≤ 3) = true := decide_eq_true c11
   clear c11
   by_cases c12 : a1 ≥ 0
   ·rw [if_pos c12] at H
    have c12b0 : decide (0 ≤ a1) = true := decide_eq_true c12
    clear c12
    have H' := am H
    clear H
    go_wp2
    go_meet
    case rel => exact ⟨_, (decide (a1 ≤ 3)), sqD, H', ⟨by first | omega | exact Nat.le_refl _⟩, ⟨fW HB.out⟩⟩
   rw [if_neg c12] at H
   have c12b0 : decide (0 ≤ a1) = false := decide_eq_false c12
   clear c12
   have H' := am H
   clear H
   go_wp2
   go_meet
   case rel => exact ⟨_, (false), sqD, H', ⟨by first | omega | exact Nat.le_refl _⟩, ⟨fW HB.out⟩⟩
  case rest =>
   clear HC8
   try clear c1;try clear p2;try clear c4;try clear c5;try clear c10;try clear c10b0;try clear c11;try clear c11b0;try clear c12;try clear c12b0
   obtain ⟨kq, x11_7, rfl, HA, HJ7, HB⟩ := hcut
   cases kq with
   | zero => exact absurd HA.out (by simp [w_ModelJoins.j0])
   | succ kj7 =>
    have H := HA.out
    clear HA
    simp only [w_ModelJoins.j0] at H
    have HC13 := am H
    clear H
    go_upto_region 6 with (fail)
    go_cut [65] (fun v65 wc => ∃ (kq : Nat) (x65_12 : Bool), v65 = .bool x65_12 ∧ Aside0 (w_ModelJoins.j1 kq a0 a1 a2 t271 t272 x11_7 x65_12 = some r) ∧ Aside0 (kq ≤ kj7) ∧ Aside0 (Below w.heap.size w wc))
    case first =>
     have H := HC13.out
     clear HC13
     by_cases c14 : t271 = t273
     rotate_left
     ·rw [if_neg c14] at H
      have c14b0 : (t271 == t273) = false := beq_eq_false_iff_ne.mpr c14
      have c14b1 : (t271 != t273) = true := bne_iff_ne.mpr c14
      (first | rw [c14b0] | (simp only [i64_w, i32_w]; rw [c14b0]) | skip)
      have H' := am H
      clear H
      go_wp2
      go_meet
      case rel => exact ⟨_, (true), sqD, H', ⟨by have := HJ7.out; first | omega | exact Nat.le_refl _⟩, ⟨fW HB.out⟩⟩
     rw [if_pos c14] at H
     have c14b0 : (t271 == t273) = true := beq_iff_eq.mpr c14
     have c14b1 : (t271 != t273) = false := bne_eq_false_iff_eq.mpr c14
     clear c14
     (first | rw [c14b0] | (simp only [i64_w, i32_w]; rw [c14b0]) | skip)
     by_cases c15 : t272 = t274
     ·rw [if_pos c15] at H
      have c15b0 : (t272 == t274) = true := beq_iff_eq.mpr c15
      have c15b1 : (t272 != t274) = false := bne_eq_false_iff_eq.mpr c15
      clear c15
      have H' := am H
      clear H
      go_wp2
      go_meet
      case rel => exact ⟨_, (((t272 == 0) != x11_7)), sqD, H', ⟨by have := HJ7.out; first | omega | exact Nat.le_refl _⟩, ⟨fW HB.out⟩⟩
     rw [if_neg c15] at H
     have c15b0 : (t272 == t274) = false := beq_eq_false_iff_ne.mpr c15
     have c15b1 : (t272 != t274) = true := bne_iff_ne.mpr c15
     have H' := am H
     clear H
     go_wp2
     go_meet
     case rel => exact ⟨_, (true), sqD, H', ⟨by have := HJ7.out; first | omega | exact Nat.le_refl _⟩, ⟨fW HB.out⟩⟩
    case rest =>
     clear HC13
     try clear c1;try clear p2;try clear c4;try clear c5;try clear c10;try clear c10b0;try clear c11;try clear c11b0;try clear c12;try clear c12b0;try clear c14;try clear c14b0;try clear c14b1;try clear c15;try clear c15b0;try clear c15b1;try clear p2
     obtain ⟨kq, x65_12, rfl, HA, HJ12, HB⟩ := hcut
     cases kq with
     | zero => exact absurd HA.out (by simp [w_ModelJoins.j1])
     | succ kj12 =>
      have H := HA.out
      clear HA
      simp only [w_ModelJoins.j1] at H
      by_cases c16 : x65_12 = true
      ·subst c16
       have H1 : (some false) = some r := by rw [if_pos rfl] at H; exact H
       clear H
       have H := H1
       clear H1
       obtain rfl := Option.some.inj H
       go_wp2
       go_ret
       exact ⟨sqE, fW HB.out⟩
      replace c16 := Bool.eq_false_iff.mpr c16
      subst c16
      have H1 : (if x11_7 = true then (if a2 < 0 then (w_ModelJoins.j2 kj12 a0 a1 a2 t271 true) else (w_ModelJoins.j2 kj12 a0 a1 a2 t271 (decide (a2 > 3)))) else (if t272 = 1 then (some (t271 == 0)) else (some false))) = some r := by rw [if_neg (show ¬ (false = true) by decide)] at H; exact H
      clear H
      have H := H1
      clear H1
      by_cases c17 : x11_7 = true
      rotate_left
      ·replace c17 := Bool.eq_false_iff.mpr c17
       subst c17
       have H1 : (if t272 = 1 then (some (t271 == 0)) else (some false)) = some r := by rw [if_neg (show ¬ (false = true) by decide)] at H; exact H
       clear H
       have H := H1
       clear H1
       by_cases c37 : t272 = 1
       ·rw [if_pos c37] at H
        have c37b0 : (t272 == 1) = true := beq_iff_eq.mpr c37
        have c37b1 : (t272 != 1) = false := bne_eq_false_iff_eq.mpr c37
        clear c37
        obtain rfl := Option.some.inj H
        go_wp2
        go_ret
        exact ⟨sqE, fW HB.out⟩
       rw [if_neg c37] at H
       have c37b0 : (t272 == 1) = false := beq_eq_false_iff_ne.mpr c37
       have c37b1 : (t272 != 1) = true := bne_iff_ne.mpr c37
       obtain rfl := Option.some.inj H
       go_wp2
       go_ret
       exact ⟨sqE, fW HB.out⟩
      subst c17
      have H1 : (if a2 < 0 then (w_ModelJoins.j2 kj12 a0 a1 a2 t271 true) else (w_ModelJoins.j2 kj12 a0 a1 a2 t271 (decide (a2 > 3)))) = some r := by rw [if_pos rfl] at H; exact H
      clear H
      have H := H1
      clear H1
      have HC18 := am H
      clear H
      go_upto_region 10 with (fail)
      go_cut [79] (fun v79 wc => ∃ (kq : Nat) (x79_17 : Bool), v79 = .bool x79_17 ∧ Aside0 (w_ModelJoins.j2 kq a0 a1 a2 t271 x79_17 = some r) ∧ Aside0 (kq ≤ kj12) ∧ Aside0 (Below w.heap.size w wc))
      case first =>
       have H := HC18.out
       clear HC18
       by_cases c19 : a2 < 0
       ·rw [if_pos c19] at H
        have c19b0 : decide (a2 < 0) = true := decide_eq_true c19
        clear c19
        (first | rw [c19b0] | (simp only [i64_w, i32_w]; rw [c19b0]) | skip)
        have H' := am H
        clear H
        go_wp2
        go_meet
        case rel => exact ⟨_, (true), sqD, H', ⟨by have := HJ7.out; have := HJ12.out; first | omega | exact Nat.le_refl _⟩, ⟨fW HB.out⟩⟩
       rw [if_neg c19] at H
       have c19b0 : decide (a2 < 0) = false := decide_eq_false c19
       clear c19
       (first | rw [c19b0] | (simp only [i64_w, i32_w]; rw [c19b0]) | skip)
       have H' := am H
       clear H
       go_wp2
       go_meet
       case rel => exact ⟨_, (decide (a2 > 3)), sqD, H', ⟨by have := HJ7.out; have := HJ12.out; first | omega | exact Nat.le_refl _⟩, ⟨fW HB.out⟩⟩
      case rest =>
       clear HC18
       try clear c1;try clear p2;try clear c4;try clear c5;try clear c10;try clear c10b0;try clear c11;try clear c11b0;try clear c12;try clear c12b0;try clear c14;try clear c14b0;try clear c14b1;try clear c15;try clear c15b0;try clear c15b1;try clear c16;try clear c17;try clear c19;try clear c19b0;try clear p2
       obtain ⟨kq, x79_17, rfl, HA, HJ17, HB⟩ := hcut
       cases kq with
       | zero => exact absurd HA.out (by simp [w_ModelJoins.j2])
       | succ kj17 =>
        have H := HA.out
        clear HA
        simp only [w_ModelJoins.j2] at H
        by_cases c20 : x79_17 = true
        ·subst c20
         have H1 : (some true) = some r := by rw [if_pos rfl] at H; exact H
         clear H
         have H := H1
         clear H1
         obtain rfl := Option.some.inj H
         go_wp2
         go_ret
         exact ⟨sqE, fW HB.out⟩
        replace c20 := Bool.eq_false_iff.mpr c20
        subst c20
        have H1 : ((model_Join.f kj17 a1 a2).bind fun bt275 => ((model_Join.f kj17 t271 a2).bind fun bt277 => ((model_Join.f kj17 a0 bt275.1).bind fun bt279 => ((model_Join.f kj17 a0 a0).bind fun bt281 => ((model_Join.f kj17 a0 0).bind fun bt283 => ((model_Join.f kj17 a0 3).bind fun bt285 => (if bt275.2 = 0 then (if bt277.2 = 0 then (if bt279.2 = 0 then (if bt277.1 = bt279.1 then (if bt281.2 = 0 then (if bt281.1 = a0 then (if bt283.2 = 0 then (if bt283.1 = a0 then (if bt285.2 = 0 then (w_ModelJoins.j3 kj17 (bt285.1 == 3)) else (w_ModelJoins.j3 kj17 false)) else (w_ModelJoins.j3 kj17 false)) else (w_ModelJoins.j3 kj17 false)) else (w_ModelJoins.j3 kj17 false)) else (w_ModelJoins.j3 kj17 false)) else (w_ModelJoins.j3 kj17 false)) else (w_ModelJoins.j3 kj17 false)) else (w_ModelJoins.j3 kj17 false)) else (w_ModelJoins.j3 kj17 false)))))))) = some r := by rw [if_neg (show ¬ (false = true) by decide)] at H; exact H
        clear H
        have H := H1
        clear H1
        replace H := Option.bind_eq_some_iff.mp H
        obtain ⟨⟨t275, t276⟩, A210, H⟩ := H
        replace H : ((model_Join.f kj17 t271 a2).bind fun bt277 => ((model_Join.f kj17 a0 t275).bind fun bt279 => ((model_Join.f kj17 a0 a0).bind fun bt281 => ((model_Join.f kj17 a0 0).bind fun bt283 => ((model_Join.f kj17 a0 3).bind fun bt285 => (if t276 = 0 then (if bt277.2 = 0 then (if bt279.2 = 0 then (if bt277.1 = bt279.1 then (if bt281.2 = 0 then (if bt281.1 = a0 then (if bt283.2 = 0 then (if bt283.1 = a0 then (if bt285.2 = 0 then (w_ModelJoins.j3 kj17 (bt285.1 == 3)) else (w_ModelJoins.j3 kj17 false)) else (w_ModelJoins.j3 kj17 false)) else (w_ModelJoins.j3 kj17 false)) else (w_ModelJoins.j3 kj17 false)) else (w_ModelJoins.j3 kj17 false)) else (w_ModelJoins.j3 kj17 false)) else (w_ModelJoins.j3 kj17 false)) else (w_ModelJoins.j3 kj17 false)) else (w_ModelJoins.j3 kj17 false))))))) = some r := H
        have A21 := am A210
        clear A210
        replace H := Option.bind_eq_some_iff.mp H
        obtain ⟨⟨t277, t278⟩, A220, H⟩ := H
        replace H : ((model_Join.f kj17 a0 t275).bind fun bt279 => ((model_Join.f kj17 a0 a0).bind fun bt281 => ((model_Join.f kj17 a0 0).bind fun bt283 => ((model_Join.f kj17 a0 3).bind fun bt285 => (if t276 = 0 then (if t278 = 0 then (if bt279.2 = 0 then (if t277 = bt279.1 then (if bt281.2 = 0 then (if bt281.1 = a0 then (if bt283.2 = 0 then (if bt283.1 = a0 then (if bt285.2 = 0 then (w_ModelJoins.j3 kj17 (bt285.1 == 3)) else (w_ModelJoins.j3 kj17 false)) else (w_ModelJoins.j3 kj17 false)) else (w_ModelJoins.j3 kj17 false)) else (w_ModelJoins.j3 kj17 false)) else (w_ModelJoins.j3 kj17 false)) else (w_ModelJoins.j3 kj17 false)) else (w_ModelJoins.j3 kj17 false)) else (w_ModelJoins.j3 kj17 false)) else (w_ModelJoins.j3 kj17 false)))))) = some r := H
        have A22 := am A220
        clear A220
        replace H := Option.bind_eq_some_iff.mp H
        obtain ⟨⟨t279, t280⟩, A230, H⟩ := H
        replace H : ((model_Join.f kj17 a0 a0).bind fun bt281 => ((model_Join.f kj17 a0 0).bind fun bt283 => ((model_Join.f kj17 a0 3).bind fun bt285 => (if t276 = 0 then (if t278 = 0 then (if t280 = 0 then (if t277 = t279 then (if bt281.2 = 0 then (if bt281.1 = a0 then (if bt283.2 = 0 then (if bt283.1 = a0 then (if bt285.2 = 0 then (w_ModelJoins.j3 kj17 (bt285.1 == 3)) else (w_ModelJoins.j3 kj17 false)) else (w_ModelJoins.j3 kj17 false)) else (w_ModelJoins.j3 kj17 false)) else (w_ModelJoins.j3 kj17 false)) else (w_ModelJoins.j3 kj17 false)) else (w_ModelJoins.j3 kj17 false)) else (w_ModelJoins.j3 kj17 false)) else (w_ModelJoins.j3 kj17 false)) else (w_ModelJoins.j3 kj17 false))))) = some r := H
        have A23 := am A230
        clear A230
        replace H := Option.bind_eq_some_iff.mp H
        obtain ⟨⟨t281, t282⟩, A240, H⟩ := H
        replace H : ((model_Join.f kj17 a0 0).bind fun bt283 => ((model_Join.f kj17 a0 3).bind fun bt285 => (if t276 = 0 then (if t278 = 0 then (if t280 = 0 then (if t277 = t279 then (if t282 = 0 then (if t281 = a0 then (if bt283.2 = 0 then (if bt283.1 = a0 then (if bt285.2 = 0 then (w_ModelJoins.j3 kj17 (bt285.1 == 3)) else (w_ModelJoins.j3 kj17 false)) else (w_ModelJoins.j3 kj17 false)) else (w_ModelJoins.j3 kj17 false)) else (w_ModelJoins.j3 kj17 false)) else (w_ModelJoins.j3 kj17 false)) else (w_ModelJoins.j3 kj17 false)) else (w_ModelJoins.j3 kj17 false)) else (w_ModelJoins.j3 kj17 false)) else (w_ModelJoins.j3 kj17 false)))) = some r := H
        have A24 := am A240
        clear A240
        replace H := Option.bind_eq_some_iff.mp H
        obtain ⟨⟨t283, t284⟩, A250, H⟩ := H
        replace H : ((model_Join.f kj17 a0 3).bind fun bt285 => (if t276 = 0 then (if t278 = 0 then (if t280 = 0 then (if t277 = t279 then (if t282 = 0 then (if t281 = a0 then (if t284 = 0 then (if t283 = a0 then (if bt285.2 = 0 then (w_ModelJoins.j3 kj17 (bt285.1 == 3)) else (w_ModelJoins.j3 kj17 false)) else (w_ModelJoins.j3 kj17 false)) else (w_ModelJoins.j3 kj17 false)) else (w_ModelJoins.j3 kj17 false)) else (w_ModelJoins.j3 kj17 false)) else (w_ModelJoins.j3 kj17 false)) else (w_ModelJoins.j3 kj17 false)) else (w_ModelJoins.j3 kj17 false)) else (w_ModelJoins.j3 kj17 false))) = some r := H
        have A25 := am A250
        clear A250
        replace H := Option.bind_eq_some_iff.mp H
        obtain ⟨⟨t285, t286⟩, A260, H⟩ := H
        replace H : (if t276 = 0 then (if t278 = 0 then (if t280 = 0 then (if t277 = t279 then (if t282 = 0 then (if t281 = a0 then (if t284 = 0 then (if t283 = a0 then (if t286 = 0 then (w_ModelJoins.j3 kj17 (t285 == 3)) else (w_ModelJoins.j3 kj17 false)) else (w_ModelJoins.j3 kj17 false)) else (w_ModelJoins.j3 kj17 false)) else (w_ModelJoins.j3 kj17 false)) else (w_ModelJoins.j3 kj17 false)) else (w_ModelJoins.j3 kj17 false)) else (w_ModelJoins.j3 kj17 false)) else (w_ModelJoins.j3 kj17 false)) else (w_ModelJoins.j3 kj17 false)) = some r := H
        have A26 := am A260
        clear A260
        have HC27 := am H
        clear H
        go_upto_region 18 with (first | ((with_reducible refine gc (f := 19) rfl ?_); refine goesL_ (some 83) rfl rfl Try.func19 (by kernel_rfl) rfl #[.int .i64 a1, .int .i64 a2] rfl (by (try simp only [pml]); first | done | rfl | (simp only [pdt]; rfl)) ?_; (with_reducible refine (model_Join.calls kj17 a1 a2 t275 t276 _ A21.out).mono ?_); rintro e w' ⟨rfl, ⟨nd, rfl⟩⟩; refine ⟨_, rfl, ?_⟩) | ((with_reducible refine gc (f := 19) rfl ?_); refine goesL_ (some 89) rfl rfl Try.func19 (by kernel_rfl) rfl #[.int .i64 t271, .int .i64 a2] rfl (by (try simp only [pml]); first | done | rfl | (simp only [pdt]; rfl)) ?_; (with_reducible refine (model_Join.calls kj17 t271 a2 t277 t278 _ A22.out).mono ?_); rintro e w' ⟨rfl, ⟨nd, rfl⟩⟩; refine ⟨_, rfl, ?_⟩) | ((with_reducible refine gc (f := 19) rfl ?_); refine goesL_ (some 95) rfl rfl Try.func19 (by kernel_rfl) rfl #[.int .i64 a0, .int .i64 t275] rfl (by (try simp only [pml]); first | done | rfl | (simp only [pdt]; rfl)) ?_; (with_reducible refine (model_Join.calls kj17 a0 t275 t279 t280 _ A23.out).mono ?_); rintro e w' ⟨rfl, ⟨nd, rfl⟩⟩; refine ⟨_, rfl, ?_⟩) | ((with_reducible refine gc (f := 19) rfl ?_); refine goesL_ (some 101) rfl rfl Try.func19 (by kernel_rfl) rfl #[.int .i64 a0, .int .i64 a0] rfl (by (try simp only [pml]); first | done | rfl | (simp only [pdt]; rfl)) ?_; (with_reducible refine (model_Join.calls kj17 a0 a0 t281 t282 _ A24.out).mono ?_); rintro e w' ⟨rfl, ⟨nd, rfl⟩⟩; refine ⟨_, rfl, ?_⟩) | ((with_reducible refine gc (f := 19) rfl ?_); refine goesL_ (some 106) rfl rfl Try.func19 (by kernel_rfl) rfl #[.int .i64 a0, .int .i64 0] rfl (by (try simp only [pml]); first | done | rfl | (simp only [pdt]; rfl)) ?_; (with_reducible refine (model_Join.calls kj17 a0 0 t283 t284 _ A25.out).mono ?_); rintro e w' ⟨rfl, ⟨nd, rfl⟩⟩; refine ⟨_, rfl, ?_⟩) | ((with_reducible refine gc (f := 19) rfl ?_); refine goesL_ (some 111) rfl rfl Try.func19 (by kernel_rfl) rfl #[.int .i64 a0, .int .i64 3] rfl (by (try simp only [pml]); first | done | rfl | (simp only [pdt]; rfl)) ?_; (with_reducible refine (model_Join.calls kj17 a0 3 t285 t286 _ A26.out).mono ?_); rintro e w' ⟨rfl, ⟨nd, rfl⟩⟩; refine ⟨_, rfl, ?_⟩))
        (try simp only [Act.put, psl])
        go_cut [6] (fun v6 wc => ∃ (kq : Nat) (x6_26 : Bool), v6 = .bool x6_26 ∧ Aside0 (w_ModelJoins.j3 kq x6_26 = some r) ∧ Aside0 (kq ≤ kj17) ∧ Aside0 (Below w.heap.size w wc))
        case first =>
         have H := HC27.out
         clear HC27
         by_cases c28 : t276 = 0
         rotate_left
         ·rw [if_neg c28] at H
          have c28b0 : (t276 == 0) = false := beq_eq_false_iff_ne.mpr c28
          have c28b1 : (t276 != 0) = true := bne_iff_ne.mpr c28
          (first | rw [c28b0] | (simp only [i64_w, i32_w]; rw [c28b0]) | skip)
          have H' := am H
          clear H
          go_wp2
          go_meet
          case rel => exact ⟨_, (false), sqD, H', ⟨by have := HJ7.out; have := HJ12.out; have := HJ17.out; first | omega | exact Nat.le_refl _⟩, ⟨fW HB.out⟩⟩
         rw [if_pos c28] at H
         have c28b0 : (t276 == 0) = true := beq_iff_eq.mpr c28
         have c28b1 : (t276 != 0) = false := bne_eq_false_iff_eq.mpr c28
         clear c28
         (first | rw [c28b0] | (simp only [i64_w, i32_w]; rw [c28b0]) | skip)
         by_cases c29 : t278 = 0
         rotate_left
         ·rw [if_neg c29] at H
          have c29b0 : (t278 == 0) = false := beq_eq_false_iff_ne.mpr c29
          have c29b1 : (t278 != 0) = true := bne_iff_ne.mpr c29
          have H' := am H
          clear H
          go_wp2
          go_meet
          case rel => exact ⟨_, (false), sqD, H', ⟨by have := HJ7.out; have := HJ12.out; have := HJ17.out; first | omega | exact Nat.le_refl _⟩, ⟨fW HB.out⟩⟩
         rw [if_pos c29] at H
         have c29b0 : (t278 == 0) = true := beq_iff_eq.mpr c29
         have c29b1 : (t278 != 0) = false := bne_eq_false_iff_eq.mpr c29
         clear c29
         by_cases c30 : t280 = 0
         rotate_left
         ·rw [if_neg c30] at H
          have c30b0 : (t280 == 0) = false := beq_eq_false_iff_ne.mpr c30
          have c30b1 : (t280 != 0) = true := bne_iff_ne.mpr c30
          have H' := am H
          clear H
          go_wp2
          go_meet
          case rel => exact ⟨_, (false), sqD, H', ⟨by have := HJ7.out; have := HJ12.out; have := HJ17.out; first | omega | exact Nat.le_refl _⟩, ⟨fW HB.out⟩⟩
         rw [if_pos c30] at H
         have c30b0 : (t280 == 0) = true := beq_iff_eq.mpr c30
         have c30b1 : (t280 != 0) = false := bne_eq_false_iff_eq.mpr c30
         clear c30
         by_cases c31 : t277 = t279
         rotate_left
         ·rw [if_neg c31] at H
          have c31b0 : (t277 == t279) = false := beq_eq_false_iff_ne.mpr c31
          have c31b1 : (t277 != t279) = true := bne_iff_ne.mpr c31
          have H' := am H
          clear H
          go_wp2
          go_meet
          case rel => exact ⟨_, (false), sqD, H', ⟨by have := HJ7.out; have := HJ12.out; have := HJ17.out; first | omega | exact Nat.le_refl _⟩, ⟨fW HB.out⟩⟩
         rw [if_pos c31] at H
         have c31b0 : (t277 == t279) = true := beq_iff_eq.mpr c31
         have c31b1 : (t277 != t279) = false := bne_eq_false_iff_eq.mpr c31
         clear c31
         by_cases c32 : t282 = 0
         rotate_left
         ·rw [if_neg c32] at H
          have c32b0 : (t282 == 0) = false := beq_eq_false_iff_ne.mpr c32
          have c32b1 : (t282 != 0) = true := bne_iff_ne.mpr c32
          have H' := am H
          clear H
          go_wp2
          go_meet
          case rel => exact ⟨_, (false), sqD, H', ⟨by have := HJ7.out; have := HJ12.out; have := HJ17.out; first | omega | exact Nat.le_refl _⟩, ⟨fW HB.out⟩⟩
         rw [if_pos c32] at H
         have c32b0 : (t282 == 0) = true := beq_iff_eq.mpr c32
         have c32b1 : (t282 != 0) = false := bne_eq_false_iff_eq.mpr c32
         clear c32
         by_cases c33 : t281 = a0
         rotate_left
         ·rw [if_neg c33] at H
          have c33b0 : (t281 == a0) = false := beq_eq_false_iff_ne.mpr c33
          have c33b1 : (t281 != a0) = true := bne_iff_ne.mpr c33
          have H' := am H
          clear H
          go_wp2
          go_meet
          case rel => exact ⟨_, (false), sqD, H', ⟨by have := HJ7.out; have := HJ12.out; have := HJ17.out; first | omega | exact Nat.le_refl _⟩, ⟨fW HB.out⟩⟩
         rw [if_pos c33] at H
         have c33b0 : (t281 == a0) = true := beq_iff_eq.mpr c33
         have c33b1 : (t281 != a0) = false := bne_eq_false_iff_eq.mpr c33
         clear c33
         by_cases c34 : t284 = 0
         rotate_left
         ·rw [if_neg c34] at H
          have c34b0 : (t284 == 0) = false := beq_eq_false_iff_ne.mpr c34
          have c34b1 : (t284 != 0) = true := bne_iff_ne.mpr c34
          have H' := am H
          clear H
          go_wp2
          go_meet
          case rel => exact ⟨_, (false), sqD, H', ⟨by have := HJ7.out; have := HJ12.out; have := HJ17.out; first | omega | exact Nat.le_refl _⟩, ⟨fW HB.out⟩⟩
         rw [if_pos c34] at H
         have c34b0 : (t284 == 0) = true := beq_iff_eq.mpr c34
         have c34b1 : (t284 != 0) = false := bne_eq_false_iff_eq.mpr c34
         clear c34
         by_cases c35 : t283 = a0
         rotate_left
         ·rw [if_neg c35] at H
          have c35b0 : (t283 == a0) = false := beq_eq_false_iff_ne.mpr c35
          have c35b1 : (t283 != a0) = true := bne_iff_ne.mpr c35
          have H' := am H
          clear H
          go_wp2
          go_meet
          case rel => exact ⟨_, (false), sqD, H', ⟨by have := HJ7.out; have := HJ12.out; have := HJ17.out; first | omega | exact Nat.le_refl _⟩, ⟨fW HB.out⟩⟩
         rw [if_pos c35] at H
         have c35b0 : (t283 == a0) = true := beq_iff_eq.mpr c35
         have c35b1 : (t283 != a0) = false := bne_eq_false_iff_eq.mpr c35
         clear c35
         by_cases c36 : t286 = 0
         ·rw [if_pos c36] at H
          have c36b0 : (t286 == 0) = true := beq_iff_eq.mpr c36
          have c36b1 : (t286 != 0) = false := bne_eq_false_iff_eq.mpr c36
          clear c36
          have H' := am H
          clear H
          go_wp2
          go_meet
          case rel => exact ⟨_, ((t285 == 3)), sqD, H', ⟨by have := HJ7.out; have := HJ12.out; have := HJ17.out; first | omega | exact Nat.le_refl _⟩, ⟨fW HB.out⟩⟩
         rw [if_neg c36] at H
         have c36b0 : (t286 == 0) = false := beq_eq_false_iff_ne.mpr c36
         have c36b1 : (t286 != 0) = true := bne_iff_ne.mpr c36
         have H' := am H
         clear H
         go_wp2
         go_meet
         case rel => exact ⟨_, (false), sqD, H', ⟨by have := HJ7.out; have := HJ12.out; have := HJ17.out; first | omega | exact Nat.le_refl _⟩, ⟨fW HB.out⟩⟩
        case rest =>
         clear HC27
         try clear c1;try clear c2;try clear p2;try clear c3;try clear c4;try clear c5;try clear c10;try clear c10b0;try clear c11;try clear c11b0;try clear c12;try clear c12b0;try clear c14;try clear c14b0;try clear c14b1;try clear c15;try clear c15b0;try clear c15b1;try clear c16;try clear c17;try clear c19;try clear c19b0;try clear c20;try clear c28;try clear c28b0;try clear c28b1;try clear c29;try clear c29b0;try clear c29b1;try clear c30;try clear c30b0;try clear c30b1;try clear c31;try clear c31b0;try clear c31b1;try clear c32;try clear c32b0;try clear c32b1;try clear c33;try clear c33b0;try clear c33b1;try clear c34;try clear c34b0;try clear c34b1;try clear c35;try clear c35b0;try clear c35b1;try clear c36;try clear c36b0;try clear c36b1;try clear p2
         obtain ⟨kq, x6_26, rfl, HA, HJ26, HB⟩ := hcut
         cases kq with
         | zero => exact absurd HA.out (by simp [w_ModelJoins.j3])
         | succ kj26 =>
          have H := HA.out
          clear HA
          simp only [w_ModelJoins.j3] at H
          obtain rfl := Option.some.inj H
          go_wp2
          go_ret
          exact ⟨sqE, fW HB.out⟩
 ·replace c5 := Bool.eq_false_iff.mpr c5
  subst c5
  have H1 : (some false) = some r := by rw [if_neg (show ¬ (false = true) by decide)] at H; exact H
  clear H
  have H := H1
  clear H1
  obtain rfl := Option.some.inj H
  go_enter Try.func4, Try.ntmps4
  go_wp2_with (first | ((with_reducible refine gc (f := 10) rfl ?_); refine goesL_ (some 24) rfl rfl Try.func10 (by kernel_rfl) rfl #[] rfl (by (try simp only [pml]); first | done | rfl | (simp only [pdt]; rfl)) ?_; (with_reducible refine (w_awake.calls  false _ A4.out).mono ?_); rintro e w38 ⟨rfl, hb⟩; refine ⟨_, rfl, ?_⟩; replace HB := bS HB hb; (try clear hb); (try clear hb2); (try clear hk); (try clear hi)))
  go_ret
  exact ⟨sqE, fW HB.out⟩

def w_ModelJoins.Pure : Prop := ∀ (a0 : Int) (a1 : Int) (a2 : Int), ((Lit.int .i64 a0).wf = true) → ((Lit.int .i64 a1).wf = true) → ((Lit.int .i64 a2).wf = true) → ∃ k, w_ModelJoins.f k a0 a1 a2 = some true
theorem w_ModelJoins.walk (P_ : w_ModelJoins.Pure) (a0 : Int) (a1 : Int) (a2 : Int) (w : World) (o0 : ((Lit.int .i64 a0).wf = true)) (o1 : ((Lit.int .i64 a1).wf = true)) (o2 : ((Lit.int .i64 a2).wf = true)) :
  Calls Try.prog 4 #[.int .i64 a0, .int .i64 a1, .int .i64 a2] w fun e w' => e = .returned (.bool true) ∧ Below w.heap.size w w' := by
 obtain ⟨k, h⟩ := P_ a0 a1 a2 o0 o1 o2
 refine (w_ModelJoins.calls k a0 a1 a2 true w  h).mono ?_
 rintro e w' ⟨rfl, hd⟩
 exact ⟨rfl, hd⟩

def w_above.j0 : Nat → Bool → Option (Bool)
 | 0, _ => none
 | k + 1, x4 => some x4
def w_above.f (k : Nat) (a0 : Int) (a1 : Int) : Option (Bool) := if a0 = a1 then (w_above.j0 k true) else (if a1 = 0 then (w_above.j0 k true) else (w_above.j0 k (a0 == 3)))
set_option maxHeartbeats 8000000 in
set_option maxRecDepth 100000 in
theorem w_above.calls (k : Nat) (a0 : Int) (a1 : Int) (r : Bool) (w : World) (h : w_above.f k a0 a1 = some r) :
  Calls Try.prog 20 #[.int .i64 a0, .int .i64 a1] w fun e w' => e = .returned (.bool r) ∧ Drawn0 w w' := by
 have H : (if a0 = a1 then (w_above.j0 k true) else (if a1 = 0 then (w_above.j0 k true) else (w_above.j0 k (a0 == 3)))) = some r := h
 clear h
 have HC3 := am H
 clear H
 go_enter Try.func20, Try.ntmps20
 go_upto_region 1 with (fail)
 go_cut [4] (fun v4 wc => ∃ (kq : Nat) (x4_2 : Bool), v4 = .bool x4_2 ∧ Aside0 (w_above.j0 kq x4_2 = some r) ∧ Aside0 (kq ≤ k) ∧ Drawn0 w wc)
 case first =>
  have H := HC3.out
  clear HC3
  by_cases c4 : a0 = a1
  ·rw [if_pos c4] at H
   have c4b0 : (a0 == a1) = true := beq_iff_eq.mpr c4
   have c4b1 : (a0 != a1) = false := bne_eq_false_iff_eq.mpr c4
   clear c4
   (first | rw [c4b0] | (simp only [i64_w, i32_w]; rw [c4b0]) | skip)
   have H' := am H
   clear H
   go_wp2
   go_meet
   case rel => exact ⟨_, (true), sqD, H', ⟨by first | omega | exact Nat.le_refl _⟩, by repeat (first | exact Drawn0.refl _ | apply Drawn0.step)⟩
  rw [if_neg c4] at H
  have c4b0 : (a0 == a1) = false := beq_eq_false_iff_ne.mpr c4
  have c4b1 : (a0 != a1) = true := bne_iff_ne.mpr c4
  (first | rw [c4b0] | (simp only [i64_w, i32_w]; rw [c4b0]) | skip)
  by_cases c5 : a1 = 0
  ·rw [if_pos c5] at H
   have c5b0 : (a1 == 0) = true := beq_iff_eq.mpr c5
   have c5b1 : (a1 != 0) = false := bne_eq_false_iff_eq.mpr c5
   clear c5
   have H' := am H
   clear H
   go_wp2
   go_meet
   case rel => exact ⟨_, (true), sqD, H', ⟨by first | omega | exact Nat.le_refl _⟩, by repeat (first | exact Drawn0.refl _ | apply Drawn0.step)⟩
  rw [if_neg c5] at H
  have c5b0 : (a1 == 0) = false := beq_eq_false_iff_ne.mpr c5
  have c5b1 : (a1 != 0) = true := bne_iff_ne.mpr c5
  have H' := am H
  clear H
  go_wp2
  go_meet
  case rel => exact ⟨_, ((a0 == 3)), sqD, H', ⟨by first | omega | exact Nat.le_refl _⟩, by repeat (first | exact Drawn0.refl _ | apply Drawn0.step)⟩
 case rest =>
  clear HC3
  try clear c2;try clear p2;try clear c4;try clear c4b0;try clear c4b1;try clear c5;try clear c5b0;try clear c5b1
  obtain ⟨kq, x4_2, rfl, HA, HJ2, ⟨mc2, rfl⟩⟩ := hcut
  cases kq with
  | zero => exact absurd HA.out (by simp [w_above.j0])
  | succ kj2 =>
   have H := HA.out
   clear HA
   simp only [w_above.j0] at H
   obtain rfl := Option.some.inj H
   go_wp2
   go_ret
   exact ⟨by first | rfl | (simp; done) | (simp [*]; done), by repeat (first | exact Drawn0.refl _ | apply Drawn0.step)⟩

end Go.Proofs.Ytcofgnbopodahaa.QA
