import Derived.Test.YtcofgnbopodahaaJQAx0
namespace Go.Proofs.Ytcofgnbopodahaa.QA
open Go.RowKit Go.Proofs.YtcofgnbopodahaaW.PrintWords Go.Proofs.YtcofgnbopodahaaW.PrintLast Go.Proofs.YtcofgnbopodahaaW.PrintMore
open Go.Proofs.YtcofgnbopodahaaW.PrintWords renaming below_size → wz
open Aside0 renaming mk → am
attribute [local go_sem] max2_int min2_int max_two min_two max_three min_three max_four min_four
set_option linter.unusedVariables false
set_option linter.unusedSimpArgs false

mutual
def r_insert.j0 : Nat → List Int → Int → Bool → Option (List Int)
 | 0, _, _, _ => none
 | k + 1, x0, x1, x17 => if x17 = true then (some x0) else (r_insert.l0 k x0 x1 0)
def r_insert.j2 : Nat → List Int → Int → Int → Option (List Int)
 | 0, _, _, _ => none
 | k + 1, x0, x1, x9 => if x9 < (x0.length : Int) then (if 0 ≤ x9 then (if (rd x0 x9) = x1 then (some x0) else ((some (([] : List Int) : List Int)).bind fun y342 => (if x9 ≤ (x0.length : Int) then ((some (x0.take (x9 : Int).toNat : List Int)).bind fun y345 => (if y342.length + y345.length < 17592186044416 then ((some (y342 ++ y345 : List Int)).bind fun y350 => ((some (([x1] : List Int) : List Int)).bind fun y353 => (if y350.length + y353.length < 17592186044416 then ((some (y350 ++ y353 : List Int)).bind fun y356 => ((some (x0.drop (x9 : Int).toNat : List Int)).bind fun y359 => (if y356.length + y359.length < 17592186044416 then (some (y356 ++ y359)) else (none)))) else (none)))) else (none))) else (none)))) else (none)) else ((some (([] : List Int) : List Int)).bind fun y367 => (if 0 ≤ x9 then (if x9 ≤ (x0.length : Int) then ((some (x0.take (x9 : Int).toNat : List Int)).bind fun y370 => (if y367.length + y370.length < 17592186044416 then ((some (y367 ++ y370 : List Int)).bind fun y375 => ((some (([x1] : List Int) : List Int)).bind fun y378 => (if y375.length + y378.length < 17592186044416 then ((some (y375 ++ y378 : List Int)).bind fun y381 => ((some (x0.drop (x9 : Int).toNat : List Int)).bind fun y384 => (if y381.length + y384.length < 17592186044416 then (some (y381 ++ y384)) else (none)))) else (none)))) else (none))) else (none)) else (none)))
def r_insert.l0 : Nat → List Int → Int → Int → Option (List Int)
 | 0, _, _, _ => none
 | k + 1, x0, x1, x9 => if x9 < (x0.length : Int) then (if 0 ≤ x9 then (if (rd x0 x9) < x1 then (r_insert.l0 k x0 x1 (wrap64 (x9 + 1))) else (r_insert.j2 k x0 x1 x9)) else (none)) else (r_insert.j2 k x0 x1 x9)
end
def r_insert.f (k : Nat) (l0 : List Int) (a1 : Int) (a2 : Int) (a3 : Int) : Option (List Int) := if a1 ≤ a2 then (r_insert.j0 k l0 a1 true) else (r_insert.j0 k l0 a1 (decide (a1 ≥ a3)))
def r_insert.T8 : Bool × List (List Nat × List Nat) := (true, [([], []), ([], []), ([], []), ([1, 2], [1, 2]), ([0, 3], [0, 3]), ([], []), ([5], [5]), ([4, 6, 4], [4, 6]), ([], []), ([], []), ([8, 9], [8, 9]), ([7, 10, 7], [7, 10]), ([11, 11, 0, 1, 2, 3, 4, 5, 6, 7, 8, 9, 10, 11], [11])])
def r_insert.B8 : List Nat := [0, 0, 0, 6, 15, 0, 32, 127, 0, 0, 768, 2047, 4095]
theorem r_insert.tab8 : rtab .any (opsOf Try.f78 8) = r_insert.T8 := by kernel_rfl
theorem r_insert.bits8 : waitsOk r_insert.T8.2 r_insert.B8 = true := by kernel_rfl
set_option maxHeartbeats 8000000 in
set_option maxRecDepth 100000 in
theorem r_insert.calls (k : Nat) (P0_ : Nat → Prop) (A0 : Option Addr) (c0 : Nat) (l0 : List Int) (a1 : Int) (a2 : Int) (a3 : Int) (r : List Int) (w : World) (hs0 : Kd.V (Kd.int .i64) 3 w w.heap.size (fun k_ => P0_ k_) (.slice A0 l0.length c0) l0) (h : r_insert.f k l0 a1 a2 a3 = some r) :
  Calls Try.prog 78 #[.slice A0 l0.length c0, .int .i64 a1, .int .i64 a2, .int .i64 a3] w fun e w' => ∃ v0_ : Value, e = .returned (v0_) ∧ Kd.V (Kd.int .i64) 3 w' w.heap.size (fun k_ => (P0_ k_ ∨ w.heap.size ≤ k_)) v0_ r ∧ Below w.heap.size w w' := by
 have HO0 := am (show Kd.V (Kd.int .i64) 3 w w.heap.size (fun k_ => (P0_ k_ ∨ w.heap.size ≤ k_)) (.slice A0 l0.length c0) l0 from Kd.V_mono hs0 (fun k_ hk => .inl hk))
 have HB := am (Below.refl w.heap.size w)
 have H : (if a1 ≤ a2 then (r_insert.j0 k l0 a1 true) else (r_insert.j0 k l0 a1 (decide (a1 ≥ a3)))) = some r := h
 clear h
 have HC5 := am H
 clear H
 go_enter Try.func78, Try.ntmps78
 go_upto_region 1 with (fail)
 go_cut [17] (fun v17 wc => ∃ (kq : Nat) (x17_4 : Bool), v17 = .bool x17_4 ∧ Aside0 (r_insert.j0 kq l0 a1 x17_4 = some r) ∧ Aside0 (kq ≤ k) ∧ Aside0 (Kd.V (Kd.int .i64) 3 wc w.heap.size (fun k_ => (P0_ k_ ∨ w.heap.size ≤ k_)) (.slice A0 l0.length c0) l0) ∧ Aside0 (Below w.heap.size w wc))
 case first =>
  have H := HC5.out
  clear HC5
  by_cases c6 : a1 ≤ a2
  ·rw [if_pos c6] at H
   have c6b0 : decide (a1 ≤ a2) = true := decide_eq_true c6
   clear c6
   (first | rw [c6b0] | (simp only [i64_w, i32_w]; rw [c6b0]) | skip)
   have H' := am H
   clear H
   go_wp2
   go_meet
   case rel => exact ⟨_, (true), sqD, H', ⟨by first | omega | exact Nat.le_refl _⟩, ⟨by (with_reducible repeat (first | apply Kd.V_alloc | apply Kd.V_drewN | apply Kd.V_drew)); exact HO0.out⟩, ⟨fW HB.out⟩⟩
  rw [if_neg c6] at H
  have c6b0 : decide (a1 ≤ a2) = false := decide_eq_false c6
  clear c6
  (first | rw [c6b0] | (simp only [i64_w, i32_w]; rw [c6b0]) | skip)
  have H' := am H
  clear H
  go_wp2
  go_meet
  case rel => exact ⟨_, (decide (a1 ≥ a3)), sqD, H', ⟨by first | omega | exact Nat.le_refl _⟩, ⟨by (with_reducible repeat (first | apply Kd.V_alloc | apply Kd.V_drewN | apply Kd.V_drew)); exact HO0.out⟩, ⟨fW HB.out⟩⟩
 case rest =>
  clear HC5
  try clear p2;try clear c6;try clear c6b0
  obtain ⟨kq, x17_4, rfl, HA, HJ4, HO_0, HB⟩ := hcut
  cases kq with
  | zero => exact absurd HA.out (by simp [r_insert.j0])
  | succ kj4 =>
   have H := HA.out
   clear HA
   simp only [r_insert.j0] at H
   by_cases c7 : x17_4 = true
   ·subst c7
    have H1 : (some l0) = some r := by rw [if_pos rfl] at H; exact H
    clear H
    have H := H1
    clear H1
    obtain rfl := Option.some.inj H
    go_wp2
    go_ret
    exact ⟨_, sqE, by (with_reducible repeat (first | apply Kd.V_alloc | apply Kd.V_drewN | apply Kd.V_drew)); exact HO_0.out, fW HB.out⟩
   ·replace c7 := Bool.eq_false_iff.mpr c7
    subst c7
    have H1 : (r_insert.l0 kj4 l0 a1 0) = some r := by rw [if_neg (show ¬ (false = true) by decide)] at H; exact H
    clear H
    have H := H1
    clear H1
    have HC8 := am H
    clear H
    go_upto_block 0 with (fail)
    go_cut [9] (fun v9 wc => ∃ (kq : Nat) (x9_7 : Int), v9 = .int .i64 x9_7 ∧ Aside0 (r_insert.j2 kq l0 a1 x9_7 = some r) ∧ Aside0 (kq ≤ kj4) ∧ Aside0 (Kd.V (Kd.int .i64) 3 wc w.heap.size (fun k_ => (P0_ k_ ∨ w.heap.size ≤ k_)) (.slice A0 l0.length c0) l0) ∧ Aside0 (Below w.heap.size w wc))
    case first =>
     have H := HC8.out
     clear HC8
     have H' := am H
     clear H
     go_wp2
     go_loopg [9] kj4 (fun kq v9 w' => ∃ (x9_2 : Int), v9 = .int .i64 x9_2 ∧ Aside0 (r_insert.l0 kq l0 a1 x9_2 = some r) ∧ Aside0 (kq ≤ kj4) ∧ Aside0 (Kd.V (Kd.int .i64) 3 w' w.heap.size (fun k_ => (P0_ k_ ∨ w.heap.size ≤ k_)) (.slice A0 l0.length c0) l0) ∧ Aside0 (Below w.heap.size w w'))
     case atStart => exact ⟨(0), sqD, H', ⟨Nat.le_refl _⟩, ⟨by (with_reducible repeat (first | apply Kd.V_alloc | apply Kd.V_drewN | apply Kd.V_drew)); exact HO_0.out⟩, ⟨fW HB.out⟩⟩
     case round =>
      clear H'
      try clear p2;try clear c6;try clear c6b0;try clear c7;try clear p2
      obtain ⟨x9_2, rfl, HA, HK2, HO_0, HB⟩ := hrel
      cases gk with
      | zero => exact absurd HA.out (by simp [r_insert.l0])
      | succ k2 =>
       have H := HA.out
       clear HA
       simp only [r_insert.l0] at H
       by_cases c9 : x9_2 < (l0.length : Int)
       rotate_left
       ·rw [if_neg c9] at H
        have c9b0 : decide (x9_2 < (l0.length : Int)) = false := decide_eq_false c9
        clear c9
        (first | rw [c9b0] | (simp only [i64_w, i32_w]; rw [c9b0]) | skip)
        have H' := am H
        clear H
        go_wp2
        go_meet
        case rel => exact ⟨_, (x9_2), sqD, H', ⟨by have := HJ4.out; have := HK2.out; first | omega | exact Nat.le_refl _⟩, ⟨by (with_reducible repeat (first | apply Kd.V_alloc | apply Kd.V_drewN | apply Kd.V_drew)); exact HO_0.out⟩, ⟨fW HB.out⟩⟩
       rw [if_pos c9] at H
       have c9b0 : decide (x9_2 < (l0.length : Int)) = true := decide_eq_true c9
       clear c9
       (first | rw [c9b0] | (simp only [i64_w, i32_w]; rw [c9b0]) | skip)
       by_cases c10 : 0 ≤ x9_2
       rotate_left
       ·rw [if_neg c10] at H
        exact absurd H (by simp)
       rw [if_pos c10] at H
       have c10b0 : decide (0 ≤ x9_2) = true := decide_eq_true c10
       clear c10
       by_cases c11 : (rd l0 x9_2) < a1
       ·rw [if_pos c11] at H
        have c11b0 : decide ((rd l0 x9_2) < a1) = true := decide_eq_true c11
        clear c11
        have H' := am H
        clear H
        have p340 : 0 ≤ (x9_2 : Int) := of_decide_eq_true (by assumption)
        have q340 : x9_2 < (l0.length : Int) := of_decide_eq_true (by assumption)
        obtain ⟨ad340, e340, hx340_0⟩ := Kd.at_int (Kd.V_reads' HO_0.out).2.2 x9_2 p340 q340
        cases e340
        replace p340 := eq_true p340
        replace q340 := eq_true q340
        go_wp2
        go_roundg k2
        case measure => have := HJ4.out; have := HK2.out; omega
        case rel => exact ⟨(wrap64 (x9_2 + 1)), sqD, H', ⟨by have := HJ4.out; have := HK2.out; omega⟩, ⟨by (with_reducible repeat (first | apply Kd.V_alloc | apply Kd.V_drewN | apply Kd.V_drew)); exact HO_0.out⟩, ⟨fW HB.out⟩⟩
       rw [if_neg c11] at H
       have c11b0 : decide ((rd l0 x9_2) < a1) = false := decide_eq_false c11
       clear c11
       have H' := am H
       clear H
       have p340 : 0 ≤ (x9_2 : Int) := of_decide_eq_true (by assumption)
       have q340 : x9_2 < (l0.length : Int) := of_decide_eq_true (by assumption)
       obtain ⟨ad340, e340, hx340_0⟩ := Kd.at_int (Kd.V_reads' HO_0.out).2.2 x9_2 p340 q340
       cases e340
       replace p340 := eq_true p340
       replace q340 := eq_true q340
       go_wp2
       go_meet
       case rel => exact ⟨_, (x9_2), sqD, H', ⟨by have := HJ4.out; have := HK2.out; first | omega | exact Nat.le_refl _⟩, ⟨by (with_reducible repeat (first | apply Kd.V_alloc | apply Kd.V_drewN | apply Kd.V_drew)); exact HO_0.out⟩, ⟨fW HB.out⟩⟩
    case rest =>
     clear HC8
     try clear c1;try clear p2;try clear p3;try clear q3;try clear hx3;try clear c6;try clear c6b0;try clear p6;try clear c7;try clear c9;try clear c9b0;try clear c10;try clear c10b0;try clear c11;try clear c11b0;try clear hx340_0;try clear p2;try clear p340;try clear q340
     obtain ⟨kq, x9_7, rfl, HA, HJ7, HO_0, HB⟩ := hcut
     cases kq with
     | zero => exact absurd HA.out (by simp [r_insert.j2])
     | succ kj7 =>
      have H := HA.out
      clear HA
      simp only [r_insert.j2] at H
      by_cases c12 : x9_7 < (l0.length : Int)
      ·rw [if_pos c12] at H
       have c12b0 : decide (x9_7 < (l0.length : Int)) = true := decide_eq_true c12
       clear c12
       by_cases c13 : 0 ≤ x9_7
       rotate_left
       ·rw [if_neg c13] at H
        exact absurd H (by simp)
       rw [if_pos c13] at H
       have c13b0 : decide (0 ≤ x9_7) = true := decide_eq_true c13
       clear c13
       by_cases c14 : (rd l0 x9_7) = a1
       ·rw [if_pos c14] at H
        have c14b0 : ((rd l0 x9_7) == a1) = true := beq_iff_eq.mpr c14
        have c14b1 : ((rd l0 x9_7) != a1) = false := bne_eq_false_iff_eq.mpr c14
        clear c14
        obtain rfl := Option.some.inj H
        have p341 : 0 ≤ (x9_7 : Int) := of_decide_eq_true (by assumption)
        have q341 : x9_7 < (l0.length : Int) := of_decide_eq_true (by assumption)
        obtain ⟨ad341, e341, hx341_0⟩ := Kd.at_int (Kd.V_reads' HO_0.out).2.2 x9_7 p341 q341
        cases e341
        replace p341 := eq_true p341
        replace q341 := eq_true q341
        go_wp2
        go_ret
        exact ⟨_, sqE, by (with_reducible repeat (first | apply Kd.V_alloc | apply Kd.V_drewN | apply Kd.V_drew)); exact HO_0.out, fW HB.out⟩
       rw [if_neg c14] at H
       have c14b0 : ((rd l0 x9_7) == a1) = false := beq_eq_false_iff_ne.mpr c14
       have c14b1 : ((rd l0 x9_7) != a1) = true := bne_iff_ne.mpr c14
       obtain ⟨y342, hy342⟩ : ∃ y_ : List Int, y_ = (([] : List Int)) := ⟨_, rfl⟩
       replace H : (if x9_7 ≤ (l0.length : Int) then ((some (l0.take (x9_7 : Int).toNat : List Int)).bind fun y345 => (if y342.length + y345.length < 17592186044416 then ((some (y342 ++ y345 : List Int)).bind fun y350 => ((some (([a1] : List Int) : List Int)).bind fun y353 => (if y350.length + y353.length < 17592186044416 then ((some (y350 ++ y353 : List Int)).bind fun y356 => ((some (l0.drop (x9_7 : Int).toNat : List Int)).bind fun y359 => (if y356.length + y359.length < 17592186044416 then (some (y356 ++ y359)) else (none)))) else (none)))) else (none))) else (none)) = some r := by first | (rw [hy342]; with_reducible exact H) | (have H2_ := (Option.bind_some _ _).symm.trans H; rw [hy342]; with_reducible exact H2_) | (have H2_ := (Option.bind_some _ _).symm.trans H; with_reducible exact H2_) | with_reducible exact H | (rw [hy342]; exact H) | exact H
       have Ny342 := am hy342
       clear hy342
       have c15b0 := eq_true (of_decide_eq_true (by assumption) : 0 ≤ x9_7)
       by_cases c16 : x9_7 ≤ (l0.length : Int)
       rotate_left
       ·rw [if_neg c16] at H
        exact absurd H (by simp)
       rw [if_pos c16] at H
       have c16b0 := eq_true c16
       have c16b1 : decide (x9_7 ≤ (l0.length : Int)) = true := decide_eq_true c16
       clear c16
       obtain ⟨y345, hy345⟩ : ∃ y_ : List Int, y_ = (l0.take (x9_7 : Int).toNat) := ⟨_, rfl⟩
       replace H : (if y342.length + y345.length < 17592186044416 then ((some (y342 ++ y345 : List Int)).bind fun y350 => ((some (([a1] : List Int) : List Int)).bind fun y353 => (if y350.length + y353.length < 17592186044416 then ((some (y350 ++ y353 : List Int)).bind fun y356 => ((some (l0.drop (x9_7 : Int).toNat : List Int)).bind fun y359 => (if y356.length + y359.length < 17592186044416 then (some (y356 ++ y359)) else (none)))) else (none)))) else (none)) = some r := by first | (rw [hy345]; with_reducible exact H) | (have H2_ := (Option.bind_some _ _).symm.trans H; rw [hy345]; with_reducible exact H2_) | (have H2_ := (Option.bind_some _ _).symm.trans H; with_reducible exact H2_) | with_reducible exact H | (rw [hy345]; exact H) | exact H
       have Ny345 := am hy345
       clear hy345
       by_cases c17 : y342.length + y345.length < 17592186044416
       rotate_left
       ·rw [if_neg c17] at H
        exact absurd H (by simp)
       rw [if_pos c17] at H
       have LMc17 := am c17
       clear c17
       obtain ⟨y350, hy350⟩ : ∃ y_ : List Int, y_ = (y342 ++ y345) := ⟨_, rfl⟩
       replace H : ((some (([a1] : List Int) : List Int)).bind fun y353 => (if y350.length + y353.length < 17592186044416 then ((some (y350 ++ y353 : List Int)).bind fun y356 => ((some (l0.drop (x9_7 : Int).toNat : List Int)).bind fun y359 => (if y356.length + y359.length < 17592186044416 then (some (y356 ++ y359)) else (none)))) else (none))) = some r := by first | (rw [hy350]; with_reducible exact H) | (have H2_ := (Option.bind_some _ _).symm.trans H; rw [hy350]; with_reducible exact H2_) | (have H2_ := (Option.bind_some _ _).symm.trans H; with_reducible exact H2_) | with_reducible exact H | (rw [hy350]; exact H) | exact H
       have Ny350 := am hy350
       clear hy350
       obtain ⟨y353, hy353⟩ : ∃ y_ : List Int, y_ = (([a1] : List Int)) := ⟨_, rfl⟩
       replace H : (if y350.length + y353.length < 17592186044416 then ((some (y350 ++ y353 : List Int)).bind fun y356 => ((some (l0.drop (x9_7 : Int).toNat : List Int)).bind fun y359 => (if y356.length + y359.length < 17592186044416 then (some (y356 ++ y359)) else (none)))) else (none)) = some r := by first | (rw [hy353]; with_reducible exact H) | (have H2_ := (Option.bind_some _ _).symm.trans H; rw [hy353]; with_reducible exact H2_) | (have H2_ := (Option.bind_some _ _).symm.trans H; with_reducible exact H2_) | with_reducible exact H | (rw [hy353]; exact H) | exact H
       have Ny353 := am hy353
       clear hy353
       by_cases c18 : y350.length + y353.length < 17592186044416
       rotate_left
       ·rw [if_neg c18] at H
        exact absurd H (by simp)
       rw [if_pos c18] at H
       have LMc18 := am c18
       clear c18
       obtain ⟨y356, hy356⟩ : ∃ y_ : List Int, y_ = (y350 ++ y353) := ⟨_, rfl⟩
       replace H : ((some (l0.drop (x9_7 : Int).toNat : List Int)).bind fun y359 => (if y356.length + y359.length < 17592186044416 then (some (y356 ++ y359)) else (none))) = some r := by first | (rw [hy356]; with_reducible exact H) | (have H2_ := (Option.bind_some _ _).symm.trans H; rw [hy356]; with_reducible exact H2_) | (have H2_ := (Option.bind_some _ _).symm.trans H; with_reducible exact H2_) | with_reducible exact H | (rw [hy356]; exact H) | exact H
       have Ny356 := am hy356
       clear hy356
       have c19b0 := eq_true (of_decide_eq_true (by assumption) : 0 ≤ x9_7)
       have c20b0 := eq_true (of_decide_eq_true (by assumption) : x9_7 ≤ (l0.length : Int))
       obtain ⟨y359, hy359⟩ : ∃ y_ : List Int, y_ = (l0.drop (x9_7 : Int).toNat) := ⟨_, rfl⟩
       replace H : (if y356.length + y359.length < 17592186044416 then (some (y356 ++ y359)) else (none)) = some r := by first | (rw [hy359]; with_reducible exact H) | (have H2_ := (Option.bind_some _ _).symm.trans H; rw [hy359]; with_reducible exact H2_) | (have H2_ := (Option.bind_some _ _).symm.trans H; with_reducible exact H2_) | with_reducible exact H | (rw [hy359]; exact H) | exact H
       have Ny359 := am hy359
       clear hy359
       by_cases c21 : y356.length + y359.length < 17592186044416
       rotate_left
       ·rw [if_neg c21] at H
        exact absurd H (by simp)
       rw [if_pos c21] at H
       have LMc21 := am c21
       clear c21
       obtain ⟨y364, hy364⟩ : ∃ y_ : List Int, y_ = (y356 ++ y359) := ⟨_, rfl⟩
       replace H : (some y364) = some r := by first | (rw [hy364]; with_reducible exact H) | (have H2_ := (Option.bind_some _ _).symm.trans H; rw [hy364]; with_reducible exact H2_) | (have H2_ := (Option.bind_some _ _).symm.trans H; with_reducible exact H2_) | with_reducible exact H | (rw [hy364]; exact H) | exact H
       have Ny364 := am hy364
       clear hy364
       obtain rfl := Option.some.inj H
       have p341 : 0 ≤ (x9_7 : Int) := of_decide_eq_true (by assumption)
       have q341 : x9_7 < (l0.length : Int) := of_decide_eq_true (by assumption)
       obtain ⟨ad341, e341, hx341_0⟩ := Kd.at_int (Kd.V_reads' HO_0.out).2.2 x9_7 p341 q341
       cases e341
       replace p341 := eq_true p341
       replace q341 := eq_true q341
       try go_wp2
       have n0_ := am (Kd.V_drew HO_0.out)
       have n1_ := am (below_drew1 HB.out)
       clear HO_0 HB
       have HO_0 := n0_
       have HB := n1_
       clear n0_ n1_
       have q23 : (x9_7 : Int) ≤ ((l0.length : Int) : Int) := of_decide_eq_true (by assumption)
       obtain ⟨i023, hi023, _, hsz23, _⟩ := info_parts info3
       have hroom23 : l0.length ≤ c0 := (Kd.V_reads' HO_0.out).2.1
       have hC23 : Kd.F (Kd.int .i64) _ _ (some ad341) l0.length l0 := (Kd.V_at (base := w.heap.size) HO_0.out).2.2
       have hcut23 := cut_to (P := Try.prog) 98 3 .i64 Try.underlying98 hi023 (some ad341) l0.length c0 x9_7 (of_decide_eq_true (by assumption)) q23 hroom23
       have hr23 := Kd.F_take (m := (x9_7 : Int).toNat) hC23 (by omega)
       have hy23 : y345.length = (x9_7 : Int).toNat := (by rw [Ny345.out, List.length_take]; omega)
       rw [← Ny345.out] at hr23
       rw [← hy23] at hcut23
       have HO349 := am (show Kd.V (Kd.int .i64) 3 _ w.heap.size _ (.slice (some ad341) y345.length c0) y345 from Kd.V_mk (by omega) hr23)
       have HC349 := am (show y345.length ≤ c0 from by omega)
       clear hr23 hC23 hroom23 hi023 hsz23
       have KY23 := am hy23
       clear hy23
       replace q23 := eq_true q23
       have q24 : (x9_7 : Int) ≤ ((l0.length : Int) : Int) := of_decide_eq_true (by assumption)
       obtain ⟨i024, hi024, _, hsz24, _⟩ := info_parts info3
       have hroom24 : l0.length ≤ c0 := (Kd.V_reads' HO_0.out).2.1
       have hC24 : Kd.F (Kd.int .i64) _ _ (some ad341) l0.length l0 := (Kd.V_at (base := w.heap.size) HO_0.out).2.2
       have q024 : (0 : Int) ≤ (x9_7 : Int) := of_decide_eq_true (by assumption)
       have hcut24 := cut_from (P := Try.prog) 98 3 .i64 Try.underlying98 hi024 1 hsz24 (some ad341) l0.length c0 x9_7 q024 q24
       have hr24 := Kd.F_cut (m := (x9_7 : Int).toNat) (c := c0) hC24 (by omega) hroom24
       obtain ⟨A24, hA24⟩ : ∃ A1, A1 = (if c0 = (x9_7 : Int).toNat then (some ad341) else ((some ad341) : Option Addr).map (·.add ((x9_7 : Int).toNat * 1))) := ⟨_, rfl⟩
       obtain ⟨c24, hc24⟩ : ∃ c1, c1 = c0 - (x9_7 : Int).toNat := ⟨_, rfl⟩
       have hy24 : y359.length = l0.length - (x9_7 : Int).toNat := (by rw [Ny359.out, List.length_drop] <;> omega)
       rw [show (l0).drop (x9_7 : Int).toNat = y359 from Ny359.out.symm] at hr24
       replace hr24 : Kd.F (Kd.int .i64) _ _ A24 y359.length y359 := (by rw [hA24]; exact hr24)
       rw [← hy24, ← hA24, ← hc24] at hcut24
       have HO363 := am (show Kd.V (Kd.int .i64) 3 _ w.heap.size _ (.slice A24 y359.length c24) y359 from Kd.V_mk (by rw [hy24, hc24]; exact Nat.sub_le_sub_right hroom24 _) hr24)
       have HC363 := am (show y359.length ≤ c24 from by rw [hy24, hc24]; exact Nat.sub_le_sub_right hroom24 _)
       clear hr24 hC24 hroom24 hi024 hsz24 hc24
       have KY24 := am hy24
       have KA24 := am hA24
       clear hy24 hA24
       replace q24 := eq_true q24
       refine start_ (n := 13) (S := fun w' => True) (ds := []) #[F,F,F,F,F,F,F,F,F,F,F,F,F] (by kernel_rfl) rfl rfl trivial (fun hHeld => ?_); refine with_tabW r_insert.tab8 r_insert.bits8 (fun HT_ HW_ => ?_)
       generalize wc.drew = w22 at HO_0 HB HO349 HO363 hHeld ⊢
       refine pu (i := 1) (N := some 47) (fl 13 0 [1]) HT_ ?_
       refine pu (i := 2) (N := some 48) (fl 13 0 [1, 2]) HT_ ?_
       refine pu (i := 3) (N := some 49) (fl 13 0 [1, 2, 3]) HT_ ?_
       refine pu (i := 5) (N := some 51) (fl 13 0 [1, 2, 3, 5]) HT_ ?_
       refine pu (i := 8) (N := some 54) (fl 13 0 [1, 2, 3, 5, 8]) HT_ ?_
       refine pu (i := 9) (N := some 55) (fl 13 0 [1, 2, 3, 5, 8, 9]) HT_ ?_
       refine pu (i := 10) (N := some 56) (fl 13 0 [1, 2, 3, 5, 8, 9, 10]) HT_ ?_
       refine join_ (σ := Value × Value × Value) 3 #[T,T,T,T,T,T,T,F,T,T,T,F,F] (fun s_ => [(46, s_.1), (50, s_.2.1), (52, s_.2.2)]) (fun s_ w' => (Kd.V (Kd.int .i64) 3 w' w.heap.size (fun k_ => (P0_ k_ ∨ w.heap.size ≤ k_) ∧ some k_ ≠ (s_.2.1 : Value).ownBlock ∧ some k_ ≠ (s_.2.2 : Value).ownBlock) (.slice (some ad341) y345.length c0) y345) ∧ (Kd.R (Kd.int .i64) 3 w' w.heap.size (fun k_ => (w.heap.size ≤ k_) ∧ some k_ ≠ (s_.2.2 : Value).ownBlock) s_.2.1 y350) ∧ (Kd.R (Kd.int .i64) 3 w' w.heap.size (fun k_ => (w.heap.size ≤ k_) ∧ some k_ ≠ (s_.2.1 : Value).ownBlock) s_.2.2 y353) ∧ (Kd.V (Kd.int .i64) 3 w' w.heap.size (fun k_ => (P0_ k_ ∨ w.heap.size ≤ k_) ∧ some k_ ≠ (s_.2.1 : Value).ownBlock ∧ some k_ ≠ (s_.2.2 : Value).ownBlock) (.slice A24 y359.length c24) y359) ∧ (Kd.V (Kd.int .i64) 3 w' w.heap.size (fun k_ => (P0_ k_ ∨ w.heap.size ≤ k_) ∧ some k_ ≠ (s_.2.1 : Value).ownBlock ∧ some k_ ≠ (s_.2.2 : Value).ownBlock) (.slice (some ad341) l0.length c0) l0) ∧ (Below w.heap.size w w')) ?_ ?_
       rotate_left
       ·intro hCont
        refine two_ (i := 0) (j := 6) (Ni := some 46) (Nj := some 52) #[T,T,T,T,F,T,F,F,T,T,T,F,F] (fl 13 0 [1, 2, 3, 5, 6, 8, 9, 10]) rfl rfl rfl rfl (two_of HT_.out (by kernel_rfl)) (by decide) (by decide) (fun K hK => ?_) (fun K hK => ?_)
        ·skip
         refine Kd.R_lit_step (Kd.int .i64) _ 3 ?hg (N := 46) ?hd (xs := ([] : List Int)) (inner := []) (ok := fun _ => True) (okp := fun _ => True) ?hr ?hp (fun _ hk => hk) trivial (Below.refl _ _) (Nat.le_refl _) (by simp) ?_; (case hd | hg => rfl); (case hr => first | (go_simp; done) | (go_simp; rfl)); (case hp => exact (Reps.none _ _))
         intro v343 w25 ho26 hb hg_ hnew_
         clear hg_ hnew_
         (first | rw [← Ny342.out] at ho26 | (simp only [Int.reduceToNat] at ho26; rw [← Ny342.out] at ho26))
         have n0_ := am (Kd.V_elder' (fV HO_0.out) (Kd.R_base ho26) hb)
         have n1_ := am (Kd.V_elder' (fV HO349.out) (Kd.R_base ho26) hb)
         have n2_ := am (Kd.V_elder' (fV HO363.out) (Kd.R_base ho26) hb)
         have n3_ := am (Kd.R_lower (Kd.R_newM (M := fun k_ => (w.heap.size ≤ k_)) ho26 (wz (fW HB.out)) (fun k_ h_ => h_)) (wz (fW HB.out)))
         have n4_ := bS HB hb
         clear HO_0 HO349 HO363 HB
         have HO_0 := n0_
         have HO349 := n1_
         have HO363 := n2_
         have HO344 := n3_
         have HB := n4_
         clear n0_ n1_ n2_ n3_ n4_ hb ho26
         refine hK.out _ _ trivial (fun hHeld => ?_)
         clear hK K
         refine norm_ (a' := ?_) ?_ ?_
         rotate_left
         ·show Act.put _ (some 46) _ = _
          simp only [Act.put, psl, i64_w, i32_w]
          rfl
         refine two_ (i := 4) (j := 6) (Ni := some 50) (Nj := some 52) #[T,T,T,T,T,T,F,F,T,T,T,F,F] (fl 13 4 [5, 6, 8, 9, 10]) rfl rfl rfl rfl (two_of HT_.out (by kernel_rfl)) (by decide) (by decide) (fun K hK => ?_) (fun K hK => ?_)
         ·skip
          refine Kd.R_append_rows_step (Kd.int .i64) (w0 := w) w.heap.size (by rfl) (.tmp 46) (.tmp 49) 98 3 (.int .i64 0) 8 rfl Try.underlying98 info3 rfl (by decide) (by omega) v343 y342 y345 _ _ _ (fun k_ => (w.heap.size ≤ k_)) (fun _ => False) rfl rfl ?aO ?aR (fun _ _ h => h) (fun _ h => h.elim) ?aF ?aB ?aS ?aL ?_
          (case aR => repeat (first | exact (Kd.V_reads' HO349.out).2.2 | (with_reducible refine Kd.C_alloc ?_ _) | (with_reducible refine Kd.C_drewN ?_ _) | (with_reducible refine Kd.C_drew ?_)))
          (case aB => exact (fW HB.out))
          (case aF => exact (fun k_ hk => (Nat.le_trans (wz (fW HB.out)) hk)))
          (case aO => exact (by (with_reducible repeat (first | apply Kd.R_alloc | apply Kd.R_drewN | apply Kd.R_drew)); exact Kd.R_mono HO344.out (fun _ hk => hk.1)))
          (case aS => exact (wz (fW HB.out)))
          (case aL => have := LMc17.out; omega)
          intro v351 w27 ho hb hg hat
          rw [← Ny350.out] at ho
          have n0_ := am (Kd.V_afterv (ok := (fun k_ => (P0_ k_ ∨ w.heap.size ≤ k_))) (fV HO_0.out) hg hat)
          have n1_ := am (Kd.V_afterv (ok := (fun k_ => (P0_ k_ ∨ w.heap.size ≤ k_))) (fV HO349.out) hg hat)
          have n2_ := am (Kd.V_afterv (ok := (fun k_ => (P0_ k_ ∨ w.heap.size ≤ k_))) (fV HO363.out) hg hat)
          have n3_ := am (hb)
          have n4_ := am (ho)
          clear HO_0 HO349 HO363 HB HO344
          have HO_0 := n0_
          have HO349 := n1_
          have HO363 := n2_
          have HB := n3_
          have HO352 := n4_
          clear n0_ n1_ n2_ n3_ n4_ ho hb hg hat
          refine hK.out _ _ trivial (fun hHeld => ?_)
          clear hK K
          refine norm_ (a' := ?_) ?_ ?_
          rotate_left
          ·show Act.put _ (some 50) _ = _
           simp only [Act.put, psl, i64_w, i32_w]
           rfl
          refine one_ (i := 6) (N := some 52) (fl 13 7 [8, 9, 10]) rfl rfl (one_of HT_.out (by kernel_rfl)) (by decide) (fun K hK => ?_)
          refine Kd.R_lit_step (Kd.int .i64) _ 3 ?hg (N := 52) ?hd (xs := ([a1] : List Int)) (inner := [.int .i64 a1]) (ok := fun _ => True) (okp := fun _ => True) ?hr ?hp (fun _ hk => hk) trivial (Below.refl _ _) (Nat.le_refl _) (by simp) ?_; (case hd | hg => rfl); (case hr => first | (go_simp; done) | (go_simp; rfl)); (case hp => exact (Reps.one (show Kd.M (Kd.int .i64) _ _ _ a1 [.int .i64 a1] from rfl) (Reps.none _ _)))
          intro v354 w28 ho29 hb hg_ hnew_
          clear hg_ hnew_
          (first | rw [← Ny353.out] at ho29 | (simp only [Int.reduceToNat] at ho29; rw [← Ny353.out] at ho29))
          have n0_ := am (Kd.V_elder' (fV HO_0.out) (Kd.R_base ho29) hb)
          have n1_ := am (Kd.V_elder' (fV HO349.out) (Kd.R_base ho29) hb)
          have n2_ := am (Kd.V_elder' (fV HO363.out) (Kd.R_base ho29) hb)
          have n3_ := am (Kd.R_elder' (fR HO352.out) (Kd.R_base ho29) hb)
          have n4_ := am (Kd.R_lower (Kd.R_new' (Kd.R_newM (M := fun k_ => (w.heap.size ≤ k_)) ho29 (wz (fW HB.out)) (fun k_ h_ => h_)) (Kd.R_lt (fR HO352.out))) (wz (fW HB.out)))
          have n5_ := bS HB hb
          clear HO_0 HO349 HO363 HO352 HB
          have HO_0 := n0_
          have HO349 := n1_
          have HO363 := n2_
          have HO352 := n3_
          have HO355 := n4_
          have HB := n5_
          clear n0_ n1_ n2_ n3_ n4_ n5_ hb ho29
          refine hK.out _ _ trivial (fun hHeld => ?_)
          clear hK K
          refine norm_ (a' := ?_) ?_ ?_
          rotate_left
          ·show Act.put _ (some 52) _ = _
           simp only [Act.put, psl, i64_w, i32_w]
           rfl
          exact norm_ (by simp only [putAll, Act.put, psl]) (hCont (v343, v351, v354) _ ⟨(by (with_reducible repeat (first | apply Kd.V_alloc | apply Kd.V_drewN | apply Kd.V_drew)); exact Kd.V_mono HO349.out (fun _ hk => ⟨hk.1.1, ⟨hk.1.2, hk.2⟩⟩)), (fR HO352.out), (by (with_reducible repeat (first | apply Kd.R_alloc | apply Kd.R_drewN | apply Kd.R_drew)); exact Kd.R_mono HO355.out (fun _ hk => ⟨hk.1.1, hk.2⟩)), (by (with_reducible repeat (first | apply Kd.V_alloc | apply Kd.V_drewN | apply Kd.V_drew)); exact Kd.V_mono HO363.out (fun _ hk => ⟨hk.1.1, ⟨hk.1.2, hk.2⟩⟩)), (by (with_reducible repeat (first | apply Kd.V_alloc | apply Kd.V_drewN | apply Kd.V_drew)); exact Kd.V_mono HO_0.out (fun _ hk => ⟨hk.1.1, ⟨hk.1.2, hk.2⟩⟩)), (fW HB.out)⟩)
         skip
         refine Kd.R_lit_step (Kd.int .i64) _ 3 ?hg (N := 52) ?hd (xs := ([a1] : List Int)) (inner := [.int .i64 a1]) (ok := fun _ => True) (okp := fun _ => True) ?hr ?hp (fun _ hk => hk) trivial (Below.refl _ _) (Nat.le_refl _) (by simp) ?_; (case hd | hg => rfl); (case hr => first | (go_simp; done) | (go_simp; rfl)); (case hp => exact (Reps.one (show Kd.M (Kd.int .i64) _ _ _ a1 [.int .i64 a1] from rfl) (Reps.none _ _)))
         intro v354 w27 ho28 hb hg_ hnew_
         clear hg_ hnew_
         (first | rw [← Ny353.out] at ho28 | (simp only [Int.reduceToNat] at ho28; rw [← Ny353.out] at ho28))
         have n0_ := am (Kd.V_elder' (fV HO_0.out) (Kd.R_base ho28) hb)
         have n1_ := am (Kd.V_elder' (fV HO349.out) (Kd.R_base ho28) hb)
         have n2_ := am (Kd.V_elder' (fV HO363.out) (Kd.R_base ho28) hb)
         have n3_ := am (Kd.R_elder' (fR HO344.out) (Kd.R_base ho28) hb)
         have n4_ := am (Kd.R_lower (Kd.R_new' (Kd.R_newM (M := fun k_ => (w.heap.size ≤ k_)) ho28 (wz (fW HB.out)) (fun k_ h_ => h_)) (Kd.R_lt (fR HO344.out))) (wz (fW HB.out)))
         have n5_ := bS HB hb
         clear HO_0 HO349 HO363 HO344 HB
         have HO_0 := n0_
         have HO349 := n1_
         have HO363 := n2_
         have HO344 := n3_
         have HO355 := n4_
         have HB := n5_
         clear n0_ n1_ n2_ n3_ n4_ n5_ hb ho28
         refine hK.out _ _ trivial (fun hHeld => ?_)
         clear hK K
         refine norm_ (a' := ?_) ?_ ?_
         rotate_left
         ·show Act.put _ (some 52) _ = _
          simp only [Act.put, psl, i64_w, i32_w]
          rfl
         refine one_ (i := 4) (N := some 50) (fl 13 7 [8, 9, 10]) rfl rfl (one_of HT_.out (by kernel_rfl)) (by decide) (fun K hK => ?_)
         refine Kd.R_append_rows_step (Kd.int .i64) (w0 := w) w.heap.size (by rfl) (.tmp 46) (.tmp 49) 98 3 (.int .i64 0) 8 rfl Try.underlying98 info3 rfl (by decide) (by omega) v343 y342 y345 _ _ _ (fun k_ => (w.heap.size ≤ k_) ∧ some k_ ≠ (v354 : Value).ownBlock) (fun _ => False) rfl rfl ?aO ?aR (fun _ _ h => h) (fun _ h => h.elim) ?aF ?aB ?aS ?aL ?_
         (case aR => repeat (first | exact (Kd.V_reads' HO349.out).2.2 | (with_reducible refine Kd.C_alloc ?_ _) | (with_reducible refine Kd.C_drewN ?_ _) | (with_reducible refine Kd.C_drew ?_)))
         (case aB => exact (fW HB.out))
         (case aF => exact (fun k_ hk => ⟨(Nat.le_trans (wz (fW HB.out)) hk), Kd.fresh' (Kd.R_lt (fR HO355.out)) k_ hk⟩))
         (case aO => exact (by (with_reducible repeat (first | apply Kd.R_alloc | apply Kd.R_drewN | apply Kd.R_drew)); exact Kd.R_mono HO344.out (fun _ hk => ⟨hk.1.1, hk.2⟩)))
         (case aS => exact (wz (fW HB.out)))
         (case aL => have := LMc17.out; omega)
         intro v351 w29 ho hb hg hat
         rw [← Ny350.out] at ho
         have n0_ := am (Kd.V_afterv (ok := (fun k_ => (P0_ k_ ∨ w.heap.size ≤ k_) ∧ some k_ ≠ (v354 : Value).ownBlock)) (by (with_reducible repeat (first | apply Kd.V_alloc | apply Kd.V_drewN | apply Kd.V_drew)); exact Kd.V_mono HO_0.out (fun _ hk => ⟨⟨hk.1.1, hk.2⟩, hk.1.2⟩)) hg hat)
         have n1_ := am (Kd.V_afterv (ok := (fun k_ => (P0_ k_ ∨ w.heap.size ≤ k_) ∧ some k_ ≠ (v354 : Value).ownBlock)) (by (with_reducible repeat (first | apply Kd.V_alloc | apply Kd.V_drewN | apply Kd.V_drew)); exact Kd.V_mono HO349.out (fun _ hk => ⟨⟨hk.1.1, hk.2⟩, hk.1.2⟩)) hg hat)
         have n2_ := am (Kd.V_afterv (ok := (fun k_ => (P0_ k_ ∨ w.heap.size ≤ k_) ∧ some k_ ≠ (v354 : Value).ownBlock)) (by (with_reducible repeat (first | apply Kd.V_alloc | apply Kd.V_drewN | apply Kd.V_drew)); exact Kd.V_mono HO363.out (fun _ hk => ⟨⟨hk.1.1, hk.2⟩, hk.1.2⟩)) hg hat)
         have n3_ := am (Kd.R_after (ok := (fun k_ => (w.heap.size ≤ k_))) (by (with_reducible repeat (first | apply Kd.R_alloc | apply Kd.R_drewN | apply Kd.R_drew)); exact Kd.R_mono HO355.out (fun _ hk => ⟨hk.1.1, hk.2⟩)) hg hat)
         have n4_ := am (hb)
         have n5_ := am (ho)
         clear HO_0 HO349 HO363 HO355 HB HO344
         have HO_0 := n0_
         have HO349 := n1_
         have HO363 := n2_
         have HO355 := n3_
         have HB := n4_
         have HO352 := n5_
         clear n0_ n1_ n2_ n3_ n4_ n5_ ho hb hg hat
         refine hK.out _ _ trivial (fun hHeld => ?_)
         clear hK K
         refine norm_ (a' := ?_) ?_ ?_
         rotate_left
         ·show Act.put _ (some 50) _ = _
          simp only [Act.put, psl, i64_w, i32_w]
          rfl
         exact norm_ (by simp only [putAll, Act.put, psl]) (hCont (v343, v351, v354) _ ⟨(by (with_reducible repeat (first | apply Kd.V_alloc | apply Kd.V_drewN | apply Kd.V_drew)); exact Kd.V_mono HO349.out (fun _ hk => ⟨hk.1.1, ⟨hk.2, hk.1.2⟩⟩)), (fR HO352.out), (fR HO355.out), (by (with_reducible repeat (first | apply Kd.V_alloc | apply Kd.V_drewN | apply Kd.V_drew)); exact Kd.V_mono HO363.out (fun _ hk => ⟨hk.1.1, ⟨hk.2, hk.1.2⟩⟩)), (by (with_reducible repeat (first | apply Kd.V_alloc | apply Kd.V_drewN | apply Kd.V_drew)); exact Kd.V_mono HO_0.out (fun _ hk => ⟨hk.1.1, ⟨hk.2, hk.1.2⟩⟩)), (fW HB.out)⟩)
        skip
        refine Kd.R_lit_step (Kd.int .i64) _ 3 ?hg (N := 52) ?hd (xs := ([a1] : List Int)) (inner := [.int .i64 a1]) (ok := fun _ => True) (okp := fun _ => True) ?hr ?hp (fun _ hk => hk) trivial (Below.refl _ _) (Nat.le_refl _) (by simp) ?_; (case hd | hg => rfl); (case hr => first | (go_simp; done) | (go_simp; rfl)); (case hp => exact (Reps.one (show Kd.M (Kd.int .i64) _ _ _ a1 [.int .i64 a1] from rfl) (Reps.none _ _)))
        intro v354 w25 ho26 hb hg_ hnew_
        clear hg_ hnew_
        (first | rw [← Ny353.out] at ho26 | (simp only [Int.reduceToNat] at ho26; rw [← Ny353.out] at ho26))
        have n0_ := am (Kd.V_elder' (fV HO_0.out) (Kd.R_base ho26) hb)
        have n1_ := am (Kd.V_elder' (fV HO349.out) (Kd.R_base ho26) hb)
        have n2_ := am (Kd.V_elder' (fV HO363.out) (Kd.R_base ho26) hb)
        have n3_ := am (Kd.R_lower (Kd.R_newM (M := fun k_ => (w.heap.size ≤ k_)) ho26 (wz (fW HB.out)) (fun k_ h_ => h_)) (wz (fW HB.out)))
        have n4_ := bS HB hb
        clear HO_0 HO349 HO363 HB
        have HO_0 := n0_
        have HO349 := n1_
        have HO363 := n2_
        have HO355 := n3_
        have HB := n4_
        clear n0_ n1_ n2_ n3_ n4_ hb ho26
        refine hK.out _ _ trivial (fun hHeld => ?_)
        clear hK K
        refine norm_ (a' := ?_) ?_ ?_
        rotate_left
        ·show Act.put _ (some 52) _ = _
         simp only [Act.put, psl, i64_w, i32_w]
         rfl
        refine one_ (i := 0) (N := some 46) (fl 13 4 [5, 6, 8, 9, 10]) rfl rfl (one_of HT_.out (by kernel_rfl)) (by decide) (fun K hK => ?_)
        refine Kd.R_lit_step (Kd.int .i64) _ 3 ?hg (N := 46) ?hd (xs := ([] : List Int)) (inner := []) (ok := fun _ => True) (okp := fun _ => True) ?hr ?hp (fun _ hk => hk) trivial (Below.refl _ _) (Nat.le_refl _) (by simp) ?_; (case hd | hg => rfl); (case hr => first | (go_simp; done) | (go_simp; rfl)); (case hp => exact (Reps.none _ _))
        intro v343 w27 ho28 hb hg_ hnew_
        clear hg_ hnew_
        (first | rw [← Ny342.out] at ho28 | (simp only [Int.reduceToNat] at ho28; rw [← Ny342.out] at ho28))
        have n0_ := am (Kd.V_elder' (fV HO_0.out) (Kd.R_base ho28) hb)
        have n1_ := am (Kd.V_elder' (fV HO349.out) (Kd.R_base ho28) hb)
        have n2_ := am (Kd.V_elder' (fV HO363.out) (Kd.R_base ho28) hb)
        have n3_ := am (Kd.R_elder' (fR HO355.out) (Kd.R_base ho28) hb)
        have n4_ := am (Kd.R_lower (Kd.R_new' (Kd.R_newM (M := fun k_ => (w.heap.size ≤ k_)) ho28 (wz (fW HB.out)) (fun k_ h_ => h_)) (Kd.R_lt (fR HO355.out))) (wz (fW HB.out)))
        have n5_ := bS HB hb
        clear HO_0 HO349 HO363 HO355 HB
        have HO_0 := n0_
        have HO349 := n1_
        have HO363 := n2_
        have HO355 := n3_
        have HO344 := n4_
        have HB := n5_
        clear n0_ n1_ n2_ n3_ n4_ n5_ hb ho28
        refine hK.out _ _ trivial (fun hHeld => ?_)
        clear hK K
        refine norm_ (a' := ?_) ?_ ?_
        rotate_left
        ·show Act.put _ (some 46) _ = _
         simp only [Act.put, psl, i64_w, i32_w]
         rfl
        refine one_ (i := 4) (N := some 50) (fl 13 7 [8, 9, 10]) rfl rfl (one_of HT_.out (by kernel_rfl)) (by decide) (fun K hK => ?_)
        refine Kd.R_append_rows_step (Kd.int .i64) (w0 := w) w.heap.size (by rfl) (.tmp 46) (.tmp 49) 98 3 (.int .i64 0) 8 rfl Try.underlying98 info3 rfl (by decide) (by omega) v343 y342 y345 _ _ _ (fun k_ => (w.heap.size ≤ k_) ∧ some k_ ≠ (v354 : Value).ownBlock) (fun _ => False) rfl rfl ?aO ?aR (fun _ _ h => h) (fun _ h => h.elim) ?aF ?aB ?aS ?aL ?_
        (case aR => repeat (first | exact (Kd.V_reads' HO349.out).2.2 | (with_reducible refine Kd.C_alloc ?_ _) | (with_reducible refine Kd.C_drewN ?_ _) | (with_reducible refine Kd.C_drew ?_)))
        (case aB => exact (fW HB.out))
        (case aF => exact (fun k_ hk => ⟨(Nat.le_trans (wz (fW HB.out)) hk), Kd.fresh' (Kd.R_lt (fR HO355.out)) k_ hk⟩))
        (case aO => exact (by (with_reducible repeat (first | apply Kd.R_alloc | apply Kd.R_drewN | apply Kd.R_drew)); exact Kd.R_mono HO344.out (fun _ hk => ⟨hk.1.1, hk.2⟩)))
        (case aS => exact (wz (fW HB.out)))
        (case aL => have := LMc17.out; omega)
        intro v351 w29 ho hb hg hat
        rw [← Ny350.out] at ho
        have n0_ := am (Kd.V_afterv (ok := (fun k_ => (P0_ k_ ∨ w.heap.size ≤ k_) ∧ some k_ ≠ (v354 : Value).ownBlock)) (fV HO_0.out) hg hat)
        have n1_ := am (Kd.V_afterv (ok := (fun k_ => (P0_ k_ ∨ w.heap.size ≤ k_) ∧ some k_ ≠ (v354 : Value).ownBlock)) (fV HO349.out) hg hat)
        have n2_ := am (Kd.V_afterv (ok := (fun k_ => (P0_ k_ ∨ w.heap.size ≤ k_) ∧ some k_ ≠ (v354 : Value).ownBlock)) (fV HO363.out) hg hat)
        have n3_ := am (Kd.R_after (ok := (fun k_ => (w.heap.size ≤ k_))) (by (with_reducible repeat (first | apply Kd.R_alloc | apply Kd.R_drewN | apply Kd.R_drew)); exact Kd.R_mono HO355.out (fun _ hk => ⟨hk.1.1, hk.2⟩)) hg hat)
        have n4_ := am (hb)
        have n5_ := am (ho)
        clear HO_0 HO349 HO363 HO355 HB HO344
        have HO_0 := n0_
        have HO349 := n1_
        have HO363 := n2_
        have HO355 := n3_
        have HB := n4_
        have HO352 := n5_
        clear n0_ n1_ n2_ n3_ n4_ n5_ ho hb hg hat
        refine hK.out _ _ trivial (fun hHeld => ?_)
        clear hK K
        refine norm_ (a' := ?_) ?_ ?_
        rotate_left
        ·show Act.put _ (some 50) _ = _
         simp only [Act.put, psl, i64_w, i32_w]
         rfl
        exact norm_ (by simp only [putAll, Act.put, psl]) (hCont (v343, v351, v354) _ ⟨(by (with_reducible repeat (first | apply Kd.V_alloc | apply Kd.V_drewN | apply Kd.V_drew)); exact Kd.V_mono HO349.out (fun _ hk => ⟨hk.1.1, ⟨hk.2, hk.1.2⟩⟩)), (fR HO352.out), (fR HO355.out), (by (with_reducible repeat (first | apply Kd.V_alloc | apply Kd.V_drewN | apply Kd.V_drew)); exact Kd.V_mono HO363.out (fun _ hk => ⟨hk.1.1, ⟨hk.2, hk.1.2⟩⟩)), (by (with_reducible repeat (first | apply Kd.V_alloc | apply Kd.V_drewN | apply Kd.V_drew)); exact Kd.V_mono HO_0.out (fun _ hk => ⟨hk.1.1, ⟨hk.2, hk.1.2⟩⟩)), (fW HB.out)⟩)
       rintro ⟨v343, v351, v354⟩ w30 ⟨h0_, h1_, h2_, h3_, h4_, h5_⟩
       have n0_ : Aside0 (Kd.V (Kd.int .i64) 3 w30 w.heap.size (fun k_ => (P0_ k_ ∨ w.heap.size ≤ k_) ∧ some k_ ≠ (v351 : Value).ownBlock ∧ some k_ ≠ (v354 : Value).ownBlock) (.slice (some ad341) y345.length c0) y345) := ⟨h0_⟩
       have n1_ : Aside0 (Kd.R (Kd.int .i64) 3 w30 w.heap.size (fun k_ => (w.heap.size ≤ k_) ∧ some k_ ≠ (v354 : Value).ownBlock) v351 y350) := ⟨h1_⟩
       have n2_ : Aside0 (Kd.R (Kd.int .i64) 3 w30 w.heap.size (fun k_ => (w.heap.size ≤ k_) ∧ some k_ ≠ (v351 : Value).ownBlock) v354 y353) := ⟨h2_⟩
       have n3_ : Aside0 (Kd.V (Kd.int .i64) 3 w30 w.heap.size (fun k_ => (P0_ k_ ∨ w.heap.size ≤ k_) ∧ some k_ ≠ (v351 : Value).ownBlock ∧ some k_ ≠ (v354 : Value).ownBlock) (.slice A24 y359.length c24) y359) := ⟨h3_⟩
       have n4_ : Aside0 (Kd.V (Kd.int .i64) 3 w30 w.heap.size (fun k_ => (P0_ k_ ∨ w.heap.size ≤ k_) ∧ some k_ ≠ (v351 : Value).ownBlock ∧ some k_ ≠ (v354 : Value).ownBlock) (.slice (some ad341) l0.length c0) l0) := ⟨h4_⟩
       have n5_ : Aside0 (Below w.heap.size w w30) := ⟨h5_⟩
       clear HO_0 HB h0_ h1_ h2_ h3_ h4_ h5_
       have HO349 := n0_
       have HO352 := n1_
       have HO355 := n2_
       have HO363 := n3_
       have HO_0 := n4_
       have HB := n5_
       clear n0_ n1_ n2_ n3_ n4_ n5_
       have hHeld := trivial
       obtain ⟨Ao32, co32, eo32⟩ := Kd.R_slice HO355.out
       (first | subst eo32 | (injection eo32 with f1_ f2_ f3_; have f4_ := f1_.symm; have f5_ := f3_.symm; clear f1_ f2_ f3_; subst f4_; subst f5_))
       refine norm_ (a' := ?_) ?_ ?_
       rotate_left
       ·simp only [putAll, Act.put, psl]
        rfl
       refine one_ (i := 7) (N := some 53) (fl 13 11 []) rfl rfl (one_of HT_.out (by kernel_rfl)) (by decide) (fun K hK => ?_)
       refine Kd.R_append_rows_step (Kd.int .i64) (w0 := w) w.heap.size (by rfl) (.tmp 50) (.tmp 52) 98 3 (.int .i64 0) 8 rfl Try.underlying98 info3 rfl (by decide) (by omega) v351 y350 y353 _ _ _ (fun k_ => (w.heap.size ≤ k_) ∧ some k_ ≠ (.slice Ao32 y353.length co32 : Value).ownBlock) (fun _ => False) rfl rfl ?aO ?aR (fun _ _ h => h) (fun _ h => h.elim) ?aF ?aB ?aS ?aL ?_
       (case aR => repeat (first | exact (Kd.R_reads' HO355.out).2.2 | (with_reducible refine Kd.C_alloc ?_ _) | (with_reducible refine Kd.C_drewN ?_ _) | (with_reducible refine Kd.C_drew ?_)))
       (case aB => exact (fW HB.out))
       (case aF => exact (fun k_ hk => ⟨(Nat.le_trans (wz (fW HB.out)) hk), Kd.fresh' (Kd.R_lt (fR HO355.out)) k_ hk⟩))
       (case aO => exact (fR HO352.out))
       (case aS => exact (wz (fW HB.out)))
       (case aL => have := LMc18.out; omega)
       intro v357 w31 ho hb hg hat
       rw [← Ny356.out] at ho
       have n0_ := am (Kd.V_afterv (ok := (fun k_ => (P0_ k_ ∨ w.heap.size ≤ k_) ∧ some k_ ≠ (.slice Ao32 y353.length co32 : Value).ownBlock)) (by (with_reducible repeat (first | apply Kd.V_alloc | apply Kd.V_drewN | apply Kd.V_drew)); exact Kd.V_mono HO_0.out (fun _ hk => ⟨⟨hk.1, hk.2.2⟩, hk.2.1⟩)) hg hat)
       have n1_ := am (Kd.V_afterv (ok := (fun k_ => (P0_ k_ ∨ w.heap.size ≤ k_) ∧ some k_ ≠ (.slice Ao32 y353.length co32 : Value).ownBlock)) (by (with_reducible repeat (first | apply Kd.V_alloc | apply Kd.V_drewN | apply Kd.V_drew)); exact Kd.V_mono HO349.out (fun _ hk => ⟨⟨hk.1, hk.2.2⟩, hk.2.1⟩)) hg hat)
       have n2_ := am (Kd.V_afterv (ok := (fun k_ => (P0_ k_ ∨ w.heap.size ≤ k_) ∧ some k_ ≠ (.slice Ao32 y353.length co32 : Value).ownBlock)) (by (with_reducible repeat (first | apply Kd.V_alloc | apply Kd.V_drewN | apply Kd.V_drew)); exact Kd.V_mono HO363.out (fun _ hk => ⟨⟨hk.1, hk.2.2⟩, hk.2.1⟩)) hg hat)
       have n3_ := am (Kd.R_after (ok := (fun k_ => (w.heap.size ≤ k_))) (fR HO355.out) hg hat)
       have n4_ := am (hb)
       have n5_ := am (ho)
       clear HO_0 HO349 HO363 HO355 HB HO352
       have HO_0 := n0_
       have HO349 := n1_
       have HO363 := n2_
       have HO355 := n3_
       have HB := n4_
       have HO358 := n5_
       clear n0_ n1_ n2_ n3_ n4_ n5_ ho hb hg hat
       refine hK.out _ _ trivial (fun hHeld => ?_)
       clear hK K
       refine norm_ (a' := ?_) ?_ ?_
       rotate_left
       ·show Act.put _ (some 53) _ = _
        simp only [Act.put, psl, i64_w, i32_w]
        rfl
       refine one_ (i := 11) (N := some 57) (fl 13 12 []) rfl rfl (one_of HT_.out (by kernel_rfl)) (by decide) (fun K hK => ?_)
       refine Kd.R_append_rows_step (Kd.int .i64) (w0 := w) w.heap.size (by rfl) (.tmp 53) (.tmp 56) 98 3 (.int .i64 0) 8 rfl Try.underlying98 info3 rfl (by decide) (by omega) v357 y356 y359 _ _ _ (fun k_ => (w.heap.size ≤ k_) ∧ some k_ ≠ (.slice Ao32 y353.length co32 : Value).ownBlock) (fun _ => False) rfl rfl ?aO ?aR (fun _ _ h => h) (fun _ h => h.elim) ?aF ?aB ?aS ?aL ?_
       (case aR => repeat (first | exact (Kd.V_reads' HO363.out).2.2 | (with_reducible refine Kd.C_alloc ?_ _) | (with_reducible refine Kd.C_drewN ?_ _) | (with_reducible refine Kd.C_drew ?_)))
       (case aB => exact (fW HB.out))
       (case aF => exact (fun k_ hk => ⟨(Nat.le_trans (wz (fW HB.out)) hk), Kd.fresh' (Kd.R_lt (fR HO355.out)) k_ hk⟩))
       (case aO => exact (fR HO358.out))
       (case aS => exact (wz (fW HB.out)))
       (case aL => have := LMc21.out; omega)
       intro v365 w33 ho hb hg hat
       rw [← Ny364.out] at ho
       have n0_ := am (Kd.V_afterv (ok := (fun k_ => (P0_ k_ ∨ w.heap.size ≤ k_) ∧ some k_ ≠ (.slice Ao32 y353.length co32 : Value).ownBlock)) (fV HO_0.out) hg hat)
       have n1_ := am (Kd.V_afterv (ok := (fun k_ => (P0_ k_ ∨ w.heap.size ≤ k_) ∧ some k_ ≠ (.slice Ao32 y353.length co32 : Value).ownBlock)) (fV HO349.out) hg hat)
       have n2_ := am (Kd.V_afterv (ok := (fun k_ => (P0_ k_ ∨ w.heap.size ≤ k_) ∧ some k_ ≠ (.slice Ao32 y353.length co32 : Value).ownBlock)) (fV HO363.out) hg hat)
       have n3_ := am (Kd.R_after (ok := (fun k_ => (w.heap.size ≤ k_))) (fR HO355.out) hg hat)
       have n4_ := am (hb)
       have n5_ := am (ho)
       clear HO_0 HO349 HO363 HO355 HB HO358
       have HO_0 := n0_
       have HO349 := n1_
       have HO363 := n2_
       have HO355 := n3_
       have HB := n4_
       have HO366 := n5_
       clear n0_ n1_ n2_ n3_ n4_ n5_ ho hb hg hat
       refine hK.out _ _ trivial (fun hHeld => ?_)
       clear hK K
       refine norm_ (a' := ?_) ?_ ?_
       rotate_left
       ·show Act.put _ (some 57) _ = _
        simp only [Act.put, psl, i64_w, i32_w]
        rfl
       refine pu (i := 12) (N := some 8) (fl 13 13 []) HT_ ?_
       refine done_ (done_of HT_.out (by kernel_rfl)) ?_
       try go_wp2
       go_ret
       exact ⟨_, sqE, Kd.V_mono (Kd.R_V (by (with_reducible repeat (first | apply Kd.R_alloc | apply Kd.R_drewN | apply Kd.R_drew)); exact Kd.R_mono HO366.out (fun _ hk => hk.1))) (fun k_ hk => by first | exact ⟨(.inr (hk.1)), hk.2⟩ | exact (.inr (hk))), fW HB.out⟩
      ·rw [if_neg c12] at H
       have c12b0 : decide (x9_7 < (l0.length : Int)) = false := decide_eq_false c12
       clear c12
       obtain ⟨y367, hy367⟩ : ∃ y_ : List Int, y_ = (([] : List Int)) := ⟨_, rfl⟩
       replace H : (if 0 ≤ x9_7 then (if x9_7 ≤ (l0.length : Int) then ((some (l0.take (x9_7 : Int).toNat : List Int)).bind fun y370 => (if y367.length + y370.length < 17592186044416 then ((some (y367 ++ y370 : List Int)).bind fun y375 => ((some (([a1] : List Int) : List Int)).bind fun y378 => (if y375.length + y378.length < 17592186044416 then ((some (y375 ++ y378 : List Int)).bind fun y381 => ((some (l0.drop (x9_7 : Int).toNat : List Int)).bind fun y384 => (if y381.length + y384.length < 17592186044416 then (some (y381 ++ y384)) else (none)))) else (none)))) else (none))) else (none)) else (none)) = some r := by first | (rw [hy367]; with_reducible exact H) | (have H2_ := (Option.bind_some _ _).symm.trans H; rw [hy367]; with_reducible exact H2_) | (have H2_ := (Option.bind_some _ _).symm.trans H; with_reducible exact H2_) | with_reducible exact H | (rw [hy367]; exact H) | exact H
       have Ny367 := am hy367
       clear hy367
       by_cases c34 : 0 ≤ x9_7
       ·rw [if_pos c34] at H
        have c34b0 := eq_true c34
        have c34b1 : decide (0 ≤ x9_7) = true := decide_eq_true c34
        clear c34
        by_cases c35 : x9_7 ≤ (l0.length : Int)
        rotate_left
        ·rw [if_neg c35] at H
         exact absurd H (by simp)
        rw [if_pos c35] at H
        have c35b0 := eq_true c35
        have c35b1 : decide (x9_7 ≤ (l0.length : Int)) = true := decide_eq_true c35
        clear c35
        obtain ⟨y370, hy370⟩ : ∃ y_ : List Int, y_ = (l0.take (x9_7 : Int).toNat) := ⟨_, rfl⟩
        replace H : (if y367.length + y370.length < 17592186044416 then ((some (y367 ++ y370 : List Int)).bind fun y375 => ((some (([a1] : List Int) : List Int)).bind fun y378 => (if y375.length + y378.length < 17592186044416 then ((some (y375 ++ y378 : List Int)).bind fun y381 => ((some (l0.drop (x9_7 : Int).toNat : List Int)).bind fun y384 => (if y381.length + y384.length < 17592186044416 then (some (y381 ++ y384)) else (none)))) else (none)))) else (none)) = some r := by first | (rw [hy370]; with_reducible exact H) | (have H2_ := (Option.bind_some _ _).symm.trans H; rw [hy370]; with_reducible exact H2_) | (have H2_ := (Option.bind_some _ _).symm.trans H; with_reducible exact H2_) | with_reducible exact H | (rw [hy370]; exact H) | exact H
        have Ny370 := am hy370
        clear hy370
        by_cases c36 : y367.length + y370.length < 17592186044416
        rotate_left
        ·rw [if_neg c36] at H
         exact absurd H (by simp)
        rw [if_pos c36] at H
        have LMc36 := am c36
        clear c36
        obtain ⟨y375, hy375⟩ : ∃ y_ : List Int, y_ = (y367 ++ y370) := ⟨_, rfl⟩
        replace H : ((some (([a1] : List Int) : List Int)).bind fun y378 => (if y375.length + y378.length < 17592186044416 then ((some (y375 ++ y378 : List Int)).bind fun y381 => ((some (l0.drop (x9_7 : Int).toNat : List Int)).bind fun y384 => (if y381.length + y384.length < 17592186044416 then (some (y381 ++ y384)) else (none)))) else (none))) = some r := by first | (rw [hy375]; with_reducible exact H) | (have H2_ := (Option.bind_some _ _).symm.trans H; rw [hy375]; with_reducible exact H2_) | (have H2_ := (Option.bind_some _ _).symm.trans H; with_reducible exact H2_) | with_reducible exact H | (rw [hy375]; exact H) | exact H
        have Ny375 := am hy375
        clear hy375
        obtain ⟨y378, hy378⟩ : ∃ y_ : List Int, y_ = (([a1] : List Int)) := ⟨_, rfl⟩
        replace H : (if y375.length + y378.length < 17592186044416 then ((some (y375 ++ y378 : List Int)).bind fun y381 => ((some (l0.drop (x9_7 : Int).toNat : List Int)).bind fun y384 => (if y381.length + y384.length < 17592186044416 then (some (y381 ++ y384)) else (none)))) else (none)) = some r := by first | (rw [hy378]; with_reducible exact H) | (have H2_ := (Option.bind_some _ _).symm.trans H; rw [hy378]; with_reducible exact H2_) | (have H2_ := (Option.bind_some _ _).symm.trans H; with_reducible exact H2_) | with_reducible exact H | (rw [hy378]; exact H) | exact H
        have Ny378 := am hy378
        clear hy378
        by_cases c37 : y375.length + y378.length < 17592186044416
        rotate_left
        ·rw [if_neg c37] at H
         exact absurd H (by simp)
        rw [if_pos c37] at H
        have LMc37 := am c37
        clear c37
        obtain ⟨y381, hy381⟩ : ∃ y_ : List Int, y_ = (y375 ++ y378) := ⟨_, rfl⟩
        replace H : ((some (l0.drop (x9_7 : Int).toNat : List Int)).bind fun y384 => (if y381.length + y384.length < 17592186044416 then (some (y381 ++ y384)) else (none))) = some r := by first | (rw [hy381]; with_reducible exact H) | (have H2_ := (Option.bind_some _ _).symm.trans H; rw [hy381]; with_reducible exact H2_) | (have H2_ := (Option.bind_some _ _).symm.trans H; with_reducible exact H2_) | with_reducible exact H | (rw [hy381]; exact H) | exact H
        have Ny381 := am hy381
        clear hy381
        have c38b0 := eq_true (of_decide_eq_true (by assumption) : 0 ≤ x9_7)
        have c39b0 := eq_true (of_decide_eq_true (by assumption) : x9_7 ≤ (l0.length : Int))
        obtain ⟨y384, hy384⟩ : ∃ y_ : List Int, y_ = (l0.drop (x9_7 : Int).toNat) := ⟨_, rfl⟩
        replace H : (if y381.length + y384.length < 17592186044416 then (some (y381 ++ y384)) else (none)) = some r := by first | (rw [hy384]; with_reducible exact H) | (have H2_ := (Option.bind_some _ _).symm.trans H; rw [hy384]; with_reducible exact H2_) | (have H2_ := (Option.bind_some _ _).symm.trans H; with_reducible exact H2_) | with_reducible exact H | (rw [hy384]; exact H) | exact H
        have Ny384 := am hy384
        clear hy384
        by_cases c40 : y381.length + y384.length < 17592186044416
        rotate_left
        ·rw [if_neg c40] at H
         exact absurd H (by simp)
        rw [if_pos c40] at H
        have LMc40 := am c40
        clear c40
        obtain ⟨y389, hy389⟩ : ∃ y_ : List Int, y_ = (y381 ++ y384) := ⟨_, rfl⟩
        replace H : (some y389) = some r := by first | (rw [hy389]; with_reducible exact H) | (have H2_ := (Option.bind_some _ _).symm.trans H; rw [hy389]; with_reducible exact H2_) | (have H2_ := (Option.bind_some _ _).symm.trans H; with_reducible exact H2_) | with_reducible exact H | (rw [hy389]; exact H) | exact H
        have Ny389 := am hy389
        clear hy389
        obtain rfl := Option.some.inj H
        try go_wp2
        have n0_ := am (Kd.V_drew HO_0.out)
        have n1_ := am (below_drew1 HB.out)
        clear HO_0 HB
        have HO_0 := n0_
        have HB := n1_
        clear n0_ n1_
        have q42 : (x9_7 : Int) ≤ ((l0.length : Int) : Int) := of_decide_eq_true (by assumption)
        obtain ⟨i042, hi042, _, hsz42, _⟩ := info_parts info3
        have hroom42 : l0.length ≤ c0 := (Kd.V_reads' HO_0.out).2.1
        have hC42 : Kd.F (Kd.int .i64) _ _ A0 l0.length l0 := (Kd.V_at (base := w.heap.size) HO_0.out).2.2
        have hcut42 := cut_to (P := Try.prog) 98 3 .i64 Try.underlying98 hi042 A0 l0.length c0 x9_7 (of_decide_eq_true (by assumption)) q42 hroom42
        have hr42 := Kd.F_take (m := (x9_7 : Int).toNat) hC42 (by omega)
        have hy42 : y370.length = (x9_7 : Int).toNat := (by rw [Ny370.out, List.length_take]; omega)
        rw [← Ny370.out] at hr42
        rw [← hy42] at hcut42
        have HO374 := am (show Kd.V (Kd.int .i64) 3 _ w.heap.size _ (.slice A0 y370.length c0) y370 from Kd.V_mk (by omega) hr42)
        have HC374 := am (show y370.length ≤ c0 from by omega)
        clear hr42 hC42 hroom42 hi042 hsz42
        have KY42 := am hy42
        clear hy42
        replace q42 := eq_true q42
        have q43 : (x9_7 : Int) ≤ ((l0.length : Int) : Int) := of_decide_eq_true (by assumption)
        obtain ⟨i043, hi043, _, hsz43, _⟩ := info_parts info3
        have hroom43 : l0.length ≤ c0 := (Kd.V_reads' HO_0.out).2.1
        have hC43 : Kd.F (Kd.int .i64) _ _ A0 l0.length l0 := (Kd.V_at (base := w.heap.size) HO_0.out).2.2
        have q043 : (0 : Int) ≤ (x9_7 : Int) := of_decide_eq_true (by assumption)
        have hcut43 := cut_from (P := Try.prog) 98 3 .i64 Try.underlying98 hi043 1 hsz43 A0 l0.length c0 x9_7 q043 q43
        have hr43 := Kd.F_cut (m := (x9_7 : Int).toNat) (c := c0) hC43 (by omega) hroom43
        obtain ⟨A43, hA43⟩ : ∃ A1, A1 = (if c0 = (x9_7 : Int).toNat then A0 else (A0 : Option Addr).map (·.add ((x9_7 : Int).toNat * 1))) := ⟨_, rfl⟩
        obtain ⟨c43, hc43⟩ : ∃ c1, c1 = c0 - (x9_7 : Int).toNat := ⟨_, rfl⟩
        have hy43 : y384.length = l0.length - (x9_7 : Int).toNat := (by rw [Ny384.out, List.length_drop] <;> omega)
        rw [show (l0).drop (x9_7 : Int).toNat = y384 from Ny384.out.symm] at hr43
        replace hr43 : Kd.F (Kd.int .i64) _ _ A43 y384.length y384 := (by rw [hA43]; exact hr43)
        rw [← hy43, ← hA43, ← hc43] at hcut43
        have HO388 := am (show Kd.V (Kd.int .i64) 3 _ w.heap.size _ (.slice A43 y384.length c43) y384 from Kd.V_mk (by rw [hy43, hc43]; exact Nat.sub_le_sub_right hroom43 _) hr43)
        have HC388 := am (show y384.length ≤ c43 from by rw [hy43, hc43]; exact Nat.sub_le_sub_right hroom43 _)
        clear hr43 hC43 hroom43 hi043 hsz43 hc43
        have KY43 := am hy43
        have KA43 := am hA43
        clear hy43 hA43
        replace q43 := eq_true q43
        refine start_ (n := 13) (S := fun w' => True) (ds := []) #[F,F,F,F,F,F,F,F,F,F,F,F,F] (by kernel_rfl) rfl rfl trivial (fun hHeld => ?_); refine with_tabW r_insert.tab8 r_insert.bits8 (fun HT_ HW_ => ?_)
        generalize wc.drew = w41 at HO_0 HB HO374 HO388 hHeld ⊢
        refine pu (i := 1) (N := some 47) (fl 13 0 [1]) HT_ ?_
        refine pu (i := 2) (N := some 48) (fl 13 0 [1, 2]) HT_ ?_
        refine pu (i := 3) (N := some 49) (fl 13 0 [1, 2, 3]) HT_ ?_
        refine pu (i := 5) (N := some 51) (fl 13 0 [1, 2, 3, 5]) HT_ ?_
        refine pu (i := 8) (N := some 54) (fl 13 0 [1, 2, 3, 5, 8]) HT_ ?_
        refine pu (i := 9) (N := some 55) (fl 13 0 [1, 2, 3, 5, 8, 9]) HT_ ?_
        refine pu (i := 10) (N := some 56) (fl 13 0 [1, 2, 3, 5, 8, 9, 10]) HT_ ?_
        refine join_ (σ := Value × Value × Value) 3 #[T,T,T,T,T,T,T,F,T,T,T,F,F] (fun s_ => [(46, s_.1), (50, s_.2.1), (52, s_.2.2)]) (fun s_ w' => (Kd.V (Kd.int .i64) 3 w' w.heap.size (fun k_ => (P0_ k_ ∨ w.heap.size ≤ k_) ∧ some k_ ≠ (s_.2.1 : Value).ownBlock ∧ some k_ ≠ (s_.2.2 : Value).ownBlock) (.slice A0 y370.length c0) y370) ∧ (Kd.R (Kd.int .i64) 3 w' w.heap.size (fun k_ => (w.heap.size ≤ k_) ∧ some k_ ≠ (s_.2.2 : Value).ownBlock) s_.2.1 y375) ∧ (Kd.R (Kd.int .i64) 3 w' w.heap.size (fun k_ => (w.heap.size ≤ k_) ∧ some k_ ≠ (s_.2.1 : Value).ownBlock) s_.2.2 y378) ∧ (Kd.V (Kd.int .i64) 3 w' w.heap.size (fun k_ => (P0_ k_ ∨ w.heap.size ≤ k_) ∧ some k_ ≠ (s_.2.1 : Value).ownBlock ∧ some k_ ≠ (s_.2.2 : Value).ownBlock) (.slice A43 y384.length c43) y384) ∧ (Kd.V (Kd.int .i64) 3 w' w.heap.size (fun k_ => (P0_ k_ ∨ w.heap.size ≤ k_) ∧ some k_ ≠ (s_.2.1 : Value).ownBlock ∧ some k_ ≠ (s_.2.2 : Value).ownBlock) (.slice A0 l0.length c0) l0) ∧ (Below w.heap.size w w')) ?_ ?_
        rotate_left
        ·intro hCont
         refine two_ (i := 0) (j := 6) (Ni := some 46) (Nj := some 52) #[T,T,T,T,F,T,F,F,T,T,T,F,F] (fl 13 0 [1, 2, 3, 5, 6, 8, 9, 10]) rfl rfl rfl rfl (two_of HT_.out (by kernel_rfl)) (by decide) (by decide) (fun K hK => ?_) (fun K hK => ?_)
         ·skip
          refine Kd.R_lit_step (Kd.int .i64) _ 3 ?hg (N := 46) ?hd (xs := ([] : List Int)) (inner := []) (ok := fun _ => True) (okp := fun _ => True) ?hr ?hp (fun _ hk => hk) trivial (Below.refl _ _) (Nat.le_refl _) (by simp) ?_; (case hd | hg => rfl); (case hr => first | (go_simp; done) | (go_simp; rfl)); (case hp => exact (Reps.none _ _))
          intro v368 w44 ho45 hb hg_ hnew_
          clear hg_ hnew_
          (first | rw [← Ny367.out] at ho45 | (simp only [Int.reduceToNat] at ho45; rw [← Ny367.out] at ho45))
          have n0_ := am (Kd.V_elder' (fV HO_0.out) (Kd.R_base ho45) hb)
          have n1_ := am (Kd.V_elder' (fV HO374.out) (Kd.R_base ho45) hb)
          have n2_ := am (Kd.V_elder' (fV HO388.out) (Kd.R_base ho45) hb)
          have n3_ := am (Kd.R_lower (Kd.R_newM (M := fun k_ => (w.heap.size ≤ k_)) ho45 (wz (fW HB.out)) (fun k_ h_ => h_)) (wz (fW HB.out)))
          have n4_ := bS HB hb
          clear HO_0 HO374 HO388 HB
          have HO_0 := n0_
          have HO374 := n1_
          have HO388 := n2_
          have HO369 := n3_
          have HB := n4_
          clear n0_ n1_ n2_ n3_ n4_ hb ho45
          refine hK.out _ _ trivial (fun hHeld => ?_)
          clear hK K
          refine norm_ (a' := ?_) ?_ ?_
          rotate_left
          ·show Act.put _ (some 46) _ = _
           simp only [Act.put, psl, i64_w, i32_w]
           rfl
          refine two_ (i := 4) (j := 6) (Ni := some 50) (Nj := some 52) #[T,T,T,T,T,T,F,F,T,T,T,F,F] (fl 13 4 [5, 6, 8, 9, 10]) rfl rfl rfl rfl (two_of HT_.out (by kernel_rfl)) (by decide) (by decide) (fun K hK => ?_) (fun K hK => ?_)
          ·skip
           refine Kd.R_append_rows_step (Kd.int .i64) (w0 := w) w.heap.size (by rfl) (.tmp 46) (.tmp 49) 98 3 (.int .i64 0) 8 rfl Try.underlying98 info3 rfl (by decide) (by omega) v368 y367 y370 _ _ _ (fun k_ => (w.heap.size ≤ k_)) (fun _ => False) rfl rfl ?aO ?aR (fun _ _ h => h) (fun _ h => h.elim) ?aF ?aB ?aS ?aL ?_
           (case aR => repeat (first | exact (Kd.V_reads' HO374.out).2.2 | (with_reducible refine Kd.C_alloc ?_ _) | (with_reducible refine Kd.C_drewN ?_ _) | (with_reducible refine Kd.C_drew ?_)))
           (case aB => exact (fW HB.out))
           (case aF => exact (fun k_ hk => (Nat.le_trans (wz (fW HB.out)) hk)))
           (case aO => exact (by (with_reducible repeat (first | apply Kd.R_alloc | apply Kd.R_drewN | apply Kd.R_drew)); exact Kd.R_mono HO369.out (fun _ hk => hk.1)))
           (case aS => exact (wz (fW HB.out)))
           (case aL => have := LMc36.out; omega)
           intro v376 w46 ho hb hg hat
           rw [← Ny375.out] at ho
           have n0_ := am (Kd.V_afterv (ok := (fun k_ => (P0_ k_ ∨ w.heap.size ≤ k_))) (fV HO_0.out) hg hat)
           have n1_ := am (Kd.V_afterv (ok := (fun k_ => (P0_ k_ ∨ w.heap.size ≤ k_))) (fV HO374.out) hg hat)
           have n2_ := am (Kd.V_afterv (ok := (fun k_ => (P0_ k_ ∨ w.heap.size ≤ k_))) (fV HO388.out) hg hat)
           have n3_ := am (hb)
           have n4_ := am (ho)
           clear HO_0 HO374 HO388 HB HO369
           have HO_0 := n0_
           have HO374 := n1_
           have HO388 := n2_
           have HB := n3_
           have HO377 := n4_
           clear n0_ n1_ n2_ n3_ n4_ ho hb hg hat
           refine hK.out _ _ trivial (fun hHeld => ?_)
           clear hK K
           refine norm_ (a' := ?_) ?_ ?_
           rotate_left
           ·show Act.put _ (some 50) _ = _
            simp only [Act.put, psl, i64_w, i32_w]
            rfl
           refine one_ (i := 6) (N := some 52) (fl 13 7 [8, 9, 10]) rfl rfl (one_of HT_.out (by kernel_rfl)) (by decide) (fun K hK => ?_)
           refine Kd.R_lit_step (Kd.int .i64) _ 3 ?hg (N := 52) ?hd (xs := ([a1] : List Int)) (inner := [.int .i64 a1]) (ok := fun _ => True) (okp := fun _ => True) ?hr ?hp (fun _ hk => hk) trivial (Below.refl _ _) (Nat.le_refl _) (by simp) ?_; (case hd | hg => rfl); (case hr => first | (go_simp; done) | (go_simp; rfl)); (case hp => exact (Reps.one (show Kd.M (Kd.int .i64) _ _ _ a1 [.int .i64 a1] from rfl) (Reps.none _ _)))
           intro v379 w47 ho48 hb hg_ hnew_
           clear hg_ hnew_
           (first | rw [← Ny378.out] at ho48 | (simp only [Int.reduceToNat] at ho48; rw [← Ny378.out] at ho48))
           have n0_ := am (Kd.V_elder' (fV HO_0.out) (Kd.R_base ho48) hb)
           have n1_ := am (Kd.V_elder' (fV HO374.out) (Kd.R_base ho48) hb)
           have n2_ := am (Kd.V_elder' (fV HO388.out) (Kd.R_base ho48) hb)
           have n3_ := am (Kd.R_elder' (fR HO377.out) (Kd.R_base ho48) hb)
           have n4_ := am (Kd.R_lower (Kd.R_new' (Kd.R_newM (M := fun k_ => (w.heap.size ≤ k_)) ho48 (wz (fW HB.out)) (fun k_ h_ => h_)) (Kd.R_lt (fR HO377.out))) (wz (fW HB.out)))
           have n5_ := bS HB hb
           clear HO_0 HO374 HO388 HO377 HB
           have HO_0 := n0_
           have HO374 := n1_
           have HO388 := n2_
           have HO377 := n3_
           have HO380 := n4_
           have HB := n5_
           clear n0_ n1_ n2_ n3_ n4_ n5_ hb ho48
           refine hK.out _ _ trivial (fun hHeld => ?_)
           clear hK K
           refine norm_ (a' := ?_) ?_ ?_
           rotate_left
           ·show Act.put _ (some 52) _ = _
            simp only [Act.put, psl, i64_w, i32_w]
            rfl
           exact norm_ (by simp only [putAll, Act.put, psl]) (hCont (v368, v376, v379) _ ⟨(by (with_reducible repeat (first | apply Kd.V_alloc | apply Kd.V_drewN | apply Kd.V_drew)); exact Kd.V_mono HO374.out (fun _ hk => ⟨hk.1.1, ⟨hk.1.2, hk.2⟩⟩)), (fR HO377.out), (by (with_reducible repeat (first | apply Kd.R_alloc | apply Kd.R_drewN | apply Kd.R_drew)); exact Kd.R_mono HO380.out (fun _ hk => ⟨hk.1.1, hk.2⟩)), (by (with_reducible repeat (first | apply Kd.V_alloc | apply Kd.V_drewN | apply Kd.V_drew)); exact Kd.V_mono HO388.out (fun _ hk => ⟨hk.1.1, ⟨hk.1.2, hk.2⟩⟩)), (by (with_reducible repeat (first | apply Kd.V_alloc | apply Kd.V_drewN | apply Kd.V_drew)); exact Kd.V_mono HO_0.out (fun _ hk => ⟨hk.1.1, ⟨hk.1.2, hk.2⟩⟩)), (fW HB.out)⟩)
          skip
          refine Kd.R_lit_step (Kd.int .i64) _ 3 ?hg (N := 52) ?hd (xs := ([a1] : List Int)) (inner := [.int .i64 a1]) (ok := fun _ => True) (okp := fun _ => True) ?hr ?hp (fun _ hk => hk) trivial (Below.refl _ _) (Nat.le_refl _) (by simp) ?_; (case hd | hg => rfl); (case hr => first | (go_simp; done) | (go_simp; rfl)); (case hp => exact (Reps.one (show Kd.M (Kd.int .i64) _ _ _ a1 [.int .i64 a1] from rfl) (Reps.none _ _)))
          intro v379 w46 ho47 hb hg_ hnew_
          clear hg_ hnew_
          (first | rw [← Ny378.out] at ho47 | (simp only [Int.reduceToNat] at ho47; rw [← Ny378.out] at ho47))
          have n0_ := am (Kd.V_elder' (fV HO_0.out) (Kd.R_base ho47) hb)
          have n1_ := am (Kd.V_elder' (fV HO374.out) (Kd.R_base ho47) hb)
          have n2_ := am (Kd.V_elder' (fV HO388.out) (Kd.R_base ho47) hb)
          have n3_ := am (Kd.R_elder' (fR HO369.out) (Kd.R_base ho47) hb)
          have n4_ := am (Kd.R_lower (Kd.R_new' (Kd.R_newM (M := fun k_ => (w.heap.size ≤ k_)) ho47 (wz (fW HB.out)) (fun k_ h_ => h_)) (Kd.R_lt (fR HO369.out))) (wz (fW HB.out)))
          have n5_ := bS HB hb
          clear HO_0 HO374 HO388 HO369 HB
          have HO_0 := n0_
          have HO374 := n1_
          have HO388 := n2_
          have HO369 := n3_
          have HO380 := n4_
          have HB := n5_
          clear n0_ n1_ n2_ n3_ n4_ n5_ hb ho47
          refine hK.out _ _ trivial (fun hHeld => ?_)
          clear hK K
          refine norm_ (a' := ?_) ?_ ?_
          rotate_left
          ·show Act.put _ (some 52) _ = _
           simp only [Act.put, psl, i64_w, i32_w]
           rfl
          refine one_ (i := 4) (N := some 50) (fl 13 7 [8, 9, 10]) rfl rfl (one_of HT_.out (by kernel_rfl)) (by decide) (fun K hK => ?_)
          refine Kd.R_append_rows_step (Kd.int .i64) (w0 := w) w.heap.size (by rfl) (.tmp 46) (.tmp 49) 98 3 (.int .i64 0) 8 rfl Try.underlying98 info3 rfl (by decide) (by omega) v368 y367 y370 _ _ _ (fun k_ => (w.heap.size ≤ k_) ∧ some k_ ≠ (v379 : Value).ownBlock) (fun _ => False) rfl rfl ?aO ?aR (fun _ _ h => h) (fun _ h => h.elim) ?aF ?aB ?aS ?aL ?_
          (case aR => repeat (first | exact (Kd.V_reads' HO374.out).2.2 | (with_reducible refine Kd.C_alloc ?_ _) | (with_reducible refine Kd.C_drewN ?_ _) | (with_reducible refine Kd.C_drew ?_)))
          (case aB => exact (fW HB.out))
          (case aF => exact (fun k_ hk => ⟨(Nat.le_trans (wz (fW HB.out)) hk), Kd.fresh' (Kd.R_lt (fR HO380.out)) k_ hk⟩))
          (case aO => exact (by (with_reducible repeat (first | apply Kd.R_alloc | apply Kd.R_drewN | apply Kd.R_drew)); exact Kd.R_mono HO369.out (fun _ hk => ⟨hk.1.1, hk.2⟩)))
          (case aS => exact (wz (fW HB.out)))
          (case aL => have := LMc36.out; omega)
          intro v376 w48 ho hb hg hat
          rw [← Ny375.out] at ho
          have n0_ := am (Kd.V_afterv (ok := (fun k_ => (P0_ k_ ∨ w.heap.size ≤ k_) ∧ some k_ ≠ (v379 : Value).ownBlock)) (by (with_reducible repeat (first | apply Kd.V_alloc | apply Kd.V_drewN | apply Kd.V_drew)); exact Kd.V_mono HO_0.out (fun _ hk => ⟨⟨hk.1.1, hk.2⟩, hk.1.2⟩)) hg hat)
          have n1_ := am (Kd.V_afterv (ok := (fun k_ => (P0_ k_ ∨ w.heap.size ≤ k_) ∧ some k_ ≠ (v379 : Value).ownBlock)) (by (with_reducible repeat (first | apply Kd.V_alloc | apply Kd.V_drewN | apply Kd.V_drew)); exact Kd.V_mono HO374.out (fun _ hk => ⟨⟨hk.1.1, hk.2⟩, hk.1.2⟩)) hg hat)
          have n2_ := am (Kd.V_afterv (ok := (fun k_ => (P0_ k_ ∨ w.heap.size ≤ k_) ∧ some k_ ≠ (v379 : Value).ownBlock)) (by (with_reducible repeat (first | apply Kd.V_alloc | apply Kd.V_drewN | apply Kd.V_drew)); exact Kd.V_mono HO388.out (fun _ hk => ⟨⟨hk.1.1, hk.2⟩, hk.1.2⟩)) hg hat)
          have n3_ := am (Kd.R_after (ok := (fun k_ => (w.heap.size ≤ k_))) (by (with_reducible repeat (first | apply Kd.R_alloc | apply Kd.R_drewN | apply Kd.R_drew)); exact Kd.R_mono HO380.out (fun _ hk => ⟨hk.1.1, hk.2⟩)) hg hat)
          have n4_ := am (hb)
          have n5_ := am (ho)
          clear HO_0 HO374 HO388 HO380 HB HO369
          have HO_0 := n0_
          have HO374 := n1_
          have HO388 := n2_
          have HO380 := n3_
          have HB := n4_
          have HO377 := n5_
          clear n0_ n1_ n2_ n3_ n4_ n5_ ho hb hg hat
          refine hK.out _ _ trivial (fun hHeld => ?_)
          clear hK K
          refine norm_ (a' := ?_) ?_ ?_
          rotate_left
          ·show Act.put _ (some 50) _ = _
           simp only [Act.put, psl, i64_w, i32_w]
           rfl
          exact norm_ (by simp only [putAll, Act.put, psl]) (hCont (v368, v376, v379) _ ⟨(by (with_reducible repeat (first | apply Kd.V_alloc | apply Kd.V_drewN | apply Kd.V_drew)); exact Kd.V_mono HO374.out (fun _ hk => ⟨hk.1.1, ⟨hk.2, hk.1.2⟩⟩)), (fR HO377.out), (fR HO380.out), (by (with_reducible repeat (first | apply Kd.V_alloc | apply Kd.V_drewN | apply Kd.V_drew)); exact Kd.V_mono HO388.out (fun _ hk => ⟨hk.1.1, ⟨hk.2, hk.1.2⟩⟩)), (by (with_reducible repeat (first | apply Kd.V_alloc | apply Kd.V_drewN | apply Kd.V_drew)); exact Kd.V_mono HO_0.out (fun _ hk => ⟨hk.1.1, ⟨hk.2, hk.1.2⟩⟩)), (fW HB.out)⟩)
         skip
         refine Kd.R_lit_step (Kd.int .i64) _ 3 ?hg (N := 52) ?hd (xs := ([a1] : List Int)) (inner := [.int .i64 a1]) (ok := fun _ => True) (okp := fun _ => True) ?hr ?hp (fun _ hk => hk) trivial (Below.refl _ _) (Nat.le_refl _) (by simp) ?_; (case hd | hg => rfl); (case hr => first | (go_simp; done) | (go_simp; rfl)); (case hp => exact (Reps.one (show Kd.M (Kd.int .i64) _ _ _ a1 [.int .i64 a1] from rfl) (Reps.none _ _)))
         intro v379 w44 ho45 hb hg_ hnew_
         clear hg_ hnew_
         (first | rw [← Ny378.out] at ho45 | (simp only [Int.reduceToNat] at ho45; rw [← Ny378.out] at ho45))
         have n0_ := am (Kd.V_elder' (fV HO_0.out) (Kd.R_base ho45) hb)
         have n1_ := am (Kd.V_elder' (fV HO374.out) (Kd.R_base ho45) hb)
         have n2_ := am (Kd.V_elder' (fV HO388.out) (Kd.R_base ho45) hb)
         have n3_ := am (Kd.R_lower (Kd.R_newM (M := fun k_ => (w.heap.size ≤ k_)) ho45 (wz (fW HB.out)) (fun k_ h_ => h_)) (wz (fW HB.out)))
         have n4_ := bS HB hb
         clear HO_0 HO374 HO388 HB
         have HO_0 := n0_
         have HO374 := n1_
         have HO388 := n2_
         have HO380 := n3_
         have HB := n4_
         clear n0_ n1_ n2_ n3_ n4_ hb ho45
         refine hK.out _ _ trivial (fun hHeld => ?_)
         clear hK K
         refine norm_ (a' := ?_) ?_ ?_
         rotate_left
         ·show Act.put _ (some 52) _ = _
          simp only [Act.put, psl, i64_w, i32_w]
          rfl
         refine one_ (i := 0) (N := some 46) (fl 13 4 [5, 6, 8, 9, 10]) rfl rfl (one_of HT_.out (by kernel_rfl)) (by decide) (fun K hK => ?_)
         refine Kd.R_lit_step (Kd.int .i64) _ 3 ?hg (N := 46) ?hd (xs := ([] : List Int)) (inner := []) (ok := fun _ => True) (okp := fun _ => True) ?hr ?hp (fun _ hk => hk) trivial (Below.refl _ _) (Nat.le_refl _) (by simp) ?_; (case hd | hg => rfl); (case hr => first | (go_simp; done) | (go_simp; rfl)); (case hp => exact (Reps.none _ _))
         intro v368 w46 ho47 hb hg_ hnew_
         clear hg_ hnew_
         (first | rw [← Ny367.out] at ho47 | (simp only [Int.reduceToNat] at ho47; rw [← Ny367.out] at ho47))
         have n0_ := am (Kd.V_elder' (fV HO_0.out) (Kd.R_base ho47) hb)
         have n1_ := am (Kd.V_elder' (fV HO374.out) (Kd.R_base ho47) hb)
         have n2_ := am (Kd.V_elder' (fV HO388.out) (Kd.R_base ho47) hb)
         have n3_ := am (Kd.R_elder' (fR HO380.out) (Kd.R_base ho47) hb)
         have n4_ := am (Kd.R_lower (Kd.R_new' (Kd.R_newM (M := fun k_ => (w.heap.size ≤ k_)) ho47 (wz (fW HB.out)) (fun k_ h_ => h_)) (Kd.R_lt (fR HO380.out))) (wz (fW HB.out)))
         have n5_ := bS HB hb
         clear HO_0 HO374 HO388 HO380 HB
         have HO_0 := n0_
         have HO374 := n1_
         have HO388 := n2_
         have HO380 := n3_
         have HO369 := n4_
         have HB := n5_
         clear n0_ n1_ n2_ n3_ n4_ n5_ hb ho47
         refine hK.out _ _ trivial (fun hHeld => ?_)
         clear hK K
         refine norm_ (a' := ?_) ?_ ?_
         rotate_left
         ·show Act.put _ (some 46) _ = _
          simp only [Act.put, psl, i64_w, i32_w]
          rfl
         refine one_ (i := 4) (N := some 50) (fl 13 7 [8, 9, 10]) rfl rfl (one_of HT_.out (by kernel_rfl)) (by decide) (fun K hK => ?_)
         refine Kd.R_append_rows_step (Kd.int .i64) (w0 := w) w.heap.size (by rfl) (.tmp 46) (.tmp 49) 98 3 (.int .i64 0) 8 rfl Try.underlying98 info3 rfl (by decide) (by omega) v368 y367 y370 _ _ _ (fun k_ => (w.heap.size ≤ k_) ∧ some k_ ≠ (v379 : Value).ownBlock) (fun _ => False) rfl rfl ?aO ?aR (fun _ _ h => h) (fun _ h => h.elim) ?aF ?aB ?aS ?aL ?_
         (case aR => repeat (first | exact (Kd.V_reads' HO374.out).2.2 | (with_reducible refine Kd.C_alloc ?_ _) | (with_reducible refine Kd.C_drewN ?_ _) | (with_reducible refine Kd.C_drew ?_)))
         (case aB => exact (fW HB.out))
         (case aF => exact (fun k_ hk => ⟨(Nat.le_trans (wz (fW HB.out)) hk), Kd.fresh' (Kd.R_lt (fR HO380.out)) k_ hk⟩))
         (case aO => exact (by (with_reducible repeat (first | apply Kd.R_alloc | apply Kd.R_drewN | apply Kd.R_drew)); exact Kd.R_mono HO369.out (fun _ hk => ⟨hk.1.1, hk.2⟩)))
         (case aS => exact (wz (fW HB.out)))
         (case aL => have := LMc36.out; omega)
         intro v376 w48 ho hb hg hat
         rw [← Ny375.out] at ho
         have n0_ := am (Kd.V_afterv (ok := (fun k_ => (P0_ k_ ∨ w.heap.size ≤ k_) ∧ some k_ ≠ (v379 : Value).ownBlock)) (fV HO_0.out) hg hat)
         have n1_ := am (Kd.V_afterv (ok := (fun k_ => (P0_ k_ ∨ w.heap.size ≤ k_) ∧ some k_ ≠ (v379 : Value).ownBlock)) (fV HO374.out) hg hat)
         have n2_ := am (Kd.V_afterv (ok := (fun k_ => (P0_ k_ ∨ w.heap.size ≤ k_) ∧ some k_ ≠ (v379 : Value).ownBlock)) (fV HO388.out) hg hat)
         have n3_ := am (Kd.R_after (ok := (fun k_ => (w.heap.size ≤ k_))) (by (with_reducible repeat (first | apply Kd.R_alloc | apply Kd.R_drewN | apply Kd.R_drew)); exact Kd.R_mono HO380.out (fun _ hk => ⟨hk.1.1, hk.2⟩)) hg hat)
         have n4_ := am (hb)
         have n5_ := am (ho)
         clear HO_0 HO374 HO388 HO380 HB HO369
         have HO_0 := n0_
         have HO374 := n1_
         have HO388 := n2_
         have HO380 := n3_
         have HB := n4_
         have HO377 := n5_
         clear n0_ n1_ n2_ n3_ n4_ n5_ ho hb hg hat
         refine hK.out _ _ trivial (fun hHeld => ?_)
         clear hK K
         refine norm_ (a' := ?_) ?_ ?_
         rotate_left
         ·show Act.put _ (some 50) _ = _
          simp only [Act.put, psl, i64_w, i32_w]
          rfl
         exact norm_ (by simp only [putAll, Act.put, psl]) (hCont (v368, v376, v379) _ ⟨(by (with_reducible repeat (first | apply Kd.V_alloc | apply Kd.V_drewN | apply Kd.V_drew)); exact Kd.V_mono HO374.out (fun _ hk => ⟨hk.1.1, ⟨hk.2, hk.1.2⟩⟩)), (fR HO377.out), (fR HO380.out), (by (with_reducible repeat (first | apply Kd.V_alloc | apply Kd.V_drewN | apply Kd.V_drew)); exact Kd.V_mono HO388.out (fun _ hk => ⟨hk.1.1, ⟨hk.2, hk.1.2⟩⟩)), (by (with_reducible repeat (first | apply Kd.V_alloc | apply Kd.V_drewN | apply Kd.V_drew)); exact Kd.V_mono HO_0.out (fun _ hk => ⟨hk.1.1, ⟨hk.2, hk.1.2⟩⟩)), (fW HB.out)⟩)
        rintro ⟨v368, v376, v379⟩ w49 ⟨h0_, h1_, h2_, h3_, h4_, h5_⟩
        have n0_ : Aside0 (Kd.V (Kd.int .i64) 3 w49 w.heap.size (fun k_ => (P0_ k_ ∨ w.heap.size ≤ k_) ∧ some k_ ≠ (v376 : Value).ownBlock ∧ some k_ ≠ (v379 : Value).ownBlock) (.slice A0 y370.length c0) y370) := ⟨h0_⟩
        have n1_ : Aside0 (Kd.R (Kd.int .i64) 3 w49 w.heap.size (fun k_ => (w.heap.size ≤ k_) ∧ some k_ ≠ (v379 : Value).ownBlock) v376 y375) := ⟨h1_⟩
        have n2_ : Aside0 (Kd.R (Kd.int .i64) 3 w49 w.heap.size (fun k_ => (w.heap.size ≤ k_) ∧ some k_ ≠ (v376 : Value).ownBlock) v379 y378) := ⟨h2_⟩
        have n3_ : Aside0 (Kd.V (Kd.int .i64) 3 w49 w.heap.size (fun k_ => (P0_ k_ ∨ w.heap.size ≤ k_) ∧ some k_ ≠ (v376 : Value).ownBlock ∧ some k_ ≠ (v379 : Value).ownBlock) (.slice A43 y384.length c43) y384) := ⟨h3_⟩
        have n4_ : Aside0 (Kd.V (Kd.int .i64) 3 w49 w.heap.size (fun k_ => (P0_ k_ ∨ w.heap.size ≤ k_) ∧ some k_ ≠ (v376 : Value).ownBlock ∧ some k_ ≠ (v379 : Value).ownBlock) (.slice A0 l0.length c0) l0) := ⟨h4_⟩
        have n5_ : Aside0 (Below w.heap.size w w49) := ⟨h5_⟩
        clear HO_0 HB h0_ h1_ h2_ h3_ h4_ h5_
        have HO374 := n0_
        have HO377 := n1_
        have HO380 := n2_
        have HO388 := n3_
        have HO_0 := n4_
        have HB := n5_
        clear n0_ n1_ n2_ n3_ n4_ n5_
        have hHeld := trivial
        obtain ⟨Ao51, co51, eo51⟩ := Kd.R_slice HO380.out
        (first | subst eo51 | (injection eo51 with f1_ f2_ f3_; have f4_ := f1_.symm; have f5_ := f3_.symm; clear f1_ f2_ f3_; subst f4_; subst f5_))
        refine norm_ (a' := ?_) ?_ ?_
        rotate_left
        ·simp only [putAll, Act.put, psl]
         rfl
        refine one_ (i := 7) (N := some 53) (fl 13 11 []) rfl rfl (one_of HT_.out (by kernel_rfl)) (by decide) (fun K hK => ?_)
        refine Kd.R_append_rows_step (Kd.int .i64) (w0 := w) w.heap.size (by rfl) (.tmp 50) (.tmp 52) 98 3 (.int .i64 0) 8 rfl Try.underlying98 info3 rfl (by decide) (by omega) v376 y375 y378 _ _ _ (fun k_ => (w.heap.size ≤ k_) ∧ some k_ ≠ (.slice Ao51 y378.length co51 : Value).ownBlock) (fun _ => False) rfl rfl ?aO ?aR (fun _ _ h => h) (fun _ h => h.elim) ?aF ?aB ?aS ?aL ?_
        (case aR => repeat (first | exact (Kd.R_reads' HO380.out).2.2 | (with_reducible refine Kd.C_alloc ?_ _) | (with_reducible refine Kd.C_drewN ?_ _) | (with_reducible refine Kd.C_drew ?_)))
        (case aB => exact (fW HB.out))
        (case aF => exact (fun k_ hk => ⟨(Nat.le_trans (wz (fW HB.out)) hk), Kd.fresh' (Kd.R_lt (fR HO380.out)) k_ hk⟩))
        (case aO => exact (fR HO377.out))
        (case aS => exact (wz (fW HB.out)))
        (case aL => have := LMc37.out; omega)
        intro v382 w50 ho hb hg hat
        rw [← Ny381.out] at ho
        have n0_ := am (Kd.V_afterv (ok := (fun k_ => (P0_ k_ ∨ w.heap.size ≤ k_) ∧ some k_ ≠ (.slice Ao51 y378.length co51 : Value).ownBlock)) (by (with_reducible repeat (first | apply Kd.V_alloc | apply Kd.V_drewN | apply Kd.V_drew)); exact Kd.V_mono HO_0.out (fun _ hk => ⟨⟨hk.1, hk.2.2⟩, hk.2.1⟩)) hg hat)
        have n1_ := am (Kd.V_afterv (ok := (fun k_ => (P0_ k_ ∨ w.heap.size ≤ k_) ∧ some k_ ≠ (.slice Ao51 y378.length co51 : Value).ownBlock)) (by (with_reducible repeat (first | apply Kd.V_alloc | apply Kd.V_drewN | apply Kd.V_drew)); exact Kd.V_mono HO374.out (fun _ hk => ⟨⟨hk.1, hk.2.2⟩, hk.2.1⟩)) hg hat)
        have n2_ := am (Kd.V_afterv (ok := (fun k_ => (P0_ k_ ∨ w.heap.size ≤ k_) ∧ some k_ ≠ (.slice Ao51 y378.length co51 : Value).ownBlock)) (by (with_reducible repeat (first | apply Kd.V_alloc | apply Kd.V_drewN | apply Kd.V_drew)); exact Kd.V_mono HO388.out (fun _ hk => ⟨⟨hk.1, hk.2.2⟩, hk.2.1⟩)) hg hat)
        have n3_ := am (Kd.R_after (ok := (fun k_ => (w.heap.size ≤ k_))) (fR HO380.out) hg hat)
        have n4_ := am (hb)
        have n5_ := am (ho)
        clear HO_0 HO374 HO388 HO380 HB HO377
        have HO_0 := n0_
        have HO374 := n1_
        have HO388 := n2_
        have HO380 := n3_
        have HB := n4_
        have HO383 := n5_
        clear n0_ n1_ n2_ n3_ n4_ n5_ ho hb hg hat
        refine hK.out _ _ trivial (fun hHeld => ?_)
        clear hK K
        refine norm_ (a' := ?_) ?_ ?_
        rotate_left
        ·show Act.put _ (some 53) _ = _
         simp only [Act.put, psl, i64_w, i32_w]
         rfl
        refine one_ (i := 11) (N := some 57) (fl 13 12 []) rfl rfl (one_of HT_.out (by kernel_rfl)) (by decide) (fun K hK => ?_)
        refine Kd.R_append_rows_step (Kd.int .i64) (w0 := w) w.heap.size (by rfl) (.tmp 53) (.tmp 56) 98 3 (.int .i64 0) 8 rfl Try.underlying98 info3 rfl (by decide) (by omega) v382 y381 y384 _ _ _ (fun k_ => (w.heap.size ≤ k_) ∧ some k_ ≠ (.slice Ao51 y378.length co51 : Value).ownBlock) (fun _ => False) rfl rfl ?aO ?aR (fun _ _ h => h) (fun _ h => h.elim) ?aF ?aB ?aS ?aL ?_
        (case aR => repeat (first | exact (Kd.V_reads' HO388.out).2.2 | (with_reducible refine Kd.C_alloc ?_ _) | (with_reducible refine Kd.C_drewN ?_ _) | (with_reducible refine Kd.C_drew ?_)))
        (case aB => exact (fW HB.out))
        (case aF => exact (fun k_ hk => ⟨(Nat.le_trans (wz (fW HB.out)) hk), Kd.fresh' (Kd.R_lt (fR HO380.out)) k_ hk⟩))
        (case aO => exact (fR HO383.out))
        (case aS => exact (wz (fW HB.out)))
        (case aL => have := LMc40.out; omega)
        intro v390 w52 ho hb hg hat
        rw [← Ny389.out] at ho
        have n0_ := am (Kd.V_afterv (ok := (fun k_ => (P0_ k_ ∨ w.heap.size ≤ k_) ∧ some k_ ≠ (.slice Ao51 y378.length co51 : Value).ownBlock)) (fV HO_0.out) hg hat)
        have n1_ := am (Kd.V_afterv (ok := (fun k_ => (P0_ k_ ∨ w.heap.size ≤ k_) ∧ some k_ ≠ (.slice Ao51 y378.length co51 : Value).ownBlock)) (fV HO374.out) hg hat)
        have n2_ := am (Kd.V_afterv (ok := (fun k_ => (P0_ k_ ∨ w.heap.size ≤ k_) ∧ some k_ ≠ (.slice Ao51 y378.length co51 : Value).ownBlock)) (fV HO388.out) hg hat)
        have n3_ := am (Kd.R_after (ok := (fun k_ => (w.heap.size ≤ k_))) (fR HO380.out) hg hat)
        have n4_ := am (hb)
        have n5_ := am (ho)
        clear HO_0 HO374 HO388 HO380 HB HO383
        have HO_0 := n0_
        have HO374 := n1_
        have HO388 := n2_
        have HO380 := n3_
        have HB := n4_
        have HO391 := n5_
        clear n0_ n1_ n2_ n3_ n4_ n5_ ho hb hg hat
        refine hK.out _ _ trivial (fun hHeld => ?_)
        clear hK K
        refine norm_ (a' := ?_) ?_ ?_
        rotate_left
        ·show Act.put _ (some 57) _ = _
         simp only [Act.put, psl, i64_w, i32_w]
         rfl
        refine pu (i := 12) (N := some 8) (fl 13 13 []) HT_ ?_
        refine done_ (done_of HT_.out (by kernel_rfl)) ?_
        try go_wp2
        go_ret
        exact ⟨_, sqE, Kd.V_mono (Kd.R_V (by (with_reducible repeat (first | apply Kd.R_alloc | apply Kd.R_drewN | apply Kd.R_drew)); exact Kd.R_mono HO391.out (fun _ hk => hk.1))) (fun k_ hk => by first | exact ⟨(.inr (hk.1)), hk.2⟩ | exact (.inr (hk))), fW HB.out⟩
       ·rw [if_neg c34] at H
        exact absurd H (by simp)

end Go.Proofs.Ytcofgnbopodahaa.QA
