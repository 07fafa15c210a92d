import Derived.Test.YtcembjgpcbodcaaZQAx0
import Derived.Test.YtcembjgpcbodcaaZQAx9
import Derived.Test.YtcembjgpcbodcaaZQAx11
import Derived.Test.YtcembjgpcbodcaaZQAx17
import Derived.Test.YtcembjgpcbodcaaZQAx19
namespace Go.Proofs.Ytcembjgpcbodcaa.QA
open Go.RowKit Go.Proofs.YtcembjgpcbodcaaW.PrintWords Go.Proofs.YtcembjgpcbodcaaW.PrintLast Go.Proofs.YtcembjgpcbodcaaW.PrintMore
open Go.Proofs.YtcembjgpcbodcaaW.PrintWords renaming gate_callee → gc
open Aside0 renaming mk → am
attribute [local go_sem] max2_int min2_int max_two min_two max_three min_three max_four min_four
set_option linter.unusedVariables false
set_option linter.unusedSimpArgs false

mutual
def w_PolygonHulls.j0 : Nat → List (S23) → Bool → Option (Bool)
 | 0, _, _ => none
 | k + 1, x0, x20 => if x20 = true then (some true) else ((polygon_Hull.f k x0).bind fun bt367 => (if (x0.length : Int) > 1000 then (if bt367.2 = 7 then (some ((bt367.1.length : Int) == 0)) else (some false)) else (w_PolygonHulls.l0 k x0 bt367.1 bt367.2 0)))
def w_PolygonHulls.l0 : Nat → List (S23) → List (S23) → Int → Int → Option (Bool)
 | 0, _, _, _, _ => none
 | k + 1, x0, x3, x4, x5 => if x5 < (x0.length : Int) then (if 0 ≤ x5 then ((r_Allowed.f k ((rd_T23 x0 x5).f0) ((rd_T23 x0 x5).f1)).bind fun t372 => (if t372 = true then (w_PolygonHulls.l0 k x0 x3 x4 (wrap64 (x5 + 1))) else (if x4 = 6 then (some ((x3.length : Int) == 0)) else (some false)))) else (none)) else ((r_Flat.f k x0).bind fun t373 => (if t373 = true then (if x4 = 9 then (some ((x3.length : Int) == 0)) else (some false)) else (if x4 = 0 then ((r_Hull.f k x0).bind fun t374 => ((r_Same.f k x3 t374).bind fun t377 => (some t377))) else (some false))))
end
def w_PolygonHulls.f (k : Nat) (l0 : List (S23)) : Option (Bool) := (w_awake.f k).bind fun t366 => (if t366 = true then (if (l0.length : Int) > 16 then (if (l0.length : Int) ≤ 1000 then (w_PolygonHulls.j0 k l0 true) else (w_PolygonHulls.j0 k l0 (decide ((l0.length : Int) > 1010)))) else (w_PolygonHulls.j0 k l0 false)) else (some false))
set_option maxHeartbeats 8000000 in
set_option maxRecDepth 100000 in
theorem w_PolygonHulls.calls (k : Nat) (A0 : Option Addr) (c0 : Nat) (l0 : List (S23)) (r : Bool) (w : World) (hr0 : Kd.C k23 w A0 l0.length l0) (hc0 : l0.length ≤ c0) (h : w_PolygonHulls.f k l0 = some r) :
  Calls Try.prog 5 #[.slice A0 l0.length c0] w fun e w' => e = .returned (.bool r) ∧ Below w.heap.size w w' := by
 have hu23 := Try.underlying23
 have HR0 := am hr0
 have HC0 := am hc0
 clear hr0 hc0
 have HB := am (Below.refl w.heap.size w)
 have H : ((w_awake.f k).bind fun t366 => (if t366 = true then (if (l0.length : Int) > 16 then (if (l0.length : Int) ≤ 1000 then (w_PolygonHulls.j0 k l0 true) else (w_PolygonHulls.j0 k l0 (decide ((l0.length : Int) > 1010)))) else (w_PolygonHulls.j0 k l0 false)) else (some false))) = some r := h
 clear h
 replace H := Option.bind_eq_some_iff.mp H
 obtain ⟨t366, A20, H⟩ := H
 replace H : (if t366 = true then (if (l0.length : Int) > 16 then (if (l0.length : Int) ≤ 1000 then (w_PolygonHulls.j0 k l0 true) else (w_PolygonHulls.j0 k l0 (decide ((l0.length : Int) > 1010)))) else (w_PolygonHulls.j0 k l0 false)) else (some false)) = some r := H
 have A2 := am A20
 clear A20
 by_cases c3 : t366 = true
 ·subst c3
  have H1 : (if (l0.length : Int) > 16 then (if (l0.length : Int) ≤ 1000 then (w_PolygonHulls.j0 k l0 true) else (w_PolygonHulls.j0 k l0 (decide ((l0.length : Int) > 1010)))) else (w_PolygonHulls.j0 k l0 false)) = some r := by rw [if_pos rfl] at H; exact H
  clear H
  have H := H1
  clear H1
  have HC4 := am H
  clear H
  go_enter Try.func5, Try.ntmps5
  go_upto_region 3 with (first | ((with_reducible refine gc (f := 11) rfl ?_); refine goesL_ (some 6) rfl rfl Try.func11 (by kernel_rfl) rfl #[] rfl (by (try simp only [pml]); first | done | rfl | (simp only [pdt]; rfl)) ?_; (with_reducible refine (w_awake.calls k  true _ A2.out).mono ?_); rintro e w5 ⟨rfl, hb⟩; refine ⟨_, rfl, ?_⟩; replace HB := bS HB hb; (try clear hb); (try clear hb2); (try clear hk); (try clear hi)))
  (try simp only [Act.put, psl])
  go_cut [20] (fun v20 wc => ∃ (kq : Nat) (x20_3 : Bool), v20 = .bool x20_3 ∧ Aside0 (w_PolygonHulls.j0 kq l0 x20_3 = some r) ∧ Aside0 (kq ≤ k) ∧ Aside0 (Below w.heap.size w wc))
  case first =>
   have H := HC4.out
   clear HC4
   by_cases c6 : (l0.length : Int) > 16
   rotate_left
   ·rw [if_neg c6] at H
    have c6b0 : decide (16 < (l0.length : Int)) = false := decide_eq_false c6
    have c6b1 : decide (16 < l0.length) = false := decide_eq_false (by omega)
    clear c6
    (first | rw [c6b0] | (simp only [i64_w, i32_w]; rw [c6b0]) | skip)
    have H' := am H
    clear H
    go_wp2
    go_meet
    case rel => exact ⟨_, (false), sqD, H', ⟨by first | omega | exact Nat.le_refl _⟩, ⟨fW HB.out⟩⟩
   rw [if_pos c6] at H
   have c6b0 : decide (16 < (l0.length : Int)) = true := decide_eq_true c6
   have c6b1 : decide (16 < l0.length) = true := decide_eq_true (by omega)
   clear c6
   (first | rw [c6b0] | (simp only [i64_w, i32_w]; rw [c6b0]) | skip)
   by_cases c7 : (l0.length : Int) ≤ 1000
   ·rw [if_pos c7] at H
    have c7b0 : decide ((l0.length : Int) ≤ 1000) = true := decide_eq_true c7
    have c7b1 : decide (l0.length ≤ 1000) = true := decide_eq_true (by omega)
    clear c7
    have H' := am H
    clear H
    go_wp2
    go_meet
    case rel => exact ⟨_, (true), sqD, H', ⟨by first | omega | exact Nat.le_refl _⟩, ⟨fW HB.out⟩⟩
   rw [if_neg c7] at H
   have c7b0 : decide ((l0.length : Int) ≤ 1000) = false := decide_eq_false c7
   have c7b1 : decide (l0.length ≤ 1000) = false := decide_eq_false (by omega)
   clear c7
   have H' := am H
   clear H
   go_wp2
   go_meet
   case rel => exact ⟨_, (decide ((l0.length : Int) > 1010)), sqD, H', ⟨by first | omega | exact Nat.le_refl _⟩, ⟨fW HB.out⟩⟩
  case rest =>
   clear HC4
   try clear c1;try clear p2;try clear c3;try clear c5;try clear c6;try clear c6b0;try clear c6b1;try clear c7;try clear c7b0;try clear c7b1
   obtain ⟨kq, x20_3, rfl, HA, HJ3, HB⟩ := hcut
   cases kq with
   | zero => exact absurd HA.out (by simp [w_PolygonHulls.j0])
   | succ kj3 =>
    have H := HA.out
    clear HA
    simp only [w_PolygonHulls.j0] at H
    by_cases c8 : x20_3 = true
    ·subst c8
     have H1 : (some true) = some r := by rw [if_pos rfl] at H; exact H
     clear H
     have H := H1
     clear H1
     obtain rfl := Option.some.inj H
     go_wp2
     go_ret
     exact ⟨sqE, fW HB.out⟩
    replace c8 := Bool.eq_false_iff.mpr c8
    subst c8
    have H1 : ((polygon_Hull.f kj3 l0).bind fun bt367 => (if (l0.length : Int) > 1000 then (if bt367.2 = 7 then (some ((bt367.1.length : Int) == 0)) else (some false)) else (w_PolygonHulls.l0 kj3 l0 bt367.1 bt367.2 0))) = some r := by rw [if_neg (show ¬ (false = true) by decide)] at H; exact H
    clear H
    have H := H1
    clear H1
    replace H := Option.bind_eq_some_iff.mp H
    obtain ⟨⟨t367, t368⟩, A90, H⟩ := H
    replace H : (if (l0.length : Int) > 1000 then (if t368 = 7 then (some ((t367.length : Int) == 0)) else (some false)) else (w_PolygonHulls.l0 kj3 l0 t367 t368 0)) = some r := H
    have A9 := am A90
    clear A90
    by_cases c10 : (l0.length : Int) > 1000
    ·rw [if_pos c10] at H
     have c10b0 : decide (1000 < (l0.length : Int)) = true := decide_eq_true c10
     have c10b1 : decide (1000 < l0.length) = true := decide_eq_true (by omega)
     clear c10
     by_cases c11 : t368 = 7
     ·rw [if_pos c11] at H
      have c11b0 : (t368 == 7) = true := beq_iff_eq.mpr c11
      have c11b1 : (t368 != 7) = false := bne_eq_false_iff_eq.mpr c11
      clear c11
      obtain rfl := Option.some.inj H
      go_wp2_with (first | ((with_reducible refine gc (f := 20) rfl ?_); refine goesL_ (some 23) rfl rfl Try.func20 (by kernel_rfl) rfl #[.slice A0 l0.length c0] rfl (by (try simp only [pml]); first | done | rfl | (simp only [pdt]; rfl)) ?_; (with_reducible refine (polygon_Hull.calls kj3 _ _ l0 t367 t368 _ ?side1 ?side2 A9.out).mono ?_); (case side1 => repeat (first | exact (Kd.C_below HR0.out HB.out) | (with_reducible refine Kd.C_alloc ?_ _) | (with_reducible refine Kd.C_drewN ?_ _) | (with_reducible refine Kd.C_drew ?_))); (case side2 => exact HC0.out); rintro e w12 ⟨v369, rfl, ho0, hb⟩; refine ⟨_, rfl, ?_⟩; have HO370 := am (Kd.R_lower ho0 (below_size (fW HB.out))); replace HB := bS HB hb; (try clear hb); (try clear hb2); (try clear hk); (try clear hi); (try clear ho0); obtain ⟨Ao13, co13, eo13⟩ := Kd.R_slice HO370.out; subst eo13))
      go_ret
      exact ⟨sqE, fW HB.out⟩
     rw [if_neg c11] at H
     have c11b0 : (t368 == 7) = false := beq_eq_false_iff_ne.mpr c11
     have c11b1 : (t368 != 7) = true := bne_iff_ne.mpr c11
     obtain rfl := Option.some.inj H
     go_wp2_with (first | ((with_reducible refine gc (f := 20) rfl ?_); refine goesL_ (some 23) rfl rfl Try.func20 (by kernel_rfl) rfl #[.slice A0 l0.length c0] rfl (by (try simp only [pml]); first | done | rfl | (simp only [pdt]; rfl)) ?_; (with_reducible refine (polygon_Hull.calls kj3 _ _ l0 t367 t368 _ ?side1 ?side2 A9.out).mono ?_); (case side1 => repeat (first | exact (Kd.C_below HR0.out HB.out) | (with_reducible refine Kd.C_alloc ?_ _) | (with_reducible refine Kd.C_drewN ?_ _) | (with_reducible refine Kd.C_drew ?_))); (case side2 => exact HC0.out); rintro e w14 ⟨v369, rfl, ho0, hb⟩; refine ⟨_, rfl, ?_⟩; have HO370 := am (Kd.R_lower ho0 (below_size (fW HB.out))); replace HB := bS HB hb; (try clear hb); (try clear hb2); (try clear hk); (try clear hi); (try clear ho0)))
     go_ret
     exact ⟨sqE, fW HB.out⟩
    rw [if_neg c10] at H
    have c10b0 : decide (1000 < (l0.length : Int)) = false := decide_eq_false c10
    have c10b1 : decide (1000 < l0.length) = false := decide_eq_false (by omega)
    clear c10
    have H' := am H
    clear H
    go_wp2_with (first | ((with_reducible refine gc (f := 20) rfl ?_); refine goesL_ (some 23) rfl rfl Try.func20 (by kernel_rfl) rfl #[.slice A0 l0.length c0] rfl (by (try simp only [pml]); first | done | rfl | (simp only [pdt]; rfl)) ?_; (with_reducible refine (polygon_Hull.calls kj3 _ _ l0 t367 t368 _ ?side1 ?side2 A9.out).mono ?_); (case side1 => repeat (first | exact (Kd.C_below HR0.out HB.out) | (with_reducible refine Kd.C_alloc ?_ _) | (with_reducible refine Kd.C_drewN ?_ _) | (with_reducible refine Kd.C_drew ?_))); (case side2 => exact HC0.out); rintro e w15 ⟨v369, rfl, ho0, hb⟩; refine ⟨_, rfl, ?_⟩; have HO370 := am (Kd.R_lower ho0 (below_size (fW HB.out))); replace HB := bS HB hb; (try clear hb); (try clear hb2); (try clear hk); (try clear hi); (try clear ho0)))
    go_loopg [5] kj3 (fun kq v5 w' => ∃ (x5_2 : Int), v5 = .int .i64 x5_2 ∧ Aside0 (w_PolygonHulls.l0 kq l0 t367 t368 x5_2 = some r) ∧ Aside0 (kq ≤ kj3) ∧ Aside0 (Kd.R k23 23 w' w.heap.size (fun _ => True) v369 t367) ∧ Aside0 (Below w.heap.size w w'))
    case atStart => exact ⟨(0), sqD, H', ⟨Nat.le_refl _⟩, ⟨fR HO370.out⟩, ⟨fW HB.out⟩⟩
    case round =>
     clear H'
     try clear c1;try clear c2;try clear p2;try clear c3;try clear c5;try clear c6;try clear c6b0;try clear c6b1;try clear c7;try clear c7b0;try clear c7b1;try clear c8;try clear c10;try clear c10b0;try clear c10b1;try clear c11;try clear c11b0;try clear c11b1;try clear p2
     obtain ⟨x5_2, rfl, HA, HK2, HO_3, HB⟩ := hrel
     cases gk with
     | zero => exact absurd HA.out (by simp [w_PolygonHulls.l0])
     | succ k2 =>
      have H := HA.out
      clear HA
      simp only [w_PolygonHulls.l0] at H
      by_cases c16 : x5_2 < (l0.length : Int)
      ·rw [if_pos c16] at H
       have c16b0 : decide (x5_2 < (l0.length : Int)) = true := decide_eq_true c16
       clear c16
       by_cases c17 : 0 ≤ x5_2
       rotate_left
       ·rw [if_neg c17] at H
        exact absurd H (by simp)
       rw [if_pos c17] at H
       have c17b0 : decide (0 ≤ x5_2) = true := decide_eq_true c17
       clear c17
       replace H := Option.bind_eq_some_iff.mp H
       obtain ⟨t372, A180, H⟩ := H
       replace H : (if t372 = true then (w_PolygonHulls.l0 k2 l0 t367 t368 (wrap64 (x5_2 + 1))) else (if t368 = 6 then (some ((t367.length : Int) == 0)) else (some false))) = some r := H
       have A18 := am A180
       clear A180
       by_cases c19 : t372 = true
       ·subst c19
        have H1 : (w_PolygonHulls.l0 k2 l0 t367 t368 (wrap64 (x5_2 + 1))) = some r := by rw [if_pos rfl] at H; exact H
        clear H
        have H := H1
        clear H1
        have H' := am H
        clear H
        have p371 : 0 ≤ (x5_2 : Int) := of_decide_eq_true (by assumption)
        have q371 : x5_2 < (l0.length : Int) := of_decide_eq_true (by assumption)
        obtain ⟨ad371, e371, hx371_0, hx371_1⟩ := at_T23 HR0.out x5_2 p371 q371
        cases e371
        replace hx371_0 := cl HB hx371_0
        replace hx371_1 := cl HB hx371_1
        replace p371 := eq_true p371
        replace q371 := eq_true q371
        go_wp2_with (first | ((with_reducible refine gc (f := 12) rfl ?_); refine goesL_ (some 46) rfl rfl Try.func12 (by kernel_rfl) rfl #[.agg #[.int .i64 ((rd_T23 l0 x5_2).f0), .int .i64 ((rd_T23 l0 x5_2).f1)]] rfl (by (try simp only [pml]); first | done | rfl | (simp only [pdt]; rfl)) ?_; (with_reducible refine (r_Allowed.calls k2 ((rd_T23 l0 x5_2).f0) ((rd_T23 l0 x5_2).f1) true _ A18.out).mono ?_); rintro e w20 ⟨rfl, hb⟩; refine ⟨_, rfl, ?_⟩; replace HO_3 := dR HO_3 hb; replace HB := bS HB hb; (try clear hb); (try clear hb2); (try clear hk); (try clear hi)))
        go_roundg k2
        case measure => have := HJ3.out; have := HK2.out; omega
        case rel => exact ⟨(wrap64 (x5_2 + 1)), sqD, H', ⟨by have := HJ3.out; have := HK2.out; omega⟩, ⟨fR HO_3.out⟩, ⟨fW HB.out⟩⟩
       replace c19 := Bool.eq_false_iff.mpr c19
       subst c19
       have H1 : (if t368 = 6 then (some ((t367.length : Int) == 0)) else (some false)) = some r := by rw [if_neg (show ¬ (false = true) by decide)] at H; exact H
       clear H
       have H := H1
       clear H1
       by_cases c21 : t368 = 6
       ·rw [if_pos c21] at H
        have c21b0 : (t368 == 6) = true := beq_iff_eq.mpr c21
        have c21b1 : (t368 != 6) = false := bne_eq_false_iff_eq.mpr c21
        clear c21
        obtain rfl := Option.some.inj H
        have p371 : 0 ≤ (x5_2 : Int) := of_decide_eq_true (by assumption)
        have q371 : x5_2 < (l0.length : Int) := of_decide_eq_true (by assumption)
        obtain ⟨ad371, e371, hx371_0, hx371_1⟩ := at_T23 HR0.out x5_2 p371 q371
        cases e371
        replace hx371_0 := cl HB hx371_0
        replace hx371_1 := cl HB hx371_1
        replace p371 := eq_true p371
        replace q371 := eq_true q371
        go_wp2_with (first | ((with_reducible refine gc (f := 12) rfl ?_); refine goesL_ (some 46) rfl rfl Try.func12 (by kernel_rfl) rfl #[.agg #[.int .i64 ((rd_T23 l0 x5_2).f0), .int .i64 ((rd_T23 l0 x5_2).f1)]] rfl (by (try simp only [pml]); first | done | rfl | (simp only [pdt]; rfl)) ?_; (with_reducible refine (r_Allowed.calls k2 ((rd_T23 l0 x5_2).f0) ((rd_T23 l0 x5_2).f1) false _ A18.out).mono ?_); rintro e w22 ⟨rfl, hb⟩; refine ⟨_, rfl, ?_⟩; replace HO_3 := dR HO_3 hb; replace HB := bS HB hb; (try clear hb); (try clear hb2); (try clear hk); (try clear hi); obtain ⟨Ao23, co23, eo23⟩ := Kd.R_slice HO_3.out; subst eo23))
        go_ret
        exact ⟨sqE, fW HB.out⟩
       rw [if_neg c21] at H
       have c21b0 : (t368 == 6) = false := beq_eq_false_iff_ne.mpr c21
       have c21b1 : (t368 != 6) = true := bne_iff_ne.mpr c21
       obtain rfl := Option.some.inj H
       have p371 : 0 ≤ (x5_2 : Int) := of_decide_eq_true (by assumption)
       have q371 : x5_2 < (l0.length : Int) := of_decide_eq_true (by assumption)
       obtain ⟨ad371, e371, hx371_0, hx371_1⟩ := at_T23 HR0.out x5_2 p371 q371
       cases e371
       replace hx371_0 := cl HB hx371_0
       replace hx371_1 := cl HB hx371_1
       replace p371 := eq_true p371
       replace q371 := eq_true q371
       go_wp2_with (first | ((with_reducible refine gc (f := 12) rfl ?_); refine goesL_ (some 46) rfl rfl Try.func12 (by kernel_rfl) rfl #[.agg #[.int .i64 ((rd_T23 l0 x5_2).f0), .int .i64 ((rd_T23 l0 x5_2).f1)]] rfl (by (try simp only [pml]); first | done | rfl | (simp only [pdt]; rfl)) ?_; (with_reducible refine (r_Allowed.calls k2 ((rd_T23 l0 x5_2).f0) ((rd_T23 l0 x5_2).f1) false _ A18.out).mono ?_); rintro e w24 ⟨rfl, hb⟩; refine ⟨_, rfl, ?_⟩; replace HO_3 := dR HO_3 hb; replace HB := bS HB hb; (try clear hb); (try clear hb2); (try clear hk); (try clear hi)))
       go_ret
       exact ⟨sqE, fW HB.out⟩
      rw [if_neg c16] at H
      have c16b0 : decide (x5_2 < (l0.length : Int)) = false := decide_eq_false c16
      clear c16
      replace H := Option.bind_eq_some_iff.mp H
      obtain ⟨t373, A250, H⟩ := H
      replace H : (if t373 = true then (if t368 = 9 then (some ((t367.length : Int) == 0)) else (some false)) else (if t368 = 0 then ((r_Hull.f k2 l0).bind fun t374 => ((r_Same.f k2 t367 t374).bind fun t377 => (some t377))) else (some false))) = some r := H
      have A25 := am A250
      clear A250
      by_cases c26 : t373 = true
      ·subst c26
       have H1 : (if t368 = 9 then (some ((t367.length : Int) == 0)) else (some false)) = some r := by rw [if_pos rfl] at H; exact H
       clear H
       have H := H1
       clear H1
       by_cases c27 : t368 = 9
       ·rw [if_pos c27] at H
        have c27b0 : (t368 == 9) = true := beq_iff_eq.mpr c27
        have c27b1 : (t368 != 9) = false := bne_eq_false_iff_eq.mpr c27
        clear c27
        obtain rfl := Option.some.inj H
        go_wp2_with (first | ((with_reducible refine gc (f := 21) rfl ?_); refine goesL_ (some 56) rfl rfl Try.func21 (by kernel_rfl) rfl #[.slice A0 l0.length c0] rfl (by (try simp only [pml]); first | done | rfl | (simp only [pdt]; rfl)) ?_; (with_reducible refine (r_Flat.calls k2 _ _ l0 true _ ?side1 ?side2 A25.out).mono ?_); (case side1 => repeat (first | exact (Kd.C_below HR0.out HB.out) | (with_reducible refine Kd.C_alloc ?_ _) | (with_reducible refine Kd.C_drewN ?_ _) | (with_reducible refine Kd.C_drew ?_))); (case side2 => exact HC0.out); rintro e w28 ⟨rfl, hb⟩; refine ⟨_, rfl, ?_⟩; replace HO_3 := dR HO_3 hb; replace HB := bS HB hb; (try clear hb); (try clear hb2); (try clear hk); (try clear hi); obtain ⟨Ao29, co29, eo29⟩ := Kd.R_slice HO_3.out; subst eo29))
        go_ret
        exact ⟨sqE, fW HB.out⟩
       rw [if_neg c27] at H
       have c27b0 : (t368 == 9) = false := beq_eq_false_iff_ne.mpr c27
       have c27b1 : (t368 != 9) = true := bne_iff_ne.mpr c27
       obtain rfl := Option.some.inj H
       go_wp2_with (first | ((with_reducible refine gc (f := 21) rfl ?_); refine goesL_ (some 56) rfl rfl Try.func21 (by kernel_rfl) rfl #[.slice A0 l0.length c0] rfl (by (try simp only [pml]); first | done | rfl | (simp only [pdt]; rfl)) ?_; (with_reducible refine (r_Flat.calls k2 _ _ l0 true _ ?side1 ?side2 A25.out).mono ?_); (case side1 => repeat (first | exact (Kd.C_below HR0.out HB.out) | (with_reducible refine Kd.C_alloc ?_ _) | (with_reducible refine Kd.C_drewN ?_ _) | (with_reducible refine Kd.C_drew ?_))); (case side2 => exact HC0.out); rintro e w30 ⟨rfl, hb⟩; refine ⟨_, rfl, ?_⟩; replace HO_3 := dR HO_3 hb; replace HB := bS HB hb; (try clear hb); (try clear hb2); (try clear hk); (try clear hi)))
       go_ret
       exact ⟨sqE, fW HB.out⟩
      replace c26 := Bool.eq_false_iff.mpr c26
      subst c26
      have H1 : (if t368 = 0 then ((r_Hull.f k2 l0).bind fun t374 => ((r_Same.f k2 t367 t374).bind fun t377 => (some t377))) else (some false)) = some r := by rw [if_neg (show ¬ (false = true) by decide)] at H; exact H
      clear H
      have H := H1
      clear H1
      by_cases c31 : t368 = 0
      rotate_left
      ·rw [if_neg c31] at H
       have c31b0 : (t368 == 0) = false := beq_eq_false_iff_ne.mpr c31
       have c31b1 : (t368 != 0) = true := bne_iff_ne.mpr c31
       obtain rfl := Option.some.inj H
       go_wp2_with (first | ((with_reducible refine gc (f := 21) rfl ?_); refine goesL_ (some 56) rfl rfl Try.func21 (by kernel_rfl) rfl #[.slice A0 l0.length c0] rfl (by (try simp only [pml]); first | done | rfl | (simp only [pdt]; rfl)) ?_; (with_reducible refine (r_Flat.calls k2 _ _ l0 false _ ?side1 ?side2 A25.out).mono ?_); (case side1 => repeat (first | exact (Kd.C_below HR0.out HB.out) | (with_reducible refine Kd.C_alloc ?_ _) | (with_reducible refine Kd.C_drewN ?_ _) | (with_reducible refine Kd.C_drew ?_))); (case side2 => exact HC0.out); rintro e w38 ⟨rfl, hb⟩; refine ⟨_, rfl, ?_⟩; replace HO_3 := dR HO_3 hb; replace HB := bS HB hb; (try clear hb); (try clear hb2); (try clear hk); (try clear hi)))
       go_ret
       exact ⟨sqE, fW HB.out⟩
      rw [if_pos c31] at H
      have c31b0 : (t368 == 0) = true := beq_iff_eq.mpr c31
      have c31b1 : (t368 != 0) = false := bne_eq_false_iff_eq.mpr c31
      clear c31
      replace H := Option.bind_eq_some_iff.mp H
      obtain ⟨t374, A320, H⟩ := H
      replace H : ((r_Same.f k2 t367 t374).bind fun t377 => (some t377)) = some r := H
      have A32 := am A320
      clear A320
      replace H := Option.bind_eq_some_iff.mp H
      obtain ⟨t377, A330, H⟩ := H
      replace H : (some t377) = some r := H
      have A33 := am A330
      clear A330
      obtain rfl := Option.some.inj H
      go_wp2_with (first | ((with_reducible refine gc (f := 21) rfl ?_); refine goesL_ (some 56) rfl rfl Try.func21 (by kernel_rfl) rfl #[.slice A0 l0.length c0] rfl (by (try simp only [pml]); first | done | rfl | (simp only [pdt]; rfl)) ?_; (with_reducible refine (r_Flat.calls k2 _ _ l0 false _ ?side1 ?side2 A25.out).mono ?_); (case side1 => repeat (first | exact (Kd.C_below HR0.out HB.out) | (with_reducible refine Kd.C_alloc ?_ _) | (with_reducible refine Kd.C_drewN ?_ _) | (with_reducible refine Kd.C_drew ?_))); (case side2 => exact HC0.out); rintro e w34 ⟨rfl, hb⟩; refine ⟨_, rfl, ?_⟩; replace HO_3 := dR HO_3 hb; replace HB := bS HB hb; (try clear hb); (try clear hb2); (try clear hk); (try clear hi)) | (go_at_call 23; (with_reducible refine (r_Hull.calls k2 _ _ l0 t374 _ ?side1 ?side2 A32.out).mono ?_); (case side1 => repeat (first | exact (Kd.C_below HR0.out HB.out) | (with_reducible refine Kd.C_alloc ?_ _) | (with_reducible refine Kd.C_drewN ?_ _) | (with_reducible refine Kd.C_drew ?_))); (case side2 => exact HC0.out); rintro e w35 ⟨v375, rfl, ho0, hb⟩; have HO376 := am (Kd.R_lower (Kd.R_new' ho0 (Kd.R_lt (fR HO_3.out))) (below_size (fW HB.out))); replace HO_3 := am (Kd.R_elder' (fR HO_3.out) (Kd.R_base ho0) hb); replace HB := bS HB hb; (try clear hb); (try clear hb2); (try clear hk); (try clear hi); (try clear ho0); obtain ⟨Ao36, co36, eo36⟩ := Kd.R_slice HO_3.out; subst eo36; obtain ⟨Ao37, co37, eo37⟩ := Kd.R_slice HO376.out; subst eo37) | (go_at_call 22; (with_reducible refine (r_Same.calls k2 _ _ t367 _ _ t374 t377 _ ?side1 ?side2 ?side3 ?side4 A33.out).mono ?_); (case side1 => repeat (first | exact (Kd.R_reads' HO_3.out).2.2 | (with_reducible refine Kd.C_alloc ?_ _) | (with_reducible refine Kd.C_drewN ?_ _) | (with_reducible refine Kd.C_drew ?_))); (case side2 => exact (Kd.R_reads' HO_3.out).2.1); (case side3 => repeat (first | exact (Kd.R_reads' HO376.out).2.2 | (with_reducible refine Kd.C_alloc ?_ _) | (with_reducible refine Kd.C_drewN ?_ _) | (with_reducible refine Kd.C_drew ?_))); (case side4 => exact (Kd.R_reads' HO376.out).2.1); rintro e w' ⟨rfl, ⟨nd, rfl⟩⟩))
      go_ret
      exact ⟨sqE, fW HB.out⟩
 ·replace c3 := Bool.eq_false_iff.mpr c3
  subst c3
  have H1 : (some false) = some r := by rw [if_neg (show ¬ (false = true) by decide)] at H; exact H
  clear H
  have H := H1
  clear H1
  obtain rfl := Option.some.inj H
  go_enter Try.func5, Try.ntmps5
  go_wp2_with (first | ((with_reducible refine gc (f := 11) rfl ?_); refine goesL_ (some 6) rfl rfl Try.func11 (by kernel_rfl) rfl #[] rfl (by (try simp only [pml]); first | done | rfl | (simp only [pdt]; rfl)) ?_; (with_reducible refine (w_awake.calls k  false _ A2.out).mono ?_); rintro e w39 ⟨rfl, hb⟩; refine ⟨_, rfl, ?_⟩; replace HB := bS HB hb; (try clear hb); (try clear hb2); (try clear hk); (try clear hi)))
  go_ret
  exact ⟨sqE, fW HB.out⟩

def w_PolygonHulls.Pure : Prop := ∀ (l0 : List (S23)), (l0.length ≤ maxLen ∧ ∀ e2_, e2_ ∈ l0 → okS23 e2_) → ∃ k, w_PolygonHulls.f k l0 = some true
theorem w_PolygonHulls.walk (P_ : w_PolygonHulls.Pure) (A0 : Option Addr) (c0 : Nat) (l0 : List (S23)) (w : World) (hr0 : Kd.C k23 w A0 l0.length l0) (hc0 : l0.length ≤ c0) (o0 : (l0.length ≤ maxLen ∧ ∀ e2_, e2_ ∈ l0 → okS23 e2_)) :
  Calls Try.prog 5 #[.slice A0 l0.length c0] w fun e w' => e = .returned (.bool true) ∧ Below w.heap.size w w' := by
 obtain ⟨k, h⟩ := P_ l0 o0
 refine (w_PolygonHulls.calls k A0 c0 l0 true w hr0 hc0 h).mono ?_
 rintro e w' ⟨rfl, hd⟩
 exact ⟨rfl, hd⟩

end Go.Proofs.Ytcembjgpcbodcaa.QA
