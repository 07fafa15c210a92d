import Derived.Test.YtcembjgpcbodcaaZQAx0
import Derived.Test.YtcembjgpcbodcaaZQAx1
import Derived.Test.YtcembjgpcbodcaaZQAx6
import Derived.Test.YtcembjgpcbodcaaZQAx9
import Derived.Test.YtcembjgpcbodcaaZQAx10
import Derived.Test.YtcembjgpcbodcaaZQAx11
namespace Go.Proofs.Ytcembjgpcbodcaa.QA
open Go.RowKit Go.Proofs.YtcembjgpcbodcaaW.PrintWords Go.Proofs.YtcembjgpcbodcaaW.PrintLast Go.Proofs.YtcembjgpcbodcaaW.PrintMore
open Go.Proofs.YtcembjgpcbodcaaW.PrintWords renaming below_size → wz
open Aside0 renaming mk → am
attribute [local go_sem] max2_int min2_int max_two min_two max_three min_three max_four min_four
set_option linter.unusedVariables false
set_option linter.unusedSimpArgs false

attribute [local go_sem high] eqA23
mutual
def w_PolygonHull.j0 : Nat → List (S23) → List (S23) → Bool → Option (Bool)
 | 0, _, _, _ => none
 | k + 1, x0, x3, x55 => if x55 = true then (some false) else (w_PolygonHull.l0 k x0 x3 0)
def w_PolygonHull.l0 : Nat → List (S23) → List (S23) → Int → Option (Bool)
 | 0, _, _, _ => none
 | k + 1, x0, x3, x9 => if x9 < (x0.length : Int) then (if 0 ≤ x9 then ((polygon_Side.f k x3 ((rd_T23 x0 x9).f0) ((rd_T23 x0 x9).f1)).bind fun bt391 => (if bt391.2 = 0 then (if bt391.1 < 0 then (some false) else (w_PolygonHull.l0 k x0 x3 (wrap64 (x9 + 1)))) else (some false))) else (none)) else (w_PolygonHull.l1 k x0 x3 0)
def w_PolygonHull.l1 : Nat → List (S23) → List (S23) → Int → Option (Bool)
 | 0, _, _, _ => none
 | k + 1, x0, x3, x12 => if x12 < (x3.length : Int) then (w_PolygonHull.l2 k x0 x3 x12 false 0) else (some true)
def w_PolygonHull.l2 : Nat → List (S23) → List (S23) → Int → Bool → Int → Option (Bool)
 | 0, _, _, _, _, _ => none
 | k + 1, x0, x3, x12, x13, x14 => if x14 < (x0.length : Int) then (if x13 = true then (w_PolygonHull.j4 k x0 x3 x12 true x14) else (if 0 ≤ x14 then (if 0 ≤ x12 then (if x12 < (x3.length : Int) then (w_PolygonHull.j4 k x0 x3 x12 (((rd_T23 x0 x14).f0) == ((rd_T23 x3 x12).f0) && (((rd_T23 x0 x14).f1) == ((rd_T23 x3 x12).f1))) x14) else (none)) else (none)) else (none))) else (if x13 = true then (w_PolygonHull.l1 k x0 x3 (wrap64 (x12 + 1))) else (some false))
def w_PolygonHull.j4 : Nat → List (S23) → List (S23) → Int → Bool → Int → Option (Bool)
 | 0, _, _, _, _, _ => none
 | k + 1, x0, x3, x12, x13, x14 => w_PolygonHull.l2 k x0 x3 x12 x13 (wrap64 (x14 + 1))
end
def w_PolygonHull.f (k : Nat) (l0 : List (S23)) : Option (Bool) := (w_awake.f k).bind fun t378 => (if t378 = true then (if (l0.length : Int) > 16 then (some true) else ((polygon_Hull.f k l0).bind fun bt379 => (if bt379.2 = 0 then ((polygon_Convex.f k bt379.1).bind fun bt383 => ((polygon_Hull.f k bt379.1).bind fun bt385 => (if bt383.2 = 0 then (if bt383.1 = true then (if bt385.2 = 0 then ((r_Same.f k bt379.1 bt385.1).bind fun t389 => (w_PolygonHull.j0 k l0 bt379.1 (!t389))) else (w_PolygonHull.j0 k l0 bt379.1 true)) else (w_PolygonHull.j0 k l0 bt379.1 true)) else (w_PolygonHull.j0 k l0 bt379.1 true)))) else (some ((bt379.1.length : Int) == 0))))) else (some false))
set_option maxHeartbeats 8000000 in
set_option maxRecDepth 100000 in
theorem w_PolygonHull.calls (k : Nat) (A0 : Option Addr) (c0 : Nat) (l0 : List (S23)) (r : Bool) (w : World) (hr0 : Kd.C k23 w A0 l0.length l0) (hc0 : l0.length ≤ c0) (h : w_PolygonHull.f k l0 = some r) :
  Calls Try.prog 6 #[.slice A0 l0.length c0] w fun e w' => e = .returned (.bool r) ∧ Below w.heap.size w w' := by
 have hu23 := Try.underlying23
 have HR0 := am hr0
 have HC0 := am hc0
 clear hr0 hc0
 have HB := am (Below.refl w.heap.size w)
 have H : ((w_awake.f k).bind fun t378 => (if t378 = true then (if (l0.length : Int) > 16 then (some true) else ((polygon_Hull.f k l0).bind fun bt379 => (if bt379.2 = 0 then ((polygon_Convex.f k bt379.1).bind fun bt383 => ((polygon_Hull.f k bt379.1).bind fun bt385 => (if bt383.2 = 0 then (if bt383.1 = true then (if bt385.2 = 0 then ((r_Same.f k bt379.1 bt385.1).bind fun t389 => (w_PolygonHull.j0 k l0 bt379.1 (!t389))) else (w_PolygonHull.j0 k l0 bt379.1 true)) else (w_PolygonHull.j0 k l0 bt379.1 true)) else (w_PolygonHull.j0 k l0 bt379.1 true)))) else (some ((bt379.1.length : Int) == 0))))) else (some false))) = some r := h
 clear h
 replace H := Option.bind_eq_some_iff.mp H
 obtain ⟨t378, A20, H⟩ := H
 replace H : (if t378 = true then (if (l0.length : Int) > 16 then (some true) else ((polygon_Hull.f k l0).bind fun bt379 => (if bt379.2 = 0 then ((polygon_Convex.f k bt379.1).bind fun bt383 => ((polygon_Hull.f k bt379.1).bind fun bt385 => (if bt383.2 = 0 then (if bt383.1 = true then (if bt385.2 = 0 then ((r_Same.f k bt379.1 bt385.1).bind fun t389 => (w_PolygonHull.j0 k l0 bt379.1 (!t389))) else (w_PolygonHull.j0 k l0 bt379.1 true)) else (w_PolygonHull.j0 k l0 bt379.1 true)) else (w_PolygonHull.j0 k l0 bt379.1 true)))) else (some ((bt379.1.length : Int) == 0))))) else (some false)) = some r := H
 have A2 := am A20
 clear A20
 by_cases c3 : t378 = true
 ·subst c3
  have H1 : (if (l0.length : Int) > 16 then (some true) else ((polygon_Hull.f k l0).bind fun bt379 => (if bt379.2 = 0 then ((polygon_Convex.f k bt379.1).bind fun bt383 => ((polygon_Hull.f k bt379.1).bind fun bt385 => (if bt383.2 = 0 then (if bt383.1 = true then (if bt385.2 = 0 then ((r_Same.f k bt379.1 bt385.1).bind fun t389 => (w_PolygonHull.j0 k l0 bt379.1 (!t389))) else (w_PolygonHull.j0 k l0 bt379.1 true)) else (w_PolygonHull.j0 k l0 bt379.1 true)) else (w_PolygonHull.j0 k l0 bt379.1 true)))) else (some ((bt379.1.length : Int) == 0))))) = some r := by rw [if_pos rfl] at H; exact H
  clear H
  have H := H1
  clear H1
  by_cases c4 : (l0.length : Int) > 16
  ·rw [if_pos c4] at H
   have c4b0 : decide (16 < (l0.length : Int)) = true := decide_eq_true c4
   have c4b1 : decide (16 < l0.length) = true := decide_eq_true (by omega)
   clear c4
   obtain rfl := Option.some.inj H
   go_enter Try.func6, Try.ntmps6
   go_wp2_with (first | (go_at_call 11; (with_reducible refine (w_awake.calls k  true _ A2.out).mono ?_); rintro e w5 ⟨rfl, hb⟩; replace HB := bS HB hb; (try clear hb); (try clear hb2); (try clear hk); (try clear hi)))
   repeat (go_quiet (first | (go_at_call 11; (with_reducible refine (w_awake.calls k  true _ A2.out).mono ?_); rintro e w5 ⟨rfl, hb⟩; replace HB := bS HB hb; (try clear hb); (try clear hb2); (try clear hk); (try clear hi))); try go_wp2_with (first | (go_at_call 11; (with_reducible refine (w_awake.calls k  true _ A2.out).mono ?_); rintro e w5 ⟨rfl, hb⟩; replace HB := bS HB hb; (try clear hb); (try clear hb2); (try clear hk); (try clear hi))))
   go_ret
   exact ⟨sqE, fW HB.out⟩
  rw [if_neg c4] at H
  have c4b0 : decide (16 < (l0.length : Int)) = false := decide_eq_false c4
  have c4b1 : decide (16 < l0.length) = false := decide_eq_false (by omega)
  clear c4
  replace H := Option.bind_eq_some_iff.mp H
  obtain ⟨⟨t379, t380⟩, A60, H⟩ := H
  replace H : (if t380 = 0 then ((polygon_Convex.f k t379).bind fun bt383 => ((polygon_Hull.f k t379).bind fun bt385 => (if bt383.2 = 0 then (if bt383.1 = true then (if bt385.2 = 0 then ((r_Same.f k t379 bt385.1).bind fun t389 => (w_PolygonHull.j0 k l0 t379 (!t389))) else (w_PolygonHull.j0 k l0 t379 true)) else (w_PolygonHull.j0 k l0 t379 true)) else (w_PolygonHull.j0 k l0 t379 true)))) else (some ((t379.length : Int) == 0))) = some r := H
  have A6 := am A60
  clear A60
  by_cases c7 : t380 = 0
  rotate_left
  ·rw [if_neg c7] at H
   have c7b0 : (t380 == 0) = false := beq_eq_false_iff_ne.mpr c7
   have c7b1 : (t380 != 0) = true := bne_iff_ne.mpr c7
   obtain rfl := Option.some.inj H
   go_enter Try.func6, Try.ntmps6
   go_wp2_with (first | (go_at_call 11; (with_reducible refine (w_awake.calls k  true _ A2.out).mono ?_); rintro e w38 ⟨rfl, hb⟩; replace HB := bS HB hb; (try clear hb); (try clear hb2); (try clear hk); (try clear hi)) | (go_at_call 20; (with_reducible refine (polygon_Hull.calls k _ _ l0 t379 t380 _ ?side1 ?side2 A6.out).mono ?_); (case side1 => repeat (first | exact (Kd.C_below HR0.out HB.out) | (with_reducible refine Kd.C_alloc ?_ _) | (with_reducible refine Kd.C_drewN ?_ _) | (with_reducible refine Kd.C_drew ?_))); (case side2 => exact HC0.out); rintro e w39 ⟨v381, rfl, ho0, hb⟩; have HO382 := am (Kd.R_lower ho0 (wz (fW HB.out))); replace HB := bS HB hb; (try clear hb); (try clear hb2); (try clear hk); (try clear hi); (try clear ho0); obtain ⟨Ao40, co40, eo40⟩ := Kd.R_slice HO382.out; subst eo40))
   repeat (go_quiet (first | (go_at_call 11; (with_reducible refine (w_awake.calls k  true _ A2.out).mono ?_); rintro e w38 ⟨rfl, hb⟩; replace HB := bS HB hb; (try clear hb); (try clear hb2); (try clear hk); (try clear hi)) | (go_at_call 20; (with_reducible refine (polygon_Hull.calls k _ _ l0 t379 t380 _ ?side1 ?side2 A6.out).mono ?_); (case side1 => repeat (first | exact (Kd.C_below HR0.out HB.out) | (with_reducible refine Kd.C_alloc ?_ _) | (with_reducible refine Kd.C_drewN ?_ _) | (with_reducible refine Kd.C_drew ?_))); (case side2 => exact HC0.out); rintro e w39 ⟨v381, rfl, ho0, hb⟩; have HO382 := am (Kd.R_lower ho0 (wz (fW HB.out))); replace HB := bS HB hb; (try clear hb); (try clear hb2); (try clear hk); (try clear hi); (try clear ho0); obtain ⟨Ao40, co40, eo40⟩ := Kd.R_slice HO382.out; subst eo40)); try go_wp2_with (first | (go_at_call 11; (with_reducible refine (w_awake.calls k  true _ A2.out).mono ?_); rintro e w38 ⟨rfl, hb⟩; replace HB := bS HB hb; (try clear hb); (try clear hb2); (try clear hk); (try clear hi)) | (go_at_call 20; (with_reducible refine (polygon_Hull.calls k _ _ l0 t379 t380 _ ?side1 ?side2 A6.out).mono ?_); (case side1 => repeat (first | exact (Kd.C_below HR0.out HB.out) | (with_reducible refine Kd.C_alloc ?_ _) | (with_reducible refine Kd.C_drewN ?_ _) | (with_reducible refine Kd.C_drew ?_))); (case side2 => exact HC0.out); rintro e w39 ⟨v381, rfl, ho0, hb⟩; have HO382 := am (Kd.R_lower ho0 (wz (fW HB.out))); replace HB := bS HB hb; (try clear hb); (try clear hb2); (try clear hk); (try clear hi); (try clear ho0); obtain ⟨Ao40, co40, eo40⟩ := Kd.R_slice HO382.out; subst eo40)))
   go_ret
   exact ⟨sqE, fW HB.out⟩
  rw [if_pos c7] at H
  have c7b0 : (t380 == 0) = true := beq_iff_eq.mpr c7
  have c7b1 : (t380 != 0) = false := bne_eq_false_iff_eq.mpr c7
  clear c7
  replace H := Option.bind_eq_some_iff.mp H
  obtain ⟨⟨t383, t384⟩, A80, H⟩ := H
  replace H : ((polygon_Hull.f k t379).bind fun bt385 => (if t384 = 0 then (if t383 = true then (if bt385.2 = 0 then ((r_Same.f k t379 bt385.1).bind fun t389 => (w_PolygonHull.j0 k l0 t379 (!t389))) else (w_PolygonHull.j0 k l0 t379 true)) else (w_PolygonHull.j0 k l0 t379 true)) else (w_PolygonHull.j0 k l0 t379 true))) = some r := H
  have A8 := am A80
  clear A80
  replace H := Option.bind_eq_some_iff.mp H
  obtain ⟨⟨t385, t386⟩, A90, H⟩ := H
  replace H : (if t384 = 0 then (if t383 = true then (if t386 = 0 then ((r_Same.f k t379 t385).bind fun t389 => (w_PolygonHull.j0 k l0 t379 (!t389))) else (w_PolygonHull.j0 k l0 t379 true)) else (w_PolygonHull.j0 k l0 t379 true)) else (w_PolygonHull.j0 k l0 t379 true)) = some r := H
  have A9 := am A90
  clear A90
  have HC10 := am H
  clear H
  go_enter Try.func6, Try.ntmps6
  go_upto_region 10 with (first | (go_at_call 11; (with_reducible refine (w_awake.calls k  true _ A2.out).mono ?_); rintro e w11 ⟨rfl, hb⟩; replace HB := bS HB hb; (try clear hb); (try clear hb2); (try clear hk); (try clear hi)) | (go_at_call 20; (with_reducible refine (polygon_Hull.calls k _ _ l0 t379 t380 _ ?side1 ?side2 A6.out).mono ?_); (case side1 => repeat (first | exact (Kd.C_below HR0.out HB.out) | (with_reducible refine Kd.C_alloc ?_ _) | (with_reducible refine Kd.C_drewN ?_ _) | (with_reducible refine Kd.C_drew ?_))); (case side2 => exact HC0.out); rintro e w12 ⟨v381, rfl, ho0, hb⟩; have HO382 := am (Kd.R_lower ho0 (wz (fW HB.out))); replace HB := bS HB hb; (try clear hb); (try clear hb2); (try clear hk); (try clear hi); (try clear ho0); obtain ⟨Ao13, co13, eo13⟩ := Kd.R_slice HO382.out; subst eo13) | (go_at_call 24; (with_reducible refine (polygon_Convex.calls k _ _ t379 t383 t384 _ ?side1 ?side2 A8.out).mono ?_); (case side1 => repeat (first | exact (Kd.R_reads' HO382.out).2.2 | (with_reducible refine Kd.C_alloc ?_ _) | (with_reducible refine Kd.C_drewN ?_ _) | (with_reducible refine Kd.C_drew ?_))); (case side2 => exact (Kd.R_reads' HO382.out).2.1); rintro e w14 ⟨rfl, hb⟩; replace HO382 := dR HO382 hb; replace HB := bS HB hb; (try clear hb); (try clear hb2); (try clear hk); (try clear hi)) | (go_at_call 20; (with_reducible refine (polygon_Hull.calls k _ _ t379 t385 t386 _ ?side1 ?side2 A9.out).mono ?_); (case side1 => repeat (first | exact (Kd.R_reads' HO382.out).2.2 | (with_reducible refine Kd.C_alloc ?_ _) | (with_reducible refine Kd.C_drewN ?_ _) | (with_reducible refine Kd.C_drew ?_))); (case side2 => exact (Kd.R_reads' HO382.out).2.1); rintro e w15 ⟨v387, rfl, ho0, hb⟩; have HO388 := am (Kd.R_lower (Kd.R_new' ho0 (Kd.R_lt (fR HO382.out))) (wz (fW HB.out))); replace HO382 := am (Kd.R_elder' (fR HO382.out) (Kd.R_base ho0) hb); replace HB := bS HB hb; (try clear hb); (try clear hb2); (try clear hk); (try clear hi); (try clear ho0)))
  repeat (go_quiet (first | (go_at_call 11; (with_reducible refine (w_awake.calls k  true _ A2.out).mono ?_); rintro e w11 ⟨rfl, hb⟩; replace HB := bS HB hb; (try clear hb); (try clear hb2); (try clear hk); (try clear hi)) | (go_at_call 20; (with_reducible refine (polygon_Hull.calls k _ _ l0 t379 t380 _ ?side1 ?side2 A6.out).mono ?_); (case side1 => repeat (first | exact (Kd.C_below HR0.out HB.out) | (with_reducible refine Kd.C_alloc ?_ _) | (with_reducible refine Kd.C_drewN ?_ _) | (with_reducible refine Kd.C_drew ?_))); (case side2 => exact HC0.out); rintro e w12 ⟨v381, rfl, ho0, hb⟩; have HO382 := am (Kd.R_lower ho0 (wz (fW HB.out))); replace HB := bS HB hb; (try clear hb); (try clear hb2); (try clear hk); (try clear hi); (try clear ho0); obtain ⟨Ao13, co13, eo13⟩ := Kd.R_slice HO382.out; subst eo13) | (go_at_call 24; (with_reducible refine (polygon_Convex.calls k _ _ t379 t383 t384 _ ?side1 ?side2 A8.out).mono ?_); (case side1 => repeat (first | exact (Kd.R_reads' HO382.out).2.2 | (with_reducible refine Kd.C_alloc ?_ _) | (with_reducible refine Kd.C_drewN ?_ _) | (with_reducible refine Kd.C_drew ?_))); (case side2 => exact (Kd.R_reads' HO382.out).2.1); rintro e w14 ⟨rfl, hb⟩; replace HO382 := dR HO382 hb; replace HB := bS HB hb; (try clear hb); (try clear hb2); (try clear hk); (try clear hi)) | (go_at_call 20; (with_reducible refine (polygon_Hull.calls k _ _ t379 t385 t386 _ ?side1 ?side2 A9.out).mono ?_); (case side1 => repeat (first | exact (Kd.R_reads' HO382.out).2.2 | (with_reducible refine Kd.C_alloc ?_ _) | (with_reducible refine Kd.C_drewN ?_ _) | (with_reducible refine Kd.C_drew ?_))); (case side2 => exact (Kd.R_reads' HO382.out).2.1); rintro e w15 ⟨v387, rfl, ho0, hb⟩; have HO388 := am (Kd.R_lower (Kd.R_new' ho0 (Kd.R_lt (fR HO382.out))) (wz (fW HB.out))); replace HO382 := am (Kd.R_elder' (fR HO382.out) (Kd.R_base ho0) hb); replace HB := bS HB hb; (try clear hb); (try clear hb2); (try clear hk); (try clear hi); (try clear ho0))); go_upto_region 10 with (first | (go_at_call 11; (with_reducible refine (w_awake.calls k  true _ A2.out).mono ?_); rintro e w11 ⟨rfl, hb⟩; replace HB := bS HB hb; (try clear hb); (try clear hb2); (try clear hk); (try clear hi)) | (go_at_call 20; (with_reducible refine (polygon_Hull.calls k _ _ l0 t379 t380 _ ?side1 ?side2 A6.out).mono ?_); (case side1 => repeat (first | exact (Kd.C_below HR0.out HB.out) | (with_reducible refine Kd.C_alloc ?_ _) | (with_reducible refine Kd.C_drewN ?_ _) | (with_reducible refine Kd.C_drew ?_))); (case side2 => exact HC0.out); rintro e w12 ⟨v381, rfl, ho0, hb⟩; have HO382 := am (Kd.R_lower ho0 (wz (fW HB.out))); replace HB := bS HB hb; (try clear hb); (try clear hb2); (try clear hk); (try clear hi); (try clear ho0); obtain ⟨Ao13, co13, eo13⟩ := Kd.R_slice HO382.out; subst eo13) | (go_at_call 24; (with_reducible refine (polygon_Convex.calls k _ _ t379 t383 t384 _ ?side1 ?side2 A8.out).mono ?_); (case side1 => repeat (first | exact (Kd.R_reads' HO382.out).2.2 | (with_reducible refine Kd.C_alloc ?_ _) | (with_reducible refine Kd.C_drewN ?_ _) | (with_reducible refine Kd.C_drew ?_))); (case side2 => exact (Kd.R_reads' HO382.out).2.1); rintro e w14 ⟨rfl, hb⟩; replace HO382 := dR HO382 hb; replace HB := bS HB hb; (try clear hb); (try clear hb2); (try clear hk); (try clear hi)) | (go_at_call 20; (with_reducible refine (polygon_Hull.calls k _ _ t379 t385 t386 _ ?side1 ?side2 A9.out).mono ?_); (case side1 => repeat (first | exact (Kd.R_reads' HO382.out).2.2 | (with_reducible refine Kd.C_alloc ?_ _) | (with_reducible refine Kd.C_drewN ?_ _) | (with_reducible refine Kd.C_drew ?_))); (case side2 => exact (Kd.R_reads' HO382.out).2.1); rintro e w15 ⟨v387, rfl, ho0, hb⟩; have HO388 := am (Kd.R_lower (Kd.R_new' ho0 (Kd.R_lt (fR HO382.out))) (wz (fW HB.out))); replace HO382 := am (Kd.R_elder' (fR HO382.out) (Kd.R_base ho0) hb); replace HB := bS HB hb; (try clear hb); (try clear hb2); (try clear hk); (try clear hi); (try clear ho0))))
  (try simp only [Act.put, psl])
  go_cut [55] (fun v55 wc => ∃ (kq : Nat) (x55_9 : Bool), v55 = .bool x55_9 ∧ Aside0 (w_PolygonHull.j0 kq l0 t379 x55_9 = some r) ∧ Aside0 (kq ≤ k) ∧ Aside0 (Kd.R k23 23 wc w.heap.size (fun _ => True) (.slice Ao13 t379.length co13) t379) ∧ Aside0 (Below w.heap.size w wc))
  case first =>
   have H := HC10.out
   clear HC10
   by_cases c16 : t384 = 0
   rotate_left
   ·rw [if_neg c16] at H
    have c16b0 : (t384 == 0) = false := beq_eq_false_iff_ne.mpr c16
    have c16b1 : (t384 != 0) = true := bne_iff_ne.mpr c16
    (first | rw [c16b0] | (simp only [i64_w, i32_w]; rw [c16b0]) | skip)
    have H' := am H
    clear H
    go_wp2
    repeat (go_quiet (fail); try go_wp2)
    go_meet
    case rel => exact ⟨_, (true), sqD, H', ⟨by first | omega | exact Nat.le_refl _⟩, ⟨by (with_reducible repeat (first | apply Kd.R_alloc | apply Kd.R_drewN | apply Kd.R_drew)); exact Kd.R_mono HO382.out (fun _ hk => trivial)⟩, ⟨fW HB.out⟩⟩
   rw [if_pos c16] at H
   have c16b0 : (t384 == 0) = true := beq_iff_eq.mpr c16
   have c16b1 : (t384 != 0) = false := bne_eq_false_iff_eq.mpr c16
   clear c16
   (first | rw [c16b0] | (simp only [i64_w, i32_w]; rw [c16b0]) | skip)
   by_cases c17 : t383 = true
   rotate_left
   ·replace c17 := Bool.eq_false_iff.mpr c17
    subst c17
    have H1 : (w_PolygonHull.j0 k l0 t379 true) = some r := by rw [if_neg (show ¬ (false = true) by decide)] at H; exact H
    clear H
    have H := H1
    clear H1
    have H' := am H
    clear H
    go_wp2
    repeat (go_quiet (fail); try go_wp2)
    go_meet
    case rel => exact ⟨_, (true), sqD, H', ⟨by first | omega | exact Nat.le_refl _⟩, ⟨by (with_reducible repeat (first | apply Kd.R_alloc | apply Kd.R_drewN | apply Kd.R_drew)); exact Kd.R_mono HO382.out (fun _ hk => trivial)⟩, ⟨fW HB.out⟩⟩
   subst c17
   have H1 : (if t386 = 0 then ((r_Same.f k t379 t385).bind fun t389 => (w_PolygonHull.j0 k l0 t379 (!t389))) else (w_PolygonHull.j0 k l0 t379 true)) = some r := by rw [if_pos rfl] at H; exact H
   clear H
   have H := H1
   clear H1
   by_cases c18 : t386 = 0
   ·rw [if_pos c18] at H
    have c18b0 : (t386 == 0) = true := beq_iff_eq.mpr c18
    have c18b1 : (t386 != 0) = false := bne_eq_false_iff_eq.mpr c18
    clear c18
    replace H := Option.bind_eq_some_iff.mp H
    obtain ⟨t389, A190, H⟩ := H
    replace H : (w_PolygonHull.j0 k l0 t379 (!t389)) = some r := H
    have A19 := am A190
    clear A190
    have H' := am H
    clear H
    obtain ⟨Ao20, co20, eo20⟩ := Kd.R_slice HO388.out
    subst eo20
    go_wp2_with (first | (go_at_call 22; (with_reducible refine (r_Same.calls k _ _ t379 _ _ t385 t389 _ ?side1 ?side2 ?side3 ?side4 A19.out).mono ?_); (case side1 => repeat (first | exact (Kd.R_reads' HO382.out).2.2 | (with_reducible refine Kd.C_alloc ?_ _) | (with_reducible refine Kd.C_drewN ?_ _) | (with_reducible refine Kd.C_drew ?_))); (case side2 => exact (Kd.R_reads' HO382.out).2.1); (case side3 => repeat (first | exact (Kd.R_reads' HO388.out).2.2 | (with_reducible refine Kd.C_alloc ?_ _) | (with_reducible refine Kd.C_drewN ?_ _) | (with_reducible refine Kd.C_drew ?_))); (case side4 => exact (Kd.R_reads' HO388.out).2.1); rintro e w' ⟨rfl, ⟨nd, rfl⟩⟩; (try first | exact ⟨rfl, _, World.drewN_drewN _ _ _⟩ | exact ⟨rfl, _, Eq.trans (World.drewN_drewN _ _ _) (congrArg (World.drewN _) (Nat.add_assoc _ _ _))⟩)))
    repeat (go_quiet (first | (go_at_call 22; (with_reducible refine (r_Same.calls k _ _ t379 _ _ t385 t389 _ ?side1 ?side2 ?side3 ?side4 A19.out).mono ?_); (case side1 => repeat (first | exact (Kd.R_reads' HO382.out).2.2 | (with_reducible refine Kd.C_alloc ?_ _) | (with_reducible refine Kd.C_drewN ?_ _) | (with_reducible refine Kd.C_drew ?_))); (case side2 => exact (Kd.R_reads' HO382.out).2.1); (case side3 => repeat (first | exact (Kd.R_reads' HO388.out).2.2 | (with_reducible refine Kd.C_alloc ?_ _) | (with_reducible refine Kd.C_drewN ?_ _) | (with_reducible refine Kd.C_drew ?_))); (case side4 => exact (Kd.R_reads' HO388.out).2.1); rintro e w' ⟨rfl, ⟨nd, rfl⟩⟩; (try first | exact ⟨rfl, _, World.drewN_drewN _ _ _⟩ | exact ⟨rfl, _, Eq.trans (World.drewN_drewN _ _ _) (congrArg (World.drewN _) (Nat.add_assoc _ _ _))⟩))); try go_wp2_with (first | (go_at_call 22; (with_reducible refine (r_Same.calls k _ _ t379 _ _ t385 t389 _ ?side1 ?side2 ?side3 ?side4 A19.out).mono ?_); (case side1 => repeat (first | exact (Kd.R_reads' HO382.out).2.2 | (with_reducible refine Kd.C_alloc ?_ _) | (with_reducible refine Kd.C_drewN ?_ _) | (with_reducible refine Kd.C_drew ?_))); (case side2 => exact (Kd.R_reads' HO382.out).2.1); (case side3 => repeat (first | exact (Kd.R_reads' HO388.out).2.2 | (with_reducible refine Kd.C_alloc ?_ _) | (with_reducible refine Kd.C_drewN ?_ _) | (with_reducible refine Kd.C_drew ?_))); (case side4 => exact (Kd.R_reads' HO388.out).2.1); rintro e w' ⟨rfl, ⟨nd, rfl⟩⟩; (try first | exact ⟨rfl, _, World.drewN_drewN _ _ _⟩ | exact ⟨rfl, _, Eq.trans (World.drewN_drewN _ _ _) (congrArg (World.drewN _) (Nat.add_assoc _ _ _))⟩))))
    go_meet
    case rel => exact ⟨_, (!t389), sqD, H', ⟨by first | omega | exact Nat.le_refl _⟩, ⟨by (with_reducible repeat (first | apply Kd.R_alloc | apply Kd.R_drewN | apply Kd.R_drew)); exact Kd.R_mono HO382.out (fun _ hk => trivial)⟩, ⟨fW HB.out⟩⟩
   rw [if_neg c18] at H
   have c18b0 : (t386 == 0) = false := beq_eq_false_iff_ne.mpr c18
   have c18b1 : (t386 != 0) = true := bne_iff_ne.mpr c18
   have H' := am H
   clear H
   go_wp2
   repeat (go_quiet (fail); try go_wp2)
   go_meet
   case rel => exact ⟨_, (true), sqD, H', ⟨by first | omega | exact Nat.le_refl _⟩, ⟨by (with_reducible repeat (first | apply Kd.R_alloc | apply Kd.R_drewN | apply Kd.R_drew)); exact Kd.R_mono HO382.out (fun _ hk => trivial)⟩, ⟨fW HB.out⟩⟩
  case rest =>
   clear HC10
   try clear c1;try clear p2;try clear c3;try clear c4;try clear c4b0;try clear c4b1;try clear c6;try clear c7;try clear c7b0;try clear c7b1;try clear c16;try clear c16b0;try clear c16b1;try clear c17;try clear c18;try clear c18b0;try clear c18b1
   obtain ⟨kq, x55_9, rfl, HA, HJ9, HO_3, HB⟩ := hcut
   cases kq with
   | zero => exact absurd HA.out (by simp [w_PolygonHull.j0])
   | succ kj9 =>
    have H := HA.out
    clear HA
    simp only [w_PolygonHull.j0] at H
    by_cases c21 : x55_9 = true
    ·subst c21
     have H1 : (some false) = some r := by rw [if_pos rfl] at H; exact H
     clear H
     have H := H1
     clear H1
     obtain rfl := Option.some.inj H
     go_wp2
     repeat (go_quiet (fail); try go_wp2)
     go_ret
     exact ⟨sqE, fW HB.out⟩
    replace c21 := Bool.eq_false_iff.mpr c21
    subst c21
    have H1 : (w_PolygonHull.l0 kj9 l0 t379 0) = some r := by rw [if_neg (show ¬ (false = true) by decide)] at H; exact H
    clear H
    have H := H1
    clear H1
    have H' := am H
    clear H
    go_wp2
    repeat (go_quiet (fail); try go_wp2)
    go_loopg [9] kj9 (fun kq v9 w' => ∃ (x9_2 : Int), v9 = .int .i64 x9_2 ∧ Aside0 (w_PolygonHull.l0 kq l0 t379 x9_2 = some r) ∧ Aside0 (kq ≤ kj9) ∧ Aside0 (Kd.R k23 23 w' w.heap.size (fun _ => True) (.slice Ao13 t379.length co13) t379) ∧ Aside0 (Below w.heap.size w w'))
    case atStart => exact ⟨(0), sqD, H', ⟨Nat.le_refl _⟩, ⟨fR HO_3.out⟩, ⟨fW HB.out⟩⟩
    case round =>
     clear H'
     try clear c1;try clear c2;try clear p2;try clear c3;try clear c4;try clear c4b0;try clear c4b1;try clear c6;try clear c7;try clear c7b0;try clear c7b1;try clear c16;try clear c16b0;try clear c16b1;try clear c17;try clear c18;try clear c18b0;try clear c18b1;try clear c21;try clear p2
     obtain ⟨x9_2, rfl, HA, HK2, HO_3, HB⟩ := hrel
     cases gk with
     | zero => exact absurd HA.out (by simp [w_PolygonHull.l0])
     | succ k2 =>
      have H := HA.out
      clear HA
      simp only [w_PolygonHull.l0] at H
      by_cases c22 : x9_2 < (l0.length : Int)
      ·rw [if_pos c22] at H
       have c22b0 : decide (x9_2 < (l0.length : Int)) = true := decide_eq_true c22
       clear c22
       by_cases c23 : 0 ≤ x9_2
       rotate_left
       ·rw [if_neg c23] at H
        exact absurd H (by simp)
       rw [if_pos c23] at H
       have c23b0 : decide (0 ≤ x9_2) = true := decide_eq_true c23
       clear c23
       replace H := Option.bind_eq_some_iff.mp H
       obtain ⟨⟨t391, t392⟩, A240, H⟩ := H
       replace H : (if t392 = 0 then (if t391 < 0 then (some false) else (w_PolygonHull.l0 k2 l0 t379 (wrap64 (x9_2 + 1)))) else (some false)) = some r := H
       have A24 := am A240
       clear A240
       by_cases c25 : t392 = 0
       rotate_left
       ·rw [if_neg c25] at H
        have c25b0 : (t392 == 0) = false := beq_eq_false_iff_ne.mpr c25
        have c25b1 : (t392 != 0) = true := bne_iff_ne.mpr c25
        obtain rfl := Option.some.inj H
        have p390 : 0 ≤ (x9_2 : Int) := of_decide_eq_true (by assumption)
        have q390 : x9_2 < (l0.length : Int) := of_decide_eq_true (by assumption)
        obtain ⟨ad390, e390, hx390_0, hx390_1⟩ := at_T23 HR0.out x9_2 p390 q390
        cases e390
        replace hx390_0 := cl HB hx390_0
        replace hx390_1 := cl HB hx390_1
        replace p390 := eq_true p390
        replace q390 := eq_true q390
        go_wp2_with (first | (go_at_call 16; (with_reducible refine (polygon_Side.calls k2 _ _ t379 ((rd_T23 l0 x9_2).f0) ((rd_T23 l0 x9_2).f1) t391 t392 _ ?side1 ?side2 A24.out).mono ?_); (case side1 => repeat (first | exact (Kd.R_reads' HO_3.out).2.2 | (with_reducible refine Kd.C_alloc ?_ _) | (with_reducible refine Kd.C_drewN ?_ _) | (with_reducible refine Kd.C_drew ?_))); (case side2 => exact (Kd.R_reads' HO_3.out).2.1); rintro e w29 ⟨rfl, hb⟩; replace HO_3 := dR HO_3 hb; replace HB := bS HB hb; (try clear hb); (try clear hb2); (try clear hk); (try clear hi)))
        repeat (go_quiet (first | (go_at_call 16; (with_reducible refine (polygon_Side.calls k2 _ _ t379 ((rd_T23 l0 x9_2).f0) ((rd_T23 l0 x9_2).f1) t391 t392 _ ?side1 ?side2 A24.out).mono ?_); (case side1 => repeat (first | exact (Kd.R_reads' HO_3.out).2.2 | (with_reducible refine Kd.C_alloc ?_ _) | (with_reducible refine Kd.C_drewN ?_ _) | (with_reducible refine Kd.C_drew ?_))); (case side2 => exact (Kd.R_reads' HO_3.out).2.1); rintro e w29 ⟨rfl, hb⟩; replace HO_3 := dR HO_3 hb; replace HB := bS HB hb; (try clear hb); (try clear hb2); (try clear hk); (try clear hi))); try go_wp2_with (first | (go_at_call 16; (with_reducible refine (polygon_Side.calls k2 _ _ t379 ((rd_T23 l0 x9_2).f0) ((rd_T23 l0 x9_2).f1) t391 t392 _ ?side1 ?side2 A24.out).mono ?_); (case side1 => repeat (first | exact (Kd.R_reads' HO_3.out).2.2 | (with_reducible refine Kd.C_alloc ?_ _) | (with_reducible refine Kd.C_drewN ?_ _) | (with_reducible refine Kd.C_drew ?_))); (case side2 => exact (Kd.R_reads' HO_3.out).2.1); rintro e w29 ⟨rfl, hb⟩; replace HO_3 := dR HO_3 hb; replace HB := bS HB hb; (try clear hb); (try clear hb2); (try clear hk); (try clear hi))))
        go_ret
        exact ⟨sqE, fW HB.out⟩
       rw [if_pos c25] at H
       have c25b0 : (t392 == 0) = true := beq_iff_eq.mpr c25
       have c25b1 : (t392 != 0) = false := bne_eq_false_iff_eq.mpr c25
       clear c25
       by_cases c26 : t391 < 0
       ·rw [if_pos c26] at H
        have c26b0 : decide (t391 < 0) = true := decide_eq_true c26
        clear c26
        obtain rfl := Option.some.inj H
        have p390 : 0 ≤ (x9_2 : Int) := of_decide_eq_true (by assumption)
        have q390 : x9_2 < (l0.length : Int) := of_decide_eq_true (by assumption)
        obtain ⟨ad390, e390, hx390_0, hx390_1⟩ := at_T23 HR0.out x9_2 p390 q390
        cases e390
        replace hx390_0 := cl HB hx390_0
        replace hx390_1 := cl HB hx390_1
        replace p390 := eq_true p390
        replace q390 := eq_true q390
        go_wp2_with (first | (go_at_call 16; (with_reducible refine (polygon_Side.calls k2 _ _ t379 ((rd_T23 l0 x9_2).f0) ((rd_T23 l0 x9_2).f1) t391 t392 _ ?side1 ?side2 A24.out).mono ?_); (case side1 => repeat (first | exact (Kd.R_reads' HO_3.out).2.2 | (with_reducible refine Kd.C_alloc ?_ _) | (with_reducible refine Kd.C_drewN ?_ _) | (with_reducible refine Kd.C_drew ?_))); (case side2 => exact (Kd.R_reads' HO_3.out).2.1); rintro e w27 ⟨rfl, hb⟩; replace HO_3 := dR HO_3 hb; replace HB := bS HB hb; (try clear hb); (try clear hb2); (try clear hk); (try clear hi)))
        repeat (go_quiet (first | (go_at_call 16; (with_reducible refine (polygon_Side.calls k2 _ _ t379 ((rd_T23 l0 x9_2).f0) ((rd_T23 l0 x9_2).f1) t391 t392 _ ?side1 ?side2 A24.out).mono ?_); (case side1 => repeat (first | exact (Kd.R_reads' HO_3.out).2.2 | (with_reducible refine Kd.C_alloc ?_ _) | (with_reducible refine Kd.C_drewN ?_ _) | (with_reducible refine Kd.C_drew ?_))); (case side2 => exact (Kd.R_reads' HO_3.out).2.1); rintro e w27 ⟨rfl, hb⟩; replace HO_3 := dR HO_3 hb; replace HB := bS HB hb; (try clear hb); (try clear hb2); (try clear hk); (try clear hi))); try go_wp2_with (first | (go_at_call 16; (with_reducible refine (polygon_Side.calls k2 _ _ t379 ((rd_T23 l0 x9_2).f0) ((rd_T23 l0 x9_2).f1) t391 t392 _ ?side1 ?side2 A24.out).mono ?_); (case side1 => repeat (first | exact (Kd.R_reads' HO_3.out).2.2 | (with_reducible refine Kd.C_alloc ?_ _) | (with_reducible refine Kd.C_drewN ?_ _) | (with_reducible refine Kd.C_drew ?_))); (case side2 => exact (Kd.R_reads' HO_3.out).2.1); rintro e w27 ⟨rfl, hb⟩; replace HO_3 := dR HO_3 hb; replace HB := bS HB hb; (try clear hb); (try clear hb2); (try clear hk); (try clear hi))))
        go_ret
        exact ⟨sqE, fW HB.out⟩
       rw [if_neg c26] at H
       have c26b0 : decide (t391 < 0) = false := decide_eq_false c26
       clear c26
       have H' := am H
       clear H
       have p390 : 0 ≤ (x9_2 : Int) := of_decide_eq_true (by assumption)
       have q390 : x9_2 < (l0.length : Int) := of_decide_eq_true (by assumption)
       obtain ⟨ad390, e390, hx390_0, hx390_1⟩ := at_T23 HR0.out x9_2 p390 q390
       cases e390
       replace hx390_0 := cl HB hx390_0
       replace hx390_1 := cl HB hx390_1
       replace p390 := eq_true p390
       replace q390 := eq_true q390
       go_wp2_with (first | (go_at_call 16; (with_reducible refine (polygon_Side.calls k2 _ _ t379 ((rd_T23 l0 x9_2).f0) ((rd_T23 l0 x9_2).f1) t391 t392 _ ?side1 ?side2 A24.out).mono ?_); (case side1 => repeat (first | exact (Kd.R_reads' HO_3.out).2.2 | (with_reducible refine Kd.C_alloc ?_ _) | (with_reducible refine Kd.C_drewN ?_ _) | (with_reducible refine Kd.C_drew ?_))); (case side2 => exact (Kd.R_reads' HO_3.out).2.1); rintro e w28 ⟨rfl, hb⟩; replace HO_3 := dR HO_3 hb; replace HB := bS HB hb; (try clear hb); (try clear hb2); (try clear hk); (try clear hi)))
       repeat (go_quiet (first | (go_at_call 16; (with_reducible refine (polygon_Side.calls k2 _ _ t379 ((rd_T23 l0 x9_2).f0) ((rd_T23 l0 x9_2).f1) t391 t392 _ ?side1 ?side2 A24.out).mono ?_); (case side1 => repeat (first | exact (Kd.R_reads' HO_3.out).2.2 | (with_reducible refine Kd.C_alloc ?_ _) | (with_reducible refine Kd.C_drewN ?_ _) | (with_reducible refine Kd.C_drew ?_))); (case side2 => exact (Kd.R_reads' HO_3.out).2.1); rintro e w28 ⟨rfl, hb⟩; replace HO_3 := dR HO_3 hb; replace HB := bS HB hb; (try clear hb); (try clear hb2); (try clear hk); (try clear hi))); try go_wp2_with (first | (go_at_call 16; (with_reducible refine (polygon_Side.calls k2 _ _ t379 ((rd_T23 l0 x9_2).f0) ((rd_T23 l0 x9_2).f1) t391 t392 _ ?side1 ?side2 A24.out).mono ?_); (case side1 => repeat (first | exact (Kd.R_reads' HO_3.out).2.2 | (with_reducible refine Kd.C_alloc ?_ _) | (with_reducible refine Kd.C_drewN ?_ _) | (with_reducible refine Kd.C_drew ?_))); (case side2 => exact (Kd.R_reads' HO_3.out).2.1); rintro e w28 ⟨rfl, hb⟩; replace HO_3 := dR HO_3 hb; replace HB := bS HB hb; (try clear hb); (try clear hb2); (try clear hk); (try clear hi))))
       go_roundg k2
       case measure => have := HJ9.out; have := HK2.out; omega
       case rel => exact ⟨(wrap64 (x9_2 + 1)), sqD, H', ⟨by have := HJ9.out; have := HK2.out; omega⟩, ⟨fR HO_3.out⟩, ⟨fW HB.out⟩⟩
      rw [if_neg c22] at H
      have c22b0 : decide (x9_2 < (l0.length : Int)) = false := decide_eq_false c22
      clear c22
      have H' := am H
      clear H
      go_wp2
      repeat (go_quiet (fail); try go_wp2)
      go_loopg [12] k2 (fun kq v12 w' => ∃ (x12_3 : Int), v12 = .int .i64 x12_3 ∧ Aside0 (w_PolygonHull.l1 kq l0 t379 x12_3 = some r) ∧ Aside0 (kq ≤ k2) ∧ Aside0 (Kd.R k23 23 w' w.heap.size (fun _ => True) (.slice Ao13 t379.length co13) t379) ∧ Aside0 (Below w.heap.size w w'))
      case atStart => exact ⟨(0), sqD, H', ⟨Nat.le_refl _⟩, ⟨fR HO_3.out⟩, ⟨fW HB.out⟩⟩
      case round =>
       clear H'
       try clear c1;try clear c2;try clear p2;try clear c3;try clear p3;try clear q3;try clear hx3;try clear c4;try clear c4b0;try clear c4b1;try clear c6;try clear p6;try clear c7;try clear c7b0;try clear c7b1;try clear c16;try clear c16b0;try clear c16b1;try clear c17;try clear c18;try clear c18b0;try clear c18b1;try clear c21;try clear c22;try clear c22b0;try clear c23;try clear c23b0;try clear c25;try clear c25b0;try clear c25b1;try clear c26;try clear c26b0;try clear hx390_0;try clear hx390_1;try clear p2;try clear p390;try clear q390
       obtain ⟨x12_3, rfl, HA, HK3, HO_3, HB⟩ := hrel
       cases gk with
       | zero => exact absurd HA.out (by simp [w_PolygonHull.l1])
       | succ k3 =>
        have H := HA.out
        clear HA
        simp only [w_PolygonHull.l1] at H
        by_cases c30 : x12_3 < (t379.length : Int)
        rotate_left
        ·rw [if_neg c30] at H
         have c30b0 : decide (x12_3 < (t379.length : Int)) = false := decide_eq_false c30
         clear c30
         obtain rfl := Option.some.inj H
         go_wp2
         repeat (go_quiet (fail); try go_wp2)
         go_ret
         exact ⟨sqE, fW HB.out⟩
        rw [if_pos c30] at H
        have c30b0 : decide (x12_3 < (t379.length : Int)) = true := decide_eq_true c30
        clear c30
        have H' := am H
        clear H
        go_wp2
        repeat (go_quiet (fail); try go_wp2)
        go_loopg [13, 14] k3 (fun kq v13 v14 w' => ∃ (x13_4 : Bool) (x14_4 : Int), v13 = .bool x13_4 ∧ v14 = .int .i64 x14_4 ∧ Aside0 (w_PolygonHull.l2 kq l0 t379 x12_3 x13_4 x14_4 = some r) ∧ Aside0 (kq ≤ k3) ∧ Aside0 (Kd.R k23 23 w' w.heap.size (fun _ => True) (.slice Ao13 t379.length co13) t379) ∧ Aside0 (Below w.heap.size w w'))
        case atStart => exact ⟨(false), (0), sqD, sqD, H', ⟨Nat.le_refl _⟩, ⟨fR HO_3.out⟩, ⟨fW HB.out⟩⟩
        case round =>
         clear H'
         try clear c1;try clear c2;try clear p2;try clear c3;try clear p3;try clear q3;try clear hx3;try clear c4;try clear c4b0;try clear c4b1;try clear c6;try clear p6;try clear c7;try clear c7b0;try clear c7b1;try clear c16;try clear c16b0;try clear c16b1;try clear c17;try clear c18;try clear c18b0;try clear c18b1;try clear c21;try clear c22;try clear c22b0;try clear c23;try clear c23b0;try clear c25;try clear c25b0;try clear c25b1;try clear c26;try clear c26b0;try clear c30;try clear c30b0;try clear hx390_0;try clear hx390_1;try clear p2;try clear p3;try clear p390;try clear p6;try clear q3;try clear q390
         obtain ⟨x13_4, x14_4, rfl, rfl, HA, HK4, HO_3, HB⟩ := hrel
         cases gk with
         | zero => exact absurd HA.out (by simp [w_PolygonHull.l2])
         | succ k4 =>
          have H := HA.out
          clear HA
          simp only [w_PolygonHull.l2] at H
          by_cases c31 : x14_4 < (l0.length : Int)
          rotate_left
          ·rw [if_neg c31] at H
           have c31b0 : decide (x14_4 < (l0.length : Int)) = false := decide_eq_false c31
           clear c31
           by_cases c37 : x13_4 = true
           ·subst c37
            have H1 : (w_PolygonHull.l1 k4 l0 t379 (wrap64 (x12_3 + 1))) = some r := by rw [if_pos rfl] at H; exact H
            clear H
            have H := H1
            clear H1
            have H' := am H
            clear H
            go_wp2
            repeat (go_quiet (fail); try go_wp2)
            go_roundg k4
            case measure => have := HJ9.out; have := HK2.out; have := HK3.out; have := HK4.out; omega
            case rel => exact ⟨(wrap64 (x12_3 + 1)), sqD, H', ⟨by have := HJ9.out; have := HK2.out; have := HK3.out; have := HK4.out; omega⟩, ⟨fR HO_3.out⟩, ⟨fW HB.out⟩⟩
           replace c37 := Bool.eq_false_iff.mpr c37
           subst c37
           have H1 : (some false) = some r := by rw [if_neg (show ¬ (false = true) by decide)] at H; exact H
           clear H
           have H := H1
           clear H1
           obtain rfl := Option.some.inj H
           go_wp2
           repeat (go_quiet (fail); try go_wp2)
           go_ret
           exact ⟨sqE, fW HB.out⟩
          rw [if_pos c31] at H
          have c31b0 : decide (x14_4 < (l0.length : Int)) = true := decide_eq_true c31
          clear c31
          have HC32 := am H
          clear H
          go_upto_block 5 with (fail)
          repeat (go_quiet (fail); go_upto_block 5 with (fail))
          go_cut [13] (fun v13 wc => ∃ (kq : Nat) (x13_31 : Bool), v13 = .bool x13_31 ∧ Aside0 (w_PolygonHull.j4 kq l0 t379 x12_3 x13_31 x14_4 = some r) ∧ Aside0 (kq ≤ k4) ∧ Aside0 (Kd.R k23 23 wc w.heap.size (fun _ => True) (.slice Ao13 t379.length co13) t379) ∧ Aside0 (Below w.heap.size w wc))
          case first =>
           have H := HC32.out
           clear HC32
           by_cases c33 : x13_4 = true
           ·subst c33
            have H1 : (w_PolygonHull.j4 k4 l0 t379 x12_3 true x14_4) = some r := by rw [if_pos rfl] at H; exact H
            clear H
            have H := H1
            clear H1
            have H' := am H
            clear H
            go_wp2
            repeat (go_quiet (fail); try go_wp2)
            go_meet
            case rel => exact ⟨_, (true), sqD, H', ⟨by have := HJ9.out; have := HK2.out; have := HK3.out; have := HK4.out; first | omega | exact Nat.le_refl _⟩, ⟨fR HO_3.out⟩, ⟨fW HB.out⟩⟩
           replace c33 := Bool.eq_false_iff.mpr c33
           subst c33
           have H1 : (if 0 ≤ x14_4 then (if 0 ≤ x12_3 then (if x12_3 < (t379.length : Int) then (w_PolygonHull.j4 k4 l0 t379 x12_3 (((rd_T23 l0 x14_4).f0) == ((rd_T23 t379 x12_3).f0) && (((rd_T23 l0 x14_4).f1) == ((rd_T23 t379 x12_3).f1))) x14_4) else (none)) else (none)) else (none)) = some r := by rw [if_neg (show ¬ (false = true) by decide)] at H; exact H
           clear H
           have H := H1
           clear H1
           by_cases c34 : 0 ≤ x14_4
           rotate_left
           ·rw [if_neg c34] at H
            exact absurd H (by simp)
           rw [if_pos c34] at H
           have c34b0 : decide (0 ≤ x14_4) = true := decide_eq_true c34
           clear c34
           (first | rw [c34b0] | (simp only [i64_w, i32_w]; rw [c34b0]) | skip)
           by_cases c35 : 0 ≤ x12_3
           rotate_left
           ·rw [if_neg c35] at H
            exact absurd H (by simp)
           rw [if_pos c35] at H
           have c35b0 : decide (0 ≤ x12_3) = true := decide_eq_true c35
           clear c35
           by_cases c36 : x12_3 < (t379.length : Int)
           rotate_left
           ·rw [if_neg c36] at H
            exact absurd H (by simp)
           rw [if_pos c36] at H
           have c36b0 : decide (x12_3 < (t379.length : Int)) = true := decide_eq_true c36
           clear c36
           have H' := am H
           clear H
           have p393 : 0 ≤ (x14_4 : Int) := of_decide_eq_true (by assumption)
           have q393 : x14_4 < (l0.length : Int) := of_decide_eq_true (by assumption)
           obtain ⟨ad393, e393, hx393_0, hx393_1⟩ := at_T23 HR0.out x14_4 p393 q393
           cases e393
           replace hx393_0 := cl HB hx393_0
           replace hx393_1 := cl HB hx393_1
           replace p393 := eq_true p393
           replace q393 := eq_true q393
           have p394 : 0 ≤ (x12_3 : Int) := of_decide_eq_true (by assumption)
           have q394 : x12_3 < (t379.length : Int) := of_decide_eq_true (by assumption)
           obtain ⟨ad394, e394, hx394_0, hx394_1⟩ := at_T23 (Kd.R_reads' HO_3.out).2.2 x12_3 p394 q394
           cases e394
           replace p394 := eq_true p394
           replace q394 := eq_true q394
           go_wp2
           repeat (go_quiet (fail); try go_wp2)
           go_meet
           case rel => exact ⟨_, ((((rd_T23 l0 x14_4).f0) == ((rd_T23 t379 x12_3).f0) && (((rd_T23 l0 x14_4).f1) == ((rd_T23 t379 x12_3).f1)))), sqD, H', ⟨by have := HJ9.out; have := HK2.out; have := HK3.out; have := HK4.out; first | omega | exact Nat.le_refl _⟩, ⟨fR HO_3.out⟩, ⟨fW HB.out⟩⟩
          case rest =>
           clear HC32
           try clear c1;try clear c2;try clear p2;try clear c3;try clear p3;try clear q3;try clear hx3;try clear c4;try clear c4b0;try clear c4b1;try clear c6;try clear p6;try clear c7;try clear c7b0;try clear c7b1;try clear c16;try clear c16b0;try clear c16b1;try clear c17;try clear c18;try clear c18b0;try clear c18b1;try clear c21;try clear c22;try clear c22b0;try clear c23;try clear c23b0;try clear c25;try clear c25b0;try clear c25b1;try clear c26;try clear c26b0;try clear c30;try clear c30b0;try clear c31;try clear c31b0;try clear c33;try clear c34;try clear c34b0;try clear c35;try clear c35b0;try clear c36;try clear c36b0;try clear hx390_0;try clear hx390_1;try clear hx393_0;try clear hx393_1;try clear hx394_0;try clear hx394_1;try clear p2;try clear p3;try clear p390;try clear p393;try clear p394;try clear p6;try clear q3;try clear q390;try clear q393;try clear q394
           obtain ⟨kq, x13_31, rfl, HA, HJ31, HO_3, HB⟩ := hcut
           cases kq with
           | zero => exact absurd HA.out (by simp [w_PolygonHull.j4])
           | succ kj31 =>
            have H := HA.out
            clear HA
            simp only [w_PolygonHull.j4] at H
            have H' := am H
            clear H
            go_wp2
            repeat (go_quiet (fail); try go_wp2)
            go_roundg kj31
            case measure => have := HJ9.out; have := HK2.out; have := HK3.out; have := HK4.out; have := HJ31.out; omega
            case rel => exact ⟨(x13_31), (wrap64 (x14_4 + 1)), sqD, sqD, H', ⟨by have := HJ9.out; have := HK2.out; have := HK3.out; have := HK4.out; have := HJ31.out; omega⟩, ⟨fR HO_3.out⟩, ⟨fW HB.out⟩⟩
 ·replace c3 := Bool.eq_false_iff.mpr c3
  subst c3
  have H1 : (some false) = some r := by rw [if_neg (show ¬ (false = true) by decide)] at H; exact H
  clear H
  have H := H1
  clear H1
  obtain rfl := Option.some.inj H
  go_enter Try.func6, Try.ntmps6
  go_wp2_with (first | (go_at_call 11; (with_reducible refine (w_awake.calls k  false _ A2.out).mono ?_); rintro e w41 ⟨rfl, hb⟩; replace HB := bS HB hb; (try clear hb); (try clear hb2); (try clear hk); (try clear hi)))
  repeat (go_quiet (first | (go_at_call 11; (with_reducible refine (w_awake.calls k  false _ A2.out).mono ?_); rintro e w41 ⟨rfl, hb⟩; replace HB := bS HB hb; (try clear hb); (try clear hb2); (try clear hk); (try clear hi))); try go_wp2_with (first | (go_at_call 11; (with_reducible refine (w_awake.calls k  false _ A2.out).mono ?_); rintro e w41 ⟨rfl, hb⟩; replace HB := bS HB hb; (try clear hb); (try clear hb2); (try clear hk); (try clear hi))))
  go_ret
  exact ⟨sqE, fW HB.out⟩

def w_PolygonHull.Pure : Prop := ∀ (l0 : List (S23)), (l0.length ≤ maxLen ∧ ∀ e3_, e3_ ∈ l0 → okS23 e3_) → ∃ k, w_PolygonHull.f k l0 = some true
theorem w_PolygonHull.walk (P_ : w_PolygonHull.Pure) (A0 : Option Addr) (c0 : Nat) (l0 : List (S23)) (w : World) (hr0 : Kd.C k23 w A0 l0.length l0) (hc0 : l0.length ≤ c0) (o0 : (l0.length ≤ maxLen ∧ ∀ e3_, e3_ ∈ l0 → okS23 e3_)) :
  Calls Try.prog 6 #[.slice A0 l0.length c0] w fun e w' => e = .returned (.bool true) ∧ Below w.heap.size w w' := by
 obtain ⟨k, h⟩ := P_ l0 o0
 refine (w_PolygonHull.calls k A0 c0 l0 true w hr0 hc0 h).mono ?_
 rintro e w' ⟨rfl, hd⟩
 exact ⟨rfl, hd⟩

end Go.Proofs.Ytcembjgpcbodcaa.QA
