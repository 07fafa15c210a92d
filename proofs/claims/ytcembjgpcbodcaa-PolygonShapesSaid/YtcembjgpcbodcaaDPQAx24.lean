import Derived.Test.YtcembjgpcbodcaaDPQAx0
import Derived.Test.YtcembjgpcbodcaaDPQAx1
import Derived.Test.YtcembjgpcbodcaaDPQAx2
import Derived.Test.YtcembjgpcbodcaaDPQAx5
import Derived.Test.YtcembjgpcbodcaaDPQAx9
import Derived.Test.YtcembjgpcbodcaaDPQAx10
import Derived.Test.YtcembjgpcbodcaaDPQAx11
import Derived.Test.YtcembjgpcbodcaaDPQAx12
import Derived.Test.YtcembjgpcbodcaaDPQAx13
import Derived.Test.YtcembjgpcbodcaaDPQAx22
import Derived.Test.YtcembjgpcbodcaaDPQAx23
namespace Go.Proofs.Ytcembjgpcbodcaa.QA
open Go.RowKit Go.Proofs.YtcembjgpcbodcaaW.PrintWords Go.Proofs.YtcembjgpcbodcaaW.PrintLast Go.Proofs.YtcembjgpcbodcaaW.PrintMore
open Aside0 renaming mk → am
attribute [local go_sem] max2_int min2_int max_two min_two max_three min_three max_four min_four
set_option linter.unusedVariables false
set_option linter.unusedSimpArgs false

attribute [local go_sem high] eqA23
mutual
def w_PolygonChecks.j0 : Nat → List (S23) → Int → Int → Bool → Int → Int → Int → Int → Option (Bool)
 | 0, _, _, _, _, _, _, _, _ => none
 | k + 1, x0, x3, x4, x50, x442000, x442001, x443000, x443001 => if x50 = true then (some false) else (if x3 = 0 then ((r_Bounds.f k x0).bind fun bt451 => ((r_Area2.f k x0).bind fun t457 => (if x4 = t457 then (if (x442000 == bt451.1 && (x442001 == bt451.2.1)) = true then (w_PolygonChecks.j2 k (x443000 == bt451.2.2.1 && (x443001 == bt451.2.2.2))) else (w_PolygonChecks.j2 k false)) else (w_PolygonChecks.j2 k false)))) else (if x4 = 0 then (if (x442000 == 0 && (x442001 == 0)) = true then (w_PolygonChecks.j1 k (x443000 == 0 && (x443001 == 0))) else (w_PolygonChecks.j1 k false)) else (w_PolygonChecks.j1 k false)))
def w_PolygonChecks.j2 : Nat → Bool → Option (Bool)
 | 0, _ => none
 | k + 1, x2 => some x2
def w_PolygonChecks.j1 : Nat → Bool → Option (Bool)
 | 0, _ => none
 | k + 1, x2 => some x2
end
def w_PolygonChecks.f (k : Nat) (l0 : List (S23)) : Option (Bool) := (w_awake.f k).bind fun t431 => (if t431 = true then ((w_few.f k l0).bind fun t432 => (if t432 = true then ((r_Check.f k l0).bind fun t433 => ((p_Area2.f k l0).bind fun bt434 => ((p_Bounds.f k l0).bind fun bt436 => ((p_Check.f k l0).bind fun t443 => (if t443 = t433 then (if bt434.2 = t433 then (if bt436.2.2.2.2 = t433 then ((p_Reverse.f l0).bind fun t444 => ((r_Reverse.f k l0).bind fun t447 => ((r_Same.f k t444 t447).bind fun t450 => (w_PolygonChecks.j0 k l0 t433 bt434.1 (!t450) bt436.1 bt436.2.1 bt436.2.2.1 bt436.2.2.2.1)))) else (w_PolygonChecks.j0 k l0 t433 bt434.1 true bt436.1 bt436.2.1 bt436.2.2.1 bt436.2.2.2.1)) else (w_PolygonChecks.j0 k l0 t433 bt434.1 true bt436.1 bt436.2.1 bt436.2.2.1 bt436.2.2.2.1)) else (w_PolygonChecks.j0 k l0 t433 bt434.1 true bt436.1 bt436.2.1 bt436.2.2.1 bt436.2.2.2.1)))))) else (some true))) else (some false))
def w_PolygonChecks.Pure : Prop := ∀ (l0 : List (S23)), (l0.length ≤ maxLen ∧ ∀ e4_, e4_ ∈ l0 → okS23 e4_) → ∃ k, w_PolygonChecks.f k l0 = some true
def p_Simple.f (k : Nat) (l0 : List (S23)) : Option (Bool × Int) := (p_check.f k l0 ([] : List (S23))).bind fun t458 => (if t458 = 0 then ((p_simple.f k l0).bind fun t459 => (some (t459, 0))) else (some (false, t458)))
set_option maxHeartbeats 8000000 in
set_option maxRecDepth 100000 in
theorem p_Simple.calls (k : Nat) (A0 : Option Addr) (c0 : Nat) (l0 : List (S23)) (r1 : Bool) (r2 : Int) (w : World) (hr0 : Kd.C k23 w A0 l0.length l0) (hc0 : l0.length ≤ c0) (h : p_Simple.f k l0 = some (r1, r2)) :
  Calls Try.prog 32 #[.slice A0 l0.length c0] w fun e w' => e = .returned (.tuple #[.bool r1, .int .i64 r2]) ∧ Below w.heap.size w w' := by
 have HR0 := am hr0
 have HC0 := am hc0
 clear hr0 hc0
 have HB := am (Below.refl w.heap.size w)
 have H : ((p_check.f k l0 ([] : List (S23))).bind fun t458 => (if t458 = 0 then ((p_simple.f k l0).bind fun t459 => (some (t459, 0))) else (some (false, t458)))) = some (r1, r2) := h
 clear h
 replace H := Option.bind_eq_some_iff.mp H
 obtain ⟨t458, A20, H⟩ := H
 replace H : (if t458 = 0 then ((p_simple.f k l0).bind fun t459 => (some (t459, 0))) else (some (false, t458))) = some (r1, r2) := H
 have A2 := am A20
 clear A20
 by_cases c3 : t458 = 0
 ·rw [if_pos c3] at H
  have c3b0 : (t458 == 0) = true := beq_iff_eq.mpr c3
  have c3b1 : (t458 != 0) = false := bne_eq_false_iff_eq.mpr c3
  clear c3
  replace H := Option.bind_eq_some_iff.mp H
  obtain ⟨t459, A40, H⟩ := H
  replace H : (some (t459, 0)) = some (r1, r2) := H
  have A4 := am A40
  clear A40
  simp only [Option.some.injEq, Prod.mk.injEq] at H
  obtain ⟨rfl, rfl⟩ := H
  go_enter Try.func32, Try.ntmps32
  go_wp2_with (first | ((with_reducible refine gate_callee (f := 38) rfl ?_); refine goesL_ (some 6) rfl rfl Try.func38 (by kernel_rfl) rfl #[.slice A0 l0.length c0, .slice none 0 0] rfl (by (try simp only [pml]); first | done | rfl | (simp only [pdt]; rfl)) ?_; (refine (p_check.calls k _ _ l0 _ _ ([] : List (S23)) t458 _ ?side1 ?side2 ?side3 ?side4 A2.out).mono ?_); (case side1 => repeat (first | exact HR0.out | (with_reducible refine Kd.C_alloc ?_ _) | (with_reducible refine Kd.C_drewN ?_ _) | (with_reducible refine Kd.C_drew ?_))); (case side2 => exact HC0.out); (case side3 => exact Kd.C_nil _ _); (case side4 => exact Nat.le_refl _); rintro e w5 ⟨rfl, hb⟩; refine ⟨_, rfl, ?_⟩; have n0_ := am (below_step (by repeat (first | (with_reducible first | exact HB.out | apply below_alloc | apply pw_below_drewN | apply below_drew1) | exact HB.out)) hb); clear HB; have HB := n0_; clear n0_; (try clear hb); (try clear hb2); (try clear hk); (try clear hi)) | ((with_reducible refine gate_callee (f := 39) rfl ?_); refine goesL_ (some 11) rfl rfl Try.func39 (by kernel_rfl) rfl #[.slice A0 l0.length c0] rfl (by (try simp only [pml]); first | done | rfl | (simp only [pdt]; rfl)) ?_; (with_reducible refine (p_simple.calls k _ _ l0 t459 _ ?side1 ?side2 A4.out).mono ?_); (case side1 => repeat (first | exact (Kd.C_below HR0.out HB.out) | (with_reducible refine Kd.C_alloc ?_ _) | (with_reducible refine Kd.C_drewN ?_ _) | (with_reducible refine Kd.C_drew ?_))); (case side2 => exact HC0.out); rintro e w6 ⟨rfl, hb⟩; refine ⟨_, rfl, ?_⟩; have n0_ := am (below_step (by repeat (first | (with_reducible first | exact HB.out | apply below_alloc | apply pw_below_drewN | apply below_drew1) | exact HB.out)) hb); clear HB; have HB := n0_; clear n0_; (try clear hb); (try clear hb2); (try clear hk); (try clear hi)))
  go_ret2
  exact ⟨by first | rfl | (simp [errW_none, errW_some] <;> rfl) | (simp [*, errW_none, errW_some] <;> rfl), by repeat (first | (with_reducible first | exact HB.out | apply below_alloc | apply pw_below_drewN | apply below_drew1) | exact HB.out)⟩
 ·rw [if_neg c3] at H
  have c3b0 : (t458 == 0) = false := beq_eq_false_iff_ne.mpr c3
  have c3b1 : (t458 != 0) = true := bne_iff_ne.mpr c3
  simp only [Option.some.injEq, Prod.mk.injEq] at H
  obtain ⟨rfl, rfl⟩ := H
  go_enter Try.func32, Try.ntmps32
  go_wp2_with (first | ((with_reducible refine gate_callee (f := 38) rfl ?_); refine goesL_ (some 6) rfl rfl Try.func38 (by kernel_rfl) rfl #[.slice A0 l0.length c0, .slice none 0 0] rfl (by (try simp only [pml]); first | done | rfl | (simp only [pdt]; rfl)) ?_; (refine (p_check.calls k _ _ l0 _ _ ([] : List (S23)) t458 _ ?side1 ?side2 ?side3 ?side4 A2.out).mono ?_); (case side1 => repeat (first | exact HR0.out | (with_reducible refine Kd.C_alloc ?_ _) | (with_reducible refine Kd.C_drewN ?_ _) | (with_reducible refine Kd.C_drew ?_))); (case side2 => exact HC0.out); (case side3 => exact Kd.C_nil _ _); (case side4 => exact Nat.le_refl _); rintro e w7 ⟨rfl, hb⟩; refine ⟨_, rfl, ?_⟩; have n0_ := am (below_step (by repeat (first | (with_reducible first | exact HB.out | apply below_alloc | apply pw_below_drewN | apply below_drew1) | exact HB.out)) hb); clear HB; have HB := n0_; clear n0_; (try clear hb); (try clear hb2); (try clear hk); (try clear hi)))
  go_ret2
  exact ⟨by first | rfl | (simp [errW_none, errW_some] <;> rfl) | (simp [*, errW_none, errW_some] <;> rfl), by repeat (first | (with_reducible first | exact HB.out | apply below_alloc | apply pw_below_drewN | apply below_drew1) | exact HB.out)⟩

end Go.Proofs.Ytcembjgpcbodcaa.QA
