import Derived.Test.YtcembjgpcbodcaaDPQAx0
import Derived.Test.YtcembjgpcbodcaaDPQAx9
import Derived.Test.YtcembjgpcbodcaaDPQAx10
import Derived.Test.YtcembjgpcbodcaaDPQAx11
import Derived.Test.YtcembjgpcbodcaaDPQAx12
import Derived.Test.YtcembjgpcbodcaaDPQAx13
import Derived.Test.YtcembjgpcbodcaaDPQAx15
import Derived.Test.YtcembjgpcbodcaaDPQAx24
import Derived.Test.YtcembjgpcbodcaaDPQAx26
import Derived.Test.YtcembjgpcbodcaaDPQAx28
import Derived.Test.YtcembjgpcbodcaaDPQAx29
namespace Go.Proofs.Ytcembjgpcbodcaa.QA
open Go.RowKit Go.Proofs.YtcembjgpcbodcaaW.PrintWords Go.Proofs.YtcembjgpcbodcaaW.PrintLast Go.Proofs.YtcembjgpcbodcaaW.PrintMore
open Go.Proofs.YtcembjgpcbodcaaW.PrintWords renaming below_alloc → wa, pw_below_drewN → wN, below_drew1 → wd, below_step → wt, gate_callee → gc
open Aside0 renaming mk → am
attribute [local go_sem] max2_int min2_int max_two min_two max_three min_three max_four min_four
set_option linter.unusedVariables false
set_option linter.unusedSimpArgs false

mutual
def w_PolygonShapes.j1 : Nat → List (S23) → Bool → List (S23) → Int → Bool → Option (Bool)
 | 0, _, _, _, _, _ => none
 | k + 1, x0, x3, x7, x8, x77 => if x77 = true then (some false) else (if x3 = true then (if x8 = 0 then ((r_Canonical.f k x0).bind fun t587 => ((r_Same.f k x7 t587).bind fun t590 => (some t590))) else (some false)) else (if x8 = 10 then (some ((x7.length : Int) == 0)) else (some false)))
def w_PolygonShapes.j0 : Nat → Bool → Option (Bool)
 | 0, _ => none
 | k + 1, x2 => some x2
end
def w_PolygonShapes.f (k : Nat) (l0 : List (S23)) : Option (Bool) := (w_awake.f k).bind fun t574 => (if t574 = true then ((w_few.f k l0).bind fun t575 => (if t575 = true then ((p_Simple.f k l0).bind fun bt576 => ((p_Convex.f k l0).bind fun bt578 => ((p_Canonical.f k l0).bind fun bt580 => ((r_Check.f k l0).bind fun t584 => (if t584 = 0 then (if bt576.2 = 0 then (if bt578.2 = 0 then ((r_Simple.f k l0).bind fun t585 => (if (bt576.1 != t585) = true then (w_PolygonShapes.j1 k l0 bt576.1 bt580.1 bt580.2 true) else ((r_Convex.f k l0).bind fun t586 => (w_PolygonShapes.j1 k l0 bt576.1 bt580.1 bt580.2 (bt578.1 != t586))))) else (w_PolygonShapes.j1 k l0 bt576.1 bt580.1 bt580.2 true)) else (w_PolygonShapes.j1 k l0 bt576.1 bt580.1 bt580.2 true)) else (if bt576.2 = t584 then (if bt578.2 = t584 then (if bt580.2 = t584 then (if bt576.1 = true then (w_PolygonShapes.j0 k false) else (if bt578.1 = true then (w_PolygonShapes.j0 k false) else (w_PolygonShapes.j0 k ((bt580.1.length : Int) == 0)))) else (w_PolygonShapes.j0 k false)) else (w_PolygonShapes.j0 k false)) else (w_PolygonShapes.j0 k false))))))) else (some true))) else (some false))
set_option maxHeartbeats 8000000 in
set_option maxRecDepth 100000 in
theorem w_PolygonShapes.calls (k : Nat) (A0 : Option Addr) (c0 : Nat) (l0 : List (S23)) (r : Bool) (w : World) (hr0 : Kd.C k23 w A0 l0.length l0) (hc0 : l0.length ≤ c0) (h : w_PolygonShapes.f k l0 = some r) :
  Calls Try.prog 10 #[.slice A0 l0.length c0] w fun e w' => e = .returned (.bool r) ∧ Below w.heap.size w w' := by
 have HR0 := am hr0
 have HC0 := am hc0
 clear hr0 hc0
 have HB := am (Below.refl w.heap.size w)
 have H : ((w_awake.f k).bind fun t574 => (if t574 = true then ((w_few.f k l0).bind fun t575 => (if t575 = true then ((p_Simple.f k l0).bind fun bt576 => ((p_Convex.f k l0).bind fun bt578 => ((p_Canonical.f k l0).bind fun bt580 => ((r_Check.f k l0).bind fun t584 => (if t584 = 0 then (if bt576.2 = 0 then (if bt578.2 = 0 then ((r_Simple.f k l0).bind fun t585 => (if (bt576.1 != t585) = true then (w_PolygonShapes.j1 k l0 bt576.1 bt580.1 bt580.2 true) else ((r_Convex.f k l0).bind fun t586 => (w_PolygonShapes.j1 k l0 bt576.1 bt580.1 bt580.2 (bt578.1 != t586))))) else (w_PolygonShapes.j1 k l0 bt576.1 bt580.1 bt580.2 true)) else (w_PolygonShapes.j1 k l0 bt576.1 bt580.1 bt580.2 true)) else (if bt576.2 = t584 then (if bt578.2 = t584 then (if bt580.2 = t584 then (if bt576.1 = true then (w_PolygonShapes.j0 k false) else (if bt578.1 = true then (w_PolygonShapes.j0 k false) else (w_PolygonShapes.j0 k ((bt580.1.length : Int) == 0)))) else (w_PolygonShapes.j0 k false)) else (w_PolygonShapes.j0 k false)) else (w_PolygonShapes.j0 k false))))))) else (some true))) else (some false))) = some r := h
 clear h
 replace H := Option.bind_eq_some_iff.mp H
 obtain ⟨t574, A20, H⟩ := H
 replace H : (if t574 = true then ((w_few.f k l0).bind fun t575 => (if t575 = true then ((p_Simple.f k l0).bind fun bt576 => ((p_Convex.f k l0).bind fun bt578 => ((p_Canonical.f k l0).bind fun bt580 => ((r_Check.f k l0).bind fun t584 => (if t584 = 0 then (if bt576.2 = 0 then (if bt578.2 = 0 then ((r_Simple.f k l0).bind fun t585 => (if (bt576.1 != t585) = true then (w_PolygonShapes.j1 k l0 bt576.1 bt580.1 bt580.2 true) else ((r_Convex.f k l0).bind fun t586 => (w_PolygonShapes.j1 k l0 bt576.1 bt580.1 bt580.2 (bt578.1 != t586))))) else (w_PolygonShapes.j1 k l0 bt576.1 bt580.1 bt580.2 true)) else (w_PolygonShapes.j1 k l0 bt576.1 bt580.1 bt580.2 true)) else (if bt576.2 = t584 then (if bt578.2 = t584 then (if bt580.2 = t584 then (if bt576.1 = true then (w_PolygonShapes.j0 k false) else (if bt578.1 = true then (w_PolygonShapes.j0 k false) else (w_PolygonShapes.j0 k ((bt580.1.length : Int) == 0)))) else (w_PolygonShapes.j0 k false)) else (w_PolygonShapes.j0 k false)) else (w_PolygonShapes.j0 k false))))))) else (some true))) else (some false)) = some r := H
 have A2 := am A20
 clear A20
 by_cases c3 : t574 = true
 ·subst c3
  have H1 : ((w_few.f k l0).bind fun t575 => (if t575 = true then ((p_Simple.f k l0).bind fun bt576 => ((p_Convex.f k l0).bind fun bt578 => ((p_Canonical.f k l0).bind fun bt580 => ((r_Check.f k l0).bind fun t584 => (if t584 = 0 then (if bt576.2 = 0 then (if bt578.2 = 0 then ((r_Simple.f k l0).bind fun t585 => (if (bt576.1 != t585) = true then (w_PolygonShapes.j1 k l0 bt576.1 bt580.1 bt580.2 true) else ((r_Convex.f k l0).bind fun t586 => (w_PolygonShapes.j1 k l0 bt576.1 bt580.1 bt580.2 (bt578.1 != t586))))) else (w_PolygonShapes.j1 k l0 bt576.1 bt580.1 bt580.2 true)) else (w_PolygonShapes.j1 k l0 bt576.1 bt580.1 bt580.2 true)) else (if bt576.2 = t584 then (if bt578.2 = t584 then (if bt580.2 = t584 then (if bt576.1 = true then (w_PolygonShapes.j0 k false) else (if bt578.1 = true then (w_PolygonShapes.j0 k false) else (w_PolygonShapes.j0 k ((bt580.1.length : Int) == 0)))) else (w_PolygonShapes.j0 k false)) else (w_PolygonShapes.j0 k false)) else (w_PolygonShapes.j0 k false))))))) else (some true))) = some r := by rw [if_pos rfl] at H; exact H
  clear H
  have H := H1
  clear H1
  replace H := Option.bind_eq_some_iff.mp H
  obtain ⟨t575, A40, H⟩ := H
  replace H : (if t575 = true then ((p_Simple.f k l0).bind fun bt576 => ((p_Convex.f k l0).bind fun bt578 => ((p_Canonical.f k l0).bind fun bt580 => ((r_Check.f k l0).bind fun t584 => (if t584 = 0 then (if bt576.2 = 0 then (if bt578.2 = 0 then ((r_Simple.f k l0).bind fun t585 => (if (bt576.1 != t585) = true then (w_PolygonShapes.j1 k l0 bt576.1 bt580.1 bt580.2 true) else ((r_Convex.f k l0).bind fun t586 => (w_PolygonShapes.j1 k l0 bt576.1 bt580.1 bt580.2 (bt578.1 != t586))))) else (w_PolygonShapes.j1 k l0 bt576.1 bt580.1 bt580.2 true)) else (w_PolygonShapes.j1 k l0 bt576.1 bt580.1 bt580.2 true)) else (if bt576.2 = t584 then (if bt578.2 = t584 then (if bt580.2 = t584 then (if bt576.1 = true then (w_PolygonShapes.j0 k false) else (if bt578.1 = true then (w_PolygonShapes.j0 k false) else (w_PolygonShapes.j0 k ((bt580.1.length : Int) == 0)))) else (w_PolygonShapes.j0 k false)) else (w_PolygonShapes.j0 k false)) else (w_PolygonShapes.j0 k false))))))) else (some true)) = some r := H
  have A4 := am A40
  clear A40
  by_cases c5 : t575 = true
  rotate_left
  ·replace c5 := Bool.eq_false_iff.mpr c5
   subst c5
   have H1 : (some true) = some r := by rw [if_neg (show ¬ (false = true) by decide)] at H; exact H
   clear H
   have H := H1
   clear H1
   obtain rfl := Option.some.inj H
   go_enter Try.func10, Try.ntmps10
   go_wp2_with (first | ((with_reducible refine gc (f := 11) rfl ?_); refine goesL_ (some 10) rfl rfl Try.func11 (by kernel_rfl) rfl #[] rfl (by (try simp only [pml]); first | done | rfl | (simp only [pdt]; rfl)) ?_; (with_reducible refine (w_awake.calls k  true _ A2.out).mono ?_); rintro e w47 ⟨rfl, hb⟩; refine ⟨_, rfl, ?_⟩; have n0_ := am (wt (by repeat (first | (with_reducible first | exact HB.out | apply wa | apply wN | apply wd) | exact HB.out)) hb); clear HB; have HB := n0_; clear n0_; (try clear hb); (try clear hb2); (try clear hk); (try clear hi)) | ((with_reducible refine gc (f := 15) rfl ?_); refine goesL_ (some 13) rfl rfl Try.func15 (by kernel_rfl) rfl #[.slice A0 l0.length c0] rfl (by (try simp only [pml]); first | done | rfl | (simp only [pdt]; rfl)) ?_; (with_reducible refine (w_few.calls k _ _ l0 false _ ?side1 ?side2 A4.out).mono ?_); (case side1 => repeat (first | exact (Kd.C_below HR0.out HB.out) | (with_reducible refine Kd.C_alloc ?_ _) | (with_reducible refine Kd.C_drewN ?_ _) | (with_reducible refine Kd.C_drew ?_))); (case side2 => exact HC0.out); rintro e w' ⟨rfl, ⟨nd, rfl⟩⟩; refine ⟨_, rfl, ?_⟩))
   go_ret
   exact ⟨by first | rfl | (simp [errW_none, errW_some] <;> rfl) | (simp [*, errW_none, errW_some] <;> rfl), by repeat (first | (with_reducible first | exact HB.out | apply wa | apply wN | apply wd) | exact HB.out)⟩
  subst c5
  have H1 : ((p_Simple.f k l0).bind fun bt576 => ((p_Convex.f k l0).bind fun bt578 => ((p_Canonical.f k l0).bind fun bt580 => ((r_Check.f k l0).bind fun t584 => (if t584 = 0 then (if bt576.2 = 0 then (if bt578.2 = 0 then ((r_Simple.f k l0).bind fun t585 => (if (bt576.1 != t585) = true then (w_PolygonShapes.j1 k l0 bt576.1 bt580.1 bt580.2 true) else ((r_Convex.f k l0).bind fun t586 => (w_PolygonShapes.j1 k l0 bt576.1 bt580.1 bt580.2 (bt578.1 != t586))))) else (w_PolygonShapes.j1 k l0 bt576.1 bt580.1 bt580.2 true)) else (w_PolygonShapes.j1 k l0 bt576.1 bt580.1 bt580.2 true)) else (if bt576.2 = t584 then (if bt578.2 = t584 then (if bt580.2 = t584 then (if bt576.1 = true then (w_PolygonShapes.j0 k false) else (if bt578.1 = true then (w_PolygonShapes.j0 k false) else (w_PolygonShapes.j0 k ((bt580.1.length : Int) == 0)))) else (w_PolygonShapes.j0 k false)) else (w_PolygonShapes.j0 k false)) else (w_PolygonShapes.j0 k false))))))) = some r := by rw [if_pos rfl] at H; exact H
  clear H
  have H := H1
  clear H1
  replace H := Option.bind_eq_some_iff.mp H
  obtain ⟨⟨t576, t577⟩, A60, H⟩ := H
  replace H : ((p_Convex.f k l0).bind fun bt578 => ((p_Canonical.f k l0).bind fun bt580 => ((r_Check.f k l0).bind fun t584 => (if t584 = 0 then (if t577 = 0 then (if bt578.2 = 0 then ((r_Simple.f k l0).bind fun t585 => (if (t576 != t585) = true then (w_PolygonShapes.j1 k l0 t576 bt580.1 bt580.2 true) else ((r_Convex.f k l0).bind fun t586 => (w_PolygonShapes.j1 k l0 t576 bt580.1 bt580.2 (bt578.1 != t586))))) else (w_PolygonShapes.j1 k l0 t576 bt580.1 bt580.2 true)) else (w_PolygonShapes.j1 k l0 t576 bt580.1 bt580.2 true)) else (if t577 = t584 then (if bt578.2 = t584 then (if bt580.2 = t584 then (if t576 = true then (w_PolygonShapes.j0 k false) else (if bt578.1 = true then (w_PolygonShapes.j0 k false) else (w_PolygonShapes.j0 k ((bt580.1.length : Int) == 0)))) else (w_PolygonShapes.j0 k false)) else (w_PolygonShapes.j0 k false)) else (w_PolygonShapes.j0 k false)))))) = some r := H
  have A6 := am A60
  clear A60
  replace H := Option.bind_eq_some_iff.mp H
  obtain ⟨⟨t578, t579⟩, A70, H⟩ := H
  replace H : ((p_Canonical.f k l0).bind fun bt580 => ((r_Check.f k l0).bind fun t584 => (if t584 = 0 then (if t577 = 0 then (if t579 = 0 then ((r_Simple.f k l0).bind fun t585 => (if (t576 != t585) = true then (w_PolygonShapes.j1 k l0 t576 bt580.1 bt580.2 true) else ((r_Convex.f k l0).bind fun t586 => (w_PolygonShapes.j1 k l0 t576 bt580.1 bt580.2 (t578 != t586))))) else (w_PolygonShapes.j1 k l0 t576 bt580.1 bt580.2 true)) else (w_PolygonShapes.j1 k l0 t576 bt580.1 bt580.2 true)) else (if t577 = t584 then (if t579 = t584 then (if bt580.2 = t584 then (if t576 = true then (w_PolygonShapes.j0 k false) else (if t578 = true then (w_PolygonShapes.j0 k false) else (w_PolygonShapes.j0 k ((bt580.1.length : Int) == 0)))) else (w_PolygonShapes.j0 k false)) else (w_PolygonShapes.j0 k false)) else (w_PolygonShapes.j0 k false))))) = some r := H
  have A7 := am A70
  clear A70
  replace H := Option.bind_eq_some_iff.mp H
  obtain ⟨⟨t580, t583⟩, A80, H⟩ := H
  replace H : ((r_Check.f k l0).bind fun t584 => (if t584 = 0 then (if t577 = 0 then (if t579 = 0 then ((r_Simple.f k l0).bind fun t585 => (if (t576 != t585) = true then (w_PolygonShapes.j1 k l0 t576 t580 t583 true) else ((r_Convex.f k l0).bind fun t586 => (w_PolygonShapes.j1 k l0 t576 t580 t583 (t578 != t586))))) else (w_PolygonShapes.j1 k l0 t576 t580 t583 true)) else (w_PolygonShapes.j1 k l0 t576 t580 t583 true)) else (if t577 = t584 then (if t579 = t584 then (if t583 = t584 then (if t576 = true then (w_PolygonShapes.j0 k false) else (if t578 = true then (w_PolygonShapes.j0 k false) else (w_PolygonShapes.j0 k ((t580.length : Int) == 0)))) else (w_PolygonShapes.j0 k false)) else (w_PolygonShapes.j0 k false)) else (w_PolygonShapes.j0 k false)))) = some r := H
  have A8 := am A80
  clear A80
  replace H := Option.bind_eq_some_iff.mp H
  obtain ⟨t584, A90, H⟩ := H
  replace H : (if t584 = 0 then (if t577 = 0 then (if t579 = 0 then ((r_Simple.f k l0).bind fun t585 => (if (t576 != t585) = true then (w_PolygonShapes.j1 k l0 t576 t580 t583 true) else ((r_Convex.f k l0).bind fun t586 => (w_PolygonShapes.j1 k l0 t576 t580 t583 (t578 != t586))))) else (w_PolygonShapes.j1 k l0 t576 t580 t583 true)) else (w_PolygonShapes.j1 k l0 t576 t580 t583 true)) else (if t577 = t584 then (if t579 = t584 then (if t583 = t584 then (if t576 = true then (w_PolygonShapes.j0 k false) else (if t578 = true then (w_PolygonShapes.j0 k false) else (w_PolygonShapes.j0 k ((t580.length : Int) == 0)))) else (w_PolygonShapes.j0 k false)) else (w_PolygonShapes.j0 k false)) else (w_PolygonShapes.j0 k false))) = some r := H
  have A9 := am A90
  clear A90
  by_cases c10 : t584 = 0
  rotate_left
  ·rw [if_neg c10] at H
   have c10b0 : (t584 == 0) = false := beq_eq_false_iff_ne.mpr c10
   have c10b1 : (t584 != 0) = true := bne_iff_ne.mpr c10
   have HC35 := am H
   clear H
   go_enter Try.func10, Try.ntmps10
   go_upto_region 10 with (first | ((with_reducible refine gc (f := 11) rfl ?_); refine goesL_ (some 10) rfl rfl Try.func11 (by kernel_rfl) rfl #[] rfl (by (try simp only [pml]); first | done | rfl | (simp only [pdt]; rfl)) ?_; (with_reducible refine (w_awake.calls k  true _ A2.out).mono ?_); rintro e w36 ⟨rfl, hb⟩; refine ⟨_, rfl, ?_⟩; have n0_ := am (wt (by repeat (first | (with_reducible first | exact HB.out | apply wa | apply wN | apply wd) | exact HB.out)) hb); clear HB; have HB := n0_; clear n0_; (try clear hb); (try clear hb2); (try clear hk); (try clear hi)) | ((with_reducible refine gc (f := 15) rfl ?_); refine goesL_ (some 13) rfl rfl Try.func15 (by kernel_rfl) rfl #[.slice A0 l0.length c0] rfl (by (try simp only [pml]); first | done | rfl | (simp only [pdt]; rfl)) ?_; (with_reducible refine (w_few.calls k _ _ l0 true _ ?side1 ?side2 A4.out).mono ?_); (case side1 => repeat (first | exact (Kd.C_below HR0.out HB.out) | (with_reducible refine Kd.C_alloc ?_ _) | (with_reducible refine Kd.C_drewN ?_ _) | (with_reducible refine Kd.C_drew ?_))); (case side2 => exact HC0.out); rintro e w' ⟨rfl, ⟨nd, rfl⟩⟩; refine ⟨_, rfl, ?_⟩) | ((with_reducible refine gc (f := 32) rfl ?_); refine goesL_ (some 17) rfl rfl Try.func32 (by kernel_rfl) rfl #[.slice A0 l0.length c0] rfl (by (try simp only [pml]); first | done | rfl | (simp only [pdt]; rfl)) ?_; (with_reducible refine (p_Simple.calls k _ _ l0 t576 t577 _ ?side1 ?side2 A6.out).mono ?_); (case side1 => repeat (first | exact (Kd.C_below HR0.out (by repeat (first | (with_reducible first | exact HB.out | apply wa | apply wN | apply wd) | exact HB.out))) | (with_reducible refine Kd.C_alloc ?_ _) | (with_reducible refine Kd.C_drewN ?_ _) | (with_reducible refine Kd.C_drew ?_))); (case side2 => exact HC0.out); rintro e w37 ⟨rfl, hb⟩; refine ⟨_, rfl, ?_⟩; have n0_ := am (wt (by repeat (first | (with_reducible first | exact HB.out | apply wa | apply wN | apply wd) | exact HB.out)) hb); clear HB; have HB := n0_; clear n0_; (try clear hb); (try clear hb2); (try clear hk); (try clear hi)) | ((with_reducible refine gc (f := 24) rfl ?_); refine goesL_ (some 22) rfl rfl Try.func24 (by kernel_rfl) rfl #[.slice A0 l0.length c0] rfl (by (try simp only [pml]); first | done | rfl | (simp only [pdt]; rfl)) ?_; (with_reducible refine (p_Convex.calls k _ _ l0 t578 t579 _ ?side1 ?side2 A7.out).mono ?_); (case side1 => repeat (first | exact (Kd.C_below HR0.out HB.out) | (with_reducible refine Kd.C_alloc ?_ _) | (with_reducible refine Kd.C_drewN ?_ _) | (with_reducible refine Kd.C_drew ?_))); (case side2 => exact HC0.out); rintro e w38 ⟨rfl, hb⟩; refine ⟨_, rfl, ?_⟩; have n0_ := am (wt (by repeat (first | (with_reducible first | exact HB.out | apply wa | apply wN | apply wd) | exact HB.out)) hb); clear HB; have HB := n0_; clear n0_; (try clear hb); (try clear hb2); (try clear hk); (try clear hi)) | ((with_reducible refine gc (f := 33) rfl ?_); refine goesL_ (some 27) rfl rfl Try.func33 (by kernel_rfl) rfl #[.slice A0 l0.length c0] rfl (by (try simp only [pml]); first | done | rfl | (simp only [pdt]; rfl)) ?_; (with_reducible refine (p_Canonical.calls k (fun k_ => k_ < w.heap.size) _ _ l0 t580 t583 _ ?side1 A8.out).mono ?_); (case side1 => exact Kd.V_mk HC0.out (Kd.F_below (Kd.C_F k23_heap HR0.out) (by repeat (first | (with_reducible first | exact HB.out | apply wa | apply wN | apply wd) | exact HB.out)))); rintro e w39 ⟨v581, rfl, ho0, hb⟩; refine ⟨_, rfl, ?_⟩; have n0_ := am (Kd.R_lower (Kd.R_mono (ok' := fun k_ => True) ho0 (fun _ hk_ => trivial)) (below_size (by repeat (first | (with_reducible first | exact HB.out | apply wa | apply wN | apply wd) | exact HB.out)))); have n1_ := am (wt (by repeat (first | (with_reducible first | exact HB.out | apply wa | apply wN | apply wd) | exact HB.out)) hb); clear HB; have HO582 := n0_; have HB := n1_; clear n0_ n1_; (try clear hb); (try clear hb2); (try clear hk); (try clear hi); (try clear ho0)) | ((with_reducible refine gc (f := 17) rfl ?_); refine goesL_ (some 31) rfl rfl Try.func17 (by kernel_rfl) rfl #[.slice A0 l0.length c0] rfl (by (try simp only [pml]); first | done | rfl | (simp only [pdt]; rfl)) ?_; (with_reducible refine (r_Check.calls k _ _ l0 t584 _ ?side1 ?side2 A9.out).mono ?_); (case side1 => repeat (first | exact (Kd.C_below HR0.out HB.out) | (with_reducible refine Kd.C_alloc ?_ _) | (with_reducible refine Kd.C_drewN ?_ _) | (with_reducible refine Kd.C_drew ?_))); (case side2 => exact HC0.out); rintro e w40 ⟨rfl, hb⟩; refine ⟨_, rfl, ?_⟩; have n0_ := am (Kd.R_below (by (with_reducible repeat (first | apply Kd.R_alloc | apply Kd.R_drewN | apply Kd.R_drew)); exact HO582.out) hb); have n1_ := am (wt (by repeat (first | (with_reducible first | exact HB.out | apply wa | apply wN | apply wd) | exact HB.out)) hb); clear HO582 HB; have HO582 := n0_; have HB := n1_; clear n0_ n1_; (try clear hb); (try clear hb2); (try clear hk); (try clear hi)))
   (try simp only [Act.put, psl])
   go_cut [2] (fun v2 wc => ∃ (kq : Nat) (x2_34 : Bool), v2 = .bool x2_34 ∧ Aside0 (w_PolygonShapes.j0 kq x2_34 = some r) ∧ Aside0 (kq ≤ k) ∧ Aside0 (Below w.heap.size w wc))
   case first =>
    have H := HC35.out
    clear HC35
    by_cases c41 : t577 = t584
    rotate_left
    ·rw [if_neg c41] at H
     have c41b0 : (t577 == t584) = false := beq_eq_false_iff_ne.mpr c41
     have c41b1 : (t577 != t584) = true := bne_iff_ne.mpr c41
     (first | rw [c41b0] | (simp only [i64_w, i32_w]; rw [c41b0]) | skip)
     have H' := am H
     clear H
     go_wp2
     go_meet
     case rel => exact ⟨_, (false), (by first | rfl | (simp; done) | (simp [*]; done)), H', ⟨by first | omega | exact Nat.le_refl _⟩, ⟨by repeat (first | (with_reducible first | exact HB.out | apply wa | apply wN | apply wd) | exact HB.out)⟩⟩
    rw [if_pos c41] at H
    have c41b0 : (t577 == t584) = true := beq_iff_eq.mpr c41
    have c41b1 : (t577 != t584) = false := bne_eq_false_iff_eq.mpr c41
    clear c41
    (first | rw [c41b0] | (simp only [i64_w, i32_w]; rw [c41b0]) | skip)
    by_cases c42 : t579 = t584
    rotate_left
    ·rw [if_neg c42] at H
     have c42b0 : (t579 == t584) = false := beq_eq_false_iff_ne.mpr c42
     have c42b1 : (t579 != t584) = true := bne_iff_ne.mpr c42
     have H' := am H
     clear H
     go_wp2
     go_meet
     case rel => exact ⟨_, (false), (by first | rfl | (simp; done) | (simp [*]; done)), H', ⟨by first | omega | exact Nat.le_refl _⟩, ⟨by repeat (first | (with_reducible first | exact HB.out | apply wa | apply wN | apply wd) | exact HB.out)⟩⟩
    rw [if_pos c42] at H
    have c42b0 : (t579 == t584) = true := beq_iff_eq.mpr c42
    have c42b1 : (t579 != t584) = false := bne_eq_false_iff_eq.mpr c42
    clear c42
    by_cases c43 : t583 = t584
    rotate_left
    ·rw [if_neg c43] at H
     have c43b0 : (t583 == t584) = false := beq_eq_false_iff_ne.mpr c43
     have c43b1 : (t583 != t584) = true := bne_iff_ne.mpr c43
     have H' := am H
     clear H
     go_wp2
     go_meet
     case rel => exact ⟨_, (false), (by first | rfl | (simp; done) | (simp [*]; done)), H', ⟨by first | omega | exact Nat.le_refl _⟩, ⟨by repeat (first | (with_reducible first | exact HB.out | apply wa | apply wN | apply wd) | exact HB.out)⟩⟩
    rw [if_pos c43] at H
    have c43b0 : (t583 == t584) = true := beq_iff_eq.mpr c43
    have c43b1 : (t583 != t584) = false := bne_eq_false_iff_eq.mpr c43
    clear c43
    by_cases c44 : t576 = true
    ·subst c44
     have H1 : (w_PolygonShapes.j0 k false) = some r := by rw [if_pos rfl] at H; exact H
     clear H
     have H := H1
     clear H1
     have H' := am H
     clear H
     go_wp2
     go_meet
     case rel => exact ⟨_, (false), (by first | rfl | (simp; done) | (simp [*]; done)), H', ⟨by first | omega | exact Nat.le_refl _⟩, ⟨by repeat (first | (with_reducible first | exact HB.out | apply wa | apply wN | apply wd) | exact HB.out)⟩⟩
    replace c44 := Bool.eq_false_iff.mpr c44
    subst c44
    have H1 : (if t578 = true then (w_PolygonShapes.j0 k false) else (w_PolygonShapes.j0 k ((t580.length : Int) == 0))) = some r := by rw [if_neg (show ¬ (false = true) by decide)] at H; exact H
    clear H
    have H := H1
    clear H1
    by_cases c45 : t578 = true
    ·subst c45
     have H1 : (w_PolygonShapes.j0 k false) = some r := by rw [if_pos rfl] at H; exact H
     clear H
     have H := H1
     clear H1
     have H' := am H
     clear H
     go_wp2
     go_meet
     case rel => exact ⟨_, (false), (by first | rfl | (simp; done) | (simp [*]; done)), H', ⟨by first | omega | exact Nat.le_refl _⟩, ⟨by repeat (first | (with_reducible first | exact HB.out | apply wa | apply wN | apply wd) | exact HB.out)⟩⟩
    replace c45 := Bool.eq_false_iff.mpr c45
    subst c45
    have H1 : (w_PolygonShapes.j0 k ((t580.length : Int) == 0)) = some r := by rw [if_neg (show ¬ (false = true) by decide)] at H; exact H
    clear H
    have H := H1
    clear H1
    have H' := am H
    clear H
    obtain ⟨Ao46, co46, eo46⟩ := Kd.R_slice HO582.out
    subst eo46
    go_wp2
    go_meet
    case rel => exact ⟨_, (((t580.length : Int) == 0)), (by first | rfl | (simp; done) | (simp [*]; done)), H', ⟨by first | omega | exact Nat.le_refl _⟩, ⟨by repeat (first | (with_reducible first | exact HB.out | apply wa | apply wN | apply wd) | exact HB.out)⟩⟩
   case rest =>
    clear HC35
    try clear c1;try clear c2;try clear p2;try clear c3;try clear c4;try clear c5;try clear c10;try clear c10b0;try clear c10b1;try clear c11;try clear c15;try clear c17;try clear c17b0;try clear c17b1;try clear c18;try clear c18b0;try clear c18b1;try clear c20;try clear c20b0;try clear c20b1;try clear c20b2;try clear c24;try clear c25;try clear c26;try clear c27;try clear c27b0;try clear c27b1;try clear c32;try clear c33;try clear c33b0;try clear c33b1;try clear c41;try clear c41b0;try clear c41b1;try clear c42;try clear c42b0;try clear c42b1;try clear c43;try clear c43b0;try clear c43b1;try clear c44;try clear c45;try clear p2
    obtain ⟨kq, x2_34, rfl, HA, HJ34, HB⟩ := hcut
    cases kq with
    | zero => exact absurd HA.out (by simp [w_PolygonShapes.j0])
    | succ kj34 =>
     have H := HA.out
     clear HA
     simp only [w_PolygonShapes.j0] at H
     obtain rfl := Option.some.inj H
     go_wp2
     go_ret
     exact ⟨by first | rfl | (simp [errW_none, errW_some] <;> rfl) | (simp [*, errW_none, errW_some] <;> rfl), by repeat (first | (with_reducible first | exact HB.out | apply wa | apply wN | apply wd) | exact HB.out)⟩
  rw [if_pos c10] at H
  have c10b0 : (t584 == 0) = true := beq_iff_eq.mpr c10
  have c10b1 : (t584 != 0) = false := bne_eq_false_iff_eq.mpr c10
  clear c10
  have HC11 := am H
  clear H
  go_enter Try.func10, Try.ntmps10
  go_upto_region 11 with (first | ((with_reducible refine gc (f := 11) rfl ?_); refine goesL_ (some 10) rfl rfl Try.func11 (by kernel_rfl) rfl #[] rfl (by (try simp only [pml]); first | done | rfl | (simp only [pdt]; rfl)) ?_; (with_reducible refine (w_awake.calls k  true _ A2.out).mono ?_); rintro e w12 ⟨rfl, hb⟩; refine ⟨_, rfl, ?_⟩; have n0_ := am (wt (by repeat (first | (with_reducible first | exact HB.out | apply wa | apply wN | apply wd) | exact HB.out)) hb); clear HB; have HB := n0_; clear n0_; (try clear hb); (try clear hb2); (try clear hk); (try clear hi)) | ((with_reducible refine gc (f := 15) rfl ?_); refine goesL_ (some 13) rfl rfl Try.func15 (by kernel_rfl) rfl #[.slice A0 l0.length c0] rfl (by (try simp only [pml]); first | done | rfl | (simp only [pdt]; rfl)) ?_; (with_reducible refine (w_few.calls k _ _ l0 true _ ?side1 ?side2 A4.out).mono ?_); (case side1 => repeat (first | exact (Kd.C_below HR0.out HB.out) | (with_reducible refine Kd.C_alloc ?_ _) | (with_reducible refine Kd.C_drewN ?_ _) | (with_reducible refine Kd.C_drew ?_))); (case side2 => exact HC0.out); rintro e w' ⟨rfl, ⟨nd, rfl⟩⟩; refine ⟨_, rfl, ?_⟩) | ((with_reducible refine gc (f := 32) rfl ?_); refine goesL_ (some 17) rfl rfl Try.func32 (by kernel_rfl) rfl #[.slice A0 l0.length c0] rfl (by (try simp only [pml]); first | done | rfl | (simp only [pdt]; rfl)) ?_; (with_reducible refine (p_Simple.calls k _ _ l0 t576 t577 _ ?side1 ?side2 A6.out).mono ?_); (case side1 => repeat (first | exact (Kd.C_below HR0.out (by repeat (first | (with_reducible first | exact HB.out | apply wa | apply wN | apply wd) | exact HB.out))) | (with_reducible refine Kd.C_alloc ?_ _) | (with_reducible refine Kd.C_drewN ?_ _) | (with_reducible refine Kd.C_drew ?_))); (case side2 => exact HC0.out); rintro e w13 ⟨rfl, hb⟩; refine ⟨_, rfl, ?_⟩; have n0_ := am (wt (by repeat (first | (with_reducible first | exact HB.out | apply wa | apply wN | apply wd) | exact HB.out)) hb); clear HB; have HB := n0_; clear n0_; (try clear hb); (try clear hb2); (try clear hk); (try clear hi)) | ((with_reducible refine gc (f := 24) rfl ?_); refine goesL_ (some 22) rfl rfl Try.func24 (by kernel_rfl) rfl #[.slice A0 l0.length c0] rfl (by (try simp only [pml]); first | done | rfl | (simp only [pdt]; rfl)) ?_; (with_reducible refine (p_Convex.calls k _ _ l0 t578 t579 _ ?side1 ?side2 A7.out).mono ?_); (case side1 => repeat (first | exact (Kd.C_below HR0.out HB.out) | (with_reducible refine Kd.C_alloc ?_ _) | (with_reducible refine Kd.C_drewN ?_ _) | (with_reducible refine Kd.C_drew ?_))); (case side2 => exact HC0.out); rintro e w14 ⟨rfl, hb⟩; refine ⟨_, rfl, ?_⟩; have n0_ := am (wt (by repeat (first | (with_reducible first | exact HB.out | apply wa | apply wN | apply wd) | exact HB.out)) hb); clear HB; have HB := n0_; clear n0_; (try clear hb); (try clear hb2); (try clear hk); (try clear hi)) | ((with_reducible refine gc (f := 33) rfl ?_); refine goesL_ (some 27) rfl rfl Try.func33 (by kernel_rfl) rfl #[.slice A0 l0.length c0] rfl (by (try simp only [pml]); first | done | rfl | (simp only [pdt]; rfl)) ?_; (with_reducible refine (p_Canonical.calls k (fun k_ => k_ < w.heap.size) _ _ l0 t580 t583 _ ?side1 A8.out).mono ?_); (case side1 => exact Kd.V_mk HC0.out (Kd.F_below (Kd.C_F k23_heap HR0.out) (by repeat (first | (with_reducible first | exact HB.out | apply wa | apply wN | apply wd) | exact HB.out)))); rintro e w15 ⟨v581, rfl, ho0, hb⟩; refine ⟨_, rfl, ?_⟩; have n0_ := am (Kd.R_lower (Kd.R_mono (ok' := fun k_ => True) ho0 (fun _ hk_ => trivial)) (below_size (by repeat (first | (with_reducible first | exact HB.out | apply wa | apply wN | apply wd) | exact HB.out)))); have n1_ := am (wt (by repeat (first | (with_reducible first | exact HB.out | apply wa | apply wN | apply wd) | exact HB.out)) hb); clear HB; have HO582 := n0_; have HB := n1_; clear n0_ n1_; (try clear hb); (try clear hb2); (try clear hk); (try clear hi); (try clear ho0)) | ((with_reducible refine gc (f := 17) rfl ?_); refine goesL_ (some 31) rfl rfl Try.func17 (by kernel_rfl) rfl #[.slice A0 l0.length c0] rfl (by (try simp only [pml]); first | done | rfl | (simp only [pdt]; rfl)) ?_; (with_reducible refine (r_Check.calls k _ _ l0 t584 _ ?side1 ?side2 A9.out).mono ?_); (case side1 => repeat (first | exact (Kd.C_below HR0.out HB.out) | (with_reducible refine Kd.C_alloc ?_ _) | (with_reducible refine Kd.C_drewN ?_ _) | (with_reducible refine Kd.C_drew ?_))); (case side2 => exact HC0.out); rintro e w16 ⟨rfl, hb⟩; refine ⟨_, rfl, ?_⟩; have n0_ := am (Kd.R_below (by (with_reducible repeat (first | apply Kd.R_alloc | apply Kd.R_drewN | apply Kd.R_drew)); exact HO582.out) hb); have n1_ := am (wt (by repeat (first | (with_reducible first | exact HB.out | apply wa | apply wN | apply wd) | exact HB.out)) hb); clear HO582 HB; have HO582 := n0_; have HB := n1_; clear n0_ n1_; (try clear hb); (try clear hb2); (try clear hk); (try clear hi)))
  (try simp only [Act.put, psl])
  go_cut [77] (fun v77 wc => ∃ (kq : Nat) (x77_10 : Bool), v77 = .bool x77_10 ∧ Aside0 (w_PolygonShapes.j1 kq l0 t576 t580 t583 x77_10 = some r) ∧ Aside0 (kq ≤ k) ∧ Aside0 (Kd.R k23 23 wc w.heap.size (fun _ => True) v581 t580) ∧ Aside0 (Below w.heap.size w wc))
  case first =>
   have H := HC11.out
   clear HC11
   by_cases c17 : t577 = 0
   rotate_left
   ·rw [if_neg c17] at H
    have c17b0 : (t577 == 0) = false := beq_eq_false_iff_ne.mpr c17
    have c17b1 : (t577 != 0) = true := bne_iff_ne.mpr c17
    (first | rw [c17b0] | (simp only [i64_w, i32_w]; rw [c17b0]) | skip)
    have H' := am H
    clear H
    go_wp2
    go_meet
    case rel => exact ⟨_, (true), (by first | rfl | (simp; done) | (simp [*]; done)), H', ⟨by first | omega | exact Nat.le_refl _⟩, ⟨by (with_reducible repeat (first | apply Kd.R_alloc | apply Kd.R_drewN | apply Kd.R_drew)); exact HO582.out⟩, ⟨by repeat (first | (with_reducible first | exact HB.out | apply wa | apply wN | apply wd) | exact HB.out)⟩⟩
   rw [if_pos c17] at H
   have c17b0 : (t577 == 0) = true := beq_iff_eq.mpr c17
   have c17b1 : (t577 != 0) = false := bne_eq_false_iff_eq.mpr c17
   clear c17
   (first | rw [c17b0] | (simp only [i64_w, i32_w]; rw [c17b0]) | skip)
   by_cases c18 : t579 = 0
   rotate_left
   ·rw [if_neg c18] at H
    have c18b0 : (t579 == 0) = false := beq_eq_false_iff_ne.mpr c18
    have c18b1 : (t579 != 0) = true := bne_iff_ne.mpr c18
    have H' := am H
    clear H
    go_wp2
    go_meet
    case rel => exact ⟨_, (true), (by first | rfl | (simp; done) | (simp [*]; done)), H', ⟨by first | omega | exact Nat.le_refl _⟩, ⟨by (with_reducible repeat (first | apply Kd.R_alloc | apply Kd.R_drewN | apply Kd.R_drew)); exact HO582.out⟩, ⟨by repeat (first | (with_reducible first | exact HB.out | apply wa | apply wN | apply wd) | exact HB.out)⟩⟩
   rw [if_pos c18] at H
   have c18b0 : (t579 == 0) = true := beq_iff_eq.mpr c18
   have c18b1 : (t579 != 0) = false := bne_eq_false_iff_eq.mpr c18
   clear c18
   replace H := Option.bind_eq_some_iff.mp H
   obtain ⟨t585, A190, H⟩ := H
   replace H : (if (t576 != t585) = true then (w_PolygonShapes.j1 k l0 t576 t580 t583 true) else ((r_Convex.f k l0).bind fun t586 => (w_PolygonShapes.j1 k l0 t576 t580 t583 (t578 != t586)))) = some r := H
   have A19 := am A190
   clear A190
   by_cases c20 : (t576 != t585) = true
   ·rw [if_pos c20] at H
    have c20b0 : (t576 != t585) = true := c20
    (try (have c20b1 : decide (t576 = t585) = false := by simpa using c20))
    (try (have c20b2 : (t576 == t585) = false := by simpa using c20))
    (try (have c20b3 : ¬ (t576 = t585) := by simpa using c20))
    clear c20
    have H' := am H
    clear H
    go_wp2_with (first | (go_at_call 18; (with_reducible refine (r_Simple.calls k _ _ l0 t585 _ ?side1 ?side2 A19.out).mono ?_); (case side1 => repeat (first | exact (Kd.C_below HR0.out HB.out) | (with_reducible refine Kd.C_alloc ?_ _) | (with_reducible refine Kd.C_drewN ?_ _) | (with_reducible refine Kd.C_drew ?_))); (case side2 => exact HC0.out); rintro e w21 ⟨rfl, hb⟩; have n0_ := am (Kd.R_below (by (with_reducible repeat (first | apply Kd.R_alloc | apply Kd.R_drewN | apply Kd.R_drew)); exact HO582.out) hb); have n1_ := am (wt (by repeat (first | (with_reducible first | exact HB.out | apply wa | apply wN | apply wd) | exact HB.out)) hb); clear HO582 HB; have HO582 := n0_; have HB := n1_; clear n0_ n1_; (try clear hb); (try clear hb2); (try clear hk); (try clear hi)))
    go_meet
    case rel => exact ⟨_, (true), (by first | rfl | (simp; done) | (simp [*]; done)), H', ⟨by first | omega | exact Nat.le_refl _⟩, ⟨by (with_reducible repeat (first | apply Kd.R_alloc | apply Kd.R_drewN | apply Kd.R_drew)); exact HO582.out⟩, ⟨by repeat (first | (with_reducible first | exact HB.out | apply wa | apply wN | apply wd) | exact HB.out)⟩⟩
   rw [if_neg c20] at H
   have c20b0 : (t576 != t585) = false := by simpa using c20
   (try (have c20b1 : decide (t576 = t585) = true := by simpa using c20))
   (try (have c20b2 : (t576 == t585) = true := by simpa using c20))
   clear c20
   replace H := Option.bind_eq_some_iff.mp H
   obtain ⟨t586, A220, H⟩ := H
   replace H : (w_PolygonShapes.j1 k l0 t576 t580 t583 (t578 != t586)) = some r := H
   have A22 := am A220
   clear A220
   have H' := am H
   clear H
   go_wp2_with (first | (go_at_call 18; (with_reducible refine (r_Simple.calls k _ _ l0 t585 _ ?side1 ?side2 A19.out).mono ?_); (case side1 => repeat (first | exact (Kd.C_below HR0.out HB.out) | (with_reducible refine Kd.C_alloc ?_ _) | (with_reducible refine Kd.C_drewN ?_ _) | (with_reducible refine Kd.C_drew ?_))); (case side2 => exact HC0.out); rintro e w23 ⟨rfl, hb⟩; have n0_ := am (Kd.R_below (by (with_reducible repeat (first | apply Kd.R_alloc | apply Kd.R_drewN | apply Kd.R_drew)); exact HO582.out) hb); have n1_ := am (wt (by repeat (first | (with_reducible first | exact HB.out | apply wa | apply wN | apply wd) | exact HB.out)) hb); clear HO582 HB; have HO582 := n0_; have HB := n1_; clear n0_ n1_; (try clear hb); (try clear hb2); (try clear hk); (try clear hi)) | (go_at_call 34; (with_reducible refine (r_Convex.calls k _ _ l0 t586 _ ?side1 ?side2 A22.out).mono ?_); (case side1 => repeat (first | exact (Kd.C_below HR0.out HB.out) | (with_reducible refine Kd.C_alloc ?_ _) | (with_reducible refine Kd.C_drewN ?_ _) | (with_reducible refine Kd.C_drew ?_))); (case side2 => exact HC0.out); rintro e w24 ⟨rfl, hb⟩; have n0_ := am (Kd.R_below (by (with_reducible repeat (first | apply Kd.R_alloc | apply Kd.R_drewN | apply Kd.R_drew)); exact HO582.out) hb); have n1_ := am (wt (by repeat (first | (with_reducible first | exact HB.out | apply wa | apply wN | apply wd) | exact HB.out)) hb); clear HO582 HB; have HO582 := n0_; have HB := n1_; clear n0_ n1_; (try clear hb); (try clear hb2); (try clear hk); (try clear hi)))
   go_meet
   case rel => exact ⟨_, ((t578 != t586)), (by first | rfl | (simp; done) | (simp [*]; done)), H', ⟨by first | omega | exact Nat.le_refl _⟩, ⟨by (with_reducible repeat (first | apply Kd.R_alloc | apply Kd.R_drewN | apply Kd.R_drew)); exact HO582.out⟩, ⟨by repeat (first | (with_reducible first | exact HB.out | apply wa | apply wN | apply wd) | exact HB.out)⟩⟩
  case rest =>
   clear HC11
   try clear c1;try clear c2;try clear p2;try clear c3;try clear c5;try clear c10;try clear c10b0;try clear c10b1;try clear c11;try clear c15;try clear c17;try clear c17b0;try clear c17b1;try clear c18;try clear c18b0;try clear c18b1;try clear c20;try clear c20b0;try clear c20b1;try clear c20b2;try clear c24
   obtain ⟨kq, x77_10, rfl, HA, HJ10, HO_7, HB⟩ := hcut
   cases kq with
   | zero => exact absurd HA.out (by simp [w_PolygonShapes.j1])
   | succ kj10 =>
    have H := HA.out
    clear HA
    simp only [w_PolygonShapes.j1] at H
    by_cases c25 : x77_10 = true
    ·subst c25
     have H1 : (some false) = some r := by rw [if_pos rfl] at H; exact H
     clear H
     have H := H1
     clear H1
     obtain rfl := Option.some.inj H
     go_wp2
     go_ret
     exact ⟨by first | rfl | (simp [errW_none, errW_some] <;> rfl) | (simp [*, errW_none, errW_some] <;> rfl), by repeat (first | (with_reducible first | exact HB.out | apply wa | apply wN | apply wd) | exact HB.out)⟩
    replace c25 := Bool.eq_false_iff.mpr c25
    subst c25
    have H1 : (if t576 = true then (if t583 = 0 then ((r_Canonical.f kj10 l0).bind fun t587 => ((r_Same.f kj10 t580 t587).bind fun t590 => (some t590))) else (some false)) else (if t583 = 10 then (some ((t580.length : Int) == 0)) else (some false))) = some r := by rw [if_neg (show ¬ (false = true) by decide)] at H; exact H
    clear H
    have H := H1
    clear H1
    by_cases c26 : t576 = true
    ·subst c26
     have H1 : (if t583 = 0 then ((r_Canonical.f kj10 l0).bind fun t587 => ((r_Same.f kj10 t580 t587).bind fun t590 => (some t590))) else (some false)) = some r := by rw [if_pos rfl] at H; exact H
     clear H
     have H := H1
     clear H1
     by_cases c27 : t583 = 0
     rotate_left
     ·rw [if_neg c27] at H
      have c27b0 : (t583 == 0) = false := beq_eq_false_iff_ne.mpr c27
      have c27b1 : (t583 != 0) = true := bne_iff_ne.mpr c27
      obtain rfl := Option.some.inj H
      go_wp2
      go_ret
      exact ⟨by first | rfl | (simp [errW_none, errW_some] <;> rfl) | (simp [*, errW_none, errW_some] <;> rfl), by repeat (first | (with_reducible first | exact HB.out | apply wa | apply wN | apply wd) | exact HB.out)⟩
     rw [if_pos c27] at H
     have c27b0 : (t583 == 0) = true := beq_iff_eq.mpr c27
     have c27b1 : (t583 != 0) = false := bne_eq_false_iff_eq.mpr c27
     clear c27
     replace H := Option.bind_eq_some_iff.mp H
     obtain ⟨t587, A280, H⟩ := H
     replace H : ((r_Same.f kj10 t580 t587).bind fun t590 => (some t590)) = some r := H
     have A28 := am A280
     clear A280
     replace H := Option.bind_eq_some_iff.mp H
     obtain ⟨t590, A290, H⟩ := H
     replace H : (some t590) = some r := H
     have A29 := am A290
     clear A290
     obtain rfl := Option.some.inj H
     go_wp2_with (first | (go_at_call 35; (with_reducible refine (r_Canonical.calls kj10 (fun k_ => k_ < w.heap.size) _ _ l0 t587 _ ?side1 A28.out).mono ?_); (case side1 => exact Kd.V_mk HC0.out (Kd.F_below (Kd.C_F k23_heap HR0.out) (by repeat (first | (with_reducible first | exact HB.out | apply wa | apply wN | apply wd) | exact HB.out)))); rintro e w30 ⟨v588, rfl, ho0, hb⟩; have n0_ := am (Kd.R_elder' (by (with_reducible repeat (first | apply Kd.R_alloc | apply Kd.R_drewN | apply Kd.R_drew)); exact HO_7.out) (Kd.R_base ho0) hb); have n1_ := am (Kd.R_lower (Kd.R_new' (Kd.R_mono (ok' := fun k_ => True) ho0 (fun _ hk_ => trivial)) (Kd.R_lt (by (with_reducible repeat (first | apply Kd.R_alloc | apply Kd.R_drewN | apply Kd.R_drew)); exact HO_7.out))) (below_size (by repeat (first | (with_reducible first | exact HB.out | apply wa | apply wN | apply wd) | exact HB.out)))); have n2_ := am (wt (by repeat (first | (with_reducible first | exact HB.out | apply wa | apply wN | apply wd) | exact HB.out)) hb); clear HO_7 HB; have HO_7 := n0_; have HO589 := n1_; have HB := n2_; clear n0_ n1_ n2_; (try clear hb); (try clear hb2); (try clear hk); (try clear hi); (try clear ho0); obtain ⟨Ao31, co31, eo31⟩ := Kd.R_slice HO_7.out; subst eo31; obtain ⟨Ao32, co32, eo32⟩ := Kd.R_slice HO589.out; subst eo32) | (go_at_call 22; (with_reducible refine (r_Same.calls kj10 _ _ t580 _ _ t587 t590 _ ?side1 ?side2 ?side3 ?side4 A29.out).mono ?_); (case side1 => repeat (first | exact (Kd.R_reads' HO_7.out).2.2 | (with_reducible refine Kd.C_alloc ?_ _) | (with_reducible refine Kd.C_drewN ?_ _) | (with_reducible refine Kd.C_drew ?_))); (case side2 => exact (Kd.R_reads' HO_7.out).2.1); (case side3 => repeat (first | exact (Kd.R_reads' HO589.out).2.2 | (with_reducible refine Kd.C_alloc ?_ _) | (with_reducible refine Kd.C_drewN ?_ _) | (with_reducible refine Kd.C_drew ?_))); (case side4 => exact (Kd.R_reads' HO589.out).2.1); rintro e w' ⟨rfl, ⟨nd, rfl⟩⟩))
     go_ret
     exact ⟨by first | rfl | (simp [errW_none, errW_some] <;> rfl) | (simp [*, errW_none, errW_some] <;> rfl), by repeat (first | (with_reducible first | exact HB.out | apply wa | apply wN | apply wd) | exact HB.out)⟩
    replace c26 := Bool.eq_false_iff.mpr c26
    subst c26
    have H1 : (if t583 = 10 then (some ((t580.length : Int) == 0)) else (some false)) = some r := by rw [if_neg (show ¬ (false = true) by decide)] at H; exact H
    clear H
    have H := H1
    clear H1
    by_cases c33 : t583 = 10
    ·rw [if_pos c33] at H
     have c33b0 : (t583 == 10) = true := beq_iff_eq.mpr c33
     have c33b1 : (t583 != 10) = false := bne_eq_false_iff_eq.mpr c33
     clear c33
     obtain rfl := Option.some.inj H
     obtain ⟨Ao34, co34, eo34⟩ := Kd.R_slice HO_7.out
     subst eo34
     go_wp2
     go_ret
     exact ⟨by first | rfl | (simp [errW_none, errW_some] <;> rfl) | (simp [*, errW_none, errW_some] <;> rfl), by repeat (first | (with_reducible first | exact HB.out | apply wa | apply wN | apply wd) | exact HB.out)⟩
    rw [if_neg c33] at H
    have c33b0 : (t583 == 10) = false := beq_eq_false_iff_ne.mpr c33
    have c33b1 : (t583 != 10) = true := bne_iff_ne.mpr c33
    obtain rfl := Option.some.inj H
    go_wp2
    go_ret
    exact ⟨by first | rfl | (simp [errW_none, errW_some] <;> rfl) | (simp [*, errW_none, errW_some] <;> rfl), by repeat (first | (with_reducible first | exact HB.out | apply wa | apply wN | apply wd) | exact HB.out)⟩
 ·replace c3 := Bool.eq_false_iff.mpr c3
  subst c3
  have H1 : (some false) = some r := by rw [if_neg (show ¬ (false = true) by decide)] at H; exact H
  clear H
  have H := H1
  clear H1
  obtain rfl := Option.some.inj H
  go_enter Try.func10, Try.ntmps10
  go_wp2_with (first | ((with_reducible refine gc (f := 11) rfl ?_); refine goesL_ (some 10) rfl rfl Try.func11 (by kernel_rfl) rfl #[] rfl (by (try simp only [pml]); first | done | rfl | (simp only [pdt]; rfl)) ?_; (with_reducible refine (w_awake.calls k  false _ A2.out).mono ?_); rintro e w48 ⟨rfl, hb⟩; refine ⟨_, rfl, ?_⟩; have n0_ := am (wt (by repeat (first | (with_reducible first | exact HB.out | apply wa | apply wN | apply wd) | exact HB.out)) hb); clear HB; have HB := n0_; clear n0_; (try clear hb); (try clear hb2); (try clear hk); (try clear hi)))
  go_ret
  exact ⟨by first | rfl | (simp [errW_none, errW_some] <;> rfl) | (simp [*, errW_none, errW_some] <;> rfl), by repeat (first | (with_reducible first | exact HB.out | apply wa | apply wN | apply wd) | exact HB.out)⟩

def w_PolygonShapes.Pure : Prop := ∀ (l0 : List (S23)), (l0.length ≤ maxLen ∧ ∀ e7_, e7_ ∈ l0 → okS23 e7_) → ∃ k, w_PolygonShapes.f k l0 = some true
theorem w_PolygonShapes.walk (P_ : w_PolygonShapes.Pure) (A0 : Option Addr) (c0 : Nat) (l0 : List (S23)) (w : World) (hr0 : Kd.C k23 w A0 l0.length l0) (hc0 : l0.length ≤ c0) (o0 : (l0.length ≤ maxLen ∧ ∀ e7_, e7_ ∈ l0 → okS23 e7_)) :
  Calls Try.prog 10 #[.slice A0 l0.length c0] w fun e w' => e = .returned (.bool true) ∧ Below w.heap.size w w' := by
 obtain ⟨k, h⟩ := P_ l0 o0
 refine (w_PolygonShapes.calls k A0 c0 l0 true w hr0 hc0 h).mono ?_
 rintro e w' ⟨rfl, hd⟩
 exact ⟨rfl, hd⟩

end Go.Proofs.Ytcembjgpcbodcaa.QA
