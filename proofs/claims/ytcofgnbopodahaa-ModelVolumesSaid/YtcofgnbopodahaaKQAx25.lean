import Derived.Test.YtcofgnbopodahaaKQAx0
import Derived.Test.YtcofgnbopodahaaKQAx1
import Derived.Test.YtcofgnbopodahaaKQAx8
import Derived.Test.YtcofgnbopodahaaKQAx9
import Derived.Test.YtcofgnbopodahaaKQAx11
import Derived.Test.YtcofgnbopodahaaKQAx13
import Derived.Test.YtcofgnbopodahaaKQAx20
import Derived.Test.YtcofgnbopodahaaKQAx23
import Derived.Test.YtcofgnbopodahaaKQAx24
namespace Go.Proofs.Ytcofgnbopodahaa.QA
open Go.RowKit Go.Proofs.YtcofgnbopodahaaW.PrintWords Go.Proofs.YtcofgnbopodahaaW.PrintLast Go.Proofs.YtcofgnbopodahaaW.PrintMore
open Go.Proofs.YtcofgnbopodahaaW.PrintWords renaming blk_frozen → bf, gate_callee → gc
open Aside0 renaming mk → am
attribute [local go_sem] max2_int min2_int max_two min_two max_three min_three max_four min_four
set_option linter.unusedVariables false
set_option linter.unusedSimpArgs false

attribute [local go_sem high] eqA24
mutual
def w_ModelVolumes.j0 : Nat → List (S68) → Int → Int → Int → Int → Bool → Int → Int → Int → Int → Int → Int → Int → Int → Int → Int → Int → Option (Bool)
 | 0, _, _, _, _, _, _, _, _, _, _, _, _, _, _, _, _, _ => none
 | k + 1, x0, x2, x7, x8, x10, x11, x12, x13, x496000, x496001, x496002, x496003, x496004, x496005, x505000, x505001, x505002 => if x13 = 0 then (if x2 < 0 then (w_ModelVolumes.j1 k x0 x2 x7 x8 x10 x11 x12 x13 true x496000 x496001 x496002 x496003 x496004 x496005 x505000 x505001 x505002) else (w_ModelVolumes.j1 k x0 x2 x7 x8 x10 x11 x12 x13 (decide (x2 > 3)) x496000 x496001 x496002 x496003 x496004 x496005 x505000 x505001 x505002)) else (w_ModelVolumes.j1 k x0 x2 x7 x8 x10 x11 x12 x13 false x496000 x496001 x496002 x496003 x496004 x496005 x505000 x505001 x505002)
def w_ModelVolumes.j1 : Nat → List (S68) → Int → Int → Int → Int → Bool → Int → Int → Bool → Int → Int → Int → Int → Int → Int → Int → Int → Int → Option (Bool)
 | 0, _, _, _, _, _, _, _, _, _, _, _, _, _, _, _, _, _, _ => none
 | k + 1, x0, x2, x7, x8, x10, x11, x12, x13, x59, x496000, x496001, x496002, x496003, x496004, x496005, x505000, x505001, x505002 => if x59 = true then (w_ModelVolumes.j2 k x0 x2 x7 x8 x10 x11 x12 1 x496000 x496001 x496002 x496003 x496004 x496005 x505000 x505001 x505002) else (w_ModelVolumes.j2 k x0 x2 x7 x8 x10 x11 x12 x13 x496000 x496001 x496002 x496003 x496004 x496005 x505000 x505001 x505002)
def w_ModelVolumes.j2 : Nat → List (S68) → Int → Int → Int → Int → Bool → Int → Int → Int → Int → Int → Int → Int → Int → Int → Int → Int → Option (Bool)
 | 0, _, _, _, _, _, _, _, _, _, _, _, _, _, _, _, _, _ => none
 | k + 1, x0, x2, x7, x8, x10, x11, x12, x13, x496000, x496001, x496002, x496003, x496004, x496005, x505000, x505001, x505002 => if x13 = 0 then ((r_Volume.f k x0 x496000 x496001 x496002 x496003 x496004 x496005 x2).bind fun t509 => (if x8 = 0 then (if x7 = t509 then (if x12 = 0 then (w_ModelVolumes.j4 k x0 x2 x10 (x11 != (t509 == (wrap64 ((wrap64 ((wrap64 (x496003 - x496000)) * (wrap64 (x496004 - x496001)))) * (wrap64 (x496005 - x496002)))))) x496000 x496001 x496002 x496003 x496004 x496005 x505000 x505001 x505002) else (w_ModelVolumes.j4 k x0 x2 x10 true x496000 x496001 x496002 x496003 x496004 x496005 x505000 x505001 x505002)) else (w_ModelVolumes.j4 k x0 x2 x10 true x496000 x496001 x496002 x496003 x496004 x496005 x505000 x505001 x505002)) else (w_ModelVolumes.j4 k x0 x2 x10 true x496000 x496001 x496002 x496003 x496004 x496005 x505000 x505001 x505002))) else (if x8 = x13 then (if x10 = x13 then (if x12 = x13 then (if x7 = 0 then (if (x505000 == 0 && (x505001 == 0 && (x505002 == 0))) = true then (w_ModelVolumes.j3 k (!x11)) else (w_ModelVolumes.j3 k false)) else (w_ModelVolumes.j3 k false)) else (w_ModelVolumes.j3 k false)) else (w_ModelVolumes.j3 k false)) else (w_ModelVolumes.j3 k false))
def w_ModelVolumes.j4 : Nat → List (S68) → Int → Int → Bool → Int → Int → Int → Int → Int → Int → Int → Int → Int → Option (Bool)
 | 0, _, _, _, _, _, _, _, _, _, _, _, _, _ => none
 | k + 1, x0, x2, x10, x132, x496000, x496001, x496002, x496003, x496004, x496005, x505000, x505001, x505002 => if x132 = true then (some false) else ((r_First.f k x0 x496000 x496001 x496002 x496003 x496004 x496005 x2).bind fun bt510 => (if bt510.2.2.2 = true then (if x10 = 0 then (some (x505000 == bt510.1 && (x505001 == bt510.2.1 && (x505002 == bt510.2.2.1)))) else (some false)) else (if x10 = 9 then (some (x505000 == 0 && (x505001 == 0 && (x505002 == 0)))) else (some false))))
def w_ModelVolumes.j3 : Nat → Bool → Option (Bool)
 | 0, _ => none
 | k + 1, x6 => some x6
end
def w_ModelVolumes.f (k : Nat) (l0 : List (S68)) (a1_0 : Int) (a1_1 : Int) (a1_2 : Int) (a1_3 : Int) (a1_4 : Int) (a1_5 : Int) (a2 : Int) : Option (Bool) := (w_awake.f).bind fun t496 => (if t496 = true then ((r_Small.f k l0 10).bind fun t497 => (if t497 = true then ((model_Volume.f k l0 a1_0 a1_1 a1_2 a1_3 a1_4 a1_5 a2).bind fun bt498 => ((model_First.f k l0 a1_0 a1_1 a1_2 a1_3 a1_4 a1_5 a2).bind fun bt500 => ((model_All.f k l0 a1_0 a1_1 a1_2 a1_3 a1_4 a1_5 a2).bind fun bt505 => ((r_Check.f k l0).bind fun t507 => (if t507 = 0 then ((r06_Check.f k a1_0 a1_1 a1_2 a1_3 a1_4 a1_5).bind fun t508 => (w_ModelVolumes.j0 k l0 a2 bt498.1 bt498.2 bt500.2.2.2 bt505.1 bt505.2 t508 a1_0 a1_1 a1_2 a1_3 a1_4 a1_5 bt500.1 bt500.2.1 bt500.2.2.1)) else (w_ModelVolumes.j0 k l0 a2 bt498.1 bt498.2 bt500.2.2.2 bt505.1 bt505.2 t507 a1_0 a1_1 a1_2 a1_3 a1_4 a1_5 bt500.1 bt500.2.1 bt500.2.2.1)))))) else (some true))) else (some false))
set_option maxHeartbeats 8000000 in
set_option maxRecDepth 100000 in
theorem w_ModelVolumes.calls (k : Nat) (A0 : Option Addr) (c0 : Nat) (l0 : List (S68)) (a1_0 : Int) (a1_1 : Int) (a1_2 : Int) (a1_3 : Int) (a1_4 : Int) (a1_5 : Int) (a2 : Int) (r : Bool) (w : World) (hr0 : Kd.C k68 w A0 l0.length l0) (hc0 : l0.length ≤ c0) (h : w_ModelVolumes.f k l0 a1_0 a1_1 a1_2 a1_3 a1_4 a1_5 a2 = some r) :
  Calls Try.prog 6 #[.slice A0 l0.length c0, .agg #[.int .i64 a1_0, .int .i64 a1_1, .int .i64 a1_2, .int .i64 a1_3, .int .i64 a1_4, .int .i64 a1_5], .int .i64 a2] w fun e w' => e = .returned (.bool r) ∧ Below w.heap.size w w' := by
 have hu43 := Try.underlying43
 have hu24 := Try.underlying24
 have HR0 := am hr0
 have HC0 := am hc0
 clear hr0 hc0
 have HB := am (Below.refl w.heap.size w)
 have H : ((w_awake.f).bind fun t496 => (if t496 = true then ((r_Small.f k l0 10).bind fun t497 => (if t497 = true then ((model_Volume.f k l0 a1_0 a1_1 a1_2 a1_3 a1_4 a1_5 a2).bind fun bt498 => ((model_First.f k l0 a1_0 a1_1 a1_2 a1_3 a1_4 a1_5 a2).bind fun bt500 => ((model_All.f k l0 a1_0 a1_1 a1_2 a1_3 a1_4 a1_5 a2).bind fun bt505 => ((r_Check.f k l0).bind fun t507 => (if t507 = 0 then ((r06_Check.f k a1_0 a1_1 a1_2 a1_3 a1_4 a1_5).bind fun t508 => (w_ModelVolumes.j0 k l0 a2 bt498.1 bt498.2 bt500.2.2.2 bt505.1 bt505.2 t508 a1_0 a1_1 a1_2 a1_3 a1_4 a1_5 bt500.1 bt500.2.1 bt500.2.2.1)) else (w_ModelVolumes.j0 k l0 a2 bt498.1 bt498.2 bt500.2.2.2 bt505.1 bt505.2 t507 a1_0 a1_1 a1_2 a1_3 a1_4 a1_5 bt500.1 bt500.2.1 bt500.2.2.1)))))) else (some true))) else (some false))) = some r := h
 clear h
 replace H := Option.bind_eq_some_iff.mp H
 obtain ⟨t496, A40, H⟩ := H
 replace H : (if t496 = true then ((r_Small.f k l0 10).bind fun t497 => (if t497 = true then ((model_Volume.f k l0 a1_0 a1_1 a1_2 a1_3 a1_4 a1_5 a2).bind fun bt498 => ((model_First.f k l0 a1_0 a1_1 a1_2 a1_3 a1_4 a1_5 a2).bind fun bt500 => ((model_All.f k l0 a1_0 a1_1 a1_2 a1_3 a1_4 a1_5 a2).bind fun bt505 => ((r_Check.f k l0).bind fun t507 => (if t507 = 0 then ((r06_Check.f k a1_0 a1_1 a1_2 a1_3 a1_4 a1_5).bind fun t508 => (w_ModelVolumes.j0 k l0 a2 bt498.1 bt498.2 bt500.2.2.2 bt505.1 bt505.2 t508 a1_0 a1_1 a1_2 a1_3 a1_4 a1_5 bt500.1 bt500.2.1 bt500.2.2.1)) else (w_ModelVolumes.j0 k l0 a2 bt498.1 bt498.2 bt500.2.2.2 bt505.1 bt505.2 t507 a1_0 a1_1 a1_2 a1_3 a1_4 a1_5 bt500.1 bt500.2.1 bt500.2.2.1)))))) else (some true))) else (some false)) = some r := H
 have A4 := am A40
 clear A40
 by_cases c5 : t496 = true
 ·subst c5
  have H1 : ((r_Small.f k l0 10).bind fun t497 => (if t497 = true then ((model_Volume.f k l0 a1_0 a1_1 a1_2 a1_3 a1_4 a1_5 a2).bind fun bt498 => ((model_First.f k l0 a1_0 a1_1 a1_2 a1_3 a1_4 a1_5 a2).bind fun bt500 => ((model_All.f k l0 a1_0 a1_1 a1_2 a1_3 a1_4 a1_5 a2).bind fun bt505 => ((r_Check.f k l0).bind fun t507 => (if t507 = 0 then ((r06_Check.f k a1_0 a1_1 a1_2 a1_3 a1_4 a1_5).bind fun t508 => (w_ModelVolumes.j0 k l0 a2 bt498.1 bt498.2 bt500.2.2.2 bt505.1 bt505.2 t508 a1_0 a1_1 a1_2 a1_3 a1_4 a1_5 bt500.1 bt500.2.1 bt500.2.2.1)) else (w_ModelVolumes.j0 k l0 a2 bt498.1 bt498.2 bt500.2.2.2 bt505.1 bt505.2 t507 a1_0 a1_1 a1_2 a1_3 a1_4 a1_5 bt500.1 bt500.2.1 bt500.2.2.1)))))) else (some true))) = some r := by rw [if_pos rfl] at H; exact H
  clear H
  have H := H1
  clear H1
  replace H := Option.bind_eq_some_iff.mp H
  obtain ⟨t497, A60, H⟩ := H
  replace H : (if t497 = true then ((model_Volume.f k l0 a1_0 a1_1 a1_2 a1_3 a1_4 a1_5 a2).bind fun bt498 => ((model_First.f k l0 a1_0 a1_1 a1_2 a1_3 a1_4 a1_5 a2).bind fun bt500 => ((model_All.f k l0 a1_0 a1_1 a1_2 a1_3 a1_4 a1_5 a2).bind fun bt505 => ((r_Check.f k l0).bind fun t507 => (if t507 = 0 then ((r06_Check.f k a1_0 a1_1 a1_2 a1_3 a1_4 a1_5).bind fun t508 => (w_ModelVolumes.j0 k l0 a2 bt498.1 bt498.2 bt500.2.2.2 bt505.1 bt505.2 t508 a1_0 a1_1 a1_2 a1_3 a1_4 a1_5 bt500.1 bt500.2.1 bt500.2.2.1)) else (w_ModelVolumes.j0 k l0 a2 bt498.1 bt498.2 bt500.2.2.2 bt505.1 bt505.2 t507 a1_0 a1_1 a1_2 a1_3 a1_4 a1_5 bt500.1 bt500.2.1 bt500.2.2.1)))))) else (some true)) = some r := H
  have A6 := am A60
  clear A60
  by_cases c7 : t497 = true
  rotate_left
  ·replace c7 := Bool.eq_false_iff.mpr c7
   subst c7
   have H1 : (some true) = some r := by rw [if_neg (show ¬ (false = true) by decide)] at H; exact H
   clear H
   have H := H1
   clear H1
   obtain rfl := Option.some.inj H
   go_enter Try.func6, Try.ntmps6
   go_wp2_with (first | ((with_reducible refine gate_dst (N := 4) rfl ?_); refine box_event ?hg (N := 4) ?hd (cs := #[.int .i64 a1_0, .int .i64 a1_1, .int .i64 a1_2, .int .i64 a1_3, .int .i64 a1_4, .int .i64 a1_5]) (t := 43) ?hr ?_; (case hd | hg => rfl); (case hr => first | (go_simp; done) | (go_simp; rfl)); intro gb495 hg w89 hbox hb; have BK495 := am hbox; have GW495 := sG HB hg; have GE495 := sG HB hg; replace HB := bS HB hb; clear hb hbox hg) | ((with_reducible refine gc (f := 10) rfl ?_); refine goesL_ (some 18) rfl rfl Try.func10 (by kernel_rfl) rfl #[] rfl (by (try simp only [pml]); first | done | rfl | (simp only [pdt]; rfl)) ?_; (with_reducible refine (w_awake.calls  true _ A4.out).mono ?_); rintro e w90 ⟨rfl, hb⟩; refine ⟨_, rfl, ?_⟩; replace BK495 := bB BK495 hb; replace HB := bS HB hb; (try clear hb); (try clear hb2); (try clear hk); (try clear hi)) | ((with_reducible refine gc (f := 11) rfl ?_); refine goesL_ (some 21) rfl rfl Try.func11 (by kernel_rfl) rfl #[.slice A0 l0.length c0, .int .i64 10] rfl (by (try simp only [pml]); first | done | rfl | (simp only [pdt]; rfl)) ?_; (with_reducible refine (r_Small.calls k _ _ l0 10 false _ ?side1 ?side2 A6.out).mono ?_); (case side1 => repeat (first | exact (Kd.C_below HR0.out HB.out) | (with_reducible refine Kd.C_alloc ?_ _) | (with_reducible refine Kd.C_drewN ?_ _) | (with_reducible refine Kd.C_drew ?_))); (case side2 => exact HC0.out); rintro e w' ⟨rfl, ⟨nd, rfl⟩⟩; refine ⟨_, rfl, ?_⟩))
   go_ret
   exact ⟨sqE, fW HB.out⟩
  subst c7
  have H1 : ((model_Volume.f k l0 a1_0 a1_1 a1_2 a1_3 a1_4 a1_5 a2).bind fun bt498 => ((model_First.f k l0 a1_0 a1_1 a1_2 a1_3 a1_4 a1_5 a2).bind fun bt500 => ((model_All.f k l0 a1_0 a1_1 a1_2 a1_3 a1_4 a1_5 a2).bind fun bt505 => ((r_Check.f k l0).bind fun t507 => (if t507 = 0 then ((r06_Check.f k a1_0 a1_1 a1_2 a1_3 a1_4 a1_5).bind fun t508 => (w_ModelVolumes.j0 k l0 a2 bt498.1 bt498.2 bt500.2.2.2 bt505.1 bt505.2 t508 a1_0 a1_1 a1_2 a1_3 a1_4 a1_5 bt500.1 bt500.2.1 bt500.2.2.1)) else (w_ModelVolumes.j0 k l0 a2 bt498.1 bt498.2 bt500.2.2.2 bt505.1 bt505.2 t507 a1_0 a1_1 a1_2 a1_3 a1_4 a1_5 bt500.1 bt500.2.1 bt500.2.2.1)))))) = some r := by rw [if_pos rfl] at H; exact H
  clear H
  have H := H1
  clear H1
  replace H := Option.bind_eq_some_iff.mp H
  obtain ⟨⟨t498, t499⟩, A80, H⟩ := H
  replace H : ((model_First.f k l0 a1_0 a1_1 a1_2 a1_3 a1_4 a1_5 a2).bind fun bt500 => ((model_All.f k l0 a1_0 a1_1 a1_2 a1_3 a1_4 a1_5 a2).bind fun bt505 => ((r_Check.f k l0).bind fun t507 => (if t507 = 0 then ((r06_Check.f k a1_0 a1_1 a1_2 a1_3 a1_4 a1_5).bind fun t508 => (w_ModelVolumes.j0 k l0 a2 t498 t499 bt500.2.2.2 bt505.1 bt505.2 t508 a1_0 a1_1 a1_2 a1_3 a1_4 a1_5 bt500.1 bt500.2.1 bt500.2.2.1)) else (w_ModelVolumes.j0 k l0 a2 t498 t499 bt500.2.2.2 bt505.1 bt505.2 t507 a1_0 a1_1 a1_2 a1_3 a1_4 a1_5 bt500.1 bt500.2.1 bt500.2.2.1))))) = some r := H
  have A8 := am A80
  clear A80
  replace H := Option.bind_eq_some_iff.mp H
  obtain ⟨⟨t500, t501, t502, t503⟩, A90, H⟩ := H
  replace H : ((model_All.f k l0 a1_0 a1_1 a1_2 a1_3 a1_4 a1_5 a2).bind fun bt505 => ((r_Check.f k l0).bind fun t507 => (if t507 = 0 then ((r06_Check.f k a1_0 a1_1 a1_2 a1_3 a1_4 a1_5).bind fun t508 => (w_ModelVolumes.j0 k l0 a2 t498 t499 t503 bt505.1 bt505.2 t508 a1_0 a1_1 a1_2 a1_3 a1_4 a1_5 t500 t501 t502)) else (w_ModelVolumes.j0 k l0 a2 t498 t499 t503 bt505.1 bt505.2 t507 a1_0 a1_1 a1_2 a1_3 a1_4 a1_5 t500 t501 t502)))) = some r := H
  have A9 := am A90
  clear A90
  replace H := Option.bind_eq_some_iff.mp H
  obtain ⟨⟨t505, t506⟩, A100, H⟩ := H
  replace H : ((r_Check.f k l0).bind fun t507 => (if t507 = 0 then ((r06_Check.f k a1_0 a1_1 a1_2 a1_3 a1_4 a1_5).bind fun t508 => (w_ModelVolumes.j0 k l0 a2 t498 t499 t503 t505 t506 t508 a1_0 a1_1 a1_2 a1_3 a1_4 a1_5 t500 t501 t502)) else (w_ModelVolumes.j0 k l0 a2 t498 t499 t503 t505 t506 t507 a1_0 a1_1 a1_2 a1_3 a1_4 a1_5 t500 t501 t502))) = some r := H
  have A10 := am A100
  clear A100
  replace H := Option.bind_eq_some_iff.mp H
  obtain ⟨t507, A110, H⟩ := H
  replace H : (if t507 = 0 then ((r06_Check.f k a1_0 a1_1 a1_2 a1_3 a1_4 a1_5).bind fun t508 => (w_ModelVolumes.j0 k l0 a2 t498 t499 t503 t505 t506 t508 a1_0 a1_1 a1_2 a1_3 a1_4 a1_5 t500 t501 t502)) else (w_ModelVolumes.j0 k l0 a2 t498 t499 t503 t505 t506 t507 a1_0 a1_1 a1_2 a1_3 a1_4 a1_5 t500 t501 t502)) = some r := H
  have A11 := am A110
  clear A110
  have HC12 := am H
  clear H
  go_enter Try.func6, Try.ntmps6
  go_upto_if 47 with (first | ((with_reducible refine gate_dst (N := 4) rfl ?_); refine box_event ?hg (N := 4) ?hd (cs := #[.int .i64 a1_0, .int .i64 a1_1, .int .i64 a1_2, .int .i64 a1_3, .int .i64 a1_4, .int .i64 a1_5]) (t := 43) ?hr ?_; (case hd | hg => rfl); (case hr => first | (go_simp; done) | (go_simp; rfl)); intro gb495 hg w13 hbox hb; have BK495 := am hbox; have GW495 := sG HB hg; have GE495 := sG HB hg; replace HB := bS HB hb; clear hb hbox hg) | ((with_reducible refine gc (f := 10) rfl ?_); refine goesL_ (some 18) rfl rfl Try.func10 (by kernel_rfl) rfl #[] rfl (by (try simp only [pml]); first | done | rfl | (simp only [pdt]; rfl)) ?_; (with_reducible refine (w_awake.calls  true _ A4.out).mono ?_); rintro e w14 ⟨rfl, hb⟩; refine ⟨_, rfl, ?_⟩; replace BK495 := bB BK495 hb; replace HB := bS HB hb; (try clear hb); (try clear hb2); (try clear hk); (try clear hi)) | ((with_reducible refine gc (f := 11) rfl ?_); refine goesL_ (some 21) rfl rfl Try.func11 (by kernel_rfl) rfl #[.slice A0 l0.length c0, .int .i64 10] rfl (by (try simp only [pml]); first | done | rfl | (simp only [pdt]; rfl)) ?_; (with_reducible refine (r_Small.calls k _ _ l0 10 true _ ?side1 ?side2 A6.out).mono ?_); (case side1 => repeat (first | exact (Kd.C_below HR0.out HB.out) | (with_reducible refine Kd.C_alloc ?_ _) | (with_reducible refine Kd.C_drewN ?_ _) | (with_reducible refine Kd.C_drew ?_))); (case side2 => exact HC0.out); rintro e w' ⟨rfl, ⟨nd, rfl⟩⟩; refine ⟨_, rfl, ?_⟩; (try (rw [drewN_self w14]; generalize hq_ : World.drewN w14 _ = w14; have n0_ : Aside0 (w14.heap[gb495]? = some (.cells #[.int .i64 a1_0, .int .i64 a1_1, .int .i64 a1_2, .int .i64 a1_3, .int .i64 a1_4, .int .i64 a1_5] 43 (0, 0))) := ⟨by rw [← hq_]; exact (fb BK495.out)⟩; have n1_ : Aside0 (Below w.heap.size w w14) := ⟨by rw [← hq_]; exact (fW HB.out)⟩; clear BK495 HB hq_; have BK495 := n0_; have HB := n1_; clear n0_ n1_)); obtain ⟨_, _, _, _, _, _, _, _, _, _, _, _⟩ := zC6 BK495) | ((with_reducible refine gc (f := 21) rfl ?_); refine goesL_ (some 27) rfl rfl Try.func21 (by kernel_rfl) rfl #[.slice A0 l0.length c0, .agg #[.int .i64 a1_0, .int .i64 a1_1, .int .i64 a1_2, .int .i64 a1_3, .int .i64 a1_4, .int .i64 a1_5], .int .i64 a2] rfl (by (try simp only [pml]); first | done | rfl | (simp only [pdt]; rfl)) ?_; (with_reducible refine (model_Volume.calls k _ _ l0 a1_0 a1_1 a1_2 a1_3 a1_4 a1_5 a2 t498 t499 _ ?side1 ?side2 A8.out).mono ?_); (case side1 => repeat (first | exact (Kd.C_below HR0.out HB.out) | (with_reducible refine Kd.C_alloc ?_ _) | (with_reducible refine Kd.C_drewN ?_ _) | (with_reducible refine Kd.C_drew ?_))); (case side2 => exact HC0.out); rintro e w16 ⟨rfl, hb⟩; refine ⟨_, rfl, ?_⟩; replace BK495 := bB BK495 hb; replace HB := bS HB hb; (try clear hb); (try clear hb2); (try clear hk); (try clear hi); obtain ⟨_, _, _, _, _, _, _, _, _, _, _, _⟩ := zC6 BK495) | ((with_reducible refine gc (f := 22) rfl ?_); refine goesL_ (some 34) rfl rfl Try.func22 (by kernel_rfl) rfl #[.slice A0 l0.length c0, .agg #[.int .i64 a1_0, .int .i64 a1_1, .int .i64 a1_2, .int .i64 a1_3, .int .i64 a1_4, .int .i64 a1_5], .int .i64 a2] rfl (by (try simp only [pml]); first | done | rfl | (simp only [pdt]; rfl)) ?_; (with_reducible refine (model_First.calls k _ _ l0 a1_0 a1_1 a1_2 a1_3 a1_4 a1_5 a2 t500 t501 t502 t503 _ ?side1 ?side2 A9.out).mono ?_); (case side1 => repeat (first | exact (Kd.C_below HR0.out HB.out) | (with_reducible refine Kd.C_alloc ?_ _) | (with_reducible refine Kd.C_drewN ?_ _) | (with_reducible refine Kd.C_drew ?_))); (case side2 => exact HC0.out); rintro e w18 ⟨rfl, hb⟩; refine ⟨_, rfl, ?_⟩; replace BK495 := bB BK495 hb; replace HB := bS HB hb; (try clear hb); (try clear hb2); (try clear hk); (try clear hi)) | ((with_reducible refine gate_dst (N := 9) rfl ?_); refine box_event ?hg (N := 9) ?hd (cs := #[.int .i64 0, .int .i64 0, .int .i64 0]) (t := 24) ?hr ?_; (case hd | hg => rfl); (case hr => first | (go_simp; done) | (go_simp; rfl)); intro gb504 hg w19 hbox hb; have BK504 := am hbox; have GW504 := sG HB hg; have GE504 := sG HB hg; replace HB := bS HB hb; have NB495_504 := nL BK495 hg; have NB504_495 := nG BK495 hg; replace BK495 := bB BK495 hb; clear hb hbox hg; have hnb20 := NB504_495.out; have hnc20 := NB495_504.out; obtain ⟨_, _, _, _, _, _⟩ := zC3 BK504; obtain ⟨_, _, _, _, _, _, _, _, _, _, _, _⟩ := zC6 BK495) | ((with_reducible refine gc (f := 23) rfl ?_); refine goesL_ (some 41) rfl rfl Try.func23 (by kernel_rfl) rfl #[.slice A0 l0.length c0, .agg #[.int .i64 a1_0, .int .i64 a1_1, .int .i64 a1_2, .int .i64 a1_3, .int .i64 a1_4, .int .i64 a1_5], .int .i64 a2] rfl (by (try simp only [pml]); first | done | rfl | (simp only [pdt]; rfl)) ?_; (with_reducible refine (model_All.calls k _ _ l0 a1_0 a1_1 a1_2 a1_3 a1_4 a1_5 a2 t505 t506 _ ?side1 ?side2 A10.out).mono ?_); (case side1 => exact Kd.C_below HR0.out (fW HB.out)); (case side2 => exact HC0.out); rintro e w23 ⟨rfl, hb⟩; refine ⟨_, rfl, ?_⟩; replace BK495 := xC1 (kfC BK495.out) hb; replace BK504 := xC1 (o := .cells #[.int .i64 t500, .int .i64 t501, .int .i64 t502] 24 (0, 0)) (kkC BK504.out) hb; replace HB := bS HB hb; (try clear hb); (try clear hb2); (try clear hk); (try clear hi)) | ((with_reducible refine gc (f := 12) rfl ?_); refine goesL_ (some 45) rfl rfl Try.func12 (by kernel_rfl) rfl #[.slice A0 l0.length c0] rfl (by (try simp only [pml]); first | done | rfl | (simp only [pdt]; rfl)) ?_; (with_reducible refine (r_Check.calls k _ _ l0 t507 _ ?side1 ?side2 A11.out).mono ?_); (case side1 => repeat (first | exact (Kd.C_below HR0.out HB.out) | (with_reducible refine Kd.C_alloc ?_ _) | (with_reducible refine Kd.C_drewN ?_ _) | (with_reducible refine Kd.C_drew ?_))); (case side2 => exact HC0.out); rintro e w24 ⟨rfl, hb⟩; refine ⟨_, rfl, ?_⟩; replace BK495 := bB BK495 hb; replace BK504 := bB BK504 hb; replace HB := bS HB hb; (try clear hb); (try clear hb2); (try clear hk); (try clear hi)))
  (try simp only [Act.put, psl])
  go_cut [13] (fun v13 wc => ∃ (kq : Nat) (x13_11 : Int), v13 = .int .i64 x13_11 ∧ Aside0 (w_ModelVolumes.j0 kq l0 a2 t498 t499 t503 t505 t506 x13_11 a1_0 a1_1 a1_2 a1_3 a1_4 a1_5 t500 t501 t502 = some r) ∧ Aside0 (kq ≤ k) ∧ Aside0 (wc.heap[gb495]? = some (.cells #[.int .i64 a1_0, .int .i64 a1_1, .int .i64 a1_2, .int .i64 a1_3, .int .i64 a1_4, .int .i64 a1_5] 43 (0, 0))) ∧ Aside0 (wc.heap[gb504]? = some (.cells #[.int .i64 t500, .int .i64 t501, .int .i64 t502] 24 (0, 0))) ∧ Aside0 (Below w.heap.size w wc))
  case first =>
   have H := HC12.out
   clear HC12
   by_cases c25 : t507 = 0
   rotate_left
   ·rw [if_neg c25] at H
    have c25b0 : (t507 == 0) = false := beq_eq_false_iff_ne.mpr c25
    have c25b1 : (t507 != 0) = true := bne_iff_ne.mpr c25
    (first | rw [c25b0] | (simp only [i64_w, i32_w]; rw [c25b0]) | skip)
    have H' := am H
    clear H
    go_wp2
    go_meet
    case rel => exact ⟨_, (t507), sqD, H', ⟨by first | omega | exact Nat.le_refl _⟩, ⟨fb BK495.out⟩, ⟨fb BK504.out⟩, ⟨fW HB.out⟩⟩
   rw [if_pos c25] at H
   have c25b0 : (t507 == 0) = true := beq_iff_eq.mpr c25
   have c25b1 : (t507 != 0) = false := bne_eq_false_iff_eq.mpr c25
   clear c25
   (first | rw [c25b0] | (simp only [i64_w, i32_w]; rw [c25b0]) | skip)
   replace H := Option.bind_eq_some_iff.mp H
   obtain ⟨t508, A260, H⟩ := H
   replace H : (w_ModelVolumes.j0 k l0 a2 t498 t499 t503 t505 t506 t508 a1_0 a1_1 a1_2 a1_3 a1_4 a1_5 t500 t501 t502) = some r := H
   have A26 := am A260
   clear A260
   have H' := am H
   clear H
   have hnb27 := NB495_504.out
   have hnc27 := NB504_495.out
   have := yC1 BK495
   have := kC1 BK495
   have := kC2 BK495
   have := kC3 BK495
   have := kC4 BK495
   have := kC5 BK495
   have := bf BK495.out 0
   have := bf BK495.out 1
   have := bf BK495.out 2
   have := bf BK495.out 3
   have := bf BK495.out 4
   have := bf BK495.out 5
   go_wp2_with (first | ((with_reducible refine gc (f := 24) rfl ?_); refine goesL_ (some 49) rfl rfl Try.func24 (by kernel_rfl) rfl #[.agg #[.int .i64 a1_0, .int .i64 a1_1, .int .i64 a1_2, .int .i64 a1_3, .int .i64 a1_4, .int .i64 a1_5]] rfl (by (try simp only [pml]); first | done | rfl | (simp only [pdt]; rfl)) ?_; (with_reducible refine (r06_Check.calls k a1_0 a1_1 a1_2 a1_3 a1_4 a1_5 t508 _ A26.out).mono ?_); rintro e w29 ⟨rfl, hb⟩; refine ⟨_, rfl, ?_⟩; replace BK495 := bB BK495 hb; replace BK504 := bB BK504 hb; replace HB := bS HB hb; (try clear hb); (try clear hb2); (try clear hk); (try clear hi)))
   go_meet
   case rel => exact ⟨_, (t508), sqD, H', ⟨by first | omega | exact Nat.le_refl _⟩, ⟨fb BK495.out⟩, ⟨fb BK504.out⟩, ⟨fW HB.out⟩⟩
  case rest =>
   clear HC12
   try clear c1;try clear c2;try clear p2;try clear c5;try clear c6;try clear c7;try clear c10;try clear c11;try clear c12;try clear c20;try clear c21;try clear c22;try clear c23;try clear c24;try clear c25;try clear c25b0;try clear c25b1;try clear c27
   obtain ⟨kq, x13_11, rfl, HA, HJ11, BK495, BK504, HB⟩ := hcut
   cases kq with
   | zero => exact absurd HA.out (by simp [w_ModelVolumes.j0])
   | succ kj11 =>
    have H := HA.out
    clear HA
    simp only [w_ModelVolumes.j0] at H
    have HC30 := am H
    clear H
    go_upto_region 11 with (fail)
    go_cut [59] (fun v59 wc => ∃ (kq : Nat) (x59_29 : Bool), v59 = .bool x59_29 ∧ Aside0 (w_ModelVolumes.j1 kq l0 a2 t498 t499 t503 t505 t506 x13_11 x59_29 a1_0 a1_1 a1_2 a1_3 a1_4 a1_5 t500 t501 t502 = some r) ∧ Aside0 (kq ≤ kj11) ∧ Aside0 (wc.heap[gb495]? = some (.cells #[.int .i64 a1_0, .int .i64 a1_1, .int .i64 a1_2, .int .i64 a1_3, .int .i64 a1_4, .int .i64 a1_5] 43 (0, 0))) ∧ Aside0 (wc.heap[gb504]? = some (.cells #[.int .i64 t500, .int .i64 t501, .int .i64 t502] 24 (0, 0))) ∧ Aside0 (Below w.heap.size w wc))
    case first =>
     have H := HC30.out
     clear HC30
     by_cases c31 : x13_11 = 0
     rotate_left
     ·rw [if_neg c31] at H
      have c31b0 : (x13_11 == 0) = false := beq_eq_false_iff_ne.mpr c31
      have c31b1 : (x13_11 != 0) = true := bne_iff_ne.mpr c31
      (first | rw [c31b0] | (simp only [i64_w, i32_w]; rw [c31b0]) | skip)
      have H' := am H
      clear H
      go_wp2
      go_meet
      case rel => exact ⟨_, (false), sqD, H', ⟨by have := HJ11.out; first | omega | exact Nat.le_refl _⟩, ⟨fb BK495.out⟩, ⟨fb BK504.out⟩, ⟨fW HB.out⟩⟩
     rw [if_pos c31] at H
     have c31b0 : (x13_11 == 0) = true := beq_iff_eq.mpr c31
     have c31b1 : (x13_11 != 0) = false := bne_eq_false_iff_eq.mpr c31
     clear c31
     (first | rw [c31b0] | (simp only [i64_w, i32_w]; rw [c31b0]) | skip)
     by_cases c32 : a2 < 0
     ·rw [if_pos c32] at H
      have c32b0 : decide (a2 < 0) = true := decide_eq_true c32
      clear c32
      have H' := am H
      clear H
      go_wp2
      go_meet
      case rel => exact ⟨_, (true), sqD, H', ⟨by have := HJ11.out; first | omega | exact Nat.le_refl _⟩, ⟨fb BK495.out⟩, ⟨fb BK504.out⟩, ⟨fW HB.out⟩⟩
     rw [if_neg c32] at H
     have c32b0 : decide (a2 < 0) = false := decide_eq_false c32
     clear c32
     have H' := am H
     clear H
     go_wp2
     go_meet
     case rel => exact ⟨_, (decide (a2 > 3)), sqD, H', ⟨by have := HJ11.out; first | omega | exact Nat.le_refl _⟩, ⟨fb BK495.out⟩, ⟨fb BK504.out⟩, ⟨fW HB.out⟩⟩
    case rest =>
     clear HC30
     try clear c1;try clear c2;try clear p2;try clear c3;try clear c5;try clear c6;try clear c7;try clear c10;try clear c11;try clear c12;try clear c20;try clear c21;try clear c22;try clear c23;try clear c24;try clear c25;try clear c25b0;try clear c25b1;try clear c27;try clear c31;try clear c31b0;try clear c31b1;try clear c32;try clear c32b0;try clear p2
     obtain ⟨kq, x59_29, rfl, HA, HJ29, BK495, BK504, HB⟩ := hcut
     cases kq with
     | zero => exact absurd HA.out (by simp [w_ModelVolumes.j1])
     | succ kj29 =>
      have H := HA.out
      clear HA
      simp only [w_ModelVolumes.j1] at H
      have HC33 := am H
      clear H
      go_upto_if 59 with (fail)
      go_cut [13] (fun v13 wc => ∃ (kq : Nat) (x13_32 : Int), v13 = .int .i64 x13_32 ∧ Aside0 (w_ModelVolumes.j2 kq l0 a2 t498 t499 t503 t505 t506 x13_32 a1_0 a1_1 a1_2 a1_3 a1_4 a1_5 t500 t501 t502 = some r) ∧ Aside0 (kq ≤ kj29) ∧ Aside0 (wc.heap[gb495]? = some (.cells #[.int .i64 a1_0, .int .i64 a1_1, .int .i64 a1_2, .int .i64 a1_3, .int .i64 a1_4, .int .i64 a1_5] 43 (0, 0))) ∧ Aside0 (wc.heap[gb504]? = some (.cells #[.int .i64 t500, .int .i64 t501, .int .i64 t502] 24 (0, 0))) ∧ Aside0 (Below w.heap.size w wc))
      case first =>
       have H := HC33.out
       clear HC33
       by_cases c34 : x59_29 = true
       ·subst c34
        have H1 : (w_ModelVolumes.j2 kj29 l0 a2 t498 t499 t503 t505 t506 1 a1_0 a1_1 a1_2 a1_3 a1_4 a1_5 t500 t501 t502) = some r := by rw [if_pos rfl] at H; exact H
        clear H
        have H := H1
        clear H1
        have H' := am H
        clear H
        go_wp2
        go_meet
        case rel => exact ⟨_, (1), sqD, H', ⟨by have := HJ11.out; have := HJ29.out; first | omega | exact Nat.le_refl _⟩, ⟨fb BK495.out⟩, ⟨fb BK504.out⟩, ⟨fW HB.out⟩⟩
       replace c34 := Bool.eq_false_iff.mpr c34
       subst c34
       have H1 : (w_ModelVolumes.j2 kj29 l0 a2 t498 t499 t503 t505 t506 x13_11 a1_0 a1_1 a1_2 a1_3 a1_4 a1_5 t500 t501 t502) = some r := by rw [if_neg (show ¬ (false = true) by decide)] at H; exact H
       clear H
       have H := H1
       clear H1
       have H' := am H
       clear H
       go_wp2
       go_meet
       case rel => exact ⟨_, (x13_11), sqD, H', ⟨by have := HJ11.out; have := HJ29.out; first | omega | exact Nat.le_refl _⟩, ⟨fb BK495.out⟩, ⟨fb BK504.out⟩, ⟨fW HB.out⟩⟩
      case rest =>
       clear HC33
       try clear c1;try clear c2;try clear p2;try clear c3;try clear c5;try clear c6;try clear c7;try clear c10;try clear c11;try clear c12;try clear c20;try clear c21;try clear c22;try clear c23;try clear c24;try clear c25;try clear c25b0;try clear c25b1;try clear c27;try clear c31;try clear c31b0;try clear c31b1;try clear c32;try clear c32b0;try clear c34;try clear p2
       obtain ⟨kq, x13_32, rfl, HA, HJ32, BK495, BK504, HB⟩ := hcut
       cases kq with
       | zero => exact absurd HA.out (by simp [w_ModelVolumes.j2])
       | succ kj32 =>
        have H := HA.out
        clear HA
        simp only [w_ModelVolumes.j2] at H
        by_cases c35 : x13_32 = 0
        rotate_left
        ·rw [if_neg c35] at H
         have c35b0 : (x13_32 == 0) = false := beq_eq_false_iff_ne.mpr c35
         have c35b1 : (x13_32 != 0) = true := bne_iff_ne.mpr c35
         have HC79 := am H
         clear H
         go_upto_region 14 with (fail)
         go_cut [6] (fun v6 wc => ∃ (kq : Nat) (x6_78 : Bool), v6 = .bool x6_78 ∧ Aside0 (w_ModelVolumes.j3 kq x6_78 = some r) ∧ Aside0 (kq ≤ kj32) ∧ Aside0 (wc.heap[gb495]? = some (.cells #[.int .i64 a1_0, .int .i64 a1_1, .int .i64 a1_2, .int .i64 a1_3, .int .i64 a1_4, .int .i64 a1_5] 43 (0, 0))) ∧ Aside0 (wc.heap[gb504]? = some (.cells #[.int .i64 t500, .int .i64 t501, .int .i64 t502] 24 (0, 0))) ∧ Aside0 (Below w.heap.size w wc))
         case first =>
          have H := HC79.out
          clear HC79
          by_cases c80 : t499 = x13_32
          rotate_left
          ·rw [if_neg c80] at H
           have c80b0 : (t499 == x13_32) = false := beq_eq_false_iff_ne.mpr c80
           have c80b1 : (t499 != x13_32) = true := bne_iff_ne.mpr c80
           (first | rw [c80b0] | (simp only [i64_w, i32_w]; rw [c80b0]) | skip)
           have H' := am H
           clear H
           go_wp2
           go_meet
           case rel => exact ⟨_, (false), sqD, H', ⟨by have := HJ11.out; have := HJ29.out; have := HJ32.out; first | omega | exact Nat.le_refl _⟩, ⟨fb BK495.out⟩, ⟨fb BK504.out⟩, ⟨fW HB.out⟩⟩
          rw [if_pos c80] at H
          have c80b0 : (t499 == x13_32) = true := beq_iff_eq.mpr c80
          have c80b1 : (t499 != x13_32) = false := bne_eq_false_iff_eq.mpr c80
          clear c80
          (first | rw [c80b0] | (simp only [i64_w, i32_w]; rw [c80b0]) | skip)
          by_cases c81 : t503 = x13_32
          rotate_left
          ·rw [if_neg c81] at H
           have c81b0 : (t503 == x13_32) = false := beq_eq_false_iff_ne.mpr c81
           have c81b1 : (t503 != x13_32) = true := bne_iff_ne.mpr c81
           have H' := am H
           clear H
           go_wp2
           go_meet
           case rel => exact ⟨_, (false), sqD, H', ⟨by have := HJ11.out; have := HJ29.out; have := HJ32.out; first | omega | exact Nat.le_refl _⟩, ⟨fb BK495.out⟩, ⟨fb BK504.out⟩, ⟨fW HB.out⟩⟩
          rw [if_pos c81] at H
          have c81b0 : (t503 == x13_32) = true := beq_iff_eq.mpr c81
          have c81b1 : (t503 != x13_32) = false := bne_eq_false_iff_eq.mpr c81
          clear c81
          by_cases c82 : t506 = x13_32
          rotate_left
          ·rw [if_neg c82] at H
           have c82b0 : (t506 == x13_32) = false := beq_eq_false_iff_ne.mpr c82
           have c82b1 : (t506 != x13_32) = true := bne_iff_ne.mpr c82
           have H' := am H
           clear H
           go_wp2
           go_meet
           case rel => exact ⟨_, (false), sqD, H', ⟨by have := HJ11.out; have := HJ29.out; have := HJ32.out; first | omega | exact Nat.le_refl _⟩, ⟨fb BK495.out⟩, ⟨fb BK504.out⟩, ⟨fW HB.out⟩⟩
          rw [if_pos c82] at H
          have c82b0 : (t506 == x13_32) = true := beq_iff_eq.mpr c82
          have c82b1 : (t506 != x13_32) = false := bne_eq_false_iff_eq.mpr c82
          clear c82
          by_cases c83 : t498 = 0
          rotate_left
          ·rw [if_neg c83] at H
           have c83b0 : (t498 == 0) = false := beq_eq_false_iff_ne.mpr c83
           have c83b1 : (t498 != 0) = true := bne_iff_ne.mpr c83
           have H' := am H
           clear H
           go_wp2
           go_meet
           case rel => exact ⟨_, (false), sqD, H', ⟨by have := HJ11.out; have := HJ29.out; have := HJ32.out; first | omega | exact Nat.le_refl _⟩, ⟨fb BK495.out⟩, ⟨fb BK504.out⟩, ⟨fW HB.out⟩⟩
          rw [if_pos c83] at H
          have c83b0 : (t498 == 0) = true := beq_iff_eq.mpr c83
          have c83b1 : (t498 != 0) = false := bne_eq_false_iff_eq.mpr c83
          clear c83
          by_cases c84 : (t500 == 0 && (t501 == 0 && (t502 == 0))) = true
          ·rw [if_pos c84] at H
           have c84b0 : (t500 == 0 && (t501 == 0 && (t502 == 0))) = true := c84
           (try (have c84b1 : decide (t500 = 0 && (t501 == 0 && (t502 == 0))) = true := by simpa using c84))
           (try (have c84b2 : (t500 == 0 && (t501 == 0 && (t502 == 0))) = true := by simpa using c84))
           clear c84
           have H' := am H
           clear H
           have hnb85 := NB504_495.out
           have hnc85 := NB495_504.out
           have := yC1 BK504
           have := kC1 BK504
           have := kC2 BK504
           have := bf BK504.out 0
           have := bf BK504.out 1
           have := bf BK504.out 2
           go_wp2
           go_meet
           case rel => exact ⟨_, (!t505), sqD, H', ⟨by have := HJ11.out; have := HJ29.out; have := HJ32.out; first | omega | exact Nat.le_refl _⟩, ⟨fb BK495.out⟩, ⟨fb BK504.out⟩, ⟨fW HB.out⟩⟩
          rw [if_neg c84] at H
          have c84b0 : (t500 == 0 && (t501 == 0 && (t502 == 0))) = false := by simpa using c84
          (try (have c84b1 : decide (t500 = 0 && (t501 == 0 && (t502 == 0))) = false := by simpa using c84))
          (try (have c84b2 : (t500 == 0 && (t501 == 0 && (t502 == 0))) = false := by simpa using c84))
          (try (have c84b3 : ¬ (t500 = 0 && (t501 == 0 && (t502 == 0))) := by simpa using c84))
          clear c84
          have H' := am H
          clear H
          have hnb87 := NB504_495.out
          have hnc87 := NB495_504.out
          have := yC1 BK504
          have := kC1 BK504
          have := kC2 BK504
          have := bf BK504.out 0
          have := bf BK504.out 1
          have := bf BK504.out 2
          go_wp2
          go_meet
          case rel => exact ⟨_, (false), sqD, H', ⟨by have := HJ11.out; have := HJ29.out; have := HJ32.out; first | omega | exact Nat.le_refl _⟩, ⟨fb BK495.out⟩, ⟨fb BK504.out⟩, ⟨fW HB.out⟩⟩
         case rest =>
          clear HC79
          try clear c1;try clear c2;try clear p2;try clear c3;try clear c4;try clear c5;try clear c6;try clear p6;try clear c7;try clear c8;try clear c10;try clear c11;try clear c12;try clear c20;try clear c21;try clear c22;try clear c23;try clear c24;try clear c25;try clear c25b0;try clear c25b1;try clear c26;try clear c27;try clear c31;try clear c31b0;try clear c31b1;try clear c32;try clear c32b0;try clear c34;try clear c35;try clear c35b0;try clear c35b1;try clear c38;try clear c41;try clear c41b0;try clear c41b1;try clear c42;try clear c42b0;try clear c42b1;try clear c43;try clear c43b0;try clear c43b1;try clear c44;try clear c46;try clear c47;try clear c47b0;try clear c47b1;try clear c48;try clear c52;try clear c53;try clear c56;try clear c60;try clear c61;try clear c63;try clear c63b0;try clear c63b1;try clear c64;try clear p64;try clear c68;try clear c69;try clear c72;try clear c76;try clear c77;try clear c80;try clear c80b0;try clear c80b1;try clear c81;try clear c81b0;try clear c81b1;try clear c82;try clear c82b0;try clear c82b1;try clear c83;try clear c83b0;try clear c83b1;try clear c84;try clear c84b0;try clear c84b1;try clear c84b2;try clear c85;try clear c87;try clear p2;try clear p6
          obtain ⟨kq, x6_78, rfl, HA, HJ78, BK495, BK504, HB⟩ := hcut
          cases kq with
          | zero => exact absurd HA.out (by simp [w_ModelVolumes.j3])
          | succ kj78 =>
           have H := HA.out
           clear HA
           simp only [w_ModelVolumes.j3] at H
           obtain rfl := Option.some.inj H
           go_wp2
           go_ret
           exact ⟨sqE, fW HB.out⟩
        rw [if_pos c35] at H
        have c35b0 : (x13_32 == 0) = true := beq_iff_eq.mpr c35
        have c35b1 : (x13_32 != 0) = false := bne_eq_false_iff_eq.mpr c35
        clear c35
        replace H := Option.bind_eq_some_iff.mp H
        obtain ⟨t509, A360, H⟩ := H
        replace H : (if t499 = 0 then (if t498 = t509 then (if t506 = 0 then (w_ModelVolumes.j4 kj32 l0 a2 t503 (t505 != (t509 == (wrap64 ((wrap64 ((wrap64 (a1_3 - a1_0)) * (wrap64 (a1_4 - a1_1)))) * (wrap64 (a1_5 - a1_2)))))) a1_0 a1_1 a1_2 a1_3 a1_4 a1_5 t500 t501 t502) else (w_ModelVolumes.j4 kj32 l0 a2 t503 true a1_0 a1_1 a1_2 a1_3 a1_4 a1_5 t500 t501 t502)) else (w_ModelVolumes.j4 kj32 l0 a2 t503 true a1_0 a1_1 a1_2 a1_3 a1_4 a1_5 t500 t501 t502)) else (w_ModelVolumes.j4 kj32 l0 a2 t503 true a1_0 a1_1 a1_2 a1_3 a1_4 a1_5 t500 t501 t502)) = some r := H
        have A36 := am A360
        clear A360
        have HC37 := am H
        clear H
        have hnb38 := NB495_504.out
        have hnc38 := NB504_495.out
        have := yC1 BK495
        have := kC1 BK495
        have := kC2 BK495
        have := kC3 BK495
        have := kC4 BK495
        have := kC5 BK495
        have := bf BK495.out 0
        have := bf BK495.out 1
        have := bf BK495.out 2
        have := bf BK495.out 3
        have := bf BK495.out 4
        have := bf BK495.out 5
        go_upto_region 17 with (first | ((with_reducible refine gc (f := 25) rfl ?_); refine goesL_ (some 114) rfl rfl Try.func25 (by kernel_rfl) rfl #[.slice A0 l0.length c0, .agg #[.int .i64 a1_0, .int .i64 a1_1, .int .i64 a1_2, .int .i64 a1_3, .int .i64 a1_4, .int .i64 a1_5], .int .i64 a2] rfl (by (try simp only [pml]); first | done | rfl | (simp only [pdt]; rfl)) ?_; (with_reducible refine (r_Volume.calls kj32 _ _ l0 a1_0 a1_1 a1_2 a1_3 a1_4 a1_5 a2 t509 _ ?side1 ?side2 A36.out).mono ?_); (case side1 => repeat (first | exact (Kd.C_below HR0.out HB.out) | (with_reducible refine Kd.C_alloc ?_ _) | (with_reducible refine Kd.C_drewN ?_ _) | (with_reducible refine Kd.C_drew ?_))); (case side2 => exact HC0.out); rintro e w40 ⟨rfl, hb⟩; refine ⟨_, rfl, ?_⟩; replace BK495 := bB BK495 hb; replace BK504 := bB BK504 hb; replace HB := bS HB hb; (try clear hb); (try clear hb2); (try clear hk); (try clear hi)))
        (try simp only [Act.put, psl])
        go_cut [132] (fun v132 wc => ∃ (kq : Nat) (x132_36 : Bool), v132 = .bool x132_36 ∧ Aside0 (w_ModelVolumes.j4 kq l0 a2 t503 x132_36 a1_0 a1_1 a1_2 a1_3 a1_4 a1_5 t500 t501 t502 = some r) ∧ Aside0 (kq ≤ kj32) ∧ Aside0 (wc.heap[gb495]? = some (.cells #[.int .i64 a1_0, .int .i64 a1_1, .int .i64 a1_2, .int .i64 a1_3, .int .i64 a1_4, .int .i64 a1_5] 43 (0, 0))) ∧ Aside0 (wc.heap[gb504]? = some (.cells #[.int .i64 t500, .int .i64 t501, .int .i64 t502] 24 (0, 0))) ∧ Aside0 (Below w.heap.size w wc))
        case first =>
         have H := HC37.out
         clear HC37
         by_cases c41 : t499 = 0
         rotate_left
         ·rw [if_neg c41] at H
          have c41b0 : (t499 == 0) = false := beq_eq_false_iff_ne.mpr c41
          have c41b1 : (t499 != 0) = true := bne_iff_ne.mpr c41
          (first | rw [c41b0] | (simp only [i64_w, i32_w]; rw [c41b0]) | skip)
          have H' := am H
          clear H
          go_wp2
          go_meet
          case rel => exact ⟨_, (true), sqD, H', ⟨by have := HJ11.out; have := HJ29.out; have := HJ32.out; first | omega | exact Nat.le_refl _⟩, ⟨fb BK495.out⟩, ⟨fb BK504.out⟩, ⟨fW HB.out⟩⟩
         rw [if_pos c41] at H
         have c41b0 : (t499 == 0) = true := beq_iff_eq.mpr c41
         have c41b1 : (t499 != 0) = false := bne_eq_false_iff_eq.mpr c41
         clear c41
         (first | rw [c41b0] | (simp only [i64_w, i32_w]; rw [c41b0]) | skip)
         by_cases c42 : t498 = t509
         rotate_left
         ·rw [if_neg c42] at H
          have c42b0 : (t498 == t509) = false := beq_eq_false_iff_ne.mpr c42
          have c42b1 : (t498 != t509) = true := bne_iff_ne.mpr c42
          have H' := am H
          clear H
          go_wp2
          go_meet
          case rel => exact ⟨_, (true), sqD, H', ⟨by have := HJ11.out; have := HJ29.out; have := HJ32.out; first | omega | exact Nat.le_refl _⟩, ⟨fb BK495.out⟩, ⟨fb BK504.out⟩, ⟨fW HB.out⟩⟩
         rw [if_pos c42] at H
         have c42b0 : (t498 == t509) = true := beq_iff_eq.mpr c42
         have c42b1 : (t498 != t509) = false := bne_eq_false_iff_eq.mpr c42
         clear c42
         by_cases c43 : t506 = 0
         ·rw [if_pos c43] at H
          have c43b0 : (t506 == 0) = true := beq_iff_eq.mpr c43
          have c43b1 : (t506 != 0) = false := bne_eq_false_iff_eq.mpr c43
          clear c43
          have H' := am H
          clear H
          go_wp2
          go_meet
          case rel => exact ⟨_, ((t505 != (t509 == (wrap64 ((wrap64 ((wrap64 (a1_3 - a1_0)) * (wrap64 (a1_4 - a1_1)))) * (wrap64 (a1_5 - a1_2))))))), sqD, H', ⟨by have := HJ11.out; have := HJ29.out; have := HJ32.out; first | omega | exact Nat.le_refl _⟩, ⟨fb BK495.out⟩, ⟨fb BK504.out⟩, ⟨fW HB.out⟩⟩
         rw [if_neg c43] at H
         have c43b0 : (t506 == 0) = false := beq_eq_false_iff_ne.mpr c43
         have c43b1 : (t506 != 0) = true := bne_iff_ne.mpr c43
         have H' := am H
         clear H
         go_wp2
         go_meet
         case rel => exact ⟨_, (true), sqD, H', ⟨by have := HJ11.out; have := HJ29.out; have := HJ32.out; first | omega | exact Nat.le_refl _⟩, ⟨fb BK495.out⟩, ⟨fb BK504.out⟩, ⟨fW HB.out⟩⟩
        case rest =>
         clear HC37
         try clear c1;try clear c2;try clear p2;try clear c3;try clear c4;try clear c5;try clear c6;try clear p6;try clear c7;try clear c10;try clear c11;try clear c12;try clear c20;try clear c21;try clear c22;try clear c23;try clear c24;try clear c25;try clear c25b0;try clear c25b1;try clear c27;try clear c31;try clear c31b0;try clear c31b1;try clear c32;try clear c32b0;try clear c34;try clear c35;try clear c35b0;try clear c35b1;try clear c38;try clear c41;try clear c41b0;try clear c41b1;try clear c42;try clear c42b0;try clear c42b1;try clear c43;try clear c43b0;try clear c43b1;try clear p2
         obtain ⟨kq, x132_36, rfl, HA, HJ36, BK495, BK504, HB⟩ := hcut
         cases kq with
         | zero => exact absurd HA.out (by simp [w_ModelVolumes.j4])
         | succ kj36 =>
          have H := HA.out
          clear HA
          simp only [w_ModelVolumes.j4] at H
          by_cases c44 : x132_36 = true
          ·subst c44
           have H1 : (some false) = some r := by rw [if_pos rfl] at H; exact H
           clear H
           have H := H1
           clear H1
           obtain rfl := Option.some.inj H
           go_wp2
           go_ret
           exact ⟨sqE, fW HB.out⟩
          replace c44 := Bool.eq_false_iff.mpr c44
          subst c44
          have H1 : ((r_First.f kj36 l0 a1_0 a1_1 a1_2 a1_3 a1_4 a1_5 a2).bind fun bt510 => (if bt510.2.2.2 = true then (if t503 = 0 then (some (t500 == bt510.1 && (t501 == bt510.2.1 && (t502 == bt510.2.2.1)))) else (some false)) else (if t503 = 9 then (some (t500 == 0 && (t501 == 0 && (t502 == 0)))) else (some false)))) = some r := by rw [if_neg (show ¬ (false = true) by decide)] at H; exact H
          clear H
          have H := H1
          clear H1
          replace H := Option.bind_eq_some_iff.mp H
          obtain ⟨⟨t510, t511, t512, t513⟩, A450, H⟩ := H
          replace H : (if t513 = true then (if t503 = 0 then (some (t500 == t510 && (t501 == t511 && (t502 == t512)))) else (some false)) else (if t503 = 9 then (some (t500 == 0 && (t501 == 0 && (t502 == 0)))) else (some false))) = some r := H
          have A45 := am A450
          clear A450
          by_cases c46 : t513 = true
          ·subst c46
           have H1 : (if t503 = 0 then (some (t500 == t510 && (t501 == t511 && (t502 == t512)))) else (some false)) = some r := by rw [if_pos rfl] at H; exact H
           clear H
           have H := H1
           clear H1
           by_cases c47 : t503 = 0
           ·rw [if_pos c47] at H
            have c47b0 : (t503 == 0) = true := beq_iff_eq.mpr c47
            have c47b1 : (t503 != 0) = false := bne_eq_false_iff_eq.mpr c47
            clear c47
            obtain rfl := Option.some.inj H
            have hnb48 := NB495_504.out
            have hnc48 := NB504_495.out
            have := yC1 BK495
            have := kC1 BK495
            have := kC2 BK495
            have := kC3 BK495
            have := kC4 BK495
            have := kC5 BK495
            have := bf BK495.out 0
            have := bf BK495.out 1
            have := bf BK495.out 2
            have := bf BK495.out 3
            have := bf BK495.out 4
            have := bf BK495.out 5
            go_wp2_with (first | ((with_reducible refine gc (f := 26) rfl ?_); refine goesL_ (some 137) rfl rfl Try.func26 (by kernel_rfl) rfl #[.slice A0 l0.length c0, .agg #[.int .i64 a1_0, .int .i64 a1_1, .int .i64 a1_2, .int .i64 a1_3, .int .i64 a1_4, .int .i64 a1_5], .int .i64 a2] rfl (by (try simp only [pml]); first | done | rfl | (simp only [pdt]; rfl)) ?_; (with_reducible refine (r_First.calls kj36 _ _ l0 a1_0 a1_1 a1_2 a1_3 a1_4 a1_5 a2 t510 t511 t512 true _ ?side1 ?side2 A45.out).mono ?_); (case side1 => repeat (first | exact (Kd.C_below HR0.out HB.out) | (with_reducible refine Kd.C_alloc ?_ _) | (with_reducible refine Kd.C_drewN ?_ _) | (with_reducible refine Kd.C_drew ?_))); (case side2 => exact HC0.out); rintro e w50 ⟨rfl, hb⟩; refine ⟨_, rfl, ?_⟩; replace BK495 := bB BK495 hb; replace BK504 := bB BK504 hb; replace HB := bS HB hb; (try clear hb); (try clear hb2); (try clear hk); (try clear hi)) | ((with_reducible refine gate_dst (N := 16) rfl ?_); refine box_event ?hg (N := 16) ?hd (cs := #[.int .i64 0, .int .i64 0, .int .i64 0]) (t := 24) ?hr ?_; (case hd | hg => rfl); (case hr => first | (go_simp; done) | (go_simp; rfl)); intro gb514 hg w51 hbox hb; have BK514 := am hbox; have GW514 := sG HB hg; have GE514 := sG HB hg; replace HB := bS HB hb; have NB495_514 := nL BK495 hg; have NB514_495 := nG BK495 hg; replace BK495 := bB BK495 hb; have NB504_514 := nL BK504 hg; have NB514_504 := nG BK504 hg; replace BK504 := bB BK504 hb; clear hb hbox hg; have hnb52 := NB514_495.out; have hnc52 := NB495_514.out; have hnb53 := NB514_504.out; have hnc53 := NB504_514.out; obtain ⟨_, _, _, _, _, _⟩ := zC3 BK514; obtain ⟨_, _, _, _, _, _⟩ := zC3 BK504))
            go_ret
            exact ⟨sqE, fW HB.out⟩
           rw [if_neg c47] at H
           have c47b0 : (t503 == 0) = false := beq_eq_false_iff_ne.mpr c47
           have c47b1 : (t503 != 0) = true := bne_iff_ne.mpr c47
           obtain rfl := Option.some.inj H
           have hnb56 := NB495_504.out
           have hnc56 := NB504_495.out
           have := yC1 BK495
           have := kC1 BK495
           have := kC2 BK495
           have := kC3 BK495
           have := kC4 BK495
           have := kC5 BK495
           have := bf BK495.out 0
           have := bf BK495.out 1
           have := bf BK495.out 2
           have := bf BK495.out 3
           have := bf BK495.out 4
           have := bf BK495.out 5
           go_wp2_with (first | ((with_reducible refine gc (f := 26) rfl ?_); refine goesL_ (some 137) rfl rfl Try.func26 (by kernel_rfl) rfl #[.slice A0 l0.length c0, .agg #[.int .i64 a1_0, .int .i64 a1_1, .int .i64 a1_2, .int .i64 a1_3, .int .i64 a1_4, .int .i64 a1_5], .int .i64 a2] rfl (by (try simp only [pml]); first | done | rfl | (simp only [pdt]; rfl)) ?_; (with_reducible refine (r_First.calls kj36 _ _ l0 a1_0 a1_1 a1_2 a1_3 a1_4 a1_5 a2 t510 t511 t512 true _ ?side1 ?side2 A45.out).mono ?_); (case side1 => repeat (first | exact (Kd.C_below HR0.out HB.out) | (with_reducible refine Kd.C_alloc ?_ _) | (with_reducible refine Kd.C_drewN ?_ _) | (with_reducible refine Kd.C_drew ?_))); (case side2 => exact HC0.out); rintro e w58 ⟨rfl, hb⟩; refine ⟨_, rfl, ?_⟩; replace BK495 := bB BK495 hb; replace BK504 := bB BK504 hb; replace HB := bS HB hb; (try clear hb); (try clear hb2); (try clear hk); (try clear hi)) | ((with_reducible refine gate_dst (N := 16) rfl ?_); refine box_event ?hg (N := 16) ?hd (cs := #[.int .i64 0, .int .i64 0, .int .i64 0]) (t := 24) ?hr ?_; (case hd | hg => rfl); (case hr => first | (go_simp; done) | (go_simp; rfl)); intro gb514 hg w59 hbox hb; have BK514 := am hbox; have GW514 := sG HB hg; have GE514 := sG HB hg; replace HB := bS HB hb; have NB495_514 := nL BK495 hg; have NB514_495 := nG BK495 hg; replace BK495 := bB BK495 hb; have NB504_514 := nL BK504 hg; have NB514_504 := nG BK504 hg; replace BK504 := bB BK504 hb; clear hb hbox hg; have hnb60 := NB514_495.out; have hnc60 := NB495_514.out; have hnb61 := NB514_504.out; have hnc61 := NB504_514.out; obtain ⟨_, _, _, _, _, _⟩ := zC3 BK514))
           go_ret
           exact ⟨sqE, fW HB.out⟩
          replace c46 := Bool.eq_false_iff.mpr c46
          subst c46
          have H1 : (if t503 = 9 then (some (t500 == 0 && (t501 == 0 && (t502 == 0)))) else (some false)) = some r := by rw [if_neg (show ¬ (false = true) by decide)] at H; exact H
          clear H
          have H := H1
          clear H1
          by_cases c63 : t503 = 9
          ·rw [if_pos c63] at H
           have c63b0 : (t503 == 9) = true := beq_iff_eq.mpr c63
           have c63b1 : (t503 != 9) = false := bne_eq_false_iff_eq.mpr c63
           clear c63
           obtain rfl := Option.some.inj H
           have hnb64 := NB495_504.out
           have hnc64 := NB504_495.out
           have := yC1 BK495
           have := kC1 BK495
           have := kC2 BK495
           have := kC3 BK495
           have := kC4 BK495
           have := kC5 BK495
           have := bf BK495.out 0
           have := bf BK495.out 1
           have := bf BK495.out 2
           have := bf BK495.out 3
           have := bf BK495.out 4
           have := bf BK495.out 5
           go_wp2_with (first | ((with_reducible refine gc (f := 26) rfl ?_); refine goesL_ (some 137) rfl rfl Try.func26 (by kernel_rfl) rfl #[.slice A0 l0.length c0, .agg #[.int .i64 a1_0, .int .i64 a1_1, .int .i64 a1_2, .int .i64 a1_3, .int .i64 a1_4, .int .i64 a1_5], .int .i64 a2] rfl (by (try simp only [pml]); first | done | rfl | (simp only [pdt]; rfl)) ?_; (with_reducible refine (r_First.calls kj36 _ _ l0 a1_0 a1_1 a1_2 a1_3 a1_4 a1_5 a2 t510 t511 t512 false _ ?side1 ?side2 A45.out).mono ?_); (case side1 => repeat (first | exact (Kd.C_below HR0.out HB.out) | (with_reducible refine Kd.C_alloc ?_ _) | (with_reducible refine Kd.C_drewN ?_ _) | (with_reducible refine Kd.C_drew ?_))); (case side2 => exact HC0.out); rintro e w66 ⟨rfl, hb⟩; refine ⟨_, rfl, ?_⟩; replace BK495 := bB BK495 hb; replace BK504 := bB BK504 hb; replace HB := bS HB hb; (try clear hb); (try clear hb2); (try clear hk); (try clear hi)) | ((with_reducible refine gate_dst (N := 16) rfl ?_); refine box_event ?hg (N := 16) ?hd (cs := #[.int .i64 0, .int .i64 0, .int .i64 0]) (t := 24) ?hr ?_; (case hd | hg => rfl); (case hr => first | (go_simp; done) | (go_simp; rfl)); intro gb514 hg w67 hbox hb; have BK514 := am hbox; have GW514 := sG HB hg; have GE514 := sG HB hg; replace HB := bS HB hb; have NB495_514 := nL BK495 hg; have NB514_495 := nG BK495 hg; replace BK495 := bB BK495 hb; have NB504_514 := nL BK504 hg; have NB514_504 := nG BK504 hg; replace BK504 := bB BK504 hb; clear hb hbox hg; have hnb68 := NB514_495.out; have hnc68 := NB495_514.out; have hnb69 := NB514_504.out; have hnc69 := NB504_514.out; obtain ⟨_, _, _, _, _, _⟩ := zC3 BK514; obtain ⟨_, _, _, _, _, _⟩ := zC3 BK504))
           go_ret
           exact ⟨sqE, fW HB.out⟩
          rw [if_neg c63] at H
          have c63b0 : (t503 == 9) = false := beq_eq_false_iff_ne.mpr c63
          have c63b1 : (t503 != 9) = true := bne_iff_ne.mpr c63
          obtain rfl := Option.some.inj H
          have hnb72 := NB495_504.out
          have hnc72 := NB504_495.out
          have := yC1 BK495
          have := kC1 BK495
          have := kC2 BK495
          have := kC3 BK495
          have := kC4 BK495
          have := kC5 BK495
          have := bf BK495.out 0
          have := bf BK495.out 1
          have := bf BK495.out 2
          have := bf BK495.out 3
          have := bf BK495.out 4
          have := bf BK495.out 5
          go_wp2_with (first | ((with_reducible refine gc (f := 26) rfl ?_); refine goesL_ (some 137) rfl rfl Try.func26 (by kernel_rfl) rfl #[.slice A0 l0.length c0, .agg #[.int .i64 a1_0, .int .i64 a1_1, .int .i64 a1_2, .int .i64 a1_3, .int .i64 a1_4, .int .i64 a1_5], .int .i64 a2] rfl (by (try simp only [pml]); first | done | rfl | (simp only [pdt]; rfl)) ?_; (with_reducible refine (r_First.calls kj36 _ _ l0 a1_0 a1_1 a1_2 a1_3 a1_4 a1_5 a2 t510 t511 t512 false _ ?side1 ?side2 A45.out).mono ?_); (case side1 => repeat (first | exact (Kd.C_below HR0.out HB.out) | (with_reducible refine Kd.C_alloc ?_ _) | (with_reducible refine Kd.C_drewN ?_ _) | (with_reducible refine Kd.C_drew ?_))); (case side2 => exact HC0.out); rintro e w74 ⟨rfl, hb⟩; refine ⟨_, rfl, ?_⟩; replace BK495 := bB BK495 hb; replace BK504 := bB BK504 hb; replace HB := bS HB hb; (try clear hb); (try clear hb2); (try clear hk); (try clear hi)) | ((with_reducible refine gate_dst (N := 16) rfl ?_); refine box_event ?hg (N := 16) ?hd (cs := #[.int .i64 0, .int .i64 0, .int .i64 0]) (t := 24) ?hr ?_; (case hd | hg => rfl); (case hr => first | (go_simp; done) | (go_simp; rfl)); intro gb514 hg w75 hbox hb; have BK514 := am hbox; have GW514 := sG HB hg; have GE514 := sG HB hg; replace HB := bS HB hb; have NB495_514 := nL BK495 hg; have NB514_495 := nG BK495 hg; replace BK495 := bB BK495 hb; have NB504_514 := nL BK504 hg; have NB514_504 := nG BK504 hg; replace BK504 := bB BK504 hb; clear hb hbox hg; have hnb76 := NB514_495.out; have hnc76 := NB495_514.out; have hnb77 := NB514_504.out; have hnc77 := NB504_514.out; obtain ⟨_, _, _, _, _, _⟩ := zC3 BK514))
          go_ret
          exact ⟨sqE, fW HB.out⟩
 ·replace c5 := Bool.eq_false_iff.mpr c5
  subst c5
  have H1 : (some false) = some r := by rw [if_neg (show ¬ (false = true) by decide)] at H; exact H
  clear H
  have H := H1
  clear H1
  obtain rfl := Option.some.inj H
  go_enter Try.func6, Try.ntmps6
  go_wp2_with (first | ((with_reducible refine gate_dst (N := 4) rfl ?_); refine box_event ?hg (N := 4) ?hd (cs := #[.int .i64 a1_0, .int .i64 a1_1, .int .i64 a1_2, .int .i64 a1_3, .int .i64 a1_4, .int .i64 a1_5]) (t := 43) ?hr ?_; (case hd | hg => rfl); (case hr => first | (go_simp; done) | (go_simp; rfl)); intro gb495 hg w91 hbox hb; have BK495 := am hbox; have GW495 := sG HB hg; have GE495 := sG HB hg; replace HB := bS HB hb; clear hb hbox hg) | ((with_reducible refine gc (f := 10) rfl ?_); refine goesL_ (some 18) rfl rfl Try.func10 (by kernel_rfl) rfl #[] rfl (by (try simp only [pml]); first | done | rfl | (simp only [pdt]; rfl)) ?_; (with_reducible refine (w_awake.calls  false _ A4.out).mono ?_); rintro e w92 ⟨rfl, hb⟩; refine ⟨_, rfl, ?_⟩; replace BK495 := bB BK495 hb; replace HB := bS HB hb; (try clear hb); (try clear hb2); (try clear hk); (try clear hi)))
  go_ret
  exact ⟨sqE, fW HB.out⟩

def w_ModelVolumes.Pure : Prop := ∀ (l0 : List (S68)) (a1_0 : Int) (a1_1 : Int) (a1_2 : Int) (a1_3 : Int) (a1_4 : Int) (a1_5 : Int) (a2 : Int), (l0.length ≤ maxLen ∧ ∀ e4_, e4_ ∈ l0 → okS68 e4_) → ((Lit.int .i64 a1_0).wf = true) → ((Lit.int .i64 a1_1).wf = true) → ((Lit.int .i64 a1_2).wf = true) → ((Lit.int .i64 a1_3).wf = true) → ((Lit.int .i64 a1_4).wf = true) → ((Lit.int .i64 a1_5).wf = true) → ((Lit.int .i64 a2).wf = true) → ∃ k, w_ModelVolumes.f k l0 a1_0 a1_1 a1_2 a1_3 a1_4 a1_5 a2 = some true
theorem w_ModelVolumes.walk (P_ : w_ModelVolumes.Pure) (A0 : Option Addr) (c0 : Nat) (l0 : List (S68)) (a1_0 : Int) (a1_1 : Int) (a1_2 : Int) (a1_3 : Int) (a1_4 : Int) (a1_5 : Int) (a2 : Int) (w : World) (hr0 : Kd.C k68 w A0 l0.length l0) (hc0 : l0.length ≤ c0) (o0 : (l0.length ≤ maxLen ∧ ∀ e4_, e4_ ∈ l0 → okS68 e4_)) (o1 : ((Lit.int .i64 a1_0).wf = true)) (o2 : ((Lit.int .i64 a1_1).wf = true)) (o3 : ((Lit.int .i64 a1_2).wf = true)) (o4 : ((Lit.int .i64 a1_3).wf = true)) (o5 : ((Lit.int .i64 a1_4).wf = true)) (o6 : ((Lit.int .i64 a1_5).wf = true)) (o7 : ((Lit.int .i64 a2).wf = true)) :
  Calls Try.prog 6 #[.slice A0 l0.length c0, .agg #[.int .i64 a1_0, .int .i64 a1_1, .int .i64 a1_2, .int .i64 a1_3, .int .i64 a1_4, .int .i64 a1_5], .int .i64 a2] w fun e w' => e = .returned (.bool true) ∧ Below w.heap.size w w' := by
 obtain ⟨k, h⟩ := P_ l0 a1_0 a1_1 a1_2 a1_3 a1_4 a1_5 a2 o0 o1 o2 o3 o4 o5 o6 o7
 refine (w_ModelVolumes.calls k A0 c0 l0 a1_0 a1_1 a1_2 a1_3 a1_4 a1_5 a2 true w hr0 hc0 h).mono ?_
 rintro e w' ⟨rfl, hd⟩
 exact ⟨rfl, hd⟩

end Go.Proofs.Ytcofgnbopodahaa.QA
