import Derived.Test.YtmmdikhmlmoolaaKQAx0
import Derived.Test.YtmmdikhmlmoolaaKQAx1
import Derived.Test.YtmmdikhmlmoolaaKQAx8
import Derived.Test.YtmmdikhmlmoolaaKQAx10
import Derived.Test.YtmmdikhmlmoolaaKQAx11
import Derived.Test.YtmmdikhmlmoolaaKQAx14
import Derived.Test.YtmmdikhmlmoolaaKQAx15
import Derived.Test.YtmmdikhmlmoolaaKQAx18
import Derived.Test.YtmmdikhmlmoolaaKQAx26
import Derived.Test.YtmmdikhmlmoolaaKQAx28
import Derived.Test.YtmmdikhmlmoolaaKQAx29
import Derived.Test.YtmmdikhmlmoolaaKQAx30
namespace Go.Proofs.Ytmmdikhmlmoolaa.QA
open Go.RowKit Go.Proofs.YtmmdikhmlmoolaaW.PrintWords Go.Proofs.YtmmdikhmlmoolaaW.PrintLast Go.Proofs.YtmmdikhmlmoolaaW.PrintMore
open Go.Proofs.YtmmdikhmlmoolaaW.PrintWords renaming blk_drewN → bN, blk_drew → bd, blk_alloc → ba, blk_frozen → bf, blk_cell → bc, blk_far → bF, gate_callee → gc
open Aside0 renaming mk → am
attribute [local go_sem] max2_int min2_int max_two min_two max_three min_three max_four min_four
set_option linter.unusedVariables false
set_option linter.unusedSimpArgs false

attribute [local go_sem high] eqA23
mutual
def w_BoxCounts.j0 : Nat → List (S25) → Bool → Int → Int → Int → Int → Int → Int → Option (Bool)
 | 0, _, _, _, _, _, _, _, _ => none
 | k + 1, x1, x34, x690000, x690001, x690002, x690003, x690004, x690005 => if x34 = true then (some true) else ((box_Total.f k x1).bind fun bt691 => ((box_Clash.f k x1).bind fun bt693 => ((box_Gap.f k x690000 x690001 x690002 x690003 x690004 x690005 x1).bind fun bt696 => ((box_Partition.f k x690000 x690001 x690002 x690003 x690004 x690005 x1).bind fun t701 => ((r_CheckAll.f k x1).bind fun t702 => ((r_Check.f k x690000 x690001 x690002 x690003 x690004 x690005).bind fun t703 => (if t703 = 0 then (w_BoxCounts.j1 k x1 bt691.1 bt691.2 bt693.1 bt693.2.1 bt693.2.2 bt696.2.2.2 t701 t702 t702 x690000 x690001 x690002 x690003 x690004 x690005 bt696.1 bt696.2.1 bt696.2.2.1) else (w_BoxCounts.j1 k x1 bt691.1 bt691.2 bt693.1 bt693.2.1 bt693.2.2 bt696.2.2.2 t701 t702 t703 x690000 x690001 x690002 x690003 x690004 x690005 bt696.1 bt696.2.1 bt696.2.2.1))))))))
def w_BoxCounts.j1 : Nat → List (S25) → Int → Int → Int → Int → Int → Int → Int → Int → Int → Int → Int → Int → Int → Int → Int → Int → Int → Int → Option (Bool)
 | 0, _, _, _, _, _, _, _, _, _, _, _, _, _, _, _, _, _, _, _ => none
 | k + 1, x1, x5, x6, x7, x8, x9, x11, x12, x13, x14, x690000, x690001, x690002, x690003, x690004, x690005, x701000, x701001, x701002 => if (x1.length : Int) > 256 then (w_BoxCounts.j2 k x1 x5 x6 x7 x8 x9 x11 x12 7 7 x690000 x690001 x690002 x690003 x690004 x690005 x701000 x701001 x701002) else (w_BoxCounts.j2 k x1 x5 x6 x7 x8 x9 x11 x12 x13 x14 x690000 x690001 x690002 x690003 x690004 x690005 x701000 x701001 x701002)
def w_BoxCounts.j2 : Nat → List (S25) → Int → Int → Int → Int → Int → Int → Int → Int → Int → Int → Int → Int → Int → Int → Int → Int → Int → Int → Option (Bool)
 | 0, _, _, _, _, _, _, _, _, _, _, _, _, _, _, _, _, _, _, _ => none
 | k + 1, x1, x5, x6, x7, x8, x9, x11, x12, x13, x14, x690000, x690001, x690002, x690003, x690004, x690005, x701000, x701001, x701002 => if x13 = 0 then ((r_Clash.f k x1).bind fun bt704 => (if x6 = 0 then ((r_Total.f k x1).bind fun t707 => (if x5 = t707 then (if x7 = bt704.1 then (if x8 = bt704.2.1 then (if (bt704.2.2 != (x9 == 0)) = true then (w_BoxCounts.j3 k x1 x11 x12 x14 true x690000 x690001 x690002 x690003 x690004 x690005 x701000 x701001 x701002) else (if bt704.2.2 = true then (w_BoxCounts.j3 k x1 x11 x12 x14 false x690000 x690001 x690002 x690003 x690004 x690005 x701000 x701001 x701002) else (w_BoxCounts.j3 k x1 x11 x12 x14 (x9 != 9) x690000 x690001 x690002 x690003 x690004 x690005 x701000 x701001 x701002))) else (w_BoxCounts.j3 k x1 x11 x12 x14 true x690000 x690001 x690002 x690003 x690004 x690005 x701000 x701001 x701002)) else (w_BoxCounts.j3 k x1 x11 x12 x14 true x690000 x690001 x690002 x690003 x690004 x690005 x701000 x701001 x701002)) else (w_BoxCounts.j3 k x1 x11 x12 x14 true x690000 x690001 x690002 x690003 x690004 x690005 x701000 x701001 x701002))) else (w_BoxCounts.j3 k x1 x11 x12 x14 true x690000 x690001 x690002 x690003 x690004 x690005 x701000 x701001 x701002))) else (if x6 = x13 then (if x9 = x13 then (if x5 = 0 then (if x7 = 0 then (w_BoxCounts.j4 k x1 x11 x12 x14 (x8 != 0) x690000 x690001 x690002 x690003 x690004 x690005 x701000 x701001 x701002) else (w_BoxCounts.j4 k x1 x11 x12 x14 true x690000 x690001 x690002 x690003 x690004 x690005 x701000 x701001 x701002)) else (w_BoxCounts.j4 k x1 x11 x12 x14 true x690000 x690001 x690002 x690003 x690004 x690005 x701000 x701001 x701002)) else (w_BoxCounts.j4 k x1 x11 x12 x14 true x690000 x690001 x690002 x690003 x690004 x690005 x701000 x701001 x701002)) else (w_BoxCounts.j4 k x1 x11 x12 x14 true x690000 x690001 x690002 x690003 x690004 x690005 x701000 x701001 x701002))
def w_BoxCounts.j5 : Nat → List (S25) → Int → Int → Int → Int → Int → Int → Int → Int → Int → Int → Int → Int → Option (Bool)
 | 0, _, _, _, _, _, _, _, _, _, _, _, _, _ => none
 | k + 1, x1, x11, x12, x14, x690000, x690001, x690002, x690003, x690004, x690005, x701000, x701001, x701002 => if x14 = 0 then ((r_Gap.f k x690000 x690001 x690002 x690003 x690004 x690005 x1).bind fun bt708 => (if (x701000 == bt708.1 && (x701001 == bt708.2.1 && (x701002 == bt708.2.2.1))) = true then (if (bt708.2.2.2 == (x11 == 0)) = true then (if bt708.2.2.2 = true then ((r_Partition.f k x690000 x690001 x690002 x690003 x690004 x690005 x1).bind fun t713 => (w_BoxCounts.j7 k (x12 == t713))) else (if x11 = 9 then ((r_Partition.f k x690000 x690001 x690002 x690003 x690004 x690005 x1).bind fun t714 => (w_BoxCounts.j7 k (x12 == t714))) else (w_BoxCounts.j7 k false))) else (w_BoxCounts.j7 k false)) else (w_BoxCounts.j7 k false))) else (if x11 = x14 then (if x12 = x14 then (w_BoxCounts.j6 k (x701000 == 0 && (x701001 == 0 && (x701002 == 0)))) else (w_BoxCounts.j6 k false)) else (w_BoxCounts.j6 k false))
def w_BoxCounts.j7 : Nat → Bool → Option (Bool)
 | 0, _ => none
 | k + 1, x4 => some x4
def w_BoxCounts.j6 : Nat → Bool → Option (Bool)
 | 0, _ => none
 | k + 1, x4 => some x4
def w_BoxCounts.j3 : Nat → List (S25) → Int → Int → Int → Bool → Int → Int → Int → Int → Int → Int → Int → Int → Int → Option (Bool)
 | 0, _, _, _, _, _, _, _, _, _, _, _, _, _, _ => none
 | k + 1, x1, x11, x12, x14, x125, x690000, x690001, x690002, x690003, x690004, x690005, x701000, x701001, x701002 => if x125 = true then (some false) else (w_BoxCounts.j5 k x1 x11 x12 x14 x690000 x690001 x690002 x690003 x690004 x690005 x701000 x701001 x701002)
def w_BoxCounts.j4 : Nat → List (S25) → Int → Int → Int → Bool → Int → Int → Int → Int → Int → Int → Int → Int → Int → Option (Bool)
 | 0, _, _, _, _, _, _, _, _, _, _, _, _, _, _ => none
 | k + 1, x1, x11, x12, x14, x87, x690000, x690001, x690002, x690003, x690004, x690005, x701000, x701001, x701002 => if x87 = true then (some false) else (w_BoxCounts.j5 k x1 x11 x12 x14 x690000 x690001 x690002 x690003 x690004 x690005 x701000 x701001 x701002)
end
def w_BoxCounts.f (k : Nat) (a0_0 : Int) (a0_1 : Int) (a0_2 : Int) (a0_3 : Int) (a0_4 : Int) (a0_5 : Int) (l1 : List (S25)) : Option (Bool) := (w_awake.f).bind fun t690 => (if t690 = true then (if (l1.length : Int) > 7 then (if (l1.length : Int) ≤ 256 then (w_BoxCounts.j0 k l1 true a0_0 a0_1 a0_2 a0_3 a0_4 a0_5) else (w_BoxCounts.j0 k l1 (decide ((l1.length : Int) > 1000)) a0_0 a0_1 a0_2 a0_3 a0_4 a0_5)) else (w_BoxCounts.j0 k l1 (decide ((l1.length : Int) > 1000)) a0_0 a0_1 a0_2 a0_3 a0_4 a0_5)) else (some false))
set_option maxHeartbeats 8000000 in
set_option maxRecDepth 100000 in
theorem w_BoxCounts.calls (k : Nat) (a0_0 : Int) (a0_1 : Int) (a0_2 : Int) (a0_3 : Int) (a0_4 : Int) (a0_5 : Int) (A1 : Option Addr) (c1 : Nat) (l1 : List (S25)) (r : Bool) (w : World) (hr1 : Kd.C k25 w A1 l1.length l1) (hc1 : l1.length ≤ c1) (h : w_BoxCounts.f k a0_0 a0_1 a0_2 a0_3 a0_4 a0_5 l1 = some r) :
  Calls Try.prog 8 #[.agg #[.int .i64 a0_0, .int .i64 a0_1, .int .i64 a0_2, .int .i64 a0_3, .int .i64 a0_4, .int .i64 a0_5], .slice A1 l1.length c1] w fun e w' => e = .returned (.bool r) ∧ Below w.heap.size w w' := by
 have hu25 := Try.underlying25
 have hu23 := Try.underlying23
 have HR1 := am hr1
 have HC1 := am hc1
 clear hr1 hc1
 have HB := am (Below.refl w.heap.size w)
 have H : ((w_awake.f).bind fun t690 => (if t690 = true then (if (l1.length : Int) > 7 then (if (l1.length : Int) ≤ 256 then (w_BoxCounts.j0 k l1 true a0_0 a0_1 a0_2 a0_3 a0_4 a0_5) else (w_BoxCounts.j0 k l1 (decide ((l1.length : Int) > 1000)) a0_0 a0_1 a0_2 a0_3 a0_4 a0_5)) else (w_BoxCounts.j0 k l1 (decide ((l1.length : Int) > 1000)) a0_0 a0_1 a0_2 a0_3 a0_4 a0_5)) else (some false))) = some r := h
 clear h
 replace H := Option.bind_eq_some_iff.mp H
 obtain ⟨t690, A30, H⟩ := H
 replace H : (if t690 = true then (if (l1.length : Int) > 7 then (if (l1.length : Int) ≤ 256 then (w_BoxCounts.j0 k l1 true a0_0 a0_1 a0_2 a0_3 a0_4 a0_5) else (w_BoxCounts.j0 k l1 (decide ((l1.length : Int) > 1000)) a0_0 a0_1 a0_2 a0_3 a0_4 a0_5)) else (w_BoxCounts.j0 k l1 (decide ((l1.length : Int) > 1000)) a0_0 a0_1 a0_2 a0_3 a0_4 a0_5)) else (some false)) = some r := H
 have A3 := am A30
 clear A30
 by_cases c4 : t690 = true
 ·subst c4
  have H1 : (if (l1.length : Int) > 7 then (if (l1.length : Int) ≤ 256 then (w_BoxCounts.j0 k l1 true a0_0 a0_1 a0_2 a0_3 a0_4 a0_5) else (w_BoxCounts.j0 k l1 (decide ((l1.length : Int) > 1000)) a0_0 a0_1 a0_2 a0_3 a0_4 a0_5)) else (w_BoxCounts.j0 k l1 (decide ((l1.length : Int) > 1000)) a0_0 a0_1 a0_2 a0_3 a0_4 a0_5)) = some r := by rw [if_pos rfl] at H; exact H
  clear H
  have H := H1
  clear H1
  have HC5 := am H
  clear H
  go_enter Try.func8, Try.ntmps8
  go_upto_region 3 with (first | ((with_reducible refine gate_dst (N := 2) rfl ?_); (try (refine gate_guard (by rfl) ?_; dsimp only)); refine box_event ?hg (N := 2) ?hd (cs := #[.int .i64 a0_0, .int .i64 a0_1, .int .i64 a0_2, .int .i64 a0_3, .int .i64 a0_4, .int .i64 a0_5]) (t := 25) ?hr ?_; (case hd | hg => rfl); (case hr => first | (go_simp; done) | (go_simp; rfl)); intro gb689 hg w6 hbox hb; have BK689 := am hbox; have GW689 := sG HB hg; have GE689 := sG HB hg; replace HB := bS HB hb; clear hb hbox hg) | ((with_reducible refine gc (f := 11) rfl ?_); refine goesL_ (some 20) rfl rfl Try.func11 (by kernel_rfl) rfl #[] rfl (by (try simp only [pml]); first | done | rfl | (simp only [pdt]; rfl)) ?_; (with_reducible refine (w_awake.calls  true _ A3.out).mono ?_); rintro e w7 ⟨rfl, hb⟩; refine ⟨_, rfl, ?_⟩; replace BK689 := bB BK689 hb; replace HB := bS HB hb; (try clear hb); (try clear hb2); (try clear hk); (try clear hi)))
  (try simp only [Act.put, psl])
  go_cut [34] (fun v34 wc => ∃ (kq : Nat) (x34_4 : Bool), v34 = .bool x34_4 ∧ Aside0 (w_BoxCounts.j0 kq l1 x34_4 a0_0 a0_1 a0_2 a0_3 a0_4 a0_5 = some r) ∧ Aside0 (kq ≤ k) ∧ Aside0 (wc.heap[gb689]? = some (.cells #[.int .i64 a0_0, .int .i64 a0_1, .int .i64 a0_2, .int .i64 a0_3, .int .i64 a0_4, .int .i64 a0_5] 25 (0, 0))) ∧ Aside0 (Below w.heap.size w wc))
  case first => as_aux_lemma =>
   have H := HC5.out
   clear HC5
   by_cases c8 : (l1.length : Int) > 7
   rotate_left
   ·rw [if_neg c8] at H
    have c8b0 : decide (7 < (l1.length : Int)) = false := decide_eq_false c8
    have c8b1 : decide (7 < l1.length) = false := decide_eq_false (by omega)
    clear c8
    (first | rw [c8b0] | (simp only [i64_w, i32_w]; rw [c8b0]) | skip)
    have H' := am H
    clear H
    go_wp2
    go_meet
    case rel => exact ⟨_, (decide ((l1.length : Int) > 1000)), sqD, H', ⟨by first | omega | exact Nat.le_refl _⟩, ⟨fb BK689.out⟩, ⟨fW HB.out⟩⟩
   rw [if_pos c8] at H
   have c8b0 : decide (7 < (l1.length : Int)) = true := decide_eq_true c8
   have c8b1 : decide (7 < l1.length) = true := decide_eq_true (by omega)
   clear c8
   (first | rw [c8b0] | (simp only [i64_w, i32_w]; rw [c8b0]) | skip)
   by_cases c9 : (l1.length : Int) ≤ 256
   ·rw [if_pos c9] at H
    have c9b0 : decide ((l1.length : Int) ≤ 256) = true := decide_eq_true c9
    have c9b1 : decide (l1.length ≤ 256) = true := decide_eq_true (by omega)
    clear c9
    have H' := am H
    clear H
    go_wp2
    go_meet
    case rel => exact ⟨_, (true), sqD, H', ⟨by first | omega | exact Nat.le_refl _⟩, ⟨fb BK689.out⟩, ⟨fW HB.out⟩⟩
   rw [if_neg c9] at H
   have c9b0 : decide ((l1.length : Int) ≤ 256) = false := decide_eq_false c9
   have c9b1 : decide (l1.length ≤ 256) = false := decide_eq_false (by omega)
   clear c9
   have H' := am H
   clear H
   go_wp2
   go_meet
   case rel => exact ⟨_, (decide ((l1.length : Int) > 1000)), sqD, H', ⟨by first | omega | exact Nat.le_refl _⟩, ⟨fb BK689.out⟩, ⟨fW HB.out⟩⟩
  case rest => as_aux_lemma =>
   clear HC5
   try clear c1;try clear p2;try clear c4;try clear c8;try clear c8b0;try clear c8b1;try clear c9;try clear c9b0;try clear c9b1
   obtain ⟨kq, x34_4, rfl, HA, HJ4, BK689, HB⟩ := hcut
   cases kq with
   | zero => exact absurd HA.out (by simp [w_BoxCounts.j0])
   | succ kj4 =>
    have H := HA.out
    clear HA
    simp only [w_BoxCounts.j0] at H
    by_cases c10 : x34_4 = true
    ·subst c10
     have H1 : (some true) = some r := by rw [if_pos rfl] at H; exact H
     clear H
     have H := H1
     clear H1
     obtain rfl := Option.some.inj H
     go_wp2
     go_ret
     exact ⟨sqE, fW HB.out⟩
    replace c10 := Bool.eq_false_iff.mpr c10
    subst c10
    have H1 : ((box_Total.f kj4 l1).bind fun bt691 => ((box_Clash.f kj4 l1).bind fun bt693 => ((box_Gap.f kj4 a0_0 a0_1 a0_2 a0_3 a0_4 a0_5 l1).bind fun bt696 => ((box_Partition.f kj4 a0_0 a0_1 a0_2 a0_3 a0_4 a0_5 l1).bind fun t701 => ((r_CheckAll.f kj4 l1).bind fun t702 => ((r_Check.f kj4 a0_0 a0_1 a0_2 a0_3 a0_4 a0_5).bind fun t703 => (if t703 = 0 then (w_BoxCounts.j1 kj4 l1 bt691.1 bt691.2 bt693.1 bt693.2.1 bt693.2.2 bt696.2.2.2 t701 t702 t702 a0_0 a0_1 a0_2 a0_3 a0_4 a0_5 bt696.1 bt696.2.1 bt696.2.2.1) else (w_BoxCounts.j1 kj4 l1 bt691.1 bt691.2 bt693.1 bt693.2.1 bt693.2.2 bt696.2.2.2 t701 t702 t703 a0_0 a0_1 a0_2 a0_3 a0_4 a0_5 bt696.1 bt696.2.1 bt696.2.2.1)))))))) = some r := by rw [if_neg (show ¬ (false = true) by decide)] at H; exact H
    clear H
    have H := H1
    clear H1
    replace H := Option.bind_eq_some_iff.mp H
    obtain ⟨⟨t691, t692⟩, A110, H⟩ := H
    replace H : ((box_Clash.f kj4 l1).bind fun bt693 => ((box_Gap.f kj4 a0_0 a0_1 a0_2 a0_3 a0_4 a0_5 l1).bind fun bt696 => ((box_Partition.f kj4 a0_0 a0_1 a0_2 a0_3 a0_4 a0_5 l1).bind fun t701 => ((r_CheckAll.f kj4 l1).bind fun t702 => ((r_Check.f kj4 a0_0 a0_1 a0_2 a0_3 a0_4 a0_5).bind fun t703 => (if t703 = 0 then (w_BoxCounts.j1 kj4 l1 t691 t692 bt693.1 bt693.2.1 bt693.2.2 bt696.2.2.2 t701 t702 t702 a0_0 a0_1 a0_2 a0_3 a0_4 a0_5 bt696.1 bt696.2.1 bt696.2.2.1) else (w_BoxCounts.j1 kj4 l1 t691 t692 bt693.1 bt693.2.1 bt693.2.2 bt696.2.2.2 t701 t702 t703 a0_0 a0_1 a0_2 a0_3 a0_4 a0_5 bt696.1 bt696.2.1 bt696.2.2.1))))))) = some r := H
    have A11 := am A110
    clear A110
    replace H := Option.bind_eq_some_iff.mp H
    obtain ⟨⟨t693, t694, t695⟩, A120, H⟩ := H
    replace H : ((box_Gap.f kj4 a0_0 a0_1 a0_2 a0_3 a0_4 a0_5 l1).bind fun bt696 => ((box_Partition.f kj4 a0_0 a0_1 a0_2 a0_3 a0_4 a0_5 l1).bind fun t701 => ((r_CheckAll.f kj4 l1).bind fun t702 => ((r_Check.f kj4 a0_0 a0_1 a0_2 a0_3 a0_4 a0_5).bind fun t703 => (if t703 = 0 then (w_BoxCounts.j1 kj4 l1 t691 t692 t693 t694 t695 bt696.2.2.2 t701 t702 t702 a0_0 a0_1 a0_2 a0_3 a0_4 a0_5 bt696.1 bt696.2.1 bt696.2.2.1) else (w_BoxCounts.j1 kj4 l1 t691 t692 t693 t694 t695 bt696.2.2.2 t701 t702 t703 a0_0 a0_1 a0_2 a0_3 a0_4 a0_5 bt696.1 bt696.2.1 bt696.2.2.1)))))) = some r := H
    have A12 := am A120
    clear A120
    replace H := Option.bind_eq_some_iff.mp H
    obtain ⟨⟨t696, t697, t698, t699⟩, A130, H⟩ := H
    replace H : ((box_Partition.f kj4 a0_0 a0_1 a0_2 a0_3 a0_4 a0_5 l1).bind fun t701 => ((r_CheckAll.f kj4 l1).bind fun t702 => ((r_Check.f kj4 a0_0 a0_1 a0_2 a0_3 a0_4 a0_5).bind fun t703 => (if t703 = 0 then (w_BoxCounts.j1 kj4 l1 t691 t692 t693 t694 t695 t699 t701 t702 t702 a0_0 a0_1 a0_2 a0_3 a0_4 a0_5 t696 t697 t698) else (w_BoxCounts.j1 kj4 l1 t691 t692 t693 t694 t695 t699 t701 t702 t703 a0_0 a0_1 a0_2 a0_3 a0_4 a0_5 t696 t697 t698))))) = some r := H
    have A13 := am A130
    clear A130
    replace H := Option.bind_eq_some_iff.mp H
    obtain ⟨t701, A140, H⟩ := H
    replace H : ((r_CheckAll.f kj4 l1).bind fun t702 => ((r_Check.f kj4 a0_0 a0_1 a0_2 a0_3 a0_4 a0_5).bind fun t703 => (if t703 = 0 then (w_BoxCounts.j1 kj4 l1 t691 t692 t693 t694 t695 t699 t701 t702 t702 a0_0 a0_1 a0_2 a0_3 a0_4 a0_5 t696 t697 t698) else (w_BoxCounts.j1 kj4 l1 t691 t692 t693 t694 t695 t699 t701 t702 t703 a0_0 a0_1 a0_2 a0_3 a0_4 a0_5 t696 t697 t698)))) = some r := H
    have A14 := am A140
    clear A140
    replace H := Option.bind_eq_some_iff.mp H
    obtain ⟨t702, A150, H⟩ := H
    replace H : ((r_Check.f kj4 a0_0 a0_1 a0_2 a0_3 a0_4 a0_5).bind fun t703 => (if t703 = 0 then (w_BoxCounts.j1 kj4 l1 t691 t692 t693 t694 t695 t699 t701 t702 t702 a0_0 a0_1 a0_2 a0_3 a0_4 a0_5 t696 t697 t698) else (w_BoxCounts.j1 kj4 l1 t691 t692 t693 t694 t695 t699 t701 t702 t703 a0_0 a0_1 a0_2 a0_3 a0_4 a0_5 t696 t697 t698))) = some r := H
    have A15 := am A150
    clear A150
    replace H := Option.bind_eq_some_iff.mp H
    obtain ⟨t703, A160, H⟩ := H
    replace H : (if t703 = 0 then (w_BoxCounts.j1 kj4 l1 t691 t692 t693 t694 t695 t699 t701 t702 t702 a0_0 a0_1 a0_2 a0_3 a0_4 a0_5 t696 t697 t698) else (w_BoxCounts.j1 kj4 l1 t691 t692 t693 t694 t695 t699 t701 t702 t703 a0_0 a0_1 a0_2 a0_3 a0_4 a0_5 t696 t697 t698)) = some r := H
    have A16 := am A160
    clear A160
    have HC17 := am H
    clear H
    try go_wp2_with (first | ((with_reducible refine gc (f := 40) rfl ?_); refine goesL_ (some 37) rfl rfl Try.func40 (by kernel_rfl) rfl #[.slice A1 l1.length c1] rfl (by (try simp only [pml]); first | done | rfl | (simp only [pdt]; rfl)) ?_; (with_reducible refine (box_Total.calls kj4 _ _ l1 t691 t692 _ ?side1 ?side2 A11.out).mono ?_); (case side1 => repeat (first | exact (Kd.C_below HR1.out HB.out) | (with_reducible refine Kd.C_alloc ?_ _) | (with_reducible refine Kd.C_drewN ?_ _) | (with_reducible refine Kd.C_drew ?_))); (case side2 => exact HC1.out); rintro e w18 ⟨rfl, hb⟩; refine ⟨_, rfl, ?_⟩; replace BK689 := bB BK689 hb; replace HB := bS HB hb; (try clear hb); (try clear hb2); (try clear hk); (try clear hi)) | ((with_reducible refine gc (f := 41) rfl ?_); refine goesL_ (some 42) rfl rfl Try.func41 (by kernel_rfl) rfl #[.slice A1 l1.length c1] rfl (by (try simp only [pml]); first | done | rfl | (simp only [pdt]; rfl)) ?_; (with_reducible refine (box_Clash.calls kj4 _ _ l1 t693 t694 t695 _ ?side1 ?side2 A12.out).mono ?_); (case side1 => repeat (first | exact (Kd.C_below HR1.out HB.out) | (with_reducible refine Kd.C_alloc ?_ _) | (with_reducible refine Kd.C_drewN ?_ _) | (with_reducible refine Kd.C_drew ?_))); (case side2 => exact HC1.out); rintro e w19 ⟨rfl, hb⟩; refine ⟨_, rfl, ?_⟩; replace BK689 := bB BK689 hb; replace HB := bS HB hb; (try clear hb); (try clear hb2); (try clear hk); (try clear hi); obtain ⟨_, _, _, _, _, _, _, _, _, _, _, _⟩ := zC6 BK689) | ((with_reducible refine gc (f := 12) rfl ?_); refine goesL_ (some 49) rfl rfl Try.func12 (by kernel_rfl) rfl #[.agg #[.int .i64 a0_0, .int .i64 a0_1, .int .i64 a0_2, .int .i64 a0_3, .int .i64 a0_4, .int .i64 a0_5], .slice A1 l1.length c1] rfl (by (try simp only [pml]); first | done | rfl | (simp only [pdt]; rfl)) ?_; (with_reducible refine (box_Gap.calls kj4 a0_0 a0_1 a0_2 a0_3 a0_4 a0_5 _ _ l1 t696 t697 t698 t699 _ ?side1 ?side2 A13.out).mono ?_); (case side1 => repeat (first | exact (Kd.C_below HR1.out HB.out) | (with_reducible refine Kd.C_alloc ?_ _) | (with_reducible refine Kd.C_drewN ?_ _) | (with_reducible refine Kd.C_drew ?_))); (case side2 => exact HC1.out); rintro e w21 ⟨rfl, hb⟩; refine ⟨_, rfl, ?_⟩; replace BK689 := bB BK689 hb; replace HB := bS HB hb; (try clear hb); (try clear hb2); (try clear hk); (try clear hi)) | ((with_reducible refine gate_dst (N := 10) rfl ?_); (try (refine gate_guard (by rfl) ?_; dsimp only)); refine box_event ?hg (N := 10) ?hd (cs := #[.int .i64 0, .int .i64 0, .int .i64 0]) (t := 23) ?hr ?_; (case hd | hg => rfl); (case hr => first | (go_simp; done) | (go_simp; rfl)); intro gb700 hg w22 hbox hb; have BK700 := am hbox; have GW700 := sG HB hg; have GE700 := sG HB hg; replace HB := bS HB hb; have NB689_700 := nL BK689 hg; have NB700_689 := nG BK689 hg; replace BK689 := bB BK689 hb; clear hb hbox hg; have hnb23 := NB700_689.out; have hnc23 := NB689_700.out; obtain ⟨_, _, _, _, _, _⟩ := zC3 BK700; obtain ⟨_, _, _, _, _, _, _, _, _, _, _, _⟩ := zC6 BK689) | ((with_reducible refine gc (f := 42) rfl ?_); refine goesL_ (some 54) rfl rfl Try.func42 (by kernel_rfl) rfl #[.agg #[.int .i64 a0_0, .int .i64 a0_1, .int .i64 a0_2, .int .i64 a0_3, .int .i64 a0_4, .int .i64 a0_5], .slice A1 l1.length c1] rfl (by (try simp only [pml]); first | done | rfl | (simp only [pdt]; rfl)) ?_; (with_reducible refine (box_Partition.calls kj4 a0_0 a0_1 a0_2 a0_3 a0_4 a0_5 _ _ l1 t701 _ ?side1 ?side2 A14.out).mono ?_); (case side1 => exact Kd.C_below HR1.out (fW HB.out)); (case side2 => exact HC1.out); rintro e w26 ⟨rfl, hb⟩; refine ⟨_, rfl, ?_⟩; replace BK689 := xC1 (kfC BK689.out) hb; replace BK700 := xC1 (o := .cells #[.int .i64 t696, .int .i64 t697, .int .i64 t698] 23 (0, 0)) (kkC BK700.out) hb; replace HB := bS HB hb; (try clear hb); (try clear hb2); (try clear hk); (try clear hi)))
    have n0_ := am (bd BK689.out)
    have n1_ := am (bd BK700.out)
    have n2_ := am (below_drew1 HB.out)
    clear BK689 BK700 HB
    have BK689 := n0_
    have BK700 := n1_
    have HB := n2_
    clear n0_ n1_ n2_
    refine start_ (n := 6) (S := fun w' => w'.cell? ⟨gb689, 0, none⟩ = some (.int .i64 a0_0) ∧ w'.cell? ⟨gb689, 1, none⟩ = some (.int .i64 a0_1) ∧ w'.cell? ⟨gb689, 2, none⟩ = some (.int .i64 a0_2) ∧ w'.cell? ⟨gb689, 3, none⟩ = some (.int .i64 a0_3) ∧ w'.cell? ⟨gb689, 4, none⟩ = some (.int .i64 a0_4) ∧ w'.cell? ⟨gb689, 5, none⟩ = some (.int .i64 a0_5)) (ds := []) #[F,F,F,F,F,F] (by kernel_rfl) rfl rfl ⟨(bc BK689.out 0).trans rfl, (bc BK689.out 1).trans rfl, (bc BK689.out 2).trans rfl, (bc BK689.out 3).trans rfl, (bc BK689.out 4).trans rfl, (bc BK689.out 5).trans rfl⟩ (fun hHeld => ?_)
    generalize w26.drew = w27 at BK689 BK700 HB hHeld ⊢
    refine pure_ (i := 0) (N := some 55) (v := ?_) (a' := ?_) #[T,F,F,F,F,F] rfl rfl (by kernel_rfl) (fun _ _ _ h => h) (Or.inl ⟨by rfl, ?_⟩) ?_ ?_
    rotate_left
    ·intro w'
     go_simp
     with_reducible rfl
    rotate_left
    ·simp only [Act.put, psl, i64_w, i32_w]
     rfl
    refine take_ (i := 2) (N := some 57) (v := ?_) (a' := ?_) #[T,F,T,F,F,F] rfl rfl (by kernel_rfl) (fun _ _ _ h => h) (Or.inl ⟨by rfl, ?_⟩) hHeld ?_ ?_
    rotate_left
    ·rintro w' ⟨s0, s1, s2, s3, s4, s5⟩
     go_simp
     with_reducible rfl
    rotate_left
    ·simp only [Act.put, psl, i64_w, i32_w]
     rfl
    refine one_ (i := 1) (N := some 56) (fl 6 3 []) rfl rfl (by kernel_rfl) (by decide) (fun K hK => ?_)
    refine goes_ Try.func38 (by kernel_rfl) rfl #[.slice A1 l1.length c1] (by rfl) rfl rfl (by (try simp only [pml]); first | done | rfl | (simp only [pdt]; rfl)) ?_
    with_reducible refine (r_CheckAll.calls kj4 _ _ l1 t702 _ ?side1 ?side2 A15.out).mono ?_
    (case side1 => repeat (first | exact (Kd.C_below HR1.out HB.out) | (with_reducible refine Kd.C_alloc ?_ _) | (with_reducible refine Kd.C_drewN ?_ _) | (with_reducible refine Kd.C_drew ?_)))
    (case side2 => exact HC1.out)
    rintro e w28 ⟨rfl, hb⟩
    refine ⟨_, rfl, ?_⟩
    have n0_ := bB BK689 hb
    have n1_ := bB BK700 hb
    have n2_ := bS HB hb
    clear BK689 BK700 HB
    have BK689 := n0_
    have BK700 := n1_
    have HB := n2_
    clear n0_ n1_ n2_
    (try clear hb)
    (try clear hb2)
    (try clear hk)
    (try clear hi)
    refine hK.out _ _ ⟨(bc BK689.out 0).trans rfl, (bc BK689.out 1).trans rfl, (bc BK689.out 2).trans rfl, (bc BK689.out 3).trans rfl, (bc BK689.out 4).trans rfl, (bc BK689.out 5).trans rfl⟩ (fun hHeld => ?_)
    clear hK K
    refine norm_ (a' := ?_) ?_ ?_
    rotate_left
    ·show Act.put _ (some 56) _ = _
     simp only [Act.put, psl, i64_w, i32_w]
     rfl
    refine one_ (i := 3) (N := some 58) (fl 6 4 []) rfl rfl (by kernel_rfl) (by decide) (fun K hK => ?_)
    refine goes_ Try.func19 (by kernel_rfl) rfl #[.agg #[.int .i64 a0_0, .int .i64 a0_1, .int .i64 a0_2, .int .i64 a0_3, .int .i64 a0_4, .int .i64 a0_5]] (by rfl) rfl rfl (by (try simp only [pml]); first | done | rfl | (simp only [pdt]; rfl)) ?_
    with_reducible refine (r_Check.calls kj4 a0_0 a0_1 a0_2 a0_3 a0_4 a0_5 t703 _ A16.out).mono ?_
    rintro e w29 ⟨rfl, hb⟩
    refine ⟨_, rfl, ?_⟩
    have n0_ := bB BK689 hb
    have n1_ := bB BK700 hb
    have n2_ := bS HB hb
    clear BK689 BK700 HB
    have BK689 := n0_
    have BK700 := n1_
    have HB := n2_
    clear n0_ n1_ n2_
    (try clear hb)
    (try clear hb2)
    (try clear hk)
    (try clear hi)
    refine hK.out _ _ ⟨(bc BK689.out 0).trans rfl, (bc BK689.out 1).trans rfl, (bc BK689.out 2).trans rfl, (bc BK689.out 3).trans rfl, (bc BK689.out 4).trans rfl, (bc BK689.out 5).trans rfl⟩ (fun hHeld => ?_)
    clear hK K
    refine norm_ (a' := ?_) ?_ ?_
    rotate_left
    ·show Act.put _ (some 58) _ = _
     simp only [Act.put, psl, i64_w, i32_w]
     rfl
    refine pure_ (i := 4) (N := some 13) (v := ?_) (a' := ?_) #[T,T,T,T,T,F] rfl rfl (by kernel_rfl) (fun _ _ _ h => h) (Or.inl ⟨by rfl, ?_⟩) ?_ ?_
    rotate_left
    ·intro w'
     go_simp
     with_reducible rfl
    rotate_left
    ·simp only [Act.put, psl, i64_w, i32_w]
     rfl
    refine pure_ (i := 5) (N := some 14) (v := ?_) (a' := ?_) #[T,T,T,T,T,T] rfl rfl (by kernel_rfl) (fun _ _ _ h => h) (Or.inl ⟨by rfl, ?_⟩) ?_ ?_
    rotate_left
    ·intro w'
     go_simp
     with_reducible rfl
    rotate_left
    ·simp only [Act.put, psl, i64_w, i32_w]
     rfl
    refine done_ (by kernel_rfl) ?_
    go_upto_if 60 with (fail)
    go_cut [14] (fun v14 wc => ∃ (kq : Nat) (x14_16 : Int), v14 = .int .i64 x14_16 ∧ Aside0 (w_BoxCounts.j1 kq l1 t691 t692 t693 t694 t695 t699 t701 t702 x14_16 a0_0 a0_1 a0_2 a0_3 a0_4 a0_5 t696 t697 t698 = some r) ∧ Aside0 (kq ≤ kj4) ∧ Aside0 (wc.heap[gb689]? = some (.cells #[.int .i64 a0_0, .int .i64 a0_1, .int .i64 a0_2, .int .i64 a0_3, .int .i64 a0_4, .int .i64 a0_5] 25 (0, 0))) ∧ Aside0 (wc.heap[gb700]? = some (.cells #[.int .i64 t696, .int .i64 t697, .int .i64 t698] 23 (0, 0))) ∧ Aside0 (Below w.heap.size w wc))
    case first => as_aux_lemma =>
     have H := HC17.out
     clear HC17
     by_cases c30 : t703 = 0
     ·rw [if_pos c30] at H
      have c30b0 : (t703 == 0) = true := beq_iff_eq.mpr c30
      have c30b1 : (t703 != 0) = false := bne_eq_false_iff_eq.mpr c30
      clear c30
      (first | rw [c30b0] | (simp only [i64_w, i32_w]; rw [c30b0]) | skip)
      have H' := am H
      clear H
      go_wp2
      go_meet
      case rel => exact ⟨_, (t702), sqD, H', ⟨by have := HJ4.out; first | omega | exact Nat.le_refl _⟩, ⟨fb BK689.out⟩, ⟨fb BK700.out⟩, ⟨fW HB.out⟩⟩
     rw [if_neg c30] at H
     have c30b0 : (t703 == 0) = false := beq_eq_false_iff_ne.mpr c30
     have c30b1 : (t703 != 0) = true := bne_iff_ne.mpr c30
     (first | rw [c30b0] | (simp only [i64_w, i32_w]; rw [c30b0]) | skip)
     have H' := am H
     clear H
     go_wp2
     go_meet
     case rel => exact ⟨_, (t703), sqD, H', ⟨by have := HJ4.out; first | omega | exact Nat.le_refl _⟩, ⟨fb BK689.out⟩, ⟨fb BK700.out⟩, ⟨fW HB.out⟩⟩
    case rest => as_aux_lemma =>
     clear HC17
     try clear c1;try clear c2;try clear p2;try clear c3;try clear c4;try clear c8;try clear c8b0;try clear c8b1;try clear c9;try clear c9b0;try clear c9b1;try clear c10;try clear c11;try clear c12;try clear c19;try clear c23;try clear c30;try clear c30b0;try clear c30b1;try clear p2
     obtain ⟨kq, x14_16, rfl, HA, HJ16, BK689, BK700, HB⟩ := hcut
     cases kq with
     | zero => exact absurd HA.out (by simp [w_BoxCounts.j1])
     | succ kj16 =>
      have H := HA.out
      clear HA
      simp only [w_BoxCounts.j1] at H
      have HC31 := am H
      clear H
      go_upto_if 64 with (fail)
      go_cut [13, 14] (fun v13 v14 wc => ∃ (kq : Nat) (x13_30 : Int) (x14_30 : Int), v13 = .int .i64 x13_30 ∧ v14 = .int .i64 x14_30 ∧ Aside0 (w_BoxCounts.j2 kq l1 t691 t692 t693 t694 t695 t699 t701 x13_30 x14_30 a0_0 a0_1 a0_2 a0_3 a0_4 a0_5 t696 t697 t698 = some r) ∧ Aside0 (kq ≤ kj16) ∧ Aside0 (wc.heap[gb689]? = some (.cells #[.int .i64 a0_0, .int .i64 a0_1, .int .i64 a0_2, .int .i64 a0_3, .int .i64 a0_4, .int .i64 a0_5] 25 (0, 0))) ∧ Aside0 (wc.heap[gb700]? = some (.cells #[.int .i64 t696, .int .i64 t697, .int .i64 t698] 23 (0, 0))) ∧ Aside0 (Below w.heap.size w wc))
      case first => as_aux_lemma =>
       have H := HC31.out
       clear HC31
       by_cases c32 : (l1.length : Int) > 256
       ·rw [if_pos c32] at H
        have c32b0 : decide (256 < (l1.length : Int)) = true := decide_eq_true c32
        have c32b1 : decide (256 < l1.length) = true := decide_eq_true (by omega)
        clear c32
        (first | rw [c32b0] | (simp only [i64_w, i32_w]; rw [c32b0]) | skip)
        have H' := am H
        clear H
        go_wp2
        go_meet
        case rel => exact ⟨_, (7), (7), sqD, sqD, H', ⟨by have := HJ4.out; have := HJ16.out; first | omega | exact Nat.le_refl _⟩, ⟨fb BK689.out⟩, ⟨fb BK700.out⟩, ⟨fW HB.out⟩⟩
       rw [if_neg c32] at H
       have c32b0 : decide (256 < (l1.length : Int)) = false := decide_eq_false c32
       have c32b1 : decide (256 < l1.length) = false := decide_eq_false (by omega)
       clear c32
       (first | rw [c32b0] | (simp only [i64_w, i32_w]; rw [c32b0]) | skip)
       have H' := am H
       clear H
       go_wp2
       go_meet
       case rel => exact ⟨_, (t702), (x14_16), sqD, sqD, H', ⟨by have := HJ4.out; have := HJ16.out; first | omega | exact Nat.le_refl _⟩, ⟨fb BK689.out⟩, ⟨fb BK700.out⟩, ⟨fW HB.out⟩⟩
      case rest => as_aux_lemma =>
       clear HC31
       try clear c1;try clear c2;try clear p2;try clear c3;try clear c4;try clear c8;try clear c8b0;try clear c8b1;try clear c9;try clear c9b0;try clear c9b1;try clear c10;try clear c11;try clear c12;try clear c19;try clear c23;try clear c30;try clear c30b0;try clear c30b1;try clear c32;try clear c32b0;try clear c32b1;try clear p2
       obtain ⟨kq, x13_30, x14_30, rfl, rfl, HA, HJ30, BK689, BK700, HB⟩ := hcut
       cases kq with
       | zero => exact absurd HA.out (by simp [w_BoxCounts.j2])
       | succ kj30 =>
        have H := HA.out
        clear HA
        simp only [w_BoxCounts.j2] at H
        have HC33 := am H
        clear H
        go_upto_if 67 with (fail)
        go_cut [] (fun wc => ∃ (kq : Nat), Aside0 (w_BoxCounts.j5 kq l1 t699 t701 x14_30 a0_0 a0_1 a0_2 a0_3 a0_4 a0_5 t696 t697 t698 = some r) ∧ Aside0 (kq ≤ kj30) ∧ Aside0 (wc.heap[gb689]? = some (.cells #[.int .i64 a0_0, .int .i64 a0_1, .int .i64 a0_2, .int .i64 a0_3, .int .i64 a0_4, .int .i64 a0_5] 25 (0, 0))) ∧ Aside0 (wc.heap[gb700]? = some (.cells #[.int .i64 t696, .int .i64 t697, .int .i64 t698] 23 (0, 0))) ∧ Aside0 (Below w.heap.size w wc))
        case first => as_aux_lemma =>
         have H := HC33.out
         clear HC33
         by_cases c34 : x13_30 = 0
         rotate_left
         ·rw [if_neg c34] at H
          have c34b0 : (x13_30 == 0) = false := beq_eq_false_iff_ne.mpr c34
          have c34b1 : (x13_30 != 0) = true := bne_iff_ne.mpr c34
          (first | rw [c34b0] | (simp only [i64_w, i32_w]; rw [c34b0]) | skip)
          have HC52 := am H
          clear H
          go_upto_region 16 with (fail)
          go_cut [87] (fun v87 wc => ∃ (kq : Nat) (x87_51 : Bool), v87 = .bool x87_51 ∧ Aside0 (w_BoxCounts.j4 kq l1 t699 t701 x14_30 x87_51 a0_0 a0_1 a0_2 a0_3 a0_4 a0_5 t696 t697 t698 = some r) ∧ Aside0 (kq ≤ kj30) ∧ Aside0 (wc.heap[gb689]? = some (.cells #[.int .i64 a0_0, .int .i64 a0_1, .int .i64 a0_2, .int .i64 a0_3, .int .i64 a0_4, .int .i64 a0_5] 25 (0, 0))) ∧ Aside0 (wc.heap[gb700]? = some (.cells #[.int .i64 t696, .int .i64 t697, .int .i64 t698] 23 (0, 0))) ∧ Aside0 (Below w.heap.size w wc))
          case first => as_aux_lemma =>
           have H := HC52.out
           clear HC52
           by_cases c53 : t692 = x13_30
           rotate_left
           ·rw [if_neg c53] at H
            have c53b0 : (t692 == x13_30) = false := beq_eq_false_iff_ne.mpr c53
            have c53b1 : (t692 != x13_30) = true := bne_iff_ne.mpr c53
            (first | rw [c53b0] | (simp only [i64_w, i32_w]; rw [c53b0]) | skip)
            have H' := am H
            clear H
            go_wp2
            go_meet
            case rel => exact ⟨_, (true), sqD, H', ⟨by have := HJ4.out; have := HJ16.out; have := HJ30.out; first | omega | exact Nat.le_refl _⟩, ⟨fb BK689.out⟩, ⟨fb BK700.out⟩, ⟨fW HB.out⟩⟩
           rw [if_pos c53] at H
           have c53b0 : (t692 == x13_30) = true := beq_iff_eq.mpr c53
           have c53b1 : (t692 != x13_30) = false := bne_eq_false_iff_eq.mpr c53
           clear c53
           (first | rw [c53b0] | (simp only [i64_w, i32_w]; rw [c53b0]) | skip)
           by_cases c54 : t695 = x13_30
           rotate_left
           ·rw [if_neg c54] at H
            have c54b0 : (t695 == x13_30) = false := beq_eq_false_iff_ne.mpr c54
            have c54b1 : (t695 != x13_30) = true := bne_iff_ne.mpr c54
            have H' := am H
            clear H
            go_wp2
            go_meet
            case rel => exact ⟨_, (true), sqD, H', ⟨by have := HJ4.out; have := HJ16.out; have := HJ30.out; first | omega | exact Nat.le_refl _⟩, ⟨fb BK689.out⟩, ⟨fb BK700.out⟩, ⟨fW HB.out⟩⟩
           rw [if_pos c54] at H
           have c54b0 : (t695 == x13_30) = true := beq_iff_eq.mpr c54
           have c54b1 : (t695 != x13_30) = false := bne_eq_false_iff_eq.mpr c54
           clear c54
           by_cases c55 : t691 = 0
           rotate_left
           ·rw [if_neg c55] at H
            have c55b0 : (t691 == 0) = false := beq_eq_false_iff_ne.mpr c55
            have c55b1 : (t691 != 0) = true := bne_iff_ne.mpr c55
            have H' := am H
            clear H
            go_wp2
            go_meet
            case rel => exact ⟨_, (true), sqD, H', ⟨by have := HJ4.out; have := HJ16.out; have := HJ30.out; first | omega | exact Nat.le_refl _⟩, ⟨fb BK689.out⟩, ⟨fb BK700.out⟩, ⟨fW HB.out⟩⟩
           rw [if_pos c55] at H
           have c55b0 : (t691 == 0) = true := beq_iff_eq.mpr c55
           have c55b1 : (t691 != 0) = false := bne_eq_false_iff_eq.mpr c55
           clear c55
           by_cases c56 : t693 = 0
           ·rw [if_pos c56] at H
            have c56b0 : (t693 == 0) = true := beq_iff_eq.mpr c56
            have c56b1 : (t693 != 0) = false := bne_eq_false_iff_eq.mpr c56
            clear c56
            have H' := am H
            clear H
            go_wp2
            go_meet
            case rel => exact ⟨_, ((t694 != 0)), sqD, H', ⟨by have := HJ4.out; have := HJ16.out; have := HJ30.out; first | omega | exact Nat.le_refl _⟩, ⟨fb BK689.out⟩, ⟨fb BK700.out⟩, ⟨fW HB.out⟩⟩
           rw [if_neg c56] at H
           have c56b0 : (t693 == 0) = false := beq_eq_false_iff_ne.mpr c56
           have c56b1 : (t693 != 0) = true := bne_iff_ne.mpr c56
           have H' := am H
           clear H
           go_wp2
           go_meet
           case rel => exact ⟨_, (true), sqD, H', ⟨by have := HJ4.out; have := HJ16.out; have := HJ30.out; first | omega | exact Nat.le_refl _⟩, ⟨fb BK689.out⟩, ⟨fb BK700.out⟩, ⟨fW HB.out⟩⟩
          case rest => as_aux_lemma =>
           clear HC52
           try clear c1;try clear c2;try clear p2;try clear c3;try clear c4;try clear c5;try clear c8;try clear c8b0;try clear c8b1;try clear c9;try clear c9b0;try clear c9b1;try clear c10;try clear c11;try clear c12;try clear c19;try clear c23;try clear c30;try clear c30b0;try clear c30b1;try clear c32;try clear c32b0;try clear c32b1;try clear c34;try clear c34b0;try clear c34b1;try clear c38;try clear c38b0;try clear c38b1;try clear c40;try clear c40b0;try clear c40b1;try clear c41;try clear c41b0;try clear c41b1;try clear c42;try clear c42b0;try clear c42b1;try clear c43;try clear c43b0;try clear c43b1;try clear c43b2;try clear c45;try clear c51;try clear c53;try clear c53b0;try clear c53b1;try clear c54;try clear c54b0;try clear c54b1;try clear c55;try clear c55b0;try clear c55b1;try clear c56;try clear c56b0;try clear c56b1;try clear p2
           obtain ⟨kq, x87_51, rfl, HA, HJ51, BK689, BK700, HB⟩ := hcut
           cases kq with
           | zero => exact absurd HA.out (by simp [w_BoxCounts.j4])
           | succ kj51 =>
            have H := HA.out
            clear HA
            simp only [w_BoxCounts.j4] at H
            by_cases c57 : x87_51 = true
            ·subst c57
             have H1 : (some false) = some r := by rw [if_pos rfl] at H; exact H
             clear H
             have H := H1
             clear H1
             obtain rfl := Option.some.inj H
             go_wp2
             go_ret
             exact ⟨sqE, fW HB.out⟩
            replace c57 := Bool.eq_false_iff.mpr c57
            subst c57
            have H1 : (w_BoxCounts.j5 kj51 l1 t699 t701 x14_30 a0_0 a0_1 a0_2 a0_3 a0_4 a0_5 t696 t697 t698) = some r := by rw [if_neg (show ¬ (false = true) by decide)] at H; exact H
            clear H
            have H := H1
            clear H1
            have H' := am H
            clear H
            go_wp2
            go_meet
            case rel => exact ⟨_, H', ⟨by have := HJ4.out; have := HJ16.out; have := HJ30.out; have := HJ51.out; first | omega | exact Nat.le_refl _⟩, ⟨fb BK689.out⟩, ⟨fb BK700.out⟩, ⟨fW HB.out⟩⟩
         rw [if_pos c34] at H
         have c34b0 : (x13_30 == 0) = true := beq_iff_eq.mpr c34
         have c34b1 : (x13_30 != 0) = false := bne_eq_false_iff_eq.mpr c34
         clear c34
         (first | rw [c34b0] | (simp only [i64_w, i32_w]; rw [c34b0]) | skip)
         replace H := Option.bind_eq_some_iff.mp H
         obtain ⟨⟨t704, t705, t706⟩, A350, H⟩ := H
         replace H : (if t692 = 0 then ((r_Total.f kj30 l1).bind fun t707 => (if t691 = t707 then (if t693 = t704 then (if t694 = t705 then (if (t706 != (t695 == 0)) = true then (w_BoxCounts.j3 kj30 l1 t699 t701 x14_30 true a0_0 a0_1 a0_2 a0_3 a0_4 a0_5 t696 t697 t698) else (if t706 = true then (w_BoxCounts.j3 kj30 l1 t699 t701 x14_30 false a0_0 a0_1 a0_2 a0_3 a0_4 a0_5 t696 t697 t698) else (w_BoxCounts.j3 kj30 l1 t699 t701 x14_30 (t695 != 9) a0_0 a0_1 a0_2 a0_3 a0_4 a0_5 t696 t697 t698))) else (w_BoxCounts.j3 kj30 l1 t699 t701 x14_30 true a0_0 a0_1 a0_2 a0_3 a0_4 a0_5 t696 t697 t698)) else (w_BoxCounts.j3 kj30 l1 t699 t701 x14_30 true a0_0 a0_1 a0_2 a0_3 a0_4 a0_5 t696 t697 t698)) else (w_BoxCounts.j3 kj30 l1 t699 t701 x14_30 true a0_0 a0_1 a0_2 a0_3 a0_4 a0_5 t696 t697 t698))) else (w_BoxCounts.j3 kj30 l1 t699 t701 x14_30 true a0_0 a0_1 a0_2 a0_3 a0_4 a0_5 t696 t697 t698)) = some r := H
         have A35 := am A350
         clear A350
         have HC36 := am H
         clear H
         go_upto_region 19 with (first | ((with_reducible refine gc (f := 43) rfl ?_); refine goesL_ (some 90) rfl rfl Try.func43 (by kernel_rfl) rfl #[.slice A1 l1.length c1] rfl (by (try simp only [pml]); first | done | rfl | (simp only [pdt]; rfl)) ?_; (with_reducible refine (r_Clash.calls kj30 _ _ l1 t704 t705 t706 _ ?side1 ?side2 A35.out).mono ?_); (case side1 => repeat (first | exact (Kd.C_below HR1.out HB.out) | (with_reducible refine Kd.C_alloc ?_ _) | (with_reducible refine Kd.C_drewN ?_ _) | (with_reducible refine Kd.C_drew ?_))); (case side2 => exact HC1.out); rintro e w37 ⟨rfl, hb⟩; refine ⟨_, rfl, ?_⟩; replace BK689 := bB BK689 hb; replace BK700 := bB BK700 hb; replace HB := bS HB hb; (try clear hb); (try clear hb2); (try clear hk); (try clear hi)))
         (try simp only [Act.put, psl])
         go_cut [125] (fun v125 wc => ∃ (kq : Nat) (x125_35 : Bool), v125 = .bool x125_35 ∧ Aside0 (w_BoxCounts.j3 kq l1 t699 t701 x14_30 x125_35 a0_0 a0_1 a0_2 a0_3 a0_4 a0_5 t696 t697 t698 = some r) ∧ Aside0 (kq ≤ kj30) ∧ Aside0 (wc.heap[gb689]? = some (.cells #[.int .i64 a0_0, .int .i64 a0_1, .int .i64 a0_2, .int .i64 a0_3, .int .i64 a0_4, .int .i64 a0_5] 25 (0, 0))) ∧ Aside0 (wc.heap[gb700]? = some (.cells #[.int .i64 t696, .int .i64 t697, .int .i64 t698] 23 (0, 0))) ∧ Aside0 (Below w.heap.size w wc))
         case first => as_aux_lemma =>
          have H := HC36.out
          clear HC36
          by_cases c38 : t692 = 0
          rotate_left
          ·rw [if_neg c38] at H
           have c38b0 : (t692 == 0) = false := beq_eq_false_iff_ne.mpr c38
           have c38b1 : (t692 != 0) = true := bne_iff_ne.mpr c38
           (first | rw [c38b0] | (simp only [i64_w, i32_w]; rw [c38b0]) | skip)
           have H' := am H
           clear H
           go_wp2
           go_meet
           case rel => exact ⟨_, (true), sqD, H', ⟨by have := HJ4.out; have := HJ16.out; have := HJ30.out; first | omega | exact Nat.le_refl _⟩, ⟨fb BK689.out⟩, ⟨fb BK700.out⟩, ⟨fW HB.out⟩⟩
          rw [if_pos c38] at H
          have c38b0 : (t692 == 0) = true := beq_iff_eq.mpr c38
          have c38b1 : (t692 != 0) = false := bne_eq_false_iff_eq.mpr c38
          clear c38
          (first | rw [c38b0] | (simp only [i64_w, i32_w]; rw [c38b0]) | skip)
          replace H := Option.bind_eq_some_iff.mp H
          obtain ⟨t707, A390, H⟩ := H
          replace H : (if t691 = t707 then (if t693 = t704 then (if t694 = t705 then (if (t706 != (t695 == 0)) = true then (w_BoxCounts.j3 kj30 l1 t699 t701 x14_30 true a0_0 a0_1 a0_2 a0_3 a0_4 a0_5 t696 t697 t698) else (if t706 = true then (w_BoxCounts.j3 kj30 l1 t699 t701 x14_30 false a0_0 a0_1 a0_2 a0_3 a0_4 a0_5 t696 t697 t698) else (w_BoxCounts.j3 kj30 l1 t699 t701 x14_30 (t695 != 9) a0_0 a0_1 a0_2 a0_3 a0_4 a0_5 t696 t697 t698))) else (w_BoxCounts.j3 kj30 l1 t699 t701 x14_30 true a0_0 a0_1 a0_2 a0_3 a0_4 a0_5 t696 t697 t698)) else (w_BoxCounts.j3 kj30 l1 t699 t701 x14_30 true a0_0 a0_1 a0_2 a0_3 a0_4 a0_5 t696 t697 t698)) else (w_BoxCounts.j3 kj30 l1 t699 t701 x14_30 true a0_0 a0_1 a0_2 a0_3 a0_4 a0_5 t696 t697 t698)) = some r := H
          have A39 := am A390
          clear A390
          by_cases c40 : t691 = t707
          rotate_left
          ·rw [if_neg c40] at H
           have c40b0 : (t691 == t707) = false := beq_eq_false_iff_ne.mpr c40
           have c40b1 : (t691 != t707) = true := bne_iff_ne.mpr c40
           have H' := am H
           clear H
           go_wp2_with (first | (go_at_call 44; (with_reducible refine (r_Total.calls kj30 _ _ l1 t707 _ ?side1 ?side2 A39.out).mono ?_); (case side1 => repeat (first | exact (Kd.C_below HR1.out HB.out) | (with_reducible refine Kd.C_alloc ?_ _) | (with_reducible refine Kd.C_drewN ?_ _) | (with_reducible refine Kd.C_drew ?_))); (case side2 => exact HC1.out); rintro e w50 ⟨rfl, hb⟩; replace BK689 := bB BK689 hb; replace BK700 := bB BK700 hb; replace HB := bS HB hb; (try clear hb); (try clear hb2); (try clear hk); (try clear hi)))
           go_meet
           case rel => exact ⟨_, (true), sqD, H', ⟨by have := HJ4.out; have := HJ16.out; have := HJ30.out; first | omega | exact Nat.le_refl _⟩, ⟨fb BK689.out⟩, ⟨fb BK700.out⟩, ⟨fW HB.out⟩⟩
          rw [if_pos c40] at H
          have c40b0 : (t691 == t707) = true := beq_iff_eq.mpr c40
          have c40b1 : (t691 != t707) = false := bne_eq_false_iff_eq.mpr c40
          clear c40
          by_cases c41 : t693 = t704
          rotate_left
          ·rw [if_neg c41] at H
           have c41b0 : (t693 == t704) = false := beq_eq_false_iff_ne.mpr c41
           have c41b1 : (t693 != t704) = true := bne_iff_ne.mpr c41
           have H' := am H
           clear H
           go_wp2_with (first | (go_at_call 44; (with_reducible refine (r_Total.calls kj30 _ _ l1 t707 _ ?side1 ?side2 A39.out).mono ?_); (case side1 => repeat (first | exact (Kd.C_below HR1.out HB.out) | (with_reducible refine Kd.C_alloc ?_ _) | (with_reducible refine Kd.C_drewN ?_ _) | (with_reducible refine Kd.C_drew ?_))); (case side2 => exact HC1.out); rintro e w49 ⟨rfl, hb⟩; replace BK689 := bB BK689 hb; replace BK700 := bB BK700 hb; replace HB := bS HB hb; (try clear hb); (try clear hb2); (try clear hk); (try clear hi)))
           go_meet
           case rel => exact ⟨_, (true), sqD, H', ⟨by have := HJ4.out; have := HJ16.out; have := HJ30.out; first | omega | exact Nat.le_refl _⟩, ⟨fb BK689.out⟩, ⟨fb BK700.out⟩, ⟨fW HB.out⟩⟩
          rw [if_pos c41] at H
          have c41b0 : (t693 == t704) = true := beq_iff_eq.mpr c41
          have c41b1 : (t693 != t704) = false := bne_eq_false_iff_eq.mpr c41
          clear c41
          by_cases c42 : t694 = t705
          rotate_left
          ·rw [if_neg c42] at H
           have c42b0 : (t694 == t705) = false := beq_eq_false_iff_ne.mpr c42
           have c42b1 : (t694 != t705) = true := bne_iff_ne.mpr c42
           have H' := am H
           clear H
           go_wp2_with (first | (go_at_call 44; (with_reducible refine (r_Total.calls kj30 _ _ l1 t707 _ ?side1 ?side2 A39.out).mono ?_); (case side1 => repeat (first | exact (Kd.C_below HR1.out HB.out) | (with_reducible refine Kd.C_alloc ?_ _) | (with_reducible refine Kd.C_drewN ?_ _) | (with_reducible refine Kd.C_drew ?_))); (case side2 => exact HC1.out); rintro e w48 ⟨rfl, hb⟩; replace BK689 := bB BK689 hb; replace BK700 := bB BK700 hb; replace HB := bS HB hb; (try clear hb); (try clear hb2); (try clear hk); (try clear hi)))
           go_meet
           case rel => exact ⟨_, (true), sqD, H', ⟨by have := HJ4.out; have := HJ16.out; have := HJ30.out; first | omega | exact Nat.le_refl _⟩, ⟨fb BK689.out⟩, ⟨fb BK700.out⟩, ⟨fW HB.out⟩⟩
          rw [if_pos c42] at H
          have c42b0 : (t694 == t705) = true := beq_iff_eq.mpr c42
          have c42b1 : (t694 != t705) = false := bne_eq_false_iff_eq.mpr c42
          clear c42
          by_cases c43 : (t706 != (t695 == 0)) = true
          ·rw [if_pos c43] at H
           have c43b0 : (t706 != (t695 == 0)) = true := c43
           (try (have c43b1 : decide (t706 = (t695 == 0)) = false := by simpa using c43))
           (try (have c43b2 : (t706 == (t695 == 0)) = false := by simpa using c43))
           (try (have c43b3 : ¬ (t706 = (t695 == 0)) := by simpa using c43))
           clear c43
           have H' := am H
           clear H
           go_wp2_with (first | (go_at_call 44; (with_reducible refine (r_Total.calls kj30 _ _ l1 t707 _ ?side1 ?side2 A39.out).mono ?_); (case side1 => repeat (first | exact (Kd.C_below HR1.out HB.out) | (with_reducible refine Kd.C_alloc ?_ _) | (with_reducible refine Kd.C_drewN ?_ _) | (with_reducible refine Kd.C_drew ?_))); (case side2 => exact HC1.out); rintro e w44 ⟨rfl, hb⟩; replace BK689 := bB BK689 hb; replace BK700 := bB BK700 hb; replace HB := bS HB hb; (try clear hb); (try clear hb2); (try clear hk); (try clear hi)))
           go_meet
           case rel => exact ⟨_, (true), sqD, H', ⟨by have := HJ4.out; have := HJ16.out; have := HJ30.out; first | omega | exact Nat.le_refl _⟩, ⟨fb BK689.out⟩, ⟨fb BK700.out⟩, ⟨fW HB.out⟩⟩
          rw [if_neg c43] at H
          have c43b0 : (t706 != (t695 == 0)) = false := by simpa using c43
          (try (have c43b1 : decide (t706 = (t695 == 0)) = true := by simpa using c43))
          (try (have c43b2 : (t706 == (t695 == 0)) = true := by simpa using c43))
          clear c43
          by_cases c45 : t706 = true
          ·subst c45
           have H1 : (w_BoxCounts.j3 kj30 l1 t699 t701 x14_30 false a0_0 a0_1 a0_2 a0_3 a0_4 a0_5 t696 t697 t698) = some r := by rw [if_pos rfl] at H; exact H
           clear H
           have H := H1
           clear H1
           have H' := am H
           clear H
           go_wp2_with (first | (go_at_call 44; (with_reducible refine (r_Total.calls kj30 _ _ l1 t707 _ ?side1 ?side2 A39.out).mono ?_); (case side1 => repeat (first | exact (Kd.C_below HR1.out HB.out) | (with_reducible refine Kd.C_alloc ?_ _) | (with_reducible refine Kd.C_drewN ?_ _) | (with_reducible refine Kd.C_drew ?_))); (case side2 => exact HC1.out); rintro e w46 ⟨rfl, hb⟩; replace BK689 := bB BK689 hb; replace BK700 := bB BK700 hb; replace HB := bS HB hb; (try clear hb); (try clear hb2); (try clear hk); (try clear hi)))
           go_meet
           case rel => exact ⟨_, (false), sqD, H', ⟨by have := HJ4.out; have := HJ16.out; have := HJ30.out; first | omega | exact Nat.le_refl _⟩, ⟨fb BK689.out⟩, ⟨fb BK700.out⟩, ⟨fW HB.out⟩⟩
          replace c45 := Bool.eq_false_iff.mpr c45
          subst c45
          have H1 : (w_BoxCounts.j3 kj30 l1 t699 t701 x14_30 (t695 != 9) a0_0 a0_1 a0_2 a0_3 a0_4 a0_5 t696 t697 t698) = some r := by rw [if_neg (show ¬ (false = true) by decide)] at H; exact H
          clear H
          have H := H1
          clear H1
          have H' := am H
          clear H
          go_wp2_with (first | (go_at_call 44; (with_reducible refine (r_Total.calls kj30 _ _ l1 t707 _ ?side1 ?side2 A39.out).mono ?_); (case side1 => repeat (first | exact (Kd.C_below HR1.out HB.out) | (with_reducible refine Kd.C_alloc ?_ _) | (with_reducible refine Kd.C_drewN ?_ _) | (with_reducible refine Kd.C_drew ?_))); (case side2 => exact HC1.out); rintro e w47 ⟨rfl, hb⟩; replace BK689 := bB BK689 hb; replace BK700 := bB BK700 hb; replace HB := bS HB hb; (try clear hb); (try clear hb2); (try clear hk); (try clear hi)))
          go_meet
          case rel => exact ⟨_, ((t695 != 9)), sqD, H', ⟨by have := HJ4.out; have := HJ16.out; have := HJ30.out; first | omega | exact Nat.le_refl _⟩, ⟨fb BK689.out⟩, ⟨fb BK700.out⟩, ⟨fW HB.out⟩⟩
         case rest => as_aux_lemma =>
          clear HC36
          try clear c1;try clear c2;try clear p2;try clear c3;try clear c4;try clear c8;try clear c8b0;try clear c8b1;try clear c9;try clear c9b0;try clear c9b1;try clear c10;try clear c11;try clear c12;try clear c19;try clear c23;try clear c30;try clear c30b0;try clear c30b1;try clear c32;try clear c32b0;try clear c32b1;try clear c34;try clear c34b0;try clear c34b1;try clear c38;try clear c38b0;try clear c38b1;try clear c40;try clear c40b0;try clear c40b1;try clear c41;try clear c41b0;try clear c41b1;try clear c42;try clear c42b0;try clear c42b1;try clear c43;try clear c43b0;try clear c43b1;try clear c43b2;try clear c45;try clear p2
          obtain ⟨kq, x125_35, rfl, HA, HJ35, BK689, BK700, HB⟩ := hcut
          cases kq with
          | zero => exact absurd HA.out (by simp [w_BoxCounts.j3])
          | succ kj35 =>
           have H := HA.out
           clear HA
           simp only [w_BoxCounts.j3] at H
           by_cases c51 : x125_35 = true
           ·subst c51
            have H1 : (some false) = some r := by rw [if_pos rfl] at H; exact H
            clear H
            have H := H1
            clear H1
            obtain rfl := Option.some.inj H
            go_wp2
            go_ret
            exact ⟨sqE, fW HB.out⟩
           replace c51 := Bool.eq_false_iff.mpr c51
           subst c51
           have H1 : (w_BoxCounts.j5 kj35 l1 t699 t701 x14_30 a0_0 a0_1 a0_2 a0_3 a0_4 a0_5 t696 t697 t698) = some r := by rw [if_neg (show ¬ (false = true) by decide)] at H; exact H
           clear H
           have H := H1
           clear H1
           have H' := am H
           clear H
           go_wp2
           go_meet
           case rel => exact ⟨_, H', ⟨by have := HJ4.out; have := HJ16.out; have := HJ30.out; have := HJ35.out; first | omega | exact Nat.le_refl _⟩, ⟨fb BK689.out⟩, ⟨fb BK700.out⟩, ⟨fW HB.out⟩⟩
        case rest => as_aux_lemma =>
         clear HC33
         try clear c1;try clear c2;try clear p2;try clear c3;try clear c4;try clear c5;try clear c8;try clear c8b0;try clear c8b1;try clear c9;try clear c9b0;try clear c9b1;try clear c10;try clear c11;try clear c12;try clear c19;try clear c23;try clear c30;try clear c30b0;try clear c30b1;try clear c32;try clear c32b0;try clear c32b1;try clear c34;try clear c34b0;try clear c34b1;try clear c38;try clear c38b0;try clear c38b1;try clear c40;try clear c40b0;try clear c40b1;try clear c41;try clear c41b0;try clear c41b1;try clear c42;try clear c42b0;try clear c42b1;try clear c43;try clear c43b0;try clear c43b1;try clear c43b2;try clear c45;try clear c51;try clear c53;try clear c53b0;try clear c53b1;try clear c54;try clear c54b0;try clear c54b1;try clear c55;try clear c55b0;try clear c55b1;try clear c56;try clear c56b0;try clear c56b1;try clear c57;try clear p2
         obtain ⟨kq, HA, HJ32, BK689, BK700, HB⟩ := hcut
         cases kq with
         | zero => exact absurd HA.out (by simp [w_BoxCounts.j5])
         | succ kj32 =>
          have H := HA.out
          clear HA
          simp only [w_BoxCounts.j5] at H
          by_cases c58 : x14_30 = 0
          rotate_left
          ·rw [if_neg c58] at H
           have c58b0 : (x14_30 == 0) = false := beq_eq_false_iff_ne.mpr c58
           have c58b1 : (x14_30 != 0) = true := bne_iff_ne.mpr c58
           have HC103 := am H
           clear H
           go_upto_region 22 with (fail)
           go_cut [4] (fun v4 wc => ∃ (kq : Nat) (x4_102 : Bool), v4 = .bool x4_102 ∧ Aside0 (w_BoxCounts.j6 kq x4_102 = some r) ∧ Aside0 (kq ≤ kj32) ∧ Aside0 (wc.heap[gb689]? = some (.cells #[.int .i64 a0_0, .int .i64 a0_1, .int .i64 a0_2, .int .i64 a0_3, .int .i64 a0_4, .int .i64 a0_5] 25 (0, 0))) ∧ Aside0 (wc.heap[gb700]? = some (.cells #[.int .i64 t696, .int .i64 t697, .int .i64 t698] 23 (0, 0))) ∧ Aside0 (Below w.heap.size w wc))
           case first => as_aux_lemma =>
            have H := HC103.out
            clear HC103
            by_cases c104 : t699 = x14_30
            rotate_left
            ·rw [if_neg c104] at H
             have c104b0 : (t699 == x14_30) = false := beq_eq_false_iff_ne.mpr c104
             have c104b1 : (t699 != x14_30) = true := bne_iff_ne.mpr c104
             (first | rw [c104b0] | (simp only [i64_w, i32_w]; rw [c104b0]) | skip)
             have H' := am H
             clear H
             go_wp2
             go_meet
             case rel => exact ⟨_, (false), sqD, H', ⟨by have := HJ4.out; have := HJ16.out; have := HJ30.out; have := HJ32.out; first | omega | exact Nat.le_refl _⟩, ⟨fb BK689.out⟩, ⟨fb BK700.out⟩, ⟨fW HB.out⟩⟩
            rw [if_pos c104] at H
            have c104b0 : (t699 == x14_30) = true := beq_iff_eq.mpr c104
            have c104b1 : (t699 != x14_30) = false := bne_eq_false_iff_eq.mpr c104
            clear c104
            (first | rw [c104b0] | (simp only [i64_w, i32_w]; rw [c104b0]) | skip)
            by_cases c105 : t701 = x14_30
            ·rw [if_pos c105] at H
             have c105b0 : (t701 == x14_30) = true := beq_iff_eq.mpr c105
             have c105b1 : (t701 != x14_30) = false := bne_eq_false_iff_eq.mpr c105
             clear c105
             have H' := am H
             clear H
             have hnb106 := NB700_689.out
             have hnc106 := NB689_700.out
             have := yC1 BK700
             have := kC1 BK700
             have := kC2 BK700
             have := bf BK700.out 0
             have := bf BK700.out 1
             have := bf BK700.out 2
             go_wp2
             go_meet
             case rel => exact ⟨_, ((t696 == 0 && (t697 == 0 && (t698 == 0)))), sqD, H', ⟨by have := HJ4.out; have := HJ16.out; have := HJ30.out; have := HJ32.out; first | omega | exact Nat.le_refl _⟩, ⟨fb BK689.out⟩, ⟨fb BK700.out⟩, ⟨fW HB.out⟩⟩
            rw [if_neg c105] at H
            have c105b0 : (t701 == x14_30) = false := beq_eq_false_iff_ne.mpr c105
            have c105b1 : (t701 != x14_30) = true := bne_iff_ne.mpr c105
            have H' := am H
            clear H
            go_wp2
            go_meet
            case rel => exact ⟨_, (false), sqD, H', ⟨by have := HJ4.out; have := HJ16.out; have := HJ30.out; have := HJ32.out; first | omega | exact Nat.le_refl _⟩, ⟨fb BK689.out⟩, ⟨fb BK700.out⟩, ⟨fW HB.out⟩⟩
           case rest => as_aux_lemma =>
            clear HC103
            try clear c1;try clear c2;try clear p2;try clear c3;try clear c4;try clear c5;try clear c6;try clear c7;try clear c8;try clear c8b0;try clear c8b1;try clear c9;try clear c9b0;try clear c9b1;try clear c10;try clear c11;try clear c12;try clear c19;try clear c23;try clear c30;try clear c30b0;try clear c30b1;try clear c32;try clear c32b0;try clear c32b1;try clear c34;try clear c34b0;try clear c34b1;try clear c38;try clear c38b0;try clear c38b1;try clear c40;try clear c40b0;try clear c40b1;try clear c41;try clear c41b0;try clear c41b1;try clear c42;try clear c42b0;try clear c42b1;try clear c43;try clear c43b0;try clear c43b1;try clear c43b2;try clear c45;try clear c51;try clear c53;try clear c53b0;try clear c53b1;try clear c54;try clear c54b0;try clear c54b1;try clear c55;try clear c55b0;try clear c55b1;try clear c56;try clear c56b0;try clear c56b1;try clear c57;try clear c58;try clear c58b0;try clear c58b1;try clear c61;try clear c65;try clear c66;try clear c68;try clear c68b0;try clear c68b1;try clear c68b2;try clear c69;try clear c69b0;try clear c69b1;try clear c69b2;try clear c70;try clear c72;try clear c73;try clear c75;try clear c79;try clear c79b0;try clear c79b1;try clear c81;try clear c82;try clear c84;try clear c88;try clear c89;try clear c91;try clear c93;try clear c94;try clear c96;try clear c98;try clear c99;try clear c101;try clear c104;try clear c104b0;try clear c104b1;try clear c105;try clear c105b0;try clear c105b1;try clear c106;try clear p2
            obtain ⟨kq, x4_102, rfl, HA, HJ102, BK689, BK700, HB⟩ := hcut
            cases kq with
            | zero => exact absurd HA.out (by simp [w_BoxCounts.j6])
            | succ kj102 =>
             have H := HA.out
             clear HA
             simp only [w_BoxCounts.j6] at H
             obtain rfl := Option.some.inj H
             go_wp2
             go_ret
             exact ⟨sqE, fW HB.out⟩
          rw [if_pos c58] at H
          have c58b0 : (x14_30 == 0) = true := beq_iff_eq.mpr c58
          have c58b1 : (x14_30 != 0) = false := bne_eq_false_iff_eq.mpr c58
          clear c58
          replace H := Option.bind_eq_some_iff.mp H
          obtain ⟨⟨t708, t709, t710, t711⟩, A590, H⟩ := H
          replace H : (if (t696 == t708 && (t697 == t709 && (t698 == t710))) = true then (if (t711 == (t699 == 0)) = true then (if t711 = true then ((r_Partition.f kj32 a0_0 a0_1 a0_2 a0_3 a0_4 a0_5 l1).bind fun t713 => (w_BoxCounts.j7 kj32 (t701 == t713))) else (if t699 = 9 then ((r_Partition.f kj32 a0_0 a0_1 a0_2 a0_3 a0_4 a0_5 l1).bind fun t714 => (w_BoxCounts.j7 kj32 (t701 == t714))) else (w_BoxCounts.j7 kj32 false))) else (w_BoxCounts.j7 kj32 false)) else (w_BoxCounts.j7 kj32 false)) = some r := H
          have A59 := am A590
          clear A590
          have HC60 := am H
          clear H
          have hnb61 := NB689_700.out
          have hnc61 := NB700_689.out
          have := yC1 BK689
          have := kC1 BK689
          have := kC2 BK689
          have := kC3 BK689
          have := kC4 BK689
          have := kC5 BK689
          have := bf BK689.out 0
          have := bf BK689.out 1
          have := bf BK689.out 2
          have := bf BK689.out 3
          have := bf BK689.out 4
          have := bf BK689.out 5
          go_upto_region 24 with (first | ((with_reducible refine gc (f := 45) rfl ?_); refine goesL_ (some 144) rfl rfl Try.func45 (by kernel_rfl) rfl #[.agg #[.int .i64 a0_0, .int .i64 a0_1, .int .i64 a0_2, .int .i64 a0_3, .int .i64 a0_4, .int .i64 a0_5], .slice A1 l1.length c1] rfl (by (try simp only [pml]); first | done | rfl | (simp only [pdt]; rfl)) ?_; (with_reducible refine (r_Gap.calls kj32 a0_0 a0_1 a0_2 a0_3 a0_4 a0_5 _ _ l1 t708 t709 t710 t711 _ ?side1 ?side2 A59.out).mono ?_); (case side1 => repeat (first | exact (Kd.C_below HR1.out HB.out) | (with_reducible refine Kd.C_alloc ?_ _) | (with_reducible refine Kd.C_drewN ?_ _) | (with_reducible refine Kd.C_drew ?_))); (case side2 => exact HC1.out); rintro e w63 ⟨rfl, hb⟩; refine ⟨_, rfl, ?_⟩; replace BK689 := bB BK689 hb; replace BK700 := bB BK700 hb; replace HB := bS HB hb; (try clear hb); (try clear hb2); (try clear hk); (try clear hi)) | ((with_reducible refine gate_dst (N := 18) rfl ?_); (try (refine gate_guard (by rfl) ?_; dsimp only)); refine box_event ?hg (N := 18) ?hd (cs := #[.int .i64 0, .int .i64 0, .int .i64 0]) (t := 23) ?hr ?_; (case hd | hg => rfl); (case hr => first | (go_simp; done) | (go_simp; rfl)); intro gb712 hg w64 hbox hb; have BK712 := am hbox; have GW712 := sG HB hg; have GE712 := sG HB hg; replace HB := bS HB hb; have NB689_712 := nL BK689 hg; have NB712_689 := nG BK689 hg; replace BK689 := bB BK689 hb; have NB700_712 := nL BK700 hg; have NB712_700 := nG BK700 hg; replace BK700 := bB BK700 hb; clear hb hbox hg; have hnb65 := NB712_689.out; have hnc65 := NB689_712.out; have hnb66 := NB712_700.out; have hnc66 := NB700_712.out; obtain ⟨_, _, _, _, _, _⟩ := zC3 BK712))
          (try simp only [Act.put, psl])
          go_cut [4] (fun v4 wc => ∃ (kq : Nat) (x4_59 : Bool), v4 = .bool x4_59 ∧ Aside0 (w_BoxCounts.j7 kq x4_59 = some r) ∧ Aside0 (kq ≤ kj32) ∧ Aside0 (wc.heap[gb689]? = some (.cells #[.int .i64 a0_0, .int .i64 a0_1, .int .i64 a0_2, .int .i64 a0_3, .int .i64 a0_4, .int .i64 a0_5] 25 (0, 0))) ∧ Aside0 (wc.heap[gb700]? = some (.cells #[.int .i64 t696, .int .i64 t697, .int .i64 t698] 23 (0, 0))) ∧ Aside0 (wc.heap[gb712]? = some (.cells #[.int .i64 t708, .int .i64 t709, .int .i64 t710] 23 (0, 0))) ∧ Aside0 (Below w.heap.size w wc))
          case first => as_aux_lemma =>
           have H := HC60.out
           clear HC60
           by_cases c68 : (t696 == t708 && (t697 == t709 && (t698 == t710))) = true
           rotate_left
           ·rw [if_neg c68] at H
            have c68b0 : (t696 == t708 && (t697 == t709 && (t698 == t710))) = false := by simpa using c68
            (try (have c68b1 : decide (t696 = t708 && (t697 == t709 && (t698 == t710))) = false := by simpa using c68))
            (try (have c68b2 : (t696 == t708 && (t697 == t709 && (t698 == t710))) = false := by simpa using c68))
            (try (have c68b3 : ¬ (t696 = t708 && (t697 == t709 && (t698 == t710))) := by simpa using c68))
            clear c68
            (first | rw [c68b0] | (simp only [i64_w, i32_w]; rw [c68b0]) | skip)
            have H' := am H
            clear H
            have hnb98 := NB700_689.out
            have hnc98 := NB689_700.out
            have hnb99 := NB700_712.out
            have hnc99 := NB712_700.out
            have := yC1 BK700
            have := kC1 BK700
            have := kC2 BK700
            have := bf BK700.out 0
            have := bf BK700.out 1
            have := bf BK700.out 2
            have hnb101 := NB712_689.out
            have hnc101 := NB689_712.out
            have := yC1 BK712
            have := kC1 BK712
            have := kC2 BK712
            have := bf BK712.out 0
            have := bf BK712.out 1
            have := bf BK712.out 2
            go_wp2
            go_meet
            case rel => exact ⟨_, (false), sqD, H', ⟨by have := HJ4.out; have := HJ16.out; have := HJ30.out; have := HJ32.out; first | omega | exact Nat.le_refl _⟩, ⟨by (with_reducible repeat first | apply bN | apply bd | apply ba); refine bF ?_ NB689_712.out _; (with_reducible repeat first | apply bN | apply bd | apply ba); refine bF ?_ NB689_712.out _; (with_reducible repeat first | apply bN | apply bd | apply ba); refine bF ?_ NB689_712.out _; (with_reducible repeat first | apply bN | apply bd | apply ba); exact BK689.out⟩, ⟨by (with_reducible repeat first | apply bN | apply bd | apply ba); refine bF ?_ NB700_712.out _; (with_reducible repeat first | apply bN | apply bd | apply ba); refine bF ?_ NB700_712.out _; (with_reducible repeat first | apply bN | apply bd | apply ba); refine bF ?_ NB700_712.out _; (with_reducible repeat first | apply bN | apply bd | apply ba); exact BK700.out⟩, ⟨by (with_reducible repeat first | apply bN | apply bd | apply ba); refine blk_put (cs := #[.int .i64 t708, .int .i64 t709, .int .i64 0]) ?_ 2 _ rfl; (with_reducible repeat first | apply bN | apply bd | apply ba); refine blk_put (cs := #[.int .i64 t708, .int .i64 0, .int .i64 0]) ?_ 1 _ rfl; (with_reducible repeat first | apply bN | apply bd | apply ba); refine blk_put (cs := #[.int .i64 0, .int .i64 0, .int .i64 0]) ?_ 0 _ rfl; (with_reducible repeat first | apply bN | apply bd | apply ba); exact BK712.out⟩, ⟨fW HB.out⟩⟩
           rw [if_pos c68] at H
           have c68b0 : (t696 == t708 && (t697 == t709 && (t698 == t710))) = true := c68
           (try (have c68b1 : decide (t696 = t708 && (t697 == t709 && (t698 == t710))) = true := by simpa using c68))
           (try (have c68b2 : (t696 == t708 && (t697 == t709 && (t698 == t710))) = true := by simpa using c68))
           clear c68
           (first | rw [c68b0] | (simp only [i64_w, i32_w]; rw [c68b0]) | skip)
           by_cases c69 : (t711 == (t699 == 0)) = true
           rotate_left
           ·rw [if_neg c69] at H
            have c69b0 : (t711 == (t699 == 0)) = false := by simpa using c69
            (try (have c69b1 : decide (t711 = (t699 == 0)) = false := by simpa using c69))
            (try (have c69b2 : (t711 == (t699 == 0)) = false := by simpa using c69))
            (try (have c69b3 : ¬ (t711 = (t699 == 0)) := by simpa using c69))
            clear c69
            have H' := am H
            clear H
            have hnb93 := NB700_689.out
            have hnc93 := NB689_700.out
            have hnb94 := NB700_712.out
            have hnc94 := NB712_700.out
            have := yC1 BK700
            have := kC1 BK700
            have := kC2 BK700
            have := bf BK700.out 0
            have := bf BK700.out 1
            have := bf BK700.out 2
            have hnb96 := NB712_689.out
            have hnc96 := NB689_712.out
            have := yC1 BK712
            have := kC1 BK712
            have := kC2 BK712
            have := bf BK712.out 0
            have := bf BK712.out 1
            have := bf BK712.out 2
            go_wp2
            go_meet
            case rel => exact ⟨_, (false), sqD, H', ⟨by have := HJ4.out; have := HJ16.out; have := HJ30.out; have := HJ32.out; first | omega | exact Nat.le_refl _⟩, ⟨by (with_reducible repeat first | apply bN | apply bd | apply ba); refine bF ?_ NB689_712.out _; (with_reducible repeat first | apply bN | apply bd | apply ba); refine bF ?_ NB689_712.out _; (with_reducible repeat first | apply bN | apply bd | apply ba); refine bF ?_ NB689_712.out _; (with_reducible repeat first | apply bN | apply bd | apply ba); exact BK689.out⟩, ⟨by (with_reducible repeat first | apply bN | apply bd | apply ba); refine bF ?_ NB700_712.out _; (with_reducible repeat first | apply bN | apply bd | apply ba); refine bF ?_ NB700_712.out _; (with_reducible repeat first | apply bN | apply bd | apply ba); refine bF ?_ NB700_712.out _; (with_reducible repeat first | apply bN | apply bd | apply ba); exact BK700.out⟩, ⟨by (with_reducible repeat first | apply bN | apply bd | apply ba); refine blk_put (cs := #[.int .i64 t708, .int .i64 t709, .int .i64 0]) ?_ 2 _ rfl; (with_reducible repeat first | apply bN | apply bd | apply ba); refine blk_put (cs := #[.int .i64 t708, .int .i64 0, .int .i64 0]) ?_ 1 _ rfl; (with_reducible repeat first | apply bN | apply bd | apply ba); refine blk_put (cs := #[.int .i64 0, .int .i64 0, .int .i64 0]) ?_ 0 _ rfl; (with_reducible repeat first | apply bN | apply bd | apply ba); exact BK712.out⟩, ⟨fW HB.out⟩⟩
           rw [if_pos c69] at H
           have c69b0 : (t711 == (t699 == 0)) = true := c69
           (try (have c69b1 : decide (t711 = (t699 == 0)) = true := by simpa using c69))
           (try (have c69b2 : (t711 == (t699 == 0)) = true := by simpa using c69))
           clear c69
           by_cases c70 : t711 = true
           ·subst c70
            have H1 : ((r_Partition.f kj32 a0_0 a0_1 a0_2 a0_3 a0_4 a0_5 l1).bind fun t713 => (w_BoxCounts.j7 kj32 (t701 == t713))) = some r := by rw [if_pos rfl] at H; exact H
            clear H
            have H := H1
            clear H1
            replace H := Option.bind_eq_some_iff.mp H
            obtain ⟨t713, A710, H⟩ := H
            replace H : (w_BoxCounts.j7 kj32 (t701 == t713)) = some r := H
            have A71 := am A710
            clear A710
            have H' := am H
            clear H
            have hnb72 := NB700_689.out
            have hnc72 := NB689_700.out
            have hnb73 := NB700_712.out
            have hnc73 := NB712_700.out
            have := yC1 BK700
            have := kC1 BK700
            have := kC2 BK700
            have := bf BK700.out 0
            have := bf BK700.out 1
            have := bf BK700.out 2
            have hnb75 := NB712_689.out
            have hnc75 := NB689_712.out
            have := yC1 BK712
            have := kC1 BK712
            have := kC2 BK712
            have := bf BK712.out 0
            have := bf BK712.out 1
            have := bf BK712.out 2
            have := yC1 BK689
            have := kC1 BK689
            have := kC2 BK689
            have := kC3 BK689
            have := kC4 BK689
            have := kC5 BK689
            have := bf BK689.out 0
            have := bf BK689.out 1
            have := bf BK689.out 2
            have := bf BK689.out 3
            have := bf BK689.out 4
            have := bf BK689.out 5
            go_wp2_with (first | (go_at_call 46; (with_reducible refine (r_Partition.calls kj32 a0_0 a0_1 a0_2 a0_3 a0_4 a0_5 _ _ l1 t713 _ ?side1 ?side2 A71.out).mono ?_); (case side1 => exact Kd.C_below HR1.out (fW HB.out)); (case side2 => exact HC1.out); rintro e w78 ⟨rfl, hb⟩; replace BK689 := xC1 (kfC BK689.out) hb; replace BK700 := xC1 (kfC BK700.out) hb; replace BK712 := xC1 (o := .cells #[.int .i64 t708, .int .i64 t709, .int .i64 t710] 23 (0, 0)) (kkC BK712.out) hb; replace HB := bS HB hb; (try clear hb); (try clear hb2); (try clear hk); (try clear hi)))
            go_meet
            case rel => exact ⟨_, ((t701 == t713)), sqD, H', ⟨by have := HJ4.out; have := HJ16.out; have := HJ30.out; have := HJ32.out; first | omega | exact Nat.le_refl _⟩, ⟨fb BK689.out⟩, ⟨fb BK700.out⟩, ⟨fb BK712.out⟩, ⟨fW HB.out⟩⟩
           replace c70 := Bool.eq_false_iff.mpr c70
           subst c70
           have H1 : (if t699 = 9 then ((r_Partition.f kj32 a0_0 a0_1 a0_2 a0_3 a0_4 a0_5 l1).bind fun t714 => (w_BoxCounts.j7 kj32 (t701 == t714))) else (w_BoxCounts.j7 kj32 false)) = some r := by rw [if_neg (show ¬ (false = true) by decide)] at H; exact H
           clear H
           have H := H1
           clear H1
           by_cases c79 : t699 = 9
           rotate_left
           ·rw [if_neg c79] at H
            have c79b0 : (t699 == 9) = false := beq_eq_false_iff_ne.mpr c79
            have c79b1 : (t699 != 9) = true := bne_iff_ne.mpr c79
            have H' := am H
            clear H
            have hnb88 := NB700_689.out
            have hnc88 := NB689_700.out
            have hnb89 := NB700_712.out
            have hnc89 := NB712_700.out
            have := yC1 BK700
            have := kC1 BK700
            have := kC2 BK700
            have := bf BK700.out 0
            have := bf BK700.out 1
            have := bf BK700.out 2
            have hnb91 := NB712_689.out
            have hnc91 := NB689_712.out
            have := yC1 BK712
            have := kC1 BK712
            have := kC2 BK712
            have := bf BK712.out 0
            have := bf BK712.out 1
            have := bf BK712.out 2
            go_wp2
            go_meet
            case rel => exact ⟨_, (false), sqD, H', ⟨by have := HJ4.out; have := HJ16.out; have := HJ30.out; have := HJ32.out; first | omega | exact Nat.le_refl _⟩, ⟨by (with_reducible repeat first | apply bN | apply bd | apply ba); refine bF ?_ NB689_712.out _; (with_reducible repeat first | apply bN | apply bd | apply ba); refine bF ?_ NB689_712.out _; (with_reducible repeat first | apply bN | apply bd | apply ba); refine bF ?_ NB689_712.out _; (with_reducible repeat first | apply bN | apply bd | apply ba); exact BK689.out⟩, ⟨by (with_reducible repeat first | apply bN | apply bd | apply ba); refine bF ?_ NB700_712.out _; (with_reducible repeat first | apply bN | apply bd | apply ba); refine bF ?_ NB700_712.out _; (with_reducible repeat first | apply bN | apply bd | apply ba); refine bF ?_ NB700_712.out _; (with_reducible repeat first | apply bN | apply bd | apply ba); exact BK700.out⟩, ⟨by (with_reducible repeat first | apply bN | apply bd | apply ba); refine blk_put (cs := #[.int .i64 t708, .int .i64 t709, .int .i64 0]) ?_ 2 _ rfl; (with_reducible repeat first | apply bN | apply bd | apply ba); refine blk_put (cs := #[.int .i64 t708, .int .i64 0, .int .i64 0]) ?_ 1 _ rfl; (with_reducible repeat first | apply bN | apply bd | apply ba); refine blk_put (cs := #[.int .i64 0, .int .i64 0, .int .i64 0]) ?_ 0 _ rfl; (with_reducible repeat first | apply bN | apply bd | apply ba); exact BK712.out⟩, ⟨fW HB.out⟩⟩
           rw [if_pos c79] at H
           have c79b0 : (t699 == 9) = true := beq_iff_eq.mpr c79
           have c79b1 : (t699 != 9) = false := bne_eq_false_iff_eq.mpr c79
           clear c79
           replace H := Option.bind_eq_some_iff.mp H
           obtain ⟨t714, A800, H⟩ := H
           replace H : (w_BoxCounts.j7 kj32 (t701 == t714)) = some r := H
           have A80 := am A800
           clear A800
           have H' := am H
           clear H
           have hnb81 := NB700_689.out
           have hnc81 := NB689_700.out
           have hnb82 := NB700_712.out
           have hnc82 := NB712_700.out
           have := yC1 BK700
           have := kC1 BK700
           have := kC2 BK700
           have := bf BK700.out 0
           have := bf BK700.out 1
           have := bf BK700.out 2
           have hnb84 := NB712_689.out
           have hnc84 := NB689_712.out
           have := yC1 BK712
           have := kC1 BK712
           have := kC2 BK712
           have := bf BK712.out 0
           have := bf BK712.out 1
           have := bf BK712.out 2
           have := yC1 BK689
           have := kC1 BK689
           have := kC2 BK689
           have := kC3 BK689
           have := kC4 BK689
           have := kC5 BK689
           have := bf BK689.out 0
           have := bf BK689.out 1
           have := bf BK689.out 2
           have := bf BK689.out 3
           have := bf BK689.out 4
           have := bf BK689.out 5
           go_wp2_with (first | (go_at_call 46; (with_reducible refine (r_Partition.calls kj32 a0_0 a0_1 a0_2 a0_3 a0_4 a0_5 _ _ l1 t714 _ ?side1 ?side2 A80.out).mono ?_); (case side1 => exact Kd.C_below HR1.out (fW HB.out)); (case side2 => exact HC1.out); rintro e w87 ⟨rfl, hb⟩; replace BK689 := xC1 (kfC BK689.out) hb; replace BK700 := xC1 (kfC BK700.out) hb; replace BK712 := xC1 (o := .cells #[.int .i64 t708, .int .i64 t709, .int .i64 t710] 23 (0, 0)) (kkC BK712.out) hb; replace HB := bS HB hb; (try clear hb); (try clear hb2); (try clear hk); (try clear hi)))
           go_meet
           case rel => exact ⟨_, ((t701 == t714)), sqD, H', ⟨by have := HJ4.out; have := HJ16.out; have := HJ30.out; have := HJ32.out; first | omega | exact Nat.le_refl _⟩, ⟨fb BK689.out⟩, ⟨fb BK700.out⟩, ⟨fb BK712.out⟩, ⟨fW HB.out⟩⟩
          case rest => as_aux_lemma =>
           clear HC60
           try clear c1;try clear c2;try clear p2;try clear c3;try clear c4;try clear c5;try clear c6;try clear c7;try clear c8;try clear c8b0;try clear c8b1;try clear c9;try clear c9b0;try clear c9b1;try clear c10;try clear c11;try clear c12;try clear c19;try clear c23;try clear c30;try clear c30b0;try clear c30b1;try clear c32;try clear c32b0;try clear c32b1;try clear c34;try clear c34b0;try clear c34b1;try clear c38;try clear c38b0;try clear c38b1;try clear c40;try clear c40b0;try clear c40b1;try clear c41;try clear c41b0;try clear c41b1;try clear c42;try clear c42b0;try clear c42b1;try clear c43;try clear c43b0;try clear c43b1;try clear c43b2;try clear c45;try clear c51;try clear c53;try clear c53b0;try clear c53b1;try clear c54;try clear c54b0;try clear c54b1;try clear c55;try clear c55b0;try clear c55b1;try clear c56;try clear c56b0;try clear c56b1;try clear c57;try clear c58;try clear c58b0;try clear c58b1;try clear c61;try clear c65;try clear c66;try clear c68;try clear c68b0;try clear c68b1;try clear c68b2;try clear c69;try clear c69b0;try clear c69b1;try clear c69b2;try clear c70;try clear c72;try clear c73;try clear c75;try clear c79;try clear c79b0;try clear c79b1;try clear c81;try clear c82;try clear c84;try clear c88;try clear c89;try clear c91;try clear c93;try clear c94;try clear c96;try clear c98;try clear c99;try clear c101;try clear p2
           obtain ⟨kq, x4_59, rfl, HA, HJ59, BK689, BK700, BK712, HB⟩ := hcut
           cases kq with
           | zero => exact absurd HA.out (by simp [w_BoxCounts.j7])
           | succ kj59 =>
            have H := HA.out
            clear HA
            simp only [w_BoxCounts.j7] at H
            obtain rfl := Option.some.inj H
            go_wp2
            go_ret
            exact ⟨sqE, fW HB.out⟩
 ·replace c4 := Bool.eq_false_iff.mpr c4
  subst c4
  have H1 : (some false) = some r := by rw [if_neg (show ¬ (false = true) by decide)] at H; exact H
  clear H
  have H := H1
  clear H1
  obtain rfl := Option.some.inj H
  go_enter Try.func8, Try.ntmps8
  go_wp2_with (first | ((with_reducible refine gate_dst (N := 2) rfl ?_); (try (refine gate_guard (by rfl) ?_; dsimp only)); refine box_event ?hg (N := 2) ?hd (cs := #[.int .i64 a0_0, .int .i64 a0_1, .int .i64 a0_2, .int .i64 a0_3, .int .i64 a0_4, .int .i64 a0_5]) (t := 25) ?hr ?_; (case hd | hg => rfl); (case hr => first | (go_simp; done) | (go_simp; rfl)); intro gb689 hg w108 hbox hb; have BK689 := am hbox; have GW689 := sG HB hg; have GE689 := sG HB hg; replace HB := bS HB hb; clear hb hbox hg) | ((with_reducible refine gc (f := 11) rfl ?_); refine goesL_ (some 20) rfl rfl Try.func11 (by kernel_rfl) rfl #[] rfl (by (try simp only [pml]); first | done | rfl | (simp only [pdt]; rfl)) ?_; (with_reducible refine (w_awake.calls  false _ A3.out).mono ?_); rintro e w109 ⟨rfl, hb⟩; refine ⟨_, rfl, ?_⟩; replace BK689 := bB BK689 hb; replace HB := bS HB hb; (try clear hb); (try clear hb2); (try clear hk); (try clear hi)))
  go_ret
  exact ⟨sqE, fW HB.out⟩

def w_BoxCounts.Pure : Prop := ∀ (a0_0 : Int) (a0_1 : Int) (a0_2 : Int) (a0_3 : Int) (a0_4 : Int) (a0_5 : Int) (l1 : List (S25)), ((Lit.int .i64 a0_0).wf = true) → ((Lit.int .i64 a0_1).wf = true) → ((Lit.int .i64 a0_2).wf = true) → ((Lit.int .i64 a0_3).wf = true) → ((Lit.int .i64 a0_4).wf = true) → ((Lit.int .i64 a0_5).wf = true) → (l1.length ≤ maxLen ∧ ∀ e3_, e3_ ∈ l1 → okS25 e3_) → ∃ k, w_BoxCounts.f k a0_0 a0_1 a0_2 a0_3 a0_4 a0_5 l1 = some true
theorem w_BoxCounts.walk (P_ : w_BoxCounts.Pure) (a0_0 : Int) (a0_1 : Int) (a0_2 : Int) (a0_3 : Int) (a0_4 : Int) (a0_5 : Int) (A1 : Option Addr) (c1 : Nat) (l1 : List (S25)) (w : World) (hr1 : Kd.C k25 w A1 l1.length l1) (hc1 : l1.length ≤ c1) (o0 : ((Lit.int .i64 a0_0).wf = true)) (o1 : ((Lit.int .i64 a0_1).wf = true)) (o2 : ((Lit.int .i64 a0_2).wf = true)) (o3 : ((Lit.int .i64 a0_3).wf = true)) (o4 : ((Lit.int .i64 a0_4).wf = true)) (o5 : ((Lit.int .i64 a0_5).wf = true)) (o6 : (l1.length ≤ maxLen ∧ ∀ e3_, e3_ ∈ l1 → okS25 e3_)) :
  Calls Try.prog 8 #[.agg #[.int .i64 a0_0, .int .i64 a0_1, .int .i64 a0_2, .int .i64 a0_3, .int .i64 a0_4, .int .i64 a0_5], .slice A1 l1.length c1] w fun e w' => e = .returned (.bool true) ∧ Below w.heap.size w w' := by
 obtain ⟨k, h⟩ := P_ a0_0 a0_1 a0_2 a0_3 a0_4 a0_5 l1 o0 o1 o2 o3 o4 o5 o6
 refine (w_BoxCounts.calls k a0_0 a0_1 a0_2 a0_3 a0_4 a0_5 A1 c1 l1 true w hr1 hc1 h).mono ?_
 rintro e w' ⟨rfl, hd⟩
 exact ⟨rfl, hd⟩

end Go.Proofs.Ytmmdikhmlmoolaa.QA
