import Derived.Test.YtmmdikhmlmoolaaZQAx0
import Derived.Test.YtmmdikhmlmoolaaZQAx3
import Derived.Test.YtmmdikhmlmoolaaZQAx4
import Derived.Test.YtmmdikhmlmoolaaZQAx5
import Derived.Test.YtmmdikhmlmoolaaZQAx10
import Derived.Test.YtmmdikhmlmoolaaZQAx11
import Derived.Test.YtmmdikhmlmoolaaZQAx13
import Derived.Test.YtmmdikhmlmoolaaZQAx15
namespace Go.Proofs.Ytmmdikhmlmoolaa.QA
open Go.RowKit Go.Proofs.YtmmdikhmlmoolaaW.PrintWords Go.Proofs.YtmmdikhmlmoolaaW.PrintLast Go.Proofs.YtmmdikhmlmoolaaW.PrintMore
open Go.Proofs.YtmmdikhmlmoolaaW.PrintWords renaming blk_drewN → bN, blk_drew → bd, blk_alloc → ba, below_alloc → wa, pw_below_drewN → wN, below_drew1 → wd, below_set → ws, blk_frozen → bf, blk_cell → bc, below_size → wz, cell_far → cf, blk_far → bF, gate_callee → gc
open Aside0 renaming mk → am
open World renaming block_lt_of_cell? → bq
attribute [local go_sem] max2_int min2_int max_two min_two max_three min_three max_four min_four
set_option linter.unusedVariables false
set_option linter.unusedSimpArgs false

mutual
def w_BoxVolumes.j0 : Nat → List (S25) → Bool → Int → Int → Int → Int → Int → Int → Int → Int → Int → Int → Int → Int → Option (Bool)
 | 0, _, _, _, _, _, _, _, _, _, _, _, _, _, _ => none
 | k + 1, x2, x46, x756000, x756001, x756002, x756003, x756004, x756005, x757000, x757001, x757002, x757003, x757004, x757005 => if x46 = true then (some true) else ((box_Volume.f x756000 x756001 x756002 x756003 x756004 x756005).bind fun bt760 => ((box_Subtract.f k x756000 x756001 x756002 x756003 x756004 x756005 x757000 x757001 x757002 x757003 x757004 x757005).bind fun bt762 => (w_BoxVolumes.l0 k x2 bt760.1 bt760.2 bt762.1 bt762.2 0 0 x756000 x756001 x756002 x756003 x756004 x756005 x757000 x757001 x757002 x757003 x757004 x757005)))
def w_BoxVolumes.l0 : Nat → List (S25) → Int → Int → List (S25) → Int → Int → Int → Int → Int → Int → Int → Int → Int → Int → Int → Int → Int → Int → Int → Option (Bool)
 | 0, _, _, _, _, _, _, _, _, _, _, _, _, _, _, _, _, _, _, _ => none
 | k + 1, x2, x7, x8, x9, x10, x11, x12, x756000, x756001, x756002, x756003, x756004, x756005, x757000, x757001, x757002, x757003, x757004, x757005 => if x12 < (x9.length : Int) then (if 0 ≤ x12 then ((box_Volume.f ((rd_T25 x9 x12).f0.f0) ((rd_T25 x9 x12).f0.f1) ((rd_T25 x9 x12).f0.f2) ((rd_T25 x9 x12).f1.f0) ((rd_T25 x9 x12).f1.f1) ((rd_T25 x9 x12).f1.f2)).bind fun bt767 => (if bt767.2 = 0 then (w_BoxVolumes.l0 k x2 x7 x8 x9 x10 (wrap64 (x11 + bt767.1)) (wrap64 (x12 + 1)) x756000 x756001 x756002 x756003 x756004 x756005 x757000 x757001 x757002 x757003 x757004 x757005) else (some false))) else (none)) else ((box_Intersect.f k x756000 x756001 x756002 x756003 x756004 x756005 x757000 x757001 x757002 x757003 x757004 x757005).bind fun bt769 => (if bt769.2.2.2.2.2.2 = 0 then ((box_Volume.f bt769.1 bt769.2.1 bt769.2.2.1 bt769.2.2.2.1 bt769.2.2.2.2.1 bt769.2.2.2.2.2.1).bind fun bt777 => (if bt777.2 = 0 then (w_BoxVolumes.j2 k x2 x7 x8 x10 (wrap64 (x11 + bt777.1)) x756000 x756001 x756002 x756003 x756004 x756005) else (some false))) else (w_BoxVolumes.j2 k x2 x7 x8 x10 x11 x756000 x756001 x756002 x756003 x756004 x756005)))
def w_BoxVolumes.j2 : Nat → List (S25) → Int → Int → Int → Int → Int → Int → Int → Int → Int → Int → Option (Bool)
 | 0, _, _, _, _, _, _, _, _, _, _, _ => none
 | k + 1, x2, x7, x8, x10, x11, x756000, x756001, x756002, x756003, x756004, x756005 => if x8 = 0 then (if x10 = 0 then (w_BoxVolumes.j3 k x2 x7 (x11 != x7) x756000 x756001 x756002 x756003 x756004 x756005) else (w_BoxVolumes.j3 k x2 x7 true x756000 x756001 x756002 x756003 x756004 x756005)) else (w_BoxVolumes.j3 k x2 x7 true x756000 x756001 x756002 x756003 x756004 x756005)
def w_BoxVolumes.j3 : Nat → List (S25) → Int → Bool → Int → Int → Int → Int → Int → Int → Option (Bool)
 | 0, _, _, _, _, _, _, _, _, _ => none
 | k + 1, x2, x7, x105, x756000, x756001, x756002, x756003, x756004, x756005 => if x105 = true then (some false) else (w_BoxVolumes.l1 k x2 x7 ([] : List (S25)) 0 x756000 x756001 x756002 x756003 x756004 x756005)
def w_BoxVolumes.l1 : Nat → List (S25) → Int → List (S25) → Int → Int → Int → Int → Int → Int → Int → Option (Bool)
 | 0, _, _, _, _, _, _, _, _, _, _ => none
 | k + 1, x2, x7, x19, x20, x756000, x756001, x756002, x756003, x756004, x756005 => if x20 < (x2.length : Int) then (if 0 ≤ x20 then ((box_Check.f ((rd_T25 x2 x20).f0.f0) ((rd_T25 x2 x20).f0.f1) ((rd_T25 x2 x20).f0.f2) ((rd_T25 x2 x20).f1.f0) ((rd_T25 x2 x20).f1.f1) ((rd_T25 x2 x20).f1.f2)).bind fun t780 => (if t780 = 0 then ((box_Intersect.f k x756000 x756001 x756002 x756003 x756004 x756005 ((rd_T25 x2 x20).f0.f0) ((rd_T25 x2 x20).f0.f1) ((rd_T25 x2 x20).f0.f2) ((rd_T25 x2 x20).f1.f0) ((rd_T25 x2 x20).f1.f1) ((rd_T25 x2 x20).f1.f2)).bind fun bt782 => (if bt782.2.2.2.2.2.2 = 0 then (if x19.length < 2932031007402 then (w_BoxVolumes.l1 k x2 x7 (x19 ++ [(⟨(⟨bt782.1, bt782.2.1, bt782.2.2.1⟩ : S23), (⟨bt782.2.2.2.1, bt782.2.2.2.2.1, bt782.2.2.2.2.2.1⟩ : S23)⟩ : S25)]) (wrap64 (x20 + 1)) x756000 x756001 x756002 x756003 x756004 x756005) else (none)) else (w_BoxVolumes.l1 k x2 x7 x19 (wrap64 (x20 + 1)) x756000 x756001 x756002 x756003 x756004 x756005))) else (some true))) else (none)) else ((box_Rest.f k x756000 x756001 x756002 x756003 x756004 x756005 x2).bind fun bt793 => ((box_Total.f k x19).bind fun bt797 => ((box_Total.f k bt793.1).bind fun bt799 => (if bt793.2 = 7 then (some true) else (if bt799.2 = 7 then (some true) else ((box_Clash.f k bt793.1).bind fun bt801 => (if bt793.2 = 0 then (if bt797.2 = 0 then (if bt799.2 = 0 then (if (wrap64 (bt797.1 + bt799.1)) = x7 then (some (bt801.2.2 == 9)) else (some false)) else (some false)) else (some false)) else (some false))))))))
end
def w_BoxVolumes.f (k : Nat) (a0_0 : Int) (a0_1 : Int) (a0_2 : Int) (a0_3 : Int) (a0_4 : Int) (a0_5 : Int) (a1_0 : Int) (a1_1 : Int) (a1_2 : Int) (a1_3 : Int) (a1_4 : Int) (a1_5 : Int) (l2 : List (S25)) : Option (Bool) := (w_awake.f).bind fun t757 => (if t757 = true then (if (l2.length : Int) > 6 then (w_BoxVolumes.j0 k l2 true a0_0 a0_1 a0_2 a0_3 a0_4 a0_5 a1_0 a1_1 a1_2 a1_3 a1_4 a1_5) else ((box_Check.f a0_0 a0_1 a0_2 a0_3 a0_4 a0_5).bind fun t758 => (if t758 = 0 then ((box_Check.f a1_0 a1_1 a1_2 a1_3 a1_4 a1_5).bind fun t759 => (w_BoxVolumes.j0 k l2 (t759 != 0) a0_0 a0_1 a0_2 a0_3 a0_4 a0_5 a1_0 a1_1 a1_2 a1_3 a1_4 a1_5)) else (w_BoxVolumes.j0 k l2 true a0_0 a0_1 a0_2 a0_3 a0_4 a0_5 a1_0 a1_1 a1_2 a1_3 a1_4 a1_5)))) else (some false))
def w_BoxVolumes.T29 : Bool × List (List Nat × List Nat) := (true, [([], []), ([], []), ([], []), ([1, 2], [1, 2]), ([3], [3]), ([0, 4], [0, 4]), ([5], [5]), ([6], [6]), ([6], [6]), ([], []), ([9, 7, 5, 0, 1, 2, 3, 4, 5, 6, 7, 9], [7, 9]), ([8, 10, 0, 1, 2, 3, 4, 5, 6, 7, 8, 9, 10], [8])])
def w_BoxVolumes.B29 : List Nat := [0, 0, 0, 6, 14, 31, 63, 127, 127, 0, 767, 2047]
theorem w_BoxVolumes.tab29 : rtab .any (opsOf Try.f10 29) = w_BoxVolumes.T29 := by kernel_rfl
theorem w_BoxVolumes.bits29 : waitsOk w_BoxVolumes.T29.2 w_BoxVolumes.B29 = true := by kernel_rfl
set_option maxHeartbeats 8000000 in
set_option maxRecDepth 100000 in
theorem w_BoxVolumes.calls (k : Nat) (a0_0 : Int) (a0_1 : Int) (a0_2 : Int) (a0_3 : Int) (a0_4 : Int) (a0_5 : Int) (a1_0 : Int) (a1_1 : Int) (a1_2 : Int) (a1_3 : Int) (a1_4 : Int) (a1_5 : Int) (A2 : Option Addr) (c2 : Nat) (l2 : List (S25)) (r : Bool) (w : World) (hr2 : Kd.C k25 w A2 l2.length l2) (hc2 : l2.length ≤ c2) (h : w_BoxVolumes.f k a0_0 a0_1 a0_2 a0_3 a0_4 a0_5 a1_0 a1_1 a1_2 a1_3 a1_4 a1_5 l2 = some r) :
  Calls Try.prog 10 #[.agg #[.int .i64 a0_0, .int .i64 a0_1, .int .i64 a0_2, .int .i64 a0_3, .int .i64 a0_4, .int .i64 a0_5], .agg #[.int .i64 a1_0, .int .i64 a1_1, .int .i64 a1_2, .int .i64 a1_3, .int .i64 a1_4, .int .i64 a1_5], .slice A2 l2.length c2] w fun e w' => e = .returned (.bool r) ∧ Below w.heap.size w w' := by
 have hu25 := Try.underlying25
 have HR2 := am hr2
 have HC2 := am hc2
 clear hr2 hc2
 have HB := am (Below.refl w.heap.size w)
 have H : ((w_awake.f).bind fun t757 => (if t757 = true then (if (l2.length : Int) > 6 then (w_BoxVolumes.j0 k l2 true a0_0 a0_1 a0_2 a0_3 a0_4 a0_5 a1_0 a1_1 a1_2 a1_3 a1_4 a1_5) else ((box_Check.f a0_0 a0_1 a0_2 a0_3 a0_4 a0_5).bind fun t758 => (if t758 = 0 then ((box_Check.f a1_0 a1_1 a1_2 a1_3 a1_4 a1_5).bind fun t759 => (w_BoxVolumes.j0 k l2 (t759 != 0) a0_0 a0_1 a0_2 a0_3 a0_4 a0_5 a1_0 a1_1 a1_2 a1_3 a1_4 a1_5)) else (w_BoxVolumes.j0 k l2 true a0_0 a0_1 a0_2 a0_3 a0_4 a0_5 a1_0 a1_1 a1_2 a1_3 a1_4 a1_5)))) else (some false))) = some r := h
 clear h
 replace H := Option.bind_eq_some_iff.mp H
 obtain ⟨t757, A40, H⟩ := H
 replace H : (if t757 = true then (if (l2.length : Int) > 6 then (w_BoxVolumes.j0 k l2 true a0_0 a0_1 a0_2 a0_3 a0_4 a0_5 a1_0 a1_1 a1_2 a1_3 a1_4 a1_5) else ((box_Check.f a0_0 a0_1 a0_2 a0_3 a0_4 a0_5).bind fun t758 => (if t758 = 0 then ((box_Check.f a1_0 a1_1 a1_2 a1_3 a1_4 a1_5).bind fun t759 => (w_BoxVolumes.j0 k l2 (t759 != 0) a0_0 a0_1 a0_2 a0_3 a0_4 a0_5 a1_0 a1_1 a1_2 a1_3 a1_4 a1_5)) else (w_BoxVolumes.j0 k l2 true a0_0 a0_1 a0_2 a0_3 a0_4 a0_5 a1_0 a1_1 a1_2 a1_3 a1_4 a1_5)))) else (some false)) = some r := H
 have A4 := am A40
 clear A40
 by_cases c5 : t757 = true
 ·subst c5
  have H1 : (if (l2.length : Int) > 6 then (w_BoxVolumes.j0 k l2 true a0_0 a0_1 a0_2 a0_3 a0_4 a0_5 a1_0 a1_1 a1_2 a1_3 a1_4 a1_5) else ((box_Check.f a0_0 a0_1 a0_2 a0_3 a0_4 a0_5).bind fun t758 => (if t758 = 0 then ((box_Check.f a1_0 a1_1 a1_2 a1_3 a1_4 a1_5).bind fun t759 => (w_BoxVolumes.j0 k l2 (t759 != 0) a0_0 a0_1 a0_2 a0_3 a0_4 a0_5 a1_0 a1_1 a1_2 a1_3 a1_4 a1_5)) else (w_BoxVolumes.j0 k l2 true a0_0 a0_1 a0_2 a0_3 a0_4 a0_5 a1_0 a1_1 a1_2 a1_3 a1_4 a1_5)))) = some r := by rw [if_pos rfl] at H; exact H
  clear H
  have H := H1
  clear H1
  have HC6 := am H
  clear H
  go_enter Try.func10, Try.ntmps10
  go_upto_region 3 with (first | ((with_reducible refine gate_dst (N := 3) rfl ?_); refine box_event ?hg (N := 3) ?hd (cs := #[.int .i64 a0_0, .int .i64 a0_1, .int .i64 a0_2, .int .i64 a0_3, .int .i64 a0_4, .int .i64 a0_5]) (t := 25) ?hr ?_; (case hd | hg => rfl); (case hr => first | (go_simp; done) | (go_simp; rfl)); intro gb755 hg w7 hbox hb; have BK755 := am hbox; have GW755 := sG HB hg; have GE755 := sG HB hg; replace HB := bS HB hb; clear hb hbox hg) | ((with_reducible refine gate_dst (N := 4) rfl ?_); refine box_event ?hg (N := 4) ?hd (cs := #[.int .i64 a1_0, .int .i64 a1_1, .int .i64 a1_2, .int .i64 a1_3, .int .i64 a1_4, .int .i64 a1_5]) (t := 25) ?hr ?_; (case hd | hg => rfl); (case hr => first | (go_simp; done) | (go_simp; rfl)); intro gb756 hg w8 hbox hb; have BK756 := am hbox; have GW756 := sG HB hg; have GE756 := sG HB hg; replace HB := bS HB hb; have NB755_756 := nL BK755 hg; have NB756_755 := nG BK755 hg; replace BK755 := bB BK755 hb; clear hb hbox hg) | ((with_reducible refine gc (f := 11) rfl ?_); refine goesL_ (some 32) rfl rfl Try.func11 (by kernel_rfl) rfl #[] rfl (by (try simp only [pml]); first | done | rfl | (simp only [pdt]; rfl)) ?_; (with_reducible refine (w_awake.calls  true _ A4.out).mono ?_); rintro e w9 ⟨rfl, hb⟩; refine ⟨_, rfl, ?_⟩; replace BK755 := bB BK755 hb; replace BK756 := bB BK756 hb; replace HB := bS HB hb; (try clear hb); (try clear hb2); (try clear hk); (try clear hi)))
  (try simp only [Act.put, psl])
  go_cut [46] (fun v46 wc => ∃ (kq : Nat) (x46_5 : Bool), v46 = .bool x46_5 ∧ Aside0 (w_BoxVolumes.j0 kq l2 x46_5 a0_0 a0_1 a0_2 a0_3 a0_4 a0_5 a1_0 a1_1 a1_2 a1_3 a1_4 a1_5 = some r) ∧ Aside0 (kq ≤ k) ∧ Aside0 (wc.heap[gb755]? = some (.cells #[.int .i64 a0_0, .int .i64 a0_1, .int .i64 a0_2, .int .i64 a0_3, .int .i64 a0_4, .int .i64 a0_5] 25 (0, 0))) ∧ Aside0 (wc.heap[gb756]? = some (.cells #[.int .i64 a1_0, .int .i64 a1_1, .int .i64 a1_2, .int .i64 a1_3, .int .i64 a1_4, .int .i64 a1_5] 25 (0, 0))) ∧ Aside0 (Below w.heap.size w wc))
  case first =>
   have H := HC6.out
   clear HC6
   by_cases c10 : (l2.length : Int) > 6
   ·rw [if_pos c10] at H
    have c10b0 : decide (6 < (l2.length : Int)) = true := decide_eq_true c10
    have c10b1 : decide (6 < l2.length) = true := decide_eq_true (by omega)
    clear c10
    (first | rw [c10b0] | (simp only [i64_w, i32_w]; rw [c10b0]) | skip)
    have H' := am H
    clear H
    go_wp2
    go_meet
    case rel => exact ⟨_, (true), (by first | rfl | (simp; done) | (simp [*]; done)), H', ⟨by first | omega | exact Nat.le_refl _⟩, ⟨by (with_reducible repeat first | apply bN | apply bd | apply ba); exact BK755.out⟩, ⟨by (with_reducible repeat first | apply bN | apply bd | apply ba); exact BK756.out⟩, ⟨by repeat (first | (with_reducible first | exact HB.out | apply wa | apply wN | apply wd | refine ws ?_ GE755.out | refine ws ?_ GE756.out) | exact HB.out)⟩⟩
   rw [if_neg c10] at H
   have c10b0 : decide (6 < (l2.length : Int)) = false := decide_eq_false c10
   have c10b1 : decide (6 < l2.length) = false := decide_eq_false (by omega)
   clear c10
   (first | rw [c10b0] | (simp only [i64_w, i32_w]; rw [c10b0]) | skip)
   replace H := Option.bind_eq_some_iff.mp H
   obtain ⟨t758, A110, H⟩ := H
   replace H : (if t758 = 0 then ((box_Check.f a1_0 a1_1 a1_2 a1_3 a1_4 a1_5).bind fun t759 => (w_BoxVolumes.j0 k l2 (t759 != 0) a0_0 a0_1 a0_2 a0_3 a0_4 a0_5 a1_0 a1_1 a1_2 a1_3 a1_4 a1_5)) else (w_BoxVolumes.j0 k l2 true a0_0 a0_1 a0_2 a0_3 a0_4 a0_5 a1_0 a1_1 a1_2 a1_3 a1_4 a1_5)) = some r := H
   have A11 := am A110
   clear A110
   by_cases c12 : t758 = 0
   ·rw [if_pos c12] at H
    have c12b0 : (t758 == 0) = true := beq_iff_eq.mpr c12
    have c12b1 : (t758 != 0) = false := bne_eq_false_iff_eq.mpr c12
    clear c12
    replace H := Option.bind_eq_some_iff.mp H
    obtain ⟨t759, A130, H⟩ := H
    replace H : (w_BoxVolumes.j0 k l2 (t759 != 0) a0_0 a0_1 a0_2 a0_3 a0_4 a0_5 a1_0 a1_1 a1_2 a1_3 a1_4 a1_5) = some r := H
    have A13 := am A130
    clear A130
    have H' := am H
    clear H
    have hnb14 := NB755_756.out
    have hnc14 := NB756_755.out
    have := yC1 BK755
    have hcz15_1 := kC1 BK755
    have hcz15_2 := kC2 BK755
    have hcz15_3 := kC3 BK755
    have hcz15_4 := kC4 BK755
    have hcz15_5 := kC5 BK755
    have hfz15_0 := bf BK755.out 0
    have hfz15_1 := bf BK755.out 1
    have hfz15_2 := bf BK755.out 2
    have hfz15_3 := bf BK755.out 3
    have hfz15_4 := bf BK755.out 4
    have hfz15_5 := bf BK755.out 5
    go_wp2_with (first | (go_at_call 20; (with_reducible refine (box_Check.calls a0_0 a0_1 a0_2 a0_3 a0_4 a0_5 t758 _ A11.out).mono ?_); rintro e w16 ⟨rfl, hb⟩; replace BK755 := bB BK755 hb; replace BK756 := bB BK756 hb; replace HB := bS HB hb; (try clear hb); (try clear hb2); (try clear hk); (try clear hi); obtain ⟨_, _, _, _, _, _, _, _, _, _, _, _⟩ := zC6 BK756) | (go_at_call 20; (with_reducible refine (box_Check.calls a1_0 a1_1 a1_2 a1_3 a1_4 a1_5 t759 _ A13.out).mono ?_); rintro e w18 ⟨rfl, hb⟩; replace BK755 := bB BK755 hb; replace BK756 := bB BK756 hb; replace HB := bS HB hb; (try clear hb); (try clear hb2); (try clear hk); (try clear hi)))
    go_meet
    case rel => exact ⟨_, ((t759 != 0)), (by first | rfl | (simp; done) | (simp [*]; done)), H', ⟨by first | omega | exact Nat.le_refl _⟩, ⟨by (with_reducible repeat first | apply bN | apply bd | apply ba); exact BK755.out⟩, ⟨by (with_reducible repeat first | apply bN | apply bd | apply ba); exact BK756.out⟩, ⟨by repeat (first | (with_reducible first | exact HB.out | apply wa | apply wN | apply wd | refine ws ?_ GE755.out | refine ws ?_ GE756.out) | exact HB.out)⟩⟩
   rw [if_neg c12] at H
   have c12b0 : (t758 == 0) = false := beq_eq_false_iff_ne.mpr c12
   have c12b1 : (t758 != 0) = true := bne_iff_ne.mpr c12
   have H' := am H
   clear H
   have hnb19 := NB755_756.out
   have hnc19 := NB756_755.out
   have := yC1 BK755
   have hcz20_1 := kC1 BK755
   have hcz20_2 := kC2 BK755
   have hcz20_3 := kC3 BK755
   have hcz20_4 := kC4 BK755
   have hcz20_5 := kC5 BK755
   have hfz20_0 := bf BK755.out 0
   have hfz20_1 := bf BK755.out 1
   have hfz20_2 := bf BK755.out 2
   have hfz20_3 := bf BK755.out 3
   have hfz20_4 := bf BK755.out 4
   have hfz20_5 := bf BK755.out 5
   go_wp2_with (first | (go_at_call 20; (with_reducible refine (box_Check.calls a0_0 a0_1 a0_2 a0_3 a0_4 a0_5 t758 _ A11.out).mono ?_); rintro e w21 ⟨rfl, hb⟩; replace BK755 := bB BK755 hb; replace BK756 := bB BK756 hb; replace HB := bS HB hb; (try clear hb); (try clear hb2); (try clear hk); (try clear hi)))
   go_meet
   case rel => exact ⟨_, (true), (by first | rfl | (simp; done) | (simp [*]; done)), H', ⟨by first | omega | exact Nat.le_refl _⟩, ⟨by (with_reducible repeat first | apply bN | apply bd | apply ba); exact BK755.out⟩, ⟨by (with_reducible repeat first | apply bN | apply bd | apply ba); exact BK756.out⟩, ⟨by repeat (first | (with_reducible first | exact HB.out | apply wa | apply wN | apply wd | refine ws ?_ GE755.out | refine ws ?_ GE756.out) | exact HB.out)⟩⟩
  case rest =>
   clear HC6
   try clear c1;try clear c2;try clear p2;try clear c5;try clear c10;try clear c10b0;try clear c10b1;try clear c11;try clear c12;try clear c12b0;try clear c12b1;try clear c14;try clear c19;try clear hcz15_0;try clear hcz15_1;try clear hcz15_2;try clear hcz15_3;try clear hcz15_4;try clear hcz15_5;try clear hcz17_0;try clear hcz17_1;try clear hcz17_2;try clear hcz17_3;try clear hcz17_4;try clear hcz17_5;try clear hcz20_0;try clear hcz20_1;try clear hcz20_2;try clear hcz20_3;try clear hcz20_4;try clear hcz20_5;try clear hfz15_0;try clear hfz15_1;try clear hfz15_2;try clear hfz15_3;try clear hfz15_4;try clear hfz15_5;try clear hfz17_0;try clear hfz17_1;try clear hfz17_2;try clear hfz17_3;try clear hfz17_4;try clear hfz17_5;try clear hfz20_0;try clear hfz20_1;try clear hfz20_2;try clear hfz20_3;try clear hfz20_4;try clear hfz20_5
   obtain ⟨kq, x46_5, rfl, HA, HJ5, BK755, BK756, HB⟩ := hcut
   cases kq with
   | zero => exact absurd HA.out (by simp [w_BoxVolumes.j0])
   | succ kj5 =>
    have H := HA.out
    clear HA
    simp only [w_BoxVolumes.j0] at H
    by_cases c22 : x46_5 = true
    ·subst c22
     have H1 : (some true) = some r := by rw [if_pos rfl] at H; exact H
     clear H
     have H := H1
     clear H1
     obtain rfl := Option.some.inj H
     go_wp2
     go_ret
     exact ⟨by first | rfl | (simp [errW_none, errW_some] <;> rfl) | (simp [*, errW_none, errW_some] <;> rfl), by repeat (first | (with_reducible first | exact HB.out | apply wa | apply wN | apply wd | refine ws ?_ GE755.out | refine ws ?_ GE756.out) | exact HB.out)⟩
    replace c22 := Bool.eq_false_iff.mpr c22
    subst c22
    have H1 : ((box_Volume.f a0_0 a0_1 a0_2 a0_3 a0_4 a0_5).bind fun bt760 => ((box_Subtract.f kj5 a0_0 a0_1 a0_2 a0_3 a0_4 a0_5 a1_0 a1_1 a1_2 a1_3 a1_4 a1_5).bind fun bt762 => (w_BoxVolumes.l0 kj5 l2 bt760.1 bt760.2 bt762.1 bt762.2 0 0 a0_0 a0_1 a0_2 a0_3 a0_4 a0_5 a1_0 a1_1 a1_2 a1_3 a1_4 a1_5))) = some r := by rw [if_neg (show ¬ (false = true) by decide)] at H; exact H
    clear H
    have H := H1
    clear H1
    replace H := Option.bind_eq_some_iff.mp H
    obtain ⟨⟨t760, t761⟩, A230, H⟩ := H
    replace H : ((box_Subtract.f kj5 a0_0 a0_1 a0_2 a0_3 a0_4 a0_5 a1_0 a1_1 a1_2 a1_3 a1_4 a1_5).bind fun bt762 => (w_BoxVolumes.l0 kj5 l2 t760 t761 bt762.1 bt762.2 0 0 a0_0 a0_1 a0_2 a0_3 a0_4 a0_5 a1_0 a1_1 a1_2 a1_3 a1_4 a1_5)) = some r := H
    have A23 := am A230
    clear A230
    replace H := Option.bind_eq_some_iff.mp H
    obtain ⟨⟨t762, t765⟩, A240, H⟩ := H
    replace H : (w_BoxVolumes.l0 kj5 l2 t760 t761 t762 t765 0 0 a0_0 a0_1 a0_2 a0_3 a0_4 a0_5 a1_0 a1_1 a1_2 a1_3 a1_4 a1_5) = some r := H
    have A24 := am A240
    clear A240
    have H' := am H
    clear H
    have hnb25 := NB755_756.out
    have hnc25 := NB756_755.out
    have := yC1 BK755
    have hcz26_1 := kC1 BK755
    have hcz26_2 := kC2 BK755
    have hcz26_3 := kC3 BK755
    have hcz26_4 := kC4 BK755
    have hcz26_5 := kC5 BK755
    have hfz26_0 := bf BK755.out 0
    have hfz26_1 := bf BK755.out 1
    have hfz26_2 := bf BK755.out 2
    have hfz26_3 := bf BK755.out 3
    have hfz26_4 := bf BK755.out 4
    have hfz26_5 := bf BK755.out 5
    go_wp2_with (first | ((with_reducible refine gc (f := 16) rfl ?_); refine goesL_ (some 49) rfl rfl Try.func16 (by kernel_rfl) rfl #[.agg #[.int .i64 a0_0, .int .i64 a0_1, .int .i64 a0_2, .int .i64 a0_3, .int .i64 a0_4, .int .i64 a0_5]] rfl (by (try simp only [pml]); first | done | rfl | (simp only [pdt]; rfl)) ?_; (with_reducible refine (box_Volume.calls a0_0 a0_1 a0_2 a0_3 a0_4 a0_5 t760 t761 _ A23.out).mono ?_); rintro e w27 ⟨rfl, hb⟩; refine ⟨_, rfl, ?_⟩; replace BK755 := bB BK755 hb; replace BK756 := bB BK756 hb; replace HB := bS HB hb; (try clear hb); (try clear hb2); (try clear hk); (try clear hi); obtain ⟨_, _, _, _, _, _, _, _, _, _, _, _⟩ := zC6 BK755; obtain ⟨_, _, _, _, _, _, _, _, _, _, _, _⟩ := zC6 BK756) | ((with_reducible refine gc (f := 35) rfl ?_); refine goesL_ (some 55) rfl rfl Try.func35 (by kernel_rfl) rfl #[.agg #[.int .i64 a0_0, .int .i64 a0_1, .int .i64 a0_2, .int .i64 a0_3, .int .i64 a0_4, .int .i64 a0_5], .agg #[.int .i64 a1_0, .int .i64 a1_1, .int .i64 a1_2, .int .i64 a1_3, .int .i64 a1_4, .int .i64 a1_5]] rfl (by (try simp only [pml]); first | done | rfl | (simp only [pdt]; rfl)) ?_; (with_reducible refine (box_Subtract.calls kj5 a0_0 a0_1 a0_2 a0_3 a0_4 a0_5 a1_0 a1_1 a1_2 a1_3 a1_4 a1_5 t762 t765 _ A24.out).mono ?_); rintro e w30 ⟨v763, rfl, ho0, hb⟩; refine ⟨_, rfl, ?_⟩; have HO764 := am (Kd.R_lower (Kd.R_newB (Kd.R_newB ho0 (g := gb755) (o := .cells #[.int .i64 a0_0, .int .i64 a0_1, .int .i64 a0_2, .int .i64 a0_3, .int .i64 a0_4, .int .i64 a0_5] 25 (0, 0)) (fb BK755.out)) (g := gb756) (o := .cells #[.int .i64 a1_0, .int .i64 a1_1, .int .i64 a1_2, .int .i64 a1_3, .int .i64 a1_4, .int .i64 a1_5] 25 (0, 0)) (fb BK756.out)) (wz (fW HB.out))); replace BK755 := bB BK755 hb; replace BK756 := bB BK756 hb; replace HB := bS HB hb; (try clear hb); (try clear hb2); (try clear hk); (try clear hi); (try clear ho0)))
    go_loopg [11, 12] kj5 (fun kq v11 v12 w' => ∃ (x11_2 : Int) (x12_2 : Int), v11 = .int .i64 x11_2 ∧ v12 = .int .i64 x12_2 ∧ Aside0 (w_BoxVolumes.l0 kq l2 t760 t761 t762 t765 x11_2 x12_2 a0_0 a0_1 a0_2 a0_3 a0_4 a0_5 a1_0 a1_1 a1_2 a1_3 a1_4 a1_5 = some r) ∧ Aside0 (kq ≤ kj5) ∧ Aside0 (Kd.R k25 25 w' w.heap.size (fun k_ => k_ ≠ gb755 ∧ k_ ≠ gb756) v763 t762) ∧ Aside0 (w'.heap[gb755]? = some (.cells #[.int .i64 a0_0, .int .i64 a0_1, .int .i64 a0_2, .int .i64 a0_3, .int .i64 a0_4, .int .i64 a0_5] 25 (0, 0))) ∧ Aside0 (w'.heap[gb756]? = some (.cells #[.int .i64 a1_0, .int .i64 a1_1, .int .i64 a1_2, .int .i64 a1_3, .int .i64 a1_4, .int .i64 a1_5] 25 (0, 0))) ∧ Aside0 (Below w.heap.size w w'))
    case atStart => exact ⟨(0), (0), (by first | rfl | (simp; done) | (simp [*]; done)), (by first | rfl | (simp; done) | (simp [*]; done)), H', ⟨Nat.le_refl _⟩, ⟨by (with_reducible repeat (first | apply Kd.R_alloc | apply Kd.R_drewN | apply Kd.R_drew)); exact Kd.R_mono HO764.out (fun _ hk => ⟨hk.1.2, hk.2⟩)⟩, ⟨by (with_reducible repeat first | apply bN | apply bd | apply ba); exact BK755.out⟩, ⟨by (with_reducible repeat first | apply bN | apply bd | apply ba); exact BK756.out⟩, ⟨by repeat (first | (with_reducible first | exact HB.out | apply wa | apply wN | apply wd | refine ws ?_ GE755.out | refine ws ?_ GE756.out) | exact HB.out)⟩⟩
    case round =>
     clear H'
     try clear c1;try clear c2;try clear p2;try clear c3;try clear c5;try clear c10;try clear c10b0;try clear c10b1;try clear c11;try clear c12;try clear c12b0;try clear c12b1;try clear c14;try clear c16;try clear c19;try clear c22;try clear c25;try clear hcz15_0;try clear hcz15_1;try clear hcz15_2;try clear hcz15_3;try clear hcz15_4;try clear hcz15_5;try clear hcz17_0;try clear hcz17_1;try clear hcz17_2;try clear hcz17_3;try clear hcz17_4;try clear hcz17_5;try clear hcz20_0;try clear hcz20_1;try clear hcz20_2;try clear hcz20_3;try clear hcz20_4;try clear hcz20_5;try clear hcz26_0;try clear hcz26_1;try clear hcz26_2;try clear hcz26_3;try clear hcz26_4;try clear hcz26_5;try clear hcz28_0;try clear hcz28_1;try clear hcz28_2;try clear hcz28_3;try clear hcz28_4;try clear hcz28_5;try clear hcz29_0;try clear hcz29_1;try clear hcz29_2;try clear hcz29_3;try clear hcz29_4;try clear hcz29_5;try clear hfz15_0;try clear hfz15_1;try clear hfz15_2;try clear hfz15_3;try clear hfz15_4;try clear hfz15_5;try clear hfz17_0;try clear hfz17_1;try clear hfz17_2;try clear hfz17_3;try clear hfz17_4;try clear hfz17_5;try clear hfz20_0;try clear hfz20_1;try clear hfz20_2;try clear hfz20_3;try clear hfz20_4;try clear hfz20_5;try clear hfz26_0;try clear hfz26_1;try clear hfz26_2;try clear hfz26_3;try clear hfz26_4;try clear hfz26_5;try clear hfz28_0;try clear hfz28_1;try clear hfz28_2;try clear hfz28_3;try clear hfz28_4;try clear hfz28_5;try clear hfz29_0;try clear hfz29_1;try clear hfz29_2;try clear hfz29_3;try clear hfz29_4;try clear hfz29_5;try clear p2
     obtain ⟨x11_2, x12_2, rfl, rfl, HA, HK2, HO_9, BK755, BK756, HB⟩ := hrel
     cases gk with
     | zero => exact absurd HA.out (by simp [w_BoxVolumes.l0])
     | succ k2 =>
      have H := HA.out
      clear HA
      simp only [w_BoxVolumes.l0] at H
      by_cases c31 : x12_2 < (t762.length : Int)
      ·rw [if_pos c31] at H
       have c31b0 : decide (x12_2 < (t762.length : Int)) = true := decide_eq_true c31
       clear c31
       by_cases c32 : 0 ≤ x12_2
       rotate_left
       ·rw [if_neg c32] at H
        exact absurd H (by simp)
       rw [if_pos c32] at H
       have c32b0 : decide (0 ≤ x12_2) = true := decide_eq_true c32
       clear c32
       replace H := Option.bind_eq_some_iff.mp H
       obtain ⟨⟨t767, t768⟩, A330, H⟩ := H
       replace H : (if t768 = 0 then (w_BoxVolumes.l0 k2 l2 t760 t761 t762 t765 (wrap64 (x11_2 + t767)) (wrap64 (x12_2 + 1)) a0_0 a0_1 a0_2 a0_3 a0_4 a0_5 a1_0 a1_1 a1_2 a1_3 a1_4 a1_5) else (some false)) = some r := H
       have A33 := am A330
       clear A330
       by_cases c34 : t768 = 0
       ·rw [if_pos c34] at H
        have c34b0 : (t768 == 0) = true := beq_iff_eq.mpr c34
        have c34b1 : (t768 != 0) = false := bne_eq_false_iff_eq.mpr c34
        clear c34
        have H' := am H
        clear H
        obtain ⟨Ao35, co35, eo35⟩ := Kd.R_slice HO_9.out
        subst eo35
        have p766 : 0 ≤ (x12_2 : Int) := of_decide_eq_true (by assumption)
        have q766 : x12_2 < (t762.length : Int) := of_decide_eq_true (by assumption)
        obtain ⟨ad766, e766, hx766_0, hx766_1, hx766_2, hx766_3, hx766_4, hx766_5⟩ := at_T25 (Kd.R_reads' HO_9.out).2.2 x12_2 p766 q766
        cases e766
        replace p766 := eq_true p766
        replace q766 := eq_true q766
        go_wp2_with (first | ((with_reducible refine gc (f := 16) rfl ?_); refine goesL_ (some 69) rfl rfl Try.func16 (by kernel_rfl) rfl #[.agg #[.int .i64 ((rd_T25 t762 x12_2).f0.f0), .int .i64 ((rd_T25 t762 x12_2).f0.f1), .int .i64 ((rd_T25 t762 x12_2).f0.f2), .int .i64 ((rd_T25 t762 x12_2).f1.f0), .int .i64 ((rd_T25 t762 x12_2).f1.f1), .int .i64 ((rd_T25 t762 x12_2).f1.f2)]] rfl (by (try simp only [pml]); first | done | rfl | (simp only [pdt]; rfl)) ?_; (with_reducible refine (box_Volume.calls ((rd_T25 t762 x12_2).f0.f0) ((rd_T25 t762 x12_2).f0.f1) ((rd_T25 t762 x12_2).f0.f2) ((rd_T25 t762 x12_2).f1.f0) ((rd_T25 t762 x12_2).f1.f1) ((rd_T25 t762 x12_2).f1.f2) t767 t768 _ A33.out).mono ?_); rintro e w36 ⟨rfl, hb⟩; refine ⟨_, rfl, ?_⟩; replace HO_9 := dR HO_9 hb; replace BK755 := bB BK755 hb; replace BK756 := bB BK756 hb; replace HB := bS HB hb; (try clear hb); (try clear hb2); (try clear hk); (try clear hi)))
        go_roundg k2
        case measure => have := HJ5.out; have := HK2.out; omega
        case rel => exact ⟨(wrap64 (x11_2 + t767)), (wrap64 (x12_2 + 1)), (by first | rfl | (simp; done) | (simp [*]; done)), (by first | rfl | (simp; done) | (simp [*]; done)), H', ⟨by have := HJ5.out; have := HK2.out; omega⟩, ⟨by (with_reducible repeat (first | apply Kd.R_alloc | apply Kd.R_drewN | apply Kd.R_drew)); exact HO_9.out⟩, ⟨by (with_reducible repeat first | apply bN | apply bd | apply ba); exact BK755.out⟩, ⟨by (with_reducible repeat first | apply bN | apply bd | apply ba); exact BK756.out⟩, ⟨by repeat (first | (with_reducible first | exact HB.out | apply wa | apply wN | apply wd | refine ws ?_ GE755.out | refine ws ?_ GE756.out) | exact HB.out)⟩⟩
       rw [if_neg c34] at H
       have c34b0 : (t768 == 0) = false := beq_eq_false_iff_ne.mpr c34
       have c34b1 : (t768 != 0) = true := bne_iff_ne.mpr c34
       obtain rfl := Option.some.inj H
       obtain ⟨Ao37, co37, eo37⟩ := Kd.R_slice HO_9.out
       subst eo37
       have p766 : 0 ≤ (x12_2 : Int) := of_decide_eq_true (by assumption)
       have q766 : x12_2 < (t762.length : Int) := of_decide_eq_true (by assumption)
       obtain ⟨ad766, e766, hx766_0, hx766_1, hx766_2, hx766_3, hx766_4, hx766_5⟩ := at_T25 (Kd.R_reads' HO_9.out).2.2 x12_2 p766 q766
       cases e766
       replace p766 := eq_true p766
       replace q766 := eq_true q766
       go_wp2_with (first | ((with_reducible refine gc (f := 16) rfl ?_); refine goesL_ (some 69) rfl rfl Try.func16 (by kernel_rfl) rfl #[.agg #[.int .i64 ((rd_T25 t762 x12_2).f0.f0), .int .i64 ((rd_T25 t762 x12_2).f0.f1), .int .i64 ((rd_T25 t762 x12_2).f0.f2), .int .i64 ((rd_T25 t762 x12_2).f1.f0), .int .i64 ((rd_T25 t762 x12_2).f1.f1), .int .i64 ((rd_T25 t762 x12_2).f1.f2)]] rfl (by (try simp only [pml]); first | done | rfl | (simp only [pdt]; rfl)) ?_; (with_reducible refine (box_Volume.calls ((rd_T25 t762 x12_2).f0.f0) ((rd_T25 t762 x12_2).f0.f1) ((rd_T25 t762 x12_2).f0.f2) ((rd_T25 t762 x12_2).f1.f0) ((rd_T25 t762 x12_2).f1.f1) ((rd_T25 t762 x12_2).f1.f2) t767 t768 _ A33.out).mono ?_); rintro e w38 ⟨rfl, hb⟩; refine ⟨_, rfl, ?_⟩; replace HO_9 := dR HO_9 hb; replace BK755 := bB BK755 hb; replace BK756 := bB BK756 hb; replace HB := bS HB hb; (try clear hb); (try clear hb2); (try clear hk); (try clear hi)))
       go_ret
       exact ⟨by first | rfl | (simp [errW_none, errW_some] <;> rfl) | (simp [*, errW_none, errW_some] <;> rfl), by repeat (first | (with_reducible first | exact HB.out | apply wa | apply wN | apply wd | refine ws ?_ GE755.out | refine ws ?_ GE756.out) | exact HB.out)⟩
      rw [if_neg c31] at H
      have c31b0 : decide (x12_2 < (t762.length : Int)) = false := decide_eq_false c31
      clear c31
      replace H := Option.bind_eq_some_iff.mp H
      obtain ⟨⟨t769, t770, t771, t772, t773, t774, t775⟩, A390, H⟩ := H
      replace H : (if t775 = 0 then ((box_Volume.f t769 t770 t771 t772 t773 t774).bind fun bt777 => (if bt777.2 = 0 then (w_BoxVolumes.j2 k2 l2 t760 t761 t765 (wrap64 (x11_2 + bt777.1)) a0_0 a0_1 a0_2 a0_3 a0_4 a0_5) else (some false))) else (w_BoxVolumes.j2 k2 l2 t760 t761 t765 x11_2 a0_0 a0_1 a0_2 a0_3 a0_4 a0_5)) = some r := H
      have A39 := am A390
      clear A390
      have HC40 := am H
      clear H
      obtain ⟨Ao41, co41, eo41⟩ := Kd.R_slice HO_9.out
      subst eo41
      have hnb42 := NB755_756.out
      have hnc42 := NB756_755.out
      have := yC1 BK755
      have hcz43_1 := kC1 BK755
      have hcz43_2 := kC2 BK755
      have hcz43_3 := kC3 BK755
      have hcz43_4 := kC4 BK755
      have hcz43_5 := kC5 BK755
      have hfz43_0 := bf BK755.out 0
      have hfz43_1 := bf BK755.out 1
      have hfz43_2 := bf BK755.out 2
      have hfz43_3 := bf BK755.out 3
      have hfz43_4 := bf BK755.out 4
      have hfz43_5 := bf BK755.out 5
      have := yC1 BK756
      have hcz44_1 := kC1 BK756
      have hcz44_2 := kC2 BK756
      have hcz44_3 := kC3 BK756
      have hcz44_4 := kC4 BK756
      have hcz44_5 := kC5 BK756
      have hfz44_0 := bf BK756.out 0
      have hfz44_1 := bf BK756.out 1
      have hfz44_2 := bf BK756.out 2
      have hfz44_3 := bf BK756.out 3
      have hfz44_4 := bf BK756.out 4
      have hfz44_5 := bf BK756.out 5
      go_upto_if 84 with (first | ((with_reducible refine gc (f := 25) rfl ?_); refine goesL_ (some 80) rfl rfl Try.func25 (by kernel_rfl) rfl #[.agg #[.int .i64 a0_0, .int .i64 a0_1, .int .i64 a0_2, .int .i64 a0_3, .int .i64 a0_4, .int .i64 a0_5], .agg #[.int .i64 a1_0, .int .i64 a1_1, .int .i64 a1_2, .int .i64 a1_3, .int .i64 a1_4, .int .i64 a1_5]] rfl (by (try simp only [pml]); first | done | rfl | (simp only [pdt]; rfl)) ?_; (with_reducible refine (box_Intersect.calls k2 a0_0 a0_1 a0_2 a0_3 a0_4 a0_5 a1_0 a1_1 a1_2 a1_3 a1_4 a1_5 t769 t770 t771 t772 t773 t774 t775 _ A39.out).mono ?_); rintro e w45 ⟨rfl, hb⟩; refine ⟨_, rfl, ?_⟩; replace HO_9 := dR HO_9 hb; replace BK755 := bB BK755 hb; replace BK756 := bB BK756 hb; replace HB := bS HB hb; (try clear hb); (try clear hb2); (try clear hk); (try clear hi)) | ((with_reducible refine gate_dst (N := 15) rfl ?_); refine box_event ?hg (N := 15) ?hd (cs := #[.int .i64 0, .int .i64 0, .int .i64 0, .int .i64 0, .int .i64 0, .int .i64 0]) (t := 25) ?hr ?_; (case hd | hg => rfl); (case hr => first | (go_simp; done) | (go_simp; rfl)); intro gb776 hg w46 hbox hb; replace HO_9 := eR HO_9 hg hb; have BK776 := am hbox; have GW776 := sG HB hg; have GE776 := sG HB hg; replace HB := bS HB hb; have NB755_776 := nL BK755 hg; have NB776_755 := nG BK755 hg; replace BK755 := bB BK755 hb; have NB756_776 := nL BK756 hg; have NB776_756 := nG BK756 hg; replace BK756 := bB BK756 hb; clear hb hbox hg; have hnb47 := NB776_755.out; have hnc47 := NB755_776.out; have hnb48 := NB776_756.out; have hnc48 := NB756_776.out; obtain ⟨_, _, _, _, _, _, _, _, _, _, _, _⟩ := zC6 BK776))
      (try simp only [Act.put, psl])
      go_cut [11] (fun v11 wc => ∃ (kq : Nat) (x11_39 : Int), v11 = .int .i64 x11_39 ∧ Aside0 (w_BoxVolumes.j2 kq l2 t760 t761 t765 x11_39 a0_0 a0_1 a0_2 a0_3 a0_4 a0_5 = some r) ∧ Aside0 (kq ≤ k2) ∧ Aside0 (wc.heap[gb755]? = some (.cells #[.int .i64 a0_0, .int .i64 a0_1, .int .i64 a0_2, .int .i64 a0_3, .int .i64 a0_4, .int .i64 a0_5] 25 (0, 0))) ∧ Aside0 (wc.heap[gb756]? = some (.cells #[.int .i64 a1_0, .int .i64 a1_1, .int .i64 a1_2, .int .i64 a1_3, .int .i64 a1_4, .int .i64 a1_5] 25 (0, 0))) ∧ Aside0 (wc.heap[gb776]? = some (.cells #[.int .i64 t769, .int .i64 t770, .int .i64 t771, .int .i64 t772, .int .i64 t773, .int .i64 t774] 25 (0, 0))) ∧ Aside0 (Below w.heap.size w wc))
      case first =>
       have H := HC40.out
       clear HC40
       by_cases c50 : t775 = 0
       rotate_left
       ·rw [if_neg c50] at H
        have c50b0 : (t775 == 0) = false := beq_eq_false_iff_ne.mpr c50
        have c50b1 : (t775 != 0) = true := bne_iff_ne.mpr c50
        (first | rw [c50b0] | (simp only [i64_w, i32_w]; rw [c50b0]) | skip)
        have H' := am H
        clear H
        go_wp2
        go_meet
        case rel => exact ⟨_, (x11_2), (by first | rfl | (simp; done) | (simp [*]; done)), H', ⟨by have := HJ5.out; have := HK2.out; first | omega | exact Nat.le_refl _⟩, ⟨by (with_reducible repeat first | apply bN | apply bd | apply ba); refine bF ?_ NB755_776.out _; (with_reducible repeat first | apply bN | apply bd | apply ba); refine bF ?_ NB755_776.out _; (with_reducible repeat first | apply bN | apply bd | apply ba); refine bF ?_ NB755_776.out _; (with_reducible repeat first | apply bN | apply bd | apply ba); refine bF ?_ NB755_776.out _; (with_reducible repeat first | apply bN | apply bd | apply ba); refine bF ?_ NB755_776.out _; (with_reducible repeat first | apply bN | apply bd | apply ba); refine bF ?_ NB755_776.out _; (with_reducible repeat first | apply bN | apply bd | apply ba); exact BK755.out⟩, ⟨by (with_reducible repeat first | apply bN | apply bd | apply ba); refine bF ?_ NB756_776.out _; (with_reducible repeat first | apply bN | apply bd | apply ba); refine bF ?_ NB756_776.out _; (with_reducible repeat first | apply bN | apply bd | apply ba); refine bF ?_ NB756_776.out _; (with_reducible repeat first | apply bN | apply bd | apply ba); refine bF ?_ NB756_776.out _; (with_reducible repeat first | apply bN | apply bd | apply ba); refine bF ?_ NB756_776.out _; (with_reducible repeat first | apply bN | apply bd | apply ba); refine bF ?_ NB756_776.out _; (with_reducible repeat first | apply bN | apply bd | apply ba); exact BK756.out⟩, ⟨by (with_reducible repeat first | apply bN | apply bd | apply ba); refine blk_put (cs := #[.int .i64 t769, .int .i64 t770, .int .i64 t771, .int .i64 t772, .int .i64 t773, .int .i64 0]) ?_ 5 _ rfl; (with_reducible repeat first | apply bN | apply bd | apply ba); refine blk_put (cs := #[.int .i64 t769, .int .i64 t770, .int .i64 t771, .int .i64 t772, .int .i64 0, .int .i64 0]) ?_ 4 _ rfl; (with_reducible repeat first | apply bN | apply bd | apply ba); refine blk_put (cs := #[.int .i64 t769, .int .i64 t770, .int .i64 t771, .int .i64 0, .int .i64 0, .int .i64 0]) ?_ 3 _ rfl; (with_reducible repeat first | apply bN | apply bd | apply ba); refine blk_put (cs := #[.int .i64 t769, .int .i64 t770, .int .i64 0, .int .i64 0, .int .i64 0, .int .i64 0]) ?_ 2 _ rfl; (with_reducible repeat first | apply bN | apply bd | apply ba); refine blk_put (cs := #[.int .i64 t769, .int .i64 0, .int .i64 0, .int .i64 0, .int .i64 0, .int .i64 0]) ?_ 1 _ rfl; (with_reducible repeat first | apply bN | apply bd | apply ba); refine blk_put (cs := #[.int .i64 0, .int .i64 0, .int .i64 0, .int .i64 0, .int .i64 0, .int .i64 0]) ?_ 0 _ rfl; (with_reducible repeat first | apply bN | apply bd | apply ba); exact BK776.out⟩, ⟨by repeat (first | (with_reducible first | exact HB.out | apply wa | apply wN | apply wd | refine ws ?_ GE755.out | refine ws ?_ GE756.out | refine ws ?_ GE776.out) | exact HB.out)⟩⟩
       rw [if_pos c50] at H
       have c50b0 : (t775 == 0) = true := beq_iff_eq.mpr c50
       have c50b1 : (t775 != 0) = false := bne_eq_false_iff_eq.mpr c50
       clear c50
       (first | rw [c50b0] | (simp only [i64_w, i32_w]; rw [c50b0]) | skip)
       replace H := Option.bind_eq_some_iff.mp H
       obtain ⟨⟨t777, t778⟩, A510, H⟩ := H
       replace H : (if t778 = 0 then (w_BoxVolumes.j2 k2 l2 t760 t761 t765 (wrap64 (x11_2 + t777)) a0_0 a0_1 a0_2 a0_3 a0_4 a0_5) else (some false)) = some r := H
       have A51 := am A510
       clear A510
       by_cases c52 : t778 = 0
       ·rw [if_pos c52] at H
        have c52b0 : (t778 == 0) = true := beq_iff_eq.mpr c52
        have c52b1 : (t778 != 0) = false := bne_eq_false_iff_eq.mpr c52
        clear c52
        have H' := am H
        clear H
        have hnb53 := NB776_755.out
        have hnc53 := NB755_776.out
        have hnb54 := NB776_756.out
        have hnc54 := NB756_776.out
        have := yC1 BK776
        have hcz55_1 := kC1 BK776
        have hcz55_2 := kC2 BK776
        have hcz55_3 := kC3 BK776
        have hcz55_4 := kC4 BK776
        have hcz55_5 := kC5 BK776
        have hfz55_0 := bf BK776.out 0
        have hfz55_1 := bf BK776.out 1
        have hfz55_2 := bf BK776.out 2
        have hfz55_3 := bf BK776.out 3
        have hfz55_4 := bf BK776.out 4
        have hfz55_5 := bf BK776.out 5
        go_wp2_with (first | ((with_reducible refine gc (f := 16) rfl ?_); refine goesL_ (some 87) rfl rfl Try.func16 (by kernel_rfl) rfl #[.agg #[.int .i64 t769, .int .i64 t770, .int .i64 t771, .int .i64 t772, .int .i64 t773, .int .i64 t774]] rfl (by (try simp only [pml]); first | done | rfl | (simp only [pdt]; rfl)) ?_; (with_reducible refine (box_Volume.calls t769 t770 t771 t772 t773 t774 t777 t778 _ A51.out).mono ?_); rintro e w56 ⟨rfl, hb⟩; refine ⟨_, rfl, ?_⟩; replace HO_9 := am (Kd.R_below (by (with_reducible repeat (first | apply Kd.R_alloc | apply Kd.R_drewN | apply Kd.R_drew)); exact (Kd.R_mono (Kd.R_far (p := ⟨gb776, 5, none⟩) (Kd.R_far (p := ⟨gb776, 4, none⟩) (Kd.R_far (p := ⟨gb776, 3, none⟩) (Kd.R_far (p := ⟨gb776, 2, none⟩) (Kd.R_far (p := ⟨gb776, 1, none⟩) (Kd.R_far (p := ⟨gb776, 0, none⟩) (Kd.R_mono HO_9.out (fun k_ hk => (⟨hk, hk.2⟩ : _ ∧ k_ ≠ gb776))) (fun _ hk => hk.2) (.int .i64 t769)) (fun _ hk => hk.2) (.int .i64 t770)) (fun _ hk => hk.2) (.int .i64 t771)) (fun _ hk => hk.2) (.int .i64 t772)) (fun _ hk => hk.2) (.int .i64 t773)) (fun _ hk => hk.2) (.int .i64 t774)) (fun _ h_ => h_.1))) hb); replace BK755 := xC1 (kfC BK755.out) hb; replace BK756 := xC1 (kfC BK756.out) hb; replace BK776 := xC1 (o := .cells #[.int .i64 t769, .int .i64 t770, .int .i64 t771, .int .i64 t772, .int .i64 t773, .int .i64 t774] 25 (0, 0)) (kkC BK776.out) hb; replace HB := bS HB hb; (try clear hb); (try clear hb2); (try clear hk); (try clear hi)))
        go_meet
        case rel => exact ⟨_, (wrap64 (x11_2 + t777)), (by first | rfl | (simp; done) | (simp [*]; done)), H', ⟨by have := HJ5.out; have := HK2.out; first | omega | exact Nat.le_refl _⟩, ⟨by (with_reducible repeat first | apply bN | apply bd | apply ba); exact BK755.out⟩, ⟨by (with_reducible repeat first | apply bN | apply bd | apply ba); exact BK756.out⟩, ⟨by (with_reducible repeat first | apply bN | apply bd | apply ba); exact BK776.out⟩, ⟨by repeat (first | (with_reducible first | exact HB.out | apply wa | apply wN | apply wd | refine ws ?_ GE755.out | refine ws ?_ GE756.out | refine ws ?_ GE776.out) | exact HB.out)⟩⟩
       rw [if_neg c52] at H
       have c52b0 : (t778 == 0) = false := beq_eq_false_iff_ne.mpr c52
       have c52b1 : (t778 != 0) = true := bne_iff_ne.mpr c52
       obtain rfl := Option.some.inj H
       have hnb57 := NB776_755.out
       have hnc57 := NB755_776.out
       have hnb58 := NB776_756.out
       have hnc58 := NB756_776.out
       have := yC1 BK776
       have hcz59_1 := kC1 BK776
       have hcz59_2 := kC2 BK776
       have hcz59_3 := kC3 BK776
       have hcz59_4 := kC4 BK776
       have hcz59_5 := kC5 BK776
       have hfz59_0 := bf BK776.out 0
       have hfz59_1 := bf BK776.out 1
       have hfz59_2 := bf BK776.out 2
       have hfz59_3 := bf BK776.out 3
       have hfz59_4 := bf BK776.out 4
       have hfz59_5 := bf BK776.out 5
       go_wp2_with (first | ((with_reducible refine gc (f := 16) rfl ?_); refine goesL_ (some 87) rfl rfl Try.func16 (by kernel_rfl) rfl #[.agg #[.int .i64 t769, .int .i64 t770, .int .i64 t771, .int .i64 t772, .int .i64 t773, .int .i64 t774]] rfl (by (try simp only [pml]); first | done | rfl | (simp only [pdt]; rfl)) ?_; (with_reducible refine (box_Volume.calls t769 t770 t771 t772 t773 t774 t777 t778 _ A51.out).mono ?_); rintro e w60 ⟨rfl, hb⟩; refine ⟨_, rfl, ?_⟩; replace HO_9 := am (Kd.R_below (by (with_reducible repeat (first | apply Kd.R_alloc | apply Kd.R_drewN | apply Kd.R_drew)); exact (Kd.R_mono (Kd.R_far (p := ⟨gb776, 5, none⟩) (Kd.R_far (p := ⟨gb776, 4, none⟩) (Kd.R_far (p := ⟨gb776, 3, none⟩) (Kd.R_far (p := ⟨gb776, 2, none⟩) (Kd.R_far (p := ⟨gb776, 1, none⟩) (Kd.R_far (p := ⟨gb776, 0, none⟩) (Kd.R_mono HO_9.out (fun k_ hk => (⟨hk, hk.2⟩ : _ ∧ k_ ≠ gb776))) (fun _ hk => hk.2) (.int .i64 t769)) (fun _ hk => hk.2) (.int .i64 t770)) (fun _ hk => hk.2) (.int .i64 t771)) (fun _ hk => hk.2) (.int .i64 t772)) (fun _ hk => hk.2) (.int .i64 t773)) (fun _ hk => hk.2) (.int .i64 t774)) (fun _ h_ => h_.1))) hb); replace BK755 := xC1 (kfC BK755.out) hb; replace BK756 := xC1 (kfC BK756.out) hb; replace BK776 := xC1 (o := .cells #[.int .i64 t769, .int .i64 t770, .int .i64 t771, .int .i64 t772, .int .i64 t773, .int .i64 t774] 25 (0, 0)) (kkC BK776.out) hb; replace HB := bS HB hb; (try clear hb); (try clear hb2); (try clear hk); (try clear hi)))
       go_ret
       exact ⟨by first | rfl | (simp [errW_none, errW_some] <;> rfl) | (simp [*, errW_none, errW_some] <;> rfl), by repeat (first | (with_reducible first | exact HB.out | apply wa | apply wN | apply wd | refine ws ?_ GE755.out | refine ws ?_ GE756.out | refine ws ?_ GE776.out) | exact HB.out)⟩
      case rest =>
       clear HC40
       try clear c1;try clear c2;try clear p2;try clear c3;try clear c4;try clear c5;try clear p6;try clear p7;try clear q7;try clear hx7;try clear c10;try clear c10b0;try clear c10b1;try clear c11;try clear c12;try clear c12b0;try clear c12b1;try clear c14;try clear c16;try clear c19;try clear c22;try clear c25;try clear c31;try clear c31b0;try clear c32;try clear c32b0;try clear c34;try clear c34b0;try clear c34b1;try clear c35;try clear c42;try clear c47;try clear c48;try clear c50;try clear c50b0;try clear c50b1;try clear c52;try clear c52b0;try clear c52b1;try clear c53;try clear c54;try clear c57;try clear c58;try clear hcz15_0;try clear hcz15_1;try clear hcz15_2;try clear hcz15_3;try clear hcz15_4;try clear hcz15_5;try clear hcz17_0;try clear hcz17_1;try clear hcz17_2;try clear hcz17_3;try clear hcz17_4;try clear hcz17_5;try clear hcz20_0;try clear hcz20_1;try clear hcz20_2;try clear hcz20_3;try clear hcz20_4;try clear hcz20_5;try clear hcz26_0;try clear hcz26_1;try clear hcz26_2;try clear hcz26_3;try clear hcz26_4;try clear hcz26_5;try clear hcz28_0;try clear hcz28_1;try clear hcz28_2;try clear hcz28_3;try clear hcz28_4;try clear hcz28_5;try clear hcz29_0;try clear hcz29_1;try clear hcz29_2;try clear hcz29_3;try clear hcz29_4;try clear hcz29_5;try clear hcz43_0;try clear hcz43_1;try clear hcz43_2;try clear hcz43_3;try clear hcz43_4;try clear hcz43_5;try clear hcz44_0;try clear hcz44_1;try clear hcz44_2;try clear hcz44_3;try clear hcz44_4;try clear hcz44_5;try clear hcz49_0;try clear hcz49_1;try clear hcz49_2;try clear hcz49_3;try clear hcz49_4;try clear hcz49_5;try clear hcz55_0;try clear hcz55_1;try clear hcz55_2;try clear hcz55_3;try clear hcz55_4;try clear hcz55_5;try clear hcz59_0;try clear hcz59_1;try clear hcz59_2;try clear hcz59_3;try clear hcz59_4;try clear hcz59_5;try clear hfz15_0;try clear hfz15_1;try clear hfz15_2;try clear hfz15_3;try clear hfz15_4;try clear hfz15_5;try clear hfz17_0;try clear hfz17_1;try clear hfz17_2;try clear hfz17_3;try clear hfz17_4;try clear hfz17_5;try clear hfz20_0;try clear hfz20_1;try clear hfz20_2;try clear hfz20_3;try clear hfz20_4;try clear hfz20_5;try clear hfz26_0;try clear hfz26_1;try clear hfz26_2;try clear hfz26_3;try clear hfz26_4;try clear hfz26_5;try clear hfz28_0;try clear hfz28_1;try clear hfz28_2;try clear hfz28_3;try clear hfz28_4;try clear hfz28_5;try clear hfz29_0;try clear hfz29_1;try clear hfz29_2;try clear hfz29_3;try clear hfz29_4;try clear hfz29_5;try clear hfz43_0;try clear hfz43_1;try clear hfz43_2;try clear hfz43_3;try clear hfz43_4;try clear hfz43_5;try clear hfz44_0;try clear hfz44_1;try clear hfz44_2;try clear hfz44_3;try clear hfz44_4;try clear hfz44_5;try clear hfz49_0;try clear hfz49_1;try clear hfz49_2;try clear hfz49_3;try clear hfz49_4;try clear hfz49_5;try clear hfz55_0;try clear hfz55_1;try clear hfz55_2;try clear hfz55_3;try clear hfz55_4;try clear hfz55_5;try clear hfz59_0;try clear hfz59_1;try clear hfz59_2;try clear hfz59_3;try clear hfz59_4;try clear hfz59_5;try clear hx766_0;try clear hx766_1;try clear hx766_2;try clear hx766_3;try clear hx766_4;try clear hx766_5;try clear p2;try clear p766;try clear q766
       obtain ⟨kq, x11_39, rfl, HA, HJ39, BK755, BK756, BK776, HB⟩ := hcut
       cases kq with
       | zero => exact absurd HA.out (by simp [w_BoxVolumes.j2])
       | succ kj39 =>
        have H := HA.out
        clear HA
        simp only [w_BoxVolumes.j2] at H
        have HC61 := am H
        clear H
        go_upto_region 21 with (fail)
        go_cut [105] (fun v105 wc => ∃ (kq : Nat) (x105_60 : Bool), v105 = .bool x105_60 ∧ Aside0 (w_BoxVolumes.j3 kq l2 t760 x105_60 a0_0 a0_1 a0_2 a0_3 a0_4 a0_5 = some r) ∧ Aside0 (kq ≤ kj39) ∧ Aside0 (wc.heap[gb755]? = some (.cells #[.int .i64 a0_0, .int .i64 a0_1, .int .i64 a0_2, .int .i64 a0_3, .int .i64 a0_4, .int .i64 a0_5] 25 (0, 0))) ∧ Aside0 (wc.heap[gb756]? = some (.cells #[.int .i64 a1_0, .int .i64 a1_1, .int .i64 a1_2, .int .i64 a1_3, .int .i64 a1_4, .int .i64 a1_5] 25 (0, 0))) ∧ Aside0 (wc.heap[gb776]? = some (.cells #[.int .i64 t769, .int .i64 t770, .int .i64 t771, .int .i64 t772, .int .i64 t773, .int .i64 t774] 25 (0, 0))) ∧ Aside0 (Below w.heap.size w wc))
        case first =>
         have H := HC61.out
         clear HC61
         by_cases c62 : t761 = 0
         rotate_left
         ·rw [if_neg c62] at H
          have c62b0 : (t761 == 0) = false := beq_eq_false_iff_ne.mpr c62
          have c62b1 : (t761 != 0) = true := bne_iff_ne.mpr c62
          (first | rw [c62b0] | (simp only [i64_w, i32_w]; rw [c62b0]) | skip)
          have H' := am H
          clear H
          go_wp2
          go_meet
          case rel => exact ⟨_, (true), (by first | rfl | (simp; done) | (simp [*]; done)), H', ⟨by have := HJ5.out; have := HK2.out; have := HJ39.out; first | omega | exact Nat.le_refl _⟩, ⟨by (with_reducible repeat first | apply bN | apply bd | apply ba); exact BK755.out⟩, ⟨by (with_reducible repeat first | apply bN | apply bd | apply ba); exact BK756.out⟩, ⟨by (with_reducible repeat first | apply bN | apply bd | apply ba); exact BK776.out⟩, ⟨by repeat (first | (with_reducible first | exact HB.out | apply wa | apply wN | apply wd | refine ws ?_ GE755.out | refine ws ?_ GE756.out | refine ws ?_ GE776.out) | exact HB.out)⟩⟩
         rw [if_pos c62] at H
         have c62b0 : (t761 == 0) = true := beq_iff_eq.mpr c62
         have c62b1 : (t761 != 0) = false := bne_eq_false_iff_eq.mpr c62
         clear c62
         (first | rw [c62b0] | (simp only [i64_w, i32_w]; rw [c62b0]) | skip)
         by_cases c63 : t765 = 0
         ·rw [if_pos c63] at H
          have c63b0 : (t765 == 0) = true := beq_iff_eq.mpr c63
          have c63b1 : (t765 != 0) = false := bne_eq_false_iff_eq.mpr c63
          clear c63
          have H' := am H
          clear H
          go_wp2
          go_meet
          case rel => exact ⟨_, ((x11_39 != t760)), (by first | rfl | (simp; done) | (simp [*]; done)), H', ⟨by have := HJ5.out; have := HK2.out; have := HJ39.out; first | omega | exact Nat.le_refl _⟩, ⟨by (with_reducible repeat first | apply bN | apply bd | apply ba); exact BK755.out⟩, ⟨by (with_reducible repeat first | apply bN | apply bd | apply ba); exact BK756.out⟩, ⟨by (with_reducible repeat first | apply bN | apply bd | apply ba); exact BK776.out⟩, ⟨by repeat (first | (with_reducible first | exact HB.out | apply wa | apply wN | apply wd | refine ws ?_ GE755.out | refine ws ?_ GE756.out | refine ws ?_ GE776.out) | exact HB.out)⟩⟩
         rw [if_neg c63] at H
         have c63b0 : (t765 == 0) = false := beq_eq_false_iff_ne.mpr c63
         have c63b1 : (t765 != 0) = true := bne_iff_ne.mpr c63
         have H' := am H
         clear H
         go_wp2
         go_meet
         case rel => exact ⟨_, (true), (by first | rfl | (simp; done) | (simp [*]; done)), H', ⟨by have := HJ5.out; have := HK2.out; have := HJ39.out; first | omega | exact Nat.le_refl _⟩, ⟨by (with_reducible repeat first | apply bN | apply bd | apply ba); exact BK755.out⟩, ⟨by (with_reducible repeat first | apply bN | apply bd | apply ba); exact BK756.out⟩, ⟨by (with_reducible repeat first | apply bN | apply bd | apply ba); exact BK776.out⟩, ⟨by repeat (first | (with_reducible first | exact HB.out | apply wa | apply wN | apply wd | refine ws ?_ GE755.out | refine ws ?_ GE756.out | refine ws ?_ GE776.out) | exact HB.out)⟩⟩
        case rest =>
         clear HC61
         try clear c1;try clear c2;try clear p2;try clear c3;try clear c4;try clear c5;try clear c6;try clear p6;try clear p7;try clear q7;try clear hx7;try clear c10;try clear c10b0;try clear c10b1;try clear c11;try clear c12;try clear c12b0;try clear c12b1;try clear c14;try clear c16;try clear c19;try clear c22;try clear c25;try clear c31;try clear c31b0;try clear c32;try clear c32b0;try clear c34;try clear c34b0;try clear c34b1;try clear c35;try clear c42;try clear c47;try clear c48;try clear c50;try clear c50b0;try clear c50b1;try clear c52;try clear c52b0;try clear c52b1;try clear c53;try clear c54;try clear c57;try clear c58;try clear c62;try clear c62b0;try clear c62b1;try clear c63;try clear c63b0;try clear c63b1;try clear hcz15_0;try clear hcz15_1;try clear hcz15_2;try clear hcz15_3;try clear hcz15_4;try clear hcz15_5;try clear hcz17_0;try clear hcz17_1;try clear hcz17_2;try clear hcz17_3;try clear hcz17_4;try clear hcz17_5;try clear hcz20_0;try clear hcz20_1;try clear hcz20_2;try clear hcz20_3;try clear hcz20_4;try clear hcz20_5;try clear hcz26_0;try clear hcz26_1;try clear hcz26_2;try clear hcz26_3;try clear hcz26_4;try clear hcz26_5;try clear hcz28_0;try clear hcz28_1;try clear hcz28_2;try clear hcz28_3;try clear hcz28_4;try clear hcz28_5;try clear hcz29_0;try clear hcz29_1;try clear hcz29_2;try clear hcz29_3;try clear hcz29_4;try clear hcz29_5;try clear hcz43_0;try clear hcz43_1;try clear hcz43_2;try clear hcz43_3;try clear hcz43_4;try clear hcz43_5;try clear hcz44_0;try clear hcz44_1;try clear hcz44_2;try clear hcz44_3;try clear hcz44_4;try clear hcz44_5;try clear hcz49_0;try clear hcz49_1;try clear hcz49_2;try clear hcz49_3;try clear hcz49_4;try clear hcz49_5;try clear hcz55_0;try clear hcz55_1;try clear hcz55_2;try clear hcz55_3;try clear hcz55_4;try clear hcz55_5;try clear hcz59_0;try clear hcz59_1;try clear hcz59_2;try clear hcz59_3;try clear hcz59_4;try clear hcz59_5;try clear hfz15_0;try clear hfz15_1;try clear hfz15_2;try clear hfz15_3;try clear hfz15_4;try clear hfz15_5;try clear hfz17_0;try clear hfz17_1;try clear hfz17_2;try clear hfz17_3;try clear hfz17_4;try clear hfz17_5;try clear hfz20_0;try clear hfz20_1;try clear hfz20_2;try clear hfz20_3;try clear hfz20_4;try clear hfz20_5;try clear hfz26_0;try clear hfz26_1;try clear hfz26_2;try clear hfz26_3;try clear hfz26_4;try clear hfz26_5;try clear hfz28_0;try clear hfz28_1;try clear hfz28_2;try clear hfz28_3;try clear hfz28_4;try clear hfz28_5;try clear hfz29_0;try clear hfz29_1;try clear hfz29_2;try clear hfz29_3;try clear hfz29_4;try clear hfz29_5;try clear hfz43_0;try clear hfz43_1;try clear hfz43_2;try clear hfz43_3;try clear hfz43_4;try clear hfz43_5;try clear hfz44_0;try clear hfz44_1;try clear hfz44_2;try clear hfz44_3;try clear hfz44_4;try clear hfz44_5;try clear hfz49_0;try clear hfz49_1;try clear hfz49_2;try clear hfz49_3;try clear hfz49_4;try clear hfz49_5;try clear hfz55_0;try clear hfz55_1;try clear hfz55_2;try clear hfz55_3;try clear hfz55_4;try clear hfz55_5;try clear hfz59_0;try clear hfz59_1;try clear hfz59_2;try clear hfz59_3;try clear hfz59_4;try clear hfz59_5;try clear hx766_0;try clear hx766_1;try clear hx766_2;try clear hx766_3;try clear hx766_4;try clear hx766_5;try clear p2;try clear p6;try clear p7;try clear p766;try clear q7;try clear q766
         obtain ⟨kq, x105_60, rfl, HA, HJ60, BK755, BK756, BK776, HB⟩ := hcut
         cases kq with
         | zero => exact absurd HA.out (by simp [w_BoxVolumes.j3])
         | succ kj60 =>
          have H := HA.out
          clear HA
          simp only [w_BoxVolumes.j3] at H
          by_cases c64 : x105_60 = true
          ·subst c64
           have H1 : (some false) = some r := by rw [if_pos rfl] at H; exact H
           clear H
           have H := H1
           clear H1
           obtain rfl := Option.some.inj H
           go_wp2
           go_ret
           exact ⟨by first | rfl | (simp [errW_none, errW_some] <;> rfl) | (simp [*, errW_none, errW_some] <;> rfl), by repeat (first | (with_reducible first | exact HB.out | apply wa | apply wN | apply wd | refine ws ?_ GE755.out | refine ws ?_ GE756.out | refine ws ?_ GE776.out) | exact HB.out)⟩
          replace c64 := Bool.eq_false_iff.mpr c64
          subst c64
          have H1 : (w_BoxVolumes.l1 kj60 l2 t760 ([] : List (S25)) 0 a0_0 a0_1 a0_2 a0_3 a0_4 a0_5) = some r := by rw [if_neg (show ¬ (false = true) by decide)] at H; exact H
          clear H
          have H := H1
          clear H1
          have H' := am H
          clear H
          go_wp2
          go_loopg [19, 20] kj60 (fun kq v19 v20 w' => ∃ (x19_5 : List (S25)) (x20_5 : Int), v20 = .int .i64 x20_5 ∧ Aside0 (w_BoxVolumes.l1 kq l2 t760 x19_5 x20_5 a0_0 a0_1 a0_2 a0_3 a0_4 a0_5 = some r) ∧ Aside0 (kq ≤ kj60) ∧ Aside0 (Kd.R k25 25 w' w.heap.size (fun k_ => k_ ≠ gb755 ∧ k_ ≠ gb756 ∧ k_ ≠ gb776) v19 x19_5) ∧ Aside0 (w'.heap[gb755]? = some (.cells #[.int .i64 a0_0, .int .i64 a0_1, .int .i64 a0_2, .int .i64 a0_3, .int .i64 a0_4, .int .i64 a0_5] 25 (0, 0))) ∧ Aside0 (w'.heap[gb756]? = some (.cells #[.int .i64 a1_0, .int .i64 a1_1, .int .i64 a1_2, .int .i64 a1_3, .int .i64 a1_4, .int .i64 a1_5] 25 (0, 0))) ∧ Aside0 (w'.heap[gb776]? = some (.cells #[.int .i64 t769, .int .i64 t770, .int .i64 t771, .int .i64 t772, .int .i64 t773, .int .i64 t774] 25 (0, 0))) ∧ Aside0 (Below w.heap.size w w'))
          case atStart => exact ⟨(([] : List (S25))), (0), (by first | rfl | (simp; done) | (simp [*]; done)), H', ⟨Nat.le_refl _⟩, ⟨by first | exact Kd.R_nil _ _ _ _ _ | exact Kd.N_nil _ _ _ _ _ | exact Kd.V_nil _ _ _ _ _ | exact Kd.Q_nil _ _ _ _ _ | exact Kd.S_nil _ _ _ _ _⟩, ⟨by (with_reducible repeat first | apply bN | apply bd | apply ba); exact BK755.out⟩, ⟨by (with_reducible repeat first | apply bN | apply bd | apply ba); exact BK756.out⟩, ⟨by (with_reducible repeat first | apply bN | apply bd | apply ba); exact BK776.out⟩, ⟨by repeat (first | (with_reducible first | exact HB.out | apply wa | apply wN | apply wd | refine ws ?_ GE755.out | refine ws ?_ GE756.out | refine ws ?_ GE776.out) | exact HB.out)⟩⟩
          case round =>
           clear H'
           try clear c1;try clear c2;try clear p2;try clear c3;try clear c4;try clear c5;try clear c6;try clear p6;try clear p7;try clear q7;try clear hx7;try clear c10;try clear c10b0;try clear c10b1;try clear c11;try clear c12;try clear c12b0;try clear c12b1;try clear c14;try clear c16;try clear c19;try clear c22;try clear c25;try clear c31;try clear c31b0;try clear c32;try clear c32b0;try clear c34;try clear c34b0;try clear c34b1;try clear c35;try clear c42;try clear c47;try clear c48;try clear c50;try clear c50b0;try clear c50b1;try clear c52;try clear c52b0;try clear c52b1;try clear c53;try clear c54;try clear c57;try clear c58;try clear c62;try clear c62b0;try clear c62b1;try clear c63;try clear c63b0;try clear c63b1;try clear c64;try clear p64;try clear hcz15_0;try clear hcz15_1;try clear hcz15_2;try clear hcz15_3;try clear hcz15_4;try clear hcz15_5;try clear hcz17_0;try clear hcz17_1;try clear hcz17_2;try clear hcz17_3;try clear hcz17_4;try clear hcz17_5;try clear hcz20_0;try clear hcz20_1;try clear hcz20_2;try clear hcz20_3;try clear hcz20_4;try clear hcz20_5;try clear hcz26_0;try clear hcz26_1;try clear hcz26_2;try clear hcz26_3;try clear hcz26_4;try clear hcz26_5;try clear hcz28_0;try clear hcz28_1;try clear hcz28_2;try clear hcz28_3;try clear hcz28_4;try clear hcz28_5;try clear hcz29_0;try clear hcz29_1;try clear hcz29_2;try clear hcz29_3;try clear hcz29_4;try clear hcz29_5;try clear hcz43_0;try clear hcz43_1;try clear hcz43_2;try clear hcz43_3;try clear hcz43_4;try clear hcz43_5;try clear hcz44_0;try clear hcz44_1;try clear hcz44_2;try clear hcz44_3;try clear hcz44_4;try clear hcz44_5;try clear hcz49_0;try clear hcz49_1;try clear hcz49_2;try clear hcz49_3;try clear hcz49_4;try clear hcz49_5;try clear hcz55_0;try clear hcz55_1;try clear hcz55_2;try clear hcz55_3;try clear hcz55_4;try clear hcz55_5;try clear hcz59_0;try clear hcz59_1;try clear hcz59_2;try clear hcz59_3;try clear hcz59_4;try clear hcz59_5;try clear hfz15_0;try clear hfz15_1;try clear hfz15_2;try clear hfz15_3;try clear hfz15_4;try clear hfz15_5;try clear hfz17_0;try clear hfz17_1;try clear hfz17_2;try clear hfz17_3;try clear hfz17_4;try clear hfz17_5;try clear hfz20_0;try clear hfz20_1;try clear hfz20_2;try clear hfz20_3;try clear hfz20_4;try clear hfz20_5;try clear hfz26_0;try clear hfz26_1;try clear hfz26_2;try clear hfz26_3;try clear hfz26_4;try clear hfz26_5;try clear hfz28_0;try clear hfz28_1;try clear hfz28_2;try clear hfz28_3;try clear hfz28_4;try clear hfz28_5;try clear hfz29_0;try clear hfz29_1;try clear hfz29_2;try clear hfz29_3;try clear hfz29_4;try clear hfz29_5;try clear hfz43_0;try clear hfz43_1;try clear hfz43_2;try clear hfz43_3;try clear hfz43_4;try clear hfz43_5;try clear hfz44_0;try clear hfz44_1;try clear hfz44_2;try clear hfz44_3;try clear hfz44_4;try clear hfz44_5;try clear hfz49_0;try clear hfz49_1;try clear hfz49_2;try clear hfz49_3;try clear hfz49_4;try clear hfz49_5;try clear hfz55_0;try clear hfz55_1;try clear hfz55_2;try clear hfz55_3;try clear hfz55_4;try clear hfz55_5;try clear hfz59_0;try clear hfz59_1;try clear hfz59_2;try clear hfz59_3;try clear hfz59_4;try clear hfz59_5;try clear hx766_0;try clear hx766_1;try clear hx766_2;try clear hx766_3;try clear hx766_4;try clear hx766_5;try clear p2;try clear p6;try clear p7;try clear p766;try clear q7;try clear q766
           obtain ⟨x19_5, x20_5, rfl, HA, HK5, HO_19, BK755, BK756, BK776, HB⟩ := hrel
           cases gk with
           | zero => exact absurd HA.out (by simp [w_BoxVolumes.l1])
           | succ k5 =>
            have H := HA.out
            clear HA
            simp only [w_BoxVolumes.l1] at H
            by_cases c65 : x20_5 < (l2.length : Int)
            rotate_left
            ·rw [if_neg c65] at H
             have c65b0 : decide (x20_5 < (l2.length : Int)) = false := decide_eq_false c65
             clear c65
             replace H := Option.bind_eq_some_iff.mp H
             obtain ⟨⟨t793, t796⟩, A1000, H⟩ := H
             replace H : ((box_Total.f k5 x19_5).bind fun bt797 => ((box_Total.f k5 t793).bind fun bt799 => (if t796 = 7 then (some true) else (if bt799.2 = 7 then (some true) else ((box_Clash.f k5 t793).bind fun bt801 => (if t796 = 0 then (if bt797.2 = 0 then (if bt799.2 = 0 then (if (wrap64 (bt797.1 + bt799.1)) = t760 then (some (bt801.2.2 == 9)) else (some false)) else (some false)) else (some false)) else (some false))))))) = some r := H
             have A100 := am A1000
             clear A1000
             replace H := Option.bind_eq_some_iff.mp H
             obtain ⟨⟨t797, t798⟩, A1010, H⟩ := H
             replace H : ((box_Total.f k5 t793).bind fun bt799 => (if t796 = 7 then (some true) else (if bt799.2 = 7 then (some true) else ((box_Clash.f k5 t793).bind fun bt801 => (if t796 = 0 then (if t798 = 0 then (if bt799.2 = 0 then (if (wrap64 (t797 + bt799.1)) = t760 then (some (bt801.2.2 == 9)) else (some false)) else (some false)) else (some false)) else (some false)))))) = some r := H
             have A101 := am A1010
             clear A1010
             replace H := Option.bind_eq_some_iff.mp H
             obtain ⟨⟨t799, t800⟩, A1020, H⟩ := H
             replace H : (if t796 = 7 then (some true) else (if t800 = 7 then (some true) else ((box_Clash.f k5 t793).bind fun bt801 => (if t796 = 0 then (if t798 = 0 then (if t800 = 0 then (if (wrap64 (t797 + t799)) = t760 then (some (bt801.2.2 == 9)) else (some false)) else (some false)) else (some false)) else (some false))))) = some r := H
             have A102 := am A1020
             clear A1020
             by_cases c103 : t796 = 7
             ·rw [if_pos c103] at H
              have c103b0 : (t796 == 7) = true := beq_iff_eq.mpr c103
              have c103b1 : (t796 != 7) = false := bne_eq_false_iff_eq.mpr c103
              clear c103
              obtain rfl := Option.some.inj H
              have hnb104 := NB755_756.out
              have hnc104 := NB756_755.out
              have hnb105 := NB755_776.out
              have hnc105 := NB776_755.out
              have := yC1 BK755
              have hcz106_1 := kC1 BK755
              have hcz106_2 := kC2 BK755
              have hcz106_3 := kC3 BK755
              have hcz106_4 := kC4 BK755
              have hcz106_5 := kC5 BK755
              have hfz106_0 := bf BK755.out 0
              have hfz106_1 := bf BK755.out 1
              have hfz106_2 := bf BK755.out 2
              have hfz106_3 := bf BK755.out 3
              have hfz106_4 := bf BK755.out 4
              have hfz106_5 := bf BK755.out 5
              go_wp2_with (first | ((with_reducible refine gc (f := 13) rfl ?_); refine goesL_ (some 136) rfl rfl Try.func13 (by kernel_rfl) rfl #[.agg #[.int .i64 a0_0, .int .i64 a0_1, .int .i64 a0_2, .int .i64 a0_3, .int .i64 a0_4, .int .i64 a0_5], .slice A2 l2.length c2] rfl (by (try simp only [pml]); first | done | rfl | (simp only [pdt]; rfl)) ?_; (with_reducible refine (box_Rest.calls k5 a0_0 a0_1 a0_2 a0_3 a0_4 a0_5 _ _ l2 t793 t796 _ ?side1 ?side2 A100.out).mono ?_); (case side1 => repeat (first | exact (Kd.C_below HR2.out HB.out) | (with_reducible refine Kd.C_alloc ?_ _) | (with_reducible refine Kd.C_drewN ?_ _) | (with_reducible refine Kd.C_drew ?_))); (case side2 => exact HC2.out); rintro e w107 ⟨v794, rfl, ho0, hb⟩; refine ⟨_, rfl, ?_⟩; have HO795 := am (Kd.R_lower (Kd.R_newB (Kd.R_newB (Kd.R_newB (Kd.R_new' ho0 (Kd.R_lt (fR HO_19.out))) (g := gb755) (o := .cells #[.int .i64 a0_0, .int .i64 a0_1, .int .i64 a0_2, .int .i64 a0_3, .int .i64 a0_4, .int .i64 a0_5] 25 (0, 0)) (fb BK755.out)) (g := gb756) (o := .cells #[.int .i64 a1_0, .int .i64 a1_1, .int .i64 a1_2, .int .i64 a1_3, .int .i64 a1_4, .int .i64 a1_5] 25 (0, 0)) (fb BK756.out)) (g := gb776) (o := .cells #[.int .i64 t769, .int .i64 t770, .int .i64 t771, .int .i64 t772, .int .i64 t773, .int .i64 t774] 25 (0, 0)) (fb BK776.out)) (wz (fW HB.out))); replace HO_19 := am (Kd.R_elder' (fR HO_19.out) (Kd.R_base ho0) hb); replace BK755 := bB BK755 hb; replace BK756 := bB BK756 hb; replace BK776 := bB BK776 hb; replace HB := bS HB hb; (try clear hb); (try clear hb2); (try clear hk); (try clear hi); (try clear ho0); obtain ⟨Ao108, co108, eo108⟩ := Kd.R_slice HO_19.out; subst eo108) | ((with_reducible refine gc (f := 40) rfl ?_); refine goesL_ (some 141) rfl rfl Try.func40 (by kernel_rfl) rfl #[.slice Ao108 x19_5.length co108] rfl (by (try simp only [pml]); first | done | rfl | (simp only [pdt]; rfl)) ?_; (with_reducible refine (box_Total.calls k5 _ _ x19_5 t797 t798 _ ?side1 ?side2 A101.out).mono ?_); (case side1 => repeat (first | exact (Kd.R_reads' HO_19.out).2.2 | (with_reducible refine Kd.C_alloc ?_ _) | (with_reducible refine Kd.C_drewN ?_ _) | (with_reducible refine Kd.C_drew ?_))); (case side2 => exact (Kd.R_reads' HO_19.out).2.1); rintro e w109 ⟨rfl, hb⟩; refine ⟨_, rfl, ?_⟩; replace HO_19 := dR HO_19 hb; replace HO795 := dR HO795 hb; replace BK755 := bB BK755 hb; replace BK756 := bB BK756 hb; replace BK776 := bB BK776 hb; replace HB := bS HB hb; (try clear hb); (try clear hb2); (try clear hk); (try clear hi); obtain ⟨Ao110, co110, eo110⟩ := Kd.R_slice HO795.out; subst eo110) | ((with_reducible refine gc (f := 40) rfl ?_); refine goesL_ (some 146) rfl rfl Try.func40 (by kernel_rfl) rfl #[.slice Ao110 t793.length co110] rfl (by (try simp only [pml]); first | done | rfl | (simp only [pdt]; rfl)) ?_; (with_reducible refine (box_Total.calls k5 _ _ t793 t799 t800 _ ?side1 ?side2 A102.out).mono ?_); (case side1 => repeat (first | exact (Kd.R_reads' HO795.out).2.2 | (with_reducible refine Kd.C_alloc ?_ _) | (with_reducible refine Kd.C_drewN ?_ _) | (with_reducible refine Kd.C_drew ?_))); (case side2 => exact (Kd.R_reads' HO795.out).2.1); rintro e w111 ⟨rfl, hb⟩; refine ⟨_, rfl, ?_⟩; replace HO_19 := dR HO_19 hb; replace HO795 := dR HO795 hb; replace BK755 := bB BK755 hb; replace BK756 := bB BK756 hb; replace BK776 := bB BK776 hb; replace HB := bS HB hb; (try clear hb); (try clear hb2); (try clear hk); (try clear hi)))
              go_ret
              exact ⟨by first | rfl | (simp [errW_none, errW_some] <;> rfl) | (simp [*, errW_none, errW_some] <;> rfl), by repeat (first | (with_reducible first | exact HB.out | apply wa | apply wN | apply wd | refine ws ?_ GE755.out | refine ws ?_ GE756.out | refine ws ?_ GE776.out) | exact HB.out)⟩
             rw [if_neg c103] at H
             have c103b0 : (t796 == 7) = false := beq_eq_false_iff_ne.mpr c103
             have c103b1 : (t796 != 7) = true := bne_iff_ne.mpr c103
             by_cases c112 : t800 = 7
             ·rw [if_pos c112] at H
              have c112b0 : (t800 == 7) = true := beq_iff_eq.mpr c112
              have c112b1 : (t800 != 7) = false := bne_eq_false_iff_eq.mpr c112
              clear c112
              obtain rfl := Option.some.inj H
              have hnb113 := NB755_756.out
              have hnc113 := NB756_755.out
              have hnb114 := NB755_776.out
              have hnc114 := NB776_755.out
              have := yC1 BK755
              have hcz115_1 := kC1 BK755
              have hcz115_2 := kC2 BK755
              have hcz115_3 := kC3 BK755
              have hcz115_4 := kC4 BK755
              have hcz115_5 := kC5 BK755
              have hfz115_0 := bf BK755.out 0
              have hfz115_1 := bf BK755.out 1
              have hfz115_2 := bf BK755.out 2
              have hfz115_3 := bf BK755.out 3
              have hfz115_4 := bf BK755.out 4
              have hfz115_5 := bf BK755.out 5
              go_wp2_with (first | ((with_reducible refine gc (f := 13) rfl ?_); refine goesL_ (some 136) rfl rfl Try.func13 (by kernel_rfl) rfl #[.agg #[.int .i64 a0_0, .int .i64 a0_1, .int .i64 a0_2, .int .i64 a0_3, .int .i64 a0_4, .int .i64 a0_5], .slice A2 l2.length c2] rfl (by (try simp only [pml]); first | done | rfl | (simp only [pdt]; rfl)) ?_; (with_reducible refine (box_Rest.calls k5 a0_0 a0_1 a0_2 a0_3 a0_4 a0_5 _ _ l2 t793 t796 _ ?side1 ?side2 A100.out).mono ?_); (case side1 => repeat (first | exact (Kd.C_below HR2.out HB.out) | (with_reducible refine Kd.C_alloc ?_ _) | (with_reducible refine Kd.C_drewN ?_ _) | (with_reducible refine Kd.C_drew ?_))); (case side2 => exact HC2.out); rintro e w116 ⟨v794, rfl, ho0, hb⟩; refine ⟨_, rfl, ?_⟩; have HO795 := am (Kd.R_lower (Kd.R_newB (Kd.R_newB (Kd.R_newB (Kd.R_new' ho0 (Kd.R_lt (fR HO_19.out))) (g := gb755) (o := .cells #[.int .i64 a0_0, .int .i64 a0_1, .int .i64 a0_2, .int .i64 a0_3, .int .i64 a0_4, .int .i64 a0_5] 25 (0, 0)) (fb BK755.out)) (g := gb756) (o := .cells #[.int .i64 a1_0, .int .i64 a1_1, .int .i64 a1_2, .int .i64 a1_3, .int .i64 a1_4, .int .i64 a1_5] 25 (0, 0)) (fb BK756.out)) (g := gb776) (o := .cells #[.int .i64 t769, .int .i64 t770, .int .i64 t771, .int .i64 t772, .int .i64 t773, .int .i64 t774] 25 (0, 0)) (fb BK776.out)) (wz (fW HB.out))); replace HO_19 := am (Kd.R_elder' (fR HO_19.out) (Kd.R_base ho0) hb); replace BK755 := bB BK755 hb; replace BK756 := bB BK756 hb; replace BK776 := bB BK776 hb; replace HB := bS HB hb; (try clear hb); (try clear hb2); (try clear hk); (try clear hi); (try clear ho0); obtain ⟨Ao117, co117, eo117⟩ := Kd.R_slice HO_19.out; subst eo117) | ((with_reducible refine gc (f := 40) rfl ?_); refine goesL_ (some 141) rfl rfl Try.func40 (by kernel_rfl) rfl #[.slice Ao117 x19_5.length co117] rfl (by (try simp only [pml]); first | done | rfl | (simp only [pdt]; rfl)) ?_; (with_reducible refine (box_Total.calls k5 _ _ x19_5 t797 t798 _ ?side1 ?side2 A101.out).mono ?_); (case side1 => repeat (first | exact (Kd.R_reads' HO_19.out).2.2 | (with_reducible refine Kd.C_alloc ?_ _) | (with_reducible refine Kd.C_drewN ?_ _) | (with_reducible refine Kd.C_drew ?_))); (case side2 => exact (Kd.R_reads' HO_19.out).2.1); rintro e w118 ⟨rfl, hb⟩; refine ⟨_, rfl, ?_⟩; replace HO_19 := dR HO_19 hb; replace HO795 := dR HO795 hb; replace BK755 := bB BK755 hb; replace BK756 := bB BK756 hb; replace BK776 := bB BK776 hb; replace HB := bS HB hb; (try clear hb); (try clear hb2); (try clear hk); (try clear hi); obtain ⟨Ao119, co119, eo119⟩ := Kd.R_slice HO795.out; subst eo119) | ((with_reducible refine gc (f := 40) rfl ?_); refine goesL_ (some 146) rfl rfl Try.func40 (by kernel_rfl) rfl #[.slice Ao119 t793.length co119] rfl (by (try simp only [pml]); first | done | rfl | (simp only [pdt]; rfl)) ?_; (with_reducible refine (box_Total.calls k5 _ _ t793 t799 t800 _ ?side1 ?side2 A102.out).mono ?_); (case side1 => repeat (first | exact (Kd.R_reads' HO795.out).2.2 | (with_reducible refine Kd.C_alloc ?_ _) | (with_reducible refine Kd.C_drewN ?_ _) | (with_reducible refine Kd.C_drew ?_))); (case side2 => exact (Kd.R_reads' HO795.out).2.1); rintro e w120 ⟨rfl, hb⟩; refine ⟨_, rfl, ?_⟩; replace HO_19 := dR HO_19 hb; replace HO795 := dR HO795 hb; replace BK755 := bB BK755 hb; replace BK756 := bB BK756 hb; replace BK776 := bB BK776 hb; replace HB := bS HB hb; (try clear hb); (try clear hb2); (try clear hk); (try clear hi)))
              go_ret
              exact ⟨by first | rfl | (simp [errW_none, errW_some] <;> rfl) | (simp [*, errW_none, errW_some] <;> rfl), by repeat (first | (with_reducible first | exact HB.out | apply wa | apply wN | apply wd | refine ws ?_ GE755.out | refine ws ?_ GE756.out | refine ws ?_ GE776.out) | exact HB.out)⟩
             rw [if_neg c112] at H
             have c112b0 : (t800 == 7) = false := beq_eq_false_iff_ne.mpr c112
             have c112b1 : (t800 != 7) = true := bne_iff_ne.mpr c112
             replace H := Option.bind_eq_some_iff.mp H
             obtain ⟨⟨t801, t802, t803⟩, A1210, H⟩ := H
             replace H : (if t796 = 0 then (if t798 = 0 then (if t800 = 0 then (if (wrap64 (t797 + t799)) = t760 then (some (t803 == 9)) else (some false)) else (some false)) else (some false)) else (some false)) = some r := H
             have A121 := am A1210
             clear A1210
             by_cases c122 : t796 = 0
             rotate_left
             ·rw [if_neg c122] at H
              have c122b0 : (t796 == 0) = false := beq_eq_false_iff_ne.mpr c122
              have c122b1 : (t796 != 0) = true := bne_iff_ne.mpr c122
              obtain rfl := Option.some.inj H
              have hnb162 := NB755_756.out
              have hnc162 := NB756_755.out
              have hnb163 := NB755_776.out
              have hnc163 := NB776_755.out
              have := yC1 BK755
              have hcz164_1 := kC1 BK755
              have hcz164_2 := kC2 BK755
              have hcz164_3 := kC3 BK755
              have hcz164_4 := kC4 BK755
              have hcz164_5 := kC5 BK755
              have hfz164_0 := bf BK755.out 0
              have hfz164_1 := bf BK755.out 1
              have hfz164_2 := bf BK755.out 2
              have hfz164_3 := bf BK755.out 3
              have hfz164_4 := bf BK755.out 4
              have hfz164_5 := bf BK755.out 5
              go_wp2_with (first | ((with_reducible refine gc (f := 13) rfl ?_); refine goesL_ (some 136) rfl rfl Try.func13 (by kernel_rfl) rfl #[.agg #[.int .i64 a0_0, .int .i64 a0_1, .int .i64 a0_2, .int .i64 a0_3, .int .i64 a0_4, .int .i64 a0_5], .slice A2 l2.length c2] rfl (by (try simp only [pml]); first | done | rfl | (simp only [pdt]; rfl)) ?_; (with_reducible refine (box_Rest.calls k5 a0_0 a0_1 a0_2 a0_3 a0_4 a0_5 _ _ l2 t793 t796 _ ?side1 ?side2 A100.out).mono ?_); (case side1 => repeat (first | exact (Kd.C_below HR2.out HB.out) | (with_reducible refine Kd.C_alloc ?_ _) | (with_reducible refine Kd.C_drewN ?_ _) | (with_reducible refine Kd.C_drew ?_))); (case side2 => exact HC2.out); rintro e w165 ⟨v794, rfl, ho0, hb⟩; refine ⟨_, rfl, ?_⟩; have HO795 := am (Kd.R_lower (Kd.R_newB (Kd.R_newB (Kd.R_newB (Kd.R_new' ho0 (Kd.R_lt (fR HO_19.out))) (g := gb755) (o := .cells #[.int .i64 a0_0, .int .i64 a0_1, .int .i64 a0_2, .int .i64 a0_3, .int .i64 a0_4, .int .i64 a0_5] 25 (0, 0)) (fb BK755.out)) (g := gb756) (o := .cells #[.int .i64 a1_0, .int .i64 a1_1, .int .i64 a1_2, .int .i64 a1_3, .int .i64 a1_4, .int .i64 a1_5] 25 (0, 0)) (fb BK756.out)) (g := gb776) (o := .cells #[.int .i64 t769, .int .i64 t770, .int .i64 t771, .int .i64 t772, .int .i64 t773, .int .i64 t774] 25 (0, 0)) (fb BK776.out)) (wz (fW HB.out))); replace HO_19 := am (Kd.R_elder' (fR HO_19.out) (Kd.R_base ho0) hb); replace BK755 := bB BK755 hb; replace BK756 := bB BK756 hb; replace BK776 := bB BK776 hb; replace HB := bS HB hb; (try clear hb); (try clear hb2); (try clear hk); (try clear hi); (try clear ho0); obtain ⟨Ao166, co166, eo166⟩ := Kd.R_slice HO_19.out; subst eo166) | ((with_reducible refine gc (f := 40) rfl ?_); refine goesL_ (some 141) rfl rfl Try.func40 (by kernel_rfl) rfl #[.slice Ao166 x19_5.length co166] rfl (by (try simp only [pml]); first | done | rfl | (simp only [pdt]; rfl)) ?_; (with_reducible refine (box_Total.calls k5 _ _ x19_5 t797 t798 _ ?side1 ?side2 A101.out).mono ?_); (case side1 => repeat (first | exact (Kd.R_reads' HO_19.out).2.2 | (with_reducible refine Kd.C_alloc ?_ _) | (with_reducible refine Kd.C_drewN ?_ _) | (with_reducible refine Kd.C_drew ?_))); (case side2 => exact (Kd.R_reads' HO_19.out).2.1); rintro e w167 ⟨rfl, hb⟩; refine ⟨_, rfl, ?_⟩; replace HO_19 := dR HO_19 hb; replace HO795 := dR HO795 hb; replace BK755 := bB BK755 hb; replace BK756 := bB BK756 hb; replace BK776 := bB BK776 hb; replace HB := bS HB hb; (try clear hb); (try clear hb2); (try clear hk); (try clear hi); obtain ⟨Ao168, co168, eo168⟩ := Kd.R_slice HO795.out; subst eo168) | ((with_reducible refine gc (f := 40) rfl ?_); refine goesL_ (some 146) rfl rfl Try.func40 (by kernel_rfl) rfl #[.slice Ao168 t793.length co168] rfl (by (try simp only [pml]); first | done | rfl | (simp only [pdt]; rfl)) ?_; (with_reducible refine (box_Total.calls k5 _ _ t793 t799 t800 _ ?side1 ?side2 A102.out).mono ?_); (case side1 => repeat (first | exact (Kd.R_reads' HO795.out).2.2 | (with_reducible refine Kd.C_alloc ?_ _) | (with_reducible refine Kd.C_drewN ?_ _) | (with_reducible refine Kd.C_drew ?_))); (case side2 => exact (Kd.R_reads' HO795.out).2.1); rintro e w169 ⟨rfl, hb⟩; refine ⟨_, rfl, ?_⟩; replace HO_19 := dR HO_19 hb; replace HO795 := dR HO795 hb; replace BK755 := bB BK755 hb; replace BK756 := bB BK756 hb; replace BK776 := bB BK776 hb; replace HB := bS HB hb; (try clear hb); (try clear hb2); (try clear hk); (try clear hi)) | ((with_reducible refine gc (f := 41) rfl ?_); refine goesL_ (some 157) rfl rfl Try.func41 (by kernel_rfl) rfl #[.slice Ao168 t793.length co168] rfl (by (try simp only [pml]); first | done | rfl | (simp only [pdt]; rfl)) ?_; (with_reducible refine (box_Clash.calls k5 _ _ t793 t801 t802 t803 _ ?side1 ?side2 A121.out).mono ?_); (case side1 => repeat (first | exact (Kd.R_reads' HO795.out).2.2 | (with_reducible refine Kd.C_alloc ?_ _) | (with_reducible refine Kd.C_drewN ?_ _) | (with_reducible refine Kd.C_drew ?_))); (case side2 => exact (Kd.R_reads' HO795.out).2.1); rintro e w170 ⟨rfl, hb⟩; refine ⟨_, rfl, ?_⟩; replace HO_19 := dR HO_19 hb; replace HO795 := dR HO795 hb; replace BK755 := bB BK755 hb; replace BK756 := bB BK756 hb; replace BK776 := bB BK776 hb; replace HB := bS HB hb; (try clear hb); (try clear hb2); (try clear hk); (try clear hi)))
              go_ret
              exact ⟨by first | rfl | (simp [errW_none, errW_some] <;> rfl) | (simp [*, errW_none, errW_some] <;> rfl), by repeat (first | (with_reducible first | exact HB.out | apply wa | apply wN | apply wd | refine ws ?_ GE755.out | refine ws ?_ GE756.out | refine ws ?_ GE776.out) | exact HB.out)⟩
             rw [if_pos c122] at H
             have c122b0 : (t796 == 0) = true := beq_iff_eq.mpr c122
             have c122b1 : (t796 != 0) = false := bne_eq_false_iff_eq.mpr c122
             clear c122
             by_cases c123 : t798 = 0
             rotate_left
             ·rw [if_neg c123] at H
              have c123b0 : (t798 == 0) = false := beq_eq_false_iff_ne.mpr c123
              have c123b1 : (t798 != 0) = true := bne_iff_ne.mpr c123
              obtain rfl := Option.some.inj H
              have hnb153 := NB755_756.out
              have hnc153 := NB756_755.out
              have hnb154 := NB755_776.out
              have hnc154 := NB776_755.out
              have := yC1 BK755
              have hcz155_1 := kC1 BK755
              have hcz155_2 := kC2 BK755
              have hcz155_3 := kC3 BK755
              have hcz155_4 := kC4 BK755
              have hcz155_5 := kC5 BK755
              have hfz155_0 := bf BK755.out 0
              have hfz155_1 := bf BK755.out 1
              have hfz155_2 := bf BK755.out 2
              have hfz155_3 := bf BK755.out 3
              have hfz155_4 := bf BK755.out 4
              have hfz155_5 := bf BK755.out 5
              go_wp2_with (first | ((with_reducible refine gc (f := 13) rfl ?_); refine goesL_ (some 136) rfl rfl Try.func13 (by kernel_rfl) rfl #[.agg #[.int .i64 a0_0, .int .i64 a0_1, .int .i64 a0_2, .int .i64 a0_3, .int .i64 a0_4, .int .i64 a0_5], .slice A2 l2.length c2] rfl (by (try simp only [pml]); first | done | rfl | (simp only [pdt]; rfl)) ?_; (with_reducible refine (box_Rest.calls k5 a0_0 a0_1 a0_2 a0_3 a0_4 a0_5 _ _ l2 t793 t796 _ ?side1 ?side2 A100.out).mono ?_); (case side1 => repeat (first | exact (Kd.C_below HR2.out HB.out) | (with_reducible refine Kd.C_alloc ?_ _) | (with_reducible refine Kd.C_drewN ?_ _) | (with_reducible refine Kd.C_drew ?_))); (case side2 => exact HC2.out); rintro e w156 ⟨v794, rfl, ho0, hb⟩; refine ⟨_, rfl, ?_⟩; have HO795 := am (Kd.R_lower (Kd.R_newB (Kd.R_newB (Kd.R_newB (Kd.R_new' ho0 (Kd.R_lt (fR HO_19.out))) (g := gb755) (o := .cells #[.int .i64 a0_0, .int .i64 a0_1, .int .i64 a0_2, .int .i64 a0_3, .int .i64 a0_4, .int .i64 a0_5] 25 (0, 0)) (fb BK755.out)) (g := gb756) (o := .cells #[.int .i64 a1_0, .int .i64 a1_1, .int .i64 a1_2, .int .i64 a1_3, .int .i64 a1_4, .int .i64 a1_5] 25 (0, 0)) (fb BK756.out)) (g := gb776) (o := .cells #[.int .i64 t769, .int .i64 t770, .int .i64 t771, .int .i64 t772, .int .i64 t773, .int .i64 t774] 25 (0, 0)) (fb BK776.out)) (wz (fW HB.out))); replace HO_19 := am (Kd.R_elder' (fR HO_19.out) (Kd.R_base ho0) hb); replace BK755 := bB BK755 hb; replace BK756 := bB BK756 hb; replace BK776 := bB BK776 hb; replace HB := bS HB hb; (try clear hb); (try clear hb2); (try clear hk); (try clear hi); (try clear ho0); obtain ⟨Ao157, co157, eo157⟩ := Kd.R_slice HO_19.out; subst eo157) | ((with_reducible refine gc (f := 40) rfl ?_); refine goesL_ (some 141) rfl rfl Try.func40 (by kernel_rfl) rfl #[.slice Ao157 x19_5.length co157] rfl (by (try simp only [pml]); first | done | rfl | (simp only [pdt]; rfl)) ?_; (with_reducible refine (box_Total.calls k5 _ _ x19_5 t797 t798 _ ?side1 ?side2 A101.out).mono ?_); (case side1 => repeat (first | exact (Kd.R_reads' HO_19.out).2.2 | (with_reducible refine Kd.C_alloc ?_ _) | (with_reducible refine Kd.C_drewN ?_ _) | (with_reducible refine Kd.C_drew ?_))); (case side2 => exact (Kd.R_reads' HO_19.out).2.1); rintro e w158 ⟨rfl, hb⟩; refine ⟨_, rfl, ?_⟩; replace HO_19 := dR HO_19 hb; replace HO795 := dR HO795 hb; replace BK755 := bB BK755 hb; replace BK756 := bB BK756 hb; replace BK776 := bB BK776 hb; replace HB := bS HB hb; (try clear hb); (try clear hb2); (try clear hk); (try clear hi); obtain ⟨Ao159, co159, eo159⟩ := Kd.R_slice HO795.out; subst eo159) | ((with_reducible refine gc (f := 40) rfl ?_); refine goesL_ (some 146) rfl rfl Try.func40 (by kernel_rfl) rfl #[.slice Ao159 t793.length co159] rfl (by (try simp only [pml]); first | done | rfl | (simp only [pdt]; rfl)) ?_; (with_reducible refine (box_Total.calls k5 _ _ t793 t799 t800 _ ?side1 ?side2 A102.out).mono ?_); (case side1 => repeat (first | exact (Kd.R_reads' HO795.out).2.2 | (with_reducible refine Kd.C_alloc ?_ _) | (with_reducible refine Kd.C_drewN ?_ _) | (with_reducible refine Kd.C_drew ?_))); (case side2 => exact (Kd.R_reads' HO795.out).2.1); rintro e w160 ⟨rfl, hb⟩; refine ⟨_, rfl, ?_⟩; replace HO_19 := dR HO_19 hb; replace HO795 := dR HO795 hb; replace BK755 := bB BK755 hb; replace BK756 := bB BK756 hb; replace BK776 := bB BK776 hb; replace HB := bS HB hb; (try clear hb); (try clear hb2); (try clear hk); (try clear hi)) | ((with_reducible refine gc (f := 41) rfl ?_); refine goesL_ (some 157) rfl rfl Try.func41 (by kernel_rfl) rfl #[.slice Ao159 t793.length co159] rfl (by (try simp only [pml]); first | done | rfl | (simp only [pdt]; rfl)) ?_; (with_reducible refine (box_Clash.calls k5 _ _ t793 t801 t802 t803 _ ?side1 ?side2 A121.out).mono ?_); (case side1 => repeat (first | exact (Kd.R_reads' HO795.out).2.2 | (with_reducible refine Kd.C_alloc ?_ _) | (with_reducible refine Kd.C_drewN ?_ _) | (with_reducible refine Kd.C_drew ?_))); (case side2 => exact (Kd.R_reads' HO795.out).2.1); rintro e w161 ⟨rfl, hb⟩; refine ⟨_, rfl, ?_⟩; replace HO_19 := dR HO_19 hb; replace HO795 := dR HO795 hb; replace BK755 := bB BK755 hb; replace BK756 := bB BK756 hb; replace BK776 := bB BK776 hb; replace HB := bS HB hb; (try clear hb); (try clear hb2); (try clear hk); (try clear hi)))
              go_ret
              exact ⟨by first | rfl | (simp [errW_none, errW_some] <;> rfl) | (simp [*, errW_none, errW_some] <;> rfl), by repeat (first | (with_reducible first | exact HB.out | apply wa | apply wN | apply wd | refine ws ?_ GE755.out | refine ws ?_ GE756.out | refine ws ?_ GE776.out) | exact HB.out)⟩
             rw [if_pos c123] at H
             have c123b0 : (t798 == 0) = true := beq_iff_eq.mpr c123
             have c123b1 : (t798 != 0) = false := bne_eq_false_iff_eq.mpr c123
             clear c123
             by_cases c124 : t800 = 0
             rotate_left
             ·rw [if_neg c124] at H
              have c124b0 : (t800 == 0) = false := beq_eq_false_iff_ne.mpr c124
              have c124b1 : (t800 != 0) = true := bne_iff_ne.mpr c124
              obtain rfl := Option.some.inj H
              have hnb144 := NB755_756.out
              have hnc144 := NB756_755.out
              have hnb145 := NB755_776.out
              have hnc145 := NB776_755.out
              have := yC1 BK755
              have hcz146_1 := kC1 BK755
              have hcz146_2 := kC2 BK755
              have hcz146_3 := kC3 BK755
              have hcz146_4 := kC4 BK755
              have hcz146_5 := kC5 BK755
              have hfz146_0 := bf BK755.out 0
              have hfz146_1 := bf BK755.out 1
              have hfz146_2 := bf BK755.out 2
              have hfz146_3 := bf BK755.out 3
              have hfz146_4 := bf BK755.out 4
              have hfz146_5 := bf BK755.out 5
              go_wp2_with (first | ((with_reducible refine gc (f := 13) rfl ?_); refine goesL_ (some 136) rfl rfl Try.func13 (by kernel_rfl) rfl #[.agg #[.int .i64 a0_0, .int .i64 a0_1, .int .i64 a0_2, .int .i64 a0_3, .int .i64 a0_4, .int .i64 a0_5], .slice A2 l2.length c2] rfl (by (try simp only [pml]); first | done | rfl | (simp only [pdt]; rfl)) ?_; (with_reducible refine (box_Rest.calls k5 a0_0 a0_1 a0_2 a0_3 a0_4 a0_5 _ _ l2 t793 t796 _ ?side1 ?side2 A100.out).mono ?_); (case side1 => repeat (first | exact (Kd.C_below HR2.out HB.out) | (with_reducible refine Kd.C_alloc ?_ _) | (with_reducible refine Kd.C_drewN ?_ _) | (with_reducible refine Kd.C_drew ?_))); (case side2 => exact HC2.out); rintro e w147 ⟨v794, rfl, ho0, hb⟩; refine ⟨_, rfl, ?_⟩; have HO795 := am (Kd.R_lower (Kd.R_newB (Kd.R_newB (Kd.R_newB (Kd.R_new' ho0 (Kd.R_lt (fR HO_19.out))) (g := gb755) (o := .cells #[.int .i64 a0_0, .int .i64 a0_1, .int .i64 a0_2, .int .i64 a0_3, .int .i64 a0_4, .int .i64 a0_5] 25 (0, 0)) (fb BK755.out)) (g := gb756) (o := .cells #[.int .i64 a1_0, .int .i64 a1_1, .int .i64 a1_2, .int .i64 a1_3, .int .i64 a1_4, .int .i64 a1_5] 25 (0, 0)) (fb BK756.out)) (g := gb776) (o := .cells #[.int .i64 t769, .int .i64 t770, .int .i64 t771, .int .i64 t772, .int .i64 t773, .int .i64 t774] 25 (0, 0)) (fb BK776.out)) (wz (fW HB.out))); replace HO_19 := am (Kd.R_elder' (fR HO_19.out) (Kd.R_base ho0) hb); replace BK755 := bB BK755 hb; replace BK756 := bB BK756 hb; replace BK776 := bB BK776 hb; replace HB := bS HB hb; (try clear hb); (try clear hb2); (try clear hk); (try clear hi); (try clear ho0); obtain ⟨Ao148, co148, eo148⟩ := Kd.R_slice HO_19.out; subst eo148) | ((with_reducible refine gc (f := 40) rfl ?_); refine goesL_ (some 141) rfl rfl Try.func40 (by kernel_rfl) rfl #[.slice Ao148 x19_5.length co148] rfl (by (try simp only [pml]); first | done | rfl | (simp only [pdt]; rfl)) ?_; (with_reducible refine (box_Total.calls k5 _ _ x19_5 t797 t798 _ ?side1 ?side2 A101.out).mono ?_); (case side1 => repeat (first | exact (Kd.R_reads' HO_19.out).2.2 | (with_reducible refine Kd.C_alloc ?_ _) | (with_reducible refine Kd.C_drewN ?_ _) | (with_reducible refine Kd.C_drew ?_))); (case side2 => exact (Kd.R_reads' HO_19.out).2.1); rintro e w149 ⟨rfl, hb⟩; refine ⟨_, rfl, ?_⟩; replace HO_19 := dR HO_19 hb; replace HO795 := dR HO795 hb; replace BK755 := bB BK755 hb; replace BK756 := bB BK756 hb; replace BK776 := bB BK776 hb; replace HB := bS HB hb; (try clear hb); (try clear hb2); (try clear hk); (try clear hi); obtain ⟨Ao150, co150, eo150⟩ := Kd.R_slice HO795.out; subst eo150) | ((with_reducible refine gc (f := 40) rfl ?_); refine goesL_ (some 146) rfl rfl Try.func40 (by kernel_rfl) rfl #[.slice Ao150 t793.length co150] rfl (by (try simp only [pml]); first | done | rfl | (simp only [pdt]; rfl)) ?_; (with_reducible refine (box_Total.calls k5 _ _ t793 t799 t800 _ ?side1 ?side2 A102.out).mono ?_); (case side1 => repeat (first | exact (Kd.R_reads' HO795.out).2.2 | (with_reducible refine Kd.C_alloc ?_ _) | (with_reducible refine Kd.C_drewN ?_ _) | (with_reducible refine Kd.C_drew ?_))); (case side2 => exact (Kd.R_reads' HO795.out).2.1); rintro e w151 ⟨rfl, hb⟩; refine ⟨_, rfl, ?_⟩; replace HO_19 := dR HO_19 hb; replace HO795 := dR HO795 hb; replace BK755 := bB BK755 hb; replace BK756 := bB BK756 hb; replace BK776 := bB BK776 hb; replace HB := bS HB hb; (try clear hb); (try clear hb2); (try clear hk); (try clear hi)) | ((with_reducible refine gc (f := 41) rfl ?_); refine goesL_ (some 157) rfl rfl Try.func41 (by kernel_rfl) rfl #[.slice Ao150 t793.length co150] rfl (by (try simp only [pml]); first | done | rfl | (simp only [pdt]; rfl)) ?_; (with_reducible refine (box_Clash.calls k5 _ _ t793 t801 t802 t803 _ ?side1 ?side2 A121.out).mono ?_); (case side1 => repeat (first | exact (Kd.R_reads' HO795.out).2.2 | (with_reducible refine Kd.C_alloc ?_ _) | (with_reducible refine Kd.C_drewN ?_ _) | (with_reducible refine Kd.C_drew ?_))); (case side2 => exact (Kd.R_reads' HO795.out).2.1); rintro e w152 ⟨rfl, hb⟩; refine ⟨_, rfl, ?_⟩; replace HO_19 := dR HO_19 hb; replace HO795 := dR HO795 hb; replace BK755 := bB BK755 hb; replace BK756 := bB BK756 hb; replace BK776 := bB BK776 hb; replace HB := bS HB hb; (try clear hb); (try clear hb2); (try clear hk); (try clear hi)))
              go_ret
              exact ⟨by first | rfl | (simp [errW_none, errW_some] <;> rfl) | (simp [*, errW_none, errW_some] <;> rfl), by repeat (first | (with_reducible first | exact HB.out | apply wa | apply wN | apply wd | refine ws ?_ GE755.out | refine ws ?_ GE756.out | refine ws ?_ GE776.out) | exact HB.out)⟩
             rw [if_pos c124] at H
             have c124b0 : (t800 == 0) = true := beq_iff_eq.mpr c124
             have c124b1 : (t800 != 0) = false := bne_eq_false_iff_eq.mpr c124
             clear c124
             by_cases c125 : (wrap64 (t797 + t799)) = t760
             ·rw [if_pos c125] at H
              have c125b0 : ((wrap64 (t797 + t799)) == t760) = true := beq_iff_eq.mpr c125
              have c125b1 : ((wrap64 (t797 + t799)) != t760) = false := bne_eq_false_iff_eq.mpr c125
              clear c125
              obtain rfl := Option.some.inj H
              have hnb126 := NB755_756.out
              have hnc126 := NB756_755.out
              have hnb127 := NB755_776.out
              have hnc127 := NB776_755.out
              have := yC1 BK755
              have hcz128_1 := kC1 BK755
              have hcz128_2 := kC2 BK755
              have hcz128_3 := kC3 BK755
              have hcz128_4 := kC4 BK755
              have hcz128_5 := kC5 BK755
              have hfz128_0 := bf BK755.out 0
              have hfz128_1 := bf BK755.out 1
              have hfz128_2 := bf BK755.out 2
              have hfz128_3 := bf BK755.out 3
              have hfz128_4 := bf BK755.out 4
              have hfz128_5 := bf BK755.out 5
              go_wp2_with (first | ((with_reducible refine gc (f := 13) rfl ?_); refine goesL_ (some 136) rfl rfl Try.func13 (by kernel_rfl) rfl #[.agg #[.int .i64 a0_0, .int .i64 a0_1, .int .i64 a0_2, .int .i64 a0_3, .int .i64 a0_4, .int .i64 a0_5], .slice A2 l2.length c2] rfl (by (try simp only [pml]); first | done | rfl | (simp only [pdt]; rfl)) ?_; (with_reducible refine (box_Rest.calls k5 a0_0 a0_1 a0_2 a0_3 a0_4 a0_5 _ _ l2 t793 t796 _ ?side1 ?side2 A100.out).mono ?_); (case side1 => repeat (first | exact (Kd.C_below HR2.out HB.out) | (with_reducible refine Kd.C_alloc ?_ _) | (with_reducible refine Kd.C_drewN ?_ _) | (with_reducible refine Kd.C_drew ?_))); (case side2 => exact HC2.out); rintro e w129 ⟨v794, rfl, ho0, hb⟩; refine ⟨_, rfl, ?_⟩; have HO795 := am (Kd.R_lower (Kd.R_newB (Kd.R_newB (Kd.R_newB (Kd.R_new' ho0 (Kd.R_lt (fR HO_19.out))) (g := gb755) (o := .cells #[.int .i64 a0_0, .int .i64 a0_1, .int .i64 a0_2, .int .i64 a0_3, .int .i64 a0_4, .int .i64 a0_5] 25 (0, 0)) (fb BK755.out)) (g := gb756) (o := .cells #[.int .i64 a1_0, .int .i64 a1_1, .int .i64 a1_2, .int .i64 a1_3, .int .i64 a1_4, .int .i64 a1_5] 25 (0, 0)) (fb BK756.out)) (g := gb776) (o := .cells #[.int .i64 t769, .int .i64 t770, .int .i64 t771, .int .i64 t772, .int .i64 t773, .int .i64 t774] 25 (0, 0)) (fb BK776.out)) (wz (fW HB.out))); replace HO_19 := am (Kd.R_elder' (fR HO_19.out) (Kd.R_base ho0) hb); replace BK755 := bB BK755 hb; replace BK756 := bB BK756 hb; replace BK776 := bB BK776 hb; replace HB := bS HB hb; (try clear hb); (try clear hb2); (try clear hk); (try clear hi); (try clear ho0); obtain ⟨Ao130, co130, eo130⟩ := Kd.R_slice HO_19.out; subst eo130) | ((with_reducible refine gc (f := 40) rfl ?_); refine goesL_ (some 141) rfl rfl Try.func40 (by kernel_rfl) rfl #[.slice Ao130 x19_5.length co130] rfl (by (try simp only [pml]); first | done | rfl | (simp only [pdt]; rfl)) ?_; (with_reducible refine (box_Total.calls k5 _ _ x19_5 t797 t798 _ ?side1 ?side2 A101.out).mono ?_); (case side1 => repeat (first | exact (Kd.R_reads' HO_19.out).2.2 | (with_reducible refine Kd.C_alloc ?_ _) | (with_reducible refine Kd.C_drewN ?_ _) | (with_reducible refine Kd.C_drew ?_))); (case side2 => exact (Kd.R_reads' HO_19.out).2.1); rintro e w131 ⟨rfl, hb⟩; refine ⟨_, rfl, ?_⟩; replace HO_19 := dR HO_19 hb; replace HO795 := dR HO795 hb; replace BK755 := bB BK755 hb; replace BK756 := bB BK756 hb; replace BK776 := bB BK776 hb; replace HB := bS HB hb; (try clear hb); (try clear hb2); (try clear hk); (try clear hi); obtain ⟨Ao132, co132, eo132⟩ := Kd.R_slice HO795.out; subst eo132) | ((with_reducible refine gc (f := 40) rfl ?_); refine goesL_ (some 146) rfl rfl Try.func40 (by kernel_rfl) rfl #[.slice Ao132 t793.length co132] rfl (by (try simp only [pml]); first | done | rfl | (simp only [pdt]; rfl)) ?_; (with_reducible refine (box_Total.calls k5 _ _ t793 t799 t800 _ ?side1 ?side2 A102.out).mono ?_); (case side1 => repeat (first | exact (Kd.R_reads' HO795.out).2.2 | (with_reducible refine Kd.C_alloc ?_ _) | (with_reducible refine Kd.C_drewN ?_ _) | (with_reducible refine Kd.C_drew ?_))); (case side2 => exact (Kd.R_reads' HO795.out).2.1); rintro e w133 ⟨rfl, hb⟩; refine ⟨_, rfl, ?_⟩; replace HO_19 := dR HO_19 hb; replace HO795 := dR HO795 hb; replace BK755 := bB BK755 hb; replace BK756 := bB BK756 hb; replace BK776 := bB BK776 hb; replace HB := bS HB hb; (try clear hb); (try clear hb2); (try clear hk); (try clear hi)) | ((with_reducible refine gc (f := 41) rfl ?_); refine goesL_ (some 157) rfl rfl Try.func41 (by kernel_rfl) rfl #[.slice Ao132 t793.length co132] rfl (by (try simp only [pml]); first | done | rfl | (simp only [pdt]; rfl)) ?_; (with_reducible refine (box_Clash.calls k5 _ _ t793 t801 t802 t803 _ ?side1 ?side2 A121.out).mono ?_); (case side1 => repeat (first | exact (Kd.R_reads' HO795.out).2.2 | (with_reducible refine Kd.C_alloc ?_ _) | (with_reducible refine Kd.C_drewN ?_ _) | (with_reducible refine Kd.C_drew ?_))); (case side2 => exact (Kd.R_reads' HO795.out).2.1); rintro e w134 ⟨rfl, hb⟩; refine ⟨_, rfl, ?_⟩; replace HO_19 := dR HO_19 hb; replace HO795 := dR HO795 hb; replace BK755 := bB BK755 hb; replace BK756 := bB BK756 hb; replace BK776 := bB BK776 hb; replace HB := bS HB hb; (try clear hb); (try clear hb2); (try clear hk); (try clear hi)))
              go_ret
              exact ⟨by first | rfl | (simp [errW_none, errW_some] <;> rfl) | (simp [*, errW_none, errW_some] <;> rfl), by repeat (first | (with_reducible first | exact HB.out | apply wa | apply wN | apply wd | refine ws ?_ GE755.out | refine ws ?_ GE756.out | refine ws ?_ GE776.out) | exact HB.out)⟩
             rw [if_neg c125] at H
             have c125b0 : ((wrap64 (t797 + t799)) == t760) = false := beq_eq_false_iff_ne.mpr c125
             have c125b1 : ((wrap64 (t797 + t799)) != t760) = true := bne_iff_ne.mpr c125
             obtain rfl := Option.some.inj H
             have hnb135 := NB755_756.out
             have hnc135 := NB756_755.out
             have hnb136 := NB755_776.out
             have hnc136 := NB776_755.out
             have := yC1 BK755
             have hcz137_1 := kC1 BK755
             have hcz137_2 := kC2 BK755
             have hcz137_3 := kC3 BK755
             have hcz137_4 := kC4 BK755
             have hcz137_5 := kC5 BK755
             have hfz137_0 := bf BK755.out 0
             have hfz137_1 := bf BK755.out 1
             have hfz137_2 := bf BK755.out 2
             have hfz137_3 := bf BK755.out 3
             have hfz137_4 := bf BK755.out 4
             have hfz137_5 := bf BK755.out 5
             go_wp2_with (first | ((with_reducible refine gc (f := 13) rfl ?_); refine goesL_ (some 136) rfl rfl Try.func13 (by kernel_rfl) rfl #[.agg #[.int .i64 a0_0, .int .i64 a0_1, .int .i64 a0_2, .int .i64 a0_3, .int .i64 a0_4, .int .i64 a0_5], .slice A2 l2.length c2] rfl (by (try simp only [pml]); first | done | rfl | (simp only [pdt]; rfl)) ?_; (with_reducible refine (box_Rest.calls k5 a0_0 a0_1 a0_2 a0_3 a0_4 a0_5 _ _ l2 t793 t796 _ ?side1 ?side2 A100.out).mono ?_); (case side1 => repeat (first | exact (Kd.C_below HR2.out HB.out) | (with_reducible refine Kd.C_alloc ?_ _) | (with_reducible refine Kd.C_drewN ?_ _) | (with_reducible refine Kd.C_drew ?_))); (case side2 => exact HC2.out); rintro e w138 ⟨v794, rfl, ho0, hb⟩; refine ⟨_, rfl, ?_⟩; have HO795 := am (Kd.R_lower (Kd.R_newB (Kd.R_newB (Kd.R_newB (Kd.R_new' ho0 (Kd.R_lt (fR HO_19.out))) (g := gb755) (o := .cells #[.int .i64 a0_0, .int .i64 a0_1, .int .i64 a0_2, .int .i64 a0_3, .int .i64 a0_4, .int .i64 a0_5] 25 (0, 0)) (fb BK755.out)) (g := gb756) (o := .cells #[.int .i64 a1_0, .int .i64 a1_1, .int .i64 a1_2, .int .i64 a1_3, .int .i64 a1_4, .int .i64 a1_5] 25 (0, 0)) (fb BK756.out)) (g := gb776) (o := .cells #[.int .i64 t769, .int .i64 t770, .int .i64 t771, .int .i64 t772, .int .i64 t773, .int .i64 t774] 25 (0, 0)) (fb BK776.out)) (wz (fW HB.out))); replace HO_19 := am (Kd.R_elder' (fR HO_19.out) (Kd.R_base ho0) hb); replace BK755 := bB BK755 hb; replace BK756 := bB BK756 hb; replace BK776 := bB BK776 hb; replace HB := bS HB hb; (try clear hb); (try clear hb2); (try clear hk); (try clear hi); (try clear ho0); obtain ⟨Ao139, co139, eo139⟩ := Kd.R_slice HO_19.out; subst eo139) | ((with_reducible refine gc (f := 40) rfl ?_); refine goesL_ (some 141) rfl rfl Try.func40 (by kernel_rfl) rfl #[.slice Ao139 x19_5.length co139] rfl (by (try simp only [pml]); first | done | rfl | (simp only [pdt]; rfl)) ?_; (with_reducible refine (box_Total.calls k5 _ _ x19_5 t797 t798 _ ?side1 ?side2 A101.out).mono ?_); (case side1 => repeat (first | exact (Kd.R_reads' HO_19.out).2.2 | (with_reducible refine Kd.C_alloc ?_ _) | (with_reducible refine Kd.C_drewN ?_ _) | (with_reducible refine Kd.C_drew ?_))); (case side2 => exact (Kd.R_reads' HO_19.out).2.1); rintro e w140 ⟨rfl, hb⟩; refine ⟨_, rfl, ?_⟩; replace HO_19 := dR HO_19 hb; replace HO795 := dR HO795 hb; replace BK755 := bB BK755 hb; replace BK756 := bB BK756 hb; replace BK776 := bB BK776 hb; replace HB := bS HB hb; (try clear hb); (try clear hb2); (try clear hk); (try clear hi); obtain ⟨Ao141, co141, eo141⟩ := Kd.R_slice HO795.out; subst eo141) | ((with_reducible refine gc (f := 40) rfl ?_); refine goesL_ (some 146) rfl rfl Try.func40 (by kernel_rfl) rfl #[.slice Ao141 t793.length co141] rfl (by (try simp only [pml]); first | done | rfl | (simp only [pdt]; rfl)) ?_; (with_reducible refine (box_Total.calls k5 _ _ t793 t799 t800 _ ?side1 ?side2 A102.out).mono ?_); (case side1 => repeat (first | exact (Kd.R_reads' HO795.out).2.2 | (with_reducible refine Kd.C_alloc ?_ _) | (with_reducible refine Kd.C_drewN ?_ _) | (with_reducible refine Kd.C_drew ?_))); (case side2 => exact (Kd.R_reads' HO795.out).2.1); rintro e w142 ⟨rfl, hb⟩; refine ⟨_, rfl, ?_⟩; replace HO_19 := dR HO_19 hb; replace HO795 := dR HO795 hb; replace BK755 := bB BK755 hb; replace BK756 := bB BK756 hb; replace BK776 := bB BK776 hb; replace HB := bS HB hb; (try clear hb); (try clear hb2); (try clear hk); (try clear hi)) | ((with_reducible refine gc (f := 41) rfl ?_); refine goesL_ (some 157) rfl rfl Try.func41 (by kernel_rfl) rfl #[.slice Ao141 t793.length co141] rfl (by (try simp only [pml]); first | done | rfl | (simp only [pdt]; rfl)) ?_; (with_reducible refine (box_Clash.calls k5 _ _ t793 t801 t802 t803 _ ?side1 ?side2 A121.out).mono ?_); (case side1 => repeat (first | exact (Kd.R_reads' HO795.out).2.2 | (with_reducible refine Kd.C_alloc ?_ _) | (with_reducible refine Kd.C_drewN ?_ _) | (with_reducible refine Kd.C_drew ?_))); (case side2 => exact (Kd.R_reads' HO795.out).2.1); rintro e w143 ⟨rfl, hb⟩; refine ⟨_, rfl, ?_⟩; replace HO_19 := dR HO_19 hb; replace HO795 := dR HO795 hb; replace BK755 := bB BK755 hb; replace BK756 := bB BK756 hb; replace BK776 := bB BK776 hb; replace HB := bS HB hb; (try clear hb); (try clear hb2); (try clear hk); (try clear hi)))
             go_ret
             exact ⟨by first | rfl | (simp [errW_none, errW_some] <;> rfl) | (simp [*, errW_none, errW_some] <;> rfl), by repeat (first | (with_reducible first | exact HB.out | apply wa | apply wN | apply wd | refine ws ?_ GE755.out | refine ws ?_ GE756.out | refine ws ?_ GE776.out) | exact HB.out)⟩
            rw [if_pos c65] at H
            have c65b0 : decide (x20_5 < (l2.length : Int)) = true := decide_eq_true c65
            clear c65
            by_cases c66 : 0 ≤ x20_5
            rotate_left
            ·rw [if_neg c66] at H
             exact absurd H (by simp)
            rw [if_pos c66] at H
            have c66b0 : decide (0 ≤ x20_5) = true := decide_eq_true c66
            clear c66
            replace H := Option.bind_eq_some_iff.mp H
            obtain ⟨t780, A670, H⟩ := H
            replace H : (if t780 = 0 then ((box_Intersect.f k5 a0_0 a0_1 a0_2 a0_3 a0_4 a0_5 ((rd_T25 l2 x20_5).f0.f0) ((rd_T25 l2 x20_5).f0.f1) ((rd_T25 l2 x20_5).f0.f2) ((rd_T25 l2 x20_5).f1.f0) ((rd_T25 l2 x20_5).f1.f1) ((rd_T25 l2 x20_5).f1.f2)).bind fun bt782 => (if bt782.2.2.2.2.2.2 = 0 then (if x19_5.length < 2932031007402 then (w_BoxVolumes.l1 k5 l2 t760 (x19_5 ++ [(⟨(⟨bt782.1, bt782.2.1, bt782.2.2.1⟩ : S23), (⟨bt782.2.2.2.1, bt782.2.2.2.2.1, bt782.2.2.2.2.2.1⟩ : S23)⟩ : S25)]) (wrap64 (x20_5 + 1)) a0_0 a0_1 a0_2 a0_3 a0_4 a0_5) else (none)) else (w_BoxVolumes.l1 k5 l2 t760 x19_5 (wrap64 (x20_5 + 1)) a0_0 a0_1 a0_2 a0_3 a0_4 a0_5))) else (some true)) = some r := H
            have A67 := am A670
            clear A670
            by_cases c68 : t780 = 0
            rotate_left
            ·rw [if_neg c68] at H
             have c68b0 : (t780 == 0) = false := beq_eq_false_iff_ne.mpr c68
             have c68b1 : (t780 != 0) = true := bne_iff_ne.mpr c68
             obtain rfl := Option.some.inj H
             have p779 : 0 ≤ (x20_5 : Int) := of_decide_eq_true (by assumption)
             have q779 : x20_5 < (l2.length : Int) := of_decide_eq_true (by assumption)
             obtain ⟨ad779, e779, hx779_0, hx779_1, hx779_2, hx779_3, hx779_4, hx779_5⟩ := at_T25 HR2.out x20_5 p779 q779
             cases e779
             replace hx779_0 := cl HB hx779_0
             replace hx779_1 := cl HB hx779_1
             replace hx779_2 := cl HB hx779_2
             replace hx779_3 := cl HB hx779_3
             replace hx779_4 := cl HB hx779_4
             replace hx779_5 := cl HB hx779_5
             replace p779 := eq_true p779
             replace q779 := eq_true q779
             go_wp2_with (first | ((with_reducible refine gc (f := 20) rfl ?_); refine goesL_ (some 116) rfl rfl Try.func20 (by kernel_rfl) rfl #[.agg #[.int .i64 ((rd_T25 l2 x20_5).f0.f0), .int .i64 ((rd_T25 l2 x20_5).f0.f1), .int .i64 ((rd_T25 l2 x20_5).f0.f2), .int .i64 ((rd_T25 l2 x20_5).f1.f0), .int .i64 ((rd_T25 l2 x20_5).f1.f1), .int .i64 ((rd_T25 l2 x20_5).f1.f2)]] rfl (by (try simp only [pml]); first | done | rfl | (simp only [pdt]; rfl)) ?_; (with_reducible refine (box_Check.calls ((rd_T25 l2 x20_5).f0.f0) ((rd_T25 l2 x20_5).f0.f1) ((rd_T25 l2 x20_5).f0.f2) ((rd_T25 l2 x20_5).f1.f0) ((rd_T25 l2 x20_5).f1.f1) ((rd_T25 l2 x20_5).f1.f2) t780 _ A67.out).mono ?_); rintro e w99 ⟨rfl, hb⟩; refine ⟨_, rfl, ?_⟩; replace HO_19 := dR HO_19 hb; replace BK755 := bB BK755 hb; replace BK756 := bB BK756 hb; replace BK776 := bB BK776 hb; replace HB := bS HB hb; (try clear hb); (try clear hb2); (try clear hk); (try clear hi)))
             go_ret
             exact ⟨by first | rfl | (simp [errW_none, errW_some] <;> rfl) | (simp [*, errW_none, errW_some] <;> rfl), by repeat (first | (with_reducible first | exact HB.out | apply wa | apply wN | apply wd | refine ws ?_ GE755.out | refine ws ?_ GE756.out | refine ws ?_ GE776.out) | exact HB.out)⟩
            rw [if_pos c68] at H
            have c68b0 : (t780 == 0) = true := beq_iff_eq.mpr c68
            have c68b1 : (t780 != 0) = false := bne_eq_false_iff_eq.mpr c68
            clear c68
            replace H := Option.bind_eq_some_iff.mp H
            obtain ⟨⟨t782, t783, t784, t785, t786, t787, t788⟩, A690, H⟩ := H
            replace H : (if t788 = 0 then (if x19_5.length < 2932031007402 then (w_BoxVolumes.l1 k5 l2 t760 (x19_5 ++ [(⟨(⟨t782, t783, t784⟩ : S23), (⟨t785, t786, t787⟩ : S23)⟩ : S25)]) (wrap64 (x20_5 + 1)) a0_0 a0_1 a0_2 a0_3 a0_4 a0_5) else (none)) else (w_BoxVolumes.l1 k5 l2 t760 x19_5 (wrap64 (x20_5 + 1)) a0_0 a0_1 a0_2 a0_3 a0_4 a0_5)) = some r := H
            have A69 := am A690
            clear A690
            by_cases c70 : t788 = 0
            rotate_left
            ·rw [if_neg c70] at H
             have c70b0 : (t788 == 0) = false := beq_eq_false_iff_ne.mpr c70
             have c70b1 : (t788 != 0) = true := bne_iff_ne.mpr c70
             have H' := am H
             clear H
             have p779 : 0 ≤ (x20_5 : Int) := of_decide_eq_true (by assumption)
             have q779 : x20_5 < (l2.length : Int) := of_decide_eq_true (by assumption)
             obtain ⟨ad779, e779, hx779_0, hx779_1, hx779_2, hx779_3, hx779_4, hx779_5⟩ := at_T25 HR2.out x20_5 p779 q779
             cases e779
             replace hx779_0 := cl HB hx779_0
             replace hx779_1 := cl HB hx779_1
             replace hx779_2 := cl HB hx779_2
             replace hx779_3 := cl HB hx779_3
             replace hx779_4 := cl HB hx779_4
             replace hx779_5 := cl HB hx779_5
             replace p779 := eq_true p779
             replace q779 := eq_true q779
             try go_wp2_with (first | ((with_reducible refine gc (f := 20) rfl ?_); refine goesL_ (some 116) rfl rfl Try.func20 (by kernel_rfl) rfl #[.agg #[.int .i64 ((rd_T25 l2 x20_5).f0.f0), .int .i64 ((rd_T25 l2 x20_5).f0.f1), .int .i64 ((rd_T25 l2 x20_5).f0.f2), .int .i64 ((rd_T25 l2 x20_5).f1.f0), .int .i64 ((rd_T25 l2 x20_5).f1.f1), .int .i64 ((rd_T25 l2 x20_5).f1.f2)]] rfl (by (try simp only [pml]); first | done | rfl | (simp only [pdt]; rfl)) ?_; (with_reducible refine (box_Check.calls ((rd_T25 l2 x20_5).f0.f0) ((rd_T25 l2 x20_5).f0.f1) ((rd_T25 l2 x20_5).f0.f2) ((rd_T25 l2 x20_5).f1.f0) ((rd_T25 l2 x20_5).f1.f1) ((rd_T25 l2 x20_5).f1.f2) t780 _ A67.out).mono ?_); rintro e w88 ⟨rfl, hb⟩; refine ⟨_, rfl, ?_⟩; replace HO_19 := dR HO_19 hb; replace BK755 := bB BK755 hb; replace BK756 := bB BK756 hb; replace BK776 := bB BK776 hb; replace HB := bS HB hb; (try clear hb); (try clear hb2); (try clear hk); (try clear hi)))
             have n0_ := am (Kd.R_drew HO_19.out)
             have n1_ := am (bd BK755.out)
             have n2_ := am (bd BK756.out)
             have n3_ := am (bd BK776.out)
             have n4_ := am (wd HB.out)
             clear HO_19 BK755 BK756 BK776 HB
             have HO_19 := n0_
             have BK755 := n1_
             have BK756 := n2_
             have BK776 := n3_
             have HB := n4_
             clear n0_ n1_ n2_ n3_ n4_
             have p781 : 0 ≤ (x20_5 : Int) := of_decide_eq_true (by assumption)
             have q781 : x20_5 < (l2.length : Int) := of_decide_eq_true (by assumption)
             obtain ⟨ad781, e781, hx781_0, hx781_1, hx781_2, hx781_3, hx781_4, hx781_5⟩ := at_T25 HR2.out x20_5 p781 q781
             have hw781_5 := hx781_5
             have hw781_4 := hx781_4
             have hw781_3 := hx781_3
             have hw781_2 := hx781_2
             have hw781_1 := hx781_1
             have hw781_0 := hx781_0
             obtain rfl : ad779 = ad781 := (by injection e781)
             replace hx781_0 := cl HB hx781_0
             replace hx781_1 := cl HB hx781_1
             replace hx781_2 := cl HB hx781_2
             replace hx781_3 := cl HB hx781_3
             replace hx781_4 := cl HB hx781_4
             replace hx781_5 := cl HB hx781_5
             replace p781 := eq_true p781
             replace q781 := eq_true q781
             refine start_ (n := 12) (S := fun w' => w'.cell? ⟨gb755, 0, none⟩ = some (.int .i64 a0_0) ∧ w'.cell? ⟨gb755, 1, none⟩ = some (.int .i64 a0_1) ∧ w'.cell? ⟨gb755, 2, none⟩ = some (.int .i64 a0_2) ∧ w'.cell? ⟨gb755, 3, none⟩ = some (.int .i64 a0_3) ∧ w'.cell? ⟨gb755, 4, none⟩ = some (.int .i64 a0_4) ∧ w'.cell? ⟨gb755, 5, none⟩ = some (.int .i64 a0_5) ∧ w'.cell? (ad779.add ((x20_5).toNat * 6)) = some (.int .i64 ((rd_T25 l2 x20_5).f0.f0)) ∧ w'.cell? ⟨(ad779.add ((x20_5).toNat * 6)).block, (ad779.add ((x20_5).toNat * 6)).off + 1, none⟩ = some (.int .i64 ((rd_T25 l2 x20_5).f0.f1)) ∧ w'.cell? ⟨(ad779.add ((x20_5).toNat * 6)).block, (ad779.add ((x20_5).toNat * 6)).off + 2, none⟩ = some (.int .i64 ((rd_T25 l2 x20_5).f0.f2)) ∧ w'.cell? ⟨(ad779.add ((x20_5).toNat * 6)).block, (ad779.add ((x20_5).toNat * 6)).off + 3, none⟩ = some (.int .i64 ((rd_T25 l2 x20_5).f1.f0)) ∧ w'.cell? ⟨(ad779.add ((x20_5).toNat * 6)).block, (ad779.add ((x20_5).toNat * 6)).off + 4, none⟩ = some (.int .i64 ((rd_T25 l2 x20_5).f1.f1)) ∧ w'.cell? ⟨(ad779.add ((x20_5).toNat * 6)).block, (ad779.add ((x20_5).toNat * 6)).off + 5, none⟩ = some (.int .i64 ((rd_T25 l2 x20_5).f1.f2))) (ds := []) #[F,F,F,F,F,F,F,F,F,F,F,F] (by kernel_rfl) rfl rfl ⟨(bc BK755.out 0).trans rfl, (bc BK755.out 1).trans rfl, (bc BK755.out 2).trans rfl, (bc BK755.out 3).trans rfl, (bc BK755.out 4).trans rfl, (bc BK755.out 5).trans rfl, ((HB.out.cell (bq w _ hw781_0)).trans hw781_0), ((HB.out.cell (bq w _ hw781_1)).trans hw781_1), ((HB.out.cell (bq w _ hw781_2)).trans hw781_2), ((HB.out.cell (bq w _ hw781_3)).trans hw781_3), ((HB.out.cell (bq w _ hw781_4)).trans hw781_4), ((HB.out.cell (bq w _ hw781_5)).trans hw781_5)⟩ (fun hHeld => ?_); refine with_tabW w_BoxVolumes.tab29 w_BoxVolumes.bits29 (fun HT_ HW_ => ?_)
             generalize w88.drew = w89 at HO_19 BK755 BK756 BK776 HB hx781_0 hx781_1 hx781_2 hx781_3 hx781_4 hx781_5 hHeld ⊢
             refine pu (i := 1) (N := some 120) (fl 12 0 [1]) HT_ ?_
             refine pu (i := 2) (N := some 121) (fl 12 0 [1, 2]) HT_ ?_
             refine pu (i := 3) (N := some 122) (fl 12 0 [1, 2, 3]) HT_ ?_
             refine tk (i := 0) (N := some 119) (fl 12 4 []) HT_ HW_ hHeld ?_
             refine tk (i := 4) (N := some 123) (fl 12 5 []) HT_ HW_ hHeld ?_
             refine join_ (σ := Nat) 2 #[T,T,T,T,T,T,T,T,T,T,F,F] (fun s_ => [(124, .tuple #[.agg #[.int .i64 t782, .int .i64 t783, .int .i64 t784, .int .i64 t785, .int .i64 t786, .int .i64 t787], .int .i64 t788]), (21, .pointer (some ⟨s_, 0, none⟩)), (118, .tuple #[.agg #[.int .i64 t782, .int .i64 t783, .int .i64 t784, .int .i64 t785, .int .i64 t786, .int .i64 t787], .int .i64 t788]), (125, .agg #[.int .i64 t782, .int .i64 t783, .int .i64 t784, .int .i64 t785, .int .i64 t786, .int .i64 t787]), (126, .int .i64 t788)]) (fun s_ w' => (w'.cell? ⟨gb755, 0, none⟩ = some (.int .i64 a0_0) ∧ w'.cell? ⟨gb755, 1, none⟩ = some (.int .i64 a0_1) ∧ w'.cell? ⟨gb755, 2, none⟩ = some (.int .i64 a0_2) ∧ w'.cell? ⟨gb755, 3, none⟩ = some (.int .i64 a0_3) ∧ w'.cell? ⟨gb755, 4, none⟩ = some (.int .i64 a0_4) ∧ w'.cell? ⟨gb755, 5, none⟩ = some (.int .i64 a0_5) ∧ w'.cell? (ad779.add ((x20_5).toNat * 6)) = some (.int .i64 ((rd_T25 l2 x20_5).f0.f0)) ∧ w'.cell? ⟨(ad779.add ((x20_5).toNat * 6)).block, (ad779.add ((x20_5).toNat * 6)).off + 1, none⟩ = some (.int .i64 ((rd_T25 l2 x20_5).f0.f1)) ∧ w'.cell? ⟨(ad779.add ((x20_5).toNat * 6)).block, (ad779.add ((x20_5).toNat * 6)).off + 2, none⟩ = some (.int .i64 ((rd_T25 l2 x20_5).f0.f2)) ∧ w'.cell? ⟨(ad779.add ((x20_5).toNat * 6)).block, (ad779.add ((x20_5).toNat * 6)).off + 3, none⟩ = some (.int .i64 ((rd_T25 l2 x20_5).f1.f0)) ∧ w'.cell? ⟨(ad779.add ((x20_5).toNat * 6)).block, (ad779.add ((x20_5).toNat * 6)).off + 4, none⟩ = some (.int .i64 ((rd_T25 l2 x20_5).f1.f1)) ∧ w'.cell? ⟨(ad779.add ((x20_5).toNat * 6)).block, (ad779.add ((x20_5).toNat * 6)).off + 5, none⟩ = some (.int .i64 ((rd_T25 l2 x20_5).f1.f2))) ∧ (Kd.R k25 25 w' w.heap.size (fun k_ => k_ ≠ gb755 ∧ k_ ≠ gb756 ∧ k_ ≠ gb776 ∧ k_ ≠ s_) u19 x19_5) ∧ (w'.heap[gb755]? = some (.cells #[.int .i64 a0_0, .int .i64 a0_1, .int .i64 a0_2, .int .i64 a0_3, .int .i64 a0_4, .int .i64 a0_5] 25 (0, 0))) ∧ (w'.heap[gb756]? = some (.cells #[.int .i64 a1_0, .int .i64 a1_1, .int .i64 a1_2, .int .i64 a1_3, .int .i64 a1_4, .int .i64 a1_5] 25 (0, 0))) ∧ (w'.heap[gb776]? = some (.cells #[.int .i64 t769, .int .i64 t770, .int .i64 t771, .int .i64 t772, .int .i64 t773, .int .i64 t774] 25 (0, 0))) ∧ (w'.heap[s_]? = some (.cells #[.int .i64 0, .int .i64 0, .int .i64 0, .int .i64 0, .int .i64 0, .int .i64 0] 25 (0, 0))) ∧ (w.heap.size ≤ s_) ∧ (w.heap.size ≤ s_) ∧ (gb755 ≠ s_) ∧ (s_ ≠ gb755) ∧ (gb756 ≠ s_) ∧ (s_ ≠ gb756) ∧ (gb776 ≠ s_) ∧ (s_ ≠ gb776) ∧ (Below w.heap.size w w')) ?_ ?_
             rotate_left
             ·intro hCont
              refine two_ (i := 5) (j := 9) (Ni := some 124) (Nj := some 21) #[T,T,T,T,T,T,F,F,F,F,F,F] (fl 12 5 [9]) rfl rfl rfl rfl (two_of HT_.out (by kernel_rfl)) (by decide) (by decide) (fun K hK => ?_) (fun K hK => ?_)
              ·skip
               refine goes_ Try.func25 (by kernel_rfl) rfl #[.agg #[.int .i64 a0_0, .int .i64 a0_1, .int .i64 a0_2, .int .i64 a0_3, .int .i64 a0_4, .int .i64 a0_5], .agg #[.int .i64 ((rd_T25 l2 x20_5).f0.f0), .int .i64 ((rd_T25 l2 x20_5).f0.f1), .int .i64 ((rd_T25 l2 x20_5).f0.f2), .int .i64 ((rd_T25 l2 x20_5).f1.f0), .int .i64 ((rd_T25 l2 x20_5).f1.f1), .int .i64 ((rd_T25 l2 x20_5).f1.f2)]] (by rfl) rfl rfl (by (try simp only [pml]); first | done | rfl | (simp only [pdt]; rfl)) ?_
               with_reducible refine (box_Intersect.calls k5 a0_0 a0_1 a0_2 a0_3 a0_4 a0_5 ((rd_T25 l2 x20_5).f0.f0) ((rd_T25 l2 x20_5).f0.f1) ((rd_T25 l2 x20_5).f0.f2) ((rd_T25 l2 x20_5).f1.f0) ((rd_T25 l2 x20_5).f1.f1) ((rd_T25 l2 x20_5).f1.f2) t782 t783 t784 t785 t786 t787 t788 _ A69.out).mono ?_
               rintro e w90 ⟨rfl, hb⟩
               refine ⟨_, rfl, ?_⟩
               have n0_ := dR HO_19 hb
               have n1_ := bB BK755 hb
               have n2_ := bB BK756 hb
               have n3_ := bB BK776 hb
               have n4_ := bS HB hb
               clear HO_19 BK755 BK756 BK776 HB
               have HO_19 := n0_
               have BK755 := n1_
               have BK756 := n2_
               have BK776 := n3_
               have HB := n4_
               clear n0_ n1_ n2_ n3_ n4_
               (try clear hb)
               (try clear hb2)
               (try clear hk)
               (try clear hi)
               refine hK.out _ _ ⟨(bc BK755.out 0).trans rfl, (bc BK755.out 1).trans rfl, (bc BK755.out 2).trans rfl, (bc BK755.out 3).trans rfl, (bc BK755.out 4).trans rfl, (bc BK755.out 5).trans rfl, ((HB.out.cell (bq w _ hw781_0)).trans hw781_0), ((HB.out.cell (bq w _ hw781_1)).trans hw781_1), ((HB.out.cell (bq w _ hw781_2)).trans hw781_2), ((HB.out.cell (bq w _ hw781_3)).trans hw781_3), ((HB.out.cell (bq w _ hw781_4)).trans hw781_4), ((HB.out.cell (bq w _ hw781_5)).trans hw781_5)⟩ (fun hHeld => ?_)
               clear hK K
               refine norm_ (a' := ?_) ?_ ?_
               rotate_left
               ·show Act.put _ (some 124) _ = _
                simp only [Act.put, psl, i64_w, i32_w]
                rfl
               refine pu (i := 6) (N := some 118) (fl 12 7 []) HT_ ?_
               refine pu (i := 7) (N := some 125) (fl 12 8 []) HT_ ?_
               refine pu (i := 8) (N := some 126) (fl 12 9 []) HT_ ?_
               refine one_ (i := 9) (N := some 21) (fl 12 10 []) rfl rfl (one_of HT_.out (by kernel_rfl)) (by decide) (fun K hK => ?_)
               refine box_step ?hg (N := 21) ?hd (cs := #[.int .i64 0, .int .i64 0, .int .i64 0, .int .i64 0, .int .i64 0, .int .i64 0]) (t := 25) ?hr ?_; (case hd | hg => rfl); (case hr => first | (go_simp; done) | (go_simp; rfl))
               intro gb789 hg w91 hbox hb
               have n0_ := eR HO_19 hg hb
               have n1_ := bB BK755 hb
               have n2_ := bB BK756 hb
               have n3_ := bB BK776 hb
               have n4_ := bS HB hb
               have n5_ := am hbox
               have n6_ := sG HB hg
               have n7_ := sG HB hg
               have n8_ := nL BK755 hg
               have n9_ := nG BK755 hg
               have n10_ := nL BK756 hg
               have n11_ := nG BK756 hg
               have n12_ := nL BK776 hg
               have n13_ := nG BK776 hg
               clear HO_19 BK755 BK756 BK776 HB
               have HO_19 := n0_
               have BK755 := n1_
               have BK756 := n2_
               have BK776 := n3_
               have HB := n4_
               have BK789 := n5_
               have GW789 := n6_
               have GE789 := n7_
               have NB755_789 := n8_
               have NB789_755 := n9_
               have NB756_789 := n10_
               have NB789_756 := n11_
               have NB776_789 := n12_
               have NB789_776 := n13_
               clear n0_ n1_ n2_ n3_ n4_ n5_ n6_ n7_ n8_ n9_ n10_ n11_ n12_ n13_ hb hbox hg
               refine hK.out _ _ ⟨(bc BK755.out 0).trans rfl, (bc BK755.out 1).trans rfl, (bc BK755.out 2).trans rfl, (bc BK755.out 3).trans rfl, (bc BK755.out 4).trans rfl, (bc BK755.out 5).trans rfl, ((HB.out.cell (bq w _ hw781_0)).trans hw781_0), ((HB.out.cell (bq w _ hw781_1)).trans hw781_1), ((HB.out.cell (bq w _ hw781_2)).trans hw781_2), ((HB.out.cell (bq w _ hw781_3)).trans hw781_3), ((HB.out.cell (bq w _ hw781_4)).trans hw781_4), ((HB.out.cell (bq w _ hw781_5)).trans hw781_5)⟩ (fun hHeld => ?_)
               clear hK K
               refine norm_ (a' := ?_) ?_ ?_
               rotate_left
               ·show Act.put _ (some 21) _ = _
                simp only [Act.put, psl, i64_w, i32_w]
                rfl
               exact norm_ (by simp only [putAll, Act.put, psl]) (hCont (gb789) _ ⟨hHeld, (by (with_reducible repeat (first | apply Kd.R_alloc | apply Kd.R_drewN | apply Kd.R_drew)); exact Kd.R_mono HO_19.out (fun _ hk => ⟨hk.1.1, ⟨hk.1.2.1, ⟨hk.1.2.2, hk.2⟩⟩⟩)), (fb BK755.out), (fb BK756.out), (fb BK776.out), (fb BK789.out), GW789.out, GE789.out, NB755_789.out, NB789_755.out, NB756_789.out, NB789_756.out, NB776_789.out, NB789_776.out, (fW HB.out)⟩)
              skip
              refine box_step ?hg (N := 21) ?hd (cs := #[.int .i64 0, .int .i64 0, .int .i64 0, .int .i64 0, .int .i64 0, .int .i64 0]) (t := 25) ?hr ?_; (case hd | hg => rfl); (case hr => first | (go_simp; done) | (go_simp; rfl))
              intro gb789 hg w90 hbox hb
              have n0_ := eR HO_19 hg hb
              have n1_ := bB BK755 hb
              have n2_ := bB BK756 hb
              have n3_ := bB BK776 hb
              have n4_ := bS HB hb
              have n5_ := am hbox
              have n6_ := sG HB hg
              have n7_ := sG HB hg
              have n8_ := nL BK755 hg
              have n9_ := nG BK755 hg
              have n10_ := nL BK756 hg
              have n11_ := nG BK756 hg
              have n12_ := nL BK776 hg
              have n13_ := nG BK776 hg
              clear HO_19 BK755 BK756 BK776 HB
              have HO_19 := n0_
              have BK755 := n1_
              have BK756 := n2_
              have BK776 := n3_
              have HB := n4_
              have BK789 := n5_
              have GW789 := n6_
              have GE789 := n7_
              have NB755_789 := n8_
              have NB789_755 := n9_
              have NB756_789 := n10_
              have NB789_756 := n11_
              have NB776_789 := n12_
              have NB789_776 := n13_
              clear n0_ n1_ n2_ n3_ n4_ n5_ n6_ n7_ n8_ n9_ n10_ n11_ n12_ n13_ hb hbox hg
              refine hK.out _ _ ⟨(bc BK755.out 0).trans rfl, (bc BK755.out 1).trans rfl, (bc BK755.out 2).trans rfl, (bc BK755.out 3).trans rfl, (bc BK755.out 4).trans rfl, (bc BK755.out 5).trans rfl, ((HB.out.cell (bq w _ hw781_0)).trans hw781_0), ((HB.out.cell (bq w _ hw781_1)).trans hw781_1), ((HB.out.cell (bq w _ hw781_2)).trans hw781_2), ((HB.out.cell (bq w _ hw781_3)).trans hw781_3), ((HB.out.cell (bq w _ hw781_4)).trans hw781_4), ((HB.out.cell (bq w _ hw781_5)).trans hw781_5)⟩ (fun hHeld => ?_)
              clear hK K
              refine norm_ (a' := ?_) ?_ ?_
              rotate_left
              ·show Act.put _ (some 21) _ = _
               simp only [Act.put, psl, i64_w, i32_w]
               rfl
              refine one_ (i := 5) (N := some 124) (fl 12 6 [9]) rfl rfl (one_of HT_.out (by kernel_rfl)) (by decide) (fun K hK => ?_)
              refine goes_ Try.func25 (by kernel_rfl) rfl #[.agg #[.int .i64 a0_0, .int .i64 a0_1, .int .i64 a0_2, .int .i64 a0_3, .int .i64 a0_4, .int .i64 a0_5], .agg #[.int .i64 ((rd_T25 l2 x20_5).f0.f0), .int .i64 ((rd_T25 l2 x20_5).f0.f1), .int .i64 ((rd_T25 l2 x20_5).f0.f2), .int .i64 ((rd_T25 l2 x20_5).f1.f0), .int .i64 ((rd_T25 l2 x20_5).f1.f1), .int .i64 ((rd_T25 l2 x20_5).f1.f2)]] (by rfl) rfl rfl (by (try simp only [pml]); first | done | rfl | (simp only [pdt]; rfl)) ?_
              with_reducible refine (box_Intersect.calls k5 a0_0 a0_1 a0_2 a0_3 a0_4 a0_5 ((rd_T25 l2 x20_5).f0.f0) ((rd_T25 l2 x20_5).f0.f1) ((rd_T25 l2 x20_5).f0.f2) ((rd_T25 l2 x20_5).f1.f0) ((rd_T25 l2 x20_5).f1.f1) ((rd_T25 l2 x20_5).f1.f2) t782 t783 t784 t785 t786 t787 t788 _ A69.out).mono ?_
              rintro e w91 ⟨rfl, hb⟩
              refine ⟨_, rfl, ?_⟩
              have n0_ := dR HO_19 hb
              have n1_ := bB BK755 hb
              have n2_ := bB BK756 hb
              have n3_ := bB BK776 hb
              have n4_ := bB BK789 hb
              have n5_ := bS HB hb
              clear HO_19 BK755 BK756 BK776 BK789 HB
              have HO_19 := n0_
              have BK755 := n1_
              have BK756 := n2_
              have BK776 := n3_
              have BK789 := n4_
              have HB := n5_
              clear n0_ n1_ n2_ n3_ n4_ n5_
              (try clear hb)
              (try clear hb2)
              (try clear hk)
              (try clear hi)
              refine hK.out _ _ ⟨(bc BK755.out 0).trans rfl, (bc BK755.out 1).trans rfl, (bc BK755.out 2).trans rfl, (bc BK755.out 3).trans rfl, (bc BK755.out 4).trans rfl, (bc BK755.out 5).trans rfl, ((HB.out.cell (bq w _ hw781_0)).trans hw781_0), ((HB.out.cell (bq w _ hw781_1)).trans hw781_1), ((HB.out.cell (bq w _ hw781_2)).trans hw781_2), ((HB.out.cell (bq w _ hw781_3)).trans hw781_3), ((HB.out.cell (bq w _ hw781_4)).trans hw781_4), ((HB.out.cell (bq w _ hw781_5)).trans hw781_5)⟩ (fun hHeld => ?_)
              clear hK K
              refine norm_ (a' := ?_) ?_ ?_
              rotate_left
              ·show Act.put _ (some 124) _ = _
               simp only [Act.put, psl, i64_w, i32_w]
               rfl
              refine pu (i := 6) (N := some 118) (fl 12 7 [9]) HT_ ?_
              refine pu (i := 7) (N := some 125) (fl 12 8 [9]) HT_ ?_
              refine pu (i := 8) (N := some 126) (fl 12 10 []) HT_ ?_
              exact norm_ (by simp only [putAll, Act.put, psl]) (hCont (gb789) _ ⟨hHeld, (by (with_reducible repeat (first | apply Kd.R_alloc | apply Kd.R_drewN | apply Kd.R_drew)); exact Kd.R_mono HO_19.out (fun _ hk => ⟨hk.1.1, ⟨hk.1.2.1, ⟨hk.1.2.2, hk.2⟩⟩⟩)), (fb BK755.out), (fb BK756.out), (fb BK776.out), (fb BK789.out), GW789.out, GE789.out, NB755_789.out, NB789_755.out, NB756_789.out, NB789_756.out, NB776_789.out, NB789_776.out, (fW HB.out)⟩)
             rintro gb789 w92 ⟨hS_, h0_, h1_, h2_, h3_, h4_, h5_, h6_, h7_, h8_, h9_, h10_, h11_, h12_, h13_⟩
             have n0_ : Aside0 (Kd.R k25 25 w92 w.heap.size (fun k_ => k_ ≠ gb755 ∧ k_ ≠ gb756 ∧ k_ ≠ gb776 ∧ k_ ≠ gb789) u19 x19_5) := ⟨h0_⟩
             have n1_ : Aside0 (w92.heap[gb755]? = some (.cells #[.int .i64 a0_0, .int .i64 a0_1, .int .i64 a0_2, .int .i64 a0_3, .int .i64 a0_4, .int .i64 a0_5] 25 (0, 0))) := ⟨h1_⟩
             have n2_ : Aside0 (w92.heap[gb756]? = some (.cells #[.int .i64 a1_0, .int .i64 a1_1, .int .i64 a1_2, .int .i64 a1_3, .int .i64 a1_4, .int .i64 a1_5] 25 (0, 0))) := ⟨h2_⟩
             have n3_ : Aside0 (w92.heap[gb776]? = some (.cells #[.int .i64 t769, .int .i64 t770, .int .i64 t771, .int .i64 t772, .int .i64 t773, .int .i64 t774] 25 (0, 0))) := ⟨h3_⟩
             have n4_ : Aside0 (w92.heap[gb789]? = some (.cells #[.int .i64 0, .int .i64 0, .int .i64 0, .int .i64 0, .int .i64 0, .int .i64 0] 25 (0, 0))) := ⟨h4_⟩
             have n5_ : Aside0 (w.heap.size ≤ gb789) := ⟨h5_⟩
             have n6_ : Aside0 (w.heap.size ≤ gb789) := ⟨h6_⟩
             have n7_ : Aside0 (gb755 ≠ gb789) := ⟨h7_⟩
             have n8_ : Aside0 (gb789 ≠ gb755) := ⟨h8_⟩
             have n9_ : Aside0 (gb756 ≠ gb789) := ⟨h9_⟩
             have n10_ : Aside0 (gb789 ≠ gb756) := ⟨h10_⟩
             have n11_ : Aside0 (gb776 ≠ gb789) := ⟨h11_⟩
             have n12_ : Aside0 (gb789 ≠ gb776) := ⟨h12_⟩
             have n13_ : Aside0 (Below w.heap.size w w92) := ⟨h13_⟩
             clear HO_19 BK755 BK756 BK776 HB h0_ h1_ h2_ h3_ h4_ h5_ h6_ h7_ h8_ h9_ h10_ h11_ h12_ h13_
             have HO_19 := n0_
             have BK755 := n1_
             have BK756 := n2_
             have BK776 := n3_
             have BK789 := n4_
             have GW789 := n5_
             have GE789 := n6_
             have NB755_789 := n7_
             have NB789_755 := n8_
             have NB756_789 := n9_
             have NB789_756 := n10_
             have NB776_789 := n11_
             have NB789_776 := n12_
             have HB := n13_
             clear n0_ n1_ n2_ n3_ n4_ n5_ n6_ n7_ n8_ n9_ n10_ n11_ n12_ n13_
             have hHeld : w92.cell? ⟨gb755, 0, none⟩ = some (.int .i64 a0_0) ∧ w92.cell? ⟨gb755, 1, none⟩ = some (.int .i64 a0_1) ∧ w92.cell? ⟨gb755, 2, none⟩ = some (.int .i64 a0_2) ∧ w92.cell? ⟨gb755, 3, none⟩ = some (.int .i64 a0_3) ∧ w92.cell? ⟨gb755, 4, none⟩ = some (.int .i64 a0_4) ∧ w92.cell? ⟨gb755, 5, none⟩ = some (.int .i64 a0_5) ∧ w92.cell? (ad779.add ((x20_5).toNat * 6)) = some (.int .i64 ((rd_T25 l2 x20_5).f0.f0)) ∧ w92.cell? ⟨(ad779.add ((x20_5).toNat * 6)).block, (ad779.add ((x20_5).toNat * 6)).off + 1, none⟩ = some (.int .i64 ((rd_T25 l2 x20_5).f0.f1)) ∧ w92.cell? ⟨(ad779.add ((x20_5).toNat * 6)).block, (ad779.add ((x20_5).toNat * 6)).off + 2, none⟩ = some (.int .i64 ((rd_T25 l2 x20_5).f0.f2)) ∧ w92.cell? ⟨(ad779.add ((x20_5).toNat * 6)).block, (ad779.add ((x20_5).toNat * 6)).off + 3, none⟩ = some (.int .i64 ((rd_T25 l2 x20_5).f1.f0)) ∧ w92.cell? ⟨(ad779.add ((x20_5).toNat * 6)).block, (ad779.add ((x20_5).toNat * 6)).off + 4, none⟩ = some (.int .i64 ((rd_T25 l2 x20_5).f1.f1)) ∧ w92.cell? ⟨(ad779.add ((x20_5).toNat * 6)).block, (ad779.add ((x20_5).toNat * 6)).off + 5, none⟩ = some (.int .i64 ((rd_T25 l2 x20_5).f1.f2)) := hS_
             refine norm_ (a' := ?_) ?_ ?_
             rotate_left
             ·simp only [putAll, Act.put, psl]
              rfl
             refine one_ (i := 10) (N := none) (fl 12 11 []) rfl rfl (one_of HT_.out (by kernel_rfl)) (by decide) (fun K hK => ?_)
             have hs93 : w92.cell? ⟨gb789, 0, none⟩ = some (.int .i64 0) := (bc BK789.out 0).trans rfl
             have hfs93 := bf BK789.out 0
             have hns93_0 := NB755_789.out
             have hns93_1 := NB756_789.out
             have hns93_2 := NB776_789.out
             have hms93_0 := NB789_755.out
             have hms93_1 := NB789_756.out
             have hms93_2 := NB789_776.out
             have hs94 : w92.cell? ⟨gb789, 1, none⟩ = some (.int .i64 0) := (bc BK789.out 1).trans rfl
             have hfs94 := bf BK789.out 1
             have hns94_0 := NB755_789.out
             have hns94_1 := NB756_789.out
             have hns94_2 := NB776_789.out
             have hms94_0 := NB789_755.out
             have hms94_1 := NB789_756.out
             have hms94_2 := NB789_776.out
             have hs95 : w92.cell? ⟨gb789, 2, none⟩ = some (.int .i64 0) := (bc BK789.out 2).trans rfl
             have hfs95 := bf BK789.out 2
             have hns95_0 := NB755_789.out
             have hns95_1 := NB756_789.out
             have hns95_2 := NB776_789.out
             have hms95_0 := NB789_755.out
             have hms95_1 := NB789_756.out
             have hms95_2 := NB789_776.out
             have hs96 : w92.cell? ⟨gb789, 3, none⟩ = some (.int .i64 0) := (bc BK789.out 3).trans rfl
             have hfs96 := bf BK789.out 3
             have hns96_0 := NB755_789.out
             have hns96_1 := NB756_789.out
             have hns96_2 := NB776_789.out
             have hms96_0 := NB789_755.out
             have hms96_1 := NB789_756.out
             have hms96_2 := NB789_776.out
             have hs97 : w92.cell? ⟨gb789, 4, none⟩ = some (.int .i64 0) := (bc BK789.out 4).trans rfl
             have hfs97 := bf BK789.out 4
             have hns97_0 := NB755_789.out
             have hns97_1 := NB756_789.out
             have hns97_2 := NB776_789.out
             have hms97_0 := NB789_755.out
             have hms97_1 := NB789_756.out
             have hms97_2 := NB789_776.out
             have hs98 : w92.cell? ⟨gb789, 5, none⟩ = some (.int .i64 0) := (bc BK789.out 5).trans rfl
             have hfs98 := bf BK789.out 5
             have hns98_0 := NB755_789.out
             have hns98_1 := NB756_789.out
             have hns98_2 := NB776_789.out
             have hms98_0 := NB789_755.out
             have hms98_1 := NB789_756.out
             have hms98_2 := NB789_776.out
             refine skip_ (w1 := ?_) (by rfl) rfl ?_ ?_
             rotate_left
             ·go_simp
              rfl
             refine hK.out _ _ ⟨((cf (p := ⟨gb789, _, none⟩) NB755_789.out _).trans (((cf (p := ⟨gb789, _, none⟩) NB755_789.out _).trans (((cf (p := ⟨gb789, _, none⟩) NB755_789.out _).trans (((cf (p := ⟨gb789, _, none⟩) NB755_789.out _).trans (((cf (p := ⟨gb789, _, none⟩) NB755_789.out _).trans (((cf (p := ⟨gb789, _, none⟩) NB755_789.out _).trans (hHeld.1)))))))))))), ((cf (p := ⟨gb789, _, none⟩) NB755_789.out _).trans (((cf (p := ⟨gb789, _, none⟩) NB755_789.out _).trans (((cf (p := ⟨gb789, _, none⟩) NB755_789.out _).trans (((cf (p := ⟨gb789, _, none⟩) NB755_789.out _).trans (((cf (p := ⟨gb789, _, none⟩) NB755_789.out _).trans (((cf (p := ⟨gb789, _, none⟩) NB755_789.out _).trans (hHeld.2.1)))))))))))), ((cf (p := ⟨gb789, _, none⟩) NB755_789.out _).trans (((cf (p := ⟨gb789, _, none⟩) NB755_789.out _).trans (((cf (p := ⟨gb789, _, none⟩) NB755_789.out _).trans (((cf (p := ⟨gb789, _, none⟩) NB755_789.out _).trans (((cf (p := ⟨gb789, _, none⟩) NB755_789.out _).trans (((cf (p := ⟨gb789, _, none⟩) NB755_789.out _).trans (hHeld.2.2.1)))))))))))), ((cf (p := ⟨gb789, _, none⟩) NB755_789.out _).trans (((cf (p := ⟨gb789, _, none⟩) NB755_789.out _).trans (((cf (p := ⟨gb789, _, none⟩) NB755_789.out _).trans (((cf (p := ⟨gb789, _, none⟩) NB755_789.out _).trans (((cf (p := ⟨gb789, _, none⟩) NB755_789.out _).trans (((cf (p := ⟨gb789, _, none⟩) NB755_789.out _).trans (hHeld.2.2.2.1)))))))))))), ((cf (p := ⟨gb789, _, none⟩) NB755_789.out _).trans (((cf (p := ⟨gb789, _, none⟩) NB755_789.out _).trans (((cf (p := ⟨gb789, _, none⟩) NB755_789.out _).trans (((cf (p := ⟨gb789, _, none⟩) NB755_789.out _).trans (((cf (p := ⟨gb789, _, none⟩) NB755_789.out _).trans (((cf (p := ⟨gb789, _, none⟩) NB755_789.out _).trans (hHeld.2.2.2.2.1)))))))))))), ((cf (p := ⟨gb789, _, none⟩) NB755_789.out _).trans (((cf (p := ⟨gb789, _, none⟩) NB755_789.out _).trans (((cf (p := ⟨gb789, _, none⟩) NB755_789.out _).trans (((cf (p := ⟨gb789, _, none⟩) NB755_789.out _).trans (((cf (p := ⟨gb789, _, none⟩) NB755_789.out _).trans (((cf (p := ⟨gb789, _, none⟩) NB755_789.out _).trans (hHeld.2.2.2.2.2.1)))))))))))), ((cf (p := ⟨gb789, _, none⟩) (by first | exact Nat.ne_of_lt (Nat.lt_of_lt_of_le (by have := bq _ _ hw781_0; first | rwa [add_block] at this | exact this) GW789.out) | (rw [add_block]; exact Nat.ne_of_lt (Nat.lt_of_lt_of_le (by have := bq _ _ hw781_0; first | rwa [add_block] at this | exact this) GW789.out)) | (show (Addr.add _ _).block ≠ _; rw [add_block]; exact Nat.ne_of_lt (Nat.lt_of_lt_of_le (by have := bq _ _ hw781_0; first | rwa [add_block] at this | exact this) GW789.out)) | (dsimp only; exact Nat.ne_of_lt (Nat.lt_of_lt_of_le (by have := bq _ _ hw781_0; first | rwa [add_block] at this | exact this) GW789.out))) _).trans (((cf (p := ⟨gb789, _, none⟩) (by first | exact Nat.ne_of_lt (Nat.lt_of_lt_of_le (by have := bq _ _ hw781_0; first | rwa [add_block] at this | exact this) GW789.out) | (rw [add_block]; exact Nat.ne_of_lt (Nat.lt_of_lt_of_le (by have := bq _ _ hw781_0; first | rwa [add_block] at this | exact this) GW789.out)) | (show (Addr.add _ _).block ≠ _; rw [add_block]; exact Nat.ne_of_lt (Nat.lt_of_lt_of_le (by have := bq _ _ hw781_0; first | rwa [add_block] at this | exact this) GW789.out)) | (dsimp only; exact Nat.ne_of_lt (Nat.lt_of_lt_of_le (by have := bq _ _ hw781_0; first | rwa [add_block] at this | exact this) GW789.out))) _).trans (((cf (p := ⟨gb789, _, none⟩) (by first | exact Nat.ne_of_lt (Nat.lt_of_lt_of_le (by have := bq _ _ hw781_0; first | rwa [add_block] at this | exact this) GW789.out) | (rw [add_block]; exact Nat.ne_of_lt (Nat.lt_of_lt_of_le (by have := bq _ _ hw781_0; first | rwa [add_block] at this | exact this) GW789.out)) | (show (Addr.add _ _).block ≠ _; rw [add_block]; exact Nat.ne_of_lt (Nat.lt_of_lt_of_le (by have := bq _ _ hw781_0; first | rwa [add_block] at this | exact this) GW789.out)) | (dsimp only; exact Nat.ne_of_lt (Nat.lt_of_lt_of_le (by have := bq _ _ hw781_0; first | rwa [add_block] at this | exact this) GW789.out))) _).trans (((cf (p := ⟨gb789, _, none⟩) (by first | exact Nat.ne_of_lt (Nat.lt_of_lt_of_le (by have := bq _ _ hw781_0; first | rwa [add_block] at this | exact this) GW789.out) | (rw [add_block]; exact Nat.ne_of_lt (Nat.lt_of_lt_of_le (by have := bq _ _ hw781_0; first | rwa [add_block] at this | exact this) GW789.out)) | (show (Addr.add _ _).block ≠ _; rw [add_block]; exact Nat.ne_of_lt (Nat.lt_of_lt_of_le (by have := bq _ _ hw781_0; first | rwa [add_block] at this | exact this) GW789.out)) | (dsimp only; exact Nat.ne_of_lt (Nat.lt_of_lt_of_le (by have := bq _ _ hw781_0; first | rwa [add_block] at this | exact this) GW789.out))) _).trans (((cf (p := ⟨gb789, _, none⟩) (by first | exact Nat.ne_of_lt (Nat.lt_of_lt_of_le (by have := bq _ _ hw781_0; first | rwa [add_block] at this | exact this) GW789.out) | (rw [add_block]; exact Nat.ne_of_lt (Nat.lt_of_lt_of_le (by have := bq _ _ hw781_0; first | rwa [add_block] at this | exact this) GW789.out)) | (show (Addr.add _ _).block ≠ _; rw [add_block]; exact Nat.ne_of_lt (Nat.lt_of_lt_of_le (by have := bq _ _ hw781_0; first | rwa [add_block] at this | exact this) GW789.out)) | (dsimp only; exact Nat.ne_of_lt (Nat.lt_of_lt_of_le (by have := bq _ _ hw781_0; first | rwa [add_block] at this | exact this) GW789.out))) _).trans (((cf (p := ⟨gb789, _, none⟩) (by first | exact Nat.ne_of_lt (Nat.lt_of_lt_of_le (by have := bq _ _ hw781_0; first | rwa [add_block] at this | exact this) GW789.out) | (rw [add_block]; exact Nat.ne_of_lt (Nat.lt_of_lt_of_le (by have := bq _ _ hw781_0; first | rwa [add_block] at this | exact this) GW789.out)) | (show (Addr.add _ _).block ≠ _; rw [add_block]; exact Nat.ne_of_lt (Nat.lt_of_lt_of_le (by have := bq _ _ hw781_0; first | rwa [add_block] at this | exact this) GW789.out)) | (dsimp only; exact Nat.ne_of_lt (Nat.lt_of_lt_of_le (by have := bq _ _ hw781_0; first | rwa [add_block] at this | exact this) GW789.out))) _).trans (hHeld.2.2.2.2.2.2.1)))))))))))), ((cf (p := ⟨gb789, _, none⟩) (by first | exact Nat.ne_of_lt (Nat.lt_of_lt_of_le (by have := bq _ _ hw781_1; first | rwa [add_block] at this | exact this) GW789.out) | (rw [add_block]; exact Nat.ne_of_lt (Nat.lt_of_lt_of_le (by have := bq _ _ hw781_1; first | rwa [add_block] at this | exact this) GW789.out)) | (show (Addr.add _ _).block ≠ _; rw [add_block]; exact Nat.ne_of_lt (Nat.lt_of_lt_of_le (by have := bq _ _ hw781_1; first | rwa [add_block] at this | exact this) GW789.out)) | (dsimp only; exact Nat.ne_of_lt (Nat.lt_of_lt_of_le (by have := bq _ _ hw781_1; first | rwa [add_block] at this | exact this) GW789.out))) _).trans (((cf (p := ⟨gb789, _, none⟩) (by first | exact Nat.ne_of_lt (Nat.lt_of_lt_of_le (by have := bq _ _ hw781_1; first | rwa [add_block] at this | exact this) GW789.out) | (rw [add_block]; exact Nat.ne_of_lt (Nat.lt_of_lt_of_le (by have := bq _ _ hw781_1; first | rwa [add_block] at this | exact this) GW789.out)) | (show (Addr.add _ _).block ≠ _; rw [add_block]; exact Nat.ne_of_lt (Nat.lt_of_lt_of_le (by have := bq _ _ hw781_1; first | rwa [add_block] at this | exact this) GW789.out)) | (dsimp only; exact Nat.ne_of_lt (Nat.lt_of_lt_of_le (by have := bq _ _ hw781_1; first | rwa [add_block] at this | exact this) GW789.out))) _).trans (((cf (p := ⟨gb789, _, none⟩) (by first | exact Nat.ne_of_lt (Nat.lt_of_lt_of_le (by have := bq _ _ hw781_1; first | rwa [add_block] at this | exact this) GW789.out) | (rw [add_block]; exact Nat.ne_of_lt (Nat.lt_of_lt_of_le (by have := bq _ _ hw781_1; first | rwa [add_block] at this | exact this) GW789.out)) | (show (Addr.add _ _).block ≠ _; rw [add_block]; exact Nat.ne_of_lt (Nat.lt_of_lt_of_le (by have := bq _ _ hw781_1; first | rwa [add_block] at this | exact this) GW789.out)) | (dsimp only; exact Nat.ne_of_lt (Nat.lt_of_lt_of_le (by have := bq _ _ hw781_1; first | rwa [add_block] at this | exact this) GW789.out))) _).trans (((cf (p := ⟨gb789, _, none⟩) (by first | exact Nat.ne_of_lt (Nat.lt_of_lt_of_le (by have := bq _ _ hw781_1; first | rwa [add_block] at this | exact this) GW789.out) | (rw [add_block]; exact Nat.ne_of_lt (Nat.lt_of_lt_of_le (by have := bq _ _ hw781_1; first | rwa [add_block] at this | exact this) GW789.out)) | (show (Addr.add _ _).block ≠ _; rw [add_block]; exact Nat.ne_of_lt (Nat.lt_of_lt_of_le (by have := bq _ _ hw781_1; first | rwa [add_block] at this | exact this) GW789.out)) | (dsimp only; exact Nat.ne_of_lt (Nat.lt_of_lt_of_le (by have := bq _ _ hw781_1; first | rwa [add_block] at this | exact this) GW789.out))) _).trans (((cf (p := ⟨gb789, _, none⟩) (by first | exact Nat.ne_of_lt (Nat.lt_of_lt_of_le (by have := bq _ _ hw781_1; first | rwa [add_block] at this | exact this) GW789.out) | (rw [add_block]; exact Nat.ne_of_lt (Nat.lt_of_lt_of_le (by have := bq _ _ hw781_1; first | rwa [add_block] at this | exact this) GW789.out)) | (show (Addr.add _ _).block ≠ _; rw [add_block]; exact Nat.ne_of_lt (Nat.lt_of_lt_of_le (by have := bq _ _ hw781_1; first | rwa [add_block] at this | exact this) GW789.out)) | (dsimp only; exact Nat.ne_of_lt (Nat.lt_of_lt_of_le (by have := bq _ _ hw781_1; first | rwa [add_block] at this | exact this) GW789.out))) _).trans (((cf (p := ⟨gb789, _, none⟩) (by first | exact Nat.ne_of_lt (Nat.lt_of_lt_of_le (by have := bq _ _ hw781_1; first | rwa [add_block] at this | exact this) GW789.out) | (rw [add_block]; exact Nat.ne_of_lt (Nat.lt_of_lt_of_le (by have := bq _ _ hw781_1; first | rwa [add_block] at this | exact this) GW789.out)) | (show (Addr.add _ _).block ≠ _; rw [add_block]; exact Nat.ne_of_lt (Nat.lt_of_lt_of_le (by have := bq _ _ hw781_1; first | rwa [add_block] at this | exact this) GW789.out)) | (dsimp only; exact Nat.ne_of_lt (Nat.lt_of_lt_of_le (by have := bq _ _ hw781_1; first | rwa [add_block] at this | exact this) GW789.out))) _).trans (hHeld.2.2.2.2.2.2.2.1)))))))))))), ((cf (p := ⟨gb789, _, none⟩) (by first | exact Nat.ne_of_lt (Nat.lt_of_lt_of_le (by have := bq _ _ hw781_2; first | rwa [add_block] at this | exact this) GW789.out) | (rw [add_block]; exact Nat.ne_of_lt (Nat.lt_of_lt_of_le (by have := bq _ _ hw781_2; first | rwa [add_block] at this | exact this) GW789.out)) | (show (Addr.add _ _).block ≠ _; rw [add_block]; exact Nat.ne_of_lt (Nat.lt_of_lt_of_le (by have := bq _ _ hw781_2; first | rwa [add_block] at this | exact this) GW789.out)) | (dsimp only; exact Nat.ne_of_lt (Nat.lt_of_lt_of_le (by have := bq _ _ hw781_2; first | rwa [add_block] at this | exact this) GW789.out))) _).trans (((cf (p := ⟨gb789, _, none⟩) (by first | exact Nat.ne_of_lt (Nat.lt_of_lt_of_le (by have := bq _ _ hw781_2; first | rwa [add_block] at this | exact this) GW789.out) | (rw [add_block]; exact Nat.ne_of_lt (Nat.lt_of_lt_of_le (by have := bq _ _ hw781_2; first | rwa [add_block] at this | exact this) GW789.out)) | (show (Addr.add _ _).block ≠ _; rw [add_block]; exact Nat.ne_of_lt (Nat.lt_of_lt_of_le (by have := bq _ _ hw781_2; first | rwa [add_block] at this | exact this) GW789.out)) | (dsimp only; exact Nat.ne_of_lt (Nat.lt_of_lt_of_le (by have := bq _ _ hw781_2; first | rwa [add_block] at this | exact this) GW789.out))) _).trans (((cf (p := ⟨gb789, _, none⟩) (by first | exact Nat.ne_of_lt (Nat.lt_of_lt_of_le (by have := bq _ _ hw781_2; first | rwa [add_block] at this | exact this) GW789.out) | (rw [add_block]; exact Nat.ne_of_lt (Nat.lt_of_lt_of_le (by have := bq _ _ hw781_2; first | rwa [add_block] at this | exact this) GW789.out)) | (show (Addr.add _ _).block ≠ _; rw [add_block]; exact Nat.ne_of_lt (Nat.lt_of_lt_of_le (by have := bq _ _ hw781_2; first | rwa [add_block] at this | exact this) GW789.out)) | (dsimp only; exact Nat.ne_of_lt (Nat.lt_of_lt_of_le (by have := bq _ _ hw781_2; first | rwa [add_block] at this | exact this) GW789.out))) _).trans (((cf (p := ⟨gb789, _, none⟩) (by first | exact Nat.ne_of_lt (Nat.lt_of_lt_of_le (by have := bq _ _ hw781_2; first | rwa [add_block] at this | exact this) GW789.out) | (rw [add_block]; exact Nat.ne_of_lt (Nat.lt_of_lt_of_le (by have := bq _ _ hw781_2; first | rwa [add_block] at this | exact this) GW789.out)) | (show (Addr.add _ _).block ≠ _; rw [add_block]; exact Nat.ne_of_lt (Nat.lt_of_lt_of_le (by have := bq _ _ hw781_2; first | rwa [add_block] at this | exact this) GW789.out)) | (dsimp only; exact Nat.ne_of_lt (Nat.lt_of_lt_of_le (by have := bq _ _ hw781_2; first | rwa [add_block] at this | exact this) GW789.out))) _).trans (((cf (p := ⟨gb789, _, none⟩) (by first | exact Nat.ne_of_lt (Nat.lt_of_lt_of_le (by have := bq _ _ hw781_2; first | rwa [add_block] at this | exact this) GW789.out) | (rw [add_block]; exact Nat.ne_of_lt (Nat.lt_of_lt_of_le (by have := bq _ _ hw781_2; first | rwa [add_block] at this | exact this) GW789.out)) | (show (Addr.add _ _).block ≠ _; rw [add_block]; exact Nat.ne_of_lt (Nat.lt_of_lt_of_le (by have := bq _ _ hw781_2; first | rwa [add_block] at this | exact this) GW789.out)) | (dsimp only; exact Nat.ne_of_lt (Nat.lt_of_lt_of_le (by have := bq _ _ hw781_2; first | rwa [add_block] at this | exact this) GW789.out))) _).trans (((cf (p := ⟨gb789, _, none⟩) (by first | exact Nat.ne_of_lt (Nat.lt_of_lt_of_le (by have := bq _ _ hw781_2; first | rwa [add_block] at this | exact this) GW789.out) | (rw [add_block]; exact Nat.ne_of_lt (Nat.lt_of_lt_of_le (by have := bq _ _ hw781_2; first | rwa [add_block] at this | exact this) GW789.out)) | (show (Addr.add _ _).block ≠ _; rw [add_block]; exact Nat.ne_of_lt (Nat.lt_of_lt_of_le (by have := bq _ _ hw781_2; first | rwa [add_block] at this | exact this) GW789.out)) | (dsimp only; exact Nat.ne_of_lt (Nat.lt_of_lt_of_le (by have := bq _ _ hw781_2; first | rwa [add_block] at this | exact this) GW789.out))) _).trans (hHeld.2.2.2.2.2.2.2.2.1)))))))))))), ((cf (p := ⟨gb789, _, none⟩) (by first | exact Nat.ne_of_lt (Nat.lt_of_lt_of_le (by have := bq _ _ hw781_3; first | rwa [add_block] at this | exact this) GW789.out) | (rw [add_block]; exact Nat.ne_of_lt (Nat.lt_of_lt_of_le (by have := bq _ _ hw781_3; first | rwa [add_block] at this | exact this) GW789.out)) | (show (Addr.add _ _).block ≠ _; rw [add_block]; exact Nat.ne_of_lt (Nat.lt_of_lt_of_le (by have := bq _ _ hw781_3; first | rwa [add_block] at this | exact this) GW789.out)) | (dsimp only; exact Nat.ne_of_lt (Nat.lt_of_lt_of_le (by have := bq _ _ hw781_3; first | rwa [add_block] at this | exact this) GW789.out))) _).trans (((cf (p := ⟨gb789, _, none⟩) (by first | exact Nat.ne_of_lt (Nat.lt_of_lt_of_le (by have := bq _ _ hw781_3; first | rwa [add_block] at this | exact this) GW789.out) | (rw [add_block]; exact Nat.ne_of_lt (Nat.lt_of_lt_of_le (by have := bq _ _ hw781_3; first | rwa [add_block] at this | exact this) GW789.out)) | (show (Addr.add _ _).block ≠ _; rw [add_block]; exact Nat.ne_of_lt (Nat.lt_of_lt_of_le (by have := bq _ _ hw781_3; first | rwa [add_block] at this | exact this) GW789.out)) | (dsimp only; exact Nat.ne_of_lt (Nat.lt_of_lt_of_le (by have := bq _ _ hw781_3; first | rwa [add_block] at this | exact this) GW789.out))) _).trans (((cf (p := ⟨gb789, _, none⟩) (by first | exact Nat.ne_of_lt (Nat.lt_of_lt_of_le (by have := bq _ _ hw781_3; first | rwa [add_block] at this | exact this) GW789.out) | (rw [add_block]; exact Nat.ne_of_lt (Nat.lt_of_lt_of_le (by have := bq _ _ hw781_3; first | rwa [add_block] at this | exact this) GW789.out)) | (show (Addr.add _ _).block ≠ _; rw [add_block]; exact Nat.ne_of_lt (Nat.lt_of_lt_of_le (by have := bq _ _ hw781_3; first | rwa [add_block] at this | exact this) GW789.out)) | (dsimp only; exact Nat.ne_of_lt (Nat.lt_of_lt_of_le (by have := bq _ _ hw781_3; first | rwa [add_block] at this | exact this) GW789.out))) _).trans (((cf (p := ⟨gb789, _, none⟩) (by first | exact Nat.ne_of_lt (Nat.lt_of_lt_of_le (by have := bq _ _ hw781_3; first | rwa [add_block] at this | exact this) GW789.out) | (rw [add_block]; exact Nat.ne_of_lt (Nat.lt_of_lt_of_le (by have := bq _ _ hw781_3; first | rwa [add_block] at this | exact this) GW789.out)) | (show (Addr.add _ _).block ≠ _; rw [add_block]; exact Nat.ne_of_lt (Nat.lt_of_lt_of_le (by have := bq _ _ hw781_3; first | rwa [add_block] at this | exact this) GW789.out)) | (dsimp only; exact Nat.ne_of_lt (Nat.lt_of_lt_of_le (by have := bq _ _ hw781_3; first | rwa [add_block] at this | exact this) GW789.out))) _).trans (((cf (p := ⟨gb789, _, none⟩) (by first | exact Nat.ne_of_lt (Nat.lt_of_lt_of_le (by have := bq _ _ hw781_3; first | rwa [add_block] at this | exact this) GW789.out) | (rw [add_block]; exact Nat.ne_of_lt (Nat.lt_of_lt_of_le (by have := bq _ _ hw781_3; first | rwa [add_block] at this | exact this) GW789.out)) | (show (Addr.add _ _).block ≠ _; rw [add_block]; exact Nat.ne_of_lt (Nat.lt_of_lt_of_le (by have := bq _ _ hw781_3; first | rwa [add_block] at this | exact this) GW789.out)) | (dsimp only; exact Nat.ne_of_lt (Nat.lt_of_lt_of_le (by have := bq _ _ hw781_3; first | rwa [add_block] at this | exact this) GW789.out))) _).trans (((cf (p := ⟨gb789, _, none⟩) (by first | exact Nat.ne_of_lt (Nat.lt_of_lt_of_le (by have := bq _ _ hw781_3; first | rwa [add_block] at this | exact this) GW789.out) | (rw [add_block]; exact Nat.ne_of_lt (Nat.lt_of_lt_of_le (by have := bq _ _ hw781_3; first | rwa [add_block] at this | exact this) GW789.out)) | (show (Addr.add _ _).block ≠ _; rw [add_block]; exact Nat.ne_of_lt (Nat.lt_of_lt_of_le (by have := bq _ _ hw781_3; first | rwa [add_block] at this | exact this) GW789.out)) | (dsimp only; exact Nat.ne_of_lt (Nat.lt_of_lt_of_le (by have := bq _ _ hw781_3; first | rwa [add_block] at this | exact this) GW789.out))) _).trans (hHeld.2.2.2.2.2.2.2.2.2.1)))))))))))), ((cf (p := ⟨gb789, _, none⟩) (by first | exact Nat.ne_of_lt (Nat.lt_of_lt_of_le (by have := bq _ _ hw781_4; first | rwa [add_block] at this | exact this) GW789.out) | (rw [add_block]; exact Nat.ne_of_lt (Nat.lt_of_lt_of_le (by have := bq _ _ hw781_4; first | rwa [add_block] at this | exact this) GW789.out)) | (show (Addr.add _ _).block ≠ _; rw [add_block]; exact Nat.ne_of_lt (Nat.lt_of_lt_of_le (by have := bq _ _ hw781_4; first | rwa [add_block] at this | exact this) GW789.out)) | (dsimp only; exact Nat.ne_of_lt (Nat.lt_of_lt_of_le (by have := bq _ _ hw781_4; first | rwa [add_block] at this | exact this) GW789.out))) _).trans (((cf (p := ⟨gb789, _, none⟩) (by first | exact Nat.ne_of_lt (Nat.lt_of_lt_of_le (by have := bq _ _ hw781_4; first | rwa [add_block] at this | exact this) GW789.out) | (rw [add_block]; exact Nat.ne_of_lt (Nat.lt_of_lt_of_le (by have := bq _ _ hw781_4; first | rwa [add_block] at this | exact this) GW789.out)) | (show (Addr.add _ _).block ≠ _; rw [add_block]; exact Nat.ne_of_lt (Nat.lt_of_lt_of_le (by have := bq _ _ hw781_4; first | rwa [add_block] at this | exact this) GW789.out)) | (dsimp only; exact Nat.ne_of_lt (Nat.lt_of_lt_of_le (by have := bq _ _ hw781_4; first | rwa [add_block] at this | exact this) GW789.out))) _).trans (((cf (p := ⟨gb789, _, none⟩) (by first | exact Nat.ne_of_lt (Nat.lt_of_lt_of_le (by have := bq _ _ hw781_4; first | rwa [add_block] at this | exact this) GW789.out) | (rw [add_block]; exact Nat.ne_of_lt (Nat.lt_of_lt_of_le (by have := bq _ _ hw781_4; first | rwa [add_block] at this | exact this) GW789.out)) | (show (Addr.add _ _).block ≠ _; rw [add_block]; exact Nat.ne_of_lt (Nat.lt_of_lt_of_le (by have := bq _ _ hw781_4; first | rwa [add_block] at this | exact this) GW789.out)) | (dsimp only; exact Nat.ne_of_lt (Nat.lt_of_lt_of_le (by have := bq _ _ hw781_4; first | rwa [add_block] at this | exact this) GW789.out))) _).trans (((cf (p := ⟨gb789, _, none⟩) (by first | exact Nat.ne_of_lt (Nat.lt_of_lt_of_le (by have := bq _ _ hw781_4; first | rwa [add_block] at this | exact this) GW789.out) | (rw [add_block]; exact Nat.ne_of_lt (Nat.lt_of_lt_of_le (by have := bq _ _ hw781_4; first | rwa [add_block] at this | exact this) GW789.out)) | (show (Addr.add _ _).block ≠ _; rw [add_block]; exact Nat.ne_of_lt (Nat.lt_of_lt_of_le (by have := bq _ _ hw781_4; first | rwa [add_block] at this | exact this) GW789.out)) | (dsimp only; exact Nat.ne_of_lt (Nat.lt_of_lt_of_le (by have := bq _ _ hw781_4; first | rwa [add_block] at this | exact this) GW789.out))) _).trans (((cf (p := ⟨gb789, _, none⟩) (by first | exact Nat.ne_of_lt (Nat.lt_of_lt_of_le (by have := bq _ _ hw781_4; first | rwa [add_block] at this | exact this) GW789.out) | (rw [add_block]; exact Nat.ne_of_lt (Nat.lt_of_lt_of_le (by have := bq _ _ hw781_4; first | rwa [add_block] at this | exact this) GW789.out)) | (show (Addr.add _ _).block ≠ _; rw [add_block]; exact Nat.ne_of_lt (Nat.lt_of_lt_of_le (by have := bq _ _ hw781_4; first | rwa [add_block] at this | exact this) GW789.out)) | (dsimp only; exact Nat.ne_of_lt (Nat.lt_of_lt_of_le (by have := bq _ _ hw781_4; first | rwa [add_block] at this | exact this) GW789.out))) _).trans (((cf (p := ⟨gb789, _, none⟩) (by first | exact Nat.ne_of_lt (Nat.lt_of_lt_of_le (by have := bq _ _ hw781_4; first | rwa [add_block] at this | exact this) GW789.out) | (rw [add_block]; exact Nat.ne_of_lt (Nat.lt_of_lt_of_le (by have := bq _ _ hw781_4; first | rwa [add_block] at this | exact this) GW789.out)) | (show (Addr.add _ _).block ≠ _; rw [add_block]; exact Nat.ne_of_lt (Nat.lt_of_lt_of_le (by have := bq _ _ hw781_4; first | rwa [add_block] at this | exact this) GW789.out)) | (dsimp only; exact Nat.ne_of_lt (Nat.lt_of_lt_of_le (by have := bq _ _ hw781_4; first | rwa [add_block] at this | exact this) GW789.out))) _).trans (hHeld.2.2.2.2.2.2.2.2.2.2.1)))))))))))), ((cf (p := ⟨gb789, _, none⟩) (by first | exact Nat.ne_of_lt (Nat.lt_of_lt_of_le (by have := bq _ _ hw781_5; first | rwa [add_block] at this | exact this) GW789.out) | (rw [add_block]; exact Nat.ne_of_lt (Nat.lt_of_lt_of_le (by have := bq _ _ hw781_5; first | rwa [add_block] at this | exact this) GW789.out)) | (show (Addr.add _ _).block ≠ _; rw [add_block]; exact Nat.ne_of_lt (Nat.lt_of_lt_of_le (by have := bq _ _ hw781_5; first | rwa [add_block] at this | exact this) GW789.out)) | (dsimp only; exact Nat.ne_of_lt (Nat.lt_of_lt_of_le (by have := bq _ _ hw781_5; first | rwa [add_block] at this | exact this) GW789.out))) _).trans (((cf (p := ⟨gb789, _, none⟩) (by first | exact Nat.ne_of_lt (Nat.lt_of_lt_of_le (by have := bq _ _ hw781_5; first | rwa [add_block] at this | exact this) GW789.out) | (rw [add_block]; exact Nat.ne_of_lt (Nat.lt_of_lt_of_le (by have := bq _ _ hw781_5; first | rwa [add_block] at this | exact this) GW789.out)) | (show (Addr.add _ _).block ≠ _; rw [add_block]; exact Nat.ne_of_lt (Nat.lt_of_lt_of_le (by have := bq _ _ hw781_5; first | rwa [add_block] at this | exact this) GW789.out)) | (dsimp only; exact Nat.ne_of_lt (Nat.lt_of_lt_of_le (by have := bq _ _ hw781_5; first | rwa [add_block] at this | exact this) GW789.out))) _).trans (((cf (p := ⟨gb789, _, none⟩) (by first | exact Nat.ne_of_lt (Nat.lt_of_lt_of_le (by have := bq _ _ hw781_5; first | rwa [add_block] at this | exact this) GW789.out) | (rw [add_block]; exact Nat.ne_of_lt (Nat.lt_of_lt_of_le (by have := bq _ _ hw781_5; first | rwa [add_block] at this | exact this) GW789.out)) | (show (Addr.add _ _).block ≠ _; rw [add_block]; exact Nat.ne_of_lt (Nat.lt_of_lt_of_le (by have := bq _ _ hw781_5; first | rwa [add_block] at this | exact this) GW789.out)) | (dsimp only; exact Nat.ne_of_lt (Nat.lt_of_lt_of_le (by have := bq _ _ hw781_5; first | rwa [add_block] at this | exact this) GW789.out))) _).trans (((cf (p := ⟨gb789, _, none⟩) (by first | exact Nat.ne_of_lt (Nat.lt_of_lt_of_le (by have := bq _ _ hw781_5; first | rwa [add_block] at this | exact this) GW789.out) | (rw [add_block]; exact Nat.ne_of_lt (Nat.lt_of_lt_of_le (by have := bq _ _ hw781_5; first | rwa [add_block] at this | exact this) GW789.out)) | (show (Addr.add _ _).block ≠ _; rw [add_block]; exact Nat.ne_of_lt (Nat.lt_of_lt_of_le (by have := bq _ _ hw781_5; first | rwa [add_block] at this | exact this) GW789.out)) | (dsimp only; exact Nat.ne_of_lt (Nat.lt_of_lt_of_le (by have := bq _ _ hw781_5; first | rwa [add_block] at this | exact this) GW789.out))) _).trans (((cf (p := ⟨gb789, _, none⟩) (by first | exact Nat.ne_of_lt (Nat.lt_of_lt_of_le (by have := bq _ _ hw781_5; first | rwa [add_block] at this | exact this) GW789.out) | (rw [add_block]; exact Nat.ne_of_lt (Nat.lt_of_lt_of_le (by have := bq _ _ hw781_5; first | rwa [add_block] at this | exact this) GW789.out)) | (show (Addr.add _ _).block ≠ _; rw [add_block]; exact Nat.ne_of_lt (Nat.lt_of_lt_of_le (by have := bq _ _ hw781_5; first | rwa [add_block] at this | exact this) GW789.out)) | (dsimp only; exact Nat.ne_of_lt (Nat.lt_of_lt_of_le (by have := bq _ _ hw781_5; first | rwa [add_block] at this | exact this) GW789.out))) _).trans (((cf (p := ⟨gb789, _, none⟩) (by first | exact Nat.ne_of_lt (Nat.lt_of_lt_of_le (by have := bq _ _ hw781_5; first | rwa [add_block] at this | exact this) GW789.out) | (rw [add_block]; exact Nat.ne_of_lt (Nat.lt_of_lt_of_le (by have := bq _ _ hw781_5; first | rwa [add_block] at this | exact this) GW789.out)) | (show (Addr.add _ _).block ≠ _; rw [add_block]; exact Nat.ne_of_lt (Nat.lt_of_lt_of_le (by have := bq _ _ hw781_5; first | rwa [add_block] at this | exact this) GW789.out)) | (dsimp only; exact Nat.ne_of_lt (Nat.lt_of_lt_of_le (by have := bq _ _ hw781_5; first | rwa [add_block] at this | exact this) GW789.out))) _).trans (hHeld.2.2.2.2.2.2.2.2.2.2.2))))))))))))⟩ (fun hHeld => ?_)
             clear hK K
             refine pu (i := 11) (N := some 22) (fl 12 12 []) HT_ ?_
             refine done_ (done_of HT_.out (by kernel_rfl)) ?_
             try go_wp2
             go_roundg k5
             case measure => have := HJ5.out; have := HK2.out; have := HJ39.out; have := HJ60.out; have := HK5.out; omega
             case rel => exact ⟨(x19_5), (wrap64 (x20_5 + 1)), (by first | rfl | (simp; done) | (simp [*]; done)), H', ⟨by have := HJ5.out; have := HK2.out; have := HJ39.out; have := HJ60.out; have := HK5.out; omega⟩, ⟨by (with_reducible repeat (first | apply Kd.R_alloc | apply Kd.R_drewN | apply Kd.R_drew)); exact Kd.R_mono (Kd.R_far (p := ⟨gb789, 5, none⟩) (Kd.R_far (p := ⟨gb789, 4, none⟩) (Kd.R_far (p := ⟨gb789, 3, none⟩) (Kd.R_far (p := ⟨gb789, 2, none⟩) (Kd.R_far (p := ⟨gb789, 1, none⟩) (Kd.R_far (p := ⟨gb789, 0, none⟩) (Kd.R_mono HO_19.out (fun k_ hk => (⟨hk, hk.2.2.2⟩ : _ ∧ k_ ≠ gb789))) (fun _ hk => hk.2) (.int .i64 t782)) (fun _ hk => hk.2) (.int .i64 t783)) (fun _ hk => hk.2) (.int .i64 t784)) (fun _ hk => hk.2) (.int .i64 t785)) (fun _ hk => hk.2) (.int .i64 t786)) (fun _ hk => hk.2) (.int .i64 t787)) (fun _ hk => ⟨hk.1.1, ⟨hk.1.2.1, hk.1.2.2.1⟩⟩)⟩, ⟨by (with_reducible repeat first | apply bN | apply bd | apply ba); refine bF ?_ NB755_789.out _; (with_reducible repeat first | apply bN | apply bd | apply ba); refine bF ?_ NB755_789.out _; (with_reducible repeat first | apply bN | apply bd | apply ba); refine bF ?_ NB755_789.out _; (with_reducible repeat first | apply bN | apply bd | apply ba); refine bF ?_ NB755_789.out _; (with_reducible repeat first | apply bN | apply bd | apply ba); refine bF ?_ NB755_789.out _; (with_reducible repeat first | apply bN | apply bd | apply ba); refine bF ?_ NB755_789.out _; (with_reducible repeat first | apply bN | apply bd | apply ba); exact BK755.out⟩, ⟨by (with_reducible repeat first | apply bN | apply bd | apply ba); refine bF ?_ NB756_789.out _; (with_reducible repeat first | apply bN | apply bd | apply ba); refine bF ?_ NB756_789.out _; (with_reducible repeat first | apply bN | apply bd | apply ba); refine bF ?_ NB756_789.out _; (with_reducible repeat first | apply bN | apply bd | apply ba); refine bF ?_ NB756_789.out _; (with_reducible repeat first | apply bN | apply bd | apply ba); refine bF ?_ NB756_789.out _; (with_reducible repeat first | apply bN | apply bd | apply ba); refine bF ?_ NB756_789.out _; (with_reducible repeat first | apply bN | apply bd | apply ba); exact BK756.out⟩, ⟨by (with_reducible repeat first | apply bN | apply bd | apply ba); refine bF ?_ NB776_789.out _; (with_reducible repeat first | apply bN | apply bd | apply ba); refine bF ?_ NB776_789.out _; (with_reducible repeat first | apply bN | apply bd | apply ba); refine bF ?_ NB776_789.out _; (with_reducible repeat first | apply bN | apply bd | apply ba); refine bF ?_ NB776_789.out _; (with_reducible repeat first | apply bN | apply bd | apply ba); refine bF ?_ NB776_789.out _; (with_reducible repeat first | apply bN | apply bd | apply ba); refine bF ?_ NB776_789.out _; (with_reducible repeat first | apply bN | apply bd | apply ba); exact BK776.out⟩, ⟨by repeat (first | (with_reducible first | exact HB.out | apply wa | apply wN | apply wd | refine ws ?_ GE755.out | refine ws ?_ GE756.out | refine ws ?_ GE776.out | refine ws ?_ GE789.out) | exact HB.out)⟩⟩
            rw [if_pos c70] at H
            have c70b0 : (t788 == 0) = true := beq_iff_eq.mpr c70
            have c70b1 : (t788 != 0) = false := bne_eq_false_iff_eq.mpr c70
            clear c70
            by_cases c71 : x19_5.length < 2932031007402
            rotate_left
            ·rw [if_neg c71] at H
             exact absurd H (by simp)
            rw [if_pos c71] at H
            have LMc71 := am c71
            clear c71
            obtain ⟨y790, hy790⟩ : ∃ y_ : List (S25), y_ = (x19_5 ++ [(⟨(⟨t782, t783, t784⟩ : S23), (⟨t785, t786, t787⟩ : S23)⟩ : S25)]) := ⟨_, rfl⟩
            replace H : (w_BoxVolumes.l1 k5 l2 t760 y790 (wrap64 (x20_5 + 1)) a0_0 a0_1 a0_2 a0_3 a0_4 a0_5) = some r := by first | (rw [hy790]; with_reducible exact H) | (have H2_ := (Option.bind_some _ _).symm.trans H; rw [hy790]; with_reducible exact H2_) | (have H2_ := (Option.bind_some _ _).symm.trans H; with_reducible exact H2_) | with_reducible exact H | (rw [hy790]; exact H) | exact H
            have Ny790 := am hy790
            clear hy790
            have H' := am H
            clear H
            have p779 : 0 ≤ (x20_5 : Int) := of_decide_eq_true (by assumption)
            have q779 : x20_5 < (l2.length : Int) := of_decide_eq_true (by assumption)
            obtain ⟨ad779, e779, hx779_0, hx779_1, hx779_2, hx779_3, hx779_4, hx779_5⟩ := at_T25 HR2.out x20_5 p779 q779
            cases e779
            replace hx779_0 := cl HB hx779_0
            replace hx779_1 := cl HB hx779_1
            replace hx779_2 := cl HB hx779_2
            replace hx779_3 := cl HB hx779_3
            replace hx779_4 := cl HB hx779_4
            replace hx779_5 := cl HB hx779_5
            replace p779 := eq_true p779
            replace q779 := eq_true q779
            try go_wp2_with (first | ((with_reducible refine gc (f := 20) rfl ?_); refine goesL_ (some 116) rfl rfl Try.func20 (by kernel_rfl) rfl #[.agg #[.int .i64 ((rd_T25 l2 x20_5).f0.f0), .int .i64 ((rd_T25 l2 x20_5).f0.f1), .int .i64 ((rd_T25 l2 x20_5).f0.f2), .int .i64 ((rd_T25 l2 x20_5).f1.f0), .int .i64 ((rd_T25 l2 x20_5).f1.f1), .int .i64 ((rd_T25 l2 x20_5).f1.f2)]] rfl (by (try simp only [pml]); first | done | rfl | (simp only [pdt]; rfl)) ?_; (with_reducible refine (box_Check.calls ((rd_T25 l2 x20_5).f0.f0) ((rd_T25 l2 x20_5).f0.f1) ((rd_T25 l2 x20_5).f0.f2) ((rd_T25 l2 x20_5).f1.f0) ((rd_T25 l2 x20_5).f1.f1) ((rd_T25 l2 x20_5).f1.f2) t780 _ A67.out).mono ?_); rintro e w72 ⟨rfl, hb⟩; refine ⟨_, rfl, ?_⟩; replace HO_19 := dR HO_19 hb; replace BK755 := bB BK755 hb; replace BK756 := bB BK756 hb; replace BK776 := bB BK776 hb; replace HB := bS HB hb; (try clear hb); (try clear hb2); (try clear hk); (try clear hi)))
            have n0_ := am (Kd.R_drew HO_19.out)
            have n1_ := am (bd BK755.out)
            have n2_ := am (bd BK756.out)
            have n3_ := am (bd BK776.out)
            have n4_ := am (wd HB.out)
            clear HO_19 BK755 BK756 BK776 HB
            have HO_19 := n0_
            have BK755 := n1_
            have BK756 := n2_
            have BK776 := n3_
            have HB := n4_
            clear n0_ n1_ n2_ n3_ n4_
            have p781 : 0 ≤ (x20_5 : Int) := of_decide_eq_true (by assumption)
            have q781 : x20_5 < (l2.length : Int) := of_decide_eq_true (by assumption)
            obtain ⟨ad781, e781, hx781_0, hx781_1, hx781_2, hx781_3, hx781_4, hx781_5⟩ := at_T25 HR2.out x20_5 p781 q781
            have hw781_5 := hx781_5
            have hw781_4 := hx781_4
            have hw781_3 := hx781_3
            have hw781_2 := hx781_2
            have hw781_1 := hx781_1
            have hw781_0 := hx781_0
            obtain rfl : ad779 = ad781 := (by injection e781)
            replace hx781_0 := cl HB hx781_0
            replace hx781_1 := cl HB hx781_1
            replace hx781_2 := cl HB hx781_2
            replace hx781_3 := cl HB hx781_3
            replace hx781_4 := cl HB hx781_4
            replace hx781_5 := cl HB hx781_5
            replace p781 := eq_true p781
            replace q781 := eq_true q781
            refine start_ (n := 12) (S := fun w' => w'.cell? ⟨gb755, 0, none⟩ = some (.int .i64 a0_0) ∧ w'.cell? ⟨gb755, 1, none⟩ = some (.int .i64 a0_1) ∧ w'.cell? ⟨gb755, 2, none⟩ = some (.int .i64 a0_2) ∧ w'.cell? ⟨gb755, 3, none⟩ = some (.int .i64 a0_3) ∧ w'.cell? ⟨gb755, 4, none⟩ = some (.int .i64 a0_4) ∧ w'.cell? ⟨gb755, 5, none⟩ = some (.int .i64 a0_5) ∧ w'.cell? (ad779.add ((x20_5).toNat * 6)) = some (.int .i64 ((rd_T25 l2 x20_5).f0.f0)) ∧ w'.cell? ⟨(ad779.add ((x20_5).toNat * 6)).block, (ad779.add ((x20_5).toNat * 6)).off + 1, none⟩ = some (.int .i64 ((rd_T25 l2 x20_5).f0.f1)) ∧ w'.cell? ⟨(ad779.add ((x20_5).toNat * 6)).block, (ad779.add ((x20_5).toNat * 6)).off + 2, none⟩ = some (.int .i64 ((rd_T25 l2 x20_5).f0.f2)) ∧ w'.cell? ⟨(ad779.add ((x20_5).toNat * 6)).block, (ad779.add ((x20_5).toNat * 6)).off + 3, none⟩ = some (.int .i64 ((rd_T25 l2 x20_5).f1.f0)) ∧ w'.cell? ⟨(ad779.add ((x20_5).toNat * 6)).block, (ad779.add ((x20_5).toNat * 6)).off + 4, none⟩ = some (.int .i64 ((rd_T25 l2 x20_5).f1.f1)) ∧ w'.cell? ⟨(ad779.add ((x20_5).toNat * 6)).block, (ad779.add ((x20_5).toNat * 6)).off + 5, none⟩ = some (.int .i64 ((rd_T25 l2 x20_5).f1.f2))) (ds := []) #[F,F,F,F,F,F,F,F,F,F,F,F] (by kernel_rfl) rfl rfl ⟨(bc BK755.out 0).trans rfl, (bc BK755.out 1).trans rfl, (bc BK755.out 2).trans rfl, (bc BK755.out 3).trans rfl, (bc BK755.out 4).trans rfl, (bc BK755.out 5).trans rfl, ((HB.out.cell (bq w _ hw781_0)).trans hw781_0), ((HB.out.cell (bq w _ hw781_1)).trans hw781_1), ((HB.out.cell (bq w _ hw781_2)).trans hw781_2), ((HB.out.cell (bq w _ hw781_3)).trans hw781_3), ((HB.out.cell (bq w _ hw781_4)).trans hw781_4), ((HB.out.cell (bq w _ hw781_5)).trans hw781_5)⟩ (fun hHeld => ?_); refine with_tabW w_BoxVolumes.tab29 w_BoxVolumes.bits29 (fun HT_ HW_ => ?_)
            generalize w72.drew = w73 at HO_19 BK755 BK756 BK776 HB hx781_0 hx781_1 hx781_2 hx781_3 hx781_4 hx781_5 hHeld ⊢
            refine pu (i := 1) (N := some 120) (fl 12 0 [1]) HT_ ?_
            refine pu (i := 2) (N := some 121) (fl 12 0 [1, 2]) HT_ ?_
            refine pu (i := 3) (N := some 122) (fl 12 0 [1, 2, 3]) HT_ ?_
            refine tk (i := 0) (N := some 119) (fl 12 4 []) HT_ HW_ hHeld ?_
            refine tk (i := 4) (N := some 123) (fl 12 5 []) HT_ HW_ hHeld ?_
            refine join_ (σ := Nat) 2 #[T,T,T,T,T,T,T,T,T,T,F,F] (fun s_ => [(124, .tuple #[.agg #[.int .i64 t782, .int .i64 t783, .int .i64 t784, .int .i64 t785, .int .i64 t786, .int .i64 t787], .int .i64 t788]), (21, .pointer (some ⟨s_, 0, none⟩)), (118, .tuple #[.agg #[.int .i64 t782, .int .i64 t783, .int .i64 t784, .int .i64 t785, .int .i64 t786, .int .i64 t787], .int .i64 t788]), (125, .agg #[.int .i64 t782, .int .i64 t783, .int .i64 t784, .int .i64 t785, .int .i64 t786, .int .i64 t787]), (126, .int .i64 t788)]) (fun s_ w' => (w'.cell? ⟨gb755, 0, none⟩ = some (.int .i64 a0_0) ∧ w'.cell? ⟨gb755, 1, none⟩ = some (.int .i64 a0_1) ∧ w'.cell? ⟨gb755, 2, none⟩ = some (.int .i64 a0_2) ∧ w'.cell? ⟨gb755, 3, none⟩ = some (.int .i64 a0_3) ∧ w'.cell? ⟨gb755, 4, none⟩ = some (.int .i64 a0_4) ∧ w'.cell? ⟨gb755, 5, none⟩ = some (.int .i64 a0_5) ∧ w'.cell? (ad779.add ((x20_5).toNat * 6)) = some (.int .i64 ((rd_T25 l2 x20_5).f0.f0)) ∧ w'.cell? ⟨(ad779.add ((x20_5).toNat * 6)).block, (ad779.add ((x20_5).toNat * 6)).off + 1, none⟩ = some (.int .i64 ((rd_T25 l2 x20_5).f0.f1)) ∧ w'.cell? ⟨(ad779.add ((x20_5).toNat * 6)).block, (ad779.add ((x20_5).toNat * 6)).off + 2, none⟩ = some (.int .i64 ((rd_T25 l2 x20_5).f0.f2)) ∧ w'.cell? ⟨(ad779.add ((x20_5).toNat * 6)).block, (ad779.add ((x20_5).toNat * 6)).off + 3, none⟩ = some (.int .i64 ((rd_T25 l2 x20_5).f1.f0)) ∧ w'.cell? ⟨(ad779.add ((x20_5).toNat * 6)).block, (ad779.add ((x20_5).toNat * 6)).off + 4, none⟩ = some (.int .i64 ((rd_T25 l2 x20_5).f1.f1)) ∧ w'.cell? ⟨(ad779.add ((x20_5).toNat * 6)).block, (ad779.add ((x20_5).toNat * 6)).off + 5, none⟩ = some (.int .i64 ((rd_T25 l2 x20_5).f1.f2))) ∧ (Kd.R k25 25 w' w.heap.size (fun k_ => k_ ≠ gb755 ∧ k_ ≠ gb756 ∧ k_ ≠ gb776 ∧ k_ ≠ s_) u19 x19_5) ∧ (w'.heap[gb755]? = some (.cells #[.int .i64 a0_0, .int .i64 a0_1, .int .i64 a0_2, .int .i64 a0_3, .int .i64 a0_4, .int .i64 a0_5] 25 (0, 0))) ∧ (w'.heap[gb756]? = some (.cells #[.int .i64 a1_0, .int .i64 a1_1, .int .i64 a1_2, .int .i64 a1_3, .int .i64 a1_4, .int .i64 a1_5] 25 (0, 0))) ∧ (w'.heap[gb776]? = some (.cells #[.int .i64 t769, .int .i64 t770, .int .i64 t771, .int .i64 t772, .int .i64 t773, .int .i64 t774] 25 (0, 0))) ∧ (w'.heap[s_]? = some (.cells #[.int .i64 0, .int .i64 0, .int .i64 0, .int .i64 0, .int .i64 0, .int .i64 0] 25 (0, 0))) ∧ (w.heap.size ≤ s_) ∧ (w.heap.size ≤ s_) ∧ (gb755 ≠ s_) ∧ (s_ ≠ gb755) ∧ (gb756 ≠ s_) ∧ (s_ ≠ gb756) ∧ (gb776 ≠ s_) ∧ (s_ ≠ gb776) ∧ (Below w.heap.size w w')) ?_ ?_
            rotate_left
            ·intro hCont
             refine two_ (i := 5) (j := 9) (Ni := some 124) (Nj := some 21) #[T,T,T,T,T,T,F,F,F,F,F,F] (fl 12 5 [9]) rfl rfl rfl rfl (two_of HT_.out (by kernel_rfl)) (by decide) (by decide) (fun K hK => ?_) (fun K hK => ?_)
             ·skip
              refine goes_ Try.func25 (by kernel_rfl) rfl #[.agg #[.int .i64 a0_0, .int .i64 a0_1, .int .i64 a0_2, .int .i64 a0_3, .int .i64 a0_4, .int .i64 a0_5], .agg #[.int .i64 ((rd_T25 l2 x20_5).f0.f0), .int .i64 ((rd_T25 l2 x20_5).f0.f1), .int .i64 ((rd_T25 l2 x20_5).f0.f2), .int .i64 ((rd_T25 l2 x20_5).f1.f0), .int .i64 ((rd_T25 l2 x20_5).f1.f1), .int .i64 ((rd_T25 l2 x20_5).f1.f2)]] (by rfl) rfl rfl (by (try simp only [pml]); first | done | rfl | (simp only [pdt]; rfl)) ?_
              with_reducible refine (box_Intersect.calls k5 a0_0 a0_1 a0_2 a0_3 a0_4 a0_5 ((rd_T25 l2 x20_5).f0.f0) ((rd_T25 l2 x20_5).f0.f1) ((rd_T25 l2 x20_5).f0.f2) ((rd_T25 l2 x20_5).f1.f0) ((rd_T25 l2 x20_5).f1.f1) ((rd_T25 l2 x20_5).f1.f2) t782 t783 t784 t785 t786 t787 t788 _ A69.out).mono ?_
              rintro e w74 ⟨rfl, hb⟩
              refine ⟨_, rfl, ?_⟩
              have n0_ := dR HO_19 hb
              have n1_ := bB BK755 hb
              have n2_ := bB BK756 hb
              have n3_ := bB BK776 hb
              have n4_ := bS HB hb
              clear HO_19 BK755 BK756 BK776 HB
              have HO_19 := n0_
              have BK755 := n1_
              have BK756 := n2_
              have BK776 := n3_
              have HB := n4_
              clear n0_ n1_ n2_ n3_ n4_
              (try clear hb)
              (try clear hb2)
              (try clear hk)
              (try clear hi)
              refine hK.out _ _ ⟨(bc BK755.out 0).trans rfl, (bc BK755.out 1).trans rfl, (bc BK755.out 2).trans rfl, (bc BK755.out 3).trans rfl, (bc BK755.out 4).trans rfl, (bc BK755.out 5).trans rfl, ((HB.out.cell (bq w _ hw781_0)).trans hw781_0), ((HB.out.cell (bq w _ hw781_1)).trans hw781_1), ((HB.out.cell (bq w _ hw781_2)).trans hw781_2), ((HB.out.cell (bq w _ hw781_3)).trans hw781_3), ((HB.out.cell (bq w _ hw781_4)).trans hw781_4), ((HB.out.cell (bq w _ hw781_5)).trans hw781_5)⟩ (fun hHeld => ?_)
              clear hK K
              refine norm_ (a' := ?_) ?_ ?_
              rotate_left
              ·show Act.put _ (some 124) _ = _
               simp only [Act.put, psl, i64_w, i32_w]
               rfl
              refine pu (i := 6) (N := some 118) (fl 12 7 []) HT_ ?_
              refine pu (i := 7) (N := some 125) (fl 12 8 []) HT_ ?_
              refine pu (i := 8) (N := some 126) (fl 12 9 []) HT_ ?_
              refine one_ (i := 9) (N := some 21) (fl 12 10 []) rfl rfl (one_of HT_.out (by kernel_rfl)) (by decide) (fun K hK => ?_)
              refine box_step ?hg (N := 21) ?hd (cs := #[.int .i64 0, .int .i64 0, .int .i64 0, .int .i64 0, .int .i64 0, .int .i64 0]) (t := 25) ?hr ?_; (case hd | hg => rfl); (case hr => first | (go_simp; done) | (go_simp; rfl))
              intro gb789 hg w75 hbox hb
              have n0_ := eR HO_19 hg hb
              have n1_ := bB BK755 hb
              have n2_ := bB BK756 hb
              have n3_ := bB BK776 hb
              have n4_ := bS HB hb
              have n5_ := am hbox
              have n6_ := sG HB hg
              have n7_ := sG HB hg
              have n8_ := nL BK755 hg
              have n9_ := nG BK755 hg
              have n10_ := nL BK756 hg
              have n11_ := nG BK756 hg
              have n12_ := nL BK776 hg
              have n13_ := nG BK776 hg
              clear HO_19 BK755 BK756 BK776 HB
              have HO_19 := n0_
              have BK755 := n1_
              have BK756 := n2_
              have BK776 := n3_
              have HB := n4_
              have BK789 := n5_
              have GW789 := n6_
              have GE789 := n7_
              have NB755_789 := n8_
              have NB789_755 := n9_
              have NB756_789 := n10_
              have NB789_756 := n11_
              have NB776_789 := n12_
              have NB789_776 := n13_
              clear n0_ n1_ n2_ n3_ n4_ n5_ n6_ n7_ n8_ n9_ n10_ n11_ n12_ n13_ hb hbox hg
              refine hK.out _ _ ⟨(bc BK755.out 0).trans rfl, (bc BK755.out 1).trans rfl, (bc BK755.out 2).trans rfl, (bc BK755.out 3).trans rfl, (bc BK755.out 4).trans rfl, (bc BK755.out 5).trans rfl, ((HB.out.cell (bq w _ hw781_0)).trans hw781_0), ((HB.out.cell (bq w _ hw781_1)).trans hw781_1), ((HB.out.cell (bq w _ hw781_2)).trans hw781_2), ((HB.out.cell (bq w _ hw781_3)).trans hw781_3), ((HB.out.cell (bq w _ hw781_4)).trans hw781_4), ((HB.out.cell (bq w _ hw781_5)).trans hw781_5)⟩ (fun hHeld => ?_)
              clear hK K
              refine norm_ (a' := ?_) ?_ ?_
              rotate_left
              ·show Act.put _ (some 21) _ = _
               simp only [Act.put, psl, i64_w, i32_w]
               rfl
              exact norm_ (by simp only [putAll, Act.put, psl]) (hCont (gb789) _ ⟨hHeld, (by (with_reducible repeat (first | apply Kd.R_alloc | apply Kd.R_drewN | apply Kd.R_drew)); exact Kd.R_mono HO_19.out (fun _ hk => ⟨hk.1.1, ⟨hk.1.2.1, ⟨hk.1.2.2, hk.2⟩⟩⟩)), (fb BK755.out), (fb BK756.out), (fb BK776.out), (fb BK789.out), GW789.out, GE789.out, NB755_789.out, NB789_755.out, NB756_789.out, NB789_756.out, NB776_789.out, NB789_776.out, (fW HB.out)⟩)
             skip
             refine box_step ?hg (N := 21) ?hd (cs := #[.int .i64 0, .int .i64 0, .int .i64 0, .int .i64 0, .int .i64 0, .int .i64 0]) (t := 25) ?hr ?_; (case hd | hg => rfl); (case hr => first | (go_simp; done) | (go_simp; rfl))
             intro gb789 hg w74 hbox hb
             have n0_ := eR HO_19 hg hb
             have n1_ := bB BK755 hb
             have n2_ := bB BK756 hb
             have n3_ := bB BK776 hb
             have n4_ := bS HB hb
             have n5_ := am hbox
             have n6_ := sG HB hg
             have n7_ := sG HB hg
             have n8_ := nL BK755 hg
             have n9_ := nG BK755 hg
             have n10_ := nL BK756 hg
             have n11_ := nG BK756 hg
             have n12_ := nL BK776 hg
             have n13_ := nG BK776 hg
             clear HO_19 BK755 BK756 BK776 HB
             have HO_19 := n0_
             have BK755 := n1_
             have BK756 := n2_
             have BK776 := n3_
             have HB := n4_
             have BK789 := n5_
             have GW789 := n6_
             have GE789 := n7_
             have NB755_789 := n8_
             have NB789_755 := n9_
             have NB756_789 := n10_
             have NB789_756 := n11_
             have NB776_789 := n12_
             have NB789_776 := n13_
             clear n0_ n1_ n2_ n3_ n4_ n5_ n6_ n7_ n8_ n9_ n10_ n11_ n12_ n13_ hb hbox hg
             refine hK.out _ _ ⟨(bc BK755.out 0).trans rfl, (bc BK755.out 1).trans rfl, (bc BK755.out 2).trans rfl, (bc BK755.out 3).trans rfl, (bc BK755.out 4).trans rfl, (bc BK755.out 5).trans rfl, ((HB.out.cell (bq w _ hw781_0)).trans hw781_0), ((HB.out.cell (bq w _ hw781_1)).trans hw781_1), ((HB.out.cell (bq w _ hw781_2)).trans hw781_2), ((HB.out.cell (bq w _ hw781_3)).trans hw781_3), ((HB.out.cell (bq w _ hw781_4)).trans hw781_4), ((HB.out.cell (bq w _ hw781_5)).trans hw781_5)⟩ (fun hHeld => ?_)
             clear hK K
             refine norm_ (a' := ?_) ?_ ?_
             rotate_left
             ·show Act.put _ (some 21) _ = _
              simp only [Act.put, psl, i64_w, i32_w]
              rfl
             refine one_ (i := 5) (N := some 124) (fl 12 6 [9]) rfl rfl (one_of HT_.out (by kernel_rfl)) (by decide) (fun K hK => ?_)
             refine goes_ Try.func25 (by kernel_rfl) rfl #[.agg #[.int .i64 a0_0, .int .i64 a0_1, .int .i64 a0_2, .int .i64 a0_3, .int .i64 a0_4, .int .i64 a0_5], .agg #[.int .i64 ((rd_T25 l2 x20_5).f0.f0), .int .i64 ((rd_T25 l2 x20_5).f0.f1), .int .i64 ((rd_T25 l2 x20_5).f0.f2), .int .i64 ((rd_T25 l2 x20_5).f1.f0), .int .i64 ((rd_T25 l2 x20_5).f1.f1), .int .i64 ((rd_T25 l2 x20_5).f1.f2)]] (by rfl) rfl rfl (by (try simp only [pml]); first | done | rfl | (simp only [pdt]; rfl)) ?_
             with_reducible refine (box_Intersect.calls k5 a0_0 a0_1 a0_2 a0_3 a0_4 a0_5 ((rd_T25 l2 x20_5).f0.f0) ((rd_T25 l2 x20_5).f0.f1) ((rd_T25 l2 x20_5).f0.f2) ((rd_T25 l2 x20_5).f1.f0) ((rd_T25 l2 x20_5).f1.f1) ((rd_T25 l2 x20_5).f1.f2) t782 t783 t784 t785 t786 t787 t788 _ A69.out).mono ?_
             rintro e w75 ⟨rfl, hb⟩
             refine ⟨_, rfl, ?_⟩
             have n0_ := dR HO_19 hb
             have n1_ := bB BK755 hb
             have n2_ := bB BK756 hb
             have n3_ := bB BK776 hb
             have n4_ := bB BK789 hb
             have n5_ := bS HB hb
             clear HO_19 BK755 BK756 BK776 BK789 HB
             have HO_19 := n0_
             have BK755 := n1_
             have BK756 := n2_
             have BK776 := n3_
             have BK789 := n4_
             have HB := n5_
             clear n0_ n1_ n2_ n3_ n4_ n5_
             (try clear hb)
             (try clear hb2)
             (try clear hk)
             (try clear hi)
             refine hK.out _ _ ⟨(bc BK755.out 0).trans rfl, (bc BK755.out 1).trans rfl, (bc BK755.out 2).trans rfl, (bc BK755.out 3).trans rfl, (bc BK755.out 4).trans rfl, (bc BK755.out 5).trans rfl, ((HB.out.cell (bq w _ hw781_0)).trans hw781_0), ((HB.out.cell (bq w _ hw781_1)).trans hw781_1), ((HB.out.cell (bq w _ hw781_2)).trans hw781_2), ((HB.out.cell (bq w _ hw781_3)).trans hw781_3), ((HB.out.cell (bq w _ hw781_4)).trans hw781_4), ((HB.out.cell (bq w _ hw781_5)).trans hw781_5)⟩ (fun hHeld => ?_)
             clear hK K
             refine norm_ (a' := ?_) ?_ ?_
             rotate_left
             ·show Act.put _ (some 124) _ = _
              simp only [Act.put, psl, i64_w, i32_w]
              rfl
             refine pu (i := 6) (N := some 118) (fl 12 7 [9]) HT_ ?_
             refine pu (i := 7) (N := some 125) (fl 12 8 [9]) HT_ ?_
             refine pu (i := 8) (N := some 126) (fl 12 10 []) HT_ ?_
             exact norm_ (by simp only [putAll, Act.put, psl]) (hCont (gb789) _ ⟨hHeld, (by (with_reducible repeat (first | apply Kd.R_alloc | apply Kd.R_drewN | apply Kd.R_drew)); exact Kd.R_mono HO_19.out (fun _ hk => ⟨hk.1.1, ⟨hk.1.2.1, ⟨hk.1.2.2, hk.2⟩⟩⟩)), (fb BK755.out), (fb BK756.out), (fb BK776.out), (fb BK789.out), GW789.out, GE789.out, NB755_789.out, NB789_755.out, NB756_789.out, NB789_756.out, NB776_789.out, NB789_776.out, (fW HB.out)⟩)
            rintro gb789 w76 ⟨hS_, h0_, h1_, h2_, h3_, h4_, h5_, h6_, h7_, h8_, h9_, h10_, h11_, h12_, h13_⟩
            have n0_ : Aside0 (Kd.R k25 25 w76 w.heap.size (fun k_ => k_ ≠ gb755 ∧ k_ ≠ gb756 ∧ k_ ≠ gb776 ∧ k_ ≠ gb789) u19 x19_5) := ⟨h0_⟩
            have n1_ : Aside0 (w76.heap[gb755]? = some (.cells #[.int .i64 a0_0, .int .i64 a0_1, .int .i64 a0_2, .int .i64 a0_3, .int .i64 a0_4, .int .i64 a0_5] 25 (0, 0))) := ⟨h1_⟩
            have n2_ : Aside0 (w76.heap[gb756]? = some (.cells #[.int .i64 a1_0, .int .i64 a1_1, .int .i64 a1_2, .int .i64 a1_3, .int .i64 a1_4, .int .i64 a1_5] 25 (0, 0))) := ⟨h2_⟩
            have n3_ : Aside0 (w76.heap[gb776]? = some (.cells #[.int .i64 t769, .int .i64 t770, .int .i64 t771, .int .i64 t772, .int .i64 t773, .int .i64 t774] 25 (0, 0))) := ⟨h3_⟩
            have n4_ : Aside0 (w76.heap[gb789]? = some (.cells #[.int .i64 0, .int .i64 0, .int .i64 0, .int .i64 0, .int .i64 0, .int .i64 0] 25 (0, 0))) := ⟨h4_⟩
            have n5_ : Aside0 (w.heap.size ≤ gb789) := ⟨h5_⟩
            have n6_ : Aside0 (w.heap.size ≤ gb789) := ⟨h6_⟩
            have n7_ : Aside0 (gb755 ≠ gb789) := ⟨h7_⟩
            have n8_ : Aside0 (gb789 ≠ gb755) := ⟨h8_⟩
            have n9_ : Aside0 (gb756 ≠ gb789) := ⟨h9_⟩
            have n10_ : Aside0 (gb789 ≠ gb756) := ⟨h10_⟩
            have n11_ : Aside0 (gb776 ≠ gb789) := ⟨h11_⟩
            have n12_ : Aside0 (gb789 ≠ gb776) := ⟨h12_⟩
            have n13_ : Aside0 (Below w.heap.size w w76) := ⟨h13_⟩
            clear HO_19 BK755 BK756 BK776 HB h0_ h1_ h2_ h3_ h4_ h5_ h6_ h7_ h8_ h9_ h10_ h11_ h12_ h13_
            have HO_19 := n0_
            have BK755 := n1_
            have BK756 := n2_
            have BK776 := n3_
            have BK789 := n4_
            have GW789 := n5_
            have GE789 := n6_
            have NB755_789 := n7_
            have NB789_755 := n8_
            have NB756_789 := n9_
            have NB789_756 := n10_
            have NB776_789 := n11_
            have NB789_776 := n12_
            have HB := n13_
            clear n0_ n1_ n2_ n3_ n4_ n5_ n6_ n7_ n8_ n9_ n10_ n11_ n12_ n13_
            have hHeld : w76.cell? ⟨gb755, 0, none⟩ = some (.int .i64 a0_0) ∧ w76.cell? ⟨gb755, 1, none⟩ = some (.int .i64 a0_1) ∧ w76.cell? ⟨gb755, 2, none⟩ = some (.int .i64 a0_2) ∧ w76.cell? ⟨gb755, 3, none⟩ = some (.int .i64 a0_3) ∧ w76.cell? ⟨gb755, 4, none⟩ = some (.int .i64 a0_4) ∧ w76.cell? ⟨gb755, 5, none⟩ = some (.int .i64 a0_5) ∧ w76.cell? (ad779.add ((x20_5).toNat * 6)) = some (.int .i64 ((rd_T25 l2 x20_5).f0.f0)) ∧ w76.cell? ⟨(ad779.add ((x20_5).toNat * 6)).block, (ad779.add ((x20_5).toNat * 6)).off + 1, none⟩ = some (.int .i64 ((rd_T25 l2 x20_5).f0.f1)) ∧ w76.cell? ⟨(ad779.add ((x20_5).toNat * 6)).block, (ad779.add ((x20_5).toNat * 6)).off + 2, none⟩ = some (.int .i64 ((rd_T25 l2 x20_5).f0.f2)) ∧ w76.cell? ⟨(ad779.add ((x20_5).toNat * 6)).block, (ad779.add ((x20_5).toNat * 6)).off + 3, none⟩ = some (.int .i64 ((rd_T25 l2 x20_5).f1.f0)) ∧ w76.cell? ⟨(ad779.add ((x20_5).toNat * 6)).block, (ad779.add ((x20_5).toNat * 6)).off + 4, none⟩ = some (.int .i64 ((rd_T25 l2 x20_5).f1.f1)) ∧ w76.cell? ⟨(ad779.add ((x20_5).toNat * 6)).block, (ad779.add ((x20_5).toNat * 6)).off + 5, none⟩ = some (.int .i64 ((rd_T25 l2 x20_5).f1.f2)) := hS_
            refine norm_ (a' := ?_) ?_ ?_
            rotate_left
            ·simp only [putAll, Act.put, psl]
             rfl
            refine one_ (i := 10) (N := none) (fl 12 11 []) rfl rfl (one_of HT_.out (by kernel_rfl)) (by decide) (fun K hK => ?_)
            have hs77 : w76.cell? ⟨gb789, 0, none⟩ = some (.int .i64 0) := (bc BK789.out 0).trans rfl
            have hfs77 := bf BK789.out 0
            have hns77_0 := NB755_789.out
            have hns77_1 := NB756_789.out
            have hns77_2 := NB776_789.out
            have hms77_0 := NB789_755.out
            have hms77_1 := NB789_756.out
            have hms77_2 := NB789_776.out
            have hs78 : w76.cell? ⟨gb789, 1, none⟩ = some (.int .i64 0) := (bc BK789.out 1).trans rfl
            have hfs78 := bf BK789.out 1
            have hns78_0 := NB755_789.out
            have hns78_1 := NB756_789.out
            have hns78_2 := NB776_789.out
            have hms78_0 := NB789_755.out
            have hms78_1 := NB789_756.out
            have hms78_2 := NB789_776.out
            have hs79 : w76.cell? ⟨gb789, 2, none⟩ = some (.int .i64 0) := (bc BK789.out 2).trans rfl
            have hfs79 := bf BK789.out 2
            have hns79_0 := NB755_789.out
            have hns79_1 := NB756_789.out
            have hns79_2 := NB776_789.out
            have hms79_0 := NB789_755.out
            have hms79_1 := NB789_756.out
            have hms79_2 := NB789_776.out
            have hs80 : w76.cell? ⟨gb789, 3, none⟩ = some (.int .i64 0) := (bc BK789.out 3).trans rfl
            have hfs80 := bf BK789.out 3
            have hns80_0 := NB755_789.out
            have hns80_1 := NB756_789.out
            have hns80_2 := NB776_789.out
            have hms80_0 := NB789_755.out
            have hms80_1 := NB789_756.out
            have hms80_2 := NB789_776.out
            have hs81 : w76.cell? ⟨gb789, 4, none⟩ = some (.int .i64 0) := (bc BK789.out 4).trans rfl
            have hfs81 := bf BK789.out 4
            have hns81_0 := NB755_789.out
            have hns81_1 := NB756_789.out
            have hns81_2 := NB776_789.out
            have hms81_0 := NB789_755.out
            have hms81_1 := NB789_756.out
            have hms81_2 := NB789_776.out
            have hs82 : w76.cell? ⟨gb789, 5, none⟩ = some (.int .i64 0) := (bc BK789.out 5).trans rfl
            have hfs82 := bf BK789.out 5
            have hns82_0 := NB755_789.out
            have hns82_1 := NB756_789.out
            have hns82_2 := NB776_789.out
            have hms82_0 := NB789_755.out
            have hms82_1 := NB789_756.out
            have hms82_2 := NB789_776.out
            refine skip_ (w1 := ?_) (by rfl) rfl ?_ ?_
            rotate_left
            ·go_simp
             rfl
            refine hK.out _ _ ⟨((cf (p := ⟨gb789, _, none⟩) NB755_789.out _).trans (((cf (p := ⟨gb789, _, none⟩) NB755_789.out _).trans (((cf (p := ⟨gb789, _, none⟩) NB755_789.out _).trans (((cf (p := ⟨gb789, _, none⟩) NB755_789.out _).trans (((cf (p := ⟨gb789, _, none⟩) NB755_789.out _).trans (((cf (p := ⟨gb789, _, none⟩) NB755_789.out _).trans (hHeld.1)))))))))))), ((cf (p := ⟨gb789, _, none⟩) NB755_789.out _).trans (((cf (p := ⟨gb789, _, none⟩) NB755_789.out _).trans (((cf (p := ⟨gb789, _, none⟩) NB755_789.out _).trans (((cf (p := ⟨gb789, _, none⟩) NB755_789.out _).trans (((cf (p := ⟨gb789, _, none⟩) NB755_789.out _).trans (((cf (p := ⟨gb789, _, none⟩) NB755_789.out _).trans (hHeld.2.1)))))))))))), ((cf (p := ⟨gb789, _, none⟩) NB755_789.out _).trans (((cf (p := ⟨gb789, _, none⟩) NB755_789.out _).trans (((cf (p := ⟨gb789, _, none⟩) NB755_789.out _).trans (((cf (p := ⟨gb789, _, none⟩) NB755_789.out _).trans (((cf (p := ⟨gb789, _, none⟩) NB755_789.out _).trans (((cf (p := ⟨gb789, _, none⟩) NB755_789.out _).trans (hHeld.2.2.1)))))))))))), ((cf (p := ⟨gb789, _, none⟩) NB755_789.out _).trans (((cf (p := ⟨gb789, _, none⟩) NB755_789.out _).trans (((cf (p := ⟨gb789, _, none⟩) NB755_789.out _).trans (((cf (p := ⟨gb789, _, none⟩) NB755_789.out _).trans (((cf (p := ⟨gb789, _, none⟩) NB755_789.out _).trans (((cf (p := ⟨gb789, _, none⟩) NB755_789.out _).trans (hHeld.2.2.2.1)))))))))))), ((cf (p := ⟨gb789, _, none⟩) NB755_789.out _).trans (((cf (p := ⟨gb789, _, none⟩) NB755_789.out _).trans (((cf (p := ⟨gb789, _, none⟩) NB755_789.out _).trans (((cf (p := ⟨gb789, _, none⟩) NB755_789.out _).trans (((cf (p := ⟨gb789, _, none⟩) NB755_789.out _).trans (((cf (p := ⟨gb789, _, none⟩) NB755_789.out _).trans (hHeld.2.2.2.2.1)))))))))))), ((cf (p := ⟨gb789, _, none⟩) NB755_789.out _).trans (((cf (p := ⟨gb789, _, none⟩) NB755_789.out _).trans (((cf (p := ⟨gb789, _, none⟩) NB755_789.out _).trans (((cf (p := ⟨gb789, _, none⟩) NB755_789.out _).trans (((cf (p := ⟨gb789, _, none⟩) NB755_789.out _).trans (((cf (p := ⟨gb789, _, none⟩) NB755_789.out _).trans (hHeld.2.2.2.2.2.1)))))))))))), ((cf (p := ⟨gb789, _, none⟩) (by first | exact Nat.ne_of_lt (Nat.lt_of_lt_of_le (by have := bq _ _ hw781_0; first | rwa [add_block] at this | exact this) GW789.out) | (rw [add_block]; exact Nat.ne_of_lt (Nat.lt_of_lt_of_le (by have := bq _ _ hw781_0; first | rwa [add_block] at this | exact this) GW789.out)) | (show (Addr.add _ _).block ≠ _; rw [add_block]; exact Nat.ne_of_lt (Nat.lt_of_lt_of_le (by have := bq _ _ hw781_0; first | rwa [add_block] at this | exact this) GW789.out)) | (dsimp only; exact Nat.ne_of_lt (Nat.lt_of_lt_of_le (by have := bq _ _ hw781_0; first | rwa [add_block] at this | exact this) GW789.out))) _).trans (((cf (p := ⟨gb789, _, none⟩) (by first | exact Nat.ne_of_lt (Nat.lt_of_lt_of_le (by have := bq _ _ hw781_0; first | rwa [add_block] at this | exact this) GW789.out) | (rw [add_block]; exact Nat.ne_of_lt (Nat.lt_of_lt_of_le (by have := bq _ _ hw781_0; first | rwa [add_block] at this | exact this) GW789.out)) | (show (Addr.add _ _).block ≠ _; rw [add_block]; exact Nat.ne_of_lt (Nat.lt_of_lt_of_le (by have := bq _ _ hw781_0; first | rwa [add_block] at this | exact this) GW789.out)) | (dsimp only; exact Nat.ne_of_lt (Nat.lt_of_lt_of_le (by have := bq _ _ hw781_0; first | rwa [add_block] at this | exact this) GW789.out))) _).trans (((cf (p := ⟨gb789, _, none⟩) (by first | exact Nat.ne_of_lt (Nat.lt_of_lt_of_le (by have := bq _ _ hw781_0; first | rwa [add_block] at this | exact this) GW789.out) | (rw [add_block]; exact Nat.ne_of_lt (Nat.lt_of_lt_of_le (by have := bq _ _ hw781_0; first | rwa [add_block] at this | exact this) GW789.out)) | (show (Addr.add _ _).block ≠ _; rw [add_block]; exact Nat.ne_of_lt (Nat.lt_of_lt_of_le (by have := bq _ _ hw781_0; first | rwa [add_block] at this | exact this) GW789.out)) | (dsimp only; exact Nat.ne_of_lt (Nat.lt_of_lt_of_le (by have := bq _ _ hw781_0; first | rwa [add_block] at this | exact this) GW789.out))) _).trans (((cf (p := ⟨gb789, _, none⟩) (by first | exact Nat.ne_of_lt (Nat.lt_of_lt_of_le (by have := bq _ _ hw781_0; first | rwa [add_block] at this | exact this) GW789.out) | (rw [add_block]; exact Nat.ne_of_lt (Nat.lt_of_lt_of_le (by have := bq _ _ hw781_0; first | rwa [add_block] at this | exact this) GW789.out)) | (show (Addr.add _ _).block ≠ _; rw [add_block]; exact Nat.ne_of_lt (Nat.lt_of_lt_of_le (by have := bq _ _ hw781_0; first | rwa [add_block] at this | exact this) GW789.out)) | (dsimp only; exact Nat.ne_of_lt (Nat.lt_of_lt_of_le (by have := bq _ _ hw781_0; first | rwa [add_block] at this | exact this) GW789.out))) _).trans (((cf (p := ⟨gb789, _, none⟩) (by first | exact Nat.ne_of_lt (Nat.lt_of_lt_of_le (by have := bq _ _ hw781_0; first | rwa [add_block] at this | exact this) GW789.out) | (rw [add_block]; exact Nat.ne_of_lt (Nat.lt_of_lt_of_le (by have := bq _ _ hw781_0; first | rwa [add_block] at this | exact this) GW789.out)) | (show (Addr.add _ _).block ≠ _; rw [add_block]; exact Nat.ne_of_lt (Nat.lt_of_lt_of_le (by have := bq _ _ hw781_0; first | rwa [add_block] at this | exact this) GW789.out)) | (dsimp only; exact Nat.ne_of_lt (Nat.lt_of_lt_of_le (by have := bq _ _ hw781_0; first | rwa [add_block] at this | exact this) GW789.out))) _).trans (((cf (p := ⟨gb789, _, none⟩) (by first | exact Nat.ne_of_lt (Nat.lt_of_lt_of_le (by have := bq _ _ hw781_0; first | rwa [add_block] at this | exact this) GW789.out) | (rw [add_block]; exact Nat.ne_of_lt (Nat.lt_of_lt_of_le (by have := bq _ _ hw781_0; first | rwa [add_block] at this | exact this) GW789.out)) | (show (Addr.add _ _).block ≠ _; rw [add_block]; exact Nat.ne_of_lt (Nat.lt_of_lt_of_le (by have := bq _ _ hw781_0; first | rwa [add_block] at this | exact this) GW789.out)) | (dsimp only; exact Nat.ne_of_lt (Nat.lt_of_lt_of_le (by have := bq _ _ hw781_0; first | rwa [add_block] at this | exact this) GW789.out))) _).trans (hHeld.2.2.2.2.2.2.1)))))))))))), ((cf (p := ⟨gb789, _, none⟩) (by first | exact Nat.ne_of_lt (Nat.lt_of_lt_of_le (by have := bq _ _ hw781_1; first | rwa [add_block] at this | exact this) GW789.out) | (rw [add_block]; exact Nat.ne_of_lt (Nat.lt_of_lt_of_le (by have := bq _ _ hw781_1; first | rwa [add_block] at this | exact this) GW789.out)) | (show (Addr.add _ _).block ≠ _; rw [add_block]; exact Nat.ne_of_lt (Nat.lt_of_lt_of_le (by have := bq _ _ hw781_1; first | rwa [add_block] at this | exact this) GW789.out)) | (dsimp only; exact Nat.ne_of_lt (Nat.lt_of_lt_of_le (by have := bq _ _ hw781_1; first | rwa [add_block] at this | exact this) GW789.out))) _).trans (((cf (p := ⟨gb789, _, none⟩) (by first | exact Nat.ne_of_lt (Nat.lt_of_lt_of_le (by have := bq _ _ hw781_1; first | rwa [add_block] at this | exact this) GW789.out) | (rw [add_block]; exact Nat.ne_of_lt (Nat.lt_of_lt_of_le (by have := bq _ _ hw781_1; first | rwa [add_block] at this | exact this) GW789.out)) | (show (Addr.add _ _).block ≠ _; rw [add_block]; exact Nat.ne_of_lt (Nat.lt_of_lt_of_le (by have := bq _ _ hw781_1; first | rwa [add_block] at this | exact this) GW789.out)) | (dsimp only; exact Nat.ne_of_lt (Nat.lt_of_lt_of_le (by have := bq _ _ hw781_1; first | rwa [add_block] at this | exact this) GW789.out))) _).trans (((cf (p := ⟨gb789, _, none⟩) (by first | exact Nat.ne_of_lt (Nat.lt_of_lt_of_le (by have := bq _ _ hw781_1; first | rwa [add_block] at this | exact this) GW789.out) | (rw [add_block]; exact Nat.ne_of_lt (Nat.lt_of_lt_of_le (by have := bq _ _ hw781_1; first | rwa [add_block] at this | exact this) GW789.out)) | (show (Addr.add _ _).block ≠ _; rw [add_block]; exact Nat.ne_of_lt (Nat.lt_of_lt_of_le (by have := bq _ _ hw781_1; first | rwa [add_block] at this | exact this) GW789.out)) | (dsimp only; exact Nat.ne_of_lt (Nat.lt_of_lt_of_le (by have := bq _ _ hw781_1; first | rwa [add_block] at this | exact this) GW789.out))) _).trans (((cf (p := ⟨gb789, _, none⟩) (by first | exact Nat.ne_of_lt (Nat.lt_of_lt_of_le (by have := bq _ _ hw781_1; first | rwa [add_block] at this | exact this) GW789.out) | (rw [add_block]; exact Nat.ne_of_lt (Nat.lt_of_lt_of_le (by have := bq _ _ hw781_1; first | rwa [add_block] at this | exact this) GW789.out)) | (show (Addr.add _ _).block ≠ _; rw [add_block]; exact Nat.ne_of_lt (Nat.lt_of_lt_of_le (by have := bq _ _ hw781_1; first | rwa [add_block] at this | exact this) GW789.out)) | (dsimp only; exact Nat.ne_of_lt (Nat.lt_of_lt_of_le (by have := bq _ _ hw781_1; first | rwa [add_block] at this | exact this) GW789.out))) _).trans (((cf (p := ⟨gb789, _, none⟩) (by first | exact Nat.ne_of_lt (Nat.lt_of_lt_of_le (by have := bq _ _ hw781_1; first | rwa [add_block] at this | exact this) GW789.out) | (rw [add_block]; exact Nat.ne_of_lt (Nat.lt_of_lt_of_le (by have := bq _ _ hw781_1; first | rwa [add_block] at this | exact this) GW789.out)) | (show (Addr.add _ _).block ≠ _; rw [add_block]; exact Nat.ne_of_lt (Nat.lt_of_lt_of_le (by have := bq _ _ hw781_1; first | rwa [add_block] at this | exact this) GW789.out)) | (dsimp only; exact Nat.ne_of_lt (Nat.lt_of_lt_of_le (by have := bq _ _ hw781_1; first | rwa [add_block] at this | exact this) GW789.out))) _).trans (((cf (p := ⟨gb789, _, none⟩) (by first | exact Nat.ne_of_lt (Nat.lt_of_lt_of_le (by have := bq _ _ hw781_1; first | rwa [add_block] at this | exact this) GW789.out) | (rw [add_block]; exact Nat.ne_of_lt (Nat.lt_of_lt_of_le (by have := bq _ _ hw781_1; first | rwa [add_block] at this | exact this) GW789.out)) | (show (Addr.add _ _).block ≠ _; rw [add_block]; exact Nat.ne_of_lt (Nat.lt_of_lt_of_le (by have := bq _ _ hw781_1; first | rwa [add_block] at this | exact this) GW789.out)) | (dsimp only; exact Nat.ne_of_lt (Nat.lt_of_lt_of_le (by have := bq _ _ hw781_1; first | rwa [add_block] at this | exact this) GW789.out))) _).trans (hHeld.2.2.2.2.2.2.2.1)))))))))))), ((cf (p := ⟨gb789, _, none⟩) (by first | exact Nat.ne_of_lt (Nat.lt_of_lt_of_le (by have := bq _ _ hw781_2; first | rwa [add_block] at this | exact this) GW789.out) | (rw [add_block]; exact Nat.ne_of_lt (Nat.lt_of_lt_of_le (by have := bq _ _ hw781_2; first | rwa [add_block] at this | exact this) GW789.out)) | (show (Addr.add _ _).block ≠ _; rw [add_block]; exact Nat.ne_of_lt (Nat.lt_of_lt_of_le (by have := bq _ _ hw781_2; first | rwa [add_block] at this | exact this) GW789.out)) | (dsimp only; exact Nat.ne_of_lt (Nat.lt_of_lt_of_le (by have := bq _ _ hw781_2; first | rwa [add_block] at this | exact this) GW789.out))) _).trans (((cf (p := ⟨gb789, _, none⟩) (by first | exact Nat.ne_of_lt (Nat.lt_of_lt_of_le (by have := bq _ _ hw781_2; first | rwa [add_block] at this | exact this) GW789.out) | (rw [add_block]; exact Nat.ne_of_lt (Nat.lt_of_lt_of_le (by have := bq _ _ hw781_2; first | rwa [add_block] at this | exact this) GW789.out)) | (show (Addr.add _ _).block ≠ _; rw [add_block]; exact Nat.ne_of_lt (Nat.lt_of_lt_of_le (by have := bq _ _ hw781_2; first | rwa [add_block] at this | exact this) GW789.out)) | (dsimp only; exact Nat.ne_of_lt (Nat.lt_of_lt_of_le (by have := bq _ _ hw781_2; first | rwa [add_block] at this | exact this) GW789.out))) _).trans (((cf (p := ⟨gb789, _, none⟩) (by first | exact Nat.ne_of_lt (Nat.lt_of_lt_of_le (by have := bq _ _ hw781_2; first | rwa [add_block] at this | exact this) GW789.out) | (rw [add_block]; exact Nat.ne_of_lt (Nat.lt_of_lt_of_le (by have := bq _ _ hw781_2; first | rwa [add_block] at this | exact this) GW789.out)) | (show (Addr.add _ _).block ≠ _; rw [add_block]; exact Nat.ne_of_lt (Nat.lt_of_lt_of_le (by have := bq _ _ hw781_2; first | rwa [add_block] at this | exact this) GW789.out)) | (dsimp only; exact Nat.ne_of_lt (Nat.lt_of_lt_of_le (by have := bq _ _ hw781_2; first | rwa [add_block] at this | exact this) GW789.out))) _).trans (((cf (p := ⟨gb789, _, none⟩) (by first | exact Nat.ne_of_lt (Nat.lt_of_lt_of_le (by have := bq _ _ hw781_2; first | rwa [add_block] at this | exact this) GW789.out) | (rw [add_block]; exact Nat.ne_of_lt (Nat.lt_of_lt_of_le (by have := bq _ _ hw781_2; first | rwa [add_block] at this | exact this) GW789.out)) | (show (Addr.add _ _).block ≠ _; rw [add_block]; exact Nat.ne_of_lt (Nat.lt_of_lt_of_le (by have := bq _ _ hw781_2; first | rwa [add_block] at this | exact this) GW789.out)) | (dsimp only; exact Nat.ne_of_lt (Nat.lt_of_lt_of_le (by have := bq _ _ hw781_2; first | rwa [add_block] at this | exact this) GW789.out))) _).trans (((cf (p := ⟨gb789, _, none⟩) (by first | exact Nat.ne_of_lt (Nat.lt_of_lt_of_le (by have := bq _ _ hw781_2; first | rwa [add_block] at this | exact this) GW789.out) | (rw [add_block]; exact Nat.ne_of_lt (Nat.lt_of_lt_of_le (by have := bq _ _ hw781_2; first | rwa [add_block] at this | exact this) GW789.out)) | (show (Addr.add _ _).block ≠ _; rw [add_block]; exact Nat.ne_of_lt (Nat.lt_of_lt_of_le (by have := bq _ _ hw781_2; first | rwa [add_block] at this | exact this) GW789.out)) | (dsimp only; exact Nat.ne_of_lt (Nat.lt_of_lt_of_le (by have := bq _ _ hw781_2; first | rwa [add_block] at this | exact this) GW789.out))) _).trans (((cf (p := ⟨gb789, _, none⟩) (by first | exact Nat.ne_of_lt (Nat.lt_of_lt_of_le (by have := bq _ _ hw781_2; first | rwa [add_block] at this | exact this) GW789.out) | (rw [add_block]; exact Nat.ne_of_lt (Nat.lt_of_lt_of_le (by have := bq _ _ hw781_2; first | rwa [add_block] at this | exact this) GW789.out)) | (show (Addr.add _ _).block ≠ _; rw [add_block]; exact Nat.ne_of_lt (Nat.lt_of_lt_of_le (by have := bq _ _ hw781_2; first | rwa [add_block] at this | exact this) GW789.out)) | (dsimp only; exact Nat.ne_of_lt (Nat.lt_of_lt_of_le (by have := bq _ _ hw781_2; first | rwa [add_block] at this | exact this) GW789.out))) _).trans (hHeld.2.2.2.2.2.2.2.2.1)))))))))))), ((cf (p := ⟨gb789, _, none⟩) (by first | exact Nat.ne_of_lt (Nat.lt_of_lt_of_le (by have := bq _ _ hw781_3; first | rwa [add_block] at this | exact this) GW789.out) | (rw [add_block]; exact Nat.ne_of_lt (Nat.lt_of_lt_of_le (by have := bq _ _ hw781_3; first | rwa [add_block] at this | exact this) GW789.out)) | (show (Addr.add _ _).block ≠ _; rw [add_block]; exact Nat.ne_of_lt (Nat.lt_of_lt_of_le (by have := bq _ _ hw781_3; first | rwa [add_block] at this | exact this) GW789.out)) | (dsimp only; exact Nat.ne_of_lt (Nat.lt_of_lt_of_le (by have := bq _ _ hw781_3; first | rwa [add_block] at this | exact this) GW789.out))) _).trans (((cf (p := ⟨gb789, _, none⟩) (by first | exact Nat.ne_of_lt (Nat.lt_of_lt_of_le (by have := bq _ _ hw781_3; first | rwa [add_block] at this | exact this) GW789.out) | (rw [add_block]; exact Nat.ne_of_lt (Nat.lt_of_lt_of_le (by have := bq _ _ hw781_3; first | rwa [add_block] at this | exact this) GW789.out)) | (show (Addr.add _ _).block ≠ _; rw [add_block]; exact Nat.ne_of_lt (Nat.lt_of_lt_of_le (by have := bq _ _ hw781_3; first | rwa [add_block] at this | exact this) GW789.out)) | (dsimp only; exact Nat.ne_of_lt (Nat.lt_of_lt_of_le (by have := bq _ _ hw781_3; first | rwa [add_block] at this | exact this) GW789.out))) _).trans (((cf (p := ⟨gb789, _, none⟩) (by first | exact Nat.ne_of_lt (Nat.lt_of_lt_of_le (by have := bq _ _ hw781_3; first | rwa [add_block] at this | exact this) GW789.out) | (rw [add_block]; exact Nat.ne_of_lt (Nat.lt_of_lt_of_le (by have := bq _ _ hw781_3; first | rwa [add_block] at this | exact this) GW789.out)) | (show (Addr.add _ _).block ≠ _; rw [add_block]; exact Nat.ne_of_lt (Nat.lt_of_lt_of_le (by have := bq _ _ hw781_3; first | rwa [add_block] at this | exact this) GW789.out)) | (dsimp only; exact Nat.ne_of_lt (Nat.lt_of_lt_of_le (by have := bq _ _ hw781_3; first | rwa [add_block] at this | exact this) GW789.out))) _).trans (((cf (p := ⟨gb789, _, none⟩) (by first | exact Nat.ne_of_lt (Nat.lt_of_lt_of_le (by have := bq _ _ hw781_3; first | rwa [add_block] at this | exact this) GW789.out) | (rw [add_block]; exact Nat.ne_of_lt (Nat.lt_of_lt_of_le (by have := bq _ _ hw781_3; first | rwa [add_block] at this | exact this) GW789.out)) | (show (Addr.add _ _).block ≠ _; rw [add_block]; exact Nat.ne_of_lt (Nat.lt_of_lt_of_le (by have := bq _ _ hw781_3; first | rwa [add_block] at this | exact this) GW789.out)) | (dsimp only; exact Nat.ne_of_lt (Nat.lt_of_lt_of_le (by have := bq _ _ hw781_3; first | rwa [add_block] at this | exact this) GW789.out))) _).trans (((cf (p := ⟨gb789, _, none⟩) (by first | exact Nat.ne_of_lt (Nat.lt_of_lt_of_le (by have := bq _ _ hw781_3; first | rwa [add_block] at this | exact this) GW789.out) | (rw [add_block]; exact Nat.ne_of_lt (Nat.lt_of_lt_of_le (by have := bq _ _ hw781_3; first | rwa [add_block] at this | exact this) GW789.out)) | (show (Addr.add _ _).block ≠ _; rw [add_block]; exact Nat.ne_of_lt (Nat.lt_of_lt_of_le (by have := bq _ _ hw781_3; first | rwa [add_block] at this | exact this) GW789.out)) | (dsimp only; exact Nat.ne_of_lt (Nat.lt_of_lt_of_le (by have := bq _ _ hw781_3; first | rwa [add_block] at this | exact this) GW789.out))) _).trans (((cf (p := ⟨gb789, _, none⟩) (by first | exact Nat.ne_of_lt (Nat.lt_of_lt_of_le (by have := bq _ _ hw781_3; first | rwa [add_block] at this | exact this) GW789.out) | (rw [add_block]; exact Nat.ne_of_lt (Nat.lt_of_lt_of_le (by have := bq _ _ hw781_3; first | rwa [add_block] at this | exact this) GW789.out)) | (show (Addr.add _ _).block ≠ _; rw [add_block]; exact Nat.ne_of_lt (Nat.lt_of_lt_of_le (by have := bq _ _ hw781_3; first | rwa [add_block] at this | exact this) GW789.out)) | (dsimp only; exact Nat.ne_of_lt (Nat.lt_of_lt_of_le (by have := bq _ _ hw781_3; first | rwa [add_block] at this | exact this) GW789.out))) _).trans (hHeld.2.2.2.2.2.2.2.2.2.1)))))))))))), ((cf (p := ⟨gb789, _, none⟩) (by first | exact Nat.ne_of_lt (Nat.lt_of_lt_of_le (by have := bq _ _ hw781_4; first | rwa [add_block] at this | exact this) GW789.out) | (rw [add_block]; exact Nat.ne_of_lt (Nat.lt_of_lt_of_le (by have := bq _ _ hw781_4; first | rwa [add_block] at this | exact this) GW789.out)) | (show (Addr.add _ _).block ≠ _; rw [add_block]; exact Nat.ne_of_lt (Nat.lt_of_lt_of_le (by have := bq _ _ hw781_4; first | rwa [add_block] at this | exact this) GW789.out)) | (dsimp only; exact Nat.ne_of_lt (Nat.lt_of_lt_of_le (by have := bq _ _ hw781_4; first | rwa [add_block] at this | exact this) GW789.out))) _).trans (((cf (p := ⟨gb789, _, none⟩) (by first | exact Nat.ne_of_lt (Nat.lt_of_lt_of_le (by have := bq _ _ hw781_4; first | rwa [add_block] at this | exact this) GW789.out) | (rw [add_block]; exact Nat.ne_of_lt (Nat.lt_of_lt_of_le (by have := bq _ _ hw781_4; first | rwa [add_block] at this | exact this) GW789.out)) | (show (Addr.add _ _).block ≠ _; rw [add_block]; exact Nat.ne_of_lt (Nat.lt_of_lt_of_le (by have := bq _ _ hw781_4; first | rwa [add_block] at this | exact this) GW789.out)) | (dsimp only; exact Nat.ne_of_lt (Nat.lt_of_lt_of_le (by have := bq _ _ hw781_4; first | rwa [add_block] at this | exact this) GW789.out))) _).trans (((cf (p := ⟨gb789, _, none⟩) (by first | exact Nat.ne_of_lt (Nat.lt_of_lt_of_le (by have := bq _ _ hw781_4; first | rwa [add_block] at this | exact this) GW789.out) | (rw [add_block]; exact Nat.ne_of_lt (Nat.lt_of_lt_of_le (by have := bq _ _ hw781_4; first | rwa [add_block] at this | exact this) GW789.out)) | (show (Addr.add _ _).block ≠ _; rw [add_block]; exact Nat.ne_of_lt (Nat.lt_of_lt_of_le (by have := bq _ _ hw781_4; first | rwa [add_block] at this | exact this) GW789.out)) | (dsimp only; exact Nat.ne_of_lt (Nat.lt_of_lt_of_le (by have := bq _ _ hw781_4; first | rwa [add_block] at this | exact this) GW789.out))) _).trans (((cf (p := ⟨gb789, _, none⟩) (by first | exact Nat.ne_of_lt (Nat.lt_of_lt_of_le (by have := bq _ _ hw781_4; first | rwa [add_block] at this | exact this) GW789.out) | (rw [add_block]; exact Nat.ne_of_lt (Nat.lt_of_lt_of_le (by have := bq _ _ hw781_4; first | rwa [add_block] at this | exact this) GW789.out)) | (show (Addr.add _ _).block ≠ _; rw [add_block]; exact Nat.ne_of_lt (Nat.lt_of_lt_of_le (by have := bq _ _ hw781_4; first | rwa [add_block] at this | exact this) GW789.out)) | (dsimp only; exact Nat.ne_of_lt (Nat.lt_of_lt_of_le (by have := bq _ _ hw781_4; first | rwa [add_block] at this | exact this) GW789.out))) _).trans (((cf (p := ⟨gb789, _, none⟩) (by first | exact Nat.ne_of_lt (Nat.lt_of_lt_of_le (by have := bq _ _ hw781_4; first | rwa [add_block] at this | exact this) GW789.out) | (rw [add_block]; exact Nat.ne_of_lt (Nat.lt_of_lt_of_le (by have := bq _ _ hw781_4; first | rwa [add_block] at this | exact this) GW789.out)) | (show (Addr.add _ _).block ≠ _; rw [add_block]; exact Nat.ne_of_lt (Nat.lt_of_lt_of_le (by have := bq _ _ hw781_4; first | rwa [add_block] at this | exact this) GW789.out)) | (dsimp only; exact Nat.ne_of_lt (Nat.lt_of_lt_of_le (by have := bq _ _ hw781_4; first | rwa [add_block] at this | exact this) GW789.out))) _).trans (((cf (p := ⟨gb789, _, none⟩) (by first | exact Nat.ne_of_lt (Nat.lt_of_lt_of_le (by have := bq _ _ hw781_4; first | rwa [add_block] at this | exact this) GW789.out) | (rw [add_block]; exact Nat.ne_of_lt (Nat.lt_of_lt_of_le (by have := bq _ _ hw781_4; first | rwa [add_block] at this | exact this) GW789.out)) | (show (Addr.add _ _).block ≠ _; rw [add_block]; exact Nat.ne_of_lt (Nat.lt_of_lt_of_le (by have := bq _ _ hw781_4; first | rwa [add_block] at this | exact this) GW789.out)) | (dsimp only; exact Nat.ne_of_lt (Nat.lt_of_lt_of_le (by have := bq _ _ hw781_4; first | rwa [add_block] at this | exact this) GW789.out))) _).trans (hHeld.2.2.2.2.2.2.2.2.2.2.1)))))))))))), ((cf (p := ⟨gb789, _, none⟩) (by first | exact Nat.ne_of_lt (Nat.lt_of_lt_of_le (by have := bq _ _ hw781_5; first | rwa [add_block] at this | exact this) GW789.out) | (rw [add_block]; exact Nat.ne_of_lt (Nat.lt_of_lt_of_le (by have := bq _ _ hw781_5; first | rwa [add_block] at this | exact this) GW789.out)) | (show (Addr.add _ _).block ≠ _; rw [add_block]; exact Nat.ne_of_lt (Nat.lt_of_lt_of_le (by have := bq _ _ hw781_5; first | rwa [add_block] at this | exact this) GW789.out)) | (dsimp only; exact Nat.ne_of_lt (Nat.lt_of_lt_of_le (by have := bq _ _ hw781_5; first | rwa [add_block] at this | exact this) GW789.out))) _).trans (((cf (p := ⟨gb789, _, none⟩) (by first | exact Nat.ne_of_lt (Nat.lt_of_lt_of_le (by have := bq _ _ hw781_5; first | rwa [add_block] at this | exact this) GW789.out) | (rw [add_block]; exact Nat.ne_of_lt (Nat.lt_of_lt_of_le (by have := bq _ _ hw781_5; first | rwa [add_block] at this | exact this) GW789.out)) | (show (Addr.add _ _).block ≠ _; rw [add_block]; exact Nat.ne_of_lt (Nat.lt_of_lt_of_le (by have := bq _ _ hw781_5; first | rwa [add_block] at this | exact this) GW789.out)) | (dsimp only; exact Nat.ne_of_lt (Nat.lt_of_lt_of_le (by have := bq _ _ hw781_5; first | rwa [add_block] at this | exact this) GW789.out))) _).trans (((cf (p := ⟨gb789, _, none⟩) (by first | exact Nat.ne_of_lt (Nat.lt_of_lt_of_le (by have := bq _ _ hw781_5; first | rwa [add_block] at this | exact this) GW789.out) | (rw [add_block]; exact Nat.ne_of_lt (Nat.lt_of_lt_of_le (by have := bq _ _ hw781_5; first | rwa [add_block] at this | exact this) GW789.out)) | (show (Addr.add _ _).block ≠ _; rw [add_block]; exact Nat.ne_of_lt (Nat.lt_of_lt_of_le (by have := bq _ _ hw781_5; first | rwa [add_block] at this | exact this) GW789.out)) | (dsimp only; exact Nat.ne_of_lt (Nat.lt_of_lt_of_le (by have := bq _ _ hw781_5; first | rwa [add_block] at this | exact this) GW789.out))) _).trans (((cf (p := ⟨gb789, _, none⟩) (by first | exact Nat.ne_of_lt (Nat.lt_of_lt_of_le (by have := bq _ _ hw781_5; first | rwa [add_block] at this | exact this) GW789.out) | (rw [add_block]; exact Nat.ne_of_lt (Nat.lt_of_lt_of_le (by have := bq _ _ hw781_5; first | rwa [add_block] at this | exact this) GW789.out)) | (show (Addr.add _ _).block ≠ _; rw [add_block]; exact Nat.ne_of_lt (Nat.lt_of_lt_of_le (by have := bq _ _ hw781_5; first | rwa [add_block] at this | exact this) GW789.out)) | (dsimp only; exact Nat.ne_of_lt (Nat.lt_of_lt_of_le (by have := bq _ _ hw781_5; first | rwa [add_block] at this | exact this) GW789.out))) _).trans (((cf (p := ⟨gb789, _, none⟩) (by first | exact Nat.ne_of_lt (Nat.lt_of_lt_of_le (by have := bq _ _ hw781_5; first | rwa [add_block] at this | exact this) GW789.out) | (rw [add_block]; exact Nat.ne_of_lt (Nat.lt_of_lt_of_le (by have := bq _ _ hw781_5; first | rwa [add_block] at this | exact this) GW789.out)) | (show (Addr.add _ _).block ≠ _; rw [add_block]; exact Nat.ne_of_lt (Nat.lt_of_lt_of_le (by have := bq _ _ hw781_5; first | rwa [add_block] at this | exact this) GW789.out)) | (dsimp only; exact Nat.ne_of_lt (Nat.lt_of_lt_of_le (by have := bq _ _ hw781_5; first | rwa [add_block] at this | exact this) GW789.out))) _).trans (((cf (p := ⟨gb789, _, none⟩) (by first | exact Nat.ne_of_lt (Nat.lt_of_lt_of_le (by have := bq _ _ hw781_5; first | rwa [add_block] at this | exact this) GW789.out) | (rw [add_block]; exact Nat.ne_of_lt (Nat.lt_of_lt_of_le (by have := bq _ _ hw781_5; first | rwa [add_block] at this | exact this) GW789.out)) | (show (Addr.add _ _).block ≠ _; rw [add_block]; exact Nat.ne_of_lt (Nat.lt_of_lt_of_le (by have := bq _ _ hw781_5; first | rwa [add_block] at this | exact this) GW789.out)) | (dsimp only; exact Nat.ne_of_lt (Nat.lt_of_lt_of_le (by have := bq _ _ hw781_5; first | rwa [add_block] at this | exact this) GW789.out))) _).trans (hHeld.2.2.2.2.2.2.2.2.2.2.2))))))))))))⟩ (fun hHeld => ?_)
            clear hK K
            refine pu (i := 11) (N := some 22) (fl 12 12 []) HT_ ?_
            refine done_ (done_of HT_.out (by kernel_rfl)) ?_
            have hnb83 := NB789_755.out
            have hnc83 := NB755_789.out
            have hnb84 := NB789_756.out
            have hnc84 := NB756_789.out
            have hnb85 := NB789_776.out
            have hnc85 := NB776_789.out
            have := yC1 BK789
            have hcz86_1 := kC1 BK789
            have hcz86_2 := kC2 BK789
            have hcz86_3 := kC3 BK789
            have hcz86_4 := kC4 BK789
            have hcz86_5 := kC5 BK789
            have hfz86_0 := bf BK789.out 0
            have hfz86_1 := bf BK789.out 1
            have hfz86_2 := bf BK789.out 2
            have hfz86_3 := bf BK789.out 3
            have hfz86_4 := bf BK789.out 4
            have hfz86_5 := bf BK789.out 5
            try go_wp2_with (first | ((with_reducible refine gate_builtin (b := .append) (xs := #[.tmp 129, .tmp 131]) rfl ?_); at_builtin; refine Kd.R_append k25 (w0 := w) w.heap.size rfl (.tmp 129) (.tmp 131) 26 25 (.agg #[(.int .i64 0), (.int .i64 0), (.int .i64 0), (.int .i64 0), (.int .i64 0), (.int .i64 0)]) 48 rfl Try.underlying26 info25 rfl (by decide) (by omega) u19 x19_5 (⟨(⟨t782, t783, t784⟩ : S23), (⟨t785, t786, t787⟩ : S23)⟩ : S25) [.int .i64 t782, .int .i64 t783, .int .i64 t784, .int .i64 t785, .int .i64 t786, .int .i64 t787] (fun k_ => k_ ≠ gb755 ∧ k_ ≠ gb756 ∧ k_ ≠ gb776 ∧ k_ ≠ gb789) (fun _ => False) rfl (by first | (go_simp; done) | (go_simp; rfl)) ?aP (fun _ hk => hk.elim) ?aF ?aO ?aB ?aS ?aL ?_; (case aP => exact k25_mkM _ _ _ (⟨(⟨t782, t783, t784⟩ : S23), (⟨t785, t786, t787⟩ : S23)⟩ : S25)); (case aB => exact (fW HB.out)); (case aF => exact (fun k_ hk => ⟨Kd.freshB (g := gb755) (o := .cells #[.int .i64 a0_0, .int .i64 a0_1, .int .i64 a0_2, .int .i64 a0_3, .int .i64 a0_4, .int .i64 a0_5] 25 (0, 0)) (kfC BK755.out) k_ hk, Kd.freshB (g := gb756) (o := .cells #[.int .i64 a1_0, .int .i64 a1_1, .int .i64 a1_2, .int .i64 a1_3, .int .i64 a1_4, .int .i64 a1_5] 25 (0, 0)) (kfC BK756.out) k_ hk, Kd.freshB (g := gb776) (o := .cells #[.int .i64 t769, .int .i64 t770, .int .i64 t771, .int .i64 t772, .int .i64 t773, .int .i64 t774] 25 (0, 0)) (kfC BK776.out) k_ hk, Kd.freshB (g := gb789) (o := .cells #[.int .i64 t782, .int .i64 t783, .int .i64 t784, .int .i64 t785, .int .i64 t786, .int .i64 t787] 25 (0, 0)) (kkC BK789.out) k_ hk⟩)); (case aO => exact (by (with_reducible repeat (first | apply Kd.R_alloc | apply Kd.R_drewN | apply Kd.R_drew)); exact Kd.R_mono (Kd.R_far (p := ⟨gb789, 5, none⟩) (Kd.R_far (p := ⟨gb789, 4, none⟩) (Kd.R_far (p := ⟨gb789, 3, none⟩) (Kd.R_far (p := ⟨gb789, 2, none⟩) (Kd.R_far (p := ⟨gb789, 1, none⟩) (Kd.R_far (p := ⟨gb789, 0, none⟩) (Kd.R_mono HO_19.out (fun k_ hk => (⟨hk, hk.2.2.2⟩ : _ ∧ k_ ≠ gb789))) (fun _ hk => hk.2) (.int .i64 t782)) (fun _ hk => hk.2) (.int .i64 t783)) (fun _ hk => hk.2) (.int .i64 t784)) (fun _ hk => hk.2) (.int .i64 t785)) (fun _ hk => hk.2) (.int .i64 t786)) (fun _ hk => hk.2) (.int .i64 t787)) (fun _ hk => ⟨hk.1.1, ⟨hk.1.2.1, ⟨hk.1.2.2.1, hk.1.2.2.2⟩⟩⟩))); (case aS => exact (wz (fW HB.out))); (case aL => have := LMc71.out; omega); intro v791 w87 ho hb hg hat; rw [← Ny790.out] at ho; replace BK755 := am (blk_grown (g := gb755) (o := .cells #[.int .i64 a0_0, .int .i64 a0_1, .int .i64 a0_2, .int .i64 a0_3, .int .i64 a0_4, .int .i64 a0_5] 25 (0, 0)) (kfC BK755.out) hg (Kd.R_away HO_19.out (fun _ hk => hk.1))); replace BK756 := am (blk_grown (g := gb756) (o := .cells #[.int .i64 a1_0, .int .i64 a1_1, .int .i64 a1_2, .int .i64 a1_3, .int .i64 a1_4, .int .i64 a1_5] 25 (0, 0)) (kfC BK756.out) hg (Kd.R_away HO_19.out (fun _ hk => hk.2.1))); replace BK776 := am (blk_grown (g := gb776) (o := .cells #[.int .i64 t769, .int .i64 t770, .int .i64 t771, .int .i64 t772, .int .i64 t773, .int .i64 t774] 25 (0, 0)) (kfC BK776.out) hg (Kd.R_away HO_19.out (fun _ hk => hk.2.2.1))); replace BK789 := am (blk_grown (g := gb789) (o := .cells #[.int .i64 t782, .int .i64 t783, .int .i64 t784, .int .i64 t785, .int .i64 t786, .int .i64 t787] 25 (0, 0)) (kkC BK789.out) hg (Kd.R_away HO_19.out (fun _ hk => hk.2.2.2))); replace HB := am (hb); have HO792 := am (ho); clear HO_19 ho hb hg hat))
            go_roundg k5
            case measure => have := HJ5.out; have := HK2.out; have := HJ39.out; have := HJ60.out; have := HK5.out; omega
            case rel => exact ⟨(y790), (wrap64 (x20_5 + 1)), (by first | rfl | (simp; done) | (simp [*]; done)), H', ⟨by have := HJ5.out; have := HK2.out; have := HJ39.out; have := HJ60.out; have := HK5.out; omega⟩, ⟨by (with_reducible repeat (first | apply Kd.R_alloc | apply Kd.R_drewN | apply Kd.R_drew)); exact Kd.R_mono HO792.out (fun _ hk => ⟨hk.1, ⟨hk.2.1, hk.2.2.1⟩⟩)⟩, ⟨by (with_reducible repeat first | apply bN | apply bd | apply ba); exact BK755.out⟩, ⟨by (with_reducible repeat first | apply bN | apply bd | apply ba); exact BK756.out⟩, ⟨by (with_reducible repeat first | apply bN | apply bd | apply ba); exact BK776.out⟩, ⟨by repeat (first | (with_reducible first | exact HB.out | apply wa | apply wN | apply wd | refine ws ?_ GE755.out | refine ws ?_ GE756.out | refine ws ?_ GE776.out | refine ws ?_ GE789.out) | exact HB.out)⟩⟩
 ·replace c5 := Bool.eq_false_iff.mpr c5
  subst c5
  have H1 : (some false) = some r := by rw [if_neg (show ¬ (false = true) by decide)] at H; exact H
  clear H
  have H := H1
  clear H1
  obtain rfl := Option.some.inj H
  go_enter Try.func10, Try.ntmps10
  go_wp2_with (first | ((with_reducible refine gate_dst (N := 3) rfl ?_); refine box_event ?hg (N := 3) ?hd (cs := #[.int .i64 a0_0, .int .i64 a0_1, .int .i64 a0_2, .int .i64 a0_3, .int .i64 a0_4, .int .i64 a0_5]) (t := 25) ?hr ?_; (case hd | hg => rfl); (case hr => first | (go_simp; done) | (go_simp; rfl)); intro gb755 hg w171 hbox hb; have BK755 := am hbox; have GW755 := sG HB hg; have GE755 := sG HB hg; replace HB := bS HB hb; clear hb hbox hg) | ((with_reducible refine gate_dst (N := 4) rfl ?_); refine box_event ?hg (N := 4) ?hd (cs := #[.int .i64 a1_0, .int .i64 a1_1, .int .i64 a1_2, .int .i64 a1_3, .int .i64 a1_4, .int .i64 a1_5]) (t := 25) ?hr ?_; (case hd | hg => rfl); (case hr => first | (go_simp; done) | (go_simp; rfl)); intro gb756 hg w172 hbox hb; have BK756 := am hbox; have GW756 := sG HB hg; have GE756 := sG HB hg; replace HB := bS HB hb; have NB755_756 := nL BK755 hg; have NB756_755 := nG BK755 hg; replace BK755 := bB BK755 hb; clear hb hbox hg) | ((with_reducible refine gc (f := 11) rfl ?_); refine goesL_ (some 32) rfl rfl Try.func11 (by kernel_rfl) rfl #[] rfl (by (try simp only [pml]); first | done | rfl | (simp only [pdt]; rfl)) ?_; (with_reducible refine (w_awake.calls  false _ A4.out).mono ?_); rintro e w173 ⟨rfl, hb⟩; refine ⟨_, rfl, ?_⟩; replace BK755 := bB BK755 hb; replace BK756 := bB BK756 hb; replace HB := bS HB hb; (try clear hb); (try clear hb2); (try clear hk); (try clear hi)))
  go_ret
  exact ⟨by first | rfl | (simp [errW_none, errW_some] <;> rfl) | (simp [*, errW_none, errW_some] <;> rfl), by repeat (first | (with_reducible first | exact HB.out | apply wa | apply wN | apply wd | refine ws ?_ GE755.out | refine ws ?_ GE756.out) | exact HB.out)⟩

def w_BoxVolumes.Pure : Prop := ∀ (a0_0 : Int) (a0_1 : Int) (a0_2 : Int) (a0_3 : Int) (a0_4 : Int) (a0_5 : Int) (a1_0 : Int) (a1_1 : Int) (a1_2 : Int) (a1_3 : Int) (a1_4 : Int) (a1_5 : Int) (l2 : List (S25)), ((Lit.int .i64 a0_0).wf = true) → ((Lit.int .i64 a0_1).wf = true) → ((Lit.int .i64 a0_2).wf = true) → ((Lit.int .i64 a0_3).wf = true) → ((Lit.int .i64 a0_4).wf = true) → ((Lit.int .i64 a0_5).wf = true) → ((Lit.int .i64 a1_0).wf = true) → ((Lit.int .i64 a1_1).wf = true) → ((Lit.int .i64 a1_2).wf = true) → ((Lit.int .i64 a1_3).wf = true) → ((Lit.int .i64 a1_4).wf = true) → ((Lit.int .i64 a1_5).wf = true) → (l2.length ≤ maxLen ∧ ∀ e4_, e4_ ∈ l2 → okS25 e4_) → ∃ k, w_BoxVolumes.f k a0_0 a0_1 a0_2 a0_3 a0_4 a0_5 a1_0 a1_1 a1_2 a1_3 a1_4 a1_5 l2 = some true
theorem w_BoxVolumes.walk (P_ : w_BoxVolumes.Pure) (a0_0 : Int) (a0_1 : Int) (a0_2 : Int) (a0_3 : Int) (a0_4 : Int) (a0_5 : Int) (a1_0 : Int) (a1_1 : Int) (a1_2 : Int) (a1_3 : Int) (a1_4 : Int) (a1_5 : Int) (A2 : Option Addr) (c2 : Nat) (l2 : List (S25)) (w : World) (hr2 : Kd.C k25 w A2 l2.length l2) (hc2 : l2.length ≤ c2) (o0 : ((Lit.int .i64 a0_0).wf = true)) (o1 : ((Lit.int .i64 a0_1).wf = true)) (o2 : ((Lit.int .i64 a0_2).wf = true)) (o3 : ((Lit.int .i64 a0_3).wf = true)) (o4 : ((Lit.int .i64 a0_4).wf = true)) (o5 : ((Lit.int .i64 a0_5).wf = true)) (o6 : ((Lit.int .i64 a1_0).wf = true)) (o7 : ((Lit.int .i64 a1_1).wf = true)) (o8 : ((Lit.int .i64 a1_2).wf = true)) (o9 : ((Lit.int .i64 a1_3).wf = true)) (o10 : ((Lit.int .i64 a1_4).wf = true)) (o11 : ((Lit.int .i64 a1_5).wf = true)) (o12 : (l2.length ≤ maxLen ∧ ∀ e4_, e4_ ∈ l2 → okS25 e4_)) :
  Calls Try.prog 10 #[.agg #[.int .i64 a0_0, .int .i64 a0_1, .int .i64 a0_2, .int .i64 a0_3, .int .i64 a0_4, .int .i64 a0_5], .agg #[.int .i64 a1_0, .int .i64 a1_1, .int .i64 a1_2, .int .i64 a1_3, .int .i64 a1_4, .int .i64 a1_5], .slice A2 l2.length c2] w fun e w' => e = .returned (.bool true) ∧ Below w.heap.size w w' := by
 obtain ⟨k, h⟩ := P_ a0_0 a0_1 a0_2 a0_3 a0_4 a0_5 a1_0 a1_1 a1_2 a1_3 a1_4 a1_5 l2 o0 o1 o2 o3 o4 o5 o6 o7 o8 o9 o10 o11 o12
 refine (w_BoxVolumes.calls k a0_0 a0_1 a0_2 a0_3 a0_4 a0_5 a1_0 a1_1 a1_2 a1_3 a1_4 a1_5 A2 c2 l2 true w hr2 hc2 h).mono ?_
 rintro e w' ⟨rfl, hd⟩
 exact ⟨rfl, hd⟩

end Go.Proofs.Ytmmdikhmlmoolaa.QA
