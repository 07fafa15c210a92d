import Derived.Test.YtmmdikhmlmoolaaZQAx0
import Derived.Test.YtmmdikhmlmoolaaZQAx2
import Derived.Test.YtmmdikhmlmoolaaZRegInv
import Derived.LoopN
import Derived.StillTailTactics
namespace Go.Proofs.Ytmmdikhmlmoolaa.QA
open Go.RowKit Go.Proofs.YtmmdikhmlmoolaaW.PrintWords Go.Proofs.YtmmdikhmlmoolaaW.PrintLast Go.Proofs.YtmmdikhmlmoolaaW.PrintMore
open Go.Proofs.YtmmdikhmlmoolaaW.PrintWords renaming blk_drew → bd, blk_alloc → ba, below_alloc → wa, below_drew1 → wd, blk_below → bb, gate_dst → gd, gate_callee → gc, box_event → be
open Aside0 renaming mk → am
attribute [local go_sem] max2_int min2_int max_two min_two max_three min_three max_four min_four
set_option linter.unusedVariables false
set_option linter.unusedSimpArgs false

attribute [local go_sem high] eqA25
def w_boxOf.f (a0 : Int) (a1 : Int) (a2 : Int) (a3 : Int) (a4 : Int) (a5 : Int) : Option (Int × Int × Int × Int × Int × Int) := some (a0, a1, a2, a3, a4, a5)
set_option maxHeartbeats 8000000 in
set_option maxRecDepth 100000 in
theorem w_boxOf.calls (a0 : Int) (a1 : Int) (a2 : Int) (a3 : Int) (a4 : Int) (a5 : Int) (r1 : Int) (r2 : Int) (r3 : Int) (r4 : Int) (r5 : Int) (r6 : Int) (w : World) (h : w_boxOf.f a0 a1 a2 a3 a4 a5 = some (r1, r2, r3, r4, r5, r6)) :
  Calls Try.prog 47 #[.int .i64 a0, .int .i64 a1, .int .i64 a2, .int .i64 a3, .int .i64 a4, .int .i64 a5] w fun e w' => e = .returned (.agg #[.int .i64 r1, .int .i64 r2, .int .i64 r3, .int .i64 r4, .int .i64 r5, .int .i64 r6]) ∧ Below w.heap.size w w' := by
 have hu25 := Try.underlying25
 have hu23 := Try.underlying23
 have HB := am (Below.refl w.heap.size w)
 have H : (some (a0, a1, a2, a3, a4, a5)) = some (r1, r2, r3, r4, r5, r6) := h
 clear h
 simp only [Option.some.injEq, Prod.mk.injEq] at H
 obtain ⟨rfl, rfl, rfl, rfl, rfl, rfl⟩ := H
 go_enter Try.func47, Try.ntmps47
 go_wp2_with (first | ((with_reducible refine gd (N := 12) rfl ?_); refine be ?hg (N := 12) ?hd (cs := #[.int .i64 0, .int .i64 0, .int .i64 0, .int .i64 0, .int .i64 0, .int .i64 0]) (t := 25) ?hr ?_; (case hd | hg => rfl); (case hr => first | (go_simp; done) | (go_simp; rfl)); intro gb101 hg w7 hbox hb; have BK101 := am hbox; have GW101 := sG HB hg; have GE101 := sG HB hg; replace HB := bS HB hb; clear hb hbox hg; obtain ⟨_, _, _, _, _, _, _, _, _, _, _, _⟩ := zC6 BK101))
 refine bodyPost_ret (results_cell_row rfl _ _ gb101 25 #[.int .i64 a0, .int .i64 a1, .int .i64 a2, .int .i64 a3, .int .i64 a4, .int .i64 a5] (0, 0) _ rfl (kkC BK101.out) Try.underlying25 rfl (by kernel_rfl)) rfl ?_
 exact ⟨sqE, fW HB.out⟩

def r_Same.l0 : Nat → List (S25) → List (S25) → Int → Option (Bool)
 | 0, _, _, _ => none
 | k + 1, x0, x1, x5 => if x5 < (x0.length : Int) then (if 0 ≤ x5 then (if x5 < (x1.length : Int) then (if ((!(((rd_T25 x0 x5).f0.f0) == ((rd_T25 x1 x5).f0.f0)) || (!(((rd_T25 x0 x5).f0.f1) == ((rd_T25 x1 x5).f0.f1)) || (!(((rd_T25 x0 x5).f0.f2) == ((rd_T25 x1 x5).f0.f2))))) || ((!(((rd_T25 x0 x5).f1.f0) == ((rd_T25 x1 x5).f1.f0)) || (!(((rd_T25 x0 x5).f1.f1) == ((rd_T25 x1 x5).f1.f1)) || (!(((rd_T25 x0 x5).f1.f2) == ((rd_T25 x1 x5).f1.f2))))))) = true then (some false) else (r_Same.l0 k x0 x1 (wrap64 (x5 + 1)))) else (none)) else (none)) else (some true)
def r_Same.f (k : Nat) (l0 : List (S25)) (l1 : List (S25)) : Option (Bool) := if (l0.length : Int) = (l1.length : Int) then (r_Same.l0 k l0 l1 0) else (some false)
set_option maxHeartbeats 8000000 in
set_option maxRecDepth 100000 in
theorem r_Same.calls (k : Nat) (A0 : Option Addr) (c0 : Nat) (l0 : List (S25)) (A1 : Option Addr) (c1 : Nat) (l1 : List (S25)) (r : Bool) (w : World) (hr0 : Kd.C k25 w A0 l0.length l0) (hc0 : l0.length ≤ c0) (hr1 : Kd.C k25 w A1 l1.length l1) (hc1 : l1.length ≤ c1) (h : r_Same.f k l0 l1 = some r) :
  Calls Try.prog 36 #[.slice A0 l0.length c0, .slice A1 l1.length c1] w fun e w' => e = .returned (.bool r) ∧ Drawn0 w w' := by
 have hu25 := Try.underlying25
 have HR0 := am hr0
 have HC0 := am hc0
 clear hr0 hc0
 have HR1 := am hr1
 have HC1 := am hc1
 clear hr1 hc1
 have H : (if (l0.length : Int) = (l1.length : Int) then (r_Same.l0 k l0 l1 0) else (some false)) = some r := h
 clear h
 by_cases c3 : (l0.length : Int) = (l1.length : Int)
 ·rw [if_pos c3] at H
  have c3b0 : ((l0.length : Int) == (l1.length : Int)) = true := beq_iff_eq.mpr c3
  have c3b1 : ((l0.length : Int) != (l1.length : Int)) = false := bne_eq_false_iff_eq.mpr c3
  have c3b2 : (l0.length == l1.length) = true := by first | simpa using c3 | (simp at c3 ⊢; omega)
  clear c3
  have H' := am H
  clear H
  go_enter Try.func36, Try.ntmps36
  go_wp2
  repeat (go_quiet (fail); try go_wp2)
  go_loopg [5] k (fun kq v5 w' => ∃ (x5_1 : Int), v5 = .int .i64 x5_1 ∧ Aside0 (r_Same.l0 kq l0 l1 x5_1 = some r) ∧ Aside0 (kq ≤ k) ∧ Drawn0 w w')
  case atStart => exact ⟨(0), sqD, H', ⟨Nat.le_refl _⟩, by repeat (first | exact Drawn0.refl _ | apply Drawn0.step)⟩
  case round =>
   clear H'
   try clear c1;try clear p2;try clear c3;try clear c3b0;try clear c3b1;try clear c3b2
   obtain ⟨x5_1, rfl, HA, HK1, ⟨m1, rfl⟩⟩ := hrel
   cases gk with
   | zero => exact absurd HA.out (by simp [r_Same.l0])
   | succ k1 =>
    have H := HA.out
    clear HA
    simp only [r_Same.l0] at H
    by_cases c4 : x5_1 < (l0.length : Int)
    rotate_left
    ·rw [if_neg c4] at H
     have c4b0 : decide (x5_1 < (l0.length : Int)) = false := decide_eq_false c4
     clear c4
     obtain rfl := Option.some.inj H
     go_wp2
     repeat (go_quiet (fail); try go_wp2)
     go_ret
     exact ⟨by first | rfl | (simp; done) | (simp [*]; done), by repeat (first | exact Drawn0.refl _ | apply Drawn0.step)⟩
    rw [if_pos c4] at H
    have c4b0 : decide (x5_1 < (l0.length : Int)) = true := decide_eq_true c4
    clear c4
    by_cases c5 : 0 ≤ x5_1
    rotate_left
    ·rw [if_neg c5] at H
     exact absurd H (by simp)
    rw [if_pos c5] at H
    have c5b0 : decide (0 ≤ x5_1) = true := decide_eq_true c5
    clear c5
    by_cases c6 : x5_1 < (l1.length : Int)
    rotate_left
    ·rw [if_neg c6] at H
     exact absurd H (by simp)
    rw [if_pos c6] at H
    have c6b0 : decide (x5_1 < (l1.length : Int)) = true := decide_eq_true c6
    clear c6
    by_cases c7 : ((!(((rd_T25 l0 x5_1).f0.f0) == ((rd_T25 l1 x5_1).f0.f0)) || (!(((rd_T25 l0 x5_1).f0.f1) == ((rd_T25 l1 x5_1).f0.f1)) || (!(((rd_T25 l0 x5_1).f0.f2) == ((rd_T25 l1 x5_1).f0.f2))))) || ((!(((rd_T25 l0 x5_1).f1.f0) == ((rd_T25 l1 x5_1).f1.f0)) || (!(((rd_T25 l0 x5_1).f1.f1) == ((rd_T25 l1 x5_1).f1.f1)) || (!(((rd_T25 l0 x5_1).f1.f2) == ((rd_T25 l1 x5_1).f1.f2))))))) = true
    ·rw [if_pos c7] at H
     have c7b0 : ((!(((rd_T25 l0 x5_1).f0.f0) == ((rd_T25 l1 x5_1).f0.f0)) || (!(((rd_T25 l0 x5_1).f0.f1) == ((rd_T25 l1 x5_1).f0.f1)) || (!(((rd_T25 l0 x5_1).f0.f2) == ((rd_T25 l1 x5_1).f0.f2))))) || ((!(((rd_T25 l0 x5_1).f1.f0) == ((rd_T25 l1 x5_1).f1.f0)) || (!(((rd_T25 l0 x5_1).f1.f1) == ((rd_T25 l1 x5_1).f1.f1)) || (!(((rd_T25 l0 x5_1).f1.f2) == ((rd_T25 l1 x5_1).f1.f2))))))) = true := c7
     clear c7
     obtain rfl := Option.some.inj H
     have p102 : 0 ≤ (x5_1 : Int) := of_decide_eq_true (by assumption)
     have q102 : x5_1 < (l0.length : Int) := of_decide_eq_true (by assumption)
     obtain ⟨ad102, e102, hx102_0, hx102_1, hx102_2, hx102_3, hx102_4, hx102_5⟩ := at_T25 HR0.out x5_1 p102 q102
     cases e102
     replace p102 := eq_true p102
     replace q102 := eq_true q102
     have p103 : 0 ≤ (x5_1 : Int) := of_decide_eq_true (by assumption)
     have q103 : x5_1 < (l1.length : Int) := of_decide_eq_true (by assumption)
     obtain ⟨ad103, e103, hx103_0, hx103_1, hx103_2, hx103_3, hx103_4, hx103_5⟩ := at_T25 HR1.out x5_1 p103 q103
     cases e103
     replace p103 := eq_true p103
     replace q103 := eq_true q103
     go_wp2
     repeat (go_quiet (fail); try go_wp2)
     go_ret
     exact ⟨by first | rfl | (simp; done) | (simp [*]; done), by repeat (first | exact Drawn0.refl _ | apply Drawn0.step)⟩
    rw [if_neg c7] at H
    have c7b0 : ((!(((rd_T25 l0 x5_1).f0.f0) == ((rd_T25 l1 x5_1).f0.f0)) || (!(((rd_T25 l0 x5_1).f0.f1) == ((rd_T25 l1 x5_1).f0.f1)) || (!(((rd_T25 l0 x5_1).f0.f2) == ((rd_T25 l1 x5_1).f0.f2))))) || ((!(((rd_T25 l0 x5_1).f1.f0) == ((rd_T25 l1 x5_1).f1.f0)) || (!(((rd_T25 l0 x5_1).f1.f1) == ((rd_T25 l1 x5_1).f1.f1)) || (!(((rd_T25 l0 x5_1).f1.f2) == ((rd_T25 l1 x5_1).f1.f2))))))) = false := by simpa using c7
    clear c7
    have H' := am H
    clear H
    have p102 : 0 ≤ (x5_1 : Int) := of_decide_eq_true (by assumption)
    have q102 : x5_1 < (l0.length : Int) := of_decide_eq_true (by assumption)
    obtain ⟨ad102, e102, hx102_0, hx102_1, hx102_2, hx102_3, hx102_4, hx102_5⟩ := at_T25 HR0.out x5_1 p102 q102
    cases e102
    replace p102 := eq_true p102
    replace q102 := eq_true q102
    have p103 : 0 ≤ (x5_1 : Int) := of_decide_eq_true (by assumption)
    have q103 : x5_1 < (l1.length : Int) := of_decide_eq_true (by assumption)
    obtain ⟨ad103, e103, hx103_0, hx103_1, hx103_2, hx103_3, hx103_4, hx103_5⟩ := at_T25 HR1.out x5_1 p103 q103
    cases e103
    replace p103 := eq_true p103
    replace q103 := eq_true q103
    go_wp2
    repeat (go_quiet (fail); try go_wp2)
    go_roundg k1
    case measure => have := HK1.out; omega
    case rel => exact ⟨(wrap64 (x5_1 + 1)), sqD, H', ⟨by have := HK1.out; omega⟩, by repeat (first | exact Drawn0.refl _ | apply Drawn0.step)⟩
 ·rw [if_neg c3] at H
  have c3b0 : ((l0.length : Int) == (l1.length : Int)) = false := beq_eq_false_iff_ne.mpr c3
  have c3b1 : ((l0.length : Int) != (l1.length : Int)) = true := bne_iff_ne.mpr c3
  have c3b2 : (l0.length == l1.length) = false := by first | simpa using c3 | (simp at c3 ⊢; omega)
  obtain rfl := Option.some.inj H
  go_enter Try.func36, Try.ntmps36
  go_wp2
  repeat (go_quiet (fail); try go_wp2)
  go_ret
  exact ⟨by first | rfl | (simp; done) | (simp [*]; done), by repeat (first | exact Drawn0.refl _ | apply Drawn0.step)⟩

def box_sides.f (a0_0 : Int) (a0_1 : Int) (a0_2 : Int) (a0_3 : Int) (a0_4 : Int) (a0_5 : Int) : Option (Int × Int × Int × Int × Int × Int) := some (a0_0, a0_3, a0_1, a0_4, a0_2, a0_5)
set_option maxHeartbeats 8000000 in
set_option maxRecDepth 100000 in
theorem box_sides.calls (a0_0 : Int) (a0_1 : Int) (a0_2 : Int) (a0_3 : Int) (a0_4 : Int) (a0_5 : Int) (r1 : Int) (r2 : Int) (r3 : Int) (r4 : Int) (r5 : Int) (r6 : Int) (w : World) (h : box_sides.f a0_0 a0_1 a0_2 a0_3 a0_4 a0_5 = some (r1, r2, r3, r4, r5, r6)) :
  Calls Try.prog 52 #[.agg #[.int .i64 a0_0, .int .i64 a0_1, .int .i64 a0_2, .int .i64 a0_3, .int .i64 a0_4, .int .i64 a0_5]] w fun e w' => e = .returned (.agg #[.int .i64 r1, .int .i64 r2, .int .i64 r3, .int .i64 r4, .int .i64 r5, .int .i64 r6]) ∧ Below w.heap.size w w' := by
 have hu25 := Try.underlying25
 have hu73 := Try.underlying73
 have hu72 := Try.underlying72
 have HB := am (Below.refl w.heap.size w)
 have H : (some (a0_0, a0_3, a0_1, a0_4, a0_2, a0_5)) = some (r1, r2, r3, r4, r5, r6) := h
 clear h
 simp only [Option.some.injEq, Prod.mk.injEq] at H
 obtain ⟨rfl, rfl, rfl, rfl, rfl, rfl⟩ := H
 go_enter Try.func52, Try.ntmps52
 go_wp2_with (first | ((with_reducible refine gd (N := 1) rfl ?_); refine be ?hg (N := 1) ?hd (cs := #[.int .i64 a0_0, .int .i64 a0_1, .int .i64 a0_2, .int .i64 a0_3, .int .i64 a0_4, .int .i64 a0_5]) (t := 25) ?hr ?_; (case hd | hg => rfl); (case hr => first | (go_simp; done) | (go_simp; rfl)); intro gb104 hg w2 hbox hb; have BK104 := am hbox; have GW104 := sG HB hg; have GE104 := sG HB hg; replace HB := bS HB hb; clear hb hbox hg) | ((with_reducible refine gd (N := 2) rfl ?_); refine be ?hg (N := 2) ?hd (cs := #[.int .i64 0, .int .i64 0, .int .i64 0, .int .i64 0, .int .i64 0, .int .i64 0]) (t := 73) ?hr ?_; (case hd | hg => rfl); (case hr => first | (go_simp; done) | (go_simp; rfl)); intro gb105 hg w3 hbox hb; have BK105 := am hbox; have GW105 := sG HB hg; have GE105 := sG HB hg; replace HB := bS HB hb; have NB104_105 := nL BK104 hg; have NB105_104 := nG BK104 hg; replace BK104 := bB BK104 hb; clear hb hbox hg; have hnb4 := NB104_105.out; have hnc4 := NB105_104.out; obtain ⟨_, _, _, _, _, _, _, _, _, _, _, _⟩ := zC6 BK104; obtain ⟨_, _, _, _, _, _, _, _, _, _, _, _⟩ := zC6 BK105))
 refine bodyPost_ret (results_cell_row rfl _ _ gb105 73 #[.int .i64 a0_0, .int .i64 a0_3, .int .i64 a0_1, .int .i64 a0_4, .int .i64 a0_2, .int .i64 a0_5] (0, 0) _ rfl (kkC BK105.out) Try.underlying73 rfl (by kernel_rfl)) rfl ?_
 exact ⟨sqE, fW HB.out⟩

section
open Go.Proofs.Ytmmdikhmlmoolaa.RegInv
attribute [local go_sem] max2_int min2_int max_two min_two Oper.semAt_some
theorem sides_is (x0 x1 x2 x3 x4 x5 : Int) (w : World) : Calls Try.prog 52 #[.agg #[.int .i64 x0, .int .i64 x1, .int .i64 x2, .int .i64 x3, .int .i64 x4, .int .i64 x5]] w fun e w' => e = .returned (.agg #[.int .i64 x0, .int .i64 x3, .int .i64 x1, .int .i64 x4, .int .i64 x2, .int .i64 x5]) ∧ Below w.heap.size w w' :=
 box_sides.calls x0 x1 x2 x3 x4 x5 x0 x3 x1 x4 x2 x5 w rfl
def box_common.f (a0_0 a0_1 a0_2 a0_3 a0_4 a0_5 a1_0 a1_1 a1_2 a1_3 a1_4 a1_5 : Int) : Option (Int × Int × Int × Int × Int × Int) := some ((mx a0_0 a1_0), (mn a0_3 a1_3), (mx a0_1 a1_1), (mn a0_4 a1_4), (mx a0_2 a1_2), (mn a0_5 a1_5))
set_option maxHeartbeats 4000000 in
set_option maxRecDepth 100000 in
theorem box_common.calls (a0_0 a0_1 a0_2 a0_3 a0_4 a0_5 a1_0 a1_1 a1_2 a1_3 a1_4 a1_5 : Int) (r1 r2 r3 r4 r5 r6 : Int) (w : World) (h : box_common.f a0_0 a0_1 a0_2 a0_3 a0_4 a0_5 a1_0 a1_1 a1_2 a1_3 a1_4 a1_5 = some (r1, r2, r3, r4, r5, r6)) :
  Calls Try.prog 56 #[.agg #[.int .i64 a0_0, .int .i64 a0_1, .int .i64 a0_2, .int .i64 a0_3, .int .i64 a0_4, .int .i64 a0_5], .agg #[.int .i64 a1_0, .int .i64 a1_1, .int .i64 a1_2, .int .i64 a1_3, .int .i64 a1_4, .int .i64 a1_5]] w fun e w' => e = .returned (.agg #[.int .i64 r1, .int .i64 r2, .int .i64 r3, .int .i64 r4, .int .i64 r5, .int .i64 r6]) ∧ Below w.heap.size w w' := by
 simp only [box_common.f, Option.some.injEq, Prod.mk.injEq] at h
 obtain ⟨rfl, rfl, rfl, rfl, rfl, rfl⟩ := h
 have hu25 := Try.underlying25
 have hu73 := Try.underlying73
 have hu72 := Try.underlying72
 have HS := am sides_is
 go_enter Try.func56, Try.ntmps56
 go_wp2_with fail
 obtain ⟨W, hW⟩ : ∃ W, W = ((w.alloc (.cells #[.int .i64 a0_0, .int .i64 a0_1, .int .i64 a0_2, .int .i64 a0_3, .int .i64 a0_4, .int .i64 a0_5] 25)).alloc (.cells #[.int .i64 a1_0, .int .i64 a1_1, .int .i64 a1_2, .int .i64 a1_3, .int .i64 a1_4, .int .i64 a1_5] 25)).alloc (.cells #[.int .i64 0, .int .i64 0, .int .i64 0, .int .i64 0, .int .i64 0, .int .i64 0] 73) := ⟨_, rfl⟩
 have B_0 : W.heap[w.heap.size]? = some (Obj.cells #[.int .i64 a0_0, .int .i64 a0_1, .int .i64 a0_2, .int .i64 a0_3, .int .i64 a0_4, .int .i64 a0_5] 25 (0, 0)) := by
  rw [hW]; have h := blk_new w (.cells #[.int .i64 a0_0, .int .i64 a0_1, .int .i64 a0_2, .int .i64 a0_3, .int .i64 a0_4, .int .i64 a0_5] 25)
  exact ba (ba (h) _) _
 have B_1 : W.heap[w.heap.size + 1]? = some (Obj.cells #[.int .i64 a1_0, .int .i64 a1_1, .int .i64 a1_2, .int .i64 a1_3, .int .i64 a1_4, .int .i64 a1_5] 25 (0, 0)) := by
  rw [hW]; have h := blk_new (w.alloc (.cells #[.int .i64 a0_0, .int .i64 a0_1, .int .i64 a0_2, .int .i64 a0_3, .int .i64 a0_4, .int .i64 a0_5] 25)) (.cells #[.int .i64 a1_0, .int .i64 a1_1, .int .i64 a1_2, .int .i64 a1_3, .int .i64 a1_4, .int .i64 a1_5] 25)
  rw [World.size_alloc] at h; exact ba (h) _
 have B_2 : W.heap[w.heap.size + 1 + 1]? = some (Obj.cells #[.int .i64 0, .int .i64 0, .int .i64 0, .int .i64 0, .int .i64 0, .int .i64 0] 73 (0, 0)) := by
  rw [hW]; have h := blk_new ((w.alloc (.cells #[.int .i64 a0_0, .int .i64 a0_1, .int .i64 a0_2, .int .i64 a0_3, .int .i64 a0_4, .int .i64 a0_5] 25)).alloc (.cells #[.int .i64 a1_0, .int .i64 a1_1, .int .i64 a1_2, .int .i64 a1_3, .int .i64 a1_4, .int .i64 a1_5] 25)) (.cells #[.int .i64 0, .int .i64 0, .int .i64 0, .int .i64 0, .int .i64 0, .int .i64 0] 73)
  rw [World.size_alloc, World.size_alloc] at h; exact h
 have hb0 : Below w.heap.size w W := by rw [hW]; exact wa (wa (wa ((Below.refl _ _)) _) _) _
 rw [← hW]
 clear hW
 have HB := am hb0
 have K0 := am B_0
 have K1 := am B_1
 have K2 := am B_2
 clear hb0 B_0 B_1 B_2
 refine RegInv.region_inv (fun f a W' => ∃ s8 s9 s10 s11 s5 s6 : Value, a = { tmps := #[.agg #[.int .i64 a0_0, .int .i64 a0_1, .int .i64 a0_2, .int .i64 a0_3, .int .i64 a0_4, .int .i64 a0_5], .agg #[.int .i64 a1_0, .int .i64 a1_1, .int .i64 a1_2, .int .i64 a1_3, .int .i64 a1_4, .int .i64 a1_5], .pointer (some ⟨w.heap.size, 0, none⟩), .pointer (some ⟨w.heap.size + 1, 0, none⟩), .pointer (some ⟨w.heap.size + 1 + 1, 0, none⟩), s5, s6, undef, s8, s9, s10, s11, undef, undef, undef, undef, undef, undef, undef, undef, undef, undef, undef, undef, undef, undef, undef, undef, undef, undef, undef, undef, undef, undef, undef, undef, undef, undef], defers := [] } ∧ (f 0 = true → s8 = .agg #[.int .i64 a0_0, .int .i64 a0_1, .int .i64 a0_2, .int .i64 a0_3, .int .i64 a0_4, .int .i64 a0_5]) ∧ (f 1 = true → s9 = .agg #[.int .i64 a0_0, .int .i64 a0_3, .int .i64 a0_1, .int .i64 a0_4, .int .i64 a0_2, .int .i64 a0_5]) ∧ (f 2 = true → s10 = .agg #[.int .i64 a1_0, .int .i64 a1_1, .int .i64 a1_2, .int .i64 a1_3, .int .i64 a1_4, .int .i64 a1_5]) ∧ (f 3 = true → s11 = .agg #[.int .i64 a1_0, .int .i64 a1_3, .int .i64 a1_1, .int .i64 a1_4, .int .i64 a1_2, .int .i64 a1_5]) ∧ (f 4 = true → ∃ g, s5 = .pointer (some ⟨g, 0, none⟩) ∧ w.heap.size + 3 ≤ g ∧ W'.heap[g]? = some (Obj.cells (if f 6 = true then #[.int .i64 a0_0, .int .i64 a0_3, .int .i64 a0_1, .int .i64 a0_4, .int .i64 a0_2, .int .i64 a0_5] else #[.int .i64 0, .int .i64 0, .int .i64 0, .int .i64 0, .int .i64 0, .int .i64 0]) 73 (0, 0))) ∧ (f 5 = true → ∃ g, s6 = .pointer (some ⟨g, 0, none⟩) ∧ w.heap.size + 3 ≤ g ∧ W'.heap[g]? = some (Obj.cells (if f 7 = true then #[.int .i64 a1_0, .int .i64 a1_3, .int .i64 a1_1, .int .i64 a1_4, .int .i64 a1_2, .int .i64 a1_5] else #[.int .i64 0, .int .i64 0, .int .i64 0, .int .i64 0, .int .i64 0, .int .i64 0]) 73 (0, 0))) ∧ (s5 = s6 → f 4 = true → f 5 = true → False) ∧ (f 6 = true → f 4 = true) ∧ (f 7 = true → f 5 = true) ∧ W'.heap[w.heap.size]? = some (Obj.cells #[.int .i64 a0_0, .int .i64 a0_1, .int .i64 a0_2, .int .i64 a0_3, .int .i64 a0_4, .int .i64 a0_5] 25 (0, 0)) ∧ W'.heap[w.heap.size + 1]? = some (Obj.cells #[.int .i64 a1_0, .int .i64 a1_1, .int .i64 a1_2, .int .i64 a1_3, .int .i64 a1_4, .int .i64 a1_5] 25 (0, 0)) ∧ W'.heap[w.heap.size + 1 + 1]? = some (Obj.cells #[.int .i64 0, .int .i64 0, .int .i64 0, .int .i64 0, .int .i64 0, .int .i64 0] 73 (0, 0)) ∧ Below w.heap.size w W') (by kernel_rfl) (by kernel_rfl) ?h0 ?hstep ?hend
 case h0 => exact ⟨_, _, _, _, _, _, rfl, nofun, nofun, nofun, nofun, nofun, nofun, nofun, nofun, nofun, bd K0.out, bd K1.out, bd K2.out, wd HB.out⟩
 case hstep =>
  clear K0 K1 K2 HB
  intro i o ho f a W' hI hfi hdep K hK
  obtain ⟨s8, s9, s10, s11, s5, s6, rfl, h0, h1, h2, h3, h4, h5, n4_5, d6, d7, k0, k1, k2, hb⟩ := hI
  have HK := am hK
  clear hK
  rcases i with _ | _ | _ | _ | _ | _ | _ | _ | i
  all_goals (first | obtain rfl := Option.some.inj ho | skip)
  all_goals have A := am (And.intro h0 (And.intro h1 (And.intro h2 (And.intro h3 (And.intro h4 (And.intro h5 (And.intro n4_5 (And.intro d6 d7))))))))
  all_goals clear h0 h1 h2 h3 h4 h5 n4_5 d6 d7
  ·clear hdep
   obtain ⟨p0, p1, p2, p3, p4, p5⟩ := RegInv.cells6 k0
   go_wp2_with fail
   obtain ⟨h0, h1, h2, h3, h4, h5, n4_5, d6, d7⟩ := A.out
   exact HK.out _ _ ⟨_, _, _, _, _, _, rfl, (fun _ => rfl), h1, h2, h3, h4, h5, n4_5, d6, d7, k0, k1, k2, hb⟩
  ·obtain ⟨h0, h1, h2, h3, h4, h5, n4_5, d6, d7⟩ := A.out
   obtain rfl := h0 (hdep { on := 0, ground := .data } (by simp) rfl)
   clear hdep h0 h1 h2 h3 h4 h5 n4_5 d6 d7
   go_wp2_with (go_at_call 52; refine (HS.out _ _ _ _ _ _ _).mono ?_; rintro e w2 ⟨rfl, hb2⟩; have HB2 := am hb2; clear hb2)
   obtain ⟨h0, h1, h2, h3, h4, h5, n4_5, d6, d7⟩ := A.out
   have hb2 := HB2.out
   exact HK.out _ _ ⟨_, _, _, _, _, _, rfl, (fun _ => rfl), (fun _ => rfl), h2, h3, (fun h => by obtain ⟨g', f1, f2, f3⟩ := h4 h; exact ⟨g', f1, f2, bb f3 hb2⟩), (fun h => by obtain ⟨g', f1, f2, f3⟩ := h5 h; exact ⟨g', f1, f2, bb f3 hb2⟩), n4_5, d6, d7, bb k0 hb2, bb k1 hb2, bb k2 hb2, below_step hb hb2⟩
  ·clear hdep
   obtain ⟨p0, p1, p2, p3, p4, p5⟩ := RegInv.cells6 k1
   go_wp2_with fail
   obtain ⟨h0, h1, h2, h3, h4, h5, n4_5, d6, d7⟩ := A.out
   exact HK.out _ _ ⟨_, _, _, _, _, _, rfl, h0, h1, (fun _ => rfl), h3, h4, h5, n4_5, d6, d7, k0, k1, k2, hb⟩
  ·obtain ⟨h0, h1, h2, h3, h4, h5, n4_5, d6, d7⟩ := A.out
   obtain rfl := h2 (hdep { on := 2, ground := .data } (by simp) rfl)
   clear hdep h0 h1 h2 h3 h4 h5 n4_5 d6 d7
   go_wp2_with (go_at_call 52; refine (HS.out _ _ _ _ _ _ _).mono ?_; rintro e w2 ⟨rfl, hb2⟩; have HB2 := am hb2; clear hb2)
   obtain ⟨h0, h1, h2, h3, h4, h5, n4_5, d6, d7⟩ := A.out
   have hb2 := HB2.out
   exact HK.out _ _ ⟨_, _, _, _, _, _, rfl, h0, h1, (fun _ => rfl), (fun _ => rfl), (fun h => by obtain ⟨g', f1, f2, f3⟩ := h4 h; exact ⟨g', f1, f2, bb f3 hb2⟩), (fun h => by obtain ⟨g', f1, f2, f3⟩ := h5 h; exact ⟨g', f1, f2, bb f3 hb2⟩), n4_5, d6, d7, bb k0 hb2, bb k1 hb2, bb k2 hb2, below_step hb hb2⟩
  ·clear hdep
   have sz := blk_lt k2
   go_wp2_with fail
   obtain ⟨h0, h1, h2, h3, h4, h5, n4_5, d6, d7⟩ := A.out
   have hf : ¬ f 6 = true := fun h => by rw [d6 h] at hfi; cases hfi
   refine HK.out _ _ ⟨_, _, _, _, _, _, rfl, h0, h1, h2, h3, (fun _ => ⟨_, rfl, by omega, ?_⟩), (fun h => by obtain ⟨g', f1, f2, f3⟩ := h5 h; exact ⟨g', f1, f2, ba f3 _⟩), (fun he h1 h2 => by obtain ⟨g, e1, e2, e3⟩ := h5 h2; have := blk_lt e3; rw [e1] at he; cases he; omega), (fun _ => rfl), d7, ba k0 _, ba k1 _, ba k2 _, wa hb _⟩
   show (W'.alloc _).heap[_]? = some (Obj.cells (if f 6 = true then _ else _) 73 (0, 0))
   rw [if_neg hf]
   exact blk_new W' _
  ·clear hdep
   have sz := blk_lt k2
   go_wp2_with fail
   obtain ⟨h0, h1, h2, h3, h4, h5, n4_5, d6, d7⟩ := A.out
   have hf : ¬ f 7 = true := fun h => by rw [d7 h] at hfi; cases hfi
   refine HK.out _ _ ⟨_, _, _, _, _, _, rfl, h0, h1, h2, h3, (fun h => by obtain ⟨g', f1, f2, f3⟩ := h4 h; exact ⟨g', f1, f2, ba f3 _⟩), (fun _ => ⟨_, rfl, by omega, ?_⟩), (fun he h1 h2 => by obtain ⟨g, e1, e2, e3⟩ := h4 h1; have := blk_lt e3; rw [e1] at he; cases he; omega), d6, (fun _ => rfl), ba k0 _, ba k1 _, ba k2 _, wa hb _⟩
   show (W'.alloc _).heap[_]? = some (Obj.cells (if f 7 = true then _ else _) 73 (0, 0))
   rw [if_neg hf]
   exact blk_new W' _
  ·obtain ⟨h0, h1, h2, h3, h4, h5, n4_5, d6, d7⟩ := A.out
   have d0 := hdep { on := 4, ground := .data } (by simp) rfl
   obtain rfl := h1 (hdep { on := 1, ground := .data } (by simp) rfl)
   obtain ⟨g, rfl, e2, e3⟩ := h4 d0
   rw [if_neg (by rw [hfi]; decide)] at e3
   clear hdep h0 h1 h2 h3 h4 h5 n4_5 d6 d7
   have D0 := am d0
   clear d0
   obtain ⟨p0, p1, p2, p3, p4, p5⟩ := RegInv.cells6 e3
   obtain ⟨q0, q1, q2, q3, q4, q5⟩ := RegInv.free6 e3
   go_wp2_with fail
   obtain ⟨h0, h1, h2, h3, h4, h5, n4_5, d6, d7⟩ := A.out
   exact HK.out _ (RegInv.set6 W' g _ _ _ _ _ _) ⟨_, _, _, _, _, _, rfl, h0, (fun _ => rfl), h2, h3, (fun _ => ⟨g, rfl, e2, RegInv.set6_at e3⟩), (fun h => by obtain ⟨g', f1, f2, f3⟩ := h5 h; exact ⟨g', f1, f2, RegInv.set6_far f3 (fun e => n4_5 (by rw [f1, e]) D0.out h)⟩), n4_5, (fun _ => D0.out), d7, RegInv.set6_far k0 (by omega), RegInv.set6_far k1 (by omega), RegInv.set6_far k2 (by omega), RegInv.set6_below hb (by omega)⟩
  ·obtain ⟨h0, h1, h2, h3, h4, h5, n4_5, d6, d7⟩ := A.out
   have d0 := hdep { on := 5, ground := .data } (by simp) rfl
   obtain rfl := h3 (hdep { on := 3, ground := .data } (by simp) rfl)
   obtain ⟨g, rfl, e2, e3⟩ := h5 d0
   rw [if_neg (by rw [hfi]; decide)] at e3
   clear hdep h0 h1 h2 h3 h4 h5 n4_5 d6 d7
   have D0 := am d0
   clear d0
   obtain ⟨p0, p1, p2, p3, p4, p5⟩ := RegInv.cells6 e3
   obtain ⟨q0, q1, q2, q3, q4, q5⟩ := RegInv.free6 e3
   go_wp2_with fail
   obtain ⟨h0, h1, h2, h3, h4, h5, n4_5, d6, d7⟩ := A.out
   exact HK.out _ (RegInv.set6 W' g _ _ _ _ _ _) ⟨_, _, _, _, _, _, rfl, h0, h1, h2, (fun _ => rfl), (fun h => by obtain ⟨g', f1, f2, f3⟩ := h4 h; exact ⟨g', f1, f2, RegInv.set6_far f3 (fun e => n4_5 (by rw [f1, e]) h D0.out)⟩), (fun _ => ⟨g, rfl, e2, RegInv.set6_at e3⟩), n4_5, d6, (fun _ => D0.out), RegInv.set6_far k0 (by omega), RegInv.set6_far k1 (by omega), RegInv.set6_far k2 (by omega), RegInv.set6_below hb (by omega)⟩
  simp at ho
 case hend =>
  clear K0 K1 K2 HB
  intro f a W' hI hall
  obtain ⟨s8, s9, s10, s11, s5, s6, rfl, h0, h1, h2, h3, h4, h5, n4_5, d6, d7, k0, k1, k2, hb⟩ := hI
  obtain ⟨g5, rfl, l5, b5⟩ := h4 (hall 4 (by decide))
  rw [if_pos (hall 6 (by decide))] at b5
  obtain ⟨g6, rfl, l6, b6⟩ := h5 (hall 5 (by decide))
  rw [if_pos (hall 7 (by decide))] at b6
  have ne5_6 : g5 ≠ g6 := fun e => n4_5 (by rw [e]) (hall 4 (by decide)) (hall 5 (by decide))
  obtain rfl := h0 (hall 0 (by decide))
  obtain rfl := h1 (hall 1 (by decide))
  obtain rfl := h2 (hall 2 (by decide))
  obtain rfl := h3 (hall 3 (by decide))
  clear h0 h1 h2 h3 h4 h5 n4_5 d6 d7 hall
  dsimp only
  have NE5_6 := am ne5_6
  have B5 := am b5
  have B6 := am b6
  have K0 := am k0
  have K1 := am k1
  have K2 := am k2
  have HB := am hb
  clear hb b5 b6 k0 k1 k2 ne5_6
  obtain ⟨j0, m0⟩ : ∃ j_ : Int, (if a0_0 < a1_0 then a1_0 else a0_0) = j_ := ⟨_, rfl⟩
  obtain ⟨j1, m1⟩ : ∃ j_ : Int, (if a1_3 < a0_3 then a1_3 else a0_3) = j_ := ⟨_, rfl⟩
  obtain ⟨j2, m2⟩ : ∃ j_ : Int, (if a0_1 < a1_1 then a1_1 else a0_1) = j_ := ⟨_, rfl⟩
  obtain ⟨j3, m3⟩ : ∃ j_ : Int, (if a1_4 < a0_4 then a1_4 else a0_4) = j_ := ⟨_, rfl⟩
  obtain ⟨j4, m4⟩ : ∃ j_ : Int, (if a0_2 < a1_2 then a1_2 else a0_2) = j_ := ⟨_, rfl⟩
  obtain ⟨j5, m5⟩ : ∃ j_ : Int, (if a1_5 < a0_5 then a1_5 else a0_5) = j_ := ⟨_, rfl⟩
  have lg : w.heap.size ≤ g5 := by omega
  go_wp2
  refine wp_loop_rounds 9 ?_
  rw [rounds_succ]
  obtain ⟨p0, p1, p2, p3, p4, p5⟩ := RegInv.cells6 B5.out
  obtain ⟨q0, q1, q2, q3, q4, q5⟩ := RegInv.cells6 B6.out
  go_wp2
  go_still_tail 21, (by kernel_rfl)
  clear p0 p1 p2 p3 p4 p5 q0 q1 q2 q3 q4 q5
  replace B5 := am (bd B5.out)
  replace B6 := am (bd B6.out)
  replace K2 := am (bd K2.out)
  replace HB := am (wd HB.out)
  change wpList _ _ _ _ _ W'.drew
  generalize W'.drew = V1 at B5 B6 K2 HB ⊢
  obtain ⟨p0, p1, p2, p3, p4, p5⟩ := RegInv.cells6 B5.out
  obtain ⟨r0, r1, r2, r3, r4, r5⟩ := RegInv.free6 B5.out
  go_wp2
  rw [rounds_succ]
  clear p0 p1 p2 p3 p4 p5 r0 r1 r2 r3 r4 r5
  replace B5 := am (blk_put (blk_put B5.out 0 (.int .i64 j0) rfl) 1 (.int .i64 j1) rfl)
  replace B6 := am (blk_far (p := ⟨g5, 1, none⟩) (blk_far (p := ⟨g5, 0, none⟩) B6.out (Ne.symm NE5_6.out) (.int .i64 j0)) (Ne.symm NE5_6.out) (.int .i64 j1))
  replace K2 := am (blk_far (p := ⟨g5, 1, none⟩) (blk_far (p := ⟨g5, 0, none⟩) K2.out (by simp; omega) (.int .i64 j0)) (by simp; omega) (.int .i64 j1))
  replace HB := am (below_set (j := 1) (v := .int .i64 j1) (below_set (j := 0) (v := .int .i64 j0) HB.out lg) lg)
  generalize (V1.setCell ⟨g5, 0, none⟩ (.int .i64 j0)).setCell ⟨g5, 1, none⟩ (.int .i64 j1) = W1 at B5 B6 K2 HB ⊢
  obtain ⟨p0, p1, p2, p3, p4, p5⟩ := RegInv.cells6 B5.out
  obtain ⟨q0, q1, q2, q3, q4, q5⟩ := RegInv.cells6 B6.out
  go_wp2
  go_still_tail 21, (by kernel_rfl)
  clear p0 p1 p2 p3 p4 p5 q0 q1 q2 q3 q4 q5
  replace B5 := am (bd B5.out)
  replace B6 := am (bd B6.out)
  replace K2 := am (bd K2.out)
  replace HB := am (wd HB.out)
  change wpList _ _ _ _ _ W1.drew
  generalize W1.drew = V2 at B5 B6 K2 HB ⊢
  obtain ⟨p0, p1, p2, p3, p4, p5⟩ := RegInv.cells6 B5.out
  obtain ⟨r0, r1, r2, r3, r4, r5⟩ := RegInv.free6 B5.out
  go_wp2
  rw [rounds_succ]
  clear p0 p1 p2 p3 p4 p5 r0 r1 r2 r3 r4 r5
  replace B5 := am (blk_put (blk_put B5.out 2 (.int .i64 j2) rfl) 3 (.int .i64 j3) rfl)
  replace B6 := am (blk_far (p := ⟨g5, 3, none⟩) (blk_far (p := ⟨g5, 2, none⟩) B6.out (Ne.symm NE5_6.out) (.int .i64 j2)) (Ne.symm NE5_6.out) (.int .i64 j3))
  replace K2 := am (blk_far (p := ⟨g5, 3, none⟩) (blk_far (p := ⟨g5, 2, none⟩) K2.out (by simp; omega) (.int .i64 j2)) (by simp; omega) (.int .i64 j3))
  replace HB := am (below_set (j := 3) (v := .int .i64 j3) (below_set (j := 2) (v := .int .i64 j2) HB.out lg) lg)
  generalize (V2.setCell ⟨g5, 2, none⟩ (.int .i64 j2)).setCell ⟨g5, 3, none⟩ (.int .i64 j3) = W2 at B5 B6 K2 HB ⊢
  obtain ⟨p0, p1, p2, p3, p4, p5⟩ := RegInv.cells6 B5.out
  obtain ⟨q0, q1, q2, q3, q4, q5⟩ := RegInv.cells6 B6.out
  go_wp2
  go_still_tail 21, (by kernel_rfl)
  clear p0 p1 p2 p3 p4 p5 q0 q1 q2 q3 q4 q5
  replace B5 := am (bd B5.out)
  replace B6 := am (bd B6.out)
  replace K2 := am (bd K2.out)
  replace HB := am (wd HB.out)
  change wpList _ _ _ _ _ W2.drew
  generalize W2.drew = V3 at B5 B6 K2 HB ⊢
  obtain ⟨p0, p1, p2, p3, p4, p5⟩ := RegInv.cells6 B5.out
  obtain ⟨r0, r1, r2, r3, r4, r5⟩ := RegInv.free6 B5.out
  go_wp2
  rw [rounds_succ]
  clear p0 p1 p2 p3 p4 p5 r0 r1 r2 r3 r4 r5
  replace B5 := am (blk_put (blk_put B5.out 4 (.int .i64 j4) rfl) 5 (.int .i64 j5) rfl)
  replace B6 := am (blk_far (p := ⟨g5, 5, none⟩) (blk_far (p := ⟨g5, 4, none⟩) B6.out (Ne.symm NE5_6.out) (.int .i64 j4)) (Ne.symm NE5_6.out) (.int .i64 j5))
  replace K2 := am (blk_far (p := ⟨g5, 5, none⟩) (blk_far (p := ⟨g5, 4, none⟩) K2.out (by simp; omega) (.int .i64 j4)) (by simp; omega) (.int .i64 j5))
  replace HB := am (below_set (j := 5) (v := .int .i64 j5) (below_set (j := 4) (v := .int .i64 j4) HB.out lg) lg)
  generalize (V3.setCell ⟨g5, 4, none⟩ (.int .i64 j4)).setCell ⟨g5, 5, none⟩ (.int .i64 j5) = W3 at B5 B6 K2 HB ⊢
  obtain ⟨p0, p1, p2, p3, p4, p5⟩ := RegInv.cells6 B5.out
  obtain ⟨q0, q1, q2, q3, q4, q5⟩ := RegInv.cells6 K2.out
  obtain ⟨r0, r1, r2, r3, r4, r5⟩ := RegInv.free6 K2.out
  go_wp2
  have K3 := RegInv.set6_at (a' := .int .i64 j0) (b' := .int .i64 j1) (c' := .int .i64 j2) (d' := .int .i64 j3) (e' := .int .i64 j4) (f' := .int .i64 j5) K2.out
  refine bodyPost_ret (results_cell_row rfl _ _ (w.heap.size + 1 + 1) 73 #[.int .i64 j0, .int .i64 j1, .int .i64 j2, .int .i64 j3, .int .i64 j4, .int .i64 j5] (0, 0) _ rfl K3 Try.underlying73 rfl (by kernel_rfl)) rfl ?_
  exact ⟨by rw [← m0, ← m1, ← m2, ← m3, ← m4, ← m5]; rfl, RegInv.set6_below HB.out (by omega)⟩
end

section
open Go.Proofs.Ytmmdikhmlmoolaa.RegInv
attribute [local go_sem] max2_int min2_int max_two min_two Oper.semAt_some
theorem common_is (x0 x1 x2 x3 x4 x5 y0 y1 y2 y3 y4 y5 : Int) (w : World) : Calls Try.prog 56 #[.agg #[.int .i64 x0, .int .i64 x1, .int .i64 x2, .int .i64 x3, .int .i64 x4, .int .i64 x5], .agg #[.int .i64 y0, .int .i64 y1, .int .i64 y2, .int .i64 y3, .int .i64 y4, .int .i64 y5]] w fun e w' => e = .returned (.agg #[.int .i64 (mx x0 y0), .int .i64 (mn x3 y3), .int .i64 (mx x1 y1), .int .i64 (mn x4 y4), .int .i64 (mx x2 y2), .int .i64 (mn x5 y5)]) ∧ Below w.heap.size w w' :=
 box_common.calls x0 x1 x2 x3 x4 x5 y0 y1 y2 y3 y4 y5 _ _ _ _ _ _ w rfl
def box_Overlap.f (a0_0 a0_1 a0_2 a0_3 a0_4 a0_5 a1_0 a1_1 a1_2 a1_3 a1_4 a1_5 : Int) : Option Bool := some (decide ((mx a0_0 a1_0) < (mn a0_3 a1_3)) && (decide ((mx a0_1 a1_1) < (mn a0_4 a1_4)) && decide ((mx a0_2 a1_2) < (mn a0_5 a1_5))))
set_option maxHeartbeats 4000000 in
set_option maxRecDepth 100000 in
theorem overlap_core (c0 c1 c2 c3 c4 c5 : Int) (a0_0 a0_1 a0_2 a0_3 a0_4 a0_5 a1_0 a1_1 a1_2 a1_3 a1_4 a1_5 : Int) (w : World) (hc : ∀ W, Calls Try.prog 56 #[.agg #[.int .i64 a0_0, .int .i64 a0_1, .int .i64 a0_2, .int .i64 a0_3, .int .i64 a0_4, .int .i64 a0_5], .agg #[.int .i64 a1_0, .int .i64 a1_1, .int .i64 a1_2, .int .i64 a1_3, .int .i64 a1_4, .int .i64 a1_5]] W fun e w' => e = .returned (.agg #[.int .i64 c0, .int .i64 c1, .int .i64 c2, .int .i64 c3, .int .i64 c4, .int .i64 c5]) ∧ Below W.heap.size W w') :
  Calls Try.prog 17 #[.agg #[.int .i64 a0_0, .int .i64 a0_1, .int .i64 a0_2, .int .i64 a0_3, .int .i64 a0_4, .int .i64 a0_5], .agg #[.int .i64 a1_0, .int .i64 a1_1, .int .i64 a1_2, .int .i64 a1_3, .int .i64 a1_4, .int .i64 a1_5]] w fun e w' => e = .returned (.bool (decide (c0 < c1) && (decide (c2 < c3) && decide (c4 < c5)))) ∧ Below w.heap.size w w' := by
 have hu25 := Try.underlying25
 have hu73 := Try.underlying73
 have hu72 := Try.underlying72
 have HC := am hc
 clear hc
 have hix0 : ∀ (a b c d e f : Value) (W_ : World), Sem.run Try.prog (Instr.index 73 (.agg #[a, b, c, d, e, f]) (.int .i64 0)) W_ = .ok (.agg #[a, b]) W_ := fun _ _ _ _ _ _ _ => by kernel_rfl
 have hix1 : ∀ (a b c d e f : Value) (W_ : World), Sem.run Try.prog (Instr.index 73 (.agg #[a, b, c, d, e, f]) (.int .i64 1)) W_ = .ok (.agg #[c, d]) W_ := fun _ _ _ _ _ _ _ => by kernel_rfl
 have hix2 : ∀ (a b c d e f : Value) (W_ : World), Sem.run Try.prog (Instr.index 73 (.agg #[a, b, c, d, e, f]) (.int .i64 2)) W_ = .ok (.agg #[e, f]) W_ := fun _ _ _ _ _ _ _ => by kernel_rfl
 by_cases g0 : c1 ≤ c0
 ·have d0 : decide (c1 ≤ c0) = true := decide_eq_true g0
  have HD0 := am (show decide (c0 < c1) = false from decide_eq_false (by omega))
  clear g0
  go_enter Try.func17, Try.ntmps17
  go_wp2_with (go_at_call 56; refine (HC.out _).mono ?_; rintro e w2 ⟨rfl, hb⟩; have HB := am (below_step (wa (wa (Below.refl _ _) _) _) hb); clear hb)
  refine wp_loop_rounds 9 ?_
  rw [rounds_succ]
  go_wp2
  go_ret
  exact ⟨by rw [HD0.out]; rfl, (by repeat (first | exact HB.out | apply wa | apply pw_below_drewN | apply wd))⟩
 have d0 : decide (c1 ≤ c0) = false := decide_eq_false g0
 have HD0 := am (show decide (c0 < c1) = true from decide_eq_true (by omega))
 clear g0
 by_cases g1 : c3 ≤ c2
 ·have d1 : decide (c3 ≤ c2) = true := decide_eq_true g1
  have HD1 := am (show decide (c2 < c3) = false from decide_eq_false (by omega))
  clear g1
  go_enter Try.func17, Try.ntmps17
  go_wp2_with (go_at_call 56; refine (HC.out _).mono ?_; rintro e w2 ⟨rfl, hb⟩; have HB := am (below_step (wa (wa (Below.refl _ _) _) _) hb); clear hb)
  refine wp_loop_rounds 9 ?_
  rw [rounds_succ]
  go_wp2
  rw [rounds_succ]
  go_wp2
  go_ret
  exact ⟨by rw [HD0.out, HD1.out]; rfl, (by repeat (first | exact HB.out | apply wa | apply pw_below_drewN | apply wd))⟩
 have d1 : decide (c3 ≤ c2) = false := decide_eq_false g1
 have HD1 := am (show decide (c2 < c3) = true from decide_eq_true (by omega))
 clear g1
 by_cases g2 : c5 ≤ c4
 ·have d2 : decide (c5 ≤ c4) = true := decide_eq_true g2
  have HD2 := am (show decide (c4 < c5) = false from decide_eq_false (by omega))
  clear g2
  go_enter Try.func17, Try.ntmps17
  go_wp2_with (go_at_call 56; refine (HC.out _).mono ?_; rintro e w2 ⟨rfl, hb⟩; have HB := am (below_step (wa (wa (Below.refl _ _) _) _) hb); clear hb)
  refine wp_loop_rounds 9 ?_
  rw [rounds_succ]
  go_wp2
  rw [rounds_succ]
  go_wp2
  rw [rounds_succ]
  go_wp2
  go_ret
  exact ⟨by rw [HD0.out, HD1.out, HD2.out]; rfl, (by repeat (first | exact HB.out | apply wa | apply pw_below_drewN | apply wd))⟩
 have d2 : decide (c5 ≤ c4) = false := decide_eq_false g2
 have HD2 := am (show decide (c4 < c5) = true from decide_eq_true (by omega))
 clear g2
 go_enter Try.func17, Try.ntmps17
 go_wp2_with (go_at_call 56; refine (HC.out _).mono ?_; rintro e w2 ⟨rfl, hb⟩; have HB := am (below_step (wa (wa (Below.refl _ _) _) _) hb); clear hb)
 refine wp_loop_rounds 9 ?_
 rw [rounds_succ]
 go_wp2
 rw [rounds_succ]
 go_wp2
 rw [rounds_succ]
 go_wp2
 rw [rounds_succ]
 go_wp2
 go_ret
 exact ⟨by rw [HD0.out, HD1.out, HD2.out]; rfl, (by repeat (first | exact HB.out | apply wa | apply pw_below_drewN | apply wd))⟩
theorem box_Overlap.calls (a0_0 a0_1 a0_2 a0_3 a0_4 a0_5 a1_0 a1_1 a1_2 a1_3 a1_4 a1_5 : Int) (r : Bool) (w : World) (h : box_Overlap.f a0_0 a0_1 a0_2 a0_3 a0_4 a0_5 a1_0 a1_1 a1_2 a1_3 a1_4 a1_5 = some r) :
  Calls Try.prog 17 #[.agg #[.int .i64 a0_0, .int .i64 a0_1, .int .i64 a0_2, .int .i64 a0_3, .int .i64 a0_4, .int .i64 a0_5], .agg #[.int .i64 a1_0, .int .i64 a1_1, .int .i64 a1_2, .int .i64 a1_3, .int .i64 a1_4, .int .i64 a1_5]] w fun e w' => e = .returned (.bool r) ∧ Below w.heap.size w w' := by
 obtain rfl := Option.some.inj h
 exact overlap_core _ _ _ _ _ _ a0_0 a0_1 a0_2 a0_3 a0_4 a0_5 a1_0 a1_1 a1_2 a1_3 a1_4 a1_5 w (fun W => common_is a0_0 a0_1 a0_2 a0_3 a0_4 a0_5 a1_0 a1_1 a1_2 a1_3 a1_4 a1_5 W)
end

def box_join.f (a0_0 : Int) (a0_1 : Int) (a0_2 : Int) (a0_3 : Int) (a0_4 : Int) (a0_5 : Int) : Option (Int × Int × Int × Int × Int × Int) := some (a0_0, a0_2, a0_4, a0_1, a0_3, a0_5)
set_option maxHeartbeats 8000000 in
set_option maxRecDepth 100000 in
theorem box_join.calls (a0_0 : Int) (a0_1 : Int) (a0_2 : Int) (a0_3 : Int) (a0_4 : Int) (a0_5 : Int) (r1 : Int) (r2 : Int) (r3 : Int) (r4 : Int) (r5 : Int) (r6 : Int) (w : World) (h : box_join.f a0_0 a0_1 a0_2 a0_3 a0_4 a0_5 = some (r1, r2, r3, r4, r5, r6)) :
  Calls Try.prog 54 #[.agg #[.int .i64 a0_0, .int .i64 a0_1, .int .i64 a0_2, .int .i64 a0_3, .int .i64 a0_4, .int .i64 a0_5]] w fun e w' => e = .returned (.agg #[.int .i64 r1, .int .i64 r2, .int .i64 r3, .int .i64 r4, .int .i64 r5, .int .i64 r6]) ∧ Below w.heap.size w w' := by
 have hu73 := Try.underlying73
 have hu25 := Try.underlying25
 have hu72 := Try.underlying72
 have hu23 := Try.underlying23
 have HB := am (Below.refl w.heap.size w)
 have H : (some (a0_0, a0_2, a0_4, a0_1, a0_3, a0_5)) = some (r1, r2, r3, r4, r5, r6) := h
 clear h
 simp only [Option.some.injEq, Prod.mk.injEq] at H
 obtain ⟨rfl, rfl, rfl, rfl, rfl, rfl⟩ := H
 go_enter Try.func54, Try.ntmps54
 go_wp2_with (first | ((with_reducible refine gd (N := 1) rfl ?_); refine be ?hg (N := 1) ?hd (cs := #[.int .i64 a0_0, .int .i64 a0_1, .int .i64 a0_2, .int .i64 a0_3, .int .i64 a0_4, .int .i64 a0_5]) (t := 73) ?hr ?_; (case hd | hg => rfl); (case hr => first | (go_simp; done) | (go_simp; rfl)); intro gb106 hg w2 hbox hb; have BK106 := am hbox; have GW106 := sG HB hg; have GE106 := sG HB hg; replace HB := bS HB hb; clear hb hbox hg) | ((with_reducible refine gd (N := 2) rfl ?_); refine be ?hg (N := 2) ?hd (cs := #[.int .i64 0, .int .i64 0, .int .i64 0, .int .i64 0, .int .i64 0, .int .i64 0]) (t := 25) ?hr ?_; (case hd | hg => rfl); (case hr => first | (go_simp; done) | (go_simp; rfl)); intro gb107 hg w3 hbox hb; have BK107 := am hbox; have GW107 := sG HB hg; have GE107 := sG HB hg; replace HB := bS HB hb; have NB106_107 := nL BK106 hg; have NB107_106 := nG BK106 hg; replace BK106 := bB BK106 hb; clear hb hbox hg; have hnb4 := NB106_107.out; have hnc4 := NB107_106.out; obtain ⟨_, _, _, _, _, _, _, _, _, _, _, _⟩ := zC6 BK106; obtain ⟨_, _, _, _, _, _, _, _, _, _, _, _⟩ := zC6 BK107))
 refine bodyPost_ret (results_cell_row rfl _ _ gb107 25 #[.int .i64 a0_0, .int .i64 a0_2, .int .i64 a0_4, .int .i64 a0_1, .int .i64 a0_3, .int .i64 a0_5] (0, 0) _ rfl (kkC BK107.out) Try.underlying25 rfl (by kernel_rfl)) rfl ?_
 exact ⟨sqE, fW HB.out⟩

def box_in.f (a0 : Int) : Option (Bool) := if a0 ≥ (-1000000) then (some (decide (a0 ≤ 1000000))) else (some false)
set_option maxHeartbeats 8000000 in
set_option maxRecDepth 100000 in
theorem box_in.calls (a0 : Int) (r : Bool) (w : World) (h : box_in.f a0 = some r) :
  Calls Try.prog 53 #[.int .i64 a0] w fun e w' => e = .returned (.bool r) ∧ Drawn0 w w' := by
 have H : (if a0 ≥ (-1000000) then (some (decide (a0 ≤ 1000000))) else (some false)) = some r := h
 clear h
 by_cases c2 : a0 ≥ (-1000000)
 ·rw [if_pos c2] at H
  have c2b0 : decide ((-1000000) ≤ a0) = true := decide_eq_true c2
  clear c2
  obtain rfl := Option.some.inj H
  go_enter Try.func53, Try.ntmps53
  go_wp2
  go_ret
  exact ⟨by first | rfl | (simp; done) | (simp [*]; done), by repeat (first | exact Drawn0.refl _ | apply Drawn0.step)⟩
 ·rw [if_neg c2] at H
  have c2b0 : decide ((-1000000) ≤ a0) = false := decide_eq_false c2
  clear c2
  obtain rfl := Option.some.inj H
  go_enter Try.func53, Try.ntmps53
  go_wp2
  go_ret
  exact ⟨by first | rfl | (simp; done) | (simp [*]; done), by repeat (first | exact Drawn0.refl _ | apply Drawn0.step)⟩

def box_Check.f (a0_0 : Int) (a0_1 : Int) (a0_2 : Int) (a0_3 : Int) (a0_4 : Int) (a0_5 : Int) : Option (Int) := (box_sides.f a0_0 a0_1 a0_2 a0_3 a0_4 a0_5).bind fun bt109 => ((box_in.f bt109.1).bind fun t116 => (if t116 = true then ((box_in.f bt109.2.1).bind fun t117 => (if t117 = true then ((box_in.f bt109.2.2.1).bind fun t119 => (if t119 = true then ((box_in.f bt109.2.2.2.1).bind fun t120 => (if t120 = true then ((box_in.f bt109.2.2.2.2.1).bind fun t122 => (if t122 = true then ((box_in.f bt109.2.2.2.2.2).bind fun t123 => (if t123 = true then ((box_sides.f a0_0 a0_1 a0_2 a0_3 a0_4 a0_5).bind fun bt124 => (if bt124.1 ≥ bt124.2.1 then (some 1) else (if bt124.2.2.1 ≥ bt124.2.2.2.1 then (some 1) else (if bt124.2.2.2.2.1 ≥ bt124.2.2.2.2.2 then (some 1) else (some 0))))) else (some 6))) else (some 6))) else (some 6))) else (some 6))) else (some 6))) else (some 6)))
set_option maxHeartbeats 8000000 in
set_option maxRecDepth 100000 in
theorem box_Check.calls (a0_0 : Int) (a0_1 : Int) (a0_2 : Int) (a0_3 : Int) (a0_4 : Int) (a0_5 : Int) (r : Int) (w : World) (h : box_Check.f a0_0 a0_1 a0_2 a0_3 a0_4 a0_5 = some r) :
  Calls Try.prog 20 #[.agg #[.int .i64 a0_0, .int .i64 a0_1, .int .i64 a0_2, .int .i64 a0_3, .int .i64 a0_4, .int .i64 a0_5]] w fun e w' => e = .returned (.int .i64 r) ∧ Below w.heap.size w w' := by
 have hu25 := Try.underlying25
 have hu73 := Try.underlying73
 have hu72 := Try.underlying72
 have hix73_0 : ∀ (e0_ e1_ e2_ e3_ e4_ e5_ : Value) (W_ : World), Sem.run Try.prog (Instr.index 73 (.agg #[e0_, e1_, e2_, e3_, e4_, e5_]) (.int .i64 0)) W_ = .ok (.agg #[e0_, e1_]) W_ := fun _ _ _ _ _ _ _  => by kernel_rfl
 have hix73_1 : ∀ (e0_ e1_ e2_ e3_ e4_ e5_ : Value) (W_ : World), Sem.run Try.prog (Instr.index 73 (.agg #[e0_, e1_, e2_, e3_, e4_, e5_]) (.int .i64 1)) W_ = .ok (.agg #[e2_, e3_]) W_ := fun _ _ _ _ _ _ _  => by kernel_rfl
 have hix73_2 : ∀ (e0_ e1_ e2_ e3_ e4_ e5_ : Value) (W_ : World), Sem.run Try.prog (Instr.index 73 (.agg #[e0_, e1_, e2_, e3_, e4_, e5_]) (.int .i64 2)) W_ = .ok (.agg #[e4_, e5_]) W_ := fun _ _ _ _ _ _ _  => by kernel_rfl
 have HB := am (Below.refl w.heap.size w)
 have H : ((box_sides.f a0_0 a0_1 a0_2 a0_3 a0_4 a0_5).bind fun bt109 => ((box_in.f bt109.1).bind fun t116 => (if t116 = true then ((box_in.f bt109.2.1).bind fun t117 => (if t117 = true then ((box_in.f bt109.2.2.1).bind fun t119 => (if t119 = true then ((box_in.f bt109.2.2.2.1).bind fun t120 => (if t120 = true then ((box_in.f bt109.2.2.2.2.1).bind fun t122 => (if t122 = true then ((box_in.f bt109.2.2.2.2.2).bind fun t123 => (if t123 = true then ((box_sides.f a0_0 a0_1 a0_2 a0_3 a0_4 a0_5).bind fun bt124 => (if bt124.1 ≥ bt124.2.1 then (some 1) else (if bt124.2.2.1 ≥ bt124.2.2.2.1 then (some 1) else (if bt124.2.2.2.2.1 ≥ bt124.2.2.2.2.2 then (some 1) else (some 0))))) else (some 6))) else (some 6))) else (some 6))) else (some 6))) else (some 6))) else (some 6)))) = some r := h
 clear h
 replace H := Option.bind_eq_some_iff.mp H
 obtain ⟨⟨t109, t110, t111, t112, t113, t114⟩, A20, H⟩ := H
 replace H : ((box_in.f t109).bind fun t116 => (if t116 = true then ((box_in.f t110).bind fun t117 => (if t117 = true then ((box_in.f t111).bind fun t119 => (if t119 = true then ((box_in.f t112).bind fun t120 => (if t120 = true then ((box_in.f t113).bind fun t122 => (if t122 = true then ((box_in.f t114).bind fun t123 => (if t123 = true then ((box_sides.f a0_0 a0_1 a0_2 a0_3 a0_4 a0_5).bind fun bt124 => (if bt124.1 ≥ bt124.2.1 then (some 1) else (if bt124.2.2.1 ≥ bt124.2.2.2.1 then (some 1) else (if bt124.2.2.2.2.1 ≥ bt124.2.2.2.2.2 then (some 1) else (some 0))))) else (some 6))) else (some 6))) else (some 6))) else (some 6))) else (some 6))) else (some 6))) = some r := H
 have A2 := am A20
 clear A20
 have HC3 := am H
 clear H
 go_enter Try.func20, Try.ntmps20
 go_wp2_with (first | ((with_reducible refine gd (N := 1) rfl ?_); refine be ?hg (N := 1) ?hd (cs := #[.int .i64 a0_0, .int .i64 a0_1, .int .i64 a0_2, .int .i64 a0_3, .int .i64 a0_4, .int .i64 a0_5]) (t := 25) ?hr ?_; (case hd | hg => rfl); (case hr => first | (go_simp; done) | (go_simp; rfl)); intro gb108 hg w4 hbox hb; have BK108 := am hbox; have GW108 := sG HB hg; have GE108 := sG HB hg; replace HB := bS HB hb; clear hb hbox hg; obtain ⟨_, _, _, _, _, _, _, _, _, _, _, _⟩ := zC6 BK108) | ((with_reducible refine gc (f := 52) rfl ?_); refine goesL_ (some 8) rfl rfl Try.func52 (by kernel_rfl) rfl #[.agg #[.int .i64 a0_0, .int .i64 a0_1, .int .i64 a0_2, .int .i64 a0_3, .int .i64 a0_4, .int .i64 a0_5]] rfl (by (try simp only [pml]); first | done | rfl | (simp only [pdt]; rfl)) ?_; (with_reducible refine (box_sides.calls a0_0 a0_1 a0_2 a0_3 a0_4 a0_5 t109 t110 t111 t112 t113 t114 _ A2.out).mono ?_); rintro e w6 ⟨rfl, hb⟩; refine ⟨_, rfl, ?_⟩; replace BK108 := bB BK108 hb; replace HB := bS HB hb; (try clear hb); (try clear hb2); (try clear hk); (try clear hi)))
 refine wp_loop_rounds 9 ?_
 rw [rounds_succ]
 have H := HC3.out
 clear HC3
 replace H := Option.bind_eq_some_iff.mp H
 obtain ⟨t116, A70, H⟩ := H
 replace H : (if t116 = true then ((box_in.f t110).bind fun t117 => (if t117 = true then ((box_in.f t111).bind fun t119 => (if t119 = true then ((box_in.f t112).bind fun t120 => (if t120 = true then ((box_in.f t113).bind fun t122 => (if t122 = true then ((box_in.f t114).bind fun t123 => (if t123 = true then ((box_sides.f a0_0 a0_1 a0_2 a0_3 a0_4 a0_5).bind fun bt124 => (if bt124.1 ≥ bt124.2.1 then (some 1) else (if bt124.2.2.1 ≥ bt124.2.2.2.1 then (some 1) else (if bt124.2.2.2.2.1 ≥ bt124.2.2.2.2.2 then (some 1) else (some 0))))) else (some 6))) else (some 6))) else (some 6))) else (some 6))) else (some 6))) else (some 6)) = some r := H
 have A7 := am A70
 clear A70
 by_cases c8 : t116 = true
 ·subst c8
  have H1 : ((box_in.f t110).bind fun t117 => (if t117 = true then ((box_in.f t111).bind fun t119 => (if t119 = true then ((box_in.f t112).bind fun t120 => (if t120 = true then ((box_in.f t113).bind fun t122 => (if t122 = true then ((box_in.f t114).bind fun t123 => (if t123 = true then ((box_sides.f a0_0 a0_1 a0_2 a0_3 a0_4 a0_5).bind fun bt124 => (if bt124.1 ≥ bt124.2.1 then (some 1) else (if bt124.2.2.1 ≥ bt124.2.2.2.1 then (some 1) else (if bt124.2.2.2.2.1 ≥ bt124.2.2.2.2.2 then (some 1) else (some 0))))) else (some 6))) else (some 6))) else (some 6))) else (some 6))) else (some 6))) = some r := by rw [if_pos rfl] at H; exact H
  clear H
  have H := H1
  clear H1
  replace H := Option.bind_eq_some_iff.mp H
  obtain ⟨t117, A90, H⟩ := H
  replace H : (if t117 = true then ((box_in.f t111).bind fun t119 => (if t119 = true then ((box_in.f t112).bind fun t120 => (if t120 = true then ((box_in.f t113).bind fun t122 => (if t122 = true then ((box_in.f t114).bind fun t123 => (if t123 = true then ((box_sides.f a0_0 a0_1 a0_2 a0_3 a0_4 a0_5).bind fun bt124 => (if bt124.1 ≥ bt124.2.1 then (some 1) else (if bt124.2.2.1 ≥ bt124.2.2.2.1 then (some 1) else (if bt124.2.2.2.2.1 ≥ bt124.2.2.2.2.2 then (some 1) else (some 0))))) else (some 6))) else (some 6))) else (some 6))) else (some 6))) else (some 6)) = some r := H
  have A9 := am A90
  clear A90
  by_cases c10 : t117 = true
  rotate_left
  ·replace c10 := Bool.eq_false_iff.mpr c10
   subst c10
   have H1 : (some 6) = some r := by rw [if_neg (show ¬ (false = true) by decide)] at H; exact H
   clear H
   have H := H1
   clear H1
   obtain rfl := Option.some.inj H
   go_wp2_with (first | ((with_reducible refine gd (N := 4) rfl ?_); refine be ?hg (N := 4) ?hd (cs := #[.int .i64 0, .int .i64 0]) (t := 72) ?hr ?_; (case hd | hg => rfl); (case hr => first | (go_simp; done) | (go_simp; rfl)); intro gb115 hg w107 hbox hb; have BK115 := am hbox; have GW115 := sG HB hg; have GE115 := sG HB hg; replace HB := bS HB hb; have NB108_115 := nL BK108 hg; have NB115_108 := nG BK108 hg; replace BK108 := bB BK108 hb; clear hb hbox hg; have hnb108 := NB115_108.out; have hnc108 := NB108_115.out; obtain ⟨_, _, _, _⟩ := zC2 BK115) | ((with_reducible refine gc (f := 53) rfl ?_); refine goesL_ (some 14) rfl rfl Try.func53 (by kernel_rfl) rfl #[.int .i64 t109] rfl (by (try simp only [pml]); first | done | rfl | (simp only [pdt]; rfl)) ?_; (with_reducible refine (box_in.calls t109 true _ A7.out).mono ?_); rintro e w' ⟨rfl, ⟨nd, rfl⟩⟩; refine ⟨_, rfl, ?_⟩) | (go_at_call 53; (with_reducible refine (box_in.calls t110 false _ A9.out).mono ?_); rintro e w' ⟨rfl, ⟨nd, rfl⟩⟩))
   go_ret
   exact ⟨sqE, fW HB.out⟩
  subst c10
  have H1 : ((box_in.f t111).bind fun t119 => (if t119 = true then ((box_in.f t112).bind fun t120 => (if t120 = true then ((box_in.f t113).bind fun t122 => (if t122 = true then ((box_in.f t114).bind fun t123 => (if t123 = true then ((box_sides.f a0_0 a0_1 a0_2 a0_3 a0_4 a0_5).bind fun bt124 => (if bt124.1 ≥ bt124.2.1 then (some 1) else (if bt124.2.2.1 ≥ bt124.2.2.2.1 then (some 1) else (if bt124.2.2.2.2.1 ≥ bt124.2.2.2.2.2 then (some 1) else (some 0))))) else (some 6))) else (some 6))) else (some 6))) else (some 6))) = some r := by rw [if_pos rfl] at H; exact H
  clear H
  have H := H1
  clear H1
  have HC11 := am H
  clear H
  go_wp2_with (first | ((with_reducible refine gd (N := 4) rfl ?_); refine be ?hg (N := 4) ?hd (cs := #[.int .i64 0, .int .i64 0]) (t := 72) ?hr ?_; (case hd | hg => rfl); (case hr => first | (go_simp; done) | (go_simp; rfl)); intro gb115 hg w12 hbox hb; have BK115 := am hbox; have GW115 := sG HB hg; have GE115 := sG HB hg; replace HB := bS HB hb; have NB108_115 := nL BK108 hg; have NB115_108 := nG BK108 hg; replace BK108 := bB BK108 hb; clear hb hbox hg; have hnb13 := NB115_108.out; have hnc13 := NB108_115.out; obtain ⟨_, _, _, _⟩ := zC2 BK115) | ((with_reducible refine gc (f := 53) rfl ?_); refine goesL_ (some 14) rfl rfl Try.func53 (by kernel_rfl) rfl #[.int .i64 t109] rfl (by (try simp only [pml]); first | done | rfl | (simp only [pdt]; rfl)) ?_; (with_reducible refine (box_in.calls t109 true _ A7.out).mono ?_); rintro e w' ⟨rfl, ⟨nd, rfl⟩⟩; refine ⟨_, rfl, ?_⟩) | (go_at_call 53; (with_reducible refine (box_in.calls t110 true _ A9.out).mono ?_); rintro e w' ⟨rfl, ⟨nd, rfl⟩⟩))
  rw [rounds_succ]
  have H := HC11.out
  clear HC11
  replace H := Option.bind_eq_some_iff.mp H
  obtain ⟨t119, A150, H⟩ := H
  replace H : (if t119 = true then ((box_in.f t112).bind fun t120 => (if t120 = true then ((box_in.f t113).bind fun t122 => (if t122 = true then ((box_in.f t114).bind fun t123 => (if t123 = true then ((box_sides.f a0_0 a0_1 a0_2 a0_3 a0_4 a0_5).bind fun bt124 => (if bt124.1 ≥ bt124.2.1 then (some 1) else (if bt124.2.2.1 ≥ bt124.2.2.2.1 then (some 1) else (if bt124.2.2.2.2.1 ≥ bt124.2.2.2.2.2 then (some 1) else (some 0))))) else (some 6))) else (some 6))) else (some 6))) else (some 6)) = some r := H
  have A15 := am A150
  clear A150
  by_cases c16 : t119 = true
  rotate_left
  ·replace c16 := Bool.eq_false_iff.mpr c16
   subst c16
   have H1 : (some 6) = some r := by rw [if_neg (show ¬ (false = true) by decide)] at H; exact H
   clear H
   have H := H1
   clear H1
   obtain rfl := Option.some.inj H
   go_wp2_with (first | ((with_reducible refine gd (N := 4) rfl ?_); refine be ?hg (N := 4) ?hd (cs := #[.int .i64 0, .int .i64 0]) (t := 72) ?hr ?_; (case hd | hg => rfl); (case hr => first | (go_simp; done) | (go_simp; rfl)); intro gb118 hg w103 hbox hb; have BK118 := am hbox; have GW118 := sG HB hg; have GE118 := sG HB hg; replace HB := bS HB hb; replace BK108 := xC3 (kfC BK108.out) hg hb; obtain ⟨NB108_118, NB118_108, BK108⟩ := BK108; replace BK115 := xC3 (o := .cells #[.int .i64 t109, .int .i64 t110] 72 (0, 0)) (kkC BK115.out) hg hb; obtain ⟨NB115_118, NB118_115, BK115⟩ := BK115; clear hb hbox hg; have hnb104 := NB118_108.out; have hnc104 := NB108_118.out; have hnb105 := NB118_115.out; have hnc105 := NB115_118.out; obtain ⟨_, _, _, _⟩ := zC2 BK118) | ((with_reducible refine gc (f := 53) rfl ?_); refine goesL_ (some 14) rfl rfl Try.func53 (by kernel_rfl) rfl #[.int .i64 t111] rfl (by (try simp only [pml]); first | done | rfl | (simp only [pdt]; rfl)) ?_; (with_reducible refine (box_in.calls t111 false _ A15.out).mono ?_); rintro e w' ⟨rfl, ⟨nd, rfl⟩⟩; refine ⟨_, rfl, ?_⟩))
   go_ret
   exact ⟨sqE, fW HB.out⟩
  subst c16
  have H1 : ((box_in.f t112).bind fun t120 => (if t120 = true then ((box_in.f t113).bind fun t122 => (if t122 = true then ((box_in.f t114).bind fun t123 => (if t123 = true then ((box_sides.f a0_0 a0_1 a0_2 a0_3 a0_4 a0_5).bind fun bt124 => (if bt124.1 ≥ bt124.2.1 then (some 1) else (if bt124.2.2.1 ≥ bt124.2.2.2.1 then (some 1) else (if bt124.2.2.2.2.1 ≥ bt124.2.2.2.2.2 then (some 1) else (some 0))))) else (some 6))) else (some 6))) else (some 6))) = some r := by rw [if_pos rfl] at H; exact H
  clear H
  have H := H1
  clear H1
  replace H := Option.bind_eq_some_iff.mp H
  obtain ⟨t120, A170, H⟩ := H
  replace H : (if t120 = true then ((box_in.f t113).bind fun t122 => (if t122 = true then ((box_in.f t114).bind fun t123 => (if t123 = true then ((box_sides.f a0_0 a0_1 a0_2 a0_3 a0_4 a0_5).bind fun bt124 => (if bt124.1 ≥ bt124.2.1 then (some 1) else (if bt124.2.2.1 ≥ bt124.2.2.2.1 then (some 1) else (if bt124.2.2.2.2.1 ≥ bt124.2.2.2.2.2 then (some 1) else (some 0))))) else (some 6))) else (some 6))) else (some 6)) = some r := H
  have A17 := am A170
  clear A170
  by_cases c18 : t120 = true
  rotate_left
  ·replace c18 := Bool.eq_false_iff.mpr c18
   subst c18
   have H1 : (some 6) = some r := by rw [if_neg (show ¬ (false = true) by decide)] at H; exact H
   clear H
   have H := H1
   clear H1
   obtain rfl := Option.some.inj H
   go_wp2_with (first | ((with_reducible refine gd (N := 4) rfl ?_); refine be ?hg (N := 4) ?hd (cs := #[.int .i64 0, .int .i64 0]) (t := 72) ?hr ?_; (case hd | hg => rfl); (case hr => first | (go_simp; done) | (go_simp; rfl)); intro gb118 hg w99 hbox hb; have BK118 := am hbox; have GW118 := sG HB hg; have GE118 := sG HB hg; replace HB := bS HB hb; replace BK108 := xC3 (kfC BK108.out) hg hb; obtain ⟨NB108_118, NB118_108, BK108⟩ := BK108; replace BK115 := xC3 (o := .cells #[.int .i64 t109, .int .i64 t110] 72 (0, 0)) (kkC BK115.out) hg hb; obtain ⟨NB115_118, NB118_115, BK115⟩ := BK115; clear hb hbox hg; have hnb100 := NB118_108.out; have hnc100 := NB108_118.out; have hnb101 := NB118_115.out; have hnc101 := NB115_118.out; obtain ⟨_, _, _, _⟩ := zC2 BK118) | ((with_reducible refine gc (f := 53) rfl ?_); refine goesL_ (some 14) rfl rfl Try.func53 (by kernel_rfl) rfl #[.int .i64 t111] rfl (by (try simp only [pml]); first | done | rfl | (simp only [pdt]; rfl)) ?_; (with_reducible refine (box_in.calls t111 true _ A15.out).mono ?_); rintro e w' ⟨rfl, ⟨nd, rfl⟩⟩; refine ⟨_, rfl, ?_⟩) | (go_at_call 53; (with_reducible refine (box_in.calls t112 false _ A17.out).mono ?_); rintro e w' ⟨rfl, ⟨nd, rfl⟩⟩))
   go_ret
   exact ⟨sqE, fW HB.out⟩
  subst c18
  have H1 : ((box_in.f t113).bind fun t122 => (if t122 = true then ((box_in.f t114).bind fun t123 => (if t123 = true then ((box_sides.f a0_0 a0_1 a0_2 a0_3 a0_4 a0_5).bind fun bt124 => (if bt124.1 ≥ bt124.2.1 then (some 1) else (if bt124.2.2.1 ≥ bt124.2.2.2.1 then (some 1) else (if bt124.2.2.2.2.1 ≥ bt124.2.2.2.2.2 then (some 1) else (some 0))))) else (some 6))) else (some 6))) = some r := by rw [if_pos rfl] at H; exact H
  clear H
  have H := H1
  clear H1
  have HC19 := am H
  clear H
  go_wp2_with (first | ((with_reducible refine gd (N := 4) rfl ?_); refine be ?hg (N := 4) ?hd (cs := #[.int .i64 0, .int .i64 0]) (t := 72) ?hr ?_; (case hd | hg => rfl); (case hr => first | (go_simp; done) | (go_simp; rfl)); intro gb118 hg w20 hbox hb; have BK118 := am hbox; have GW118 := sG HB hg; have GE118 := sG HB hg; replace HB := bS HB hb; replace BK108 := xC3 (kfC BK108.out) hg hb; obtain ⟨NB108_118, NB118_108, BK108⟩ := BK108; replace BK115 := xC3 (o := .cells #[.int .i64 t109, .int .i64 t110] 72 (0, 0)) (kkC BK115.out) hg hb; obtain ⟨NB115_118, NB118_115, BK115⟩ := BK115; clear hb hbox hg; have hnb21 := NB118_108.out; have hnc21 := NB108_118.out; have hnb22 := NB118_115.out; have hnc22 := NB115_118.out; obtain ⟨_, _, _, _⟩ := zC2 BK118) | ((with_reducible refine gc (f := 53) rfl ?_); refine goesL_ (some 14) rfl rfl Try.func53 (by kernel_rfl) rfl #[.int .i64 t111] rfl (by (try simp only [pml]); first | done | rfl | (simp only [pdt]; rfl)) ?_; (with_reducible refine (box_in.calls t111 true _ A15.out).mono ?_); rintro e w' ⟨rfl, ⟨nd, rfl⟩⟩; refine ⟨_, rfl, ?_⟩) | (go_at_call 53; (with_reducible refine (box_in.calls t112 true _ A17.out).mono ?_); rintro e w' ⟨rfl, ⟨nd, rfl⟩⟩))
  rw [rounds_succ]
  have H := HC19.out
  clear HC19
  replace H := Option.bind_eq_some_iff.mp H
  obtain ⟨t122, A240, H⟩ := H
  replace H : (if t122 = true then ((box_in.f t114).bind fun t123 => (if t123 = true then ((box_sides.f a0_0 a0_1 a0_2 a0_3 a0_4 a0_5).bind fun bt124 => (if bt124.1 ≥ bt124.2.1 then (some 1) else (if bt124.2.2.1 ≥ bt124.2.2.2.1 then (some 1) else (if bt124.2.2.2.2.1 ≥ bt124.2.2.2.2.2 then (some 1) else (some 0))))) else (some 6))) else (some 6)) = some r := H
  have A24 := am A240
  clear A240
  by_cases c25 : t122 = true
  rotate_left
  ·replace c25 := Bool.eq_false_iff.mpr c25
   subst c25
   have H1 : (some 6) = some r := by rw [if_neg (show ¬ (false = true) by decide)] at H; exact H
   clear H
   have H := H1
   clear H1
   obtain rfl := Option.some.inj H
   go_wp2_with (first | ((with_reducible refine gd (N := 4) rfl ?_); refine be ?hg (N := 4) ?hd (cs := #[.int .i64 0, .int .i64 0]) (t := 72) ?hr ?_; (case hd | hg => rfl); (case hr => first | (go_simp; done) | (go_simp; rfl)); intro gb121 hg w94 hbox hb; have BK121 := am hbox; have GW121 := sG HB hg; have GE121 := sG HB hg; replace HB := bS HB hb; replace BK108 := xC3 (kfC BK108.out) hg hb; obtain ⟨NB108_121, NB121_108, BK108⟩ := BK108; replace BK115 := xC3 (kfC BK115.out) hg hb; obtain ⟨NB115_121, NB121_115, BK115⟩ := BK115; replace BK118 := xC3 (o := .cells #[.int .i64 t111, .int .i64 t112] 72 (0, 0)) (kkC BK118.out) hg hb; obtain ⟨NB118_121, NB121_118, BK118⟩ := BK118; clear hb hbox hg; have hnb95 := NB121_108.out; have hnc95 := NB108_121.out; have hnb96 := NB121_115.out; have hnc96 := NB115_121.out; have hnb97 := NB121_118.out; have hnc97 := NB118_121.out; obtain ⟨_, _, _, _⟩ := zC2 BK121) | ((with_reducible refine gc (f := 53) rfl ?_); refine goesL_ (some 14) rfl rfl Try.func53 (by kernel_rfl) rfl #[.int .i64 t113] rfl (by (try simp only [pml]); first | done | rfl | (simp only [pdt]; rfl)) ?_; (with_reducible refine (box_in.calls t113 false _ A24.out).mono ?_); rintro e w' ⟨rfl, ⟨nd, rfl⟩⟩; refine ⟨_, rfl, ?_⟩))
   go_ret
   exact ⟨sqE, fW HB.out⟩
  subst c25
  have H1 : ((box_in.f t114).bind fun t123 => (if t123 = true then ((box_sides.f a0_0 a0_1 a0_2 a0_3 a0_4 a0_5).bind fun bt124 => (if bt124.1 ≥ bt124.2.1 then (some 1) else (if bt124.2.2.1 ≥ bt124.2.2.2.1 then (some 1) else (if bt124.2.2.2.2.1 ≥ bt124.2.2.2.2.2 then (some 1) else (some 0))))) else (some 6))) = some r := by rw [if_pos rfl] at H; exact H
  clear H
  have H := H1
  clear H1
  replace H := Option.bind_eq_some_iff.mp H
  obtain ⟨t123, A260, H⟩ := H
  replace H : (if t123 = true then ((box_sides.f a0_0 a0_1 a0_2 a0_3 a0_4 a0_5).bind fun bt124 => (if bt124.1 ≥ bt124.2.1 then (some 1) else (if bt124.2.2.1 ≥ bt124.2.2.2.1 then (some 1) else (if bt124.2.2.2.2.1 ≥ bt124.2.2.2.2.2 then (some 1) else (some 0))))) else (some 6)) = some r := H
  have A26 := am A260
  clear A260
  by_cases c27 : t123 = true
  rotate_left
  ·replace c27 := Bool.eq_false_iff.mpr c27
   subst c27
   have H1 : (some 6) = some r := by rw [if_neg (show ¬ (false = true) by decide)] at H; exact H
   clear H
   have H := H1
   clear H1
   obtain rfl := Option.some.inj H
   go_wp2_with (first | ((with_reducible refine gd (N := 4) rfl ?_); refine be ?hg (N := 4) ?hd (cs := #[.int .i64 0, .int .i64 0]) (t := 72) ?hr ?_; (case hd | hg => rfl); (case hr => first | (go_simp; done) | (go_simp; rfl)); intro gb121 hg w89 hbox hb; have BK121 := am hbox; have GW121 := sG HB hg; have GE121 := sG HB hg; replace HB := bS HB hb; replace BK108 := xC3 (kfC BK108.out) hg hb; obtain ⟨NB108_121, NB121_108, BK108⟩ := BK108; replace BK115 := xC3 (kfC BK115.out) hg hb; obtain ⟨NB115_121, NB121_115, BK115⟩ := BK115; replace BK118 := xC3 (o := .cells #[.int .i64 t111, .int .i64 t112] 72 (0, 0)) (kkC BK118.out) hg hb; obtain ⟨NB118_121, NB121_118, BK118⟩ := BK118; clear hb hbox hg; have hnb90 := NB121_108.out; have hnc90 := NB108_121.out; have hnb91 := NB121_115.out; have hnc91 := NB115_121.out; have hnb92 := NB121_118.out; have hnc92 := NB118_121.out; obtain ⟨_, _, _, _⟩ := zC2 BK121) | ((with_reducible refine gc (f := 53) rfl ?_); refine goesL_ (some 14) rfl rfl Try.func53 (by kernel_rfl) rfl #[.int .i64 t113] rfl (by (try simp only [pml]); first | done | rfl | (simp only [pdt]; rfl)) ?_; (with_reducible refine (box_in.calls t113 true _ A24.out).mono ?_); rintro e w' ⟨rfl, ⟨nd, rfl⟩⟩; refine ⟨_, rfl, ?_⟩) | (go_at_call 53; (with_reducible refine (box_in.calls t114 false _ A26.out).mono ?_); rintro e w' ⟨rfl, ⟨nd, rfl⟩⟩))
   go_ret
   exact ⟨sqE, fW HB.out⟩
  subst c27
  have H1 : ((box_sides.f a0_0 a0_1 a0_2 a0_3 a0_4 a0_5).bind fun bt124 => (if bt124.1 ≥ bt124.2.1 then (some 1) else (if bt124.2.2.1 ≥ bt124.2.2.2.1 then (some 1) else (if bt124.2.2.2.2.1 ≥ bt124.2.2.2.2.2 then (some 1) else (some 0))))) = some r := by rw [if_pos rfl] at H; exact H
  clear H
  have H := H1
  clear H1
  have HC28 := am H
  clear H
  go_wp2_with (first | ((with_reducible refine gd (N := 4) rfl ?_); refine be ?hg (N := 4) ?hd (cs := #[.int .i64 0, .int .i64 0]) (t := 72) ?hr ?_; (case hd | hg => rfl); (case hr => first | (go_simp; done) | (go_simp; rfl)); intro gb121 hg w29 hbox hb; have BK121 := am hbox; have GW121 := sG HB hg; have GE121 := sG HB hg; replace HB := bS HB hb; replace BK108 := xC3 (kfC BK108.out) hg hb; obtain ⟨NB108_121, NB121_108, BK108⟩ := BK108; replace BK115 := xC3 (kfC BK115.out) hg hb; obtain ⟨NB115_121, NB121_115, BK115⟩ := BK115; replace BK118 := xC3 (o := .cells #[.int .i64 t111, .int .i64 t112] 72 (0, 0)) (kkC BK118.out) hg hb; obtain ⟨NB118_121, NB121_118, BK118⟩ := BK118; clear hb hbox hg; have hnb30 := NB121_108.out; have hnc30 := NB108_121.out; have hnb31 := NB121_115.out; have hnc31 := NB115_121.out; have hnb32 := NB121_118.out; have hnc32 := NB118_121.out; obtain ⟨_, _, _, _⟩ := zC2 BK121) | ((with_reducible refine gc (f := 53) rfl ?_); refine goesL_ (some 14) rfl rfl Try.func53 (by kernel_rfl) rfl #[.int .i64 t113] rfl (by (try simp only [pml]); first | done | rfl | (simp only [pdt]; rfl)) ?_; (with_reducible refine (box_in.calls t113 true _ A24.out).mono ?_); rintro e w' ⟨rfl, ⟨nd, rfl⟩⟩; refine ⟨_, rfl, ?_⟩) | (go_at_call 53; (with_reducible refine (box_in.calls t114 true _ A26.out).mono ?_); rintro e w' ⟨rfl, ⟨nd, rfl⟩⟩))
  rw [rounds_succ]
  have H := HC28.out
  clear HC28
  replace H := Option.bind_eq_some_iff.mp H
  obtain ⟨⟨t124, t125, t126, t127, t128, t129⟩, A340, H⟩ := H
  replace H : (if t124 ≥ t125 then (some 1) else (if t126 ≥ t127 then (some 1) else (if t128 ≥ t129 then (some 1) else (some 0)))) = some r := H
  have A34 := am A340
  clear A340
  have HC35 := am H
  clear H
  have hnb36 := NB108_115.out
  have hnc36 := NB115_108.out
  have hnb37 := NB108_118.out
  have hnc37 := NB118_108.out
  have hnb38 := NB108_121.out
  have hnc38 := NB121_108.out
  have := yC1 BK108
  have := kC1 BK108
  have := kC2 BK108
  have := kC3 BK108
  have := kC4 BK108
  have := kC5 BK108
  have := blk_frozen BK108.out 0
  have := blk_frozen BK108.out 1
  have := blk_frozen BK108.out 2
  have := blk_frozen BK108.out 3
  have := blk_frozen BK108.out 4
  have := blk_frozen BK108.out 5
  go_wp2_with (first | ((with_reducible refine gc (f := 52) rfl ?_); refine goesL_ (some 24) rfl rfl Try.func52 (by kernel_rfl) rfl #[.agg #[.int .i64 a0_0, .int .i64 a0_1, .int .i64 a0_2, .int .i64 a0_3, .int .i64 a0_4, .int .i64 a0_5]] rfl (by (try simp only [pml]); first | done | rfl | (simp only [pdt]; rfl)) ?_; (with_reducible refine (box_sides.calls a0_0 a0_1 a0_2 a0_3 a0_4 a0_5 t124 t125 t126 t127 t128 t129 _ A34.out).mono ?_); rintro e w40 ⟨rfl, hb⟩; refine ⟨_, rfl, ?_⟩; replace BK108 := xC1 (kfC BK108.out) hb; replace BK115 := xC1 (kfC BK115.out) hb; replace BK118 := xC1 (kfC BK118.out) hb; replace BK121 := xC1 (o := .cells #[.int .i64 t113, .int .i64 t114] 72 (0, 0)) (kkC BK121.out) hb; replace HB := bS HB hb; (try clear hb); (try clear hb2); (try clear hk); (try clear hi)))
  refine wp_loop_rounds 9 ?_
  rw [rounds_succ]
  have H := HC35.out
  clear HC35
  by_cases c41 : t124 ≥ t125
  ·rw [if_pos c41] at H
   have c41b0 : decide (t125 ≤ t124) = true := decide_eq_true c41
   clear c41
   obtain rfl := Option.some.inj H
   go_wp2_with (first | ((with_reducible refine gd (N := 6) rfl ?_); refine be ?hg (N := 6) ?hd (cs := #[.int .i64 0, .int .i64 0]) (t := 72) ?hr ?_; (case hd | hg => rfl); (case hr => first | (go_simp; done) | (go_simp; rfl)); intro gb130 hg w42 hbox hb; have BK130 := am hbox; have GW130 := sG HB hg; have GE130 := sG HB hg; replace HB := bS HB hb; have NB108_130 := nL BK108 hg; have NB130_108 := nG BK108 hg; replace BK108 := bB BK108 hb; have NB115_130 := nL BK115 hg; have NB130_115 := nG BK115 hg; replace BK115 := bB BK115 hb; have NB118_130 := nL BK118 hg; have NB130_118 := nG BK118 hg; replace BK118 := bB BK118 hb; have NB121_130 := nL BK121 hg; have NB130_121 := nG BK121 hg; replace BK121 := bB BK121 hb; clear hb hbox hg; have hnb43 := NB130_108.out; have hnc43 := NB108_130.out; have hnb44 := NB130_115.out; have hnc44 := NB115_130.out; have hnb45 := NB130_118.out; have hnc45 := NB118_130.out; have hnb46 := NB130_121.out; have hnc46 := NB121_130.out; obtain ⟨_, _, _, _⟩ := zC2 BK130))
   go_ret
   exact ⟨sqE, fW HB.out⟩
  rw [if_neg c41] at H
  have c41b0 : decide (t125 ≤ t124) = false := decide_eq_false c41
  clear c41
  have HC48 := am H
  clear H
  go_wp2_with (first | ((with_reducible refine gd (N := 6) rfl ?_); refine be ?hg (N := 6) ?hd (cs := #[.int .i64 0, .int .i64 0]) (t := 72) ?hr ?_; (case hd | hg => rfl); (case hr => first | (go_simp; done) | (go_simp; rfl)); intro gb130 hg w49 hbox hb; have BK130 := am hbox; have GW130 := sG HB hg; have GE130 := sG HB hg; replace HB := bS HB hb; have NB108_130 := nL BK108 hg; have NB130_108 := nG BK108 hg; replace BK108 := bB BK108 hb; have NB115_130 := nL BK115 hg; have NB130_115 := nG BK115 hg; replace BK115 := bB BK115 hb; have NB118_130 := nL BK118 hg; have NB130_118 := nG BK118 hg; replace BK118 := bB BK118 hb; have NB121_130 := nL BK121 hg; have NB130_121 := nG BK121 hg; replace BK121 := bB BK121 hb; clear hb hbox hg; have hnb50 := NB130_108.out; have hnc50 := NB108_130.out; have hnb51 := NB130_115.out; have hnc51 := NB115_130.out; have hnb52 := NB130_118.out; have hnc52 := NB118_130.out; have hnb53 := NB130_121.out; have hnc53 := NB121_130.out; obtain ⟨_, _, _, _⟩ := zC2 BK130))
  rw [rounds_succ]
  have H := HC48.out
  clear HC48
  by_cases c55 : t126 ≥ t127
  ·rw [if_pos c55] at H
   have c55b0 : decide (t127 ≤ t126) = true := decide_eq_true c55
   clear c55
   obtain rfl := Option.some.inj H
   go_wp2_with (first | ((with_reducible refine gd (N := 6) rfl ?_); refine be ?hg (N := 6) ?hd (cs := #[.int .i64 0, .int .i64 0]) (t := 72) ?hr ?_; (case hd | hg => rfl); (case hr => first | (go_simp; done) | (go_simp; rfl)); intro gb131 hg w56 hbox hb; have BK131 := am hbox; have GW131 := sG HB hg; have GE131 := sG HB hg; replace HB := bS HB hb; replace BK108 := xC3 (kfC BK108.out) hg hb; obtain ⟨NB108_131, NB131_108, BK108⟩ := BK108; replace BK115 := xC3 (kfC BK115.out) hg hb; obtain ⟨NB115_131, NB131_115, BK115⟩ := BK115; replace BK118 := xC3 (kfC BK118.out) hg hb; obtain ⟨NB118_131, NB131_118, BK118⟩ := BK118; replace BK121 := xC3 (kfC BK121.out) hg hb; obtain ⟨NB121_131, NB131_121, BK121⟩ := BK121; replace BK130 := xC3 (o := .cells #[.int .i64 t124, .int .i64 t125] 72 (0, 0)) (kkC BK130.out) hg hb; obtain ⟨NB130_131, NB131_130, BK130⟩ := BK130; clear hb hbox hg; have hnb57 := NB131_108.out; have hnc57 := NB108_131.out; have hnb58 := NB131_115.out; have hnc58 := NB115_131.out; have hnb59 := NB131_118.out; have hnc59 := NB118_131.out; have hnb60 := NB131_121.out; have hnc60 := NB121_131.out; have hnb61 := NB131_130.out; have hnc61 := NB130_131.out; obtain ⟨_, _, _, _⟩ := zC2 BK131))
   go_ret
   exact ⟨sqE, fW HB.out⟩
  rw [if_neg c55] at H
  have c55b0 : decide (t127 ≤ t126) = false := decide_eq_false c55
  clear c55
  have HC63 := am H
  clear H
  go_wp2_with (first | ((with_reducible refine gd (N := 6) rfl ?_); refine be ?hg (N := 6) ?hd (cs := #[.int .i64 0, .int .i64 0]) (t := 72) ?hr ?_; (case hd | hg => rfl); (case hr => first | (go_simp; done) | (go_simp; rfl)); intro gb131 hg w64 hbox hb; have BK131 := am hbox; have GW131 := sG HB hg; have GE131 := sG HB hg; replace HB := bS HB hb; replace BK108 := xC3 (kfC BK108.out) hg hb; obtain ⟨NB108_131, NB131_108, BK108⟩ := BK108; replace BK115 := xC3 (kfC BK115.out) hg hb; obtain ⟨NB115_131, NB131_115, BK115⟩ := BK115; replace BK118 := xC3 (kfC BK118.out) hg hb; obtain ⟨NB118_131, NB131_118, BK118⟩ := BK118; replace BK121 := xC3 (kfC BK121.out) hg hb; obtain ⟨NB121_131, NB131_121, BK121⟩ := BK121; replace BK130 := xC3 (o := .cells #[.int .i64 t124, .int .i64 t125] 72 (0, 0)) (kkC BK130.out) hg hb; obtain ⟨NB130_131, NB131_130, BK130⟩ := BK130; clear hb hbox hg; have hnb65 := NB131_108.out; have hnc65 := NB108_131.out; have hnb66 := NB131_115.out; have hnc66 := NB115_131.out; have hnb67 := NB131_118.out; have hnc67 := NB118_131.out; have hnb68 := NB131_121.out; have hnc68 := NB121_131.out; have hnb69 := NB131_130.out; have hnc69 := NB130_131.out; obtain ⟨_, _, _, _⟩ := zC2 BK131))
  rw [rounds_succ]
  have H := HC63.out
  clear HC63
  by_cases c71 : t128 ≥ t129
  ·rw [if_pos c71] at H
   have c71b0 : decide (t129 ≤ t128) = true := decide_eq_true c71
   clear c71
   obtain rfl := Option.some.inj H
   go_wp2_with (first | ((with_reducible refine gd (N := 6) rfl ?_); refine be ?hg (N := 6) ?hd (cs := #[.int .i64 0, .int .i64 0]) (t := 72) ?hr ?_; (case hd | hg => rfl); (case hr => first | (go_simp; done) | (go_simp; rfl)); intro gb132 hg w72 hbox hb; have BK132 := am hbox; have GW132 := sG HB hg; have GE132 := sG HB hg; replace HB := bS HB hb; replace BK108 := xC3 (kfC BK108.out) hg hb; obtain ⟨NB108_132, NB132_108, BK108⟩ := BK108; replace BK115 := xC3 (kfC BK115.out) hg hb; obtain ⟨NB115_132, NB132_115, BK115⟩ := BK115; replace BK118 := xC3 (kfC BK118.out) hg hb; obtain ⟨NB118_132, NB132_118, BK118⟩ := BK118; replace BK121 := xC3 (kfC BK121.out) hg hb; obtain ⟨NB121_132, NB132_121, BK121⟩ := BK121; replace BK130 := xC3 (kfC BK130.out) hg hb; obtain ⟨NB130_132, NB132_130, BK130⟩ := BK130; replace BK131 := xC3 (o := .cells #[.int .i64 t126, .int .i64 t127] 72 (0, 0)) (kkC BK131.out) hg hb; obtain ⟨NB131_132, NB132_131, BK131⟩ := BK131; clear hb hbox hg; have hnb73 := NB132_108.out; have hnc73 := NB108_132.out; have hnb74 := NB132_115.out; have hnc74 := NB115_132.out; have hnb75 := NB132_118.out; have hnc75 := NB118_132.out; have hnb76 := NB132_121.out; have hnc76 := NB121_132.out; have hnb77 := NB132_130.out; have hnc77 := NB130_132.out; have hnb78 := NB132_131.out; have hnc78 := NB131_132.out; obtain ⟨_, _, _, _⟩ := zC2 BK132))
   go_ret
   exact ⟨sqE, fW HB.out⟩
  rw [if_neg c71] at H
  have c71b0 : decide (t129 ≤ t128) = false := decide_eq_false c71
  clear c71
  have HC80 := am H
  clear H
  go_wp2_with (first | ((with_reducible refine gd (N := 6) rfl ?_); refine be ?hg (N := 6) ?hd (cs := #[.int .i64 0, .int .i64 0]) (t := 72) ?hr ?_; (case hd | hg => rfl); (case hr => first | (go_simp; done) | (go_simp; rfl)); intro gb132 hg w81 hbox hb; have BK132 := am hbox; have GW132 := sG HB hg; have GE132 := sG HB hg; replace HB := bS HB hb; replace BK108 := xC3 (kfC BK108.out) hg hb; obtain ⟨NB108_132, NB132_108, BK108⟩ := BK108; replace BK115 := xC3 (kfC BK115.out) hg hb; obtain ⟨NB115_132, NB132_115, BK115⟩ := BK115; replace BK118 := xC3 (kfC BK118.out) hg hb; obtain ⟨NB118_132, NB132_118, BK118⟩ := BK118; replace BK121 := xC3 (kfC BK121.out) hg hb; obtain ⟨NB121_132, NB132_121, BK121⟩ := BK121; replace BK130 := xC3 (kfC BK130.out) hg hb; obtain ⟨NB130_132, NB132_130, BK130⟩ := BK130; replace BK131 := xC3 (o := .cells #[.int .i64 t126, .int .i64 t127] 72 (0, 0)) (kkC BK131.out) hg hb; obtain ⟨NB131_132, NB132_131, BK131⟩ := BK131; clear hb hbox hg; have hnb82 := NB132_108.out; have hnc82 := NB108_132.out; have hnb83 := NB132_115.out; have hnc83 := NB115_132.out; have hnb84 := NB132_118.out; have hnc84 := NB118_132.out; have hnb85 := NB132_121.out; have hnc85 := NB121_132.out; have hnb86 := NB132_130.out; have hnc86 := NB130_132.out; have hnb87 := NB132_131.out; have hnc87 := NB131_132.out; obtain ⟨_, _, _, _⟩ := zC2 BK132))
  rw [rounds_succ]
  have H := HC80.out
  clear HC80
  obtain rfl := Option.some.inj H
  go_wp2
  go_ret
  exact ⟨sqE, fW HB.out⟩
 ·replace c8 := Bool.eq_false_iff.mpr c8
  subst c8
  have H1 : (some 6) = some r := by rw [if_neg (show ¬ (false = true) by decide)] at H; exact H
  clear H
  have H := H1
  clear H1
  obtain rfl := Option.some.inj H
  go_wp2_with (first | ((with_reducible refine gd (N := 4) rfl ?_); refine be ?hg (N := 4) ?hd (cs := #[.int .i64 0, .int .i64 0]) (t := 72) ?hr ?_; (case hd | hg => rfl); (case hr => first | (go_simp; done) | (go_simp; rfl)); intro gb115 hg w110 hbox hb; have BK115 := am hbox; have GW115 := sG HB hg; have GE115 := sG HB hg; replace HB := bS HB hb; have NB108_115 := nL BK108 hg; have NB115_108 := nG BK108 hg; replace BK108 := bB BK108 hb; clear hb hbox hg; have hnb111 := NB115_108.out; have hnc111 := NB108_115.out; obtain ⟨_, _, _, _⟩ := zC2 BK115) | ((with_reducible refine gc (f := 53) rfl ?_); refine goesL_ (some 14) rfl rfl Try.func53 (by kernel_rfl) rfl #[.int .i64 t109] rfl (by (try simp only [pml]); first | done | rfl | (simp only [pdt]; rfl)) ?_; (with_reducible refine (box_in.calls t109 false _ A7.out).mono ?_); rintro e w' ⟨rfl, ⟨nd, rfl⟩⟩; refine ⟨_, rfl, ?_⟩))
  go_ret
  exact ⟨sqE, fW HB.out⟩

end Go.Proofs.Ytmmdikhmlmoolaa.QA
