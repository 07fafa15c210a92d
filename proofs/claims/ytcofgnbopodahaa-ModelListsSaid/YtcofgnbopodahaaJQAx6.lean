import Derived.Test.YtcofgnbopodahaaJQAx0
import Derived.Test.YtcofgnbopodahaaJQAx5
namespace Go.Proofs.Ytcofgnbopodahaa.QA
open Go.RowKit Go.Proofs.YtcofgnbopodahaaW.PrintWords Go.Proofs.YtcofgnbopodahaaW.PrintLast Go.Proofs.YtcofgnbopodahaaW.PrintMore
open Go.Proofs.YtcofgnbopodahaaW.PrintWords renaming blk_drewN → bN, blk_drew → bd, blk_alloc → ba, blk_frozen → bf, blk_put → bp, gate_callee → gc
open Aside0 renaming mk → am
attribute [local go_sem] max2_int min2_int max_two min_two max_three min_three max_four min_four
set_option linter.unusedVariables false
set_option linter.unusedSimpArgs false

def box_Has.j0 : Nat → Bool → Option (Bool)
 | 0, _ => none
 | k + 1, x4 => some x4
def box_Has.f (k : Nat) (a0_0 : Int) (a0_1 : Int) (a0_2 : Int) (a0_3 : Int) (a0_4 : Int) (a0_5 : Int) (a1_0 : Int) (a1_1 : Int) (a1_2 : Int) : Option (Bool) := if a0_0 ≤ a1_0 then (if a1_0 < a0_3 then (if a0_1 ≤ a1_1 then (if a1_1 < a0_4 then (if a0_2 ≤ a1_2 then (box_Has.j0 k (decide (a1_2 < a0_5))) else (box_Has.j0 k false)) else (box_Has.j0 k false)) else (box_Has.j0 k false)) else (box_Has.j0 k false)) else (box_Has.j0 k false)
set_option maxHeartbeats 8000000 in
set_option maxRecDepth 100000 in
theorem box_Has.calls (k : Nat) (a0_0 : Int) (a0_1 : Int) (a0_2 : Int) (a0_3 : Int) (a0_4 : Int) (a0_5 : Int) (a1_0 : Int) (a1_1 : Int) (a1_2 : Int) (r : Bool) (w : World) (h : box_Has.f k a0_0 a0_1 a0_2 a0_3 a0_4 a0_5 a1_0 a1_1 a1_2 = some r) :
  Calls Try.prog 38 #[.agg #[.int .i64 a0_0, .int .i64 a0_1, .int .i64 a0_2, .int .i64 a0_3, .int .i64 a0_4, .int .i64 a0_5], .agg #[.int .i64 a1_0, .int .i64 a1_1, .int .i64 a1_2]] w fun e w' => e = .returned (.bool r) ∧ Below w.heap.size w w' := by
 have hu43 := Try.underlying43
 have hu24 := Try.underlying24
 have HB := am (Below.refl w.heap.size w)
 have H : (if a0_0 ≤ a1_0 then (if a1_0 < a0_3 then (if a0_1 ≤ a1_1 then (if a1_1 < a0_4 then (if a0_2 ≤ a1_2 then (box_Has.j0 k (decide (a1_2 < a0_5))) else (box_Has.j0 k false)) else (box_Has.j0 k false)) else (box_Has.j0 k false)) else (box_Has.j0 k false)) else (box_Has.j0 k false)) = some r := h
 clear h
 have HC3 := am H
 clear H
 go_enter Try.func38, Try.ntmps38
 go_upto_region 1 with (first | ((with_reducible refine gate_dst (N := 2) rfl ?_); refine box_event ?hg (N := 2) ?hd (cs := #[.int .i64 a0_0, .int .i64 a0_1, .int .i64 a0_2, .int .i64 a0_3, .int .i64 a0_4, .int .i64 a0_5]) (t := 43) ?hr ?_; (case hd | hg => rfl); (case hr => first | (go_simp; done) | (go_simp; rfl)); intro gb137 hg w4 hbox hb; have BK137 := am hbox; have GW137 := sG HB hg; have GE137 := sG HB hg; replace HB := bS HB hb; clear hb hbox hg) | ((with_reducible refine gate_dst (N := 3) rfl ?_); refine box_event ?hg (N := 3) ?hd (cs := #[.int .i64 a1_0, .int .i64 a1_1, .int .i64 a1_2]) (t := 24) ?hr ?_; (case hd | hg => rfl); (case hr => first | (go_simp; done) | (go_simp; rfl)); intro gb138 hg w5 hbox hb; have BK138 := am hbox; have GW138 := sG HB hg; have GE138 := sG HB hg; replace HB := bS HB hb; have NB137_138 := nL BK137 hg; have NB138_137 := nG BK137 hg; replace BK137 := bB BK137 hb; clear hb hbox hg))
 (try simp only [Act.put, psl])
 go_cut [4] (fun v4 wc => ∃ (kq : Nat) (x4_2 : Bool), v4 = .bool x4_2 ∧ Aside0 (box_Has.j0 kq x4_2 = some r) ∧ Aside0 (kq ≤ k) ∧ Aside0 (wc.heap[gb137]? = some (.cells #[.int .i64 a0_0, .int .i64 a0_1, .int .i64 a0_2, .int .i64 a0_3, .int .i64 a0_4, .int .i64 a0_5] 43 (0, 0))) ∧ Aside0 (wc.heap[gb138]? = some (.cells #[.int .i64 a1_0, .int .i64 a1_1, .int .i64 a1_2] 24 (0, 0))) ∧ Aside0 (Below w.heap.size w wc))
 case first =>
  have H := HC3.out
  clear HC3
  by_cases c6 : a0_0 ≤ a1_0
  rotate_left
  ·rw [if_neg c6] at H
   have c6b0 : decide (a0_0 ≤ a1_0) = false := decide_eq_false c6
   clear c6
   (first | rw [c6b0] | (simp only [i64_w, i32_w]; rw [c6b0]) | skip)
   have H' := am H
   clear H
   have hnb26 := NB137_138.out
   have hnc26 := NB138_137.out
   have := yC1 BK137
   have := kC1 BK137
   have := kC2 BK137
   have := kC3 BK137
   have := kC4 BK137
   have := kC5 BK137
   have := bf BK137.out 0
   have := bf BK137.out 1
   have := bf BK137.out 2
   have := bf BK137.out 3
   have := bf BK137.out 4
   have := bf BK137.out 5
   have := yC1 BK138
   have := kC1 BK138
   have := kC2 BK138
   have := bf BK138.out 0
   have := bf BK138.out 1
   have := bf BK138.out 2
   go_wp2
   go_meet
   case rel => exact ⟨_, (false), sqD, H', ⟨by first | omega | exact Nat.le_refl _⟩, ⟨fb BK137.out⟩, ⟨fb BK138.out⟩, ⟨fW HB.out⟩⟩
  rw [if_pos c6] at H
  have c6b0 : decide (a0_0 ≤ a1_0) = true := decide_eq_true c6
  clear c6
  (first | rw [c6b0] | (simp only [i64_w, i32_w]; rw [c6b0]) | skip)
  by_cases c7 : a1_0 < a0_3
  rotate_left
  ·rw [if_neg c7] at H
   have c7b0 : decide (a1_0 < a0_3) = false := decide_eq_false c7
   clear c7
   have H' := am H
   clear H
   have hnb23 := NB137_138.out
   have hnc23 := NB138_137.out
   have := yC1 BK137
   have := kC1 BK137
   have := kC2 BK137
   have := kC3 BK137
   have := kC4 BK137
   have := kC5 BK137
   have := bf BK137.out 0
   have := bf BK137.out 1
   have := bf BK137.out 2
   have := bf BK137.out 3
   have := bf BK137.out 4
   have := bf BK137.out 5
   have := yC1 BK138
   have := kC1 BK138
   have := kC2 BK138
   have := bf BK138.out 0
   have := bf BK138.out 1
   have := bf BK138.out 2
   go_wp2
   go_meet
   case rel => exact ⟨_, (false), sqD, H', ⟨by first | omega | exact Nat.le_refl _⟩, ⟨fb BK137.out⟩, ⟨fb BK138.out⟩, ⟨fW HB.out⟩⟩
  rw [if_pos c7] at H
  have c7b0 : decide (a1_0 < a0_3) = true := decide_eq_true c7
  clear c7
  by_cases c8 : a0_1 ≤ a1_1
  rotate_left
  ·rw [if_neg c8] at H
   have c8b0 : decide (a0_1 ≤ a1_1) = false := decide_eq_false c8
   clear c8
   have H' := am H
   clear H
   have hnb20 := NB137_138.out
   have hnc20 := NB138_137.out
   have := yC1 BK137
   have := kC1 BK137
   have := kC2 BK137
   have := kC3 BK137
   have := kC4 BK137
   have := kC5 BK137
   have := bf BK137.out 0
   have := bf BK137.out 1
   have := bf BK137.out 2
   have := bf BK137.out 3
   have := bf BK137.out 4
   have := bf BK137.out 5
   have := yC1 BK138
   have := kC1 BK138
   have := kC2 BK138
   have := bf BK138.out 0
   have := bf BK138.out 1
   have := bf BK138.out 2
   go_wp2
   go_meet
   case rel => exact ⟨_, (false), sqD, H', ⟨by first | omega | exact Nat.le_refl _⟩, ⟨fb BK137.out⟩, ⟨fb BK138.out⟩, ⟨fW HB.out⟩⟩
  rw [if_pos c8] at H
  have c8b0 : decide (a0_1 ≤ a1_1) = true := decide_eq_true c8
  clear c8
  by_cases c9 : a1_1 < a0_4
  rotate_left
  ·rw [if_neg c9] at H
   have c9b0 : decide (a1_1 < a0_4) = false := decide_eq_false c9
   clear c9
   have H' := am H
   clear H
   have hnb17 := NB137_138.out
   have hnc17 := NB138_137.out
   have := yC1 BK137
   have := kC1 BK137
   have := kC2 BK137
   have := kC3 BK137
   have := kC4 BK137
   have := kC5 BK137
   have := bf BK137.out 0
   have := bf BK137.out 1
   have := bf BK137.out 2
   have := bf BK137.out 3
   have := bf BK137.out 4
   have := bf BK137.out 5
   have := yC1 BK138
   have := kC1 BK138
   have := kC2 BK138
   have := bf BK138.out 0
   have := bf BK138.out 1
   have := bf BK138.out 2
   go_wp2
   go_meet
   case rel => exact ⟨_, (false), sqD, H', ⟨by first | omega | exact Nat.le_refl _⟩, ⟨fb BK137.out⟩, ⟨fb BK138.out⟩, ⟨fW HB.out⟩⟩
  rw [if_pos c9] at H
  have c9b0 : decide (a1_1 < a0_4) = true := decide_eq_true c9
  clear c9
  by_cases c10 : a0_2 ≤ a1_2
  ·rw [if_pos c10] at H
   have c10b0 : decide (a0_2 ≤ a1_2) = true := decide_eq_true c10
   clear c10
   have H' := am H
   clear H
   have hnb11 := NB137_138.out
   have hnc11 := NB138_137.out
   have := yC1 BK137
   have := kC1 BK137
   have := kC2 BK137
   have := kC3 BK137
   have := kC4 BK137
   have := kC5 BK137
   have := bf BK137.out 0
   have := bf BK137.out 1
   have := bf BK137.out 2
   have := bf BK137.out 3
   have := bf BK137.out 4
   have := bf BK137.out 5
   have := yC1 BK138
   have := kC1 BK138
   have := kC2 BK138
   have := bf BK138.out 0
   have := bf BK138.out 1
   have := bf BK138.out 2
   go_wp2
   go_meet
   case rel => exact ⟨_, (decide (a1_2 < a0_5)), sqD, H', ⟨by first | omega | exact Nat.le_refl _⟩, ⟨fb BK137.out⟩, ⟨fb BK138.out⟩, ⟨fW HB.out⟩⟩
  rw [if_neg c10] at H
  have c10b0 : decide (a0_2 ≤ a1_2) = false := decide_eq_false c10
  clear c10
  have H' := am H
  clear H
  have hnb14 := NB137_138.out
  have hnc14 := NB138_137.out
  have := yC1 BK137
  have := kC1 BK137
  have := kC2 BK137
  have := kC3 BK137
  have := kC4 BK137
  have := kC5 BK137
  have := bf BK137.out 0
  have := bf BK137.out 1
  have := bf BK137.out 2
  have := bf BK137.out 3
  have := bf BK137.out 4
  have := bf BK137.out 5
  have := yC1 BK138
  have := kC1 BK138
  have := kC2 BK138
  have := bf BK138.out 0
  have := bf BK138.out 1
  have := bf BK138.out 2
  go_wp2
  go_meet
  case rel => exact ⟨_, (false), sqD, H', ⟨by first | omega | exact Nat.le_refl _⟩, ⟨fb BK137.out⟩, ⟨fb BK138.out⟩, ⟨fW HB.out⟩⟩
 case rest =>
  clear HC3
  try clear c1;try clear c2;try clear p2;try clear c3;try clear c6;try clear c6b0;try clear c7;try clear c7b0;try clear c8;try clear c8b0;try clear c9;try clear c9b0;try clear c10;try clear c10b0;try clear c11;try clear c14;try clear c17;try clear c20;try clear c23;try clear c26
  obtain ⟨kq, x4_2, rfl, HA, HJ2, BK137, BK138, HB⟩ := hcut
  cases kq with
  | zero => exact absurd HA.out (by simp [box_Has.j0])
  | succ kj2 =>
   have H := HA.out
   clear HA
   simp only [box_Has.j0] at H
   obtain rfl := Option.some.inj H
   go_wp2
   go_ret
   exact ⟨sqE, fW HB.out⟩

def model_join.j0 : Nat → Int → Int → Bool → Option (Int)
 | 0, _, _, _ => none
 | k + 1, x0, x1, x5 => if x5 = true then (some x1) else (if x1 = 0 then (some x0) else (some 3))
def model_join.f (k : Nat) (a0 : Int) (a1 : Int) : Option (Int) := if a0 = 0 then (model_join.j0 k a0 a1 true) else (model_join.j0 k a0 a1 (a0 == a1))
set_option maxHeartbeats 8000000 in
set_option maxRecDepth 100000 in
theorem model_join.calls (k : Nat) (a0 : Int) (a1 : Int) (r : Int) (w : World) (h : model_join.f k a0 a1 = some r) :
  Calls Try.prog 48 #[.int .i64 a0, .int .i64 a1] w fun e w' => e = .returned (.int .i64 r) ∧ Drawn0 w w' := by
 have H : (if a0 = 0 then (model_join.j0 k a0 a1 true) else (model_join.j0 k a0 a1 (a0 == a1))) = some r := h
 clear h
 have HC3 := am H
 clear H
 go_enter Try.func48, Try.ntmps48
 go_upto_region 1 with (fail)
 go_cut [5] (fun v5 wc => ∃ (kq : Nat) (x5_2 : Bool), v5 = .bool x5_2 ∧ Aside0 (model_join.j0 kq a0 a1 x5_2 = some r) ∧ Aside0 (kq ≤ k) ∧ Drawn0 w wc)
 case first =>
  have H := HC3.out
  clear HC3
  by_cases c4 : a0 = 0
  ·rw [if_pos c4] at H
   have c4b0 : (a0 == 0) = true := beq_iff_eq.mpr c4
   have c4b1 : (a0 != 0) = false := bne_eq_false_iff_eq.mpr c4
   clear c4
   (first | rw [c4b0] | (simp only [i64_w, i32_w]; rw [c4b0]) | skip)
   have H' := am H
   clear H
   go_wp2
   go_meet
   case rel => exact ⟨_, (true), sqD, H', ⟨by first | omega | exact Nat.le_refl _⟩, by repeat (first | exact Drawn0.refl _ | apply Drawn0.step)⟩
  rw [if_neg c4] at H
  have c4b0 : (a0 == 0) = false := beq_eq_false_iff_ne.mpr c4
  have c4b1 : (a0 != 0) = true := bne_iff_ne.mpr c4
  (first | rw [c4b0] | (simp only [i64_w, i32_w]; rw [c4b0]) | skip)
  have H' := am H
  clear H
  go_wp2
  go_meet
  case rel => exact ⟨_, ((a0 == a1)), sqD, H', ⟨by first | omega | exact Nat.le_refl _⟩, by repeat (first | exact Drawn0.refl _ | apply Drawn0.step)⟩
 case rest =>
  clear HC3
  try clear p2;try clear c4;try clear c4b0;try clear c4b1
  obtain ⟨kq, x5_2, rfl, HA, HJ2, ⟨mc2, rfl⟩⟩ := hcut
  cases kq with
  | zero => exact absurd HA.out (by simp [model_join.j0])
  | succ kj2 =>
   have H := HA.out
   clear HA
   simp only [model_join.j0] at H
   by_cases c5 : x5_2 = true
   ·subst c5
    have H1 : (some a1) = some r := by rw [if_pos rfl] at H; exact H
    clear H
    have H := H1
    clear H1
    obtain rfl := Option.some.inj H
    go_wp2
    go_ret
    exact ⟨by first | rfl | (simp; done) | (simp [*]; done), by repeat (first | exact Drawn0.refl _ | apply Drawn0.step)⟩
   ·replace c5 := Bool.eq_false_iff.mpr c5
    subst c5
    have H1 : (if a1 = 0 then (some a0) else (some 3)) = some r := by rw [if_neg (show ¬ (false = true) by decide)] at H; exact H
    clear H
    have H := H1
    clear H1
    by_cases c6 : a1 = 0
    ·rw [if_pos c6] at H
     have c6b0 : (a1 == 0) = true := beq_iff_eq.mpr c6
     have c6b1 : (a1 != 0) = false := bne_eq_false_iff_eq.mpr c6
     clear c6
     obtain rfl := Option.some.inj H
     go_wp2
     go_ret
     exact ⟨by first | rfl | (simp; done) | (simp [*]; done), by repeat (first | exact Drawn0.refl _ | apply Drawn0.step)⟩
    ·rw [if_neg c6] at H
     have c6b0 : (a1 == 0) = false := beq_eq_false_iff_ne.mpr c6
     have c6b1 : (a1 != 0) = true := bne_iff_ne.mpr c6
     obtain rfl := Option.some.inj H
     go_wp2
     go_ret
     exact ⟨by first | rfl | (simp; done) | (simp [*]; done), by repeat (first | exact Drawn0.refl _ | apply Drawn0.step)⟩

mutual
def model_at.l0 : Nat → Int → List (S68) → Int → Int → Int → Int → Int → Option (Int)
 | 0, _, _, _, _, _, _, _ => none
 | k + 1, x5, x8, x9, x10, x140000, x140001, x140002 => if x10 < x9 then (if 0 ≤ x10 then (if x10 < (x8.length : Int) then ((box_Has.f k ((rd_T68 x8 x10).f1.f0.f0) ((rd_T68 x8 x10).f1.f0.f1) ((rd_T68 x8 x10).f1.f0.f2) ((rd_T68 x8 x10).f1.f1.f0) ((rd_T68 x8 x10).f1.f1.f1) ((rd_T68 x8 x10).f1.f1.f2) x140000 x140001 x140002).bind fun t142 => (if t142 = true then ((model_join.f k x5 ((rd_T68 x8 x10).f2)).bind fun t143 => (model_at.j1 k t143 x8 x9 x10 x140000 x140001 x140002)) else (model_at.j1 k x5 x8 x9 x10 x140000 x140001 x140002))) else (none)) else (none)) else (some x5)
def model_at.j1 : Nat → Int → List (S68) → Int → Int → Int → Int → Int → Option (Int)
 | 0, _, _, _, _, _, _, _ => none
 | k + 1, x5, x8, x9, x10, x140000, x140001, x140002 => model_at.l0 k x5 x8 x9 (wrap64 (x10 + 1)) x140000 x140001 x140002
end
def model_at.f (k : Nat) (l0 : List (S68)) (a1_0 : Int) (a1_1 : Int) (a1_2 : Int) : Option (Int) := model_at.l0 k 0 l0 (l0.length : Int) 0 a1_0 a1_1 a1_2
set_option maxHeartbeats 8000000 in
set_option maxRecDepth 100000 in
theorem model_at.calls (k : Nat) (A0 : Option Addr) (c0 : Nat) (l0 : List (S68)) (a1_0 : Int) (a1_1 : Int) (a1_2 : Int) (r : Int) (w : World) (hr0 : Kd.C k68 w A0 l0.length l0) (hc0 : l0.length ≤ c0) (h : model_at.f k l0 a1_0 a1_1 a1_2 = some r) :
  Calls Try.prog 37 #[.slice A0 l0.length c0, .agg #[.int .i64 a1_0, .int .i64 a1_1, .int .i64 a1_2]] w fun e w' => e = .returned (.int .i64 r) ∧ Below w.heap.size w w' := by
 have hu24 := Try.underlying24
 have hu68 := Try.underlying68
 have hu43 := Try.underlying43
 have HR0 := am hr0
 have HC0 := am hc0
 clear hr0 hc0
 have HB := am (Below.refl w.heap.size w)
 have H : (model_at.l0 k 0 l0 (l0.length : Int) 0 a1_0 a1_1 a1_2) = some r := h
 clear h
 have H' := am H
 clear H
 go_enter Try.func37, Try.ntmps37
 go_wp2_with (first | ((with_reducible refine gate_dst (N := 3) rfl ?_); refine box_event ?hg (N := 3) ?hd (cs := #[.int .i64 a1_0, .int .i64 a1_1, .int .i64 a1_2]) (t := 24) ?hr ?_; (case hd | hg => rfl); (case hr => first | (go_simp; done) | (go_simp; rfl)); intro gb139 hg w3 hbox hb; have BK139 := am hbox; have GW139 := sG HB hg; have GE139 := sG HB hg; replace HB := bS HB hb; clear hb hbox hg))
 go_loopg [5, 10] k (fun kq v5 v10 w' => ∃ (x5_1 : Int) (x10_1 : Int), v5 = .int .i64 x5_1 ∧ v10 = .int .i64 x10_1 ∧ Aside0 (model_at.l0 kq x5_1 l0 (l0.length : Int) x10_1 a1_0 a1_1 a1_2 = some r) ∧ Aside0 (kq ≤ k) ∧ Aside0 (w'.heap[gb139]? = some (.cells #[.int .i64 a1_0, .int .i64 a1_1, .int .i64 a1_2] 24 (0, 0))) ∧ Aside0 (Below w.heap.size w w'))
 case atStart => exact ⟨(0), (0), sqD, sqD, H', ⟨Nat.le_refl _⟩, ⟨fb BK139.out⟩, ⟨fW HB.out⟩⟩
 case round =>
  clear H'
  try clear p2;try clear c3
  obtain ⟨x5_1, x10_1, rfl, rfl, HA, HK1, BK139, HB⟩ := hrel
  cases gk with
  | zero => exact absurd HA.out (by simp [model_at.l0])
  | succ k1 =>
   have H := HA.out
   clear HA
   simp only [model_at.l0] at H
   by_cases c4 : x10_1 < (l0.length : Int)
   ·rw [if_pos c4] at H
    have c4b0 : decide (x10_1 < (l0.length : Int)) = true := decide_eq_true c4
    clear c4
    have HC5 := am H
    clear H
    go_upto_block 1 with (fail)
    go_cut [5] (fun v5 wc => ∃ (kq : Nat) (x5_4 : Int), v5 = .int .i64 x5_4 ∧ Aside0 (model_at.j1 kq x5_4 l0 (l0.length : Int) x10_1 a1_0 a1_1 a1_2 = some r) ∧ Aside0 (kq ≤ k1) ∧ Aside0 (wc.heap[gb139]? = some (.cells #[.int .i64 a1_0, .int .i64 a1_1, .int .i64 a1_2] 24 (0, 0))) ∧ Aside0 (Below w.heap.size w wc))
    case first =>
     have H := HC5.out
     clear HC5
     by_cases c6 : 0 ≤ x10_1
     rotate_left
     ·rw [if_neg c6] at H
      exact absurd H (by simp)
     rw [if_pos c6] at H
     have c6b0 : decide (0 ≤ x10_1) = true := decide_eq_true c6
     clear c6
     (first | rw [c6b0] | (simp only [i64_w, i32_w]; rw [c6b0]) | skip)
     by_cases c7 : x10_1 < (l0.length : Int)
     rotate_left
     ·rw [if_neg c7] at H
      exact absurd H (by simp)
     rw [if_pos c7] at H
     have c7b0 : decide (x10_1 < (l0.length : Int)) = true := decide_eq_true c7
     clear c7
     replace H := Option.bind_eq_some_iff.mp H
     obtain ⟨t142, A80, H⟩ := H
     replace H : (if t142 = true then ((model_join.f k1 x5_1 ((rd_T68 l0 x10_1).f2)).bind fun t143 => (model_at.j1 k1 t143 l0 (l0.length : Int) x10_1 a1_0 a1_1 a1_2)) else (model_at.j1 k1 x5_1 l0 (l0.length : Int) x10_1 a1_0 a1_1 a1_2)) = some r := H
     have A8 := am A80
     clear A80
     by_cases c9 : t142 = true
     ·subst c9
      have H1 : ((model_join.f k1 x5_1 ((rd_T68 l0 x10_1).f2)).bind fun t143 => (model_at.j1 k1 t143 l0 (l0.length : Int) x10_1 a1_0 a1_1 a1_2)) = some r := by rw [if_pos rfl] at H; exact H
      clear H
      have H := H1
      clear H1
      replace H := Option.bind_eq_some_iff.mp H
      obtain ⟨t143, A100, H⟩ := H
      replace H : (model_at.j1 k1 t143 l0 (l0.length : Int) x10_1 a1_0 a1_1 a1_2) = some r := H
      have A10 := am A100
      clear A100
      have H' := am H
      clear H
      have p140 : 0 ≤ (x10_1 : Int) := of_decide_eq_true (by assumption)
      have q140 : x10_1 < (l0.length : Int) := of_decide_eq_true (by assumption)
      obtain ⟨ad140, e140, hx140_0, hx140_1, hx140_2, hx140_3, hx140_4, hx140_5, hx140_6, hx140_7⟩ := at_T68 HR0.out x10_1 p140 q140
      cases e140
      replace hx140_0 := cl HB hx140_0
      replace hx140_1 := cl HB hx140_1
      replace hx140_2 := cl HB hx140_2
      replace hx140_3 := cl HB hx140_3
      replace hx140_4 := cl HB hx140_4
      replace hx140_5 := cl HB hx140_5
      replace hx140_6 := cl HB hx140_6
      replace hx140_7 := cl HB hx140_7
      replace p140 := eq_true p140
      replace q140 := eq_true q140
      go_wp2_with (first | ((with_reducible refine gate_dst (N := 7) rfl ?_); refine box_event ?hg (N := 7) ?hd (cs := #[.string (⟨#[]⟩ : ByteArray), .int .i64 0, .int .i64 0, .int .i64 0, .int .i64 0, .int .i64 0, .int .i64 0, .int .i64 0]) (t := 68) ?hr ?_; (case hd | hg => rfl); (case hr => first | (go_simp; done) | (go_simp; rfl)); intro gb141 hg w11 hbox hb; have BK141 := am hbox; have GW141 := sG HB hg; have GE141 := sG HB hg; replace HB := bS HB hb; have NB139_141 := nL BK139 hg; have NB141_139 := nG BK139 hg; replace BK139 := bB BK139 hb; clear hb hbox hg; have hnb12 := NB141_139.out; have hnc12 := NB139_141.out; obtain ⟨_, _, _, _, _, _⟩ := yC6 BK141; have hcz13_6 : w11.cell? ⟨gb141, 6, none⟩ = some (.int .i64 0) := (blk_cell BK141.out 6).trans rfl; have hcz13_7 : w11.cell? ⟨gb141, 7, none⟩ = some (.int .i64 0) := (blk_cell BK141.out 7).trans rfl; have := bf BK141.out 0; have := bf BK141.out 1; have := bf BK141.out 2; have := bf BK141.out 3; have := bf BK141.out 4; have := bf BK141.out 5; have := bf BK141.out 6; have := bf BK141.out 7; obtain ⟨_, _, _, _, _, _⟩ := zC3 BK139) | ((with_reducible refine gc (f := 38) rfl ?_); refine goesL_ (some 17) rfl rfl Try.func38 (by kernel_rfl) rfl #[.agg #[.int .i64 ((rd_T68 l0 x10_1).f1.f0.f0), .int .i64 ((rd_T68 l0 x10_1).f1.f0.f1), .int .i64 ((rd_T68 l0 x10_1).f1.f0.f2), .int .i64 ((rd_T68 l0 x10_1).f1.f1.f0), .int .i64 ((rd_T68 l0 x10_1).f1.f1.f1), .int .i64 ((rd_T68 l0 x10_1).f1.f1.f2)], .agg #[.int .i64 a1_0, .int .i64 a1_1, .int .i64 a1_2]] rfl (by (try simp only [pml]); first | done | rfl | (simp only [pdt]; rfl)) ?_; (with_reducible refine (box_Has.calls k1 ((rd_T68 l0 x10_1).f1.f0.f0) ((rd_T68 l0 x10_1).f1.f0.f1) ((rd_T68 l0 x10_1).f1.f0.f2) ((rd_T68 l0 x10_1).f1.f1.f0) ((rd_T68 l0 x10_1).f1.f1.f1) ((rd_T68 l0 x10_1).f1.f1.f2) a1_0 a1_1 a1_2 true _ A8.out).mono ?_); rintro e w15 ⟨rfl, hb⟩; refine ⟨_, rfl, ?_⟩; replace BK139 := xC1 (kfC BK139.out) hb; replace BK141 := am (blk_below (g := gb141) (o := .cells #[.string ((rd_T68 l0 x10_1).f0), .int .i64 ((rd_T68 l0 x10_1).f1.f0.f0), .int .i64 ((rd_T68 l0 x10_1).f1.f0.f1), .int .i64 ((rd_T68 l0 x10_1).f1.f0.f2), .int .i64 ((rd_T68 l0 x10_1).f1.f1.f0), .int .i64 ((rd_T68 l0 x10_1).f1.f1.f1), .int .i64 ((rd_T68 l0 x10_1).f1.f1.f2), .int .i64 ((rd_T68 l0 x10_1).f2)] 68 (0, 0)) (by (with_reducible repeat first | apply bN | apply bd | apply ba); refine bp (cs := #[.string ((rd_T68 l0 x10_1).f0), .int .i64 ((rd_T68 l0 x10_1).f1.f0.f0), .int .i64 ((rd_T68 l0 x10_1).f1.f0.f1), .int .i64 ((rd_T68 l0 x10_1).f1.f0.f2), .int .i64 ((rd_T68 l0 x10_1).f1.f1.f0), .int .i64 ((rd_T68 l0 x10_1).f1.f1.f1), .int .i64 ((rd_T68 l0 x10_1).f1.f1.f2), .int .i64 0]) ?_ 7 _ rfl; (with_reducible repeat first | apply bN | apply bd | apply ba); refine bp (cs := #[.string ((rd_T68 l0 x10_1).f0), .int .i64 ((rd_T68 l0 x10_1).f1.f0.f0), .int .i64 ((rd_T68 l0 x10_1).f1.f0.f1), .int .i64 ((rd_T68 l0 x10_1).f1.f0.f2), .int .i64 ((rd_T68 l0 x10_1).f1.f1.f0), .int .i64 ((rd_T68 l0 x10_1).f1.f1.f1), .int .i64 0, .int .i64 0]) ?_ 6 _ rfl; (with_reducible repeat first | apply bN | apply bd | apply ba); refine bp (cs := #[.string ((rd_T68 l0 x10_1).f0), .int .i64 ((rd_T68 l0 x10_1).f1.f0.f0), .int .i64 ((rd_T68 l0 x10_1).f1.f0.f1), .int .i64 ((rd_T68 l0 x10_1).f1.f0.f2), .int .i64 ((rd_T68 l0 x10_1).f1.f1.f0), .int .i64 0, .int .i64 0, .int .i64 0]) ?_ 5 _ rfl; (with_reducible repeat first | apply bN | apply bd | apply ba); refine bp (cs := #[.string ((rd_T68 l0 x10_1).f0), .int .i64 ((rd_T68 l0 x10_1).f1.f0.f0), .int .i64 ((rd_T68 l0 x10_1).f1.f0.f1), .int .i64 ((rd_T68 l0 x10_1).f1.f0.f2), .int .i64 0, .int .i64 0, .int .i64 0, .int .i64 0]) ?_ 4 _ rfl; (with_reducible repeat first | apply bN | apply bd | apply ba); refine bp (cs := #[.string ((rd_T68 l0 x10_1).f0), .int .i64 ((rd_T68 l0 x10_1).f1.f0.f0), .int .i64 ((rd_T68 l0 x10_1).f1.f0.f1), .int .i64 0, .int .i64 0, .int .i64 0, .int .i64 0, .int .i64 0]) ?_ 3 _ rfl; (with_reducible repeat first | apply bN | apply bd | apply ba); refine bp (cs := #[.string ((rd_T68 l0 x10_1).f0), .int .i64 ((rd_T68 l0 x10_1).f1.f0.f0), .int .i64 0, .int .i64 0, .int .i64 0, .int .i64 0, .int .i64 0, .int .i64 0]) ?_ 2 _ rfl; (with_reducible repeat first | apply bN | apply bd | apply ba); refine bp (cs := #[.string ((rd_T68 l0 x10_1).f0), .int .i64 0, .int .i64 0, .int .i64 0, .int .i64 0, .int .i64 0, .int .i64 0, .int .i64 0]) ?_ 1 _ rfl; (with_reducible repeat first | apply bN | apply bd | apply ba); refine bp (cs := #[.string (⟨#[]⟩ : ByteArray), .int .i64 0, .int .i64 0, .int .i64 0, .int .i64 0, .int .i64 0, .int .i64 0, .int .i64 0]) ?_ 0 _ rfl; (with_reducible repeat first | apply bN | apply bd | apply ba); exact BK141.out) hb); replace HB := bS HB hb; (try clear hb); (try clear hb2); (try clear hk); (try clear hi); obtain ⟨_, _, _, _, _, _⟩ := yC6 BK141; have hcz16_6 : w15.cell? ⟨gb141, 6, none⟩ = some (.int .i64 ((rd_T68 l0 x10_1).f1.f1.f2)) := (blk_cell BK141.out 6).trans rfl; have hcz16_7 : w15.cell? ⟨gb141, 7, none⟩ = some (.int .i64 ((rd_T68 l0 x10_1).f2)) := (blk_cell BK141.out 7).trans rfl; have := bf BK141.out 0; have := bf BK141.out 1; have := bf BK141.out 2; have := bf BK141.out 3; have := bf BK141.out 4; have := bf BK141.out 5; have := bf BK141.out 6; have := bf BK141.out 7) | ((with_reducible refine gc (f := 48) rfl ?_); refine goesL_ (some 21) rfl rfl Try.func48 (by kernel_rfl) rfl #[.int .i64 x5_1, .int .i64 ((rd_T68 l0 x10_1).f2)] rfl (by (try simp only [pml]); first | done | rfl | (simp only [pdt]; rfl)) ?_; (with_reducible refine (model_join.calls k1 x5_1 ((rd_T68 l0 x10_1).f2) t143 _ A10.out).mono ?_); rintro e w' ⟨rfl, ⟨nd, rfl⟩⟩; refine ⟨_, rfl, ?_⟩))
      go_meet
      case rel => exact ⟨_, (t143), sqD, H', ⟨by have := HK1.out; first | omega | exact Nat.le_refl _⟩, ⟨fb BK139.out⟩, ⟨fW HB.out⟩⟩
     replace c9 := Bool.eq_false_iff.mpr c9
     subst c9
     have H1 : (model_at.j1 k1 x5_1 l0 (l0.length : Int) x10_1 a1_0 a1_1 a1_2) = some r := by rw [if_neg (show ¬ (false = true) by decide)] at H; exact H
     clear H
     have H := H1
     clear H1
     have H' := am H
     clear H
     have p140 : 0 ≤ (x10_1 : Int) := of_decide_eq_true (by assumption)
     have q140 : x10_1 < (l0.length : Int) := of_decide_eq_true (by assumption)
     obtain ⟨ad140, e140, hx140_0, hx140_1, hx140_2, hx140_3, hx140_4, hx140_5, hx140_6, hx140_7⟩ := at_T68 HR0.out x10_1 p140 q140
     cases e140
     replace hx140_0 := cl HB hx140_0
     replace hx140_1 := cl HB hx140_1
     replace hx140_2 := cl HB hx140_2
     replace hx140_3 := cl HB hx140_3
     replace hx140_4 := cl HB hx140_4
     replace hx140_5 := cl HB hx140_5
     replace hx140_6 := cl HB hx140_6
     replace hx140_7 := cl HB hx140_7
     replace p140 := eq_true p140
     replace q140 := eq_true q140
     go_wp2_with (first | ((with_reducible refine gate_dst (N := 7) rfl ?_); refine box_event ?hg (N := 7) ?hd (cs := #[.string (⟨#[]⟩ : ByteArray), .int .i64 0, .int .i64 0, .int .i64 0, .int .i64 0, .int .i64 0, .int .i64 0, .int .i64 0]) (t := 68) ?hr ?_; (case hd | hg => rfl); (case hr => first | (go_simp; done) | (go_simp; rfl)); intro gb141 hg w17 hbox hb; have BK141 := am hbox; have GW141 := sG HB hg; have GE141 := sG HB hg; replace HB := bS HB hb; have NB139_141 := nL BK139 hg; have NB141_139 := nG BK139 hg; replace BK139 := bB BK139 hb; clear hb hbox hg; have hnb18 := NB141_139.out; have hnc18 := NB139_141.out; obtain ⟨_, _, _, _, _, _⟩ := yC6 BK141; have hcz19_6 : w17.cell? ⟨gb141, 6, none⟩ = some (.int .i64 0) := (blk_cell BK141.out 6).trans rfl; have hcz19_7 : w17.cell? ⟨gb141, 7, none⟩ = some (.int .i64 0) := (blk_cell BK141.out 7).trans rfl; have := bf BK141.out 0; have := bf BK141.out 1; have := bf BK141.out 2; have := bf BK141.out 3; have := bf BK141.out 4; have := bf BK141.out 5; have := bf BK141.out 6; have := bf BK141.out 7; obtain ⟨_, _, _, _, _, _⟩ := zC3 BK139) | ((with_reducible refine gc (f := 38) rfl ?_); refine goesL_ (some 17) rfl rfl Try.func38 (by kernel_rfl) rfl #[.agg #[.int .i64 ((rd_T68 l0 x10_1).f1.f0.f0), .int .i64 ((rd_T68 l0 x10_1).f1.f0.f1), .int .i64 ((rd_T68 l0 x10_1).f1.f0.f2), .int .i64 ((rd_T68 l0 x10_1).f1.f1.f0), .int .i64 ((rd_T68 l0 x10_1).f1.f1.f1), .int .i64 ((rd_T68 l0 x10_1).f1.f1.f2)], .agg #[.int .i64 a1_0, .int .i64 a1_1, .int .i64 a1_2]] rfl (by (try simp only [pml]); first | done | rfl | (simp only [pdt]; rfl)) ?_; (with_reducible refine (box_Has.calls k1 ((rd_T68 l0 x10_1).f1.f0.f0) ((rd_T68 l0 x10_1).f1.f0.f1) ((rd_T68 l0 x10_1).f1.f0.f2) ((rd_T68 l0 x10_1).f1.f1.f0) ((rd_T68 l0 x10_1).f1.f1.f1) ((rd_T68 l0 x10_1).f1.f1.f2) a1_0 a1_1 a1_2 false _ A8.out).mono ?_); rintro e w21 ⟨rfl, hb⟩; refine ⟨_, rfl, ?_⟩; replace BK139 := xC1 (kfC BK139.out) hb; replace BK141 := am (blk_below (g := gb141) (o := .cells #[.string ((rd_T68 l0 x10_1).f0), .int .i64 ((rd_T68 l0 x10_1).f1.f0.f0), .int .i64 ((rd_T68 l0 x10_1).f1.f0.f1), .int .i64 ((rd_T68 l0 x10_1).f1.f0.f2), .int .i64 ((rd_T68 l0 x10_1).f1.f1.f0), .int .i64 ((rd_T68 l0 x10_1).f1.f1.f1), .int .i64 ((rd_T68 l0 x10_1).f1.f1.f2), .int .i64 ((rd_T68 l0 x10_1).f2)] 68 (0, 0)) (by (with_reducible repeat first | apply bN | apply bd | apply ba); refine bp (cs := #[.string ((rd_T68 l0 x10_1).f0), .int .i64 ((rd_T68 l0 x10_1).f1.f0.f0), .int .i64 ((rd_T68 l0 x10_1).f1.f0.f1), .int .i64 ((rd_T68 l0 x10_1).f1.f0.f2), .int .i64 ((rd_T68 l0 x10_1).f1.f1.f0), .int .i64 ((rd_T68 l0 x10_1).f1.f1.f1), .int .i64 ((rd_T68 l0 x10_1).f1.f1.f2), .int .i64 0]) ?_ 7 _ rfl; (with_reducible repeat first | apply bN | apply bd | apply ba); refine bp (cs := #[.string ((rd_T68 l0 x10_1).f0), .int .i64 ((rd_T68 l0 x10_1).f1.f0.f0), .int .i64 ((rd_T68 l0 x10_1).f1.f0.f1), .int .i64 ((rd_T68 l0 x10_1).f1.f0.f2), .int .i64 ((rd_T68 l0 x10_1).f1.f1.f0), .int .i64 ((rd_T68 l0 x10_1).f1.f1.f1), .int .i64 0, .int .i64 0]) ?_ 6 _ rfl; (with_reducible repeat first | apply bN | apply bd | apply ba); refine bp (cs := #[.string ((rd_T68 l0 x10_1).f0), .int .i64 ((rd_T68 l0 x10_1).f1.f0.f0), .int .i64 ((rd_T68 l0 x10_1).f1.f0.f1), .int .i64 ((rd_T68 l0 x10_1).f1.f0.f2), .int .i64 ((rd_T68 l0 x10_1).f1.f1.f0), .int .i64 0, .int .i64 0, .int .i64 0]) ?_ 5 _ rfl; (with_reducible repeat first | apply bN | apply bd | apply ba); refine bp (cs := #[.string ((rd_T68 l0 x10_1).f0), .int .i64 ((rd_T68 l0 x10_1).f1.f0.f0), .int .i64 ((rd_T68 l0 x10_1).f1.f0.f1), .int .i64 ((rd_T68 l0 x10_1).f1.f0.f2), .int .i64 0, .int .i64 0, .int .i64 0, .int .i64 0]) ?_ 4 _ rfl; (with_reducible repeat first | apply bN | apply bd | apply ba); refine bp (cs := #[.string ((rd_T68 l0 x10_1).f0), .int .i64 ((rd_T68 l0 x10_1).f1.f0.f0), .int .i64 ((rd_T68 l0 x10_1).f1.f0.f1), .int .i64 0, .int .i64 0, .int .i64 0, .int .i64 0, .int .i64 0]) ?_ 3 _ rfl; (with_reducible repeat first | apply bN | apply bd | apply ba); refine bp (cs := #[.string ((rd_T68 l0 x10_1).f0), .int .i64 ((rd_T68 l0 x10_1).f1.f0.f0), .int .i64 0, .int .i64 0, .int .i64 0, .int .i64 0, .int .i64 0, .int .i64 0]) ?_ 2 _ rfl; (with_reducible repeat first | apply bN | apply bd | apply ba); refine bp (cs := #[.string ((rd_T68 l0 x10_1).f0), .int .i64 0, .int .i64 0, .int .i64 0, .int .i64 0, .int .i64 0, .int .i64 0, .int .i64 0]) ?_ 1 _ rfl; (with_reducible repeat first | apply bN | apply bd | apply ba); refine bp (cs := #[.string (⟨#[]⟩ : ByteArray), .int .i64 0, .int .i64 0, .int .i64 0, .int .i64 0, .int .i64 0, .int .i64 0, .int .i64 0]) ?_ 0 _ rfl; (with_reducible repeat first | apply bN | apply bd | apply ba); exact BK141.out) hb); replace HB := bS HB hb; (try clear hb); (try clear hb2); (try clear hk); (try clear hi)))
     go_meet
     case rel => exact ⟨_, (x5_1), sqD, H', ⟨by have := HK1.out; first | omega | exact Nat.le_refl _⟩, ⟨fb BK139.out⟩, ⟨fW HB.out⟩⟩
    case rest =>
     clear HC5
     try clear c1;try clear p1;try clear q1;try clear hx1;try clear p2;try clear c3;try clear c4;try clear c4b0;try clear c6;try clear c6b0;try clear c7;try clear c7b0;try clear c9;try clear c12;try clear p14;try clear q14;try clear hx14;try clear c18;try clear hcz13_6;try clear hcz13_7;try clear hcz16_6;try clear hcz16_7;try clear hcz19_6;try clear hcz19_7;try clear hx140_0;try clear hx140_1;try clear hx140_2;try clear hx140_3;try clear hx140_4;try clear hx140_5;try clear hx140_6;try clear hx140_7;try clear p140;try clear p2;try clear q140
     obtain ⟨kq, x5_4, rfl, HA, HJ4, BK139, HB⟩ := hcut
     cases kq with
     | zero => exact absurd HA.out (by simp [model_at.j1])
     | succ kj4 =>
      have H := HA.out
      clear HA
      simp only [model_at.j1] at H
      have H' := am H
      clear H
      go_wp2
      go_roundg kj4
      case measure => have := HK1.out; have := HJ4.out; omega
      case rel => exact ⟨(x5_4), (wrap64 (x10_1 + 1)), sqD, sqD, H', ⟨by have := HK1.out; have := HJ4.out; omega⟩, ⟨fb BK139.out⟩, ⟨fW HB.out⟩⟩
   ·rw [if_neg c4] at H
    have c4b0 : decide (x10_1 < (l0.length : Int)) = false := decide_eq_false c4
    clear c4
    obtain rfl := Option.some.inj H
    go_wp2
    go_ret
    exact ⟨sqE, fW HB.out⟩

def model_State.f (k : Nat) (l0 : List (S68)) (a1_0 : Int) (a1_1 : Int) (a1_2 : Int) : Option (Int × Int) := (model_Check.f k l0).bind fun t145 => (if t145 = 0 then ((model_cell.f a1_0 a1_1 a1_2).bind fun t146 => (if t146 = true then ((model_at.f k l0 a1_0 a1_1 a1_2).bind fun t147 => (some (t147, 0))) else (some (0, 6)))) else (some (0, t145)))
set_option maxHeartbeats 8000000 in
set_option maxRecDepth 100000 in
theorem model_State.calls (k : Nat) (A0 : Option Addr) (c0 : Nat) (l0 : List (S68)) (a1_0 : Int) (a1_1 : Int) (a1_2 : Int) (r1 : Int) (r2 : Int) (w : World) (hr0 : Kd.C k68 w A0 l0.length l0) (hc0 : l0.length ≤ c0) (h : model_State.f k l0 a1_0 a1_1 a1_2 = some (r1, r2)) :
  Calls Try.prog 13 #[.slice A0 l0.length c0, .agg #[.int .i64 a1_0, .int .i64 a1_1, .int .i64 a1_2]] w fun e w' => e = .returned (.tuple #[.int .i64 r1, .int .i64 r2]) ∧ Below w.heap.size w w' := by
 have hu24 := Try.underlying24
 have HR0 := am hr0
 have HC0 := am hc0
 clear hr0 hc0
 have HB := am (Below.refl w.heap.size w)
 have H : ((model_Check.f k l0).bind fun t145 => (if t145 = 0 then ((model_cell.f a1_0 a1_1 a1_2).bind fun t146 => (if t146 = true then ((model_at.f k l0 a1_0 a1_1 a1_2).bind fun t147 => (some (t147, 0))) else (some (0, 6)))) else (some (0, t145)))) = some (r1, r2) := h
 clear h
 replace H := Option.bind_eq_some_iff.mp H
 obtain ⟨t145, A30, H⟩ := H
 replace H : (if t145 = 0 then ((model_cell.f a1_0 a1_1 a1_2).bind fun t146 => (if t146 = true then ((model_at.f k l0 a1_0 a1_1 a1_2).bind fun t147 => (some (t147, 0))) else (some (0, 6)))) else (some (0, t145))) = some (r1, r2) := H
 have A3 := am A30
 clear A30
 by_cases c4 : t145 = 0
 ·rw [if_pos c4] at H
  have c4b0 : (t145 == 0) = true := beq_iff_eq.mpr c4
  have c4b1 : (t145 != 0) = false := bne_eq_false_iff_eq.mpr c4
  clear c4
  replace H := Option.bind_eq_some_iff.mp H
  obtain ⟨t146, A50, H⟩ := H
  replace H : (if t146 = true then ((model_at.f k l0 a1_0 a1_1 a1_2).bind fun t147 => (some (t147, 0))) else (some (0, 6))) = some (r1, r2) := H
  have A5 := am A50
  clear A50
  by_cases c6 : t146 = true
  ·subst c6
   have H1 : ((model_at.f k l0 a1_0 a1_1 a1_2).bind fun t147 => (some (t147, 0))) = some (r1, r2) := by rw [if_pos rfl] at H; exact H
   clear H
   have H := H1
   clear H1
   replace H := Option.bind_eq_some_iff.mp H
   obtain ⟨t147, A70, H⟩ := H
   replace H : (some (t147, 0)) = some (r1, r2) := H
   have A7 := am A70
   clear A70
   simp only [Option.some.injEq, Prod.mk.injEq] at H
   obtain ⟨rfl, rfl⟩ := H
   go_enter Try.func13, Try.ntmps13
   go_wp2_with (first | ((with_reducible refine gate_dst (N := 3) rfl ?_); refine box_event ?hg (N := 3) ?hd (cs := #[.int .i64 a1_0, .int .i64 a1_1, .int .i64 a1_2]) (t := 24) ?hr ?_; (case hd | hg => rfl); (case hr => first | (go_simp; done) | (go_simp; rfl)); intro gb144 hg w8 hbox hb; have BK144 := am hbox; have GW144 := sG HB hg; have GE144 := sG HB hg; replace HB := bS HB hb; clear hb hbox hg) | ((with_reducible refine gc (f := 15) rfl ?_); refine goesL_ (some 8) rfl rfl Try.func15 (by kernel_rfl) rfl #[.slice A0 l0.length c0] rfl (by (try simp only [pml]); first | done | rfl | (simp only [pdt]; rfl)) ?_; (with_reducible refine (model_Check.calls k _ _ l0 t145 _ ?side1 ?side2 A3.out).mono ?_); (case side1 => repeat (first | exact (Kd.C_below HR0.out HB.out) | (with_reducible refine Kd.C_alloc ?_ _) | (with_reducible refine Kd.C_drewN ?_ _) | (with_reducible refine Kd.C_drew ?_))); (case side2 => exact HC0.out); rintro e w9 ⟨rfl, hb⟩; refine ⟨_, rfl, ?_⟩; replace BK144 := bB BK144 hb; replace HB := bS HB hb; (try clear hb); (try clear hb2); (try clear hk); (try clear hi); obtain ⟨_, _, _, _, _, _⟩ := zC3 BK144) | ((with_reducible refine gc (f := 36) rfl ?_); refine goesL_ (some 13) rfl rfl Try.func36 (by kernel_rfl) rfl #[.agg #[.int .i64 a1_0, .int .i64 a1_1, .int .i64 a1_2]] rfl (by (try simp only [pml]); first | done | rfl | (simp only [pdt]; rfl)) ?_; (with_reducible refine (model_cell.calls a1_0 a1_1 a1_2 true _ A5.out).mono ?_); rintro e w11 ⟨rfl, hb⟩; refine ⟨_, rfl, ?_⟩; replace BK144 := bB BK144 hb; replace HB := bS HB hb; (try clear hb); (try clear hb2); (try clear hk); (try clear hi); obtain ⟨_, _, _, _, _, _⟩ := zC3 BK144) | ((with_reducible refine gc (f := 37) rfl ?_); refine goesL_ (some 17) rfl rfl Try.func37 (by kernel_rfl) rfl #[.slice A0 l0.length c0, .agg #[.int .i64 a1_0, .int .i64 a1_1, .int .i64 a1_2]] rfl (by (try simp only [pml]); first | done | rfl | (simp only [pdt]; rfl)) ?_; (with_reducible refine (model_at.calls k _ _ l0 a1_0 a1_1 a1_2 t147 _ ?side1 ?side2 A7.out).mono ?_); (case side1 => repeat (first | exact (Kd.C_below HR0.out HB.out) | (with_reducible refine Kd.C_alloc ?_ _) | (with_reducible refine Kd.C_drewN ?_ _) | (with_reducible refine Kd.C_drew ?_))); (case side2 => exact HC0.out); rintro e w13 ⟨rfl, hb⟩; refine ⟨_, rfl, ?_⟩; replace BK144 := bB BK144 hb; replace HB := bS HB hb; (try clear hb); (try clear hb2); (try clear hk); (try clear hi)))
   go_ret2
   exact ⟨sqE, fW HB.out⟩
  replace c6 := Bool.eq_false_iff.mpr c6
  subst c6
  have H1 : (some (0, 6)) = some (r1, r2) := by rw [if_neg (show ¬ (false = true) by decide)] at H; exact H
  clear H
  have H := H1
  clear H1
  simp only [Option.some.injEq, Prod.mk.injEq] at H
  obtain ⟨rfl, rfl⟩ := H
  go_enter Try.func13, Try.ntmps13
  go_wp2_with (first | ((with_reducible refine gate_dst (N := 3) rfl ?_); refine box_event ?hg (N := 3) ?hd (cs := #[.int .i64 a1_0, .int .i64 a1_1, .int .i64 a1_2]) (t := 24) ?hr ?_; (case hd | hg => rfl); (case hr => first | (go_simp; done) | (go_simp; rfl)); intro gb144 hg w14 hbox hb; have BK144 := am hbox; have GW144 := sG HB hg; have GE144 := sG HB hg; replace HB := bS HB hb; clear hb hbox hg) | ((with_reducible refine gc (f := 15) rfl ?_); refine goesL_ (some 8) rfl rfl Try.func15 (by kernel_rfl) rfl #[.slice A0 l0.length c0] rfl (by (try simp only [pml]); first | done | rfl | (simp only [pdt]; rfl)) ?_; (with_reducible refine (model_Check.calls k _ _ l0 t145 _ ?side1 ?side2 A3.out).mono ?_); (case side1 => repeat (first | exact (Kd.C_below HR0.out HB.out) | (with_reducible refine Kd.C_alloc ?_ _) | (with_reducible refine Kd.C_drewN ?_ _) | (with_reducible refine Kd.C_drew ?_))); (case side2 => exact HC0.out); rintro e w15 ⟨rfl, hb⟩; refine ⟨_, rfl, ?_⟩; replace BK144 := bB BK144 hb; replace HB := bS HB hb; (try clear hb); (try clear hb2); (try clear hk); (try clear hi); obtain ⟨_, _, _, _, _, _⟩ := zC3 BK144) | ((with_reducible refine gc (f := 36) rfl ?_); refine goesL_ (some 13) rfl rfl Try.func36 (by kernel_rfl) rfl #[.agg #[.int .i64 a1_0, .int .i64 a1_1, .int .i64 a1_2]] rfl (by (try simp only [pml]); first | done | rfl | (simp only [pdt]; rfl)) ?_; (with_reducible refine (model_cell.calls a1_0 a1_1 a1_2 false _ A5.out).mono ?_); rintro e w17 ⟨rfl, hb⟩; refine ⟨_, rfl, ?_⟩; replace BK144 := bB BK144 hb; replace HB := bS HB hb; (try clear hb); (try clear hb2); (try clear hk); (try clear hi)))
  go_ret2
  exact ⟨sqE, fW HB.out⟩
 ·rw [if_neg c4] at H
  have c4b0 : (t145 == 0) = false := beq_eq_false_iff_ne.mpr c4
  have c4b1 : (t145 != 0) = true := bne_iff_ne.mpr c4
  simp only [Option.some.injEq, Prod.mk.injEq] at H
  obtain ⟨rfl, rfl⟩ := H
  go_enter Try.func13, Try.ntmps13
  go_wp2_with (first | ((with_reducible refine gate_dst (N := 3) rfl ?_); refine box_event ?hg (N := 3) ?hd (cs := #[.int .i64 a1_0, .int .i64 a1_1, .int .i64 a1_2]) (t := 24) ?hr ?_; (case hd | hg => rfl); (case hr => first | (go_simp; done) | (go_simp; rfl)); intro gb144 hg w18 hbox hb; have BK144 := am hbox; have GW144 := sG HB hg; have GE144 := sG HB hg; replace HB := bS HB hb; clear hb hbox hg) | ((with_reducible refine gc (f := 15) rfl ?_); refine goesL_ (some 8) rfl rfl Try.func15 (by kernel_rfl) rfl #[.slice A0 l0.length c0] rfl (by (try simp only [pml]); first | done | rfl | (simp only [pdt]; rfl)) ?_; (with_reducible refine (model_Check.calls k _ _ l0 t145 _ ?side1 ?side2 A3.out).mono ?_); (case side1 => repeat (first | exact (Kd.C_below HR0.out HB.out) | (with_reducible refine Kd.C_alloc ?_ _) | (with_reducible refine Kd.C_drewN ?_ _) | (with_reducible refine Kd.C_drew ?_))); (case side2 => exact HC0.out); rintro e w19 ⟨rfl, hb⟩; refine ⟨_, rfl, ?_⟩; replace BK144 := bB BK144 hb; replace HB := bS HB hb; (try clear hb); (try clear hb2); (try clear hk); (try clear hi)))
  go_ret2
  exact ⟨sqE, fW HB.out⟩

end Go.Proofs.Ytcofgnbopodahaa.QA
