import Derived.Test.YtcembjgpcbodcaaDPQAx0
import Derived.Test.YtcembjgpcbodcaaDPQAx12
namespace Go.Proofs.Ytcembjgpcbodcaa.QA
open Go.RowKit Go.Proofs.YtcembjgpcbodcaaW.PrintWords Go.Proofs.YtcembjgpcbodcaaW.PrintLast Go.Proofs.YtcembjgpcbodcaaW.PrintMore
open Aside0 renaming mk → am
attribute [local go_sem] max2_int min2_int max_two min_two max_three min_three max_four min_four
set_option linter.unusedVariables false
set_option linter.unusedSimpArgs false

def r_Bounds.l0 : Nat → List (S23) → Int → Int → Int → Int → Int → Option (Int × Int × Int × Int)
 | 0, _, _, _, _, _, _ => none
 | k + 1, x0, x6, x420000, x420001, x422000, x422001 => if x6 < (x0.length : Int) then (if 0 ≤ x6 then (r_Bounds.l0 k x0 (wrap64 (x6 + 1)) (mn x420000 ((rd_T23 x0 x6).f0)) (mn x420001 ((rd_T23 x0 x6).f1)) (mx x422000 ((rd_T23 x0 x6).f0)) (mx x422001 ((rd_T23 x0 x6).f1))) else (none)) else (some (x420000, x420001, x422000, x422001))
def r_Bounds.f (k : Nat) (l0 : List (S23)) : Option (Int × Int × Int × Int) := if 0 < (l0.length : Int) then (r_Bounds.l0 k l0 0 ((rd_T23 l0 0).f0) ((rd_T23 l0 0).f1) ((rd_T23 l0 0).f0) ((rd_T23 l0 0).f1)) else (none)
def r_Area2.l0 : Nat → List (S23) → Int → Int → Option (Int)
 | 0, _, _, _ => none
 | k + 1, x0, x3, x4 => if x4 < (x0.length : Int) then ((r_next.f x0 x4).bind fun t426 => (if 0 ≤ x4 then (if 0 ≤ t426 then (if t426 < (x0.length : Int) then (r_Area2.l0 k x0 (wrap64 (x3 + (wrap64 ((wrap64 (((rd_T23 x0 x4).f0) * ((rd_T23 x0 t426).f1))) - (wrap64 (((rd_T23 x0 t426).f0) * ((rd_T23 x0 x4).f1))))))) (wrap64 (x4 + 1))) else (none)) else (none)) else (none))) else (some x3)
def r_Area2.f (k : Nat) (l0 : List (S23)) : Option (Int) := r_Area2.l0 k l0 0 0
set_option maxHeartbeats 8000000 in
set_option maxRecDepth 100000 in
theorem r_Area2.calls (k : Nat) (A0 : Option Addr) (c0 : Nat) (l0 : List (S23)) (r : Int) (w : World) (hr0 : Kd.C k23 w A0 l0.length l0) (hc0 : l0.length ≤ c0) (h : r_Area2.f k l0 = some r) :
  Calls Try.prog 31 #[.slice A0 l0.length c0] w fun e w' => e = .returned (.int .i64 r) ∧ Drawn0 w w' := by
 have HR0 := am hr0
 have HC0 := am hc0
 clear hr0 hc0
 have H : (r_Area2.l0 k l0 0 0) = some r := h
 clear h
 have H' := am H
 clear H
 go_enter Try.func31, Try.ntmps31
 go_wp2
 repeat (go_quiet (fail); try go_wp2)
 go_loopg [3, 4] k (fun kq v3 v4 w' => ∃ (x3_1 : Int) (x4_1 : Int), v3 = .int .i64 x3_1 ∧ v4 = .int .i64 x4_1 ∧ Aside0 (r_Area2.l0 kq l0 x3_1 x4_1 = some r) ∧ Aside0 (kq ≤ k) ∧ Drawn0 w w')
 case atStart => exact ⟨(0), (0), (by first | rfl | (simp; done) | (simp [*]; done)), (by first | rfl | (simp; done) | (simp [*]; done)), H', ⟨Nat.le_refl _⟩, by repeat (first | exact Drawn0.refl _ | apply Drawn0.step)⟩
 case round =>
  clear H'
  obtain ⟨x3_1, x4_1, rfl, rfl, HA, HK1, ⟨m1, rfl⟩⟩ := hrel
  cases gk with
  | zero => exact absurd HA.out (by simp [r_Area2.l0])
  | succ k1 =>
   have H := HA.out
   clear HA
   simp only [r_Area2.l0] at H
   by_cases c2 : x4_1 < (l0.length : Int)
   ·rw [if_pos c2] at H
    have c2b0 : decide (x4_1 < (l0.length : Int)) = true := decide_eq_true c2
    clear c2
    replace H := Option.bind_eq_some_iff.mp H
    obtain ⟨t426, A30, H⟩ := H
    replace H : (if 0 ≤ x4_1 then (if 0 ≤ t426 then (if t426 < (l0.length : Int) then (r_Area2.l0 k1 l0 (wrap64 (x3_1 + (wrap64 ((wrap64 (((rd_T23 l0 x4_1).f0) * ((rd_T23 l0 t426).f1))) - (wrap64 (((rd_T23 l0 t426).f0) * ((rd_T23 l0 x4_1).f1))))))) (wrap64 (x4_1 + 1))) else (none)) else (none)) else (none)) = some r := H
    have A3 := am A30
    clear A30
    by_cases c4 : 0 ≤ x4_1
    rotate_left
    ·rw [if_neg c4] at H
     exact absurd H (by simp)
    rw [if_pos c4] at H
    have c4b0 : decide (0 ≤ x4_1) = true := decide_eq_true c4
    clear c4
    by_cases c5 : 0 ≤ t426
    rotate_left
    ·rw [if_neg c5] at H
     exact absurd H (by simp)
    rw [if_pos c5] at H
    have c5b0 : decide (0 ≤ t426) = true := decide_eq_true c5
    clear c5
    by_cases c6 : t426 < (l0.length : Int)
    ·rw [if_pos c6] at H
     have c6b0 : decide (t426 < (l0.length : Int)) = true := decide_eq_true c6
     clear c6
     have H' := am H
     clear H
     go_wp2_with (first | (go_at_call 42; (with_reducible refine (r_next.calls _ _ l0 x4_1 t426 _ ?side1 ?side2 A3.out).mono ?_); (case side1 => repeat (first | exact HR0.out | (with_reducible refine Kd.C_alloc ?_ _) | (with_reducible refine Kd.C_drewN ?_ _) | (with_reducible refine Kd.C_drew ?_))); (case side2 => exact HC0.out); rintro e w' ⟨rfl, ⟨nd, rfl⟩⟩; (try first | exact ⟨rfl, _, World.drewN_drewN _ _ _⟩ | exact ⟨rfl, _, Eq.trans (World.drewN_drewN _ _ _) (congrArg (World.drewN _) (Nat.add_assoc _ _ _))⟩); have p427 : 0 ≤ (x4_1 : Int) := of_decide_eq_true (by assumption); have q427 : x4_1 < (l0.length : Int) := of_decide_eq_true (by assumption); obtain ⟨ad427, e427, hx427_0, hx427_1⟩ := at_T23 HR0.out x4_1 p427 q427; cases e427; replace p427 := eq_true p427; replace q427 := eq_true q427; have p428 : 0 ≤ (t426 : Int) := of_decide_eq_true (by assumption); have q428 : t426 < (l0.length : Int) := of_decide_eq_true (by assumption); obtain ⟨ad428, e428, hx428_0, hx428_1⟩ := at_T23 HR0.out t426 p428 q428; obtain rfl : ad427 = ad428 := (by injection e428); replace p428 := eq_true p428; replace q428 := eq_true q428; have p429 : 0 ≤ (t426 : Int) := of_decide_eq_true (by assumption); have q429 : t426 < (l0.length : Int) := of_decide_eq_true (by assumption); obtain ⟨ad429, e429, hx429_0, hx429_1⟩ := at_T23 HR0.out t426 p429 q429; obtain rfl : ad427 = ad429 := (by injection e429); replace p429 := eq_true p429; replace q429 := eq_true q429; have p430 : 0 ≤ (x4_1 : Int) := of_decide_eq_true (by assumption); have q430 : x4_1 < (l0.length : Int) := of_decide_eq_true (by assumption); obtain ⟨ad430, e430, hx430_0, hx430_1⟩ := at_T23 HR0.out x4_1 p430 q430; obtain rfl : ad427 = ad430 := (by injection e430); replace p430 := eq_true p430; replace q430 := eq_true q430))
     repeat (go_quiet (first | (go_at_call 42; (with_reducible refine (r_next.calls _ _ l0 x4_1 t426 _ ?side1 ?side2 A3.out).mono ?_); (case side1 => repeat (first | exact HR0.out | (with_reducible refine Kd.C_alloc ?_ _) | (with_reducible refine Kd.C_drewN ?_ _) | (with_reducible refine Kd.C_drew ?_))); (case side2 => exact HC0.out); rintro e w' ⟨rfl, ⟨nd, rfl⟩⟩; (try first | exact ⟨rfl, _, World.drewN_drewN _ _ _⟩ | exact ⟨rfl, _, Eq.trans (World.drewN_drewN _ _ _) (congrArg (World.drewN _) (Nat.add_assoc _ _ _))⟩); have p427 : 0 ≤ (x4_1 : Int) := of_decide_eq_true (by assumption); have q427 : x4_1 < (l0.length : Int) := of_decide_eq_true (by assumption); obtain ⟨ad427, e427, hx427_0, hx427_1⟩ := at_T23 HR0.out x4_1 p427 q427; cases e427; replace p427 := eq_true p427; replace q427 := eq_true q427; have p428 : 0 ≤ (t426 : Int) := of_decide_eq_true (by assumption); have q428 : t426 < (l0.length : Int) := of_decide_eq_true (by assumption); obtain ⟨ad428, e428, hx428_0, hx428_1⟩ := at_T23 HR0.out t426 p428 q428; obtain rfl : ad427 = ad428 := (by injection e428); replace p428 := eq_true p428; replace q428 := eq_true q428; have p429 : 0 ≤ (t426 : Int) := of_decide_eq_true (by assumption); have q429 : t426 < (l0.length : Int) := of_decide_eq_true (by assumption); obtain ⟨ad429, e429, hx429_0, hx429_1⟩ := at_T23 HR0.out t426 p429 q429; obtain rfl : ad427 = ad429 := (by injection e429); replace p429 := eq_true p429; replace q429 := eq_true q429; have p430 : 0 ≤ (x4_1 : Int) := of_decide_eq_true (by assumption); have q430 : x4_1 < (l0.length : Int) := of_decide_eq_true (by assumption); obtain ⟨ad430, e430, hx430_0, hx430_1⟩ := at_T23 HR0.out x4_1 p430 q430; obtain rfl : ad427 = ad430 := (by injection e430); replace p430 := eq_true p430; replace q430 := eq_true q430)); try go_wp2_with (first | (go_at_call 42; (with_reducible refine (r_next.calls _ _ l0 x4_1 t426 _ ?side1 ?side2 A3.out).mono ?_); (case side1 => repeat (first | exact HR0.out | (with_reducible refine Kd.C_alloc ?_ _) | (with_reducible refine Kd.C_drewN ?_ _) | (with_reducible refine Kd.C_drew ?_))); (case side2 => exact HC0.out); rintro e w' ⟨rfl, ⟨nd, rfl⟩⟩; (try first | exact ⟨rfl, _, World.drewN_drewN _ _ _⟩ | exact ⟨rfl, _, Eq.trans (World.drewN_drewN _ _ _) (congrArg (World.drewN _) (Nat.add_assoc _ _ _))⟩); have p427 : 0 ≤ (x4_1 : Int) := of_decide_eq_true (by assumption); have q427 : x4_1 < (l0.length : Int) := of_decide_eq_true (by assumption); obtain ⟨ad427, e427, hx427_0, hx427_1⟩ := at_T23 HR0.out x4_1 p427 q427; cases e427; replace p427 := eq_true p427; replace q427 := eq_true q427; have p428 : 0 ≤ (t426 : Int) := of_decide_eq_true (by assumption); have q428 : t426 < (l0.length : Int) := of_decide_eq_true (by assumption); obtain ⟨ad428, e428, hx428_0, hx428_1⟩ := at_T23 HR0.out t426 p428 q428; obtain rfl : ad427 = ad428 := (by injection e428); replace p428 := eq_true p428; replace q428 := eq_true q428; have p429 : 0 ≤ (t426 : Int) := of_decide_eq_true (by assumption); have q429 : t426 < (l0.length : Int) := of_decide_eq_true (by assumption); obtain ⟨ad429, e429, hx429_0, hx429_1⟩ := at_T23 HR0.out t426 p429 q429; obtain rfl : ad427 = ad429 := (by injection e429); replace p429 := eq_true p429; replace q429 := eq_true q429; have p430 : 0 ≤ (x4_1 : Int) := of_decide_eq_true (by assumption); have q430 : x4_1 < (l0.length : Int) := of_decide_eq_true (by assumption); obtain ⟨ad430, e430, hx430_0, hx430_1⟩ := at_T23 HR0.out x4_1 p430 q430; obtain rfl : ad427 = ad430 := (by injection e430); replace p430 := eq_true p430; replace q430 := eq_true q430)))
     go_roundg k1
     case measure => have := HK1.out; omega
     case rel => exact ⟨(wrap64 (x3_1 + (wrap64 ((wrap64 (((rd_T23 l0 x4_1).f0) * ((rd_T23 l0 t426).f1))) - (wrap64 (((rd_T23 l0 t426).f0) * ((rd_T23 l0 x4_1).f1))))))), (wrap64 (x4_1 + 1)), (by first | rfl | (simp; done) | (simp [*]; done)), (by first | rfl | (simp; done) | (simp [*]; done)), H', ⟨by have := HK1.out; omega⟩, by repeat (first | exact Drawn0.refl _ | apply Drawn0.step)⟩
    rw [if_neg c6] at H
    exact absurd H (by simp)
   ·rw [if_neg c2] at H
    have c2b0 : decide (x4_1 < (l0.length : Int)) = false := decide_eq_false c2
    clear c2
    obtain rfl := Option.some.inj H
    go_wp2
    repeat (go_quiet (fail); try go_wp2)
    go_ret
    exact ⟨by first | rfl | (simp; done) | (simp [*]; done), by repeat (first | exact Drawn0.refl _ | apply Drawn0.step)⟩

end Go.Proofs.Ytcembjgpcbodcaa.QA
