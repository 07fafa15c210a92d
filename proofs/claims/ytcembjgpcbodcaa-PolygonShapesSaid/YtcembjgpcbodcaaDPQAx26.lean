import Derived.Test.YtcembjgpcbodcaaDPQAx0
import Derived.Test.YtcembjgpcbodcaaDPQAx2
import Derived.Test.YtcembjgpcbodcaaDPQAx5
import Derived.Test.YtcembjgpcbodcaaDPQAx7
import Derived.Test.YtcembjgpcbodcaaDPQAx10
import Derived.Test.YtcembjgpcbodcaaDPQAx22
import Derived.Test.YtcembjgpcbodcaaDPQAx25
namespace Go.Proofs.Ytcembjgpcbodcaa.QA
open Go.RowKit Go.Proofs.YtcembjgpcbodcaaW.PrintWords Go.Proofs.YtcembjgpcbodcaaW.PrintLast Go.Proofs.YtcembjgpcbodcaaW.PrintMore
open Go.Proofs.YtcembjgpcbodcaaW.PrintWords renaming below_alloc → wa, pw_below_drewN → wN, below_drew1 → wd, below_step → wt, gate_callee → gc
open Aside0 renaming mk → am
open World renaming block_lt_of_cell? → bq
attribute [local go_sem] max2_int min2_int max_two min_two max_three min_three max_four min_four
set_option linter.unusedVariables false
set_option linter.unusedSimpArgs false

mutual
def p_Canonical.j0 : Nat → List (S23) → Option ((List (S23)) × Int)
 | 0, _ => none
 | k + 1, x0 => p_Canonical.l0 k x0 0 (x0.length : Int) 0
def p_Canonical.l0 : Nat → List (S23) → Int → Int → Int → Option ((List (S23)) × Int)
 | 0, _, _, _, _ => none
 | k + 1, x0, x5, x21, x22 => if x22 < x21 then (if 0 ≤ x22 then (if x22 < (x0.length : Int) then (if 0 ≤ x5 then (if x5 < (x0.length : Int) then ((p_before.f k ((rd_T23 x0 x22).f0) ((rd_T23 x0 x22).f1) ((rd_T23 x0 x5).f0) ((rd_T23 x0 x5).f1)).bind fun t482 => (if t482 < 0 then (p_Canonical.l0 k x0 x22 x21 (wrap64 (x22 + 1))) else (p_Canonical.l0 k x0 x5 x21 (wrap64 (x22 + 1))))) else (none)) else (none)) else (none)) else (none)) else (if 0 ≤ x5 then (if x5 ≤ (x0.length : Int) then ((api_Point_59.f (([(x0.drop (x5 : Int).toNat), (x0.take (x5 : Int).toNat)] : List (List (S23))))).bind fun t496 => (some (t496, 0))) else (none)) else (none))
end
def p_Canonical.f (k : Nat) (l0 : List (S23)) : Option ((List (S23)) × Int) := (p_check.f k l0 ([] : List (S23))).bind fun t474 => (if t474 = 0 then ((p_simple.f k l0).bind fun t475 => (if t475 = true then ((p_area.f k l0).bind fun t476 => (if t476 < 0 then ((p_Reverse.f l0).bind fun t477 => (p_Canonical.j0 k t477)) else (p_Canonical.j0 k l0))) else (some (([] : List (S23)), 10)))) else (some (([] : List (S23)), t474)))
def p_Canonical.T12 : Bool × List (List Nat × List Nat) := (true, [([], []), ([], []), ([0, 1], [0, 1]), ([2], [2]), ([], []), ([], []), ([4, 5], [4, 5]), ([6], [6]), ([3, 7], [3, 7]), ([8], [8])])
def p_Canonical.B12 : List Nat := [0, 0, 3, 7, 0, 0, 48, 112, 255, 511]
theorem p_Canonical.tab12 : rtab .any (opsOf Try.f33 12) = p_Canonical.T12 := by kernel_rfl
theorem p_Canonical.bits12 : waitsOk p_Canonical.T12.2 p_Canonical.B12 = true := by kernel_rfl
def p_Canonical.T15 : Bool × List (List Nat × List Nat) := (true, [([], []), ([], []), ([0, 1], [0, 1]), ([], []), ([], []), ([3, 4], [3, 4]), ([2, 5], [2, 5]), ([6], [6]), ([7, 7, 0, 1, 2, 3, 4, 5, 6, 7], [7]), ([8, 0, 1, 2, 3, 4, 5, 6, 7, 8], [])])
def p_Canonical.B15 : List Nat := [0, 0, 3, 0, 0, 24, 63, 127, 255, 511]
theorem p_Canonical.tab15 : rtab .any (opsOf Try.f33 15) = p_Canonical.T15 := by kernel_rfl
theorem p_Canonical.bits15 : waitsOk p_Canonical.T15.2 p_Canonical.B15 = true := by kernel_rfl
set_option maxHeartbeats 8000000 in
set_option maxRecDepth 100000 in
theorem p_Canonical.calls (k : Nat) (P0_ : Nat → Prop) (A0 : Option Addr) (c0 : Nat) (l0 : List (S23)) (r1 : List (S23)) (r2 : Int) (w : World) (hs0 : Kd.V k23 23 w w.heap.size (fun k_ => P0_ k_) (.slice A0 l0.length c0) l0) (h : p_Canonical.f k l0 = some (r1, r2)) :
  Calls Try.prog 33 #[.slice A0 l0.length c0] w fun e w' => ∃ v0_ : Value, e = .returned (.tuple #[v0_, .int .i64 r2]) ∧ Kd.R k23 23 w' w.heap.size (fun k_ => (w.heap.size ≤ k_)) v0_ r1 ∧ Below w.heap.size w w' := by
 have hu23 := Try.underlying23
 have HO0 := am (show Kd.V k23 23 w w.heap.size (fun k_ => (P0_ k_ ∨ w.heap.size ≤ k_)) (.slice A0 l0.length c0) l0 from Kd.V_mono hs0 (fun k_ hk => .inl hk))
 have HB := am (Below.refl w.heap.size w)
 have H : ((p_check.f k l0 ([] : List (S23))).bind fun t474 => (if t474 = 0 then ((p_simple.f k l0).bind fun t475 => (if t475 = true then ((p_area.f k l0).bind fun t476 => (if t476 < 0 then ((p_Reverse.f l0).bind fun t477 => (p_Canonical.j0 k t477)) else (p_Canonical.j0 k l0))) else (some (([] : List (S23)), 10)))) else (some (([] : List (S23)), t474)))) = some (r1, r2) := h
 clear h
 replace H := Option.bind_eq_some_iff.mp H
 obtain ⟨t474, A20, H⟩ := H
 replace H : (if t474 = 0 then ((p_simple.f k l0).bind fun t475 => (if t475 = true then ((p_area.f k l0).bind fun t476 => (if t476 < 0 then ((p_Reverse.f l0).bind fun t477 => (p_Canonical.j0 k t477)) else (p_Canonical.j0 k l0))) else (some (([] : List (S23)), 10)))) else (some (([] : List (S23)), t474))) = some (r1, r2) := H
 have A2 := am A20
 clear A20
 by_cases c3 : t474 = 0
 ·rw [if_pos c3] at H
  have c3b0 : (t474 == 0) = true := beq_iff_eq.mpr c3
  have c3b1 : (t474 != 0) = false := bne_eq_false_iff_eq.mpr c3
  clear c3
  replace H := Option.bind_eq_some_iff.mp H
  obtain ⟨t475, A40, H⟩ := H
  replace H : (if t475 = true then ((p_area.f k l0).bind fun t476 => (if t476 < 0 then ((p_Reverse.f l0).bind fun t477 => (p_Canonical.j0 k t477)) else (p_Canonical.j0 k l0))) else (some (([] : List (S23)), 10))) = some (r1, r2) := H
  have A4 := am A40
  clear A40
  by_cases c5 : t475 = true
  rotate_left
  ·replace c5 := Bool.eq_false_iff.mpr c5
   subst c5
   have H1 : (some (([] : List (S23)), 10)) = some (r1, r2) := by rw [if_neg (show ¬ (false = true) by decide)] at H; exact H
   clear H
   have H := H1
   clear H1
   simp only [Option.some.injEq, Prod.mk.injEq] at H
   obtain ⟨rfl, rfl⟩ := H
   go_enter Try.func33, Try.ntmps33
   go_wp2_with (first | ((with_reducible refine gc (f := 38) rfl ?_); refine goesL_ (some 8) rfl rfl Try.func38 (by kernel_rfl) rfl #[.slice A0 l0.length c0, .slice none 0 0] rfl (by (try simp only [pml]); first | done | rfl | (simp only [pdt]; rfl)) ?_; (refine (p_check.calls k _ _ l0 _ _ ([] : List (S23)) t474 _ ?side1 ?side2 ?side3 ?side4 A2.out).mono ?_); (case side1 => repeat (first | exact (Kd.V_reads' HO0.out).2.2 | (with_reducible refine Kd.C_alloc ?_ _) | (with_reducible refine Kd.C_drewN ?_ _) | (with_reducible refine Kd.C_drew ?_))); (case side2 => exact (Kd.V_reads' HO0.out).2.1); (case side3 => exact Kd.C_nil _ _); (case side4 => exact Nat.le_refl _); rintro e w38 ⟨rfl, hb⟩; refine ⟨_, rfl, ?_⟩; have n0_ := am (Kd.V_below (by (with_reducible repeat (first | apply Kd.V_alloc | apply Kd.V_drewN | apply Kd.V_drew)); exact HO0.out) hb); have n1_ := am (wt (by repeat (first | (with_reducible first | exact HB.out | apply wa | apply wN | apply wd) | exact HB.out)) hb); clear HO0 HB; have HO0 := n0_; have HB := n1_; clear n0_ n1_; (try clear hb); (try clear hb2); (try clear hk); (try clear hi)) | ((with_reducible refine gc (f := 39) rfl ?_); refine goesL_ (some 13) rfl rfl Try.func39 (by kernel_rfl) rfl #[.slice A0 l0.length c0] rfl (by (try simp only [pml]); first | done | rfl | (simp only [pdt]; rfl)) ?_; (with_reducible refine (p_simple.calls k _ _ l0 false _ ?side1 ?side2 A4.out).mono ?_); (case side1 => repeat (first | exact (Kd.V_reads' HO0.out).2.2 | (with_reducible refine Kd.C_alloc ?_ _) | (with_reducible refine Kd.C_drewN ?_ _) | (with_reducible refine Kd.C_drew ?_))); (case side2 => exact (Kd.V_reads' HO0.out).2.1); rintro e w39 ⟨rfl, hb⟩; refine ⟨_, rfl, ?_⟩; have n0_ := am (Kd.V_below (by (with_reducible repeat (first | apply Kd.V_alloc | apply Kd.V_drewN | apply Kd.V_drew)); exact HO0.out) hb); have n1_ := am (wt (by repeat (first | (with_reducible first | exact HB.out | apply wa | apply wN | apply wd) | exact HB.out)) hb); clear HO0 HB; have HO0 := n0_; have HB := n1_; clear n0_ n1_; (try clear hb); (try clear hb2); (try clear hk); (try clear hi)))
   go_ret2
   exact ⟨_, by first | rfl | (simp [errW_none, errW_some] <;> rfl) | (simp [*, errW_none, errW_some] <;> rfl), by first | exact Kd.R_nil _ _ _ _ _ | exact Kd.N_nil _ _ _ _ _ | exact Kd.V_nil _ _ _ _ _ | exact Kd.Q_nil _ _ _ _ _ | exact Kd.S_nil _ _ _ _ _, by repeat (first | (with_reducible first | exact HB.out | apply wa | apply wN | apply wd) | exact HB.out)⟩
  subst c5
  have H1 : ((p_area.f k l0).bind fun t476 => (if t476 < 0 then ((p_Reverse.f l0).bind fun t477 => (p_Canonical.j0 k t477)) else (p_Canonical.j0 k l0))) = some (r1, r2) := by rw [if_pos rfl] at H; exact H
  clear H
  have H := H1
  clear H1
  replace H := Option.bind_eq_some_iff.mp H
  obtain ⟨t476, A60, H⟩ := H
  replace H : (if t476 < 0 then ((p_Reverse.f l0).bind fun t477 => (p_Canonical.j0 k t477)) else (p_Canonical.j0 k l0)) = some (r1, r2) := H
  have A6 := am A60
  clear A60
  have HC7 := am H
  clear H
  go_enter Try.func33, Try.ntmps33
  go_upto_if 17 with (first | ((with_reducible refine gc (f := 38) rfl ?_); refine goesL_ (some 8) rfl rfl Try.func38 (by kernel_rfl) rfl #[.slice A0 l0.length c0, .slice none 0 0] rfl (by (try simp only [pml]); first | done | rfl | (simp only [pdt]; rfl)) ?_; (refine (p_check.calls k _ _ l0 _ _ ([] : List (S23)) t474 _ ?side1 ?side2 ?side3 ?side4 A2.out).mono ?_); (case side1 => repeat (first | exact (Kd.V_reads' HO0.out).2.2 | (with_reducible refine Kd.C_alloc ?_ _) | (with_reducible refine Kd.C_drewN ?_ _) | (with_reducible refine Kd.C_drew ?_))); (case side2 => exact (Kd.V_reads' HO0.out).2.1); (case side3 => exact Kd.C_nil _ _); (case side4 => exact Nat.le_refl _); rintro e w8 ⟨rfl, hb⟩; refine ⟨_, rfl, ?_⟩; have n0_ := am (Kd.V_below (by (with_reducible repeat (first | apply Kd.V_alloc | apply Kd.V_drewN | apply Kd.V_drew)); exact HO0.out) hb); have n1_ := am (wt (by repeat (first | (with_reducible first | exact HB.out | apply wa | apply wN | apply wd) | exact HB.out)) hb); clear HO0 HB; have HO0 := n0_; have HB := n1_; clear n0_ n1_; (try clear hb); (try clear hb2); (try clear hk); (try clear hi)) | ((with_reducible refine gc (f := 39) rfl ?_); refine goesL_ (some 13) rfl rfl Try.func39 (by kernel_rfl) rfl #[.slice A0 l0.length c0] rfl (by (try simp only [pml]); first | done | rfl | (simp only [pdt]; rfl)) ?_; (with_reducible refine (p_simple.calls k _ _ l0 true _ ?side1 ?side2 A4.out).mono ?_); (case side1 => repeat (first | exact (Kd.V_reads' HO0.out).2.2 | (with_reducible refine Kd.C_alloc ?_ _) | (with_reducible refine Kd.C_drewN ?_ _) | (with_reducible refine Kd.C_drew ?_))); (case side2 => exact (Kd.V_reads' HO0.out).2.1); rintro e w9 ⟨rfl, hb⟩; refine ⟨_, rfl, ?_⟩; have n0_ := am (Kd.V_below (by (with_reducible repeat (first | apply Kd.V_alloc | apply Kd.V_drewN | apply Kd.V_drew)); exact HO0.out) hb); have n1_ := am (wt (by repeat (first | (with_reducible first | exact HB.out | apply wa | apply wN | apply wd) | exact HB.out)) hb); clear HO0 HB; have HO0 := n0_; have HB := n1_; clear n0_ n1_; (try clear hb); (try clear hb2); (try clear hk); (try clear hi)) | ((with_reducible refine gc (f := 56) rfl ?_); refine goesL_ (some 16) rfl rfl Try.func56 (by kernel_rfl) rfl #[.slice A0 l0.length c0] rfl (by (try simp only [pml]); first | done | rfl | (simp only [pdt]; rfl)) ?_; (with_reducible refine (p_area.calls k _ _ l0 t476 _ ?side1 ?side2 A6.out).mono ?_); (case side1 => repeat (first | exact (Kd.V_reads' HO0.out).2.2 | (with_reducible refine Kd.C_alloc ?_ _) | (with_reducible refine Kd.C_drewN ?_ _) | (with_reducible refine Kd.C_drew ?_))); (case side2 => exact (Kd.V_reads' HO0.out).2.1); rintro e w10 ⟨rfl, hb⟩; refine ⟨_, rfl, ?_⟩; have n0_ := am (Kd.V_below (by (with_reducible repeat (first | apply Kd.V_alloc | apply Kd.V_drewN | apply Kd.V_drew)); exact HO0.out) hb); have n1_ := am (wt (by repeat (first | (with_reducible first | exact HB.out | apply wa | apply wN | apply wd) | exact HB.out)) hb); clear HO0 HB; have HO0 := n0_; have HB := n1_; clear n0_ n1_; (try clear hb); (try clear hb2); (try clear hk); (try clear hi)))
  (try simp only [Act.put, psl])
  go_cut [0] (fun v0 wc => ∃ (kq : Nat) (x0_6 : List (S23)), Aside0 (p_Canonical.j0 kq x0_6 = some (r1, r2)) ∧ Aside0 (kq ≤ k) ∧ Aside0 (Kd.V k23 23 wc w.heap.size (fun k_ => (P0_ k_ ∨ w.heap.size ≤ k_)) v0 x0_6) ∧ Aside0 (Below w.heap.size w wc))
  case first =>
   have H := HC7.out
   clear HC7
   by_cases c11 : t476 < 0
   ·rw [if_pos c11] at H
    have c11b0 : decide (t476 < 0) = true := decide_eq_true c11
    clear c11
    (first | rw [c11b0] | (simp only [i64_w, i32_w]; rw [c11b0]) | skip)
    replace H := Option.bind_eq_some_iff.mp H
    obtain ⟨t477, A120, H⟩ := H
    replace H : (p_Canonical.j0 k t477) = some (r1, r2) := H
    have A12 := am A120
    clear A120
    have H' := am H
    clear H
    go_wp2_with (first | ((with_reducible refine gc (f := 28) rfl ?_); refine goesL_ (some 19) rfl rfl Try.func28 (by kernel_rfl) rfl #[.slice A0 l0.length c0] rfl (by (try simp only [pml]); first | done | rfl | (simp only [pdt]; rfl)) ?_; (with_reducible refine (p_Reverse.calls _ _ l0 t477 _ ?side1 ?side2 A12.out).mono ?_); (case side1 => repeat (first | exact (Kd.V_reads' HO0.out).2.2 | (with_reducible refine Kd.C_alloc ?_ _) | (with_reducible refine Kd.C_drewN ?_ _) | (with_reducible refine Kd.C_drew ?_))); (case side2 => exact (Kd.V_reads' HO0.out).2.1); rintro e w13 ⟨v478, rfl, ho0, hb⟩; refine ⟨_, rfl, ?_⟩; have n0_ := am (Kd.V_elder' (by (with_reducible repeat (first | apply Kd.V_alloc | apply Kd.V_drewN | apply Kd.V_drew)); exact HO0.out) (Kd.R_base ho0) hb); have n1_ := am (Kd.R_lower (Kd.R_newM (M := fun k_ => (w.heap.size ≤ k_)) ho0 (below_size (by repeat (first | (with_reducible first | exact HB.out | apply wa | apply wN | apply wd) | exact HB.out))) (fun k_ h_ => h_)) (below_size (by repeat (first | (with_reducible first | exact HB.out | apply wa | apply wN | apply wd) | exact HB.out)))); have n2_ := am (wt (by repeat (first | (with_reducible first | exact HB.out | apply wa | apply wN | apply wd) | exact HB.out)) hb); clear HO0 HB; have HO0 := n0_; have HO479 := n1_; have HB := n2_; clear n0_ n1_ n2_; (try clear hb); (try clear hb2); (try clear hk); (try clear hi); (try clear ho0)))
    go_meet
    case rel => exact ⟨_, (t477), H', ⟨by first | omega | exact Nat.le_refl _⟩, ⟨Kd.V_mono (Kd.R_V (by (with_reducible repeat (first | apply Kd.R_alloc | apply Kd.R_drewN | apply Kd.R_drew)); exact Kd.R_mono HO479.out (fun _ hk => hk.1))) (fun k_ hk => by first | exact ⟨(.inr (hk.1)), hk.2⟩ | exact (.inr (hk)))⟩, ⟨by repeat (first | (with_reducible first | exact HB.out | apply wa | apply wN | apply wd) | exact HB.out)⟩⟩
   rw [if_neg c11] at H
   have c11b0 : decide (t476 < 0) = false := decide_eq_false c11
   clear c11
   (first | rw [c11b0] | (simp only [i64_w, i32_w]; rw [c11b0]) | skip)
   have H' := am H
   clear H
   go_wp2
   go_meet
   case rel => exact ⟨_, (l0), H', ⟨by first | omega | exact Nat.le_refl _⟩, ⟨by (with_reducible repeat (first | apply Kd.V_alloc | apply Kd.V_drewN | apply Kd.V_drew)); exact HO0.out⟩, ⟨by repeat (first | (with_reducible first | exact HB.out | apply wa | apply wN | apply wd) | exact HB.out)⟩⟩
  case rest =>
   clear HC7
   try clear c1;try clear c2;try clear p2;try clear c3;try clear c3b0;try clear c3b1;try clear c5;try clear c11;try clear c11b0
   obtain ⟨kq, x0_6, HA, HJ6, HO_0, HB⟩ := hcut
   cases kq with
   | zero => exact absurd HA.out (by simp [p_Canonical.j0])
   | succ kj6 =>
    have H := HA.out
    clear HA
    simp only [p_Canonical.j0] at H
    have H' := am H
    clear H
    obtain ⟨Ao14, co14, eo14⟩ := Kd.V_slice HO_0.out
    subst eo14
    go_wp2
    go_loopg [5, 22] kj6 (fun kq v5 v22 w' => ∃ (x5_2 : Int) (x22_2 : Int), v5 = .int .i64 x5_2 ∧ v22 = .int .i64 x22_2 ∧ Aside0 (p_Canonical.l0 kq x0_6 x5_2 (x0_6.length : Int) x22_2 = some (r1, r2)) ∧ Aside0 (kq ≤ kj6) ∧ Aside0 (Kd.V k23 23 w' w.heap.size (fun k_ => (P0_ k_ ∨ w.heap.size ≤ k_)) (.slice Ao14 x0_6.length co14) x0_6) ∧ Aside0 (Below w.heap.size w w'))
    case atStart => exact ⟨(0), (0), (by first | rfl | (simp; done) | (simp [*]; done)), (by first | rfl | (simp; done) | (simp [*]; done)), H', ⟨Nat.le_refl _⟩, ⟨by (with_reducible repeat (first | apply Kd.V_alloc | apply Kd.V_drewN | apply Kd.V_drew)); exact HO_0.out⟩, ⟨by repeat (first | (with_reducible first | exact HB.out | apply wa | apply wN | apply wd) | exact HB.out)⟩⟩
    case round =>
     clear H'
     try clear c1;try clear c2;try clear p2;try clear c3;try clear c3b0;try clear c3b1;try clear c5;try clear c11;try clear c11b0;try clear p2
     obtain ⟨x5_2, x22_2, rfl, rfl, HA, HK2, HO_0, HB⟩ := hrel
     cases gk with
     | zero => exact absurd HA.out (by simp [p_Canonical.l0])
     | succ k2 =>
      have H := HA.out
      clear HA
      simp only [p_Canonical.l0] at H
      by_cases c15 : x22_2 < (x0_6.length : Int)
      rotate_left
      ·rw [if_neg c15] at H
       have c15b0 : decide (x22_2 < (x0_6.length : Int)) = false := decide_eq_false c15
       clear c15
       by_cases c26 : 0 ≤ x5_2
       rotate_left
       ·rw [if_neg c26] at H
        exact absurd H (by simp)
       rw [if_pos c26] at H
       have c26b0 := eq_true c26
       have c26b1 : decide (0 ≤ x5_2) = true := decide_eq_true c26
       clear c26
       by_cases c27 : x5_2 ≤ (x0_6.length : Int)
       rotate_left
       ·rw [if_neg c27] at H
        exact absurd H (by simp)
       rw [if_pos c27] at H
       have c27b0 := eq_true c27
       have c27b1 : decide (x5_2 ≤ (x0_6.length : Int)) = true := decide_eq_true c27
       clear c27
       obtain ⟨y483, hy483⟩ : ∃ y_ : List (S23), y_ = (x0_6.drop (x5_2 : Int).toNat) := ⟨_, rfl⟩
       replace H : ((api_Point_59.f (([y483, (x0_6.take (x5_2 : Int).toNat)] : List (List (S23))))).bind fun t496 => (some (t496, 0))) = some (r1, r2) := by first | (rw [hy483]; with_reducible exact H) | (have H2_ := (Option.bind_some _ _).symm.trans H; rw [hy483]; with_reducible exact H2_) | (have H2_ := (Option.bind_some _ _).symm.trans H; with_reducible exact H2_) | with_reducible exact H | (rw [hy483]; exact H) | exact H
       have Ny483 := am hy483
       clear hy483
       have c28b0 := eq_true (of_decide_eq_true (by assumption) : 0 ≤ x5_2)
       have c29b0 := eq_true (of_decide_eq_true (by assumption) : x5_2 ≤ (x0_6.length : Int))
       obtain ⟨y488, hy488⟩ : ∃ y_ : List (S23), y_ = (x0_6.take (x5_2 : Int).toNat) := ⟨_, rfl⟩
       replace H : ((api_Point_59.f (([y483, y488] : List (List (S23))))).bind fun t496 => (some (t496, 0))) = some (r1, r2) := by first | (rw [hy488]; with_reducible exact H) | (have H2_ := (Option.bind_some _ _).symm.trans H; rw [hy488]; with_reducible exact H2_) | (have H2_ := (Option.bind_some _ _).symm.trans H; with_reducible exact H2_) | with_reducible exact H | (rw [hy488]; exact H) | exact H
       have Ny488 := am hy488
       clear hy488
       obtain ⟨y493, hy493⟩ : ∃ y_ : List (List (S23)), y_ = (([y483, y488] : List (List (S23)))) := ⟨_, rfl⟩
       replace H : ((api_Point_59.f y493).bind fun t496 => (some (t496, 0))) = some (r1, r2) := by first | (rw [hy493]; with_reducible exact H) | (have H2_ := (Option.bind_some _ _).symm.trans H; rw [hy493]; with_reducible exact H2_) | (have H2_ := (Option.bind_some _ _).symm.trans H; with_reducible exact H2_) | with_reducible exact H | (rw [hy493]; exact H) | exact H
       have Ny493 := am hy493
       clear hy493
       replace H := Option.bind_eq_some_iff.mp H
       obtain ⟨t496, A300, H⟩ := H
       replace H : (some (t496, 0)) = some (r1, r2) := H
       have A30 := am A300
       clear A300
       simp only [Option.some.injEq, Prod.mk.injEq] at H
       obtain ⟨rfl, rfl⟩ := H
       try go_wp2
       have n0_ := am (Kd.V_drew HO_0.out)
       have n1_ := am (wd HB.out)
       clear HO_0 HB
       have HO_0 := n0_
       have HB := n1_
       clear n0_ n1_
       have q32 : (x5_2 : Int) ≤ ((x0_6.length : Int) : Int) := of_decide_eq_true (by assumption)
       obtain ⟨i032, hi032, _, hsz32, _⟩ := info_parts info23
       have hroom32 : x0_6.length ≤ co14 := (Kd.V_reads' HO_0.out).2.1
       have hC32 : Kd.F k23 _ _ Ao14 x0_6.length x0_6 := (Kd.V_at (base := w.heap.size) HO_0.out).2.2
       have q032 : (0 : Int) ≤ (x5_2 : Int) := of_decide_eq_true (by assumption)
       have hcut32 := cut_from (P := Try.prog) 29 23 .i64 Try.underlying29 hi032 2 hsz32 Ao14 x0_6.length co14 x5_2 q032 q32
       have hr32 := Kd.F_cut (m := (x5_2 : Int).toNat) (c := co14) hC32 (by omega) hroom32
       obtain ⟨A32, hA32⟩ : ∃ A1, A1 = (if co14 = (x5_2 : Int).toNat then Ao14 else (Ao14 : Option Addr).map (·.add ((x5_2 : Int).toNat * 2))) := ⟨_, rfl⟩
       obtain ⟨c32, hc32⟩ : ∃ c1, c1 = co14 - (x5_2 : Int).toNat := ⟨_, rfl⟩
       have hy32 : y483.length = x0_6.length - (x5_2 : Int).toNat := (by rw [Ny483.out, List.length_drop] <;> omega)
       rw [show (x0_6).drop (x5_2 : Int).toNat = y483 from Ny483.out.symm] at hr32
       replace hr32 : Kd.F k23 _ _ A32 y483.length y483 := (by rw [hA32]; exact hr32)
       rw [← hy32, ← hA32, ← hc32] at hcut32
       have HO487 := am (show Kd.V k23 23 _ w.heap.size _ (.slice A32 y483.length c32) y483 from Kd.V_mk (by rw [hy32, hc32]; exact Nat.sub_le_sub_right hroom32 _) hr32)
       have HC487 := am (show y483.length ≤ c32 from by rw [hy32, hc32]; exact Nat.sub_le_sub_right hroom32 _)
       clear hr32 hC32 hroom32 hi032 hsz32 hc32
       have KY32 := am hy32
       have KA32 := am hA32
       clear hy32 hA32
       replace q32 := eq_true q32
       have q33 : (x5_2 : Int) ≤ ((x0_6.length : Int) : Int) := of_decide_eq_true (by assumption)
       obtain ⟨i033, hi033, _, hsz33, _⟩ := info_parts info23
       have hroom33 : x0_6.length ≤ co14 := (Kd.V_reads' HO_0.out).2.1
       have hC33 : Kd.F k23 _ _ Ao14 x0_6.length x0_6 := (Kd.V_at (base := w.heap.size) HO_0.out).2.2
       have hcut33 := cut_to (P := Try.prog) 29 23 .i64 Try.underlying29 hi033 Ao14 x0_6.length co14 x5_2 (of_decide_eq_true (by assumption)) q33 hroom33
       have hr33 := Kd.F_take (m := (x5_2 : Int).toNat) hC33 (by omega)
       have hy33 : y488.length = (x5_2 : Int).toNat := (by rw [Ny488.out, List.length_take]; omega)
       rw [← Ny488.out] at hr33
       rw [← hy33] at hcut33
       have HO492 := am (show Kd.V k23 23 _ w.heap.size _ (.slice Ao14 y488.length co14) y488 from Kd.V_mk (by omega) hr33)
       have HC492 := am (show y488.length ≤ co14 from by omega)
       clear hr33 hC33 hroom33 hi033 hsz33
       have KY33 := am hy33
       clear hy33
       replace q33 := eq_true q33
       refine start_ (n := 10) (S := fun w' => True) (ds := []) #[F,F,F,F,F,F,F,F,F,F] (by kernel_rfl) rfl rfl trivial (fun hHeld => ?_); refine with_tabW p_Canonical.tab15 p_Canonical.bits15 (fun HT_ HW_ => ?_)
       generalize wr.drew = w31 at HO_0 HB HO487 HO492 hHeld ⊢
       refine pure_ (i := 0) (N := some 37) (v := ?_) (a' := ?_) #[T,F,F,F,F,F,F,F,F,F] rfl rfl (any_of HT_.out (by kernel_rfl)) (fun _ _ _ h => h) (Or.inl ⟨by rfl, ?_⟩) ?_ ?_
       rotate_left
       ·intro w'
        go_simp
        with_reducible rfl
       rotate_left
       ·simp only [Act.put, psl, i64_w, i32_w]
        rfl
       refine pure_ (i := 1) (N := some 38) (v := ?_) (a' := ?_) #[T,T,F,F,F,F,F,F,F,F] rfl rfl (any_of HT_.out (by kernel_rfl)) (fun _ _ _ h => h) (Or.inl ⟨by rfl, ?_⟩) ?_ ?_
       rotate_left
       ·intro w'
        go_simp
        with_reducible rfl
       rotate_left
       ·simp only [Act.put, psl, i64_w, i32_w]
        rfl
       refine pure_ (i := 2) (N := some 39) (v := ?_) (a' := ?_) #[T,T,T,F,F,F,F,F,F,F] rfl rfl (any_of HT_.out (by kernel_rfl)) (fun _ _ _ h => h) (Or.inl ⟨by rfl, ?_⟩) ?_ ?_
       rotate_left
       ·intro w'
        go_simp
        with_reducible rfl
       rotate_left
       ·simp only [Act.put, psl, i64_w, i32_w]
        rfl
       refine pure_ (i := 3) (N := some 40) (v := ?_) (a' := ?_) #[T,T,T,T,F,F,F,F,F,F] rfl rfl (any_of HT_.out (by kernel_rfl)) (fun _ _ _ h => h) (Or.inl ⟨by rfl, ?_⟩) ?_ ?_
       rotate_left
       ·intro w'
        go_simp
        with_reducible rfl
       rotate_left
       ·simp only [Act.put, psl, i64_w, i32_w]
        rfl
       refine pure_ (i := 4) (N := some 41) (v := ?_) (a' := ?_) #[T,T,T,T,T,F,F,F,F,F] rfl rfl (any_of HT_.out (by kernel_rfl)) (fun _ _ _ h => h) (Or.inl ⟨by rfl, ?_⟩) ?_ ?_
       rotate_left
       ·intro w'
        go_simp
        with_reducible rfl
       rotate_left
       ·simp only [Act.put, psl, i64_w, i32_w]
        rfl
       refine pure_ (i := 5) (N := some 42) (v := ?_) (a' := ?_) #[T,T,T,T,T,T,F,F,F,F] rfl rfl (any_of HT_.out (by kernel_rfl)) (fun _ _ _ h => h) (Or.inl ⟨by rfl, ?_⟩) ?_ ?_
       rotate_left
       ·intro w'
        go_simp
        with_reducible rfl
       rotate_left
       ·simp only [Act.put, psl, i64_w, i32_w]
        rfl
       refine one_ (i := 6) (N := some 43) #[T,T,T,T,T,T,T,F,F,F] rfl rfl (one_of HT_.out (by kernel_rfl)) (by decide) (fun K hK => ?_)
       refine Kd.N_lit_step (Kd.slice 23 k23) _ 29 ?hg (N' := 43) ?hd (xs := ([y483, y488] : List (List (S23)))) (inner := [.slice A32 y483.length c32, .slice Ao14 y488.length co14]) (ok := (fun k_ => (P0_ k_ ∨ w.heap.size ≤ k_))) (okp := (fun k_ => (P0_ k_ ∨ w.heap.size ≤ k_))) ?hr ?hp (fun _ hk => hk) ((show ∀ k_, w31.heap.size ≤ k_ → (fun k_ => (P0_ k_ ∨ w.heap.size ≤ k_)) k_ from fun k_ hk => (.inr (Nat.le_trans (below_size (by repeat (first | (with_reducible first | exact HB.out | apply wa | apply wN | apply wd) | exact HB.out))) hk))) _ (Nat.le_refl _)) (Below.refl _ _) (Nat.le_refl _) (by simp) ?_; (case hd | hg => rfl); (case hr => first | (go_simp; done) | (go_simp; rfl)); (case hp => exact (Reps.one (show Kd.FK (Kd.slice 23 k23) _ _ y483 [.slice A32 y483.length c32] from (Kd.FK_slice_mk (Kd.V_reads' (Kd.V_mono (ok' := (fun k_ => (P0_ k_ ∨ w.heap.size ≤ k_))) (HO487.out) (fun k_ hk => hk))).2.1 (Kd.V_F (Kd.V_mono (ok' := (fun k_ => (P0_ k_ ∨ w.heap.size ≤ k_))) (HO487.out) (fun k_ hk => hk))))) (Reps.one (show Kd.FK (Kd.slice 23 k23) _ _ y488 [.slice Ao14 y488.length co14] from (Kd.FK_slice_mk (Kd.V_reads' (Kd.V_mono (ok' := (fun k_ => (P0_ k_ ∨ w.heap.size ≤ k_))) (HO492.out) (fun k_ hk => hk))).2.1 (Kd.V_F (Kd.V_mono (ok' := (fun k_ => (P0_ k_ ∨ w.heap.size ≤ k_))) (HO492.out) (fun k_ hk => hk))))) (Reps.none _ _))))
       intro v494 w34 ho35 hb hg_ hnew_
       clear hg_ hnew_
       (first | rw [← Ny493.out] at ho35 | (simp only [Int.reduceToNat] at ho35; rw [← Ny493.out] at ho35))
       have n0_ := am (Kd.V_elder' (by (with_reducible repeat (first | apply Kd.V_alloc | apply Kd.V_drewN | apply Kd.V_drew)); exact HO_0.out) (Kd.N_base ho35) hb)
       have n1_ := am (Kd.V_elder' (by (with_reducible repeat (first | apply Kd.V_alloc | apply Kd.V_drewN | apply Kd.V_drew)); exact HO487.out) (Kd.N_base ho35) hb)
       have n2_ := am (Kd.V_elder' (by (with_reducible repeat (first | apply Kd.V_alloc | apply Kd.V_drewN | apply Kd.V_drew)); exact HO492.out) (Kd.N_base ho35) hb)
       have n3_ := am (Kd.N_lower ho35 (below_size (by repeat (first | (with_reducible first | exact HB.out | apply wa | apply wN | apply wd) | exact HB.out))))
       have n4_ := am (wt (by repeat (first | (with_reducible first | exact HB.out | apply wa | apply wN | apply wd) | exact HB.out)) hb)
       clear HO_0 HO487 HO492 HB
       have HO_0 := n0_
       have HO487 := n1_
       have HO492 := n2_
       have HO495 := n3_
       have HB := n4_
       clear n0_ n1_ n2_ n3_ n4_ hb ho35
       obtain ⟨Ao36, co36, eo36⟩ := Kd.N_slice HO495.out
       (first | subst eo36 | (injection eo36 with f1_ f2_ f3_; have f4_ := f1_.symm; have f5_ := f3_.symm; clear f1_ f2_ f3_; subst f4_; subst f5_))
       refine hK.out _ _ trivial (fun hHeld => ?_)
       clear hK K
       refine norm_ (a' := ?_) ?_ ?_
       rotate_left
       ·show Act.put _ (some 43) _ = _
        simp only [Act.put, psl, i64_w, i32_w]
        rfl
       refine one_ (i := 7) (N := some 44) #[T,T,T,T,T,T,T,T,F,F] rfl rfl (one_of HT_.out (by kernel_rfl)) (by decide) (fun K hK => ?_)
       refine goes_ Try.func59 (by kernel_rfl) rfl #[.slice Ao36 y493.length co36] (by rfl) rfl rfl (by (try simp only [pml]); first | done | rfl | (simp only [pdt]; rfl)) ?_
       with_reducible refine (api_Point_59.calls _ _ y493 t496 _ ?side1 ?side2 A30.out).mono ?_
       (case side1 => repeat (first | exact (Kd.N_reads' HO495.out).2.2 | (with_reducible refine Kd.C_alloc ?_ _) | (with_reducible refine Kd.C_drewN ?_ _) | (with_reducible refine Kd.C_drew ?_)))
       (case side2 => exact (Kd.N_reads' HO495.out).2.1)
       rintro e w37 ⟨v497, rfl, ho0, hb⟩
       refine ⟨_, rfl, ?_⟩
       have n0_ := am (Kd.V_elder' (by (with_reducible repeat (first | apply Kd.V_alloc | apply Kd.V_drewN | apply Kd.V_drew)); exact HO_0.out) (Kd.R_base ho0) hb)
       have n1_ := am (Kd.V_elder' (by (with_reducible repeat (first | apply Kd.V_alloc | apply Kd.V_drewN | apply Kd.V_drew)); exact HO487.out) (Kd.R_base ho0) hb)
       have n2_ := am (Kd.V_elder' (by (with_reducible repeat (first | apply Kd.V_alloc | apply Kd.V_drewN | apply Kd.V_drew)); exact HO492.out) (Kd.R_base ho0) hb)
       have n3_ := am (Kd.N_elder' (by (with_reducible repeat (first | apply Kd.N_alloc | apply Kd.N_drewN | apply Kd.N_drew)); exact HO495.out) (Kd.R_base ho0) hb)
       have n4_ := am (Kd.R_lower (Kd.R_newM (M := fun k_ => (w.heap.size ≤ k_)) ho0 (below_size (by repeat (first | (with_reducible first | exact HB.out | apply wa | apply wN | apply wd) | exact HB.out))) (fun k_ h_ => h_)) (below_size (by repeat (first | (with_reducible first | exact HB.out | apply wa | apply wN | apply wd) | exact HB.out))))
       have n5_ := am (wt (by repeat (first | (with_reducible first | exact HB.out | apply wa | apply wN | apply wd) | exact HB.out)) hb)
       clear HO_0 HO487 HO492 HO495 HB
       have HO_0 := n0_
       have HO487 := n1_
       have HO492 := n2_
       have HO495 := n3_
       have HO498 := n4_
       have HB := n5_
       clear n0_ n1_ n2_ n3_ n4_ n5_
       (try clear hb)
       (try clear hb2)
       (try clear hk)
       (try clear hi)
       (try clear ho0)
       refine hK.out _ _ trivial (fun hHeld => ?_)
       clear hK K
       refine norm_ (a' := ?_) ?_ ?_
       rotate_left
       ·show Act.put _ (some 44) _ = _
        simp only [Act.put, psl, i64_w, i32_w]
        rfl
       refine pure_ (i := 8) (N := some 2) (v := ?_) (a' := ?_) #[T,T,T,T,T,T,T,T,T,F] rfl rfl (any_of HT_.out (by kernel_rfl)) (fun _ _ _ h => h) (Or.inl ⟨by rfl, ?_⟩) ?_ ?_
       rotate_left
       ·intro w'
        go_simp
        with_reducible rfl
       rotate_left
       ·simp only [Act.put, psl, i64_w, i32_w]
        rfl
       refine pure_ (i := 9) (N := some 3) (v := ?_) (a' := ?_) #[T,T,T,T,T,T,T,T,T,T] rfl rfl (any_of HT_.out (by kernel_rfl)) (fun _ _ _ h => h) (Or.inl ⟨by rfl, ?_⟩) ?_ ?_
       rotate_left
       ·intro w'
        go_simp
        with_reducible rfl
       rotate_left
       ·simp only [Act.put, psl, i64_w, i32_w]
        rfl
       refine done_ (done_of HT_.out (by kernel_rfl)) ?_
       try go_wp2
       go_ret2
       exact ⟨_, by first | rfl | (simp [errW_none, errW_some] <;> rfl) | (simp [*, errW_none, errW_some] <;> rfl), by (with_reducible repeat (first | apply Kd.R_alloc | apply Kd.R_drewN | apply Kd.R_drew)); exact Kd.R_mono HO498.out (fun _ hk => hk.1), by repeat (first | (with_reducible first | exact HB.out | apply wa | apply wN | apply wd) | exact HB.out)⟩
      rw [if_pos c15] at H
      have c15b0 : decide (x22_2 < (x0_6.length : Int)) = true := decide_eq_true c15
      clear c15
      by_cases c16 : 0 ≤ x22_2
      rotate_left
      ·rw [if_neg c16] at H
       exact absurd H (by simp)
      rw [if_pos c16] at H
      have c16b0 : decide (0 ≤ x22_2) = true := decide_eq_true c16
      clear c16
      by_cases c17 : x22_2 < (x0_6.length : Int)
      rotate_left
      ·rw [if_neg c17] at H
       exact absurd H (by simp)
      rw [if_pos c17] at H
      have c17b0 : decide (x22_2 < (x0_6.length : Int)) = true := decide_eq_true c17
      clear c17
      by_cases c18 : 0 ≤ x5_2
      rotate_left
      ·rw [if_neg c18] at H
       exact absurd H (by simp)
      rw [if_pos c18] at H
      have c18b0 : decide (0 ≤ x5_2) = true := decide_eq_true c18
      clear c18
      by_cases c19 : x5_2 < (x0_6.length : Int)
      rotate_left
      ·rw [if_neg c19] at H
       exact absurd H (by simp)
      rw [if_pos c19] at H
      have c19b0 : decide (x5_2 < (x0_6.length : Int)) = true := decide_eq_true c19
      clear c19
      replace H := Option.bind_eq_some_iff.mp H
      obtain ⟨t482, A200, H⟩ := H
      replace H : (if t482 < 0 then (p_Canonical.l0 k2 x0_6 x22_2 (x0_6.length : Int) (wrap64 (x22_2 + 1))) else (p_Canonical.l0 k2 x0_6 x5_2 (x0_6.length : Int) (wrap64 (x22_2 + 1)))) = some (r1, r2) := H
      have A20 := am A200
      clear A200
      by_cases c21 : t482 < 0
      ·rw [if_pos c21] at H
       have c21b0 : decide (t482 < 0) = true := decide_eq_true c21
       clear c21
       have H' := am H
       clear H
       try go_wp2
       have n0_ := am (Kd.V_drew HO_0.out)
       have n1_ := am (wd HB.out)
       clear HO_0 HB
       have HO_0 := n0_
       have HB := n1_
       clear n0_ n1_
       have p480 : 0 ≤ (x22_2 : Int) := of_decide_eq_true (by assumption)
       have q480 : x22_2 < (x0_6.length : Int) := of_decide_eq_true (by assumption)
       obtain ⟨ad480, e480, hx480_0, hx480_1⟩ := at_T23 (Kd.V_reads' HO_0.out).2.2 x22_2 p480 q480
       cases e480
       replace p480 := eq_true p480
       replace q480 := eq_true q480
       have p481 : 0 ≤ (x5_2 : Int) := of_decide_eq_true (by assumption)
       have q481 : x5_2 < (x0_6.length : Int) := of_decide_eq_true (by assumption)
       obtain ⟨ad481, e481, hx481_0, hx481_1⟩ := at_T23 (Kd.V_reads' HO_0.out).2.2 x5_2 p481 q481
       obtain rfl : ad480 = ad481 := (by injection e481)
       replace p481 := eq_true p481
       replace q481 := eq_true q481
       refine start_ (n := 10) (S := fun w' => w'.cell? (ad480.add ((x22_2).toNat * 2)) = some (.int .i64 ((rd_T23 x0_6 x22_2).f0)) ∧ w'.cell? ⟨(ad480.add ((x22_2).toNat * 2)).block, (ad480.add ((x22_2).toNat * 2)).off + 1, none⟩ = some (.int .i64 ((rd_T23 x0_6 x22_2).f1)) ∧ w'.cell? (ad480.add ((x5_2).toNat * 2)) = some (.int .i64 ((rd_T23 x0_6 x5_2).f0)) ∧ w'.cell? ⟨(ad480.add ((x5_2).toNat * 2)).block, (ad480.add ((x5_2).toNat * 2)).off + 1, none⟩ = some (.int .i64 ((rd_T23 x0_6 x5_2).f1))) (ds := []) #[F,F,F,F,F,F,F,F,F,F] (by kernel_rfl) rfl rfl ⟨hx480_0, hx480_1, hx481_0, hx481_1⟩ (fun hHeld => ?_); refine with_tabW p_Canonical.tab12 p_Canonical.bits12 (fun HT_ HW_ => ?_)
       generalize wr.drew = w22 at HO_0 HB hx480_0 hx480_1 hx481_0 hx481_1 hHeld ⊢
       refine pure_ (i := 0) (N := some 25) (v := ?_) (a' := ?_) #[T,F,F,F,F,F,F,F,F,F] rfl rfl (any_of HT_.out (by kernel_rfl)) (fun _ _ _ h => h) (Or.inl ⟨by rfl, ?_⟩) ?_ ?_
       rotate_left
       ·intro w'
        go_simp
        with_reducible rfl
       rotate_left
       ·simp only [Act.put, psl, i64_w, i32_w]
        rfl
       refine pure_ (i := 1) (N := some 26) (v := ?_) (a' := ?_) #[T,T,F,F,F,F,F,F,F,F] rfl rfl (any_of HT_.out (by kernel_rfl)) (fun _ _ _ h => h) (Or.inl ⟨by rfl, ?_⟩) ?_ ?_
       rotate_left
       ·intro w'
        go_simp
        with_reducible rfl
       rotate_left
       ·simp only [Act.put, psl, i64_w, i32_w]
        rfl
       refine pure_ (i := 2) (N := some 27) (v := ?_) (a' := ?_) #[T,T,T,F,F,F,F,F,F,F] rfl rfl (any_of HT_.out (by kernel_rfl)) (fun _ _ _ h => h) (Or.inl ⟨by rfl, ?_⟩) ?_ ?_
       rotate_left
       ·intro w'
        go_simp
        with_reducible rfl
       rotate_left
       ·simp only [Act.put, psl, i64_w, i32_w]
        rfl
       refine pure_ (i := 4) (N := some 29) (v := ?_) (a' := ?_) #[T,T,T,F,T,F,F,F,F,F] rfl rfl (any_of HT_.out (by kernel_rfl)) (fun _ _ _ h => h) (Or.inl ⟨by rfl, ?_⟩) ?_ ?_
       rotate_left
       ·intro w'
        go_simp
        with_reducible rfl
       rotate_left
       ·simp only [Act.put, psl, i64_w, i32_w]
        rfl
       refine pure_ (i := 5) (N := some 30) (v := ?_) (a' := ?_) #[T,T,T,F,T,T,F,F,F,F] rfl rfl (any_of HT_.out (by kernel_rfl)) (fun _ _ _ h => h) (Or.inl ⟨by rfl, ?_⟩) ?_ ?_
       rotate_left
       ·intro w'
        go_simp
        with_reducible rfl
       rotate_left
       ·simp only [Act.put, psl, i64_w, i32_w]
        rfl
       refine pure_ (i := 6) (N := some 31) (v := ?_) (a' := ?_) #[T,T,T,F,T,T,T,F,F,F] rfl rfl (any_of HT_.out (by kernel_rfl)) (fun _ _ _ h => h) (Or.inl ⟨by rfl, ?_⟩) ?_ ?_
       rotate_left
       ·intro w'
        go_simp
        with_reducible rfl
       rotate_left
       ·simp only [Act.put, psl, i64_w, i32_w]
        rfl
       refine take_ (i := 3) (N := some 28) (v := ?_) (a' := ?_) #[T,T,T,T,T,T,T,F,F,F] rfl rfl (take_ofW HT_.out HW_.out (by kernel_rfl)) (fun _ _ _ h => h) (Or.inl ⟨by rfl, ?_⟩) hHeld ?_ ?_
       rotate_left
       ·rintro w' ⟨s0, s1, s2, s3⟩
        go_simp
        with_reducible rfl
       rotate_left
       ·simp only [Act.put, psl, i64_w, i32_w]
        rfl
       refine take_ (i := 7) (N := some 32) (v := ?_) (a' := ?_) #[T,T,T,T,T,T,T,T,F,F] rfl rfl (take_ofW HT_.out HW_.out (by kernel_rfl)) (fun _ _ _ h => h) (Or.inl ⟨by rfl, ?_⟩) hHeld ?_ ?_
       rotate_left
       ·rintro w' ⟨s0, s1, s2, s3⟩
        go_simp
        with_reducible rfl
       rotate_left
       ·simp only [Act.put, psl, i64_w, i32_w]
        rfl
       refine one_ (i := 8) (N := some 33) #[T,T,T,T,T,T,T,T,T,F] rfl rfl (one_of HT_.out (by kernel_rfl)) (by decide) (fun K hK => ?_)
       refine goes_ Try.func49 (by kernel_rfl) rfl #[.agg #[.int .i64 ((rd_T23 x0_6 x22_2).f0), .int .i64 ((rd_T23 x0_6 x22_2).f1)], .agg #[.int .i64 ((rd_T23 x0_6 x5_2).f0), .int .i64 ((rd_T23 x0_6 x5_2).f1)]] (by rfl) rfl rfl (by (try simp only [pml]); first | done | rfl | (simp only [pdt]; rfl)) ?_
       with_reducible refine (p_before.calls k2 ((rd_T23 x0_6 x22_2).f0) ((rd_T23 x0_6 x22_2).f1) ((rd_T23 x0_6 x5_2).f0) ((rd_T23 x0_6 x5_2).f1) t482 _ A20.out).mono ?_
       rintro e w23 ⟨rfl, hb⟩
       have HS0_ := (hb.cell (bq _ _ (hHeld.1))).trans (hHeld.1)
       have HS1_ := (hb.cell (bq _ _ (hHeld.2.1))).trans (hHeld.2.1)
       have HS2_ := (hb.cell (bq _ _ (hHeld.2.2.1))).trans (hHeld.2.2.1)
       have HS3_ := (hb.cell (bq _ _ (hHeld.2.2.2))).trans (hHeld.2.2.2)
       refine ⟨_, rfl, ?_⟩
       have n0_ := am (Kd.V_below (by (with_reducible repeat (first | apply Kd.V_alloc | apply Kd.V_drewN | apply Kd.V_drew)); exact HO_0.out) hb)
       have n1_ := am (wt (by repeat (first | (with_reducible first | exact HB.out | apply wa | apply wN | apply wd) | exact HB.out)) hb)
       clear HO_0 HB
       have HO_0 := n0_
       have HB := n1_
       clear n0_ n1_
       (try clear hb)
       (try clear hb2)
       (try clear hk)
       (try clear hi)
       refine hK.out _ _ ⟨HS0_, HS1_, HS2_, HS3_⟩ (fun hHeld => ?_)
       clear hK K
       refine norm_ (a' := ?_) ?_ ?_
       rotate_left
       ·show Act.put _ (some 33) _ = _
        simp only [Act.put, psl, i64_w, i32_w]
        rfl
       refine pure_ (i := 9) (N := some 34) (v := ?_) (a' := ?_) #[T,T,T,T,T,T,T,T,T,T] rfl rfl (any_of HT_.out (by kernel_rfl)) (fun _ _ _ h => h) (Or.inl ⟨by rfl, ?_⟩) ?_ ?_
       rotate_left
       ·intro w'
        go_simp
        with_reducible rfl
       rotate_left
       ·simp only [Act.put, psl, i64_w, i32_w]
        rfl
       refine done_ (done_of HT_.out (by kernel_rfl)) ?_
       try go_wp2
       go_roundg k2
       case measure => have := HJ6.out; have := HK2.out; omega
       case rel => exact ⟨(x22_2), (wrap64 (x22_2 + 1)), (by first | rfl | (simp; done) | (simp [*]; done)), (by first | rfl | (simp; done) | (simp [*]; done)), H', ⟨by have := HJ6.out; have := HK2.out; omega⟩, ⟨by (with_reducible repeat (first | apply Kd.V_alloc | apply Kd.V_drewN | apply Kd.V_drew)); exact HO_0.out⟩, ⟨by repeat (first | (with_reducible first | exact HB.out | apply wa | apply wN | apply wd) | exact HB.out)⟩⟩
      rw [if_neg c21] at H
      have c21b0 : decide (t482 < 0) = false := decide_eq_false c21
      clear c21
      have H' := am H
      clear H
      try go_wp2
      have n0_ := am (Kd.V_drew HO_0.out)
      have n1_ := am (wd HB.out)
      clear HO_0 HB
      have HO_0 := n0_
      have HB := n1_
      clear n0_ n1_
      have p480 : 0 ≤ (x22_2 : Int) := of_decide_eq_true (by assumption)
      have q480 : x22_2 < (x0_6.length : Int) := of_decide_eq_true (by assumption)
      obtain ⟨ad480, e480, hx480_0, hx480_1⟩ := at_T23 (Kd.V_reads' HO_0.out).2.2 x22_2 p480 q480
      cases e480
      replace p480 := eq_true p480
      replace q480 := eq_true q480
      have p481 : 0 ≤ (x5_2 : Int) := of_decide_eq_true (by assumption)
      have q481 : x5_2 < (x0_6.length : Int) := of_decide_eq_true (by assumption)
      obtain ⟨ad481, e481, hx481_0, hx481_1⟩ := at_T23 (Kd.V_reads' HO_0.out).2.2 x5_2 p481 q481
      obtain rfl : ad480 = ad481 := (by injection e481)
      replace p481 := eq_true p481
      replace q481 := eq_true q481
      refine start_ (n := 10) (S := fun w' => w'.cell? (ad480.add ((x22_2).toNat * 2)) = some (.int .i64 ((rd_T23 x0_6 x22_2).f0)) ∧ w'.cell? ⟨(ad480.add ((x22_2).toNat * 2)).block, (ad480.add ((x22_2).toNat * 2)).off + 1, none⟩ = some (.int .i64 ((rd_T23 x0_6 x22_2).f1)) ∧ w'.cell? (ad480.add ((x5_2).toNat * 2)) = some (.int .i64 ((rd_T23 x0_6 x5_2).f0)) ∧ w'.cell? ⟨(ad480.add ((x5_2).toNat * 2)).block, (ad480.add ((x5_2).toNat * 2)).off + 1, none⟩ = some (.int .i64 ((rd_T23 x0_6 x5_2).f1))) (ds := []) #[F,F,F,F,F,F,F,F,F,F] (by kernel_rfl) rfl rfl ⟨hx480_0, hx480_1, hx481_0, hx481_1⟩ (fun hHeld => ?_); refine with_tabW p_Canonical.tab12 p_Canonical.bits12 (fun HT_ HW_ => ?_)
      generalize wr.drew = w24 at HO_0 HB hx480_0 hx480_1 hx481_0 hx481_1 hHeld ⊢
      refine pure_ (i := 0) (N := some 25) (v := ?_) (a' := ?_) #[T,F,F,F,F,F,F,F,F,F] rfl rfl (any_of HT_.out (by kernel_rfl)) (fun _ _ _ h => h) (Or.inl ⟨by rfl, ?_⟩) ?_ ?_
      rotate_left
      ·intro w'
       go_simp
       with_reducible rfl
      rotate_left
      ·simp only [Act.put, psl, i64_w, i32_w]
       rfl
      refine pure_ (i := 1) (N := some 26) (v := ?_) (a' := ?_) #[T,T,F,F,F,F,F,F,F,F] rfl rfl (any_of HT_.out (by kernel_rfl)) (fun _ _ _ h => h) (Or.inl ⟨by rfl, ?_⟩) ?_ ?_
      rotate_left
      ·intro w'
       go_simp
       with_reducible rfl
      rotate_left
      ·simp only [Act.put, psl, i64_w, i32_w]
       rfl
      refine pure_ (i := 2) (N := some 27) (v := ?_) (a' := ?_) #[T,T,T,F,F,F,F,F,F,F] rfl rfl (any_of HT_.out (by kernel_rfl)) (fun _ _ _ h => h) (Or.inl ⟨by rfl, ?_⟩) ?_ ?_
      rotate_left
      ·intro w'
       go_simp
       with_reducible rfl
      rotate_left
      ·simp only [Act.put, psl, i64_w, i32_w]
       rfl
      refine pure_ (i := 4) (N := some 29) (v := ?_) (a' := ?_) #[T,T,T,F,T,F,F,F,F,F] rfl rfl (any_of HT_.out (by kernel_rfl)) (fun _ _ _ h => h) (Or.inl ⟨by rfl, ?_⟩) ?_ ?_
      rotate_left
      ·intro w'
       go_simp
       with_reducible rfl
      rotate_left
      ·simp only [Act.put, psl, i64_w, i32_w]
       rfl
      refine pure_ (i := 5) (N := some 30) (v := ?_) (a' := ?_) #[T,T,T,F,T,T,F,F,F,F] rfl rfl (any_of HT_.out (by kernel_rfl)) (fun _ _ _ h => h) (Or.inl ⟨by rfl, ?_⟩) ?_ ?_
      rotate_left
      ·intro w'
       go_simp
       with_reducible rfl
      rotate_left
      ·simp only [Act.put, psl, i64_w, i32_w]
       rfl
      refine pure_ (i := 6) (N := some 31) (v := ?_) (a' := ?_) #[T,T,T,F,T,T,T,F,F,F] rfl rfl (any_of HT_.out (by kernel_rfl)) (fun _ _ _ h => h) (Or.inl ⟨by rfl, ?_⟩) ?_ ?_
      rotate_left
      ·intro w'
       go_simp
       with_reducible rfl
      rotate_left
      ·simp only [Act.put, psl, i64_w, i32_w]
       rfl
      refine take_ (i := 3) (N := some 28) (v := ?_) (a' := ?_) #[T,T,T,T,T,T,T,F,F,F] rfl rfl (take_ofW HT_.out HW_.out (by kernel_rfl)) (fun _ _ _ h => h) (Or.inl ⟨by rfl, ?_⟩) hHeld ?_ ?_
      rotate_left
      ·rintro w' ⟨s0, s1, s2, s3⟩
       go_simp
       with_reducible rfl
      rotate_left
      ·simp only [Act.put, psl, i64_w, i32_w]
       rfl
      refine take_ (i := 7) (N := some 32) (v := ?_) (a' := ?_) #[T,T,T,T,T,T,T,T,F,F] rfl rfl (take_ofW HT_.out HW_.out (by kernel_rfl)) (fun _ _ _ h => h) (Or.inl ⟨by rfl, ?_⟩) hHeld ?_ ?_
      rotate_left
      ·rintro w' ⟨s0, s1, s2, s3⟩
       go_simp
       with_reducible rfl
      rotate_left
      ·simp only [Act.put, psl, i64_w, i32_w]
       rfl
      refine one_ (i := 8) (N := some 33) #[T,T,T,T,T,T,T,T,T,F] rfl rfl (one_of HT_.out (by kernel_rfl)) (by decide) (fun K hK => ?_)
      refine goes_ Try.func49 (by kernel_rfl) rfl #[.agg #[.int .i64 ((rd_T23 x0_6 x22_2).f0), .int .i64 ((rd_T23 x0_6 x22_2).f1)], .agg #[.int .i64 ((rd_T23 x0_6 x5_2).f0), .int .i64 ((rd_T23 x0_6 x5_2).f1)]] (by rfl) rfl rfl (by (try simp only [pml]); first | done | rfl | (simp only [pdt]; rfl)) ?_
      with_reducible refine (p_before.calls k2 ((rd_T23 x0_6 x22_2).f0) ((rd_T23 x0_6 x22_2).f1) ((rd_T23 x0_6 x5_2).f0) ((rd_T23 x0_6 x5_2).f1) t482 _ A20.out).mono ?_
      rintro e w25 ⟨rfl, hb⟩
      have HS0_ := (hb.cell (bq _ _ (hHeld.1))).trans (hHeld.1)
      have HS1_ := (hb.cell (bq _ _ (hHeld.2.1))).trans (hHeld.2.1)
      have HS2_ := (hb.cell (bq _ _ (hHeld.2.2.1))).trans (hHeld.2.2.1)
      have HS3_ := (hb.cell (bq _ _ (hHeld.2.2.2))).trans (hHeld.2.2.2)
      refine ⟨_, rfl, ?_⟩
      have n0_ := am (Kd.V_below (by (with_reducible repeat (first | apply Kd.V_alloc | apply Kd.V_drewN | apply Kd.V_drew)); exact HO_0.out) hb)
      have n1_ := am (wt (by repeat (first | (with_reducible first | exact HB.out | apply wa | apply wN | apply wd) | exact HB.out)) hb)
      clear HO_0 HB
      have HO_0 := n0_
      have HB := n1_
      clear n0_ n1_
      (try clear hb)
      (try clear hb2)
      (try clear hk)
      (try clear hi)
      refine hK.out _ _ ⟨HS0_, HS1_, HS2_, HS3_⟩ (fun hHeld => ?_)
      clear hK K
      refine norm_ (a' := ?_) ?_ ?_
      rotate_left
      ·show Act.put _ (some 33) _ = _
       simp only [Act.put, psl, i64_w, i32_w]
       rfl
      refine pure_ (i := 9) (N := some 34) (v := ?_) (a' := ?_) #[T,T,T,T,T,T,T,T,T,T] rfl rfl (any_of HT_.out (by kernel_rfl)) (fun _ _ _ h => h) (Or.inl ⟨by rfl, ?_⟩) ?_ ?_
      rotate_left
      ·intro w'
       go_simp
       with_reducible rfl
      rotate_left
      ·simp only [Act.put, psl, i64_w, i32_w]
       rfl
      refine done_ (done_of HT_.out (by kernel_rfl)) ?_
      try go_wp2
      go_roundg k2
      case measure => have := HJ6.out; have := HK2.out; omega
      case rel => exact ⟨(x5_2), (wrap64 (x22_2 + 1)), (by first | rfl | (simp; done) | (simp [*]; done)), (by first | rfl | (simp; done) | (simp [*]; done)), H', ⟨by have := HJ6.out; have := HK2.out; omega⟩, ⟨by (with_reducible repeat (first | apply Kd.V_alloc | apply Kd.V_drewN | apply Kd.V_drew)); exact HO_0.out⟩, ⟨by repeat (first | (with_reducible first | exact HB.out | apply wa | apply wN | apply wd) | exact HB.out)⟩⟩
 ·rw [if_neg c3] at H
  have c3b0 : (t474 == 0) = false := beq_eq_false_iff_ne.mpr c3
  have c3b1 : (t474 != 0) = true := bne_iff_ne.mpr c3
  simp only [Option.some.injEq, Prod.mk.injEq] at H
  obtain ⟨rfl, rfl⟩ := H
  go_enter Try.func33, Try.ntmps33
  go_wp2_with (first | ((with_reducible refine gc (f := 38) rfl ?_); refine goesL_ (some 8) rfl rfl Try.func38 (by kernel_rfl) rfl #[.slice A0 l0.length c0, .slice none 0 0] rfl (by (try simp only [pml]); first | done | rfl | (simp only [pdt]; rfl)) ?_; (refine (p_check.calls k _ _ l0 _ _ ([] : List (S23)) t474 _ ?side1 ?side2 ?side3 ?side4 A2.out).mono ?_); (case side1 => repeat (first | exact (Kd.V_reads' HO0.out).2.2 | (with_reducible refine Kd.C_alloc ?_ _) | (with_reducible refine Kd.C_drewN ?_ _) | (with_reducible refine Kd.C_drew ?_))); (case side2 => exact (Kd.V_reads' HO0.out).2.1); (case side3 => exact Kd.C_nil _ _); (case side4 => exact Nat.le_refl _); rintro e w40 ⟨rfl, hb⟩; refine ⟨_, rfl, ?_⟩; have n0_ := am (Kd.V_below (by (with_reducible repeat (first | apply Kd.V_alloc | apply Kd.V_drewN | apply Kd.V_drew)); exact HO0.out) hb); have n1_ := am (wt (by repeat (first | (with_reducible first | exact HB.out | apply wa | apply wN | apply wd) | exact HB.out)) hb); clear HO0 HB; have HO0 := n0_; have HB := n1_; clear n0_ n1_; (try clear hb); (try clear hb2); (try clear hk); (try clear hi)))
  go_ret2
  exact ⟨_, by first | rfl | (simp [errW_none, errW_some] <;> rfl) | (simp [*, errW_none, errW_some] <;> rfl), by first | exact Kd.R_nil _ _ _ _ _ | exact Kd.N_nil _ _ _ _ _ | exact Kd.V_nil _ _ _ _ _ | exact Kd.Q_nil _ _ _ _ _ | exact Kd.S_nil _ _ _ _ _, by repeat (first | (with_reducible first | exact HB.out | apply wa | apply wN | apply wd) | exact HB.out)⟩

end Go.Proofs.Ytcembjgpcbodcaa.QA
