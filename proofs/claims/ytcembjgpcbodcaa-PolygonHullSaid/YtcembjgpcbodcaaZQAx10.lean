import Derived.Test.YtcembjgpcbodcaaZQAx0
import Derived.Test.YtcembjgpcbodcaaZQAx2
import Derived.Test.YtcembjgpcbodcaaZQAx5
namespace Go.Proofs.Ytcembjgpcbodcaa.QA
open Go.RowKit Go.Proofs.YtcembjgpcbodcaaW.PrintWords Go.Proofs.YtcembjgpcbodcaaW.PrintLast Go.Proofs.YtcembjgpcbodcaaW.PrintMore
open Go.Proofs.YtcembjgpcbodcaaW.PrintWords renaming gate_callee → gc
open Aside0 renaming mk → am
open World renaming block_lt_of_cell? → bq
attribute [local go_sem] max2_int min2_int max_two min_two max_three min_three max_four min_four
set_option linter.unusedVariables false
set_option linter.unusedSimpArgs false

def polygon_Convex.l0 : Nat → List (S23) → Int → Int → Option (Bool × Int)
 | 0, _, _, _ => none
 | k + 1, x0, x12, x13 => if x13 < x12 then (if 0 ≤ x13 then (if x13 < (x0.length : Int) then ((polygon_end.f x0 x13).bind fun bt221 => (if (x0.length : Int) = 0 then (none) else ((polygon_end.f x0 (Int.tmod (wrap64 (x13 + 1)) (x0.length : Int))).bind fun bt223 => ((polygon_Orient.f ((rd_T23 x0 x13).f0) ((rd_T23 x0 x13).f1) bt221.1 bt221.2 bt223.1 bt223.2).bind fun t225 => (if t225 = 1 then (polygon_Convex.l0 k x0 x12 (wrap64 (x13 + 1))) else (some (false, 0))))))) else (none)) else (none)) else ((polygon_simple.f k x0).bind fun t226 => (some (t226, 0)))
def polygon_Convex.f (k : Nat) (l0 : List (S23)) : Option (Bool × Int) := (polygon_check.f k l0 ([] : List (S23))).bind fun t219 => (if t219 = 0 then (polygon_Convex.l0 k l0 (l0.length : Int) 0) else (some (false, t219)))
theorem polygon_Convex.mono_l : ∀ k, (∀ y0 y1 y2, LeO (polygon_Convex.l0 k y0 y1 y2) (polygon_Convex.l0 (k + 1) y0 y1 y2))
 | 0 => fun _ _ _ r h => by simp [polygon_Convex.l0] at h
 | k + 1 => by
  have ih0 := polygon_Convex.mono_l k
  intro y0 y1 y2
  unfold polygon_Convex.l0
  repeat' first
  | (with_reducible exact ih0 _ _ _)
  | (with_reducible exact polygon_check.mono _ _ _)
  | (with_reducible exact polygon_simple.mono _ _)
  | (with_reducible exact LeO.refl _)
  | (with_reducible exact LeO.none _)
  | (with_reducible refine LeO.ite ?_ ?_)
  | (with_reducible refine LeO.bind ?_ (fun _ => ?_))
  | exact ih0 _ _ _
  | exact polygon_check.mono _ _ _
  | exact polygon_simple.mono _ _
  | exact LeO.none _
  | refine LeO.ite ?_ ?_
  | refine LeO.bind ?_ (fun _ => ?_)
theorem polygon_Convex.mono : ∀ a0 k, LeO (polygon_Convex.f k a0) (polygon_Convex.f (k + 1) a0) := by
 intro a0 k
 have ih0 := polygon_Convex.mono_l k
 unfold polygon_Convex.f
 repeat' first
   | (with_reducible exact ih0 _ _ _)
   | (with_reducible exact polygon_check.mono _ _ _)
   | (with_reducible exact polygon_simple.mono _ _)
   | (with_reducible exact LeO.refl _)
   | (with_reducible exact LeO.none _)
   | (with_reducible refine LeO.ite ?_ ?_)
   | (with_reducible refine LeO.bind ?_ (fun _ => ?_))
   | exact ih0 _ _ _
   | exact polygon_check.mono _ _ _
   | exact polygon_simple.mono _ _
   | exact LeO.none _
   | refine LeO.ite ?_ ?_
   | refine LeO.bind ?_ (fun _ => ?_)
def polygon_Convex.T7 : Bool × List (List Nat × List Nat) := (true, [([], []), ([], []), ([0, 1], [0, 1]), ([2], [2]), ([], []), ([], []), ([4, 5], [4, 5]), ([], []), ([], []), ([8], [8]), ([], []), ([10], [10]), ([9, 11], [9, 11]), ([7, 12, 6], [7, 12]), ([3, 6, 13, 13], [3, 6, 13]), ([14], [14])])
def polygon_Convex.B7 : List Nat := [0, 0, 3, 7, 0, 0, 48, 0, 0, 256, 0, 1024, 3840, 8176, 16383, 32767]
theorem polygon_Convex.tab7 : rtab .any (opsOf Try.f24 7) = polygon_Convex.T7 := by kernel_rfl
theorem polygon_Convex.bits7 : waitsOk polygon_Convex.T7.2 polygon_Convex.B7 = true := by kernel_rfl
set_option maxHeartbeats 8000000 in
set_option maxRecDepth 100000 in
theorem polygon_Convex.calls (k : Nat) (A0 : Option Addr) (c0 : Nat) (l0 : List (S23)) (r1 : Bool) (r2 : Int) (w : World) (hr0 : Kd.C k23 w A0 l0.length l0) (hc0 : l0.length ≤ c0) (h : polygon_Convex.f k l0 = some (r1, r2)) :
  Calls Try.prog 24 #[.slice A0 l0.length c0] w fun e w' => e = .returned (.tuple #[.bool r1, .int .i64 r2]) ∧ Below w.heap.size w w' := by
 have hu23 := Try.underlying23
 have HR0 := am hr0
 have HC0 := am hc0
 clear hr0 hc0
 have HB := am (Below.refl w.heap.size w)
 have H : ((polygon_check.f k l0 ([] : List (S23))).bind fun t219 => (if t219 = 0 then (polygon_Convex.l0 k l0 (l0.length : Int) 0) else (some (false, t219)))) = some (r1, r2) := h
 clear h
 replace H := Option.bind_eq_some_iff.mp H
 obtain ⟨t219, A20, H⟩ := H
 replace H : (if t219 = 0 then (polygon_Convex.l0 k l0 (l0.length : Int) 0) else (some (false, t219))) = some (r1, r2) := H
 have A2 := am A20
 clear A20
 by_cases c3 : t219 = 0
 ·rw [if_pos c3] at H
  have c3b0 : (t219 == 0) = true := beq_iff_eq.mpr c3
  have c3b1 : (t219 != 0) = false := bne_eq_false_iff_eq.mpr c3
  clear c3
  have H' := am H
  clear H
  go_enter Try.func24, Try.ntmps24
  go_wp2_with (first | ((with_reducible refine gc (f := 38) rfl ?_); refine goesL_ (some 7) rfl rfl Try.func38 (by kernel_rfl) rfl #[.slice A0 l0.length c0, .slice none 0 0] rfl (by (try simp only [pml]); first | done | rfl | (simp only [pdt]; rfl)) ?_; (refine (polygon_check.calls k _ _ l0 _ _ ([] : List (S23)) t219 _ ?side1 ?side2 ?side3 ?side4 A2.out).mono ?_); (case side1 => repeat (first | exact HR0.out | (with_reducible refine Kd.C_alloc ?_ _) | (with_reducible refine Kd.C_drewN ?_ _) | (with_reducible refine Kd.C_drew ?_))); (case side2 => exact HC0.out); (case side3 => exact Kd.C_nil _ _); (case side4 => exact Nat.le_refl _); rintro e w4 ⟨rfl, hb⟩; refine ⟨_, rfl, ?_⟩; replace HB := bS HB hb; (try clear hb); (try clear hb2); (try clear hk); (try clear hi)))
  go_loopg [13] k (fun kq v13 w' => ∃ (x13_1 : Int), v13 = .int .i64 x13_1 ∧ Aside0 (polygon_Convex.l0 kq l0 (l0.length : Int) x13_1 = some (r1, r2)) ∧ Aside0 (kq ≤ k) ∧ Aside0 (Below w.heap.size w w'))
  case atStart => exact ⟨(0), sqD, H', ⟨Nat.le_refl _⟩, ⟨fW HB.out⟩⟩
  case round =>
   clear H'
   try clear c2;try clear p2;try clear c3;try clear c3b0;try clear c3b1
   obtain ⟨x13_1, rfl, HA, HK1, HB⟩ := hrel
   cases gk with
   | zero => exact absurd HA.out (by simp [polygon_Convex.l0])
   | succ k1 =>
    have H := HA.out
    clear HA
    simp only [polygon_Convex.l0] at H
    by_cases c5 : x13_1 < (l0.length : Int)
    rotate_left
    ·rw [if_neg c5] at H
     have c5b0 : decide (x13_1 < (l0.length : Int)) = false := decide_eq_false c5
     clear c5
     replace H := Option.bind_eq_some_iff.mp H
     obtain ⟨t226, A210, H⟩ := H
     replace H : (some (t226, 0)) = some (r1, r2) := H
     have A21 := am A210
     clear A210
     simp only [Option.some.injEq, Prod.mk.injEq] at H
     obtain ⟨rfl, rfl⟩ := H
     go_wp2_with (first | ((with_reducible refine gc (f := 39) rfl ?_); refine goesL_ (some 34) rfl rfl Try.func39 (by kernel_rfl) rfl #[.slice A0 l0.length c0] rfl (by (try simp only [pml]); first | done | rfl | (simp only [pdt]; rfl)) ?_; (with_reducible refine (polygon_simple.calls k1 _ _ l0 t226 _ ?side1 ?side2 A21.out).mono ?_); (case side1 => repeat (first | exact (Kd.C_below HR0.out HB.out) | (with_reducible refine Kd.C_alloc ?_ _) | (with_reducible refine Kd.C_drewN ?_ _) | (with_reducible refine Kd.C_drew ?_))); (case side2 => exact HC0.out); rintro e w22 ⟨rfl, hb⟩; refine ⟨_, rfl, ?_⟩; replace HB := bS HB hb; (try clear hb); (try clear hb2); (try clear hk); (try clear hi)))
     go_ret2
     exact ⟨sqE, fW HB.out⟩
    rw [if_pos c5] at H
    have c5b0 : decide (x13_1 < (l0.length : Int)) = true := decide_eq_true c5
    clear c5
    by_cases c6 : 0 ≤ x13_1
    rotate_left
    ·rw [if_neg c6] at H
     exact absurd H (by simp)
    rw [if_pos c6] at H
    have c6b0 : decide (0 ≤ x13_1) = true := decide_eq_true c6
    clear c6
    by_cases c7 : x13_1 < (l0.length : Int)
    rotate_left
    ·rw [if_neg c7] at H
     exact absurd H (by simp)
    rw [if_pos c7] at H
    have c7b0 : decide (x13_1 < (l0.length : Int)) = true := decide_eq_true c7
    clear c7
    replace H := Option.bind_eq_some_iff.mp H
    obtain ⟨⟨t221, t222⟩, A80, H⟩ := H
    replace H : (if (l0.length : Int) = 0 then (none) else ((polygon_end.f l0 (Int.tmod (wrap64 (x13_1 + 1)) (l0.length : Int))).bind fun bt223 => ((polygon_Orient.f ((rd_T23 l0 x13_1).f0) ((rd_T23 l0 x13_1).f1) t221 t222 bt223.1 bt223.2).bind fun t225 => (if t225 = 1 then (polygon_Convex.l0 k1 l0 (l0.length : Int) (wrap64 (x13_1 + 1))) else (some (false, 0)))))) = some (r1, r2) := H
    have A8 := am A80
    clear A80
    by_cases c9 : (l0.length : Int) = 0
    ·rw [if_pos c9] at H
     exact absurd H (by simp)
    rw [if_neg c9] at H
    have c9b0 : ((l0.length : Int) == 0) = false := beq_eq_false_iff_ne.mpr c9
    have c9b1 : ((l0.length : Int) != 0) = true := bne_iff_ne.mpr c9
    have c9b2 : ¬ (l0 = []) := fun h_ => c9 (by rw [h_]; rfl)
    replace H := Option.bind_eq_some_iff.mp H
    obtain ⟨⟨t223, t224⟩, A100, H⟩ := H
    replace H : ((polygon_Orient.f ((rd_T23 l0 x13_1).f0) ((rd_T23 l0 x13_1).f1) t221 t222 t223 t224).bind fun t225 => (if t225 = 1 then (polygon_Convex.l0 k1 l0 (l0.length : Int) (wrap64 (x13_1 + 1))) else (some (false, 0)))) = some (r1, r2) := H
    have A10 := am A100
    clear A100
    replace H := Option.bind_eq_some_iff.mp H
    obtain ⟨t225, A110, H⟩ := H
    replace H : (if t225 = 1 then (polygon_Convex.l0 k1 l0 (l0.length : Int) (wrap64 (x13_1 + 1))) else (some (false, 0))) = some (r1, r2) := H
    have A11 := am A110
    clear A110
    by_cases c12 : t225 = 1
    ·rw [if_pos c12] at H
     have c12b0 : (t225 == 1) = true := beq_iff_eq.mpr c12
     have c12b1 : (t225 != 1) = false := bne_eq_false_iff_eq.mpr c12
     clear c12
     have H' := am H
     clear H
     try go_wp2
     have n0_ := am (below_drew1 HB.out)
     clear HB
     have HB := n0_
     clear n0_
     have p220 : 0 ≤ (x13_1 : Int) := of_decide_eq_true (by assumption)
     have q220 : x13_1 < (l0.length : Int) := of_decide_eq_true (by assumption)
     obtain ⟨ad220, e220, hx220_0, hx220_1⟩ := at_T23 HR0.out x13_1 p220 q220
     have hw220_1 := hx220_1
     have hw220_0 := hx220_0
     cases e220
     replace hx220_0 := cl HB hx220_0
     replace hx220_1 := cl HB hx220_1
     replace p220 := eq_true p220
     replace q220 := eq_true q220
     refine start_ (n := 16) (S := fun w' => w'.cell? (ad220.add ((x13_1).toNat * 2)) = some (.int .i64 ((rd_T23 l0 x13_1).f0)) ∧ w'.cell? ⟨(ad220.add ((x13_1).toNat * 2)).block, (ad220.add ((x13_1).toNat * 2)).off + 1, none⟩ = some (.int .i64 ((rd_T23 l0 x13_1).f1))) (ds := []) #[F,F,F,F,F,F,F,F,F,F,F,F,F,F,F,F] (by kernel_rfl) rfl rfl ⟨((HB.out.cell (bq w _ hw220_0)).trans hw220_0), ((HB.out.cell (bq w _ hw220_1)).trans hw220_1)⟩ (fun hHeld => ?_); refine with_tabW polygon_Convex.tab7 polygon_Convex.bits7 (fun HT_ HW_ => ?_)
     generalize wr.drew = w13 at HB hx220_0 hx220_1 hHeld ⊢
     refine pu (i := 0) (N := some 16) (fl 16 1 []) HT_ ?_
     refine pu (i := 1) (N := some 17) (fl 16 2 []) HT_ ?_
     refine pu (i := 2) (N := some 18) (fl 16 3 []) HT_ ?_
     refine pu (i := 4) (N := some 20) (fl 16 3 [4]) HT_ ?_
     refine pu (i := 5) (N := some 21) (fl 16 3 [4, 5]) HT_ ?_
     refine pu (i := 7) (N := some 23) (fl 16 3 [4, 5, 7]) HT_ ?_
     refine pu (i := 8) (N := some 24) (fl 16 3 [4, 5, 7, 8]) HT_ ?_
     refine pu (i := 9) (N := some 25) (fl 16 3 [4, 5, 7, 8, 9]) HT_ ?_
     refine pu (i := 10) (N := some 26) (fl 16 3 [4, 5, 7, 8, 9, 10]) HT_ ?_
     refine pu (i := 11) (N := some 27) (fl 16 3 [4, 5, 7, 8, 9, 10, 11]) HT_ ?_
     refine pu (i := 12) (N := some 28) (fl 16 3 [4, 5, 7, 8, 9, 10, 11, 12]) HT_ ?_
     refine tk (i := 3) (N := some 19) (fl 16 6 [7, 8, 9, 10, 11, 12]) HT_ HW_ hHeld ?_
     refine one_ (i := 6) (N := some 22) (fl 16 13 []) rfl rfl (one_of HT_.out (by kernel_rfl)) (by decide) (fun K hK => ?_)
     refine goes_ Try.func40 (by kernel_rfl) rfl #[.slice (some ad220) l0.length c0, .int .i64 x13_1] (by rfl) rfl rfl (by (try simp only [pml]); first | done | rfl | (simp only [pdt]; rfl)) ?_
     with_reducible refine (polygon_end.calls _ _ l0 x13_1 t221 t222 _ ?side1 ?side2 A8.out).mono ?_
     (case side1 => repeat (first | exact (Kd.C_below HR0.out HB.out) | (with_reducible refine Kd.C_alloc ?_ _) | (with_reducible refine Kd.C_drewN ?_ _) | (with_reducible refine Kd.C_drew ?_)))
     (case side2 => exact HC0.out)
     rintro e w14 ⟨rfl, hb⟩
     refine ⟨_, rfl, ?_⟩
     have n0_ := bS HB hb
     clear HB
     have HB := n0_
     clear n0_
     (try clear hb)
     (try clear hb2)
     (try clear hk)
     (try clear hi)
     refine hK.out _ _ ⟨((HB.out.cell (bq w _ hw220_0)).trans hw220_0), ((HB.out.cell (bq w _ hw220_1)).trans hw220_1)⟩ (fun hHeld => ?_)
     clear hK K
     refine norm_ (a' := ?_) ?_ ?_
     rotate_left
     ·show Act.put _ (some 22) _ = _
      simp only [Act.put, psl, i64_w, i32_w]
      rfl
     refine one_ (i := 13) (N := some 29) (fl 16 14 []) rfl rfl (one_of HT_.out (by kernel_rfl)) (by decide) (fun K hK => ?_)
     refine goes_ Try.func40 (by kernel_rfl) rfl #[.slice (some ad220) l0.length c0, .int .i64 (Int.tmod (wrap64 (x13_1 + 1)) (l0.length : Int))] (by rfl) rfl rfl (by (try simp only [pml]); first | done | rfl | (simp only [pdt]; rfl)) ?_
     with_reducible refine (polygon_end.calls _ _ l0 (Int.tmod (wrap64 (x13_1 + 1)) (l0.length : Int)) t223 t224 _ ?side1 ?side2 A10.out).mono ?_
     (case side1 => repeat (first | exact (Kd.C_below HR0.out HB.out) | (with_reducible refine Kd.C_alloc ?_ _) | (with_reducible refine Kd.C_drewN ?_ _) | (with_reducible refine Kd.C_drew ?_)))
     (case side2 => exact HC0.out)
     rintro e w15 ⟨rfl, hb⟩
     refine ⟨_, rfl, ?_⟩
     have n0_ := bS HB hb
     clear HB
     have HB := n0_
     clear n0_
     (try clear hb)
     (try clear hb2)
     (try clear hk)
     (try clear hi)
     refine hK.out _ _ ⟨((HB.out.cell (bq w _ hw220_0)).trans hw220_0), ((HB.out.cell (bq w _ hw220_1)).trans hw220_1)⟩ (fun hHeld => ?_)
     clear hK K
     refine norm_ (a' := ?_) ?_ ?_
     rotate_left
     ·show Act.put _ (some 29) _ = _
      simp only [Act.put, psl, i64_w, i32_w]
      rfl
     refine one_ (i := 14) (N := some 30) (fl 16 15 []) rfl rfl (one_of HT_.out (by kernel_rfl)) (by decide) (fun K hK => ?_)
     refine goes_ Try.func13 (by kernel_rfl) rfl #[.agg #[.int .i64 ((rd_T23 l0 x13_1).f0), .int .i64 ((rd_T23 l0 x13_1).f1)], .agg #[.int .i64 t221, .int .i64 t222], .agg #[.int .i64 t223, .int .i64 t224]] (by rfl) rfl rfl (by (try simp only [pml]); first | done | rfl | (simp only [pdt]; rfl)) ?_
     with_reducible refine (polygon_Orient.calls ((rd_T23 l0 x13_1).f0) ((rd_T23 l0 x13_1).f1) t221 t222 t223 t224 t225 _ A11.out).mono ?_
     rintro e w16 ⟨rfl, hb⟩
     refine ⟨_, rfl, ?_⟩
     have n0_ := bS HB hb
     clear HB
     have HB := n0_
     clear n0_
     (try clear hb)
     (try clear hb2)
     (try clear hk)
     (try clear hi)
     refine hK.out _ _ ⟨((HB.out.cell (bq w _ hw220_0)).trans hw220_0), ((HB.out.cell (bq w _ hw220_1)).trans hw220_1)⟩ (fun hHeld => ?_)
     clear hK K
     refine norm_ (a' := ?_) ?_ ?_
     rotate_left
     ·show Act.put _ (some 30) _ = _
      simp only [Act.put, psl, i64_w, i32_w]
      rfl
     refine pu (i := 15) (N := some 31) (fl 16 16 []) HT_ ?_
     refine done_ (done_of HT_.out (by kernel_rfl)) ?_
     try go_wp2
     go_roundg k1
     case measure => have := HK1.out; omega
     case rel => exact ⟨(wrap64 (x13_1 + 1)), sqD, H', ⟨by have := HK1.out; omega⟩, ⟨fW HB.out⟩⟩
    rw [if_neg c12] at H
    have c12b0 : (t225 == 1) = false := beq_eq_false_iff_ne.mpr c12
    have c12b1 : (t225 != 1) = true := bne_iff_ne.mpr c12
    simp only [Option.some.injEq, Prod.mk.injEq] at H
    obtain ⟨rfl, rfl⟩ := H
    try go_wp2
    have n0_ := am (below_drew1 HB.out)
    clear HB
    have HB := n0_
    clear n0_
    have p220 : 0 ≤ (x13_1 : Int) := of_decide_eq_true (by assumption)
    have q220 : x13_1 < (l0.length : Int) := of_decide_eq_true (by assumption)
    obtain ⟨ad220, e220, hx220_0, hx220_1⟩ := at_T23 HR0.out x13_1 p220 q220
    have hw220_1 := hx220_1
    have hw220_0 := hx220_0
    cases e220
    replace hx220_0 := cl HB hx220_0
    replace hx220_1 := cl HB hx220_1
    replace p220 := eq_true p220
    replace q220 := eq_true q220
    refine start_ (n := 16) (S := fun w' => w'.cell? (ad220.add ((x13_1).toNat * 2)) = some (.int .i64 ((rd_T23 l0 x13_1).f0)) ∧ w'.cell? ⟨(ad220.add ((x13_1).toNat * 2)).block, (ad220.add ((x13_1).toNat * 2)).off + 1, none⟩ = some (.int .i64 ((rd_T23 l0 x13_1).f1))) (ds := []) #[F,F,F,F,F,F,F,F,F,F,F,F,F,F,F,F] (by kernel_rfl) rfl rfl ⟨((HB.out.cell (bq w _ hw220_0)).trans hw220_0), ((HB.out.cell (bq w _ hw220_1)).trans hw220_1)⟩ (fun hHeld => ?_); refine with_tabW polygon_Convex.tab7 polygon_Convex.bits7 (fun HT_ HW_ => ?_)
    generalize wr.drew = w17 at HB hx220_0 hx220_1 hHeld ⊢
    refine pu (i := 0) (N := some 16) (fl 16 1 []) HT_ ?_
    refine pu (i := 1) (N := some 17) (fl 16 2 []) HT_ ?_
    refine pu (i := 2) (N := some 18) (fl 16 3 []) HT_ ?_
    refine pu (i := 4) (N := some 20) (fl 16 3 [4]) HT_ ?_
    refine pu (i := 5) (N := some 21) (fl 16 3 [4, 5]) HT_ ?_
    refine pu (i := 7) (N := some 23) (fl 16 3 [4, 5, 7]) HT_ ?_
    refine pu (i := 8) (N := some 24) (fl 16 3 [4, 5, 7, 8]) HT_ ?_
    refine pu (i := 9) (N := some 25) (fl 16 3 [4, 5, 7, 8, 9]) HT_ ?_
    refine pu (i := 10) (N := some 26) (fl 16 3 [4, 5, 7, 8, 9, 10]) HT_ ?_
    refine pu (i := 11) (N := some 27) (fl 16 3 [4, 5, 7, 8, 9, 10, 11]) HT_ ?_
    refine pu (i := 12) (N := some 28) (fl 16 3 [4, 5, 7, 8, 9, 10, 11, 12]) HT_ ?_
    refine tk (i := 3) (N := some 19) (fl 16 6 [7, 8, 9, 10, 11, 12]) HT_ HW_ hHeld ?_
    refine one_ (i := 6) (N := some 22) (fl 16 13 []) rfl rfl (one_of HT_.out (by kernel_rfl)) (by decide) (fun K hK => ?_)
    refine goes_ Try.func40 (by kernel_rfl) rfl #[.slice (some ad220) l0.length c0, .int .i64 x13_1] (by rfl) rfl rfl (by (try simp only [pml]); first | done | rfl | (simp only [pdt]; rfl)) ?_
    with_reducible refine (polygon_end.calls _ _ l0 x13_1 t221 t222 _ ?side1 ?side2 A8.out).mono ?_
    (case side1 => repeat (first | exact (Kd.C_below HR0.out HB.out) | (with_reducible refine Kd.C_alloc ?_ _) | (with_reducible refine Kd.C_drewN ?_ _) | (with_reducible refine Kd.C_drew ?_)))
    (case side2 => exact HC0.out)
    rintro e w18 ⟨rfl, hb⟩
    refine ⟨_, rfl, ?_⟩
    have n0_ := bS HB hb
    clear HB
    have HB := n0_
    clear n0_
    (try clear hb)
    (try clear hb2)
    (try clear hk)
    (try clear hi)
    refine hK.out _ _ ⟨((HB.out.cell (bq w _ hw220_0)).trans hw220_0), ((HB.out.cell (bq w _ hw220_1)).trans hw220_1)⟩ (fun hHeld => ?_)
    clear hK K
    refine norm_ (a' := ?_) ?_ ?_
    rotate_left
    ·show Act.put _ (some 22) _ = _
     simp only [Act.put, psl, i64_w, i32_w]
     rfl
    refine one_ (i := 13) (N := some 29) (fl 16 14 []) rfl rfl (one_of HT_.out (by kernel_rfl)) (by decide) (fun K hK => ?_)
    refine goes_ Try.func40 (by kernel_rfl) rfl #[.slice (some ad220) l0.length c0, .int .i64 (Int.tmod (wrap64 (x13_1 + 1)) (l0.length : Int))] (by rfl) rfl rfl (by (try simp only [pml]); first | done | rfl | (simp only [pdt]; rfl)) ?_
    with_reducible refine (polygon_end.calls _ _ l0 (Int.tmod (wrap64 (x13_1 + 1)) (l0.length : Int)) t223 t224 _ ?side1 ?side2 A10.out).mono ?_
    (case side1 => repeat (first | exact (Kd.C_below HR0.out HB.out) | (with_reducible refine Kd.C_alloc ?_ _) | (with_reducible refine Kd.C_drewN ?_ _) | (with_reducible refine Kd.C_drew ?_)))
    (case side2 => exact HC0.out)
    rintro e w19 ⟨rfl, hb⟩
    refine ⟨_, rfl, ?_⟩
    have n0_ := bS HB hb
    clear HB
    have HB := n0_
    clear n0_
    (try clear hb)
    (try clear hb2)
    (try clear hk)
    (try clear hi)
    refine hK.out _ _ ⟨((HB.out.cell (bq w _ hw220_0)).trans hw220_0), ((HB.out.cell (bq w _ hw220_1)).trans hw220_1)⟩ (fun hHeld => ?_)
    clear hK K
    refine norm_ (a' := ?_) ?_ ?_
    rotate_left
    ·show Act.put _ (some 29) _ = _
     simp only [Act.put, psl, i64_w, i32_w]
     rfl
    refine one_ (i := 14) (N := some 30) (fl 16 15 []) rfl rfl (one_of HT_.out (by kernel_rfl)) (by decide) (fun K hK => ?_)
    refine goes_ Try.func13 (by kernel_rfl) rfl #[.agg #[.int .i64 ((rd_T23 l0 x13_1).f0), .int .i64 ((rd_T23 l0 x13_1).f1)], .agg #[.int .i64 t221, .int .i64 t222], .agg #[.int .i64 t223, .int .i64 t224]] (by rfl) rfl rfl (by (try simp only [pml]); first | done | rfl | (simp only [pdt]; rfl)) ?_
    with_reducible refine (polygon_Orient.calls ((rd_T23 l0 x13_1).f0) ((rd_T23 l0 x13_1).f1) t221 t222 t223 t224 t225 _ A11.out).mono ?_
    rintro e w20 ⟨rfl, hb⟩
    refine ⟨_, rfl, ?_⟩
    have n0_ := bS HB hb
    clear HB
    have HB := n0_
    clear n0_
    (try clear hb)
    (try clear hb2)
    (try clear hk)
    (try clear hi)
    refine hK.out _ _ ⟨((HB.out.cell (bq w _ hw220_0)).trans hw220_0), ((HB.out.cell (bq w _ hw220_1)).trans hw220_1)⟩ (fun hHeld => ?_)
    clear hK K
    refine norm_ (a' := ?_) ?_ ?_
    rotate_left
    ·show Act.put _ (some 30) _ = _
     simp only [Act.put, psl, i64_w, i32_w]
     rfl
    refine pu (i := 15) (N := some 31) (fl 16 16 []) HT_ ?_
    refine done_ (done_of HT_.out (by kernel_rfl)) ?_
    try go_wp2
    go_ret2
    exact ⟨sqE, fW HB.out⟩
 ·rw [if_neg c3] at H
  have c3b0 : (t219 == 0) = false := beq_eq_false_iff_ne.mpr c3
  have c3b1 : (t219 != 0) = true := bne_iff_ne.mpr c3
  simp only [Option.some.injEq, Prod.mk.injEq] at H
  obtain ⟨rfl, rfl⟩ := H
  go_enter Try.func24, Try.ntmps24
  go_wp2_with (first | ((with_reducible refine gc (f := 38) rfl ?_); refine goesL_ (some 7) rfl rfl Try.func38 (by kernel_rfl) rfl #[.slice A0 l0.length c0, .slice none 0 0] rfl (by (try simp only [pml]); first | done | rfl | (simp only [pdt]; rfl)) ?_; (refine (polygon_check.calls k _ _ l0 _ _ ([] : List (S23)) t219 _ ?side1 ?side2 ?side3 ?side4 A2.out).mono ?_); (case side1 => repeat (first | exact HR0.out | (with_reducible refine Kd.C_alloc ?_ _) | (with_reducible refine Kd.C_drewN ?_ _) | (with_reducible refine Kd.C_drew ?_))); (case side2 => exact HC0.out); (case side3 => exact Kd.C_nil _ _); (case side4 => exact Nat.le_refl _); rintro e w23 ⟨rfl, hb⟩; refine ⟨_, rfl, ?_⟩; replace HB := bS HB hb; (try clear hb); (try clear hb2); (try clear hk); (try clear hi)))
  go_ret2
  exact ⟨sqE, fW HB.out⟩

def polygon_area.l0 : Nat → List (S23) → Int → List (S23) → Int → Int → Option (Int)
 | 0, _, _, _, _, _ => none
 | k + 1, x0, x3, x7, x8, x9 => if x9 < x8 then (if 0 ≤ x9 then (if x9 < (x7.length : Int) then ((polygon_end.f x0 x9).bind fun bt229 => (polygon_area.l0 k x0 (wrap64 (x3 + (wrap64 ((wrap64 (((rd_T23 x7 x9).f0) * bt229.2)) - (wrap64 (bt229.1 * ((rd_T23 x7 x9).f1))))))) x7 x8 (wrap64 (x9 + 1)))) else (none)) else (none)) else (some x3)
def polygon_area.f (k : Nat) (l0 : List (S23)) : Option (Int) := polygon_area.l0 k l0 0 l0 (l0.length : Int) 0
theorem polygon_area.mono_l : ∀ k, (∀ y0 y1 y2 y3 y4, LeO (polygon_area.l0 k y0 y1 y2 y3 y4) (polygon_area.l0 (k + 1) y0 y1 y2 y3 y4))
 | 0 => fun _ _ _ _ _ r h => by simp [polygon_area.l0] at h
 | k + 1 => by
  have ih0 := polygon_area.mono_l k
  intro y0 y1 y2 y3 y4
  unfold polygon_area.l0
  repeat' first
  | (with_reducible exact ih0 _ _ _ _ _)
  | (with_reducible exact LeO.refl _)
  | (with_reducible exact LeO.none _)
  | (with_reducible refine LeO.ite ?_ ?_)
  | (with_reducible refine LeO.bind ?_ (fun _ => ?_))
  | exact ih0 _ _ _ _ _
  | exact LeO.none _
  | refine LeO.ite ?_ ?_
  | refine LeO.bind ?_ (fun _ => ?_)
theorem polygon_area.mono : ∀ a0 k, LeO (polygon_area.f k a0) (polygon_area.f (k + 1) a0) := by
 intro a0 k
 have ih0 := polygon_area.mono_l k
 unfold polygon_area.f
 repeat' first
   | (with_reducible exact ih0 _ _ _ _ _)
   | (with_reducible exact LeO.refl _)
   | (with_reducible exact LeO.none _)
   | (with_reducible refine LeO.ite ?_ ?_)
   | (with_reducible refine LeO.bind ?_ (fun _ => ?_))
   | exact ih0 _ _ _ _ _
   | exact LeO.none _
   | refine LeO.ite ?_ ?_
   | refine LeO.bind ?_ (fun _ => ?_)
set_option maxHeartbeats 8000000 in
set_option maxRecDepth 100000 in
theorem polygon_area.calls (k : Nat) (A0 : Option Addr) (c0 : Nat) (l0 : List (S23)) (r : Int) (w : World) (hr0 : Kd.C k23 w A0 l0.length l0) (hc0 : l0.length ≤ c0) (h : polygon_area.f k l0 = some r) :
  Calls Try.prog 56 #[.slice A0 l0.length c0] w fun e w' => e = .returned (.int .i64 r) ∧ Below w.heap.size w w' := by
 have hu23 := Try.underlying23
 have HR0 := am hr0
 have HC0 := am hc0
 clear hr0 hc0
 have HB := am (Below.refl w.heap.size w)
 have H : (polygon_area.l0 k l0 0 l0 (l0.length : Int) 0) = some r := h
 clear h
 have H' := am H
 clear H
 go_enter Try.func56, Try.ntmps56
 go_wp2
 go_loopg [3, 9] k (fun kq v3 v9 w' => ∃ (x3_1 : Int) (x9_1 : Int), v3 = .int .i64 x3_1 ∧ v9 = .int .i64 x9_1 ∧ Aside0 (polygon_area.l0 kq l0 x3_1 l0 (l0.length : Int) x9_1 = some r) ∧ Aside0 (kq ≤ k) ∧ Aside0 (Below w.heap.size w w'))
 case atStart => exact ⟨(0), (0), sqD, sqD, H', ⟨Nat.le_refl _⟩, ⟨fW HB.out⟩⟩
 case round =>
  clear H'
  obtain ⟨x3_1, x9_1, rfl, rfl, HA, HK1, HB⟩ := hrel
  cases gk with
  | zero => exact absurd HA.out (by simp [polygon_area.l0])
  | succ k1 =>
   have H := HA.out
   clear HA
   simp only [polygon_area.l0] at H
   by_cases c2 : x9_1 < (l0.length : Int)
   ·rw [if_pos c2] at H
    have c2b0 : decide (x9_1 < (l0.length : Int)) = true := decide_eq_true c2
    clear c2
    by_cases c3 : 0 ≤ x9_1
    rotate_left
    ·rw [if_neg c3] at H
     exact absurd H (by simp)
    rw [if_pos c3] at H
    have c3b0 : decide (0 ≤ x9_1) = true := decide_eq_true c3
    clear c3
    by_cases c4 : x9_1 < (l0.length : Int)
    rotate_left
    ·rw [if_neg c4] at H
     exact absurd H (by simp)
    rw [if_pos c4] at H
    have c4b0 : decide (x9_1 < (l0.length : Int)) = true := decide_eq_true c4
    clear c4
    replace H := Option.bind_eq_some_iff.mp H
    obtain ⟨⟨t229, t230⟩, A50, H⟩ := H
    replace H : (polygon_area.l0 k1 l0 (wrap64 (x3_1 + (wrap64 ((wrap64 (((rd_T23 l0 x9_1).f0) * t230)) - (wrap64 (t229 * ((rd_T23 l0 x9_1).f1))))))) l0 (l0.length : Int) (wrap64 (x9_1 + 1))) = some r := H
    have A5 := am A50
    clear A50
    have H' := am H
    clear H
    have p227 : 0 ≤ (x9_1 : Int) := of_decide_eq_true (by assumption)
    have q227 : x9_1 < (l0.length : Int) := of_decide_eq_true (by assumption)
    obtain ⟨ad227, e227, hx227_0, hx227_1⟩ := at_T23 HR0.out x9_1 p227 q227
    cases e227
    replace hx227_0 := cl HB hx227_0
    replace hx227_1 := cl HB hx227_1
    replace p227 := eq_true p227
    replace q227 := eq_true q227
    go_wp2_with (first | ((with_reducible refine gate_dst (N := 5) rfl ?_); refine box_event ?hg (N := 5) ?hd (cs := #[.int .i64 0, .int .i64 0]) (t := 23) ?hr ?_; (case hd | hg => rfl); (case hr => first | (go_simp; done) | (go_simp; rfl)); intro gb228 hg w6 hbox hb; have BK228 := am hbox; have GW228 := sG HB hg; have GE228 := sG HB hg; replace HB := bS HB hb; clear hb hbox hg; obtain ⟨_, _, _, _⟩ := zC2 BK228) | ((with_reducible refine gc (f := 40) rfl ?_); refine goesL_ (some 16) rfl rfl Try.func40 (by kernel_rfl) rfl #[.slice (some ad227) l0.length c0, .int .i64 x9_1] rfl (by (try simp only [pml]); first | done | rfl | (simp only [pdt]; rfl)) ?_; (with_reducible refine (polygon_end.calls _ _ l0 x9_1 t229 t230 _ ?side1 ?side2 A5.out).mono ?_); (case side1 => exact Kd.C_below HR0.out (fW HB.out)); (case side2 => exact HC0.out); rintro e w8 ⟨rfl, hb⟩; refine ⟨_, rfl, ?_⟩; replace BK228 := xC1 (o := .cells #[.int .i64 ((rd_T23 l0 x9_1).f0), .int .i64 ((rd_T23 l0 x9_1).f1)] 23 (0, 0)) (kkC BK228.out) hb; replace HB := bS HB hb; (try clear hb); (try clear hb2); (try clear hk); (try clear hi)) | ((with_reducible refine gate_dst (N := 6) rfl ?_); refine box_event ?hg (N := 6) ?hd (cs := #[.int .i64 0, .int .i64 0]) (t := 23) ?hr ?_; (case hd | hg => rfl); (case hr => first | (go_simp; done) | (go_simp; rfl)); intro gb231 hg w9 hbox hb; have BK231 := am hbox; have GW231 := sG HB hg; have GE231 := sG HB hg; replace HB := bS HB hb; have NB228_231 := nL BK228 hg; have NB231_228 := nG BK228 hg; replace BK228 := bB BK228 hb; clear hb hbox hg; have hnb10 := NB231_228.out; have hnc10 := NB228_231.out; obtain ⟨_, _, _, _⟩ := zC2 BK231; obtain ⟨_, _, _, _⟩ := zC2 BK228))
    go_roundg k1
    case measure => have := HK1.out; omega
    case rel => exact ⟨(wrap64 (x3_1 + (wrap64 ((wrap64 (((rd_T23 l0 x9_1).f0) * t230)) - (wrap64 (t229 * ((rd_T23 l0 x9_1).f1))))))), (wrap64 (x9_1 + 1)), sqD, sqD, H', ⟨by have := HK1.out; omega⟩, ⟨fW HB.out⟩⟩
   ·rw [if_neg c2] at H
    have c2b0 : decide (x9_1 < (l0.length : Int)) = false := decide_eq_false c2
    clear c2
    obtain rfl := Option.some.inj H
    go_wp2
    go_ret
    exact ⟨sqE, fW HB.out⟩

def polygon_Area2.f (k : Nat) (l0 : List (S23)) : Option (Int × Int) := (polygon_check.f k l0 ([] : List (S23))).bind fun t232 => (if t232 = 0 then ((polygon_area.f k l0).bind fun t233 => (some (t233, 0))) else (some (0, t232)))
theorem polygon_Area2.mono : ∀ a0 k, LeO (polygon_Area2.f k a0) (polygon_Area2.f (k + 1) a0) := by
 intro a0 k
 unfold polygon_Area2.f
 repeat' first
   | (with_reducible exact polygon_area.mono _ _)
   | (with_reducible exact polygon_check.mono _ _ _)
   | (with_reducible exact LeO.refl _)
   | (with_reducible exact LeO.none _)
   | (with_reducible refine LeO.ite ?_ ?_)
   | (with_reducible refine LeO.bind ?_ (fun _ => ?_))
   | exact polygon_area.mono _ _
   | exact polygon_check.mono _ _ _
   | exact LeO.none _
   | refine LeO.ite ?_ ?_
   | refine LeO.bind ?_ (fun _ => ?_)
set_option maxHeartbeats 8000000 in
set_option maxRecDepth 100000 in
theorem polygon_Area2.calls (k : Nat) (A0 : Option Addr) (c0 : Nat) (l0 : List (S23)) (r1 : Int) (r2 : Int) (w : World) (hr0 : Kd.C k23 w A0 l0.length l0) (hc0 : l0.length ≤ c0) (h : polygon_Area2.f k l0 = some (r1, r2)) :
  Calls Try.prog 25 #[.slice A0 l0.length c0] w fun e w' => e = .returned (.tuple #[.int .i64 r1, .int .i64 r2]) ∧ Below w.heap.size w w' := by
 have HR0 := am hr0
 have HC0 := am hc0
 clear hr0 hc0
 have HB := am (Below.refl w.heap.size w)
 have H : ((polygon_check.f k l0 ([] : List (S23))).bind fun t232 => (if t232 = 0 then ((polygon_area.f k l0).bind fun t233 => (some (t233, 0))) else (some (0, t232)))) = some (r1, r2) := h
 clear h
 replace H := Option.bind_eq_some_iff.mp H
 obtain ⟨t232, A20, H⟩ := H
 replace H : (if t232 = 0 then ((polygon_area.f k l0).bind fun t233 => (some (t233, 0))) else (some (0, t232))) = some (r1, r2) := H
 have A2 := am A20
 clear A20
 by_cases c3 : t232 = 0
 ·rw [if_pos c3] at H
  have c3b0 : (t232 == 0) = true := beq_iff_eq.mpr c3
  have c3b1 : (t232 != 0) = false := bne_eq_false_iff_eq.mpr c3
  clear c3
  replace H := Option.bind_eq_some_iff.mp H
  obtain ⟨t233, A40, H⟩ := H
  replace H : (some (t233, 0)) = some (r1, r2) := H
  have A4 := am A40
  clear A40
  simp only [Option.some.injEq, Prod.mk.injEq] at H
  obtain ⟨rfl, rfl⟩ := H
  go_enter Try.func25, Try.ntmps25
  go_wp2_with (first | ((with_reducible refine gc (f := 38) rfl ?_); refine goesL_ (some 6) rfl rfl Try.func38 (by kernel_rfl) rfl #[.slice A0 l0.length c0, .slice none 0 0] rfl (by (try simp only [pml]); first | done | rfl | (simp only [pdt]; rfl)) ?_; (refine (polygon_check.calls k _ _ l0 _ _ ([] : List (S23)) t232 _ ?side1 ?side2 ?side3 ?side4 A2.out).mono ?_); (case side1 => repeat (first | exact HR0.out | (with_reducible refine Kd.C_alloc ?_ _) | (with_reducible refine Kd.C_drewN ?_ _) | (with_reducible refine Kd.C_drew ?_))); (case side2 => exact HC0.out); (case side3 => exact Kd.C_nil _ _); (case side4 => exact Nat.le_refl _); rintro e w5 ⟨rfl, hb⟩; refine ⟨_, rfl, ?_⟩; replace HB := bS HB hb; (try clear hb); (try clear hb2); (try clear hk); (try clear hi)) | ((with_reducible refine gc (f := 56) rfl ?_); refine goesL_ (some 11) rfl rfl Try.func56 (by kernel_rfl) rfl #[.slice A0 l0.length c0] rfl (by (try simp only [pml]); first | done | rfl | (simp only [pdt]; rfl)) ?_; (with_reducible refine (polygon_area.calls k _ _ l0 t233 _ ?side1 ?side2 A4.out).mono ?_); (case side1 => repeat (first | exact (Kd.C_below HR0.out HB.out) | (with_reducible refine Kd.C_alloc ?_ _) | (with_reducible refine Kd.C_drewN ?_ _) | (with_reducible refine Kd.C_drew ?_))); (case side2 => exact HC0.out); rintro e w6 ⟨rfl, hb⟩; refine ⟨_, rfl, ?_⟩; replace HB := bS HB hb; (try clear hb); (try clear hb2); (try clear hk); (try clear hi)))
  go_ret2
  exact ⟨sqE, fW HB.out⟩
 ·rw [if_neg c3] at H
  have c3b0 : (t232 == 0) = false := beq_eq_false_iff_ne.mpr c3
  have c3b1 : (t232 != 0) = true := bne_iff_ne.mpr c3
  simp only [Option.some.injEq, Prod.mk.injEq] at H
  obtain ⟨rfl, rfl⟩ := H
  go_enter Try.func25, Try.ntmps25
  go_wp2_with (first | ((with_reducible refine gc (f := 38) rfl ?_); refine goesL_ (some 6) rfl rfl Try.func38 (by kernel_rfl) rfl #[.slice A0 l0.length c0, .slice none 0 0] rfl (by (try simp only [pml]); first | done | rfl | (simp only [pdt]; rfl)) ?_; (refine (polygon_check.calls k _ _ l0 _ _ ([] : List (S23)) t232 _ ?side1 ?side2 ?side3 ?side4 A2.out).mono ?_); (case side1 => repeat (first | exact HR0.out | (with_reducible refine Kd.C_alloc ?_ _) | (with_reducible refine Kd.C_drewN ?_ _) | (with_reducible refine Kd.C_drew ?_))); (case side2 => exact HC0.out); (case side3 => exact Kd.C_nil _ _); (case side4 => exact Nat.le_refl _); rintro e w7 ⟨rfl, hb⟩; refine ⟨_, rfl, ?_⟩; replace HB := bS HB hb; (try clear hb); (try clear hb2); (try clear hk); (try clear hi)))
  go_ret2
  exact ⟨sqE, fW HB.out⟩

def w_square.f  : Option ((List (S23))) := some (([(⟨0, 0⟩ : S23), (⟨10, 0⟩ : S23), (⟨10, 10⟩ : S23), (⟨0, 10⟩ : S23)] : List (S23)))
set_option maxHeartbeats 8000000 in
set_option maxRecDepth 100000 in
theorem w_square.calls  (r : List (S23)) (w : World) (h : w_square.f  = some r) :
  Calls Try.prog 36 #[] w fun e w' => ∃ v0_ : Value, e = .returned (v0_) ∧ Kd.R k23 23 w' w.heap.size (fun _ => True) v0_ r ∧ Below w.heap.size w w' := by
 have hu23 := Try.underlying23
 have HB := am (Below.refl w.heap.size w)
 have H : (some (([(⟨0, 0⟩ : S23), (⟨10, 0⟩ : S23), (⟨10, 10⟩ : S23), (⟨0, 10⟩ : S23)] : List (S23)))) = some r := h
 clear h
 obtain ⟨y234, hy234⟩ : ∃ y_ : List (S23), y_ = (([(⟨0, 0⟩ : S23), (⟨10, 0⟩ : S23), (⟨10, 10⟩ : S23), (⟨0, 10⟩ : S23)] : List (S23))) := ⟨_, rfl⟩
 replace H : (some y234) = some r := by first | (rw [hy234]; with_reducible exact H) | (have H2_ := (Option.bind_some _ _).symm.trans H; rw [hy234]; with_reducible exact H2_) | (have H2_ := (Option.bind_some _ _).symm.trans H; with_reducible exact H2_) | with_reducible exact H | (rw [hy234]; exact H) | exact H
 have Ny234 := am hy234
 clear hy234
 obtain rfl := Option.some.inj H
 go_enter Try.func36, Try.ntmps36
 go_wp2_with (first | ((with_reducible refine gate_dst (N := 5) rfl ?_); refine Kd.R_lit k23 _ 23 ?hg (N := 5) ?hd (xs := ([(⟨0, 0⟩ : S23), (⟨10, 0⟩ : S23), (⟨10, 10⟩ : S23), (⟨0, 10⟩ : S23)] : List (S23))) (inner := [.int .i64 0, .int .i64 0, .int .i64 10, .int .i64 0, .int .i64 10, .int .i64 10, .int .i64 0, .int .i64 10]) (ok := fun _ => True) (okp := fun _ => True) ?hr ?hp (fun _ hk => hk) trivial (Below.refl _ _) (Nat.le_refl _) (by simp) ?_; (case hd | hg => rfl); (case hr => first | (go_simp; done) | (go_simp; rfl)); (case hp => exact (Reps.c2 (show Kd.M k23 _ _ _ (⟨0, 0⟩ : S23) [.int .i64 0, .int .i64 0] from (k23_mkM _ _ _ (⟨0, 0⟩ : S23) )) (Reps.c2 (show Kd.M k23 _ _ _ (⟨10, 0⟩ : S23) [.int .i64 10, .int .i64 0] from (k23_mkM _ _ _ (⟨10, 0⟩ : S23) )) (Reps.c2 (show Kd.M k23 _ _ _ (⟨10, 10⟩ : S23) [.int .i64 10, .int .i64 10] from (k23_mkM _ _ _ (⟨10, 10⟩ : S23) )) (Reps.c2 (show Kd.M k23 _ _ _ (⟨0, 10⟩ : S23) [.int .i64 0, .int .i64 10] from (k23_mkM _ _ _ (⟨0, 10⟩ : S23) )) (Reps.none _ _)))))); intro v235 w1 ho2 hb hg_ hnew_; clear hg_ hnew_; (first | rw [← Ny234.out] at ho2 | (simp only [Int.reduceToNat] at ho2; rw [← Ny234.out] at ho2)); have HO236 := am (Kd.R_lower ho2 (below_size (fW HB.out))); replace HB := bS HB hb; clear hb ho2))
 go_ret
 exact ⟨_, sqE, fR HO236.out, fW HB.out⟩

end Go.Proofs.Ytcembjgpcbodcaa.QA
