import Derived.Test.YtcembjgpcbodcaaZQAx0
import Derived.Test.YtcembjgpcbodcaaZQAx2
import Derived.Test.YtcembjgpcbodcaaZQAx4
namespace Go.Proofs.Ytcembjgpcbodcaa.QA
open Go.RowKit Go.Proofs.YtcembjgpcbodcaaW.PrintWords Go.Proofs.YtcembjgpcbodcaaW.PrintLast Go.Proofs.YtcembjgpcbodcaaW.PrintMore
open Aside0 renaming mk → am
open World renaming block_lt_of_cell? → bq
attribute [local go_sem] max2_int min2_int max_two min_two max_three min_three max_four min_four
set_option linter.unusedVariables false
set_option linter.unusedSimpArgs false

mutual
def polygon_simple.l0 : Nat → List (S23) → Int → Int → Int → Option (Bool)
 | 0, _, _, _, _ => none
 | k + 1, x0, x3, x9, x10 => if x10 < x9 then (if 0 ≤ x10 then (if x10 < (x0.length : Int) then ((polygon_end.f x0 x10).bind fun bt136 => (if x3 = 0 then (none) else ((polygon_end.f x0 (Int.tmod (wrap64 (x10 + 1)) x3)).bind fun bt138 => ((polygon_folded.f ((rd_T23 x0 x10).f0) ((rd_T23 x0 x10).f1) bt136.1 bt136.2 bt138.1 bt138.2).bind fun t140 => (if t140 = true then (some false) else (polygon_simple.l1 k x0 x3 x10 (wrap64 (x10 + 2)) x9 x10)))))) else (none)) else (none)) else (some true)
def polygon_simple.l1 : Nat → List (S23) → Int → Int → Int → Int → Int → Option (Bool)
 | 0, _, _, _, _, _, _ => none
 | k + 1, x0, x3, x4, x5, x9, x10 => if x5 < x3 then (if x3 = 0 then (none) else (if (Int.tmod (wrap64 (x5 + 1)) x3) = x4 then (polygon_simple.j2 k x0 x3 x4 x5 x9 x10) else (if 0 ≤ x4 then (if x4 < (x0.length : Int) then ((polygon_end.f x0 x4).bind fun bt142 => (if 0 ≤ x5 then (if x5 < (x0.length : Int) then ((polygon_end.f x0 x5).bind fun bt145 => ((polygon_meet.f k ((rd_T23 x0 x4).f0) ((rd_T23 x0 x4).f1) bt142.1 bt142.2 ((rd_T23 x0 x5).f0) ((rd_T23 x0 x5).f1) bt145.1 bt145.2).bind fun t147 => (if t147 = true then (some false) else (polygon_simple.j2 k x0 x3 x4 x5 x9 x10)))) else (none)) else (none))) else (none)) else (none)))) else (polygon_simple.l0 k x0 x3 x9 (wrap64 (x10 + 1)))
def polygon_simple.j2 : Nat → List (S23) → Int → Int → Int → Int → Int → Option (Bool)
 | 0, _, _, _, _, _, _ => none
 | k + 1, x0, x3, x4, x5, x9, x10 => polygon_simple.l1 k x0 x3 x4 (wrap64 (x5 + 1)) x9 x10
end
def polygon_simple.f (k : Nat) (l0 : List (S23)) : Option (Bool) := polygon_simple.l0 k l0 (l0.length : Int) (l0.length : Int) 0
theorem polygon_simple.mono_l : ∀ k, (∀ y0 y1 y2 y3, LeO (polygon_simple.l0 k y0 y1 y2 y3) (polygon_simple.l0 (k + 1) y0 y1 y2 y3)) ∧ (∀ y0 y1 y2 y3 y4 y5, LeO (polygon_simple.l1 k y0 y1 y2 y3 y4 y5) (polygon_simple.l1 (k + 1) y0 y1 y2 y3 y4 y5)) ∧ (∀ y0 y1 y2 y3 y4 y5, LeO (polygon_simple.j2 k y0 y1 y2 y3 y4 y5) (polygon_simple.j2 (k + 1) y0 y1 y2 y3 y4 y5))
 | 0 => ⟨fun _ _ _ _ r h => by simp [polygon_simple.l0] at h, fun _ _ _ _ _ _ r h => by simp [polygon_simple.l1] at h, fun _ _ _ _ _ _ r h => by simp [polygon_simple.j2] at h⟩
 | k + 1 => by
  obtain ⟨ih0, ih1, ih2⟩ := polygon_simple.mono_l k
  refine ⟨?_, ?_, ?_⟩
  ·intro y0 y1 y2 y3
   unfold polygon_simple.l0
   repeat' first
   | (with_reducible exact ih0 _ _ _ _)
   | (with_reducible exact ih1 _ _ _ _ _ _)
   | (with_reducible exact ih2 _ _ _ _ _ _)
   | (with_reducible exact polygon_meet.mono _ _ _ _ _ _ _ _ _)
   | (with_reducible exact LeO.refl _)
   | (with_reducible exact LeO.none _)
   | (with_reducible refine LeO.ite ?_ ?_)
   | (with_reducible refine LeO.bind ?_ (fun _ => ?_))
   | exact ih0 _ _ _ _
   | exact ih1 _ _ _ _ _ _
   | exact ih2 _ _ _ _ _ _
   | exact polygon_meet.mono _ _ _ _ _ _ _ _ _
   | exact LeO.none _
   | refine LeO.ite ?_ ?_
   | refine LeO.bind ?_ (fun _ => ?_)
  ·intro y0 y1 y2 y3 y4 y5
   unfold polygon_simple.l1
   repeat' first
   | (with_reducible exact ih0 _ _ _ _)
   | (with_reducible exact ih1 _ _ _ _ _ _)
   | (with_reducible exact ih2 _ _ _ _ _ _)
   | (with_reducible exact polygon_meet.mono _ _ _ _ _ _ _ _ _)
   | (with_reducible exact LeO.refl _)
   | (with_reducible exact LeO.none _)
   | (with_reducible refine LeO.ite ?_ ?_)
   | (with_reducible refine LeO.bind ?_ (fun _ => ?_))
   | exact ih0 _ _ _ _
   | exact ih1 _ _ _ _ _ _
   | exact ih2 _ _ _ _ _ _
   | exact polygon_meet.mono _ _ _ _ _ _ _ _ _
   | exact LeO.none _
   | refine LeO.ite ?_ ?_
   | refine LeO.bind ?_ (fun _ => ?_)
  intro y0 y1 y2 y3 y4 y5
  unfold polygon_simple.j2
  repeat' first
  | (with_reducible exact ih0 _ _ _ _)
  | (with_reducible exact ih1 _ _ _ _ _ _)
  | (with_reducible exact ih2 _ _ _ _ _ _)
  | (with_reducible exact polygon_meet.mono _ _ _ _ _ _ _ _ _)
  | (with_reducible exact LeO.refl _)
  | (with_reducible exact LeO.none _)
  | (with_reducible refine LeO.ite ?_ ?_)
  | (with_reducible refine LeO.bind ?_ (fun _ => ?_))
  | exact ih0 _ _ _ _
  | exact ih1 _ _ _ _ _ _
  | exact ih2 _ _ _ _ _ _
  | exact polygon_meet.mono _ _ _ _ _ _ _ _ _
  | exact LeO.none _
  | refine LeO.ite ?_ ?_
  | refine LeO.bind ?_ (fun _ => ?_)
theorem polygon_simple.mono : ∀ a0 k, LeO (polygon_simple.f k a0) (polygon_simple.f (k + 1) a0) := by
 intro a0 k
 obtain ⟨ih0, ih1, ih2⟩ := polygon_simple.mono_l k
 unfold polygon_simple.f
 repeat' first
   | (with_reducible exact ih0 _ _ _ _)
   | (with_reducible exact ih1 _ _ _ _ _ _)
   | (with_reducible exact ih2 _ _ _ _ _ _)
   | (with_reducible exact polygon_meet.mono _ _ _ _ _ _ _ _ _)
   | (with_reducible exact LeO.refl _)
   | (with_reducible exact LeO.none _)
   | (with_reducible refine LeO.ite ?_ ?_)
   | (with_reducible refine LeO.bind ?_ (fun _ => ?_))
   | exact ih0 _ _ _ _
   | exact ih1 _ _ _ _ _ _
   | exact ih2 _ _ _ _ _ _
   | exact polygon_meet.mono _ _ _ _ _ _ _ _ _
   | exact LeO.none _
   | refine LeO.ite ?_ ?_
   | refine LeO.bind ?_ (fun _ => ?_)
def polygon_simple.T5 : Bool × List (List Nat × List Nat) := (true, [([], []), ([], []), ([0, 1], [0, 1]), ([2], [2]), ([], []), ([], []), ([4, 5], [4, 5]), ([], []), ([], []), ([8], [8]), ([], []), ([9, 10], [9, 10]), ([7, 11, 6], [7, 11]), ([3, 6, 12, 12], [3, 6, 12])])
def polygon_simple.B5 : List Nat := [0, 0, 3, 7, 0, 0, 48, 0, 0, 256, 0, 1792, 4080, 8191]
theorem polygon_simple.tab5 : rtab .any (opsOf Try.f39 5) = polygon_simple.T5 := by kernel_rfl
theorem polygon_simple.bits5 : waitsOk polygon_simple.T5.2 polygon_simple.B5 = true := by kernel_rfl
def polygon_simple.T10 : Bool × List (List Nat × List Nat) := (true, [([], []), ([0], [0]), ([], []), ([1, 2], [1, 2]), ([], []), ([3, 4], [3, 4]), ([5], [5]), ([6], [6]), ([6], [6]), ([7, 8, 6], [6, 7, 8]), ([9, 6], [6, 9]), ([6], [6]), ([6], [6]), ([11, 12, 6, 6], [6, 11, 12]), ([6], [6]), ([6], [6]), ([14, 15, 6], [6, 14, 15]), ([16, 6], [6, 16]), ([6], [6]), ([6], [6]), ([18, 19, 13, 6], [6, 18, 19]), ([10, 13, 17, 20, 20, 6], [6, 10, 13, 17, 20]), ([6, 21], [6, 21])])
def polygon_simple.B10 : List Nat := [0, 1, 0, 7, 0, 31, 63, 127, 127, 511, 1023, 127, 127, 6271, 127, 127, 49279, 114815, 127, 127, 800895, 2097151, 4194303]
theorem polygon_simple.tab10 : rtab .any (opsOf Try.f39 10) = polygon_simple.T10 := by kernel_rfl
theorem polygon_simple.bits10 : waitsOk polygon_simple.T10.2 polygon_simple.B10 = true := by kernel_rfl
set_option maxHeartbeats 8000000 in
set_option maxRecDepth 100000 in
theorem polygon_simple.calls (k : Nat) (A0 : Option Addr) (c0 : Nat) (l0 : List (S23)) (r : Bool) (w : World) (hr0 : Kd.C k23 w A0 l0.length l0) (hc0 : l0.length ≤ c0) (h : polygon_simple.f k l0 = some r) :
  Calls Try.prog 39 #[.slice A0 l0.length c0] w fun e w' => e = .returned (.bool r) ∧ Below w.heap.size w w' := by
 have hu23 := Try.underlying23
 have HR0 := am hr0
 have HC0 := am hc0
 clear hr0 hc0
 have HB := am (Below.refl w.heap.size w)
 have H : (polygon_simple.l0 k l0 (l0.length : Int) (l0.length : Int) 0) = some r := h
 clear h
 have H' := am H
 clear H
 go_enter Try.func39, Try.ntmps39
 go_wp2
 go_loopg [10] k (fun kq v10 w' => ∃ (x10_1 : Int), v10 = .int .i64 x10_1 ∧ Aside0 (polygon_simple.l0 kq l0 (l0.length : Int) (l0.length : Int) x10_1 = some r) ∧ Aside0 (kq ≤ k) ∧ Aside0 (Below w.heap.size w w'))
 case atStart => exact ⟨(0), sqD, H', ⟨Nat.le_refl _⟩, ⟨fW HB.out⟩⟩
 case round =>
  clear H'
  obtain ⟨x10_1, rfl, HA, HK1, HB⟩ := hrel
  cases gk with
  | zero => exact absurd HA.out (by simp [polygon_simple.l0])
  | succ k1 =>
   have H := HA.out
   clear HA
   simp only [polygon_simple.l0] at H
   by_cases c2 : x10_1 < (l0.length : Int)
   ·rw [if_pos c2] at H
    have c2b0 : decide (x10_1 < (l0.length : Int)) = true := decide_eq_true c2
    clear c2
    by_cases c3 : 0 ≤ x10_1
    rotate_left
    ·rw [if_neg c3] at H
     exact absurd H (by simp)
    rw [if_pos c3] at H
    have c3b0 : decide (0 ≤ x10_1) = true := decide_eq_true c3
    clear c3
    by_cases c4 : x10_1 < (l0.length : Int)
    rotate_left
    ·rw [if_neg c4] at H
     exact absurd H (by simp)
    rw [if_pos c4] at H
    have c4b0 : decide (x10_1 < (l0.length : Int)) = true := decide_eq_true c4
    clear c4
    replace H := Option.bind_eq_some_iff.mp H
    obtain ⟨⟨t136, t137⟩, A50, H⟩ := H
    replace H : (if (l0.length : Int) = 0 then (none) else ((polygon_end.f l0 (Int.tmod (wrap64 (x10_1 + 1)) (l0.length : Int))).bind fun bt138 => ((polygon_folded.f ((rd_T23 l0 x10_1).f0) ((rd_T23 l0 x10_1).f1) t136 t137 bt138.1 bt138.2).bind fun t140 => (if t140 = true then (some false) else (polygon_simple.l1 k1 l0 (l0.length : Int) x10_1 (wrap64 (x10_1 + 2)) (l0.length : Int) x10_1))))) = some r := H
    have A5 := am A50
    clear A50
    by_cases c6 : (l0.length : Int) = 0
    ·rw [if_pos c6] at H
     exact absurd H (by simp)
    rw [if_neg c6] at H
    have c6b0 : ((l0.length : Int) == 0) = false := beq_eq_false_iff_ne.mpr c6
    have c6b1 : ((l0.length : Int) != 0) = true := bne_iff_ne.mpr c6
    have c6b2 : ¬ (l0 = []) := fun h_ => c6 (by rw [h_]; rfl)
    replace H := Option.bind_eq_some_iff.mp H
    obtain ⟨⟨t138, t139⟩, A70, H⟩ := H
    replace H : ((polygon_folded.f ((rd_T23 l0 x10_1).f0) ((rd_T23 l0 x10_1).f1) t136 t137 t138 t139).bind fun t140 => (if t140 = true then (some false) else (polygon_simple.l1 k1 l0 (l0.length : Int) x10_1 (wrap64 (x10_1 + 2)) (l0.length : Int) x10_1))) = some r := H
    have A7 := am A70
    clear A70
    replace H := Option.bind_eq_some_iff.mp H
    obtain ⟨t140, A80, H⟩ := H
    replace H : (if t140 = true then (some false) else (polygon_simple.l1 k1 l0 (l0.length : Int) x10_1 (wrap64 (x10_1 + 2)) (l0.length : Int) x10_1)) = some r := H
    have A8 := am A80
    clear A80
    by_cases c9 : t140 = true
    ·subst c9
     have H1 : (some false) = some r := by rw [if_pos rfl] at H; exact H
     clear H
     have H := H1
     clear H1
     obtain rfl := Option.some.inj H
     try go_wp2
     have n0_ := am (below_drew1 HB.out)
     clear HB
     have HB := n0_
     clear n0_
     have p135 : 0 ≤ (x10_1 : Int) := of_decide_eq_true (by assumption)
     have q135 : x10_1 < (l0.length : Int) := of_decide_eq_true (by assumption)
     obtain ⟨ad135, e135, hx135_0, hx135_1⟩ := at_T23 HR0.out x10_1 p135 q135
     have hw135_1 := hx135_1
     have hw135_0 := hx135_0
     cases e135
     replace hx135_0 := cl HB hx135_0
     replace hx135_1 := cl HB hx135_1
     replace p135 := eq_true p135
     replace q135 := eq_true q135
     refine start_ (n := 14) (S := fun w' => w'.cell? (ad135.add ((x10_1).toNat * 2)) = some (.int .i64 ((rd_T23 l0 x10_1).f0)) ∧ w'.cell? ⟨(ad135.add ((x10_1).toNat * 2)).block, (ad135.add ((x10_1).toNat * 2)).off + 1, none⟩ = some (.int .i64 ((rd_T23 l0 x10_1).f1))) (ds := []) #[F,F,F,F,F,F,F,F,F,F,F,F,F,F] (by kernel_rfl) rfl rfl ⟨((HB.out.cell (bq w _ hw135_0)).trans hw135_0), ((HB.out.cell (bq w _ hw135_1)).trans hw135_1)⟩ (fun hHeld => ?_); refine with_tabW polygon_simple.tab5 polygon_simple.bits5 (fun HT_ HW_ => ?_)
     generalize wr.drew = w10 at HB hx135_0 hx135_1 hHeld ⊢
     refine pu (i := 0) (N := some 13) (fl 14 1 []) HT_ ?_
     refine pu (i := 1) (N := some 14) (fl 14 2 []) HT_ ?_
     refine pu (i := 2) (N := some 15) (fl 14 3 []) HT_ ?_
     refine pu (i := 4) (N := some 17) (fl 14 3 [4]) HT_ ?_
     refine pu (i := 5) (N := some 18) (fl 14 3 [4, 5]) HT_ ?_
     refine pu (i := 7) (N := some 20) (fl 14 3 [4, 5, 7]) HT_ ?_
     refine pu (i := 8) (N := some 21) (fl 14 3 [4, 5, 7, 8]) HT_ ?_
     refine pu (i := 9) (N := some 22) (fl 14 3 [4, 5, 7, 8, 9]) HT_ ?_
     refine pu (i := 10) (N := some 23) (fl 14 3 [4, 5, 7, 8, 9, 10]) HT_ ?_
     refine pu (i := 11) (N := some 24) (fl 14 3 [4, 5, 7, 8, 9, 10, 11]) HT_ ?_
     refine tk (i := 3) (N := some 16) (fl 14 6 [7, 8, 9, 10, 11]) HT_ HW_ hHeld ?_
     refine one_ (i := 6) (N := some 19) (fl 14 12 []) rfl rfl (one_of HT_.out (by kernel_rfl)) (by decide) (fun K hK => ?_)
     refine goes_ Try.func40 (by kernel_rfl) rfl #[.slice (some ad135) l0.length c0, .int .i64 x10_1] (by rfl) rfl rfl (by (try simp only [pml]); first | done | rfl | (simp only [pdt]; rfl)) ?_
     with_reducible refine (polygon_end.calls _ _ l0 x10_1 t136 t137 _ ?side1 ?side2 A5.out).mono ?_
     (case side1 => repeat (first | exact (Kd.C_below HR0.out HB.out) | (with_reducible refine Kd.C_alloc ?_ _) | (with_reducible refine Kd.C_drewN ?_ _) | (with_reducible refine Kd.C_drew ?_)))
     (case side2 => exact HC0.out)
     rintro e w11 ⟨rfl, hb⟩
     refine ⟨_, rfl, ?_⟩
     have n0_ := bS HB hb
     clear HB
     have HB := n0_
     clear n0_
     (try clear hb)
     (try clear hb2)
     (try clear hk)
     (try clear hi)
     refine hK.out _ _ ⟨((HB.out.cell (bq w _ hw135_0)).trans hw135_0), ((HB.out.cell (bq w _ hw135_1)).trans hw135_1)⟩ (fun hHeld => ?_)
     clear hK K
     refine norm_ (a' := ?_) ?_ ?_
     rotate_left
     ·show Act.put _ (some 19) _ = _
      simp only [Act.put, psl, i64_w, i32_w]
      rfl
     refine one_ (i := 12) (N := some 25) (fl 14 13 []) rfl rfl (one_of HT_.out (by kernel_rfl)) (by decide) (fun K hK => ?_)
     refine goes_ Try.func40 (by kernel_rfl) rfl #[.slice (some ad135) l0.length c0, .int .i64 (Int.tmod (wrap64 (x10_1 + 1)) (l0.length : Int))] (by rfl) rfl rfl (by (try simp only [pml]); first | done | rfl | (simp only [pdt]; rfl)) ?_
     with_reducible refine (polygon_end.calls _ _ l0 (Int.tmod (wrap64 (x10_1 + 1)) (l0.length : Int)) t138 t139 _ ?side1 ?side2 A7.out).mono ?_
     (case side1 => repeat (first | exact (Kd.C_below HR0.out HB.out) | (with_reducible refine Kd.C_alloc ?_ _) | (with_reducible refine Kd.C_drewN ?_ _) | (with_reducible refine Kd.C_drew ?_)))
     (case side2 => exact HC0.out)
     rintro e w12 ⟨rfl, hb⟩
     refine ⟨_, rfl, ?_⟩
     have n0_ := bS HB hb
     clear HB
     have HB := n0_
     clear n0_
     (try clear hb)
     (try clear hb2)
     (try clear hk)
     (try clear hi)
     refine hK.out _ _ ⟨((HB.out.cell (bq w _ hw135_0)).trans hw135_0), ((HB.out.cell (bq w _ hw135_1)).trans hw135_1)⟩ (fun hHeld => ?_)
     clear hK K
     refine norm_ (a' := ?_) ?_ ?_
     rotate_left
     ·show Act.put _ (some 25) _ = _
      simp only [Act.put, psl, i64_w, i32_w]
      rfl
     refine one_ (i := 13) (N := some 26) (fl 14 14 []) rfl rfl (one_of HT_.out (by kernel_rfl)) (by decide) (fun K hK => ?_)
     refine goes_ Try.func61 (by kernel_rfl) rfl #[.agg #[.int .i64 ((rd_T23 l0 x10_1).f0), .int .i64 ((rd_T23 l0 x10_1).f1)], .agg #[.int .i64 t136, .int .i64 t137], .agg #[.int .i64 t138, .int .i64 t139]] (by rfl) rfl rfl (by (try simp only [pml]); first | done | rfl | (simp only [pdt]; rfl)) ?_
     with_reducible refine (polygon_folded.calls ((rd_T23 l0 x10_1).f0) ((rd_T23 l0 x10_1).f1) t136 t137 t138 t139 true _ A8.out).mono ?_
     rintro e w13 ⟨rfl, hb⟩
     refine ⟨_, rfl, ?_⟩
     have n0_ := bS HB hb
     clear HB
     have HB := n0_
     clear n0_
     (try clear hb)
     (try clear hb2)
     (try clear hk)
     (try clear hi)
     refine hK.out _ _ ⟨((HB.out.cell (bq w _ hw135_0)).trans hw135_0), ((HB.out.cell (bq w _ hw135_1)).trans hw135_1)⟩ (fun hHeld => ?_)
     clear hK K
     refine norm_ (a' := ?_) ?_ ?_
     rotate_left
     ·show Act.put _ (some 26) _ = _
      simp only [Act.put, psl, i64_w, i32_w]
      rfl
     refine done_ (done_of HT_.out (by kernel_rfl)) ?_
     try go_wp2
     go_ret
     exact ⟨sqE, fW HB.out⟩
    replace c9 := Bool.eq_false_iff.mpr c9
    subst c9
    have H1 : (polygon_simple.l1 k1 l0 (l0.length : Int) x10_1 (wrap64 (x10_1 + 2)) (l0.length : Int) x10_1) = some r := by rw [if_neg (show ¬ (false = true) by decide)] at H; exact H
    clear H
    have H := H1
    clear H1
    have H' := am H
    clear H
    try go_wp2
    have n0_ := am (below_drew1 HB.out)
    clear HB
    have HB := n0_
    clear n0_
    have p135 : 0 ≤ (x10_1 : Int) := of_decide_eq_true (by assumption)
    have q135 : x10_1 < (l0.length : Int) := of_decide_eq_true (by assumption)
    obtain ⟨ad135, e135, hx135_0, hx135_1⟩ := at_T23 HR0.out x10_1 p135 q135
    have hw135_1 := hx135_1
    have hw135_0 := hx135_0
    cases e135
    replace hx135_0 := cl HB hx135_0
    replace hx135_1 := cl HB hx135_1
    replace p135 := eq_true p135
    replace q135 := eq_true q135
    refine start_ (n := 14) (S := fun w' => w'.cell? (ad135.add ((x10_1).toNat * 2)) = some (.int .i64 ((rd_T23 l0 x10_1).f0)) ∧ w'.cell? ⟨(ad135.add ((x10_1).toNat * 2)).block, (ad135.add ((x10_1).toNat * 2)).off + 1, none⟩ = some (.int .i64 ((rd_T23 l0 x10_1).f1))) (ds := []) #[F,F,F,F,F,F,F,F,F,F,F,F,F,F] (by kernel_rfl) rfl rfl ⟨((HB.out.cell (bq w _ hw135_0)).trans hw135_0), ((HB.out.cell (bq w _ hw135_1)).trans hw135_1)⟩ (fun hHeld => ?_); refine with_tabW polygon_simple.tab5 polygon_simple.bits5 (fun HT_ HW_ => ?_)
    generalize wr.drew = w14 at HB hx135_0 hx135_1 hHeld ⊢
    refine pu (i := 0) (N := some 13) (fl 14 1 []) HT_ ?_
    refine pu (i := 1) (N := some 14) (fl 14 2 []) HT_ ?_
    refine pu (i := 2) (N := some 15) (fl 14 3 []) HT_ ?_
    refine pu (i := 4) (N := some 17) (fl 14 3 [4]) HT_ ?_
    refine pu (i := 5) (N := some 18) (fl 14 3 [4, 5]) HT_ ?_
    refine pu (i := 7) (N := some 20) (fl 14 3 [4, 5, 7]) HT_ ?_
    refine pu (i := 8) (N := some 21) (fl 14 3 [4, 5, 7, 8]) HT_ ?_
    refine pu (i := 9) (N := some 22) (fl 14 3 [4, 5, 7, 8, 9]) HT_ ?_
    refine pu (i := 10) (N := some 23) (fl 14 3 [4, 5, 7, 8, 9, 10]) HT_ ?_
    refine pu (i := 11) (N := some 24) (fl 14 3 [4, 5, 7, 8, 9, 10, 11]) HT_ ?_
    refine tk (i := 3) (N := some 16) (fl 14 6 [7, 8, 9, 10, 11]) HT_ HW_ hHeld ?_
    refine one_ (i := 6) (N := some 19) (fl 14 12 []) rfl rfl (one_of HT_.out (by kernel_rfl)) (by decide) (fun K hK => ?_)
    refine goes_ Try.func40 (by kernel_rfl) rfl #[.slice (some ad135) l0.length c0, .int .i64 x10_1] (by rfl) rfl rfl (by (try simp only [pml]); first | done | rfl | (simp only [pdt]; rfl)) ?_
    with_reducible refine (polygon_end.calls _ _ l0 x10_1 t136 t137 _ ?side1 ?side2 A5.out).mono ?_
    (case side1 => repeat (first | exact (Kd.C_below HR0.out HB.out) | (with_reducible refine Kd.C_alloc ?_ _) | (with_reducible refine Kd.C_drewN ?_ _) | (with_reducible refine Kd.C_drew ?_)))
    (case side2 => exact HC0.out)
    rintro e w15 ⟨rfl, hb⟩
    refine ⟨_, rfl, ?_⟩
    have n0_ := bS HB hb
    clear HB
    have HB := n0_
    clear n0_
    (try clear hb)
    (try clear hb2)
    (try clear hk)
    (try clear hi)
    refine hK.out _ _ ⟨((HB.out.cell (bq w _ hw135_0)).trans hw135_0), ((HB.out.cell (bq w _ hw135_1)).trans hw135_1)⟩ (fun hHeld => ?_)
    clear hK K
    refine norm_ (a' := ?_) ?_ ?_
    rotate_left
    ·show Act.put _ (some 19) _ = _
     simp only [Act.put, psl, i64_w, i32_w]
     rfl
    refine one_ (i := 12) (N := some 25) (fl 14 13 []) rfl rfl (one_of HT_.out (by kernel_rfl)) (by decide) (fun K hK => ?_)
    refine goes_ Try.func40 (by kernel_rfl) rfl #[.slice (some ad135) l0.length c0, .int .i64 (Int.tmod (wrap64 (x10_1 + 1)) (l0.length : Int))] (by rfl) rfl rfl (by (try simp only [pml]); first | done | rfl | (simp only [pdt]; rfl)) ?_
    with_reducible refine (polygon_end.calls _ _ l0 (Int.tmod (wrap64 (x10_1 + 1)) (l0.length : Int)) t138 t139 _ ?side1 ?side2 A7.out).mono ?_
    (case side1 => repeat (first | exact (Kd.C_below HR0.out HB.out) | (with_reducible refine Kd.C_alloc ?_ _) | (with_reducible refine Kd.C_drewN ?_ _) | (with_reducible refine Kd.C_drew ?_)))
    (case side2 => exact HC0.out)
    rintro e w16 ⟨rfl, hb⟩
    refine ⟨_, rfl, ?_⟩
    have n0_ := bS HB hb
    clear HB
    have HB := n0_
    clear n0_
    (try clear hb)
    (try clear hb2)
    (try clear hk)
    (try clear hi)
    refine hK.out _ _ ⟨((HB.out.cell (bq w _ hw135_0)).trans hw135_0), ((HB.out.cell (bq w _ hw135_1)).trans hw135_1)⟩ (fun hHeld => ?_)
    clear hK K
    refine norm_ (a' := ?_) ?_ ?_
    rotate_left
    ·show Act.put _ (some 25) _ = _
     simp only [Act.put, psl, i64_w, i32_w]
     rfl
    refine one_ (i := 13) (N := some 26) (fl 14 14 []) rfl rfl (one_of HT_.out (by kernel_rfl)) (by decide) (fun K hK => ?_)
    refine goes_ Try.func61 (by kernel_rfl) rfl #[.agg #[.int .i64 ((rd_T23 l0 x10_1).f0), .int .i64 ((rd_T23 l0 x10_1).f1)], .agg #[.int .i64 t136, .int .i64 t137], .agg #[.int .i64 t138, .int .i64 t139]] (by rfl) rfl rfl (by (try simp only [pml]); first | done | rfl | (simp only [pdt]; rfl)) ?_
    with_reducible refine (polygon_folded.calls ((rd_T23 l0 x10_1).f0) ((rd_T23 l0 x10_1).f1) t136 t137 t138 t139 false _ A8.out).mono ?_
    rintro e w17 ⟨rfl, hb⟩
    refine ⟨_, rfl, ?_⟩
    have n0_ := bS HB hb
    clear HB
    have HB := n0_
    clear n0_
    (try clear hb)
    (try clear hb2)
    (try clear hk)
    (try clear hi)
    refine hK.out _ _ ⟨((HB.out.cell (bq w _ hw135_0)).trans hw135_0), ((HB.out.cell (bq w _ hw135_1)).trans hw135_1)⟩ (fun hHeld => ?_)
    clear hK K
    refine norm_ (a' := ?_) ?_ ?_
    rotate_left
    ·show Act.put _ (some 26) _ = _
     simp only [Act.put, psl, i64_w, i32_w]
     rfl
    refine done_ (done_of HT_.out (by kernel_rfl)) ?_
    try go_wp2
    go_loopg [5] k1 (fun kq v5 w' => ∃ (x5_2 : Int), v5 = .int .i64 x5_2 ∧ Aside0 (polygon_simple.l1 kq l0 (l0.length : Int) x10_1 x5_2 (l0.length : Int) x10_1 = some r) ∧ Aside0 (kq ≤ k1) ∧ Aside0 (Below w.heap.size w w'))
    case atStart => exact ⟨(wrap64 (x10_1 + 2)), sqD, H', ⟨Nat.le_refl _⟩, ⟨fW HB.out⟩⟩
    case round =>
     clear H'
     try clear p1;try clear q1;try clear hx1;try clear c2;try clear c2b0;try clear p2;try clear c3;try clear c3b0;try clear c4;try clear c4b0;try clear c6;try clear c6b0;try clear c6b1;try clear c6b2;try clear p6;try clear c9;try clear p13;try clear q13;try clear hx13;try clear hx135_0;try clear hx135_1;try clear p135;try clear q135
     obtain ⟨x5_2, rfl, HA, HK2, HB⟩ := hrel
     cases gk with
     | zero => exact absurd HA.out (by simp [polygon_simple.l1])
     | succ k2 =>
      have H := HA.out
      clear HA
      simp only [polygon_simple.l1] at H
      by_cases c18 : x5_2 < (l0.length : Int)
      rotate_left
      ·rw [if_neg c18] at H
       have c18b0 : decide (x5_2 < (l0.length : Int)) = false := decide_eq_false c18
       clear c18
       have H' := am H
       clear H
       go_wp2
       go_roundg k2
       case measure => have := HK1.out; have := HK2.out; omega
       case rel => exact ⟨(wrap64 (x10_1 + 1)), sqD, H', ⟨by have := HK1.out; have := HK2.out; omega⟩, ⟨fW HB.out⟩⟩
      rw [if_pos c18] at H
      have c18b0 : decide (x5_2 < (l0.length : Int)) = true := decide_eq_true c18
      clear c18
      have HC19 := am H
      clear H
      go_upto_block 3 with (fail)
      go_cut [] (fun wc => ∃ (kq : Nat), Aside0 (polygon_simple.j2 kq l0 (l0.length : Int) x10_1 x5_2 (l0.length : Int) x10_1 = some r) ∧ Aside0 (kq ≤ k2) ∧ Aside0 (Below w.heap.size w wc))
      case first =>
       have H := HC19.out
       clear HC19
       by_cases c20 : (l0.length : Int) = 0
       ·rw [if_pos c20] at H
        exact absurd H (by simp)
       rw [if_neg c20] at H
       have c20b0 : ((l0.length : Int) == 0) = false := beq_eq_false_iff_ne.mpr c20
       have c20b1 : ((l0.length : Int) != 0) = true := bne_iff_ne.mpr c20
       have c20b2 : ¬ (l0 = []) := fun h_ => c20 (by rw [h_]; rfl)
       (first | rw [c20b0] | (simp only [i64_w, i32_w]; rw [c20b0]) | skip)
       by_cases c21 : (Int.tmod (wrap64 (x5_2 + 1)) (l0.length : Int)) = x10_1
       ·rw [if_pos c21] at H
        have c21b0 : ((Int.tmod (wrap64 (x5_2 + 1)) (l0.length : Int)) == x10_1) = true := beq_iff_eq.mpr c21
        have c21b1 : ((Int.tmod (wrap64 (x5_2 + 1)) (l0.length : Int)) != x10_1) = false := bne_eq_false_iff_eq.mpr c21
        clear c21
        have H' := am H
        clear H
        try go_wp2
        have n0_ := am (below_drew1 HB.out)
        clear HB
        have HB := n0_
        clear n0_
        refine start_ (n := 23) (S := fun w' => True) (ds := []) #[F,F,F,F,F,F,F,F,F,F,F,F,F,F,F,F,F,F,F,F,F,F,F] (by kernel_rfl) rfl rfl trivial (fun hHeld => ?_); refine with_tabW polygon_simple.tab10 polygon_simple.bits10 (fun HT_ HW_ => ?_)
        generalize wr.drew = w22 at HB hHeld ⊢
        refine pu (i := 0) (N := some 34) (fl 23 1 []) HT_ ?_
        refine pu (i := 1) (N := some 35) (fl 23 2 []) HT_ ?_
        refine pu (i := 2) (N := some 36) (fl 23 3 []) HT_ ?_
        refine pu (i := 3) (N := some 37) (fl 23 4 []) HT_ ?_
        refine pu (i := 4) (N := some 38) (fl 23 5 []) HT_ ?_
        refine pu (i := 5) (N := some 39) (fl 23 6 []) HT_ ?_
        refine pu (i := 6) (N := some 40) (fl 23 7 []) HT_ ?_
        refine pure_ (i := 7) (N := some 41) (v := undef) (a' := ?_) #[T,T,T,T,T,T,T,T,F,F,F,F,F,F,F,F,F,F,F,F,F,F,F] rfl rfl (any_of HT_.out (by kernel_rfl)) (fun _ _ _ h => h) (Or.inr ⟨by rfl, rfl⟩) ?_ ?_
        rotate_left
        ·simp only [Act.put, psl, i64_w, i32_w]
         rfl
        refine pure_ (i := 8) (N := some 42) (v := undef) (a' := ?_) #[T,T,T,T,T,T,T,T,T,F,F,F,F,F,F,F,F,F,F,F,F,F,F] rfl rfl (any_of HT_.out (by kernel_rfl)) (fun _ _ _ h => h) (Or.inr ⟨by rfl, rfl⟩) ?_ ?_
        rotate_left
        ·simp only [Act.put, psl, i64_w, i32_w]
         rfl
        refine pure_ (i := 9) (N := some 43) (v := undef) (a' := ?_) #[T,T,T,T,T,T,T,T,T,T,F,F,F,F,F,F,F,F,F,F,F,F,F] rfl rfl (any_of HT_.out (by kernel_rfl)) (fun _ _ _ h => h) (Or.inr ⟨by rfl, rfl⟩) ?_ ?_
        rotate_left
        ·simp only [Act.put, psl, i64_w, i32_w]
         rfl
        refine pure_ (i := 10) (N := some 44) (v := undef) (a' := ?_) #[T,T,T,T,T,T,T,T,T,T,T,F,F,F,F,F,F,F,F,F,F,F,F] rfl rfl (any_of HT_.out (by kernel_rfl)) (fun _ _ _ h => h) (Or.inr ⟨by rfl, rfl⟩) ?_ ?_
        rotate_left
        ·simp only [Act.put, psl, i64_w, i32_w]
         rfl
        refine pure_ (i := 11) (N := some 45) (v := undef) (a' := ?_) #[T,T,T,T,T,T,T,T,T,T,T,T,F,F,F,F,F,F,F,F,F,F,F] rfl rfl (any_of HT_.out (by kernel_rfl)) (fun _ _ _ h => h) (Or.inr ⟨by rfl, rfl⟩) ?_ ?_
        rotate_left
        ·simp only [Act.put, psl, i64_w, i32_w]
         rfl
        refine pure_ (i := 12) (N := some 46) (v := undef) (a' := ?_) #[T,T,T,T,T,T,T,T,T,T,T,T,T,F,F,F,F,F,F,F,F,F,F] rfl rfl (any_of HT_.out (by kernel_rfl)) (fun _ _ _ h => h) (Or.inr ⟨by rfl, rfl⟩) ?_ ?_
        rotate_left
        ·simp only [Act.put, psl, i64_w, i32_w]
         rfl
        refine pure_ (i := 13) (N := some 47) (v := undef) (a' := ?_) #[T,T,T,T,T,T,T,T,T,T,T,T,T,T,F,F,F,F,F,F,F,F,F] rfl rfl (any_of HT_.out (by kernel_rfl)) (fun _ _ _ h => h) (Or.inr ⟨by rfl, rfl⟩) ?_ ?_
        rotate_left
        ·simp only [Act.put, psl, i64_w, i32_w]
         rfl
        refine pure_ (i := 14) (N := some 48) (v := undef) (a' := ?_) #[T,T,T,T,T,T,T,T,T,T,T,T,T,T,T,F,F,F,F,F,F,F,F] rfl rfl (any_of HT_.out (by kernel_rfl)) (fun _ _ _ h => h) (Or.inr ⟨by rfl, rfl⟩) ?_ ?_
        rotate_left
        ·simp only [Act.put, psl, i64_w, i32_w]
         rfl
        refine pure_ (i := 15) (N := some 49) (v := undef) (a' := ?_) #[T,T,T,T,T,T,T,T,T,T,T,T,T,T,T,T,F,F,F,F,F,F,F] rfl rfl (any_of HT_.out (by kernel_rfl)) (fun _ _ _ h => h) (Or.inr ⟨by rfl, rfl⟩) ?_ ?_
        rotate_left
        ·simp only [Act.put, psl, i64_w, i32_w]
         rfl
        refine pure_ (i := 16) (N := some 50) (v := undef) (a' := ?_) #[T,T,T,T,T,T,T,T,T,T,T,T,T,T,T,T,T,F,F,F,F,F,F] rfl rfl (any_of HT_.out (by kernel_rfl)) (fun _ _ _ h => h) (Or.inr ⟨by rfl, rfl⟩) ?_ ?_
        rotate_left
        ·simp only [Act.put, psl, i64_w, i32_w]
         rfl
        refine pure_ (i := 17) (N := some 51) (v := undef) (a' := ?_) #[T,T,T,T,T,T,T,T,T,T,T,T,T,T,T,T,T,T,F,F,F,F,F] rfl rfl (any_of HT_.out (by kernel_rfl)) (fun _ _ _ h => h) (Or.inr ⟨by rfl, rfl⟩) ?_ ?_
        rotate_left
        ·simp only [Act.put, psl, i64_w, i32_w]
         rfl
        refine pure_ (i := 18) (N := some 52) (v := undef) (a' := ?_) #[T,T,T,T,T,T,T,T,T,T,T,T,T,T,T,T,T,T,T,F,F,F,F] rfl rfl (any_of HT_.out (by kernel_rfl)) (fun _ _ _ h => h) (Or.inr ⟨by rfl, rfl⟩) ?_ ?_
        rotate_left
        ·simp only [Act.put, psl, i64_w, i32_w]
         rfl
        refine pure_ (i := 19) (N := some 53) (v := undef) (a' := ?_) #[T,T,T,T,T,T,T,T,T,T,T,T,T,T,T,T,T,T,T,T,F,F,F] rfl rfl (any_of HT_.out (by kernel_rfl)) (fun _ _ _ h => h) (Or.inr ⟨by rfl, rfl⟩) ?_ ?_
        rotate_left
        ·simp only [Act.put, psl, i64_w, i32_w]
         rfl
        refine pure_ (i := 20) (N := some 54) (v := undef) (a' := ?_) #[T,T,T,T,T,T,T,T,T,T,T,T,T,T,T,T,T,T,T,T,T,F,F] rfl rfl (any_of HT_.out (by kernel_rfl)) (fun _ _ _ h => h) (Or.inr ⟨by rfl, rfl⟩) ?_ ?_
        rotate_left
        ·simp only [Act.put, psl, i64_w, i32_w]
         rfl
        refine pure_ (i := 21) (N := some 55) (v := undef) (a' := ?_) #[T,T,T,T,T,T,T,T,T,T,T,T,T,T,T,T,T,T,T,T,T,T,F] rfl rfl (any_of HT_.out (by kernel_rfl)) (fun _ _ _ h => h) (Or.inr ⟨by rfl, rfl⟩) ?_ ?_
        rotate_left
        ·simp only [Act.put, psl, i64_w, i32_w]
         rfl
        refine pu (i := 22) (N := some 56) (fl 23 23 []) HT_ ?_
        refine done_ (done_of HT_.out (by kernel_rfl)) ?_
        try go_wp2
        go_meet
        case rel => exact ⟨_, H', ⟨by have := HK1.out; have := HK2.out; first | omega | exact Nat.le_refl _⟩, ⟨fW HB.out⟩⟩
       rw [if_neg c21] at H
       have c21b0 : ((Int.tmod (wrap64 (x5_2 + 1)) (l0.length : Int)) == x10_1) = false := beq_eq_false_iff_ne.mpr c21
       have c21b1 : ((Int.tmod (wrap64 (x5_2 + 1)) (l0.length : Int)) != x10_1) = true := bne_iff_ne.mpr c21
       by_cases c23 : 0 ≤ x10_1
       rotate_left
       ·rw [if_neg c23] at H
        exact absurd H (by simp)
       rw [if_pos c23] at H
       have c23b0 : decide (0 ≤ x10_1) = true := decide_eq_true c23
       clear c23
       by_cases c24 : x10_1 < (l0.length : Int)
       rotate_left
       ·rw [if_neg c24] at H
        exact absurd H (by simp)
       rw [if_pos c24] at H
       have c24b0 : decide (x10_1 < (l0.length : Int)) = true := decide_eq_true c24
       clear c24
       replace H := Option.bind_eq_some_iff.mp H
       obtain ⟨⟨t142, t143⟩, A250, H⟩ := H
       replace H : (if 0 ≤ x5_2 then (if x5_2 < (l0.length : Int) then ((polygon_end.f l0 x5_2).bind fun bt145 => ((polygon_meet.f k2 ((rd_T23 l0 x10_1).f0) ((rd_T23 l0 x10_1).f1) t142 t143 ((rd_T23 l0 x5_2).f0) ((rd_T23 l0 x5_2).f1) bt145.1 bt145.2).bind fun t147 => (if t147 = true then (some false) else (polygon_simple.j2 k2 l0 (l0.length : Int) x10_1 x5_2 (l0.length : Int) x10_1)))) else (none)) else (none)) = some r := H
       have A25 := am A250
       clear A250
       by_cases c26 : 0 ≤ x5_2
       rotate_left
       ·rw [if_neg c26] at H
        exact absurd H (by simp)
       rw [if_pos c26] at H
       have c26b0 : decide (0 ≤ x5_2) = true := decide_eq_true c26
       clear c26
       by_cases c27 : x5_2 < (l0.length : Int)
       rotate_left
       ·rw [if_neg c27] at H
        exact absurd H (by simp)
       rw [if_pos c27] at H
       have c27b0 : decide (x5_2 < (l0.length : Int)) = true := decide_eq_true c27
       clear c27
       replace H := Option.bind_eq_some_iff.mp H
       obtain ⟨⟨t145, t146⟩, A280, H⟩ := H
       replace H : ((polygon_meet.f k2 ((rd_T23 l0 x10_1).f0) ((rd_T23 l0 x10_1).f1) t142 t143 ((rd_T23 l0 x5_2).f0) ((rd_T23 l0 x5_2).f1) t145 t146).bind fun t147 => (if t147 = true then (some false) else (polygon_simple.j2 k2 l0 (l0.length : Int) x10_1 x5_2 (l0.length : Int) x10_1))) = some r := H
       have A28 := am A280
       clear A280
       replace H := Option.bind_eq_some_iff.mp H
       obtain ⟨t147, A290, H⟩ := H
       replace H : (if t147 = true then (some false) else (polygon_simple.j2 k2 l0 (l0.length : Int) x10_1 x5_2 (l0.length : Int) x10_1)) = some r := H
       have A29 := am A290
       clear A290
       by_cases c30 : t147 = true
       ·subst c30
        have H1 : (some false) = some r := by rw [if_pos rfl] at H; exact H
        clear H
        have H := H1
        clear H1
        obtain rfl := Option.some.inj H
        try go_wp2
        have n0_ := am (below_drew1 HB.out)
        clear HB
        have HB := n0_
        clear n0_
        have p141 : 0 ≤ (x10_1 : Int) := of_decide_eq_true (by assumption)
        have q141 : x10_1 < (l0.length : Int) := of_decide_eq_true (by assumption)
        obtain ⟨ad141, e141, hx141_0, hx141_1⟩ := at_T23 HR0.out x10_1 p141 q141
        have hw141_1 := hx141_1
        have hw141_0 := hx141_0
        obtain rfl : ad135 = ad141 := (by injection e141)
        replace hx141_0 := cl HB hx141_0
        replace hx141_1 := cl HB hx141_1
        replace p141 := eq_true p141
        replace q141 := eq_true q141
        have p144 : 0 ≤ (x5_2 : Int) := of_decide_eq_true (by assumption)
        have q144 : x5_2 < (l0.length : Int) := of_decide_eq_true (by assumption)
        obtain ⟨ad144, e144, hx144_0, hx144_1⟩ := at_T23 HR0.out x5_2 p144 q144
        have hw144_1 := hx144_1
        have hw144_0 := hx144_0
        obtain rfl : ad135 = ad144 := (by injection e144)
        replace hx144_0 := cl HB hx144_0
        replace hx144_1 := cl HB hx144_1
        replace p144 := eq_true p144
        replace q144 := eq_true q144
        refine start_ (n := 23) (S := fun w' => w'.cell? (ad135.add ((x10_1).toNat * 2)) = some (.int .i64 ((rd_T23 l0 x10_1).f0)) ∧ w'.cell? ⟨(ad135.add ((x10_1).toNat * 2)).block, (ad135.add ((x10_1).toNat * 2)).off + 1, none⟩ = some (.int .i64 ((rd_T23 l0 x10_1).f1)) ∧ w'.cell? (ad135.add ((x5_2).toNat * 2)) = some (.int .i64 ((rd_T23 l0 x5_2).f0)) ∧ w'.cell? ⟨(ad135.add ((x5_2).toNat * 2)).block, (ad135.add ((x5_2).toNat * 2)).off + 1, none⟩ = some (.int .i64 ((rd_T23 l0 x5_2).f1))) (ds := []) #[F,F,F,F,F,F,F,F,F,F,F,F,F,F,F,F,F,F,F,F,F,F,F] (by kernel_rfl) rfl rfl ⟨((HB.out.cell (bq w _ hw141_0)).trans hw141_0), ((HB.out.cell (bq w _ hw141_1)).trans hw141_1), ((HB.out.cell (bq w _ hw144_0)).trans hw144_0), ((HB.out.cell (bq w _ hw144_1)).trans hw144_1)⟩ (fun hHeld => ?_); refine with_tabW polygon_simple.tab10 polygon_simple.bits10 (fun HT_ HW_ => ?_)
        generalize wr.drew = w31 at HB hx141_0 hx141_1 hx144_0 hx144_1 hHeld ⊢
        refine pu (i := 0) (N := some 34) (fl 23 1 []) HT_ ?_
        refine pu (i := 1) (N := some 35) (fl 23 2 []) HT_ ?_
        refine pu (i := 2) (N := some 36) (fl 23 3 []) HT_ ?_
        refine pu (i := 3) (N := some 37) (fl 23 4 []) HT_ ?_
        refine pu (i := 4) (N := some 38) (fl 23 5 []) HT_ ?_
        refine pu (i := 5) (N := some 39) (fl 23 6 []) HT_ ?_
        refine pu (i := 6) (N := some 40) (fl 23 7 []) HT_ ?_
        refine pu (i := 7) (N := some 41) (fl 23 8 []) HT_ ?_
        refine pu (i := 8) (N := some 42) (fl 23 9 []) HT_ ?_
        refine pu (i := 9) (N := some 43) (fl 23 10 []) HT_ ?_
        refine pu (i := 11) (N := some 45) (fl 23 10 [11]) HT_ ?_
        refine pu (i := 12) (N := some 46) (fl 23 10 [11, 12]) HT_ ?_
        refine pu (i := 14) (N := some 48) (fl 23 10 [11, 12, 14]) HT_ ?_
        refine pu (i := 15) (N := some 49) (fl 23 10 [11, 12, 14, 15]) HT_ ?_
        refine pu (i := 16) (N := some 50) (fl 23 10 [11, 12, 14, 15, 16]) HT_ ?_
        refine pu (i := 18) (N := some 52) (fl 23 10 [11, 12, 14, 15, 16, 18]) HT_ ?_
        refine pu (i := 19) (N := some 53) (fl 23 10 [11, 12, 14, 15, 16, 18, 19]) HT_ ?_
        refine tk (i := 10) (N := some 44) (fl 23 13 [14, 15, 16, 18, 19]) HT_ HW_ hHeld ?_
        refine tk (i := 17) (N := some 51) (fl 23 13 [14, 15, 16, 17, 18, 19]) HT_ HW_ hHeld ?_
        refine one_ (i := 13) (N := some 47) (fl 23 20 []) rfl rfl (one_of HT_.out (by kernel_rfl)) (by decide) (fun K hK => ?_)
        refine goes_ Try.func40 (by kernel_rfl) rfl #[.slice (some ad135) l0.length c0, .int .i64 x10_1] (by rfl) rfl rfl (by (try simp only [pml]); first | done | rfl | (simp only [pdt]; rfl)) ?_
        with_reducible refine (polygon_end.calls _ _ l0 x10_1 t142 t143 _ ?side1 ?side2 A25.out).mono ?_
        (case side1 => repeat (first | exact (Kd.C_below HR0.out HB.out) | (with_reducible refine Kd.C_alloc ?_ _) | (with_reducible refine Kd.C_drewN ?_ _) | (with_reducible refine Kd.C_drew ?_)))
        (case side2 => exact HC0.out)
        rintro e w32 ⟨rfl, hb⟩
        refine ⟨_, rfl, ?_⟩
        have n0_ := bS HB hb
        clear HB
        have HB := n0_
        clear n0_
        (try clear hb)
        (try clear hb2)
        (try clear hk)
        (try clear hi)
        refine hK.out _ _ ⟨((HB.out.cell (bq w _ hw141_0)).trans hw141_0), ((HB.out.cell (bq w _ hw141_1)).trans hw141_1), ((HB.out.cell (bq w _ hw144_0)).trans hw144_0), ((HB.out.cell (bq w _ hw144_1)).trans hw144_1)⟩ (fun hHeld => ?_)
        clear hK K
        refine norm_ (a' := ?_) ?_ ?_
        rotate_left
        ·show Act.put _ (some 47) _ = _
         simp only [Act.put, psl, i64_w, i32_w]
         rfl
        refine one_ (i := 20) (N := some 54) (fl 23 21 []) rfl rfl (one_of HT_.out (by kernel_rfl)) (by decide) (fun K hK => ?_)
        refine goes_ Try.func40 (by kernel_rfl) rfl #[.slice (some ad135) l0.length c0, .int .i64 x5_2] (by rfl) rfl rfl (by (try simp only [pml]); first | done | rfl | (simp only [pdt]; rfl)) ?_
        with_reducible refine (polygon_end.calls _ _ l0 x5_2 t145 t146 _ ?side1 ?side2 A28.out).mono ?_
        (case side1 => repeat (first | exact (Kd.C_below HR0.out HB.out) | (with_reducible refine Kd.C_alloc ?_ _) | (with_reducible refine Kd.C_drewN ?_ _) | (with_reducible refine Kd.C_drew ?_)))
        (case side2 => exact HC0.out)
        rintro e w33 ⟨rfl, hb⟩
        refine ⟨_, rfl, ?_⟩
        have n0_ := bS HB hb
        clear HB
        have HB := n0_
        clear n0_
        (try clear hb)
        (try clear hb2)
        (try clear hk)
        (try clear hi)
        refine hK.out _ _ ⟨((HB.out.cell (bq w _ hw141_0)).trans hw141_0), ((HB.out.cell (bq w _ hw141_1)).trans hw141_1), ((HB.out.cell (bq w _ hw144_0)).trans hw144_0), ((HB.out.cell (bq w _ hw144_1)).trans hw144_1)⟩ (fun hHeld => ?_)
        clear hK K
        refine norm_ (a' := ?_) ?_ ?_
        rotate_left
        ·show Act.put _ (some 54) _ = _
         simp only [Act.put, psl, i64_w, i32_w]
         rfl
        refine one_ (i := 21) (N := some 55) (fl 23 22 []) rfl rfl (one_of HT_.out (by kernel_rfl)) (by decide) (fun K hK => ?_)
        refine goes_ Try.func62 (by kernel_rfl) rfl #[.agg #[.int .i64 ((rd_T23 l0 x10_1).f0), .int .i64 ((rd_T23 l0 x10_1).f1)], .agg #[.int .i64 t142, .int .i64 t143], .agg #[.int .i64 ((rd_T23 l0 x5_2).f0), .int .i64 ((rd_T23 l0 x5_2).f1)], .agg #[.int .i64 t145, .int .i64 t146]] (by rfl) rfl rfl (by (try simp only [pml]); first | done | rfl | (simp only [pdt]; rfl)) ?_
        with_reducible refine (polygon_meet.calls k2 ((rd_T23 l0 x10_1).f0) ((rd_T23 l0 x10_1).f1) t142 t143 ((rd_T23 l0 x5_2).f0) ((rd_T23 l0 x5_2).f1) t145 t146 true _ A29.out).mono ?_
        rintro e w34 ⟨rfl, hb⟩
        refine ⟨_, rfl, ?_⟩
        have n0_ := bS HB hb
        clear HB
        have HB := n0_
        clear n0_
        (try clear hb)
        (try clear hb2)
        (try clear hk)
        (try clear hi)
        refine hK.out _ _ ⟨((HB.out.cell (bq w _ hw141_0)).trans hw141_0), ((HB.out.cell (bq w _ hw141_1)).trans hw141_1), ((HB.out.cell (bq w _ hw144_0)).trans hw144_0), ((HB.out.cell (bq w _ hw144_1)).trans hw144_1)⟩ (fun hHeld => ?_)
        clear hK K
        refine norm_ (a' := ?_) ?_ ?_
        rotate_left
        ·show Act.put _ (some 55) _ = _
         simp only [Act.put, psl, i64_w, i32_w]
         rfl
        refine pu (i := 22) (N := some 56) (fl 23 23 []) HT_ ?_
        refine done_ (done_of HT_.out (by kernel_rfl)) ?_
        try go_wp2
        go_ret
        exact ⟨sqE, fW HB.out⟩
       replace c30 := Bool.eq_false_iff.mpr c30
       subst c30
       have H1 : (polygon_simple.j2 k2 l0 (l0.length : Int) x10_1 x5_2 (l0.length : Int) x10_1) = some r := by rw [if_neg (show ¬ (false = true) by decide)] at H; exact H
       clear H
       have H := H1
       clear H1
       have H' := am H
       clear H
       try go_wp2
       have n0_ := am (below_drew1 HB.out)
       clear HB
       have HB := n0_
       clear n0_
       have p141 : 0 ≤ (x10_1 : Int) := of_decide_eq_true (by assumption)
       have q141 : x10_1 < (l0.length : Int) := of_decide_eq_true (by assumption)
       obtain ⟨ad141, e141, hx141_0, hx141_1⟩ := at_T23 HR0.out x10_1 p141 q141
       have hw141_1 := hx141_1
       have hw141_0 := hx141_0
       obtain rfl : ad135 = ad141 := (by injection e141)
       replace hx141_0 := cl HB hx141_0
       replace hx141_1 := cl HB hx141_1
       replace p141 := eq_true p141
       replace q141 := eq_true q141
       have p144 : 0 ≤ (x5_2 : Int) := of_decide_eq_true (by assumption)
       have q144 : x5_2 < (l0.length : Int) := of_decide_eq_true (by assumption)
       obtain ⟨ad144, e144, hx144_0, hx144_1⟩ := at_T23 HR0.out x5_2 p144 q144
       have hw144_1 := hx144_1
       have hw144_0 := hx144_0
       obtain rfl : ad135 = ad144 := (by injection e144)
       replace hx144_0 := cl HB hx144_0
       replace hx144_1 := cl HB hx144_1
       replace p144 := eq_true p144
       replace q144 := eq_true q144
       refine start_ (n := 23) (S := fun w' => w'.cell? (ad135.add ((x10_1).toNat * 2)) = some (.int .i64 ((rd_T23 l0 x10_1).f0)) ∧ w'.cell? ⟨(ad135.add ((x10_1).toNat * 2)).block, (ad135.add ((x10_1).toNat * 2)).off + 1, none⟩ = some (.int .i64 ((rd_T23 l0 x10_1).f1)) ∧ w'.cell? (ad135.add ((x5_2).toNat * 2)) = some (.int .i64 ((rd_T23 l0 x5_2).f0)) ∧ w'.cell? ⟨(ad135.add ((x5_2).toNat * 2)).block, (ad135.add ((x5_2).toNat * 2)).off + 1, none⟩ = some (.int .i64 ((rd_T23 l0 x5_2).f1))) (ds := []) #[F,F,F,F,F,F,F,F,F,F,F,F,F,F,F,F,F,F,F,F,F,F,F] (by kernel_rfl) rfl rfl ⟨((HB.out.cell (bq w _ hw141_0)).trans hw141_0), ((HB.out.cell (bq w _ hw141_1)).trans hw141_1), ((HB.out.cell (bq w _ hw144_0)).trans hw144_0), ((HB.out.cell (bq w _ hw144_1)).trans hw144_1)⟩ (fun hHeld => ?_); refine with_tabW polygon_simple.tab10 polygon_simple.bits10 (fun HT_ HW_ => ?_)
       generalize wr.drew = w35 at HB hx141_0 hx141_1 hx144_0 hx144_1 hHeld ⊢
       refine pu (i := 0) (N := some 34) (fl 23 1 []) HT_ ?_
       refine pu (i := 1) (N := some 35) (fl 23 2 []) HT_ ?_
       refine pu (i := 2) (N := some 36) (fl 23 3 []) HT_ ?_
       refine pu (i := 3) (N := some 37) (fl 23 4 []) HT_ ?_
       refine pu (i := 4) (N := some 38) (fl 23 5 []) HT_ ?_
       refine pu (i := 5) (N := some 39) (fl 23 6 []) HT_ ?_
       refine pu (i := 6) (N := some 40) (fl 23 7 []) HT_ ?_
       refine pu (i := 7) (N := some 41) (fl 23 8 []) HT_ ?_
       refine pu (i := 8) (N := some 42) (fl 23 9 []) HT_ ?_
       refine pu (i := 9) (N := some 43) (fl 23 10 []) HT_ ?_
       refine pu (i := 11) (N := some 45) (fl 23 10 [11]) HT_ ?_
       refine pu (i := 12) (N := some 46) (fl 23 10 [11, 12]) HT_ ?_
       refine pu (i := 14) (N := some 48) (fl 23 10 [11, 12, 14]) HT_ ?_
       refine pu (i := 15) (N := some 49) (fl 23 10 [11, 12, 14, 15]) HT_ ?_
       refine pu (i := 16) (N := some 50) (fl 23 10 [11, 12, 14, 15, 16]) HT_ ?_
       refine pu (i := 18) (N := some 52) (fl 23 10 [11, 12, 14, 15, 16, 18]) HT_ ?_
       refine pu (i := 19) (N := some 53) (fl 23 10 [11, 12, 14, 15, 16, 18, 19]) HT_ ?_
       refine tk (i := 10) (N := some 44) (fl 23 13 [14, 15, 16, 18, 19]) HT_ HW_ hHeld ?_
       refine tk (i := 17) (N := some 51) (fl 23 13 [14, 15, 16, 17, 18, 19]) HT_ HW_ hHeld ?_
       refine one_ (i := 13) (N := some 47) (fl 23 20 []) rfl rfl (one_of HT_.out (by kernel_rfl)) (by decide) (fun K hK => ?_)
       refine goes_ Try.func40 (by kernel_rfl) rfl #[.slice (some ad135) l0.length c0, .int .i64 x10_1] (by rfl) rfl rfl (by (try simp only [pml]); first | done | rfl | (simp only [pdt]; rfl)) ?_
       with_reducible refine (polygon_end.calls _ _ l0 x10_1 t142 t143 _ ?side1 ?side2 A25.out).mono ?_
       (case side1 => repeat (first | exact (Kd.C_below HR0.out HB.out) | (with_reducible refine Kd.C_alloc ?_ _) | (with_reducible refine Kd.C_drewN ?_ _) | (with_reducible refine Kd.C_drew ?_)))
       (case side2 => exact HC0.out)
       rintro e w36 ⟨rfl, hb⟩
       refine ⟨_, rfl, ?_⟩
       have n0_ := bS HB hb
       clear HB
       have HB := n0_
       clear n0_
       (try clear hb)
       (try clear hb2)
       (try clear hk)
       (try clear hi)
       refine hK.out _ _ ⟨((HB.out.cell (bq w _ hw141_0)).trans hw141_0), ((HB.out.cell (bq w _ hw141_1)).trans hw141_1), ((HB.out.cell (bq w _ hw144_0)).trans hw144_0), ((HB.out.cell (bq w _ hw144_1)).trans hw144_1)⟩ (fun hHeld => ?_)
       clear hK K
       refine norm_ (a' := ?_) ?_ ?_
       rotate_left
       ·show Act.put _ (some 47) _ = _
        simp only [Act.put, psl, i64_w, i32_w]
        rfl
       refine one_ (i := 20) (N := some 54) (fl 23 21 []) rfl rfl (one_of HT_.out (by kernel_rfl)) (by decide) (fun K hK => ?_)
       refine goes_ Try.func40 (by kernel_rfl) rfl #[.slice (some ad135) l0.length c0, .int .i64 x5_2] (by rfl) rfl rfl (by (try simp only [pml]); first | done | rfl | (simp only [pdt]; rfl)) ?_
       with_reducible refine (polygon_end.calls _ _ l0 x5_2 t145 t146 _ ?side1 ?side2 A28.out).mono ?_
       (case side1 => repeat (first | exact (Kd.C_below HR0.out HB.out) | (with_reducible refine Kd.C_alloc ?_ _) | (with_reducible refine Kd.C_drewN ?_ _) | (with_reducible refine Kd.C_drew ?_)))
       (case side2 => exact HC0.out)
       rintro e w37 ⟨rfl, hb⟩
       refine ⟨_, rfl, ?_⟩
       have n0_ := bS HB hb
       clear HB
       have HB := n0_
       clear n0_
       (try clear hb)
       (try clear hb2)
       (try clear hk)
       (try clear hi)
       refine hK.out _ _ ⟨((HB.out.cell (bq w _ hw141_0)).trans hw141_0), ((HB.out.cell (bq w _ hw141_1)).trans hw141_1), ((HB.out.cell (bq w _ hw144_0)).trans hw144_0), ((HB.out.cell (bq w _ hw144_1)).trans hw144_1)⟩ (fun hHeld => ?_)
       clear hK K
       refine norm_ (a' := ?_) ?_ ?_
       rotate_left
       ·show Act.put _ (some 54) _ = _
        simp only [Act.put, psl, i64_w, i32_w]
        rfl
       refine one_ (i := 21) (N := some 55) (fl 23 22 []) rfl rfl (one_of HT_.out (by kernel_rfl)) (by decide) (fun K hK => ?_)
       refine goes_ Try.func62 (by kernel_rfl) rfl #[.agg #[.int .i64 ((rd_T23 l0 x10_1).f0), .int .i64 ((rd_T23 l0 x10_1).f1)], .agg #[.int .i64 t142, .int .i64 t143], .agg #[.int .i64 ((rd_T23 l0 x5_2).f0), .int .i64 ((rd_T23 l0 x5_2).f1)], .agg #[.int .i64 t145, .int .i64 t146]] (by rfl) rfl rfl (by (try simp only [pml]); first | done | rfl | (simp only [pdt]; rfl)) ?_
       with_reducible refine (polygon_meet.calls k2 ((rd_T23 l0 x10_1).f0) ((rd_T23 l0 x10_1).f1) t142 t143 ((rd_T23 l0 x5_2).f0) ((rd_T23 l0 x5_2).f1) t145 t146 false _ A29.out).mono ?_
       rintro e w38 ⟨rfl, hb⟩
       refine ⟨_, rfl, ?_⟩
       have n0_ := bS HB hb
       clear HB
       have HB := n0_
       clear n0_
       (try clear hb)
       (try clear hb2)
       (try clear hk)
       (try clear hi)
       refine hK.out _ _ ⟨((HB.out.cell (bq w _ hw141_0)).trans hw141_0), ((HB.out.cell (bq w _ hw141_1)).trans hw141_1), ((HB.out.cell (bq w _ hw144_0)).trans hw144_0), ((HB.out.cell (bq w _ hw144_1)).trans hw144_1)⟩ (fun hHeld => ?_)
       clear hK K
       refine norm_ (a' := ?_) ?_ ?_
       rotate_left
       ·show Act.put _ (some 55) _ = _
        simp only [Act.put, psl, i64_w, i32_w]
        rfl
       refine pu (i := 22) (N := some 56) (fl 23 23 []) HT_ ?_
       refine done_ (done_of HT_.out (by kernel_rfl)) ?_
       try go_wp2
       go_meet
       case rel => exact ⟨_, H', ⟨by have := HK1.out; have := HK2.out; first | omega | exact Nat.le_refl _⟩, ⟨fW HB.out⟩⟩
      case rest =>
       clear HC19
       try clear p1;try clear q1;try clear hx1;try clear c2;try clear p2;try clear c3;try clear c4;try clear c6;try clear p6;try clear p14;try clear q14;try clear hx14;try clear c21;try clear c21b0;try clear c21b1;try clear c23;try clear c23b0;try clear c24;try clear c24b0;try clear c26;try clear c26b0;try clear c27;try clear c27b0;try clear c30;try clear hx141_0;try clear hx141_1;try clear hx144_0;try clear hx144_1;try clear p141;try clear p144;try clear q141;try clear q144
       obtain ⟨kq, HA, HJ18, HB⟩ := hcut
       cases kq with
       | zero => exact absurd HA.out (by simp [polygon_simple.j2])
       | succ kj18 =>
        have H := HA.out
        clear HA
        simp only [polygon_simple.j2] at H
        have H' := am H
        clear H
        go_wp2
        go_roundg kj18
        case measure => have := HK1.out; have := HK2.out; have := HJ18.out; omega
        case rel => exact ⟨(wrap64 (x5_2 + 1)), sqD, H', ⟨by have := HK1.out; have := HK2.out; have := HJ18.out; omega⟩, ⟨fW HB.out⟩⟩
   ·rw [if_neg c2] at H
    have c2b0 : decide (x10_1 < (l0.length : Int)) = false := decide_eq_false c2
    clear c2
    obtain rfl := Option.some.inj H
    go_wp2
    go_ret
    exact ⟨sqE, fW HB.out⟩

end Go.Proofs.Ytcembjgpcbodcaa.QA
