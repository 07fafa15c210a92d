import Derived.Test.YtcembjgpcbodcaaZQAx0
import Derived.Test.YtcembjgpcbodcaaZQAx12
import Derived.Test.YtcembjgpcbodcaaZQAx13
import Derived.Test.YtcembjgpcbodcaaZQAx14
namespace Go.Proofs.Ytcembjgpcbodcaa.QA
open Go.RowKit Go.Proofs.YtcembjgpcbodcaaW.PrintWords Go.Proofs.YtcembjgpcbodcaaW.PrintLast Go.Proofs.YtcembjgpcbodcaaW.PrintMore
open Aside0 renaming mk → am
open World renaming block_lt_of_cell? → bq
attribute [local go_sem] max2_int min2_int max_two min_two max_three min_three max_four min_four
set_option linter.unusedVariables false
set_option linter.unusedSimpArgs false

mutual
def r_Simple.l0 : Nat → List (S23) → Int → Int → Option (Bool)
 | 0, _, _, _ => none
 | k + 1, x0, x3, x4 => if x4 < x3 then (if 0 ≤ x4 then (if x4 < (x0.length : Int) then ((r_next.f x0 x4).bind fun t305 => (if 0 ≤ t305 then (if t305 < (x0.length : Int) then ((r_next.f x0 x4).bind fun t307 => ((r_next.f x0 t307).bind fun t308 => (if 0 ≤ t308 then (if t308 < (x0.length : Int) then ((r_back.f k ((rd_T23 x0 x4).f0) ((rd_T23 x0 x4).f1) ((rd_T23 x0 t305).f0) ((rd_T23 x0 t305).f1) ((rd_T23 x0 t308).f0) ((rd_T23 x0 t308).f1)).bind fun t310 => (if t310 = true then (some false) else (r_Simple.l1 k x0 x3 x4 (wrap64 (x4 + 2))))) else (none)) else (none)))) else (none)) else (none))) else (none)) else (none)) else (some true)
def r_Simple.l1 : Nat → List (S23) → Int → Int → Int → Option (Bool)
 | 0, _, _, _, _ => none
 | k + 1, x0, x3, x4, x5 => if x5 < x3 then ((r_next.f x0 x5).bind fun t311 => (if t311 = x4 then (r_Simple.j2 k x0 x3 x4 x5) else (if 0 ≤ x4 then (if x4 < (x0.length : Int) then ((r_next.f x0 x4).bind fun t313 => (if 0 ≤ t313 then (if t313 < (x0.length : Int) then (if 0 ≤ x5 then (if x5 < (x0.length : Int) then ((r_next.f x0 x5).bind fun t316 => (if 0 ≤ t316 then (if t316 < (x0.length : Int) then ((r_meet.f k ((rd_T23 x0 x4).f0) ((rd_T23 x0 x4).f1) ((rd_T23 x0 t313).f0) ((rd_T23 x0 t313).f1) ((rd_T23 x0 x5).f0) ((rd_T23 x0 x5).f1) ((rd_T23 x0 t316).f0) ((rd_T23 x0 t316).f1)).bind fun t318 => (if t318 = true then (some false) else (r_Simple.j2 k x0 x3 x4 x5))) else (none)) else (none))) else (none)) else (none)) else (none)) else (none))) else (none)) else (none)))) else (r_Simple.l0 k x0 x3 (wrap64 (x4 + 1)))
def r_Simple.j2 : Nat → List (S23) → Int → Int → Int → Option (Bool)
 | 0, _, _, _, _ => none
 | k + 1, x0, x3, x4, x5 => r_Simple.l1 k x0 x3 x4 (wrap64 (x5 + 1))
end
def r_Simple.f (k : Nat) (l0 : List (S23)) : Option (Bool) := r_Simple.l0 k l0 (l0.length : Int) 0
def r_Simple.T5 : Bool × List (List Nat × List Nat) := (true, [([], []), ([], []), ([0, 1], [0, 1]), ([2], [2]), ([], []), ([], []), ([], []), ([5, 6], [5, 6]), ([4, 7], [4, 7]), ([8], [8]), ([], []), ([], []), ([], []), ([], []), ([12, 13, 7], [12, 13]), ([11, 14, 14], [11, 14]), ([10, 15], [10, 15]), ([16], [16]), ([3, 9, 17, 15], [3, 9, 17])])
def r_Simple.B5 : List Nat := [0, 0, 3, 7, 0, 0, 0, 96, 240, 496, 0, 0, 0, 0, 12512, 30944, 64736, 130272, 262143]
theorem r_Simple.tab5 : rtab .any (opsOf Try.f18 5) = r_Simple.T5 := by kernel_rfl
theorem r_Simple.bits5 : waitsOk r_Simple.T5.2 r_Simple.B5 = true := by kernel_rfl
def r_Simple.T10 : Bool × List (List Nat × List Nat) := (true, [([], []), ([], []), ([0, 1], [0, 1]), ([], []), ([2, 3], [2, 3]), ([4, 2], [4]), ([5], [5]), ([5], [5]), ([6, 7, 5], [5, 6, 7]), ([8, 5], [5, 8]), ([5], [5]), ([5], [5]), ([5], [5]), ([11, 12, 5, 5], [5, 11, 12]), ([10, 13, 5], [5, 10, 13]), ([14, 5], [5, 14]), ([5], [5]), ([5], [5]), ([16, 17, 5], [5, 16, 17]), ([18, 5], [5, 18]), ([5], [5]), ([5], [5]), ([5], [5]), ([21, 22, 13, 5], [5, 21, 22]), ([20, 23, 5], [5, 20, 23]), ([24, 5], [5, 24]), ([9, 15, 19, 25, 23, 5], [5, 9, 15, 19, 25]), ([5, 26], [5, 26])])
def r_Simple.B10 : List Nat := [0, 0, 3, 0, 15, 31, 63, 63, 255, 511, 63, 63, 63, 6207, 15423, 31807, 63, 63, 196671, 458815, 63, 63, 63, 6305855, 15743039, 32520255, 67108863, 134217727]
theorem r_Simple.tab10 : rtab .any (opsOf Try.f18 10) = r_Simple.T10 := by kernel_rfl
theorem r_Simple.bits10 : waitsOk r_Simple.T10.2 r_Simple.B10 = true := by kernel_rfl
set_option maxHeartbeats 8000000 in
set_option maxRecDepth 100000 in
theorem r_Simple.calls (k : Nat) (A0 : Option Addr) (c0 : Nat) (l0 : List (S23)) (r : Bool) (w : World) (hr0 : Kd.C k23 w A0 l0.length l0) (hc0 : l0.length ≤ c0) (h : r_Simple.f k l0 = some r) :
  Calls Try.prog 18 #[.slice A0 l0.length c0] w fun e w' => e = .returned (.bool r) ∧ Below w.heap.size w w' := by
 have hu23 := Try.underlying23
 have HR0 := am hr0
 have HC0 := am hc0
 clear hr0 hc0
 have HB := am (Below.refl w.heap.size w)
 have H : (r_Simple.l0 k l0 (l0.length : Int) 0) = some r := h
 clear h
 have H' := am H
 clear H
 go_enter Try.func18, Try.ntmps18
 go_wp2
 go_loopg [4] k (fun kq v4 w' => ∃ (x4_1 : Int), v4 = .int .i64 x4_1 ∧ Aside0 (r_Simple.l0 kq l0 (l0.length : Int) x4_1 = some r) ∧ Aside0 (kq ≤ k) ∧ Aside0 (Below w.heap.size w w'))
 case atStart => exact ⟨(0), sqD, H', ⟨Nat.le_refl _⟩, ⟨fW HB.out⟩⟩
 case round =>
  clear H'
  try clear c1
  obtain ⟨x4_1, rfl, HA, HK1, HB⟩ := hrel
  cases gk with
  | zero => exact absurd HA.out (by simp [r_Simple.l0])
  | succ k1 =>
   have H := HA.out
   clear HA
   simp only [r_Simple.l0] at H
   by_cases c2 : x4_1 < (l0.length : Int)
   ·rw [if_pos c2] at H
    have c2b0 : decide (x4_1 < (l0.length : Int)) = true := decide_eq_true c2
    clear c2
    by_cases c3 : 0 ≤ x4_1
    rotate_left
    ·rw [if_neg c3] at H
     exact absurd H (by simp)
    rw [if_pos c3] at H
    have c3b0 : decide (0 ≤ x4_1) = true := decide_eq_true c3
    clear c3
    by_cases c4 : x4_1 < (l0.length : Int)
    rotate_left
    ·rw [if_neg c4] at H
     exact absurd H (by simp)
    rw [if_pos c4] at H
    have c4b0 : decide (x4_1 < (l0.length : Int)) = true := decide_eq_true c4
    clear c4
    replace H := Option.bind_eq_some_iff.mp H
    obtain ⟨t305, A50, H⟩ := H
    replace H : (if 0 ≤ t305 then (if t305 < (l0.length : Int) then ((r_next.f l0 x4_1).bind fun t307 => ((r_next.f l0 t307).bind fun t308 => (if 0 ≤ t308 then (if t308 < (l0.length : Int) then ((r_back.f k1 ((rd_T23 l0 x4_1).f0) ((rd_T23 l0 x4_1).f1) ((rd_T23 l0 t305).f0) ((rd_T23 l0 t305).f1) ((rd_T23 l0 t308).f0) ((rd_T23 l0 t308).f1)).bind fun t310 => (if t310 = true then (some false) else (r_Simple.l1 k1 l0 (l0.length : Int) x4_1 (wrap64 (x4_1 + 2))))) else (none)) else (none)))) else (none)) else (none)) = some r := H
    have A5 := am A50
    clear A50
    by_cases c6 : 0 ≤ t305
    rotate_left
    ·rw [if_neg c6] at H
     exact absurd H (by simp)
    rw [if_pos c6] at H
    have c6b0 : decide (0 ≤ t305) = true := decide_eq_true c6
    clear c6
    by_cases c7 : t305 < (l0.length : Int)
    rotate_left
    ·rw [if_neg c7] at H
     exact absurd H (by simp)
    rw [if_pos c7] at H
    have c7b0 : decide (t305 < (l0.length : Int)) = true := decide_eq_true c7
    clear c7
    replace H := Option.bind_eq_some_iff.mp H
    obtain ⟨t307, A80, H⟩ := H
    replace H : ((r_next.f l0 t307).bind fun t308 => (if 0 ≤ t308 then (if t308 < (l0.length : Int) then ((r_back.f k1 ((rd_T23 l0 x4_1).f0) ((rd_T23 l0 x4_1).f1) ((rd_T23 l0 t305).f0) ((rd_T23 l0 t305).f1) ((rd_T23 l0 t308).f0) ((rd_T23 l0 t308).f1)).bind fun t310 => (if t310 = true then (some false) else (r_Simple.l1 k1 l0 (l0.length : Int) x4_1 (wrap64 (x4_1 + 2))))) else (none)) else (none))) = some r := H
    have A8 := am A80
    clear A80
    replace H := Option.bind_eq_some_iff.mp H
    obtain ⟨t308, A90, H⟩ := H
    replace H : (if 0 ≤ t308 then (if t308 < (l0.length : Int) then ((r_back.f k1 ((rd_T23 l0 x4_1).f0) ((rd_T23 l0 x4_1).f1) ((rd_T23 l0 t305).f0) ((rd_T23 l0 t305).f1) ((rd_T23 l0 t308).f0) ((rd_T23 l0 t308).f1)).bind fun t310 => (if t310 = true then (some false) else (r_Simple.l1 k1 l0 (l0.length : Int) x4_1 (wrap64 (x4_1 + 2))))) else (none)) else (none)) = some r := H
    have A9 := am A90
    clear A90
    by_cases c10 : 0 ≤ t308
    rotate_left
    ·rw [if_neg c10] at H
     exact absurd H (by simp)
    rw [if_pos c10] at H
    have c10b0 : decide (0 ≤ t308) = true := decide_eq_true c10
    clear c10
    by_cases c11 : t308 < (l0.length : Int)
    rotate_left
    ·rw [if_neg c11] at H
     exact absurd H (by simp)
    rw [if_pos c11] at H
    have c11b0 : decide (t308 < (l0.length : Int)) = true := decide_eq_true c11
    clear c11
    replace H := Option.bind_eq_some_iff.mp H
    obtain ⟨t310, A120, H⟩ := H
    replace H : (if t310 = true then (some false) else (r_Simple.l1 k1 l0 (l0.length : Int) x4_1 (wrap64 (x4_1 + 2)))) = some r := H
    have A12 := am A120
    clear A120
    by_cases c13 : t310 = true
    ·subst c13
     have H1 : (some false) = some r := by rw [if_pos rfl] at H; exact H
     clear H
     have H := H1
     clear H1
     obtain rfl := Option.some.inj H
     try go_wp2
     have n0_ := am (below_drew1 HB.out)
     clear HB
     have HB := n0_
     clear n0_
     have p304 : 0 ≤ (x4_1 : Int) := of_decide_eq_true (by assumption)
     have q304 : x4_1 < (l0.length : Int) := of_decide_eq_true (by assumption)
     obtain ⟨ad304, e304, hx304_0, hx304_1⟩ := at_T23 HR0.out x4_1 p304 q304
     have hw304_1 := hx304_1
     have hw304_0 := hx304_0
     cases e304
     replace hx304_0 := cl HB hx304_0
     replace hx304_1 := cl HB hx304_1
     replace p304 := eq_true p304
     replace q304 := eq_true q304
     have p306 : 0 ≤ (t305 : Int) := of_decide_eq_true (by assumption)
     have q306 : t305 < (l0.length : Int) := of_decide_eq_true (by assumption)
     obtain ⟨ad306, e306, hx306_0, hx306_1⟩ := at_T23 HR0.out t305 p306 q306
     have hw306_1 := hx306_1
     have hw306_0 := hx306_0
     obtain rfl : ad304 = ad306 := (by injection e306)
     replace hx306_0 := cl HB hx306_0
     replace hx306_1 := cl HB hx306_1
     replace p306 := eq_true p306
     replace q306 := eq_true q306
     have p309 : 0 ≤ (t308 : Int) := of_decide_eq_true (by assumption)
     have q309 : t308 < (l0.length : Int) := of_decide_eq_true (by assumption)
     obtain ⟨ad309, e309, hx309_0, hx309_1⟩ := at_T23 HR0.out t308 p309 q309
     have hw309_1 := hx309_1
     have hw309_0 := hx309_0
     obtain rfl : ad304 = ad309 := (by injection e309)
     replace hx309_0 := cl HB hx309_0
     replace hx309_1 := cl HB hx309_1
     replace p309 := eq_true p309
     replace q309 := eq_true q309
     refine start_ (n := 19) (S := fun w' => w'.cell? (ad304.add ((x4_1).toNat * 2)) = some (.int .i64 ((rd_T23 l0 x4_1).f0)) ∧ w'.cell? ⟨(ad304.add ((x4_1).toNat * 2)).block, (ad304.add ((x4_1).toNat * 2)).off + 1, none⟩ = some (.int .i64 ((rd_T23 l0 x4_1).f1)) ∧ w'.cell? (ad304.add ((t305).toNat * 2)) = some (.int .i64 ((rd_T23 l0 t305).f0)) ∧ w'.cell? ⟨(ad304.add ((t305).toNat * 2)).block, (ad304.add ((t305).toNat * 2)).off + 1, none⟩ = some (.int .i64 ((rd_T23 l0 t305).f1)) ∧ w'.cell? (ad304.add ((t308).toNat * 2)) = some (.int .i64 ((rd_T23 l0 t308).f0)) ∧ w'.cell? ⟨(ad304.add ((t308).toNat * 2)).block, (ad304.add ((t308).toNat * 2)).off + 1, none⟩ = some (.int .i64 ((rd_T23 l0 t308).f1))) (ds := []) #[F,F,F,F,F,F,F,F,F,F,F,F,F,F,F,F,F,F,F] (by kernel_rfl) rfl rfl ⟨((HB.out.cell (bq w _ hw304_0)).trans hw304_0), ((HB.out.cell (bq w _ hw304_1)).trans hw304_1), ((HB.out.cell (bq w _ hw306_0)).trans hw306_0), ((HB.out.cell (bq w _ hw306_1)).trans hw306_1), ((HB.out.cell (bq w _ hw309_0)).trans hw309_0), ((HB.out.cell (bq w _ hw309_1)).trans hw309_1)⟩ (fun hHeld => ?_); refine with_tabW r_Simple.tab5 r_Simple.bits5 (fun HT_ HW_ => ?_)
     generalize wr.drew = w14 at HB hx304_0 hx304_1 hx306_0 hx306_1 hx309_0 hx309_1 hHeld ⊢
     refine pu (i := 0) (N := some 13) (fl 19 1 []) HT_ ?_
     refine pu (i := 1) (N := some 14) (fl 19 2 []) HT_ ?_
     refine pu (i := 2) (N := some 15) (fl 19 3 []) HT_ ?_
     refine pu (i := 4) (N := some 17) (fl 19 3 [4]) HT_ ?_
     refine pu (i := 5) (N := some 18) (fl 19 3 [4, 5]) HT_ ?_
     refine pu (i := 6) (N := some 19) (fl 19 3 [4, 5, 6]) HT_ ?_
     refine pu (i := 10) (N := some 23) (fl 19 3 [4, 5, 6, 10]) HT_ ?_
     refine pu (i := 11) (N := some 24) (fl 19 3 [4, 5, 6, 10, 11]) HT_ ?_
     refine pu (i := 12) (N := some 25) (fl 19 3 [4, 5, 6, 10, 11, 12]) HT_ ?_
     refine pu (i := 13) (N := some 26) (fl 19 3 [4, 5, 6, 10, 11, 12, 13]) HT_ ?_
     refine tk (i := 3) (N := some 16) (fl 19 7 [10, 11, 12, 13]) HT_ HW_ hHeld ?_
     refine one_ (i := 7) (N := some 20) (fl 19 8 [10, 11, 12, 13]) rfl rfl (one_of HT_.out (by kernel_rfl)) (by decide) (fun K hK => ?_)
     refine goes_ Try.func42 (by kernel_rfl) rfl #[.slice (some ad304) l0.length c0, .int .i64 x4_1] (by rfl) rfl rfl (by (try simp only [pml]); first | done | rfl | (simp only [pdt]; rfl)) ?_
     with_reducible refine (r_next.calls _ _ l0 x4_1 t305 _ ?side1 ?side2 A5.out).mono ?_
     (case side1 => repeat (first | exact (Kd.C_below HR0.out HB.out) | (with_reducible refine Kd.C_alloc ?_ _) | (with_reducible refine Kd.C_drewN ?_ _) | (with_reducible refine Kd.C_drew ?_)))
     (case side2 => exact HC0.out)
     rintro e w' ⟨rfl, ⟨nd, rfl⟩⟩
     refine ⟨_, rfl, ?_⟩
     refine hK.out _ _ ⟨((HB.out.cell (bq w _ hw304_0)).trans hw304_0), ((HB.out.cell (bq w _ hw304_1)).trans hw304_1), ((HB.out.cell (bq w _ hw306_0)).trans hw306_0), ((HB.out.cell (bq w _ hw306_1)).trans hw306_1), ((HB.out.cell (bq w _ hw309_0)).trans hw309_0), ((HB.out.cell (bq w _ hw309_1)).trans hw309_1)⟩ (fun hHeld => ?_)
     clear hK K
     refine norm_ (a' := ?_) ?_ ?_
     rotate_left
     ·show Act.put _ (some 20) _ = _
      simp only [Act.put, psl, i64_w, i32_w]
      rfl
     refine pu (i := 8) (N := some 21) (fl 19 9 [10, 11, 12, 13]) HT_ ?_
     refine tk (i := 9) (N := some 22) (fl 19 14 []) HT_ HW_ hHeld ?_
     refine one_ (i := 14) (N := some 27) (fl 19 15 []) rfl rfl (one_of HT_.out (by kernel_rfl)) (by decide) (fun K hK => ?_)
     refine goes_ Try.func42 (by kernel_rfl) rfl #[.slice (some ad304) l0.length c0, .int .i64 x4_1] (by rfl) rfl rfl (by (try simp only [pml]); first | done | rfl | (simp only [pdt]; rfl)) ?_
     with_reducible refine (r_next.calls _ _ l0 x4_1 t307 _ ?side1 ?side2 A8.out).mono ?_
     (case side1 => repeat (first | exact (Kd.C_below HR0.out (fW HB.out)) | (with_reducible refine Kd.C_alloc ?_ _) | (with_reducible refine Kd.C_drewN ?_ _) | (with_reducible refine Kd.C_drew ?_)))
     (case side2 => exact HC0.out)
     rintro e w' ⟨rfl, ⟨nd, rfl⟩⟩
     refine ⟨_, rfl, ?_⟩
     refine hK.out _ _ ⟨((HB.out.cell (bq w _ hw304_0)).trans hw304_0), ((HB.out.cell (bq w _ hw304_1)).trans hw304_1), ((HB.out.cell (bq w _ hw306_0)).trans hw306_0), ((HB.out.cell (bq w _ hw306_1)).trans hw306_1), ((HB.out.cell (bq w _ hw309_0)).trans hw309_0), ((HB.out.cell (bq w _ hw309_1)).trans hw309_1)⟩ (fun hHeld => ?_)
     clear hK K
     refine norm_ (a' := ?_) ?_ ?_
     rotate_left
     ·show Act.put _ (some 27) _ = _
      simp only [Act.put, psl, i64_w, i32_w]
      rfl
     refine one_ (i := 15) (N := some 28) (fl 19 16 []) rfl rfl (one_of HT_.out (by kernel_rfl)) (by decide) (fun K hK => ?_)
     refine goes_ Try.func42 (by kernel_rfl) rfl #[.slice (some ad304) l0.length c0, .int .i64 t307] (by rfl) rfl rfl (by (try simp only [pml]); first | done | rfl | (simp only [pdt]; rfl)) ?_
     with_reducible refine (r_next.calls _ _ l0 t307 t308 _ ?side1 ?side2 A9.out).mono ?_
     (case side1 => repeat (first | exact (Kd.C_below HR0.out (fW HB.out)) | (with_reducible refine Kd.C_alloc ?_ _) | (with_reducible refine Kd.C_drewN ?_ _) | (with_reducible refine Kd.C_drew ?_)))
     (case side2 => exact HC0.out)
     rintro e w' ⟨rfl, ⟨nd, rfl⟩⟩
     refine ⟨_, rfl, ?_⟩
     refine hK.out _ _ ⟨((HB.out.cell (bq w _ hw304_0)).trans hw304_0), ((HB.out.cell (bq w _ hw304_1)).trans hw304_1), ((HB.out.cell (bq w _ hw306_0)).trans hw306_0), ((HB.out.cell (bq w _ hw306_1)).trans hw306_1), ((HB.out.cell (bq w _ hw309_0)).trans hw309_0), ((HB.out.cell (bq w _ hw309_1)).trans hw309_1)⟩ (fun hHeld => ?_)
     clear hK K
     refine norm_ (a' := ?_) ?_ ?_
     rotate_left
     ·show Act.put _ (some 28) _ = _
      simp only [Act.put, psl, i64_w, i32_w]
      rfl
     refine pu (i := 16) (N := some 29) (fl 19 17 []) HT_ ?_
     refine tk (i := 17) (N := some 30) (fl 19 18 []) HT_ HW_ hHeld ?_
     refine one_ (i := 18) (N := some 31) (fl 19 19 []) rfl rfl (one_of HT_.out (by kernel_rfl)) (by decide) (fun K hK => ?_)
     refine goes_ Try.func43 (by kernel_rfl) rfl #[.agg #[.int .i64 ((rd_T23 l0 x4_1).f0), .int .i64 ((rd_T23 l0 x4_1).f1)], .agg #[.int .i64 ((rd_T23 l0 t305).f0), .int .i64 ((rd_T23 l0 t305).f1)], .agg #[.int .i64 ((rd_T23 l0 t308).f0), .int .i64 ((rd_T23 l0 t308).f1)]] (by rfl) rfl rfl (by (try simp only [pml]); first | done | rfl | (simp only [pdt]; rfl)) ?_
     with_reducible refine (r_back.calls k1 ((rd_T23 l0 x4_1).f0) ((rd_T23 l0 x4_1).f1) ((rd_T23 l0 t305).f0) ((rd_T23 l0 t305).f1) ((rd_T23 l0 t308).f0) ((rd_T23 l0 t308).f1) true _ A12.out).mono ?_
     rintro e w15 ⟨rfl, hb⟩
     refine ⟨_, rfl, ?_⟩
     have n0_ := bS HB hb
     clear HB
     have HB := n0_
     clear n0_
     (try clear hb)
     (try clear hb2)
     (try clear hk)
     (try clear hi)
     refine hK.out _ _ ⟨((HB.out.cell (bq w _ hw304_0)).trans hw304_0), ((HB.out.cell (bq w _ hw304_1)).trans hw304_1), ((HB.out.cell (bq w _ hw306_0)).trans hw306_0), ((HB.out.cell (bq w _ hw306_1)).trans hw306_1), ((HB.out.cell (bq w _ hw309_0)).trans hw309_0), ((HB.out.cell (bq w _ hw309_1)).trans hw309_1)⟩ (fun hHeld => ?_)
     clear hK K
     refine norm_ (a' := ?_) ?_ ?_
     rotate_left
     ·show Act.put _ (some 31) _ = _
      simp only [Act.put, psl, i64_w, i32_w]
      rfl
     refine done_ (done_of HT_.out (by kernel_rfl)) ?_
     try go_wp2
     go_ret
     exact ⟨sqE, fW HB.out⟩
    replace c13 := Bool.eq_false_iff.mpr c13
    subst c13
    have H1 : (r_Simple.l1 k1 l0 (l0.length : Int) x4_1 (wrap64 (x4_1 + 2))) = some r := by rw [if_neg (show ¬ (false = true) by decide)] at H; exact H
    clear H
    have H := H1
    clear H1
    have H' := am H
    clear H
    try go_wp2
    have n0_ := am (below_drew1 HB.out)
    clear HB
    have HB := n0_
    clear n0_
    have p304 : 0 ≤ (x4_1 : Int) := of_decide_eq_true (by assumption)
    have q304 : x4_1 < (l0.length : Int) := of_decide_eq_true (by assumption)
    obtain ⟨ad304, e304, hx304_0, hx304_1⟩ := at_T23 HR0.out x4_1 p304 q304
    have hw304_1 := hx304_1
    have hw304_0 := hx304_0
    cases e304
    replace hx304_0 := cl HB hx304_0
    replace hx304_1 := cl HB hx304_1
    replace p304 := eq_true p304
    replace q304 := eq_true q304
    have p306 : 0 ≤ (t305 : Int) := of_decide_eq_true (by assumption)
    have q306 : t305 < (l0.length : Int) := of_decide_eq_true (by assumption)
    obtain ⟨ad306, e306, hx306_0, hx306_1⟩ := at_T23 HR0.out t305 p306 q306
    have hw306_1 := hx306_1
    have hw306_0 := hx306_0
    obtain rfl : ad304 = ad306 := (by injection e306)
    replace hx306_0 := cl HB hx306_0
    replace hx306_1 := cl HB hx306_1
    replace p306 := eq_true p306
    replace q306 := eq_true q306
    have p309 : 0 ≤ (t308 : Int) := of_decide_eq_true (by assumption)
    have q309 : t308 < (l0.length : Int) := of_decide_eq_true (by assumption)
    obtain ⟨ad309, e309, hx309_0, hx309_1⟩ := at_T23 HR0.out t308 p309 q309
    have hw309_1 := hx309_1
    have hw309_0 := hx309_0
    obtain rfl : ad304 = ad309 := (by injection e309)
    replace hx309_0 := cl HB hx309_0
    replace hx309_1 := cl HB hx309_1
    replace p309 := eq_true p309
    replace q309 := eq_true q309
    refine start_ (n := 19) (S := fun w' => w'.cell? (ad304.add ((x4_1).toNat * 2)) = some (.int .i64 ((rd_T23 l0 x4_1).f0)) ∧ w'.cell? ⟨(ad304.add ((x4_1).toNat * 2)).block, (ad304.add ((x4_1).toNat * 2)).off + 1, none⟩ = some (.int .i64 ((rd_T23 l0 x4_1).f1)) ∧ w'.cell? (ad304.add ((t305).toNat * 2)) = some (.int .i64 ((rd_T23 l0 t305).f0)) ∧ w'.cell? ⟨(ad304.add ((t305).toNat * 2)).block, (ad304.add ((t305).toNat * 2)).off + 1, none⟩ = some (.int .i64 ((rd_T23 l0 t305).f1)) ∧ w'.cell? (ad304.add ((t308).toNat * 2)) = some (.int .i64 ((rd_T23 l0 t308).f0)) ∧ w'.cell? ⟨(ad304.add ((t308).toNat * 2)).block, (ad304.add ((t308).toNat * 2)).off + 1, none⟩ = some (.int .i64 ((rd_T23 l0 t308).f1))) (ds := []) #[F,F,F,F,F,F,F,F,F,F,F,F,F,F,F,F,F,F,F] (by kernel_rfl) rfl rfl ⟨((HB.out.cell (bq w _ hw304_0)).trans hw304_0), ((HB.out.cell (bq w _ hw304_1)).trans hw304_1), ((HB.out.cell (bq w _ hw306_0)).trans hw306_0), ((HB.out.cell (bq w _ hw306_1)).trans hw306_1), ((HB.out.cell (bq w _ hw309_0)).trans hw309_0), ((HB.out.cell (bq w _ hw309_1)).trans hw309_1)⟩ (fun hHeld => ?_); refine with_tabW r_Simple.tab5 r_Simple.bits5 (fun HT_ HW_ => ?_)
    generalize wr.drew = w16 at HB hx304_0 hx304_1 hx306_0 hx306_1 hx309_0 hx309_1 hHeld ⊢
    refine pu (i := 0) (N := some 13) (fl 19 1 []) HT_ ?_
    refine pu (i := 1) (N := some 14) (fl 19 2 []) HT_ ?_
    refine pu (i := 2) (N := some 15) (fl 19 3 []) HT_ ?_
    refine pu (i := 4) (N := some 17) (fl 19 3 [4]) HT_ ?_
    refine pu (i := 5) (N := some 18) (fl 19 3 [4, 5]) HT_ ?_
    refine pu (i := 6) (N := some 19) (fl 19 3 [4, 5, 6]) HT_ ?_
    refine pu (i := 10) (N := some 23) (fl 19 3 [4, 5, 6, 10]) HT_ ?_
    refine pu (i := 11) (N := some 24) (fl 19 3 [4, 5, 6, 10, 11]) HT_ ?_
    refine pu (i := 12) (N := some 25) (fl 19 3 [4, 5, 6, 10, 11, 12]) HT_ ?_
    refine pu (i := 13) (N := some 26) (fl 19 3 [4, 5, 6, 10, 11, 12, 13]) HT_ ?_
    refine tk (i := 3) (N := some 16) (fl 19 7 [10, 11, 12, 13]) HT_ HW_ hHeld ?_
    refine one_ (i := 7) (N := some 20) (fl 19 8 [10, 11, 12, 13]) rfl rfl (one_of HT_.out (by kernel_rfl)) (by decide) (fun K hK => ?_)
    refine goes_ Try.func42 (by kernel_rfl) rfl #[.slice (some ad304) l0.length c0, .int .i64 x4_1] (by rfl) rfl rfl (by (try simp only [pml]); first | done | rfl | (simp only [pdt]; rfl)) ?_
    with_reducible refine (r_next.calls _ _ l0 x4_1 t305 _ ?side1 ?side2 A5.out).mono ?_
    (case side1 => repeat (first | exact (Kd.C_below HR0.out HB.out) | (with_reducible refine Kd.C_alloc ?_ _) | (with_reducible refine Kd.C_drewN ?_ _) | (with_reducible refine Kd.C_drew ?_)))
    (case side2 => exact HC0.out)
    rintro e w' ⟨rfl, ⟨nd, rfl⟩⟩
    refine ⟨_, rfl, ?_⟩
    refine hK.out _ _ ⟨((HB.out.cell (bq w _ hw304_0)).trans hw304_0), ((HB.out.cell (bq w _ hw304_1)).trans hw304_1), ((HB.out.cell (bq w _ hw306_0)).trans hw306_0), ((HB.out.cell (bq w _ hw306_1)).trans hw306_1), ((HB.out.cell (bq w _ hw309_0)).trans hw309_0), ((HB.out.cell (bq w _ hw309_1)).trans hw309_1)⟩ (fun hHeld => ?_)
    clear hK K
    refine norm_ (a' := ?_) ?_ ?_
    rotate_left
    ·show Act.put _ (some 20) _ = _
     simp only [Act.put, psl, i64_w, i32_w]
     rfl
    refine pu (i := 8) (N := some 21) (fl 19 9 [10, 11, 12, 13]) HT_ ?_
    refine tk (i := 9) (N := some 22) (fl 19 14 []) HT_ HW_ hHeld ?_
    refine one_ (i := 14) (N := some 27) (fl 19 15 []) rfl rfl (one_of HT_.out (by kernel_rfl)) (by decide) (fun K hK => ?_)
    refine goes_ Try.func42 (by kernel_rfl) rfl #[.slice (some ad304) l0.length c0, .int .i64 x4_1] (by rfl) rfl rfl (by (try simp only [pml]); first | done | rfl | (simp only [pdt]; rfl)) ?_
    with_reducible refine (r_next.calls _ _ l0 x4_1 t307 _ ?side1 ?side2 A8.out).mono ?_
    (case side1 => repeat (first | exact (Kd.C_below HR0.out (fW HB.out)) | (with_reducible refine Kd.C_alloc ?_ _) | (with_reducible refine Kd.C_drewN ?_ _) | (with_reducible refine Kd.C_drew ?_)))
    (case side2 => exact HC0.out)
    rintro e w' ⟨rfl, ⟨nd, rfl⟩⟩
    refine ⟨_, rfl, ?_⟩
    refine hK.out _ _ ⟨((HB.out.cell (bq w _ hw304_0)).trans hw304_0), ((HB.out.cell (bq w _ hw304_1)).trans hw304_1), ((HB.out.cell (bq w _ hw306_0)).trans hw306_0), ((HB.out.cell (bq w _ hw306_1)).trans hw306_1), ((HB.out.cell (bq w _ hw309_0)).trans hw309_0), ((HB.out.cell (bq w _ hw309_1)).trans hw309_1)⟩ (fun hHeld => ?_)
    clear hK K
    refine norm_ (a' := ?_) ?_ ?_
    rotate_left
    ·show Act.put _ (some 27) _ = _
     simp only [Act.put, psl, i64_w, i32_w]
     rfl
    refine one_ (i := 15) (N := some 28) (fl 19 16 []) rfl rfl (one_of HT_.out (by kernel_rfl)) (by decide) (fun K hK => ?_)
    refine goes_ Try.func42 (by kernel_rfl) rfl #[.slice (some ad304) l0.length c0, .int .i64 t307] (by rfl) rfl rfl (by (try simp only [pml]); first | done | rfl | (simp only [pdt]; rfl)) ?_
    with_reducible refine (r_next.calls _ _ l0 t307 t308 _ ?side1 ?side2 A9.out).mono ?_
    (case side1 => repeat (first | exact (Kd.C_below HR0.out (fW HB.out)) | (with_reducible refine Kd.C_alloc ?_ _) | (with_reducible refine Kd.C_drewN ?_ _) | (with_reducible refine Kd.C_drew ?_)))
    (case side2 => exact HC0.out)
    rintro e w' ⟨rfl, ⟨nd, rfl⟩⟩
    refine ⟨_, rfl, ?_⟩
    refine hK.out _ _ ⟨((HB.out.cell (bq w _ hw304_0)).trans hw304_0), ((HB.out.cell (bq w _ hw304_1)).trans hw304_1), ((HB.out.cell (bq w _ hw306_0)).trans hw306_0), ((HB.out.cell (bq w _ hw306_1)).trans hw306_1), ((HB.out.cell (bq w _ hw309_0)).trans hw309_0), ((HB.out.cell (bq w _ hw309_1)).trans hw309_1)⟩ (fun hHeld => ?_)
    clear hK K
    refine norm_ (a' := ?_) ?_ ?_
    rotate_left
    ·show Act.put _ (some 28) _ = _
     simp only [Act.put, psl, i64_w, i32_w]
     rfl
    refine pu (i := 16) (N := some 29) (fl 19 17 []) HT_ ?_
    refine tk (i := 17) (N := some 30) (fl 19 18 []) HT_ HW_ hHeld ?_
    refine one_ (i := 18) (N := some 31) (fl 19 19 []) rfl rfl (one_of HT_.out (by kernel_rfl)) (by decide) (fun K hK => ?_)
    refine goes_ Try.func43 (by kernel_rfl) rfl #[.agg #[.int .i64 ((rd_T23 l0 x4_1).f0), .int .i64 ((rd_T23 l0 x4_1).f1)], .agg #[.int .i64 ((rd_T23 l0 t305).f0), .int .i64 ((rd_T23 l0 t305).f1)], .agg #[.int .i64 ((rd_T23 l0 t308).f0), .int .i64 ((rd_T23 l0 t308).f1)]] (by rfl) rfl rfl (by (try simp only [pml]); first | done | rfl | (simp only [pdt]; rfl)) ?_
    with_reducible refine (r_back.calls k1 ((rd_T23 l0 x4_1).f0) ((rd_T23 l0 x4_1).f1) ((rd_T23 l0 t305).f0) ((rd_T23 l0 t305).f1) ((rd_T23 l0 t308).f0) ((rd_T23 l0 t308).f1) false _ A12.out).mono ?_
    rintro e w17 ⟨rfl, hb⟩
    refine ⟨_, rfl, ?_⟩
    have n0_ := bS HB hb
    clear HB
    have HB := n0_
    clear n0_
    (try clear hb)
    (try clear hb2)
    (try clear hk)
    (try clear hi)
    refine hK.out _ _ ⟨((HB.out.cell (bq w _ hw304_0)).trans hw304_0), ((HB.out.cell (bq w _ hw304_1)).trans hw304_1), ((HB.out.cell (bq w _ hw306_0)).trans hw306_0), ((HB.out.cell (bq w _ hw306_1)).trans hw306_1), ((HB.out.cell (bq w _ hw309_0)).trans hw309_0), ((HB.out.cell (bq w _ hw309_1)).trans hw309_1)⟩ (fun hHeld => ?_)
    clear hK K
    refine norm_ (a' := ?_) ?_ ?_
    rotate_left
    ·show Act.put _ (some 31) _ = _
     simp only [Act.put, psl, i64_w, i32_w]
     rfl
    refine done_ (done_of HT_.out (by kernel_rfl)) ?_
    try go_wp2
    go_loopg [5] k1 (fun kq v5 w' => ∃ (x5_2 : Int), v5 = .int .i64 x5_2 ∧ Aside0 (r_Simple.l1 kq l0 (l0.length : Int) x4_1 x5_2 = some r) ∧ Aside0 (kq ≤ k1) ∧ Aside0 (Below w.heap.size w w'))
    case atStart => exact ⟨(wrap64 (x4_1 + 2)), sqD, H', ⟨Nat.le_refl _⟩, ⟨fW HB.out⟩⟩
    case round =>
     clear H'
     try clear c1;try clear c2;try clear c2b0;try clear p2;try clear c3;try clear c3b0;try clear p3;try clear q3;try clear hx3;try clear c4;try clear c4b0;try clear c6;try clear c6b0;try clear p6;try clear c7;try clear c7b0;try clear c10;try clear c10b0;try clear c11;try clear c11b0;try clear c13;try clear hx304_0;try clear hx304_1;try clear hx306_0;try clear hx306_1;try clear hx309_0;try clear hx309_1;try clear p304;try clear p306;try clear p309;try clear q304;try clear q306;try clear q309
     obtain ⟨x5_2, rfl, HA, HK2, HB⟩ := hrel
     cases gk with
     | zero => exact absurd HA.out (by simp [r_Simple.l1])
     | succ k2 =>
      have H := HA.out
      clear HA
      simp only [r_Simple.l1] at H
      by_cases c18 : x5_2 < (l0.length : Int)
      rotate_left
      ·rw [if_neg c18] at H
       have c18b0 : decide (x5_2 < (l0.length : Int)) = false := decide_eq_false c18
       clear c18
       have H' := am H
       clear H
       go_wp2
       go_roundg k2
       case measure => have := HK1.out; have := HK2.out; omega
       case rel => exact ⟨(wrap64 (x4_1 + 1)), sqD, H', ⟨by have := HK1.out; have := HK2.out; omega⟩, ⟨fW HB.out⟩⟩
      rw [if_pos c18] at H
      have c18b0 : decide (x5_2 < (l0.length : Int)) = true := decide_eq_true c18
      clear c18
      have HC19 := am H
      clear H
      go_upto_block 3 with (fail)
      go_cut [] (fun wc => ∃ (kq : Nat), Aside0 (r_Simple.j2 kq l0 (l0.length : Int) x4_1 x5_2 = some r) ∧ Aside0 (kq ≤ k2) ∧ Aside0 (Below w.heap.size w wc))
      case first =>
       have H := HC19.out
       clear HC19
       replace H := Option.bind_eq_some_iff.mp H
       obtain ⟨t311, A200, H⟩ := H
       replace H : (if t311 = x4_1 then (r_Simple.j2 k2 l0 (l0.length : Int) x4_1 x5_2) else (if 0 ≤ x4_1 then (if x4_1 < (l0.length : Int) then ((r_next.f l0 x4_1).bind fun t313 => (if 0 ≤ t313 then (if t313 < (l0.length : Int) then (if 0 ≤ x5_2 then (if x5_2 < (l0.length : Int) then ((r_next.f l0 x5_2).bind fun t316 => (if 0 ≤ t316 then (if t316 < (l0.length : Int) then ((r_meet.f k2 ((rd_T23 l0 x4_1).f0) ((rd_T23 l0 x4_1).f1) ((rd_T23 l0 t313).f0) ((rd_T23 l0 t313).f1) ((rd_T23 l0 x5_2).f0) ((rd_T23 l0 x5_2).f1) ((rd_T23 l0 t316).f0) ((rd_T23 l0 t316).f1)).bind fun t318 => (if t318 = true then (some false) else (r_Simple.j2 k2 l0 (l0.length : Int) x4_1 x5_2))) else (none)) else (none))) else (none)) else (none)) else (none)) else (none))) else (none)) else (none))) = some r := H
       have A20 := am A200
       clear A200
       by_cases c21 : t311 = x4_1
       ·rw [if_pos c21] at H
        have c21b0 : (t311 == x4_1) = true := beq_iff_eq.mpr c21
        have c21b1 : (t311 != x4_1) = false := bne_eq_false_iff_eq.mpr c21
        clear c21
        (first | rw [c21b0] | (simp only [i64_w, i32_w]; rw [c21b0]) | skip)
        have H' := am H
        clear H
        try go_wp2
        have n0_ := am (below_drew1 HB.out)
        clear HB
        have HB := n0_
        clear n0_
        refine start_ (n := 28) (S := fun w' => True) (ds := []) #[F,F,F,F,F,F,F,F,F,F,F,F,F,F,F,F,F,F,F,F,F,F,F,F,F,F,F,F] (by kernel_rfl) rfl rfl trivial (fun hHeld => ?_); refine with_tabW r_Simple.tab10 r_Simple.bits10 (fun HT_ HW_ => ?_)
        generalize wr.drew = w22 at HB hHeld ⊢
        refine pu (i := 0) (N := some 39) (fl 28 1 []) HT_ ?_
        refine pu (i := 1) (N := some 40) (fl 28 2 []) HT_ ?_
        refine pu (i := 3) (N := some 42) (fl 28 2 [3]) HT_ ?_
        refine one_ (i := 2) (N := some 41) (fl 28 4 []) rfl rfl (one_of HT_.out (by kernel_rfl)) (by decide) (fun K hK => ?_)
        refine goes_ Try.func42 (by kernel_rfl) rfl #[.slice (some ad304) l0.length c0, .int .i64 x5_2] (by rfl) rfl rfl (by (try simp only [pml]); first | done | rfl | (simp only [pdt]; rfl)) ?_
        with_reducible refine (r_next.calls _ _ l0 x5_2 t311 _ ?side1 ?side2 A20.out).mono ?_
        (case side1 => repeat (first | exact (Kd.C_below HR0.out HB.out) | (with_reducible refine Kd.C_alloc ?_ _) | (with_reducible refine Kd.C_drewN ?_ _) | (with_reducible refine Kd.C_drew ?_)))
        (case side2 => exact HC0.out)
        rintro e w' ⟨rfl, ⟨nd, rfl⟩⟩
        refine ⟨_, rfl, ?_⟩
        refine hK.out _ _ trivial (fun hHeld => ?_)
        clear hK K
        refine norm_ (a' := ?_) ?_ ?_
        rotate_left
        ·show Act.put _ (some 41) _ = _
         simp only [Act.put, psl, i64_w, i32_w]
         rfl
        refine pu (i := 4) (N := some 43) (fl 28 5 []) HT_ ?_
        refine pu (i := 5) (N := some 44) (fl 28 6 []) HT_ ?_
        refine pure_ (i := 6) (N := some 45) (v := undef) (a' := ?_) #[T,T,T,T,T,T,T,F,F,F,F,F,F,F,F,F,F,F,F,F,F,F,F,F,F,F,F,F] rfl rfl (any_of HT_.out (by kernel_rfl)) (fun _ _ _ h => h) (Or.inr ⟨by rfl, rfl⟩) ?_ ?_
        rotate_left
        ·simp only [Act.put, psl, i64_w, i32_w]
         rfl
        refine pure_ (i := 7) (N := some 46) (v := undef) (a' := ?_) #[T,T,T,T,T,T,T,T,F,F,F,F,F,F,F,F,F,F,F,F,F,F,F,F,F,F,F,F] rfl rfl (any_of HT_.out (by kernel_rfl)) (fun _ _ _ h => h) (Or.inr ⟨by rfl, rfl⟩) ?_ ?_
        rotate_left
        ·simp only [Act.put, psl, i64_w, i32_w]
         rfl
        refine pure_ (i := 8) (N := some 47) (v := undef) (a' := ?_) #[T,T,T,T,T,T,T,T,T,F,F,F,F,F,F,F,F,F,F,F,F,F,F,F,F,F,F,F] rfl rfl (any_of HT_.out (by kernel_rfl)) (fun _ _ _ h => h) (Or.inr ⟨by rfl, rfl⟩) ?_ ?_
        rotate_left
        ·simp only [Act.put, psl, i64_w, i32_w]
         rfl
        refine pure_ (i := 9) (N := some 48) (v := undef) (a' := ?_) #[T,T,T,T,T,T,T,T,T,T,F,F,F,F,F,F,F,F,F,F,F,F,F,F,F,F,F,F] rfl rfl (any_of HT_.out (by kernel_rfl)) (fun _ _ _ h => h) (Or.inr ⟨by rfl, rfl⟩) ?_ ?_
        rotate_left
        ·simp only [Act.put, psl, i64_w, i32_w]
         rfl
        refine pure_ (i := 10) (N := some 49) (v := undef) (a' := ?_) #[T,T,T,T,T,T,T,T,T,T,T,F,F,F,F,F,F,F,F,F,F,F,F,F,F,F,F,F] rfl rfl (any_of HT_.out (by kernel_rfl)) (fun _ _ _ h => h) (Or.inr ⟨by rfl, rfl⟩) ?_ ?_
        rotate_left
        ·simp only [Act.put, psl, i64_w, i32_w]
         rfl
        refine pure_ (i := 11) (N := some 50) (v := undef) (a' := ?_) #[T,T,T,T,T,T,T,T,T,T,T,T,F,F,F,F,F,F,F,F,F,F,F,F,F,F,F,F] rfl rfl (any_of HT_.out (by kernel_rfl)) (fun _ _ _ h => h) (Or.inr ⟨by rfl, rfl⟩) ?_ ?_
        rotate_left
        ·simp only [Act.put, psl, i64_w, i32_w]
         rfl
        refine pure_ (i := 12) (N := some 51) (v := undef) (a' := ?_) #[T,T,T,T,T,T,T,T,T,T,T,T,T,F,F,F,F,F,F,F,F,F,F,F,F,F,F,F] rfl rfl (any_of HT_.out (by kernel_rfl)) (fun _ _ _ h => h) (Or.inr ⟨by rfl, rfl⟩) ?_ ?_
        rotate_left
        ·simp only [Act.put, psl, i64_w, i32_w]
         rfl
        refine pure_ (i := 13) (N := some 52) (v := undef) (a' := ?_) #[T,T,T,T,T,T,T,T,T,T,T,T,T,T,F,F,F,F,F,F,F,F,F,F,F,F,F,F] rfl rfl (any_of HT_.out (by kernel_rfl)) (fun _ _ _ h => h) (Or.inr ⟨by rfl, rfl⟩) ?_ ?_
        rotate_left
        ·simp only [Act.put, psl, i64_w, i32_w]
         rfl
        refine pure_ (i := 14) (N := some 53) (v := undef) (a' := ?_) #[T,T,T,T,T,T,T,T,T,T,T,T,T,T,T,F,F,F,F,F,F,F,F,F,F,F,F,F] rfl rfl (any_of HT_.out (by kernel_rfl)) (fun _ _ _ h => h) (Or.inr ⟨by rfl, rfl⟩) ?_ ?_
        rotate_left
        ·simp only [Act.put, psl, i64_w, i32_w]
         rfl
        refine pure_ (i := 15) (N := some 54) (v := undef) (a' := ?_) #[T,T,T,T,T,T,T,T,T,T,T,T,T,T,T,T,F,F,F,F,F,F,F,F,F,F,F,F] rfl rfl (any_of HT_.out (by kernel_rfl)) (fun _ _ _ h => h) (Or.inr ⟨by rfl, rfl⟩) ?_ ?_
        rotate_left
        ·simp only [Act.put, psl, i64_w, i32_w]
         rfl
        refine pure_ (i := 16) (N := some 55) (v := undef) (a' := ?_) #[T,T,T,T,T,T,T,T,T,T,T,T,T,T,T,T,T,F,F,F,F,F,F,F,F,F,F,F] rfl rfl (any_of HT_.out (by kernel_rfl)) (fun _ _ _ h => h) (Or.inr ⟨by rfl, rfl⟩) ?_ ?_
        rotate_left
        ·simp only [Act.put, psl, i64_w, i32_w]
         rfl
        refine pure_ (i := 17) (N := some 56) (v := undef) (a' := ?_) #[T,T,T,T,T,T,T,T,T,T,T,T,T,T,T,T,T,T,F,F,F,F,F,F,F,F,F,F] rfl rfl (any_of HT_.out (by kernel_rfl)) (fun _ _ _ h => h) (Or.inr ⟨by rfl, rfl⟩) ?_ ?_
        rotate_left
        ·simp only [Act.put, psl, i64_w, i32_w]
         rfl
        refine pure_ (i := 18) (N := some 57) (v := undef) (a' := ?_) #[T,T,T,T,T,T,T,T,T,T,T,T,T,T,T,T,T,T,T,F,F,F,F,F,F,F,F,F] rfl rfl (any_of HT_.out (by kernel_rfl)) (fun _ _ _ h => h) (Or.inr ⟨by rfl, rfl⟩) ?_ ?_
        rotate_left
        ·simp only [Act.put, psl, i64_w, i32_w]
         rfl
        refine pure_ (i := 19) (N := some 58) (v := undef) (a' := ?_) #[T,T,T,T,T,T,T,T,T,T,T,T,T,T,T,T,T,T,T,T,F,F,F,F,F,F,F,F] rfl rfl (any_of HT_.out (by kernel_rfl)) (fun _ _ _ h => h) (Or.inr ⟨by rfl, rfl⟩) ?_ ?_
        rotate_left
        ·simp only [Act.put, psl, i64_w, i32_w]
         rfl
        refine pure_ (i := 20) (N := some 59) (v := undef) (a' := ?_) #[T,T,T,T,T,T,T,T,T,T,T,T,T,T,T,T,T,T,T,T,T,F,F,F,F,F,F,F] rfl rfl (any_of HT_.out (by kernel_rfl)) (fun _ _ _ h => h) (Or.inr ⟨by rfl, rfl⟩) ?_ ?_
        rotate_left
        ·simp only [Act.put, psl, i64_w, i32_w]
         rfl
        refine pure_ (i := 21) (N := some 60) (v := undef) (a' := ?_) #[T,T,T,T,T,T,T,T,T,T,T,T,T,T,T,T,T,T,T,T,T,T,F,F,F,F,F,F] rfl rfl (any_of HT_.out (by kernel_rfl)) (fun _ _ _ h => h) (Or.inr ⟨by rfl, rfl⟩) ?_ ?_
        rotate_left
        ·simp only [Act.put, psl, i64_w, i32_w]
         rfl
        refine pure_ (i := 22) (N := some 61) (v := undef) (a' := ?_) #[T,T,T,T,T,T,T,T,T,T,T,T,T,T,T,T,T,T,T,T,T,T,T,F,F,F,F,F] rfl rfl (any_of HT_.out (by kernel_rfl)) (fun _ _ _ h => h) (Or.inr ⟨by rfl, rfl⟩) ?_ ?_
        rotate_left
        ·simp only [Act.put, psl, i64_w, i32_w]
         rfl
        refine pure_ (i := 23) (N := some 62) (v := undef) (a' := ?_) #[T,T,T,T,T,T,T,T,T,T,T,T,T,T,T,T,T,T,T,T,T,T,T,T,F,F,F,F] rfl rfl (any_of HT_.out (by kernel_rfl)) (fun _ _ _ h => h) (Or.inr ⟨by rfl, rfl⟩) ?_ ?_
        rotate_left
        ·simp only [Act.put, psl, i64_w, i32_w]
         rfl
        refine pure_ (i := 24) (N := some 63) (v := undef) (a' := ?_) #[T,T,T,T,T,T,T,T,T,T,T,T,T,T,T,T,T,T,T,T,T,T,T,T,T,F,F,F] rfl rfl (any_of HT_.out (by kernel_rfl)) (fun _ _ _ h => h) (Or.inr ⟨by rfl, rfl⟩) ?_ ?_
        rotate_left
        ·simp only [Act.put, psl, i64_w, i32_w]
         rfl
        refine pure_ (i := 25) (N := some 64) (v := undef) (a' := ?_) #[T,T,T,T,T,T,T,T,T,T,T,T,T,T,T,T,T,T,T,T,T,T,T,T,T,T,F,F] rfl rfl (any_of HT_.out (by kernel_rfl)) (fun _ _ _ h => h) (Or.inr ⟨by rfl, rfl⟩) ?_ ?_
        rotate_left
        ·simp only [Act.put, psl, i64_w, i32_w]
         rfl
        refine pure_ (i := 26) (N := some 65) (v := undef) (a' := ?_) #[T,T,T,T,T,T,T,T,T,T,T,T,T,T,T,T,T,T,T,T,T,T,T,T,T,T,T,F] rfl rfl (any_of HT_.out (by kernel_rfl)) (fun _ _ _ h => h) (Or.inr ⟨by rfl, rfl⟩) ?_ ?_
        rotate_left
        ·simp only [Act.put, psl, i64_w, i32_w]
         rfl
        refine pu (i := 27) (N := some 66) (fl 28 28 []) HT_ ?_
        refine done_ (done_of HT_.out (by kernel_rfl)) ?_
        try go_wp2
        go_meet
        case rel => exact ⟨_, H', ⟨by have := HK1.out; have := HK2.out; first | omega | exact Nat.le_refl _⟩, ⟨fW HB.out⟩⟩
       rw [if_neg c21] at H
       have c21b0 : (t311 == x4_1) = false := beq_eq_false_iff_ne.mpr c21
       have c21b1 : (t311 != x4_1) = true := bne_iff_ne.mpr c21
       (first | rw [c21b0] | (simp only [i64_w, i32_w]; rw [c21b0]) | skip)
       by_cases c23 : 0 ≤ x4_1
       rotate_left
       ·rw [if_neg c23] at H
        exact absurd H (by simp)
       rw [if_pos c23] at H
       have c23b0 : decide (0 ≤ x4_1) = true := decide_eq_true c23
       clear c23
       by_cases c24 : x4_1 < (l0.length : Int)
       rotate_left
       ·rw [if_neg c24] at H
        exact absurd H (by simp)
       rw [if_pos c24] at H
       have c24b0 : decide (x4_1 < (l0.length : Int)) = true := decide_eq_true c24
       clear c24
       replace H := Option.bind_eq_some_iff.mp H
       obtain ⟨t313, A250, H⟩ := H
       replace H : (if 0 ≤ t313 then (if t313 < (l0.length : Int) then (if 0 ≤ x5_2 then (if x5_2 < (l0.length : Int) then ((r_next.f l0 x5_2).bind fun t316 => (if 0 ≤ t316 then (if t316 < (l0.length : Int) then ((r_meet.f k2 ((rd_T23 l0 x4_1).f0) ((rd_T23 l0 x4_1).f1) ((rd_T23 l0 t313).f0) ((rd_T23 l0 t313).f1) ((rd_T23 l0 x5_2).f0) ((rd_T23 l0 x5_2).f1) ((rd_T23 l0 t316).f0) ((rd_T23 l0 t316).f1)).bind fun t318 => (if t318 = true then (some false) else (r_Simple.j2 k2 l0 (l0.length : Int) x4_1 x5_2))) else (none)) else (none))) else (none)) else (none)) else (none)) else (none)) = some r := H
       have A25 := am A250
       clear A250
       by_cases c26 : 0 ≤ t313
       rotate_left
       ·rw [if_neg c26] at H
        exact absurd H (by simp)
       rw [if_pos c26] at H
       have c26b0 : decide (0 ≤ t313) = true := decide_eq_true c26
       clear c26
       by_cases c27 : t313 < (l0.length : Int)
       rotate_left
       ·rw [if_neg c27] at H
        exact absurd H (by simp)
       rw [if_pos c27] at H
       have c27b0 : decide (t313 < (l0.length : Int)) = true := decide_eq_true c27
       clear c27
       by_cases c28 : 0 ≤ x5_2
       rotate_left
       ·rw [if_neg c28] at H
        exact absurd H (by simp)
       rw [if_pos c28] at H
       have c28b0 : decide (0 ≤ x5_2) = true := decide_eq_true c28
       clear c28
       by_cases c29 : x5_2 < (l0.length : Int)
       rotate_left
       ·rw [if_neg c29] at H
        exact absurd H (by simp)
       rw [if_pos c29] at H
       have c29b0 : decide (x5_2 < (l0.length : Int)) = true := decide_eq_true c29
       clear c29
       replace H := Option.bind_eq_some_iff.mp H
       obtain ⟨t316, A300, H⟩ := H
       replace H : (if 0 ≤ t316 then (if t316 < (l0.length : Int) then ((r_meet.f k2 ((rd_T23 l0 x4_1).f0) ((rd_T23 l0 x4_1).f1) ((rd_T23 l0 t313).f0) ((rd_T23 l0 t313).f1) ((rd_T23 l0 x5_2).f0) ((rd_T23 l0 x5_2).f1) ((rd_T23 l0 t316).f0) ((rd_T23 l0 t316).f1)).bind fun t318 => (if t318 = true then (some false) else (r_Simple.j2 k2 l0 (l0.length : Int) x4_1 x5_2))) else (none)) else (none)) = some r := H
       have A30 := am A300
       clear A300
       by_cases c31 : 0 ≤ t316
       rotate_left
       ·rw [if_neg c31] at H
        exact absurd H (by simp)
       rw [if_pos c31] at H
       have c31b0 : decide (0 ≤ t316) = true := decide_eq_true c31
       clear c31
       by_cases c32 : t316 < (l0.length : Int)
       rotate_left
       ·rw [if_neg c32] at H
        exact absurd H (by simp)
       rw [if_pos c32] at H
       have c32b0 : decide (t316 < (l0.length : Int)) = true := decide_eq_true c32
       clear c32
       replace H := Option.bind_eq_some_iff.mp H
       obtain ⟨t318, A330, H⟩ := H
       replace H : (if t318 = true then (some false) else (r_Simple.j2 k2 l0 (l0.length : Int) x4_1 x5_2)) = some r := H
       have A33 := am A330
       clear A330
       by_cases c34 : t318 = true
       ·subst c34
        have H1 : (some false) = some r := by rw [if_pos rfl] at H; exact H
        clear H
        have H := H1
        clear H1
        obtain rfl := Option.some.inj H
        try go_wp2
        have n0_ := am (below_drew1 HB.out)
        clear HB
        have HB := n0_
        clear n0_
        have p312 : 0 ≤ (x4_1 : Int) := of_decide_eq_true (by assumption)
        have q312 : x4_1 < (l0.length : Int) := of_decide_eq_true (by assumption)
        obtain ⟨ad312, e312, hx312_0, hx312_1⟩ := at_T23 HR0.out x4_1 p312 q312
        have hw312_1 := hx312_1
        have hw312_0 := hx312_0
        obtain rfl : ad304 = ad312 := (by injection e312)
        replace hx312_0 := cl HB hx312_0
        replace hx312_1 := cl HB hx312_1
        replace p312 := eq_true p312
        replace q312 := eq_true q312
        have p314 : 0 ≤ (t313 : Int) := of_decide_eq_true (by assumption)
        have q314 : t313 < (l0.length : Int) := of_decide_eq_true (by assumption)
        obtain ⟨ad314, e314, hx314_0, hx314_1⟩ := at_T23 HR0.out t313 p314 q314
        have hw314_1 := hx314_1
        have hw314_0 := hx314_0
        obtain rfl : ad304 = ad314 := (by injection e314)
        replace hx314_0 := cl HB hx314_0
        replace hx314_1 := cl HB hx314_1
        replace p314 := eq_true p314
        replace q314 := eq_true q314
        have p315 : 0 ≤ (x5_2 : Int) := of_decide_eq_true (by assumption)
        have q315 : x5_2 < (l0.length : Int) := of_decide_eq_true (by assumption)
        obtain ⟨ad315, e315, hx315_0, hx315_1⟩ := at_T23 HR0.out x5_2 p315 q315
        have hw315_1 := hx315_1
        have hw315_0 := hx315_0
        obtain rfl : ad304 = ad315 := (by injection e315)
        replace hx315_0 := cl HB hx315_0
        replace hx315_1 := cl HB hx315_1
        replace p315 := eq_true p315
        replace q315 := eq_true q315
        have p317 : 0 ≤ (t316 : Int) := of_decide_eq_true (by assumption)
        have q317 : t316 < (l0.length : Int) := of_decide_eq_true (by assumption)
        obtain ⟨ad317, e317, hx317_0, hx317_1⟩ := at_T23 HR0.out t316 p317 q317
        have hw317_1 := hx317_1
        have hw317_0 := hx317_0
        obtain rfl : ad304 = ad317 := (by injection e317)
        replace hx317_0 := cl HB hx317_0
        replace hx317_1 := cl HB hx317_1
        replace p317 := eq_true p317
        replace q317 := eq_true q317
        refine start_ (n := 28) (S := fun w' => w'.cell? (ad304.add ((x4_1).toNat * 2)) = some (.int .i64 ((rd_T23 l0 x4_1).f0)) ∧ w'.cell? ⟨(ad304.add ((x4_1).toNat * 2)).block, (ad304.add ((x4_1).toNat * 2)).off + 1, none⟩ = some (.int .i64 ((rd_T23 l0 x4_1).f1)) ∧ w'.cell? (ad304.add ((t313).toNat * 2)) = some (.int .i64 ((rd_T23 l0 t313).f0)) ∧ w'.cell? ⟨(ad304.add ((t313).toNat * 2)).block, (ad304.add ((t313).toNat * 2)).off + 1, none⟩ = some (.int .i64 ((rd_T23 l0 t313).f1)) ∧ w'.cell? (ad304.add ((x5_2).toNat * 2)) = some (.int .i64 ((rd_T23 l0 x5_2).f0)) ∧ w'.cell? ⟨(ad304.add ((x5_2).toNat * 2)).block, (ad304.add ((x5_2).toNat * 2)).off + 1, none⟩ = some (.int .i64 ((rd_T23 l0 x5_2).f1)) ∧ w'.cell? (ad304.add ((t316).toNat * 2)) = some (.int .i64 ((rd_T23 l0 t316).f0)) ∧ w'.cell? ⟨(ad304.add ((t316).toNat * 2)).block, (ad304.add ((t316).toNat * 2)).off + 1, none⟩ = some (.int .i64 ((rd_T23 l0 t316).f1))) (ds := []) #[F,F,F,F,F,F,F,F,F,F,F,F,F,F,F,F,F,F,F,F,F,F,F,F,F,F,F,F] (by kernel_rfl) rfl rfl ⟨((HB.out.cell (bq w _ hw312_0)).trans hw312_0), ((HB.out.cell (bq w _ hw312_1)).trans hw312_1), ((HB.out.cell (bq w _ hw314_0)).trans hw314_0), ((HB.out.cell (bq w _ hw314_1)).trans hw314_1), ((HB.out.cell (bq w _ hw315_0)).trans hw315_0), ((HB.out.cell (bq w _ hw315_1)).trans hw315_1), ((HB.out.cell (bq w _ hw317_0)).trans hw317_0), ((HB.out.cell (bq w _ hw317_1)).trans hw317_1)⟩ (fun hHeld => ?_); refine with_tabW r_Simple.tab10 r_Simple.bits10 (fun HT_ HW_ => ?_)
        generalize wr.drew = w35 at HB hx312_0 hx312_1 hx314_0 hx314_1 hx315_0 hx315_1 hx317_0 hx317_1 hHeld ⊢
        refine pu (i := 0) (N := some 39) (fl 28 1 []) HT_ ?_
        refine pu (i := 1) (N := some 40) (fl 28 2 []) HT_ ?_
        refine pu (i := 3) (N := some 42) (fl 28 2 [3]) HT_ ?_
        refine one_ (i := 2) (N := some 41) (fl 28 4 []) rfl rfl (one_of HT_.out (by kernel_rfl)) (by decide) (fun K hK => ?_)
        refine goes_ Try.func42 (by kernel_rfl) rfl #[.slice (some ad304) l0.length c0, .int .i64 x5_2] (by rfl) rfl rfl (by (try simp only [pml]); first | done | rfl | (simp only [pdt]; rfl)) ?_
        with_reducible refine (r_next.calls _ _ l0 x5_2 t311 _ ?side1 ?side2 A20.out).mono ?_
        (case side1 => repeat (first | exact (Kd.C_below HR0.out HB.out) | (with_reducible refine Kd.C_alloc ?_ _) | (with_reducible refine Kd.C_drewN ?_ _) | (with_reducible refine Kd.C_drew ?_)))
        (case side2 => exact HC0.out)
        rintro e w' ⟨rfl, ⟨nd, rfl⟩⟩
        refine ⟨_, rfl, ?_⟩
        refine hK.out _ _ ⟨((HB.out.cell (bq w _ hw312_0)).trans hw312_0), ((HB.out.cell (bq w _ hw312_1)).trans hw312_1), ((HB.out.cell (bq w _ hw314_0)).trans hw314_0), ((HB.out.cell (bq w _ hw314_1)).trans hw314_1), ((HB.out.cell (bq w _ hw315_0)).trans hw315_0), ((HB.out.cell (bq w _ hw315_1)).trans hw315_1), ((HB.out.cell (bq w _ hw317_0)).trans hw317_0), ((HB.out.cell (bq w _ hw317_1)).trans hw317_1)⟩ (fun hHeld => ?_)
        clear hK K
        refine norm_ (a' := ?_) ?_ ?_
        rotate_left
        ·show Act.put _ (some 41) _ = _
         simp only [Act.put, psl, i64_w, i32_w]
         rfl
        refine pu (i := 4) (N := some 43) (fl 28 5 []) HT_ ?_
        refine pu (i := 5) (N := some 44) (fl 28 6 []) HT_ ?_
        refine pu (i := 6) (N := some 45) (fl 28 7 []) HT_ ?_
        refine pu (i := 7) (N := some 46) (fl 28 8 []) HT_ ?_
        refine pu (i := 8) (N := some 47) (fl 28 9 []) HT_ ?_
        refine pu (i := 10) (N := some 49) (fl 28 9 [10]) HT_ ?_
        refine pu (i := 11) (N := some 50) (fl 28 9 [10, 11]) HT_ ?_
        refine pu (i := 12) (N := some 51) (fl 28 9 [10, 11, 12]) HT_ ?_
        refine pu (i := 16) (N := some 55) (fl 28 9 [10, 11, 12, 16]) HT_ ?_
        refine pu (i := 17) (N := some 56) (fl 28 9 [10, 11, 12, 16, 17]) HT_ ?_
        refine pu (i := 18) (N := some 57) (fl 28 9 [10, 11, 12, 16, 17, 18]) HT_ ?_
        refine pu (i := 20) (N := some 59) (fl 28 9 [10, 11, 12, 16, 17, 18, 20]) HT_ ?_
        refine pu (i := 21) (N := some 60) (fl 28 9 [10, 11, 12, 16, 17, 18, 20, 21]) HT_ ?_
        refine pu (i := 22) (N := some 61) (fl 28 9 [10, 11, 12, 16, 17, 18, 20, 21, 22]) HT_ ?_
        refine tk (i := 9) (N := some 48) (fl 28 13 [16, 17, 18, 20, 21, 22]) HT_ HW_ hHeld ?_
        refine tk (i := 19) (N := some 58) (fl 28 13 [16, 17, 18, 19, 20, 21, 22]) HT_ HW_ hHeld ?_
        refine one_ (i := 13) (N := some 52) (fl 28 14 [16, 17, 18, 19, 20, 21, 22]) rfl rfl (one_of HT_.out (by kernel_rfl)) (by decide) (fun K hK => ?_)
        refine goes_ Try.func42 (by kernel_rfl) rfl #[.slice (some ad304) l0.length c0, .int .i64 x4_1] (by rfl) rfl rfl (by (try simp only [pml]); first | done | rfl | (simp only [pdt]; rfl)) ?_
        with_reducible refine (r_next.calls _ _ l0 x4_1 t313 _ ?side1 ?side2 A25.out).mono ?_
        (case side1 => repeat (first | exact (Kd.C_below HR0.out (fW HB.out)) | (with_reducible refine Kd.C_alloc ?_ _) | (with_reducible refine Kd.C_drewN ?_ _) | (with_reducible refine Kd.C_drew ?_)))
        (case side2 => exact HC0.out)
        rintro e w' ⟨rfl, ⟨nd, rfl⟩⟩
        refine ⟨_, rfl, ?_⟩
        refine hK.out _ _ ⟨((HB.out.cell (bq w _ hw312_0)).trans hw312_0), ((HB.out.cell (bq w _ hw312_1)).trans hw312_1), ((HB.out.cell (bq w _ hw314_0)).trans hw314_0), ((HB.out.cell (bq w _ hw314_1)).trans hw314_1), ((HB.out.cell (bq w _ hw315_0)).trans hw315_0), ((HB.out.cell (bq w _ hw315_1)).trans hw315_1), ((HB.out.cell (bq w _ hw317_0)).trans hw317_0), ((HB.out.cell (bq w _ hw317_1)).trans hw317_1)⟩ (fun hHeld => ?_)
        clear hK K
        refine norm_ (a' := ?_) ?_ ?_
        rotate_left
        ·show Act.put _ (some 52) _ = _
         simp only [Act.put, psl, i64_w, i32_w]
         rfl
        refine pu (i := 14) (N := some 53) (fl 28 15 [16, 17, 18, 19, 20, 21, 22]) HT_ ?_
        refine tk (i := 15) (N := some 54) (fl 28 23 []) HT_ HW_ hHeld ?_
        refine one_ (i := 23) (N := some 62) (fl 28 24 []) rfl rfl (one_of HT_.out (by kernel_rfl)) (by decide) (fun K hK => ?_)
        refine goes_ Try.func42 (by kernel_rfl) rfl #[.slice (some ad304) l0.length c0, .int .i64 x5_2] (by rfl) rfl rfl (by (try simp only [pml]); first | done | rfl | (simp only [pdt]; rfl)) ?_
        with_reducible refine (r_next.calls _ _ l0 x5_2 t316 _ ?side1 ?side2 A30.out).mono ?_
        (case side1 => repeat (first | exact (Kd.C_below HR0.out (fW HB.out)) | (with_reducible refine Kd.C_alloc ?_ _) | (with_reducible refine Kd.C_drewN ?_ _) | (with_reducible refine Kd.C_drew ?_)))
        (case side2 => exact HC0.out)
        rintro e w' ⟨rfl, ⟨nd, rfl⟩⟩
        refine ⟨_, rfl, ?_⟩
        refine hK.out _ _ ⟨((HB.out.cell (bq w _ hw312_0)).trans hw312_0), ((HB.out.cell (bq w _ hw312_1)).trans hw312_1), ((HB.out.cell (bq w _ hw314_0)).trans hw314_0), ((HB.out.cell (bq w _ hw314_1)).trans hw314_1), ((HB.out.cell (bq w _ hw315_0)).trans hw315_0), ((HB.out.cell (bq w _ hw315_1)).trans hw315_1), ((HB.out.cell (bq w _ hw317_0)).trans hw317_0), ((HB.out.cell (bq w _ hw317_1)).trans hw317_1)⟩ (fun hHeld => ?_)
        clear hK K
        refine norm_ (a' := ?_) ?_ ?_
        rotate_left
        ·show Act.put _ (some 62) _ = _
         simp only [Act.put, psl, i64_w, i32_w]
         rfl
        refine pu (i := 24) (N := some 63) (fl 28 25 []) HT_ ?_
        refine tk (i := 25) (N := some 64) (fl 28 26 []) HT_ HW_ hHeld ?_
        refine one_ (i := 26) (N := some 65) (fl 28 27 []) rfl rfl (one_of HT_.out (by kernel_rfl)) (by decide) (fun K hK => ?_)
        refine goes_ Try.func44 (by kernel_rfl) rfl #[.agg #[.int .i64 ((rd_T23 l0 x4_1).f0), .int .i64 ((rd_T23 l0 x4_1).f1)], .agg #[.int .i64 ((rd_T23 l0 t313).f0), .int .i64 ((rd_T23 l0 t313).f1)], .agg #[.int .i64 ((rd_T23 l0 x5_2).f0), .int .i64 ((rd_T23 l0 x5_2).f1)], .agg #[.int .i64 ((rd_T23 l0 t316).f0), .int .i64 ((rd_T23 l0 t316).f1)]] (by rfl) rfl rfl (by (try simp only [pml]); first | done | rfl | (simp only [pdt]; rfl)) ?_
        with_reducible refine (r_meet.calls k2 ((rd_T23 l0 x4_1).f0) ((rd_T23 l0 x4_1).f1) ((rd_T23 l0 t313).f0) ((rd_T23 l0 t313).f1) ((rd_T23 l0 x5_2).f0) ((rd_T23 l0 x5_2).f1) ((rd_T23 l0 t316).f0) ((rd_T23 l0 t316).f1) true _ A33.out).mono ?_
        rintro e w36 ⟨rfl, hb⟩
        refine ⟨_, rfl, ?_⟩
        have n0_ := bS HB hb
        clear HB
        have HB := n0_
        clear n0_
        (try clear hb)
        (try clear hb2)
        (try clear hk)
        (try clear hi)
        refine hK.out _ _ ⟨((HB.out.cell (bq w _ hw312_0)).trans hw312_0), ((HB.out.cell (bq w _ hw312_1)).trans hw312_1), ((HB.out.cell (bq w _ hw314_0)).trans hw314_0), ((HB.out.cell (bq w _ hw314_1)).trans hw314_1), ((HB.out.cell (bq w _ hw315_0)).trans hw315_0), ((HB.out.cell (bq w _ hw315_1)).trans hw315_1), ((HB.out.cell (bq w _ hw317_0)).trans hw317_0), ((HB.out.cell (bq w _ hw317_1)).trans hw317_1)⟩ (fun hHeld => ?_)
        clear hK K
        refine norm_ (a' := ?_) ?_ ?_
        rotate_left
        ·show Act.put _ (some 65) _ = _
         simp only [Act.put, psl, i64_w, i32_w]
         rfl
        refine pu (i := 27) (N := some 66) (fl 28 28 []) HT_ ?_
        refine done_ (done_of HT_.out (by kernel_rfl)) ?_
        try go_wp2
        go_ret
        exact ⟨sqE, fW HB.out⟩
       replace c34 := Bool.eq_false_iff.mpr c34
       subst c34
       have H1 : (r_Simple.j2 k2 l0 (l0.length : Int) x4_1 x5_2) = some r := by rw [if_neg (show ¬ (false = true) by decide)] at H; exact H
       clear H
       have H := H1
       clear H1
       have H' := am H
       clear H
       try go_wp2
       have n0_ := am (below_drew1 HB.out)
       clear HB
       have HB := n0_
       clear n0_
       have p312 : 0 ≤ (x4_1 : Int) := of_decide_eq_true (by assumption)
       have q312 : x4_1 < (l0.length : Int) := of_decide_eq_true (by assumption)
       obtain ⟨ad312, e312, hx312_0, hx312_1⟩ := at_T23 HR0.out x4_1 p312 q312
       have hw312_1 := hx312_1
       have hw312_0 := hx312_0
       obtain rfl : ad304 = ad312 := (by injection e312)
       replace hx312_0 := cl HB hx312_0
       replace hx312_1 := cl HB hx312_1
       replace p312 := eq_true p312
       replace q312 := eq_true q312
       have p314 : 0 ≤ (t313 : Int) := of_decide_eq_true (by assumption)
       have q314 : t313 < (l0.length : Int) := of_decide_eq_true (by assumption)
       obtain ⟨ad314, e314, hx314_0, hx314_1⟩ := at_T23 HR0.out t313 p314 q314
       have hw314_1 := hx314_1
       have hw314_0 := hx314_0
       obtain rfl : ad304 = ad314 := (by injection e314)
       replace hx314_0 := cl HB hx314_0
       replace hx314_1 := cl HB hx314_1
       replace p314 := eq_true p314
       replace q314 := eq_true q314
       have p315 : 0 ≤ (x5_2 : Int) := of_decide_eq_true (by assumption)
       have q315 : x5_2 < (l0.length : Int) := of_decide_eq_true (by assumption)
       obtain ⟨ad315, e315, hx315_0, hx315_1⟩ := at_T23 HR0.out x5_2 p315 q315
       have hw315_1 := hx315_1
       have hw315_0 := hx315_0
       obtain rfl : ad304 = ad315 := (by injection e315)
       replace hx315_0 := cl HB hx315_0
       replace hx315_1 := cl HB hx315_1
       replace p315 := eq_true p315
       replace q315 := eq_true q315
       have p317 : 0 ≤ (t316 : Int) := of_decide_eq_true (by assumption)
       have q317 : t316 < (l0.length : Int) := of_decide_eq_true (by assumption)
       obtain ⟨ad317, e317, hx317_0, hx317_1⟩ := at_T23 HR0.out t316 p317 q317
       have hw317_1 := hx317_1
       have hw317_0 := hx317_0
       obtain rfl : ad304 = ad317 := (by injection e317)
       replace hx317_0 := cl HB hx317_0
       replace hx317_1 := cl HB hx317_1
       replace p317 := eq_true p317
       replace q317 := eq_true q317
       refine start_ (n := 28) (S := fun w' => w'.cell? (ad304.add ((x4_1).toNat * 2)) = some (.int .i64 ((rd_T23 l0 x4_1).f0)) ∧ w'.cell? ⟨(ad304.add ((x4_1).toNat * 2)).block, (ad304.add ((x4_1).toNat * 2)).off + 1, none⟩ = some (.int .i64 ((rd_T23 l0 x4_1).f1)) ∧ w'.cell? (ad304.add ((t313).toNat * 2)) = some (.int .i64 ((rd_T23 l0 t313).f0)) ∧ w'.cell? ⟨(ad304.add ((t313).toNat * 2)).block, (ad304.add ((t313).toNat * 2)).off + 1, none⟩ = some (.int .i64 ((rd_T23 l0 t313).f1)) ∧ w'.cell? (ad304.add ((x5_2).toNat * 2)) = some (.int .i64 ((rd_T23 l0 x5_2).f0)) ∧ w'.cell? ⟨(ad304.add ((x5_2).toNat * 2)).block, (ad304.add ((x5_2).toNat * 2)).off + 1, none⟩ = some (.int .i64 ((rd_T23 l0 x5_2).f1)) ∧ w'.cell? (ad304.add ((t316).toNat * 2)) = some (.int .i64 ((rd_T23 l0 t316).f0)) ∧ w'.cell? ⟨(ad304.add ((t316).toNat * 2)).block, (ad304.add ((t316).toNat * 2)).off + 1, none⟩ = some (.int .i64 ((rd_T23 l0 t316).f1))) (ds := []) #[F,F,F,F,F,F,F,F,F,F,F,F,F,F,F,F,F,F,F,F,F,F,F,F,F,F,F,F] (by kernel_rfl) rfl rfl ⟨((HB.out.cell (bq w _ hw312_0)).trans hw312_0), ((HB.out.cell (bq w _ hw312_1)).trans hw312_1), ((HB.out.cell (bq w _ hw314_0)).trans hw314_0), ((HB.out.cell (bq w _ hw314_1)).trans hw314_1), ((HB.out.cell (bq w _ hw315_0)).trans hw315_0), ((HB.out.cell (bq w _ hw315_1)).trans hw315_1), ((HB.out.cell (bq w _ hw317_0)).trans hw317_0), ((HB.out.cell (bq w _ hw317_1)).trans hw317_1)⟩ (fun hHeld => ?_); refine with_tabW r_Simple.tab10 r_Simple.bits10 (fun HT_ HW_ => ?_)
       generalize wr.drew = w37 at HB hx312_0 hx312_1 hx314_0 hx314_1 hx315_0 hx315_1 hx317_0 hx317_1 hHeld ⊢
       refine pu (i := 0) (N := some 39) (fl 28 1 []) HT_ ?_
       refine pu (i := 1) (N := some 40) (fl 28 2 []) HT_ ?_
       refine pu (i := 3) (N := some 42) (fl 28 2 [3]) HT_ ?_
       refine one_ (i := 2) (N := some 41) (fl 28 4 []) rfl rfl (one_of HT_.out (by kernel_rfl)) (by decide) (fun K hK => ?_)
       refine goes_ Try.func42 (by kernel_rfl) rfl #[.slice (some ad304) l0.length c0, .int .i64 x5_2] (by rfl) rfl rfl (by (try simp only [pml]); first | done | rfl | (simp only [pdt]; rfl)) ?_
       with_reducible refine (r_next.calls _ _ l0 x5_2 t311 _ ?side1 ?side2 A20.out).mono ?_
       (case side1 => repeat (first | exact (Kd.C_below HR0.out HB.out) | (with_reducible refine Kd.C_alloc ?_ _) | (with_reducible refine Kd.C_drewN ?_ _) | (with_reducible refine Kd.C_drew ?_)))
       (case side2 => exact HC0.out)
       rintro e w' ⟨rfl, ⟨nd, rfl⟩⟩
       refine ⟨_, rfl, ?_⟩
       refine hK.out _ _ ⟨((HB.out.cell (bq w _ hw312_0)).trans hw312_0), ((HB.out.cell (bq w _ hw312_1)).trans hw312_1), ((HB.out.cell (bq w _ hw314_0)).trans hw314_0), ((HB.out.cell (bq w _ hw314_1)).trans hw314_1), ((HB.out.cell (bq w _ hw315_0)).trans hw315_0), ((HB.out.cell (bq w _ hw315_1)).trans hw315_1), ((HB.out.cell (bq w _ hw317_0)).trans hw317_0), ((HB.out.cell (bq w _ hw317_1)).trans hw317_1)⟩ (fun hHeld => ?_)
       clear hK K
       refine norm_ (a' := ?_) ?_ ?_
       rotate_left
       ·show Act.put _ (some 41) _ = _
        simp only [Act.put, psl, i64_w, i32_w]
        rfl
       refine pu (i := 4) (N := some 43) (fl 28 5 []) HT_ ?_
       refine pu (i := 5) (N := some 44) (fl 28 6 []) HT_ ?_
       refine pu (i := 6) (N := some 45) (fl 28 7 []) HT_ ?_
       refine pu (i := 7) (N := some 46) (fl 28 8 []) HT_ ?_
       refine pu (i := 8) (N := some 47) (fl 28 9 []) HT_ ?_
       refine pu (i := 10) (N := some 49) (fl 28 9 [10]) HT_ ?_
       refine pu (i := 11) (N := some 50) (fl 28 9 [10, 11]) HT_ ?_
       refine pu (i := 12) (N := some 51) (fl 28 9 [10, 11, 12]) HT_ ?_
       refine pu (i := 16) (N := some 55) (fl 28 9 [10, 11, 12, 16]) HT_ ?_
       refine pu (i := 17) (N := some 56) (fl 28 9 [10, 11, 12, 16, 17]) HT_ ?_
       refine pu (i := 18) (N := some 57) (fl 28 9 [10, 11, 12, 16, 17, 18]) HT_ ?_
       refine pu (i := 20) (N := some 59) (fl 28 9 [10, 11, 12, 16, 17, 18, 20]) HT_ ?_
       refine pu (i := 21) (N := some 60) (fl 28 9 [10, 11, 12, 16, 17, 18, 20, 21]) HT_ ?_
       refine pu (i := 22) (N := some 61) (fl 28 9 [10, 11, 12, 16, 17, 18, 20, 21, 22]) HT_ ?_
       refine tk (i := 9) (N := some 48) (fl 28 13 [16, 17, 18, 20, 21, 22]) HT_ HW_ hHeld ?_
       refine tk (i := 19) (N := some 58) (fl 28 13 [16, 17, 18, 19, 20, 21, 22]) HT_ HW_ hHeld ?_
       refine one_ (i := 13) (N := some 52) (fl 28 14 [16, 17, 18, 19, 20, 21, 22]) rfl rfl (one_of HT_.out (by kernel_rfl)) (by decide) (fun K hK => ?_)
       refine goes_ Try.func42 (by kernel_rfl) rfl #[.slice (some ad304) l0.length c0, .int .i64 x4_1] (by rfl) rfl rfl (by (try simp only [pml]); first | done | rfl | (simp only [pdt]; rfl)) ?_
       with_reducible refine (r_next.calls _ _ l0 x4_1 t313 _ ?side1 ?side2 A25.out).mono ?_
       (case side1 => repeat (first | exact (Kd.C_below HR0.out (fW HB.out)) | (with_reducible refine Kd.C_alloc ?_ _) | (with_reducible refine Kd.C_drewN ?_ _) | (with_reducible refine Kd.C_drew ?_)))
       (case side2 => exact HC0.out)
       rintro e w' ⟨rfl, ⟨nd, rfl⟩⟩
       refine ⟨_, rfl, ?_⟩
       refine hK.out _ _ ⟨((HB.out.cell (bq w _ hw312_0)).trans hw312_0), ((HB.out.cell (bq w _ hw312_1)).trans hw312_1), ((HB.out.cell (bq w _ hw314_0)).trans hw314_0), ((HB.out.cell (bq w _ hw314_1)).trans hw314_1), ((HB.out.cell (bq w _ hw315_0)).trans hw315_0), ((HB.out.cell (bq w _ hw315_1)).trans hw315_1), ((HB.out.cell (bq w _ hw317_0)).trans hw317_0), ((HB.out.cell (bq w _ hw317_1)).trans hw317_1)⟩ (fun hHeld => ?_)
       clear hK K
       refine norm_ (a' := ?_) ?_ ?_
       rotate_left
       ·show Act.put _ (some 52) _ = _
        simp only [Act.put, psl, i64_w, i32_w]
        rfl
       refine pu (i := 14) (N := some 53) (fl 28 15 [16, 17, 18, 19, 20, 21, 22]) HT_ ?_
       refine tk (i := 15) (N := some 54) (fl 28 23 []) HT_ HW_ hHeld ?_
       refine one_ (i := 23) (N := some 62) (fl 28 24 []) rfl rfl (one_of HT_.out (by kernel_rfl)) (by decide) (fun K hK => ?_)
       refine goes_ Try.func42 (by kernel_rfl) rfl #[.slice (some ad304) l0.length c0, .int .i64 x5_2] (by rfl) rfl rfl (by (try simp only [pml]); first | done | rfl | (simp only [pdt]; rfl)) ?_
       with_reducible refine (r_next.calls _ _ l0 x5_2 t316 _ ?side1 ?side2 A30.out).mono ?_
       (case side1 => repeat (first | exact (Kd.C_below HR0.out (fW HB.out)) | (with_reducible refine Kd.C_alloc ?_ _) | (with_reducible refine Kd.C_drewN ?_ _) | (with_reducible refine Kd.C_drew ?_)))
       (case side2 => exact HC0.out)
       rintro e w' ⟨rfl, ⟨nd, rfl⟩⟩
       refine ⟨_, rfl, ?_⟩
       refine hK.out _ _ ⟨((HB.out.cell (bq w _ hw312_0)).trans hw312_0), ((HB.out.cell (bq w _ hw312_1)).trans hw312_1), ((HB.out.cell (bq w _ hw314_0)).trans hw314_0), ((HB.out.cell (bq w _ hw314_1)).trans hw314_1), ((HB.out.cell (bq w _ hw315_0)).trans hw315_0), ((HB.out.cell (bq w _ hw315_1)).trans hw315_1), ((HB.out.cell (bq w _ hw317_0)).trans hw317_0), ((HB.out.cell (bq w _ hw317_1)).trans hw317_1)⟩ (fun hHeld => ?_)
       clear hK K
       refine norm_ (a' := ?_) ?_ ?_
       rotate_left
       ·show Act.put _ (some 62) _ = _
        simp only [Act.put, psl, i64_w, i32_w]
        rfl
       refine pu (i := 24) (N := some 63) (fl 28 25 []) HT_ ?_
       refine tk (i := 25) (N := some 64) (fl 28 26 []) HT_ HW_ hHeld ?_
       refine one_ (i := 26) (N := some 65) (fl 28 27 []) rfl rfl (one_of HT_.out (by kernel_rfl)) (by decide) (fun K hK => ?_)
       refine goes_ Try.func44 (by kernel_rfl) rfl #[.agg #[.int .i64 ((rd_T23 l0 x4_1).f0), .int .i64 ((rd_T23 l0 x4_1).f1)], .agg #[.int .i64 ((rd_T23 l0 t313).f0), .int .i64 ((rd_T23 l0 t313).f1)], .agg #[.int .i64 ((rd_T23 l0 x5_2).f0), .int .i64 ((rd_T23 l0 x5_2).f1)], .agg #[.int .i64 ((rd_T23 l0 t316).f0), .int .i64 ((rd_T23 l0 t316).f1)]] (by rfl) rfl rfl (by (try simp only [pml]); first | done | rfl | (simp only [pdt]; rfl)) ?_
       with_reducible refine (r_meet.calls k2 ((rd_T23 l0 x4_1).f0) ((rd_T23 l0 x4_1).f1) ((rd_T23 l0 t313).f0) ((rd_T23 l0 t313).f1) ((rd_T23 l0 x5_2).f0) ((rd_T23 l0 x5_2).f1) ((rd_T23 l0 t316).f0) ((rd_T23 l0 t316).f1) false _ A33.out).mono ?_
       rintro e w38 ⟨rfl, hb⟩
       refine ⟨_, rfl, ?_⟩
       have n0_ := bS HB hb
       clear HB
       have HB := n0_
       clear n0_
       (try clear hb)
       (try clear hb2)
       (try clear hk)
       (try clear hi)
       refine hK.out _ _ ⟨((HB.out.cell (bq w _ hw312_0)).trans hw312_0), ((HB.out.cell (bq w _ hw312_1)).trans hw312_1), ((HB.out.cell (bq w _ hw314_0)).trans hw314_0), ((HB.out.cell (bq w _ hw314_1)).trans hw314_1), ((HB.out.cell (bq w _ hw315_0)).trans hw315_0), ((HB.out.cell (bq w _ hw315_1)).trans hw315_1), ((HB.out.cell (bq w _ hw317_0)).trans hw317_0), ((HB.out.cell (bq w _ hw317_1)).trans hw317_1)⟩ (fun hHeld => ?_)
       clear hK K
       refine norm_ (a' := ?_) ?_ ?_
       rotate_left
       ·show Act.put _ (some 65) _ = _
        simp only [Act.put, psl, i64_w, i32_w]
        rfl
       refine pu (i := 27) (N := some 66) (fl 28 28 []) HT_ ?_
       refine done_ (done_of HT_.out (by kernel_rfl)) ?_
       try go_wp2
       go_meet
       case rel => exact ⟨_, H', ⟨by have := HK1.out; have := HK2.out; first | omega | exact Nat.le_refl _⟩, ⟨fW HB.out⟩⟩
      case rest =>
       clear HC19
       try clear c2;try clear p2;try clear c3;try clear p3;try clear q3;try clear hx3;try clear c4;try clear c23;try clear c24;try clear c26;try clear c27;try clear c28;try clear c29;try clear c31;try clear p31;try clear q31;try clear hx31;try clear c32;try clear c34;try clear hx312_0;try clear hx312_1;try clear hx314_0;try clear hx314_1;try clear hx315_0;try clear hx315_1;try clear hx317_0;try clear hx317_1;try clear p312;try clear p314;try clear p315;try clear p317;try clear q312;try clear q314;try clear q315;try clear q317
       obtain ⟨kq, HA, HJ18, HB⟩ := hcut
       cases kq with
       | zero => exact absurd HA.out (by simp [r_Simple.j2])
       | succ kj18 =>
        have H := HA.out
        clear HA
        simp only [r_Simple.j2] at H
        have H' := am H
        clear H
        go_wp2
        go_roundg kj18
        case measure => have := HK1.out; have := HK2.out; have := HJ18.out; omega
        case rel => exact ⟨(wrap64 (x5_2 + 1)), sqD, H', ⟨by have := HK1.out; have := HK2.out; have := HJ18.out; omega⟩, ⟨fW HB.out⟩⟩
   ·rw [if_neg c2] at H
    have c2b0 : decide (x4_1 < (l0.length : Int)) = false := decide_eq_false c2
    clear c2
    obtain rfl := Option.some.inj H
    go_wp2
    go_ret
    exact ⟨sqE, fW HB.out⟩

end Go.Proofs.Ytcembjgpcbodcaa.QA
