import Derived.Test.YtmmdikhmlmoolaaKQAx0
import Derived.Test.YtmmdikhmlmoolaaKQAx20
import Derived.Test.YtmmdikhmlmoolaaKQAx23
import Derived.Test.YtmmdikhmlmoolaaKQAx26
namespace Go.Proofs.Ytmmdikhmlmoolaa.QA
open Go.RowKit Go.Proofs.YtmmdikhmlmoolaaW.PrintWords Go.Proofs.YtmmdikhmlmoolaaW.PrintLast Go.Proofs.YtmmdikhmlmoolaaW.PrintMore
open Aside0 renaming mk → am
open World renaming block_lt_of_cell? → bq
attribute [local go_sem] max2_int min2_int max_two min_two max_three min_three max_four min_four
set_option linter.unusedVariables false
set_option linter.unusedSimpArgs false

mutual
def r_Clash.l0 : Nat → List (S25) → Int → Option (Int × Int × Bool)
 | 0, _, _ => none
 | k + 1, x0, x5 => if x5 < (x0.length : Int) then (r_Clash.l1 k x0 x5 (wrap64 (x5 + 1))) else (some (0, 0, false))
def r_Clash.l1 : Nat → List (S25) → Int → Int → Option (Int × Int × Bool)
 | 0, _, _, _ => none
 | k + 1, x0, x5, x6 => if x6 < (x0.length : Int) then (if 0 ≤ x5 then (if x5 < (x0.length : Int) then (if 0 ≤ x6 then ((r_Overlap.f k ((rd_T25 x0 x5).f0.f0) ((rd_T25 x0 x5).f0.f1) ((rd_T25 x0 x5).f0.f2) ((rd_T25 x0 x5).f1.f0) ((rd_T25 x0 x5).f1.f1) ((rd_T25 x0 x5).f1.f2) ((rd_T25 x0 x6).f0.f0) ((rd_T25 x0 x6).f0.f1) ((rd_T25 x0 x6).f0.f2) ((rd_T25 x0 x6).f1.f0) ((rd_T25 x0 x6).f1.f1) ((rd_T25 x0 x6).f1.f2)).bind fun t655 => (if t655 = true then (some (x5, x6, true)) else (r_Clash.l1 k x0 x5 (wrap64 (x6 + 1))))) else (none)) else (none)) else (none)) else (r_Clash.l0 k x0 (wrap64 (x5 + 1)))
end
def r_Clash.f (k : Nat) (l0 : List (S25)) : Option (Int × Int × Bool) := r_Clash.l0 k l0 0
def r_Clash.T7 : Bool × List (List Nat × List Nat) := (true, [([], []), ([], []), ([0, 1], [0, 1]), ([2], [2]), ([], []), ([], []), ([4, 5], [4, 5]), ([6], [6]), ([3, 7], [3, 7])])
def r_Clash.B7 : List Nat := [0, 0, 3, 7, 0, 0, 48, 112, 255]
theorem r_Clash.tab7 : rtab .any (opsOf Try.f43 7) = r_Clash.T7 := by kernel_rfl
theorem r_Clash.bits7 : waitsOk r_Clash.T7.2 r_Clash.B7 = true := by kernel_rfl
set_option maxHeartbeats 8000000 in
set_option maxRecDepth 100000 in
theorem r_Clash.calls (k : Nat) (A0 : Option Addr) (c0 : Nat) (l0 : List (S25)) (r1 : Int) (r2 : Int) (r3 : Bool) (w : World) (hr0 : Kd.C k25 w A0 l0.length l0) (hc0 : l0.length ≤ c0) (h : r_Clash.f k l0 = some (r1, r2, r3)) :
  Calls Try.prog 43 #[.slice A0 l0.length c0] w fun e w' => e = .returned (.tuple #[.int .i64 r1, .int .i64 r2, .bool r3]) ∧ Below w.heap.size w w' := by
 have hu25 := Try.underlying25
 have HR0 := am hr0
 have HC0 := am hc0
 clear hr0 hc0
 have HB := am (Below.refl w.heap.size w)
 have H : (r_Clash.l0 k l0 0) = some (r1, r2, r3) := h
 clear h
 have H' := am H
 clear H
 go_enter Try.func43, Try.ntmps43
 go_wp2
 go_loopg [5] k (fun kq v5 w' => ∃ (x5_1 : Int), v5 = .int .i64 x5_1 ∧ Aside0 (r_Clash.l0 kq l0 x5_1 = some (r1, r2, r3)) ∧ Aside0 (kq ≤ k) ∧ Aside0 (Below w.heap.size w w'))
 case atStart => exact ⟨(0), sqD, H', ⟨Nat.le_refl _⟩, ⟨fW HB.out⟩⟩
 case round =>
  clear H'
  obtain ⟨x5_1, rfl, HA, HK1, HB⟩ := hrel
  cases gk with
  | zero => exact absurd HA.out (by simp [r_Clash.l0])
  | succ k1 =>
   have H := HA.out
   clear HA
   simp only [r_Clash.l0] at H
   by_cases c2 : x5_1 < (l0.length : Int)
   ·rw [if_pos c2] at H
    have c2b0 : decide (x5_1 < (l0.length : Int)) = true := decide_eq_true c2
    clear c2
    have H' := am H
    clear H
    go_wp2
    go_loopg [6] k1 (fun kq v6 w' => ∃ (x6_2 : Int), v6 = .int .i64 x6_2 ∧ Aside0 (r_Clash.l1 kq l0 x5_1 x6_2 = some (r1, r2, r3)) ∧ Aside0 (kq ≤ k1) ∧ Aside0 (Below w.heap.size w w'))
    case atStart => exact ⟨(wrap64 (x5_1 + 1)), sqD, H', ⟨Nat.le_refl _⟩, ⟨fW HB.out⟩⟩
    case round =>
     clear H'
     try clear c2;try clear c2b0;try clear p2
     obtain ⟨x6_2, rfl, HA, HK2, HB⟩ := hrel
     cases gk with
     | zero => exact absurd HA.out (by simp [r_Clash.l1])
     | succ k2 =>
      have H := HA.out
      clear HA
      simp only [r_Clash.l1] at H
      by_cases c3 : x6_2 < (l0.length : Int)
      rotate_left
      ·rw [if_neg c3] at H
       have c3b0 : decide (x6_2 < (l0.length : Int)) = false := decide_eq_false c3
       clear c3
       have H' := am H
       clear H
       go_wp2
       go_roundg k2
       case measure => have := HK1.out; have := HK2.out; omega
       case rel => exact ⟨(wrap64 (x5_1 + 1)), sqD, H', ⟨by have := HK1.out; have := HK2.out; omega⟩, ⟨fW HB.out⟩⟩
      rw [if_pos c3] at H
      have c3b0 : decide (x6_2 < (l0.length : Int)) = true := decide_eq_true c3
      clear c3
      by_cases c4 : 0 ≤ x5_1
      rotate_left
      ·rw [if_neg c4] at H
       exact absurd H (by simp)
      rw [if_pos c4] at H
      have c4b0 : decide (0 ≤ x5_1) = true := decide_eq_true c4
      clear c4
      by_cases c5 : x5_1 < (l0.length : Int)
      rotate_left
      ·rw [if_neg c5] at H
       exact absurd H (by simp)
      rw [if_pos c5] at H
      have c5b0 : decide (x5_1 < (l0.length : Int)) = true := decide_eq_true c5
      clear c5
      by_cases c6 : 0 ≤ x6_2
      rotate_left
      ·rw [if_neg c6] at H
       exact absurd H (by simp)
      rw [if_pos c6] at H
      have c6b0 : decide (0 ≤ x6_2) = true := decide_eq_true c6
      clear c6
      replace H := Option.bind_eq_some_iff.mp H
      obtain ⟨t655, A70, H⟩ := H
      replace H : (if t655 = true then (some (x5_1, x6_2, true)) else (r_Clash.l1 k2 l0 x5_1 (wrap64 (x6_2 + 1)))) = some (r1, r2, r3) := H
      have A7 := am A70
      clear A70
      by_cases c8 : t655 = true
      ·subst c8
       have H1 : (some (x5_1, x6_2, true)) = some (r1, r2, r3) := by rw [if_pos rfl] at H; exact H
       clear H
       have H := H1
       clear H1
       simp only [Option.some.injEq, Prod.mk.injEq] at H
       obtain ⟨rfl, rfl, rfl⟩ := H
       try go_wp2
       have n0_ := am (below_drew1 HB.out)
       clear HB
       have HB := n0_
       clear n0_
       have p653 : 0 ≤ (x5_1 : Int) := of_decide_eq_true (by assumption)
       have q653 : x5_1 < (l0.length : Int) := of_decide_eq_true (by assumption)
       obtain ⟨ad653, e653, hx653_0, hx653_1, hx653_2, hx653_3, hx653_4, hx653_5⟩ := at_T25 HR0.out x5_1 p653 q653
       have hw653_5 := hx653_5
       have hw653_4 := hx653_4
       have hw653_3 := hx653_3
       have hw653_2 := hx653_2
       have hw653_1 := hx653_1
       have hw653_0 := hx653_0
       cases e653
       replace hx653_0 := cl HB hx653_0
       replace hx653_1 := cl HB hx653_1
       replace hx653_2 := cl HB hx653_2
       replace hx653_3 := cl HB hx653_3
       replace hx653_4 := cl HB hx653_4
       replace hx653_5 := cl HB hx653_5
       replace p653 := eq_true p653
       replace q653 := eq_true q653
       have p654 : 0 ≤ (x6_2 : Int) := of_decide_eq_true (by assumption)
       have q654 : x6_2 < (l0.length : Int) := of_decide_eq_true (by assumption)
       obtain ⟨ad654, e654, hx654_0, hx654_1, hx654_2, hx654_3, hx654_4, hx654_5⟩ := at_T25 HR0.out x6_2 p654 q654
       have hw654_5 := hx654_5
       have hw654_4 := hx654_4
       have hw654_3 := hx654_3
       have hw654_2 := hx654_2
       have hw654_1 := hx654_1
       have hw654_0 := hx654_0
       obtain rfl : ad653 = ad654 := (by injection e654)
       replace hx654_0 := cl HB hx654_0
       replace hx654_1 := cl HB hx654_1
       replace hx654_2 := cl HB hx654_2
       replace hx654_3 := cl HB hx654_3
       replace hx654_4 := cl HB hx654_4
       replace hx654_5 := cl HB hx654_5
       replace p654 := eq_true p654
       replace q654 := eq_true q654
       refine start_ (n := 9) (S := fun w' => w'.cell? (ad653.add ((x5_1).toNat * 6)) = some (.int .i64 ((rd_T25 l0 x5_1).f0.f0)) ∧ w'.cell? ⟨(ad653.add ((x5_1).toNat * 6)).block, (ad653.add ((x5_1).toNat * 6)).off + 1, none⟩ = some (.int .i64 ((rd_T25 l0 x5_1).f0.f1)) ∧ w'.cell? ⟨(ad653.add ((x5_1).toNat * 6)).block, (ad653.add ((x5_1).toNat * 6)).off + 2, none⟩ = some (.int .i64 ((rd_T25 l0 x5_1).f0.f2)) ∧ w'.cell? ⟨(ad653.add ((x5_1).toNat * 6)).block, (ad653.add ((x5_1).toNat * 6)).off + 3, none⟩ = some (.int .i64 ((rd_T25 l0 x5_1).f1.f0)) ∧ w'.cell? ⟨(ad653.add ((x5_1).toNat * 6)).block, (ad653.add ((x5_1).toNat * 6)).off + 4, none⟩ = some (.int .i64 ((rd_T25 l0 x5_1).f1.f1)) ∧ w'.cell? ⟨(ad653.add ((x5_1).toNat * 6)).block, (ad653.add ((x5_1).toNat * 6)).off + 5, none⟩ = some (.int .i64 ((rd_T25 l0 x5_1).f1.f2)) ∧ w'.cell? (ad653.add ((x6_2).toNat * 6)) = some (.int .i64 ((rd_T25 l0 x6_2).f0.f0)) ∧ w'.cell? ⟨(ad653.add ((x6_2).toNat * 6)).block, (ad653.add ((x6_2).toNat * 6)).off + 1, none⟩ = some (.int .i64 ((rd_T25 l0 x6_2).f0.f1)) ∧ w'.cell? ⟨(ad653.add ((x6_2).toNat * 6)).block, (ad653.add ((x6_2).toNat * 6)).off + 2, none⟩ = some (.int .i64 ((rd_T25 l0 x6_2).f0.f2)) ∧ w'.cell? ⟨(ad653.add ((x6_2).toNat * 6)).block, (ad653.add ((x6_2).toNat * 6)).off + 3, none⟩ = some (.int .i64 ((rd_T25 l0 x6_2).f1.f0)) ∧ w'.cell? ⟨(ad653.add ((x6_2).toNat * 6)).block, (ad653.add ((x6_2).toNat * 6)).off + 4, none⟩ = some (.int .i64 ((rd_T25 l0 x6_2).f1.f1)) ∧ w'.cell? ⟨(ad653.add ((x6_2).toNat * 6)).block, (ad653.add ((x6_2).toNat * 6)).off + 5, none⟩ = some (.int .i64 ((rd_T25 l0 x6_2).f1.f2))) (ds := []) #[F,F,F,F,F,F,F,F,F] (by kernel_rfl) rfl rfl ⟨((HB.out.cell (bq w _ hw653_0)).trans hw653_0), ((HB.out.cell (bq w _ hw653_1)).trans hw653_1), ((HB.out.cell (bq w _ hw653_2)).trans hw653_2), ((HB.out.cell (bq w _ hw653_3)).trans hw653_3), ((HB.out.cell (bq w _ hw653_4)).trans hw653_4), ((HB.out.cell (bq w _ hw653_5)).trans hw653_5), ((HB.out.cell (bq w _ hw654_0)).trans hw654_0), ((HB.out.cell (bq w _ hw654_1)).trans hw654_1), ((HB.out.cell (bq w _ hw654_2)).trans hw654_2), ((HB.out.cell (bq w _ hw654_3)).trans hw654_3), ((HB.out.cell (bq w _ hw654_4)).trans hw654_4), ((HB.out.cell (bq w _ hw654_5)).trans hw654_5)⟩ (fun hHeld => ?_); refine with_tabW r_Clash.tab7 r_Clash.bits7 (fun HT_ HW_ => ?_)
       generalize wr.drew = w9 at HB hx653_0 hx653_1 hx653_2 hx653_3 hx653_4 hx653_5 hx654_0 hx654_1 hx654_2 hx654_3 hx654_4 hx654_5 hHeld ⊢
       refine pu (i := 0) (N := some 21) (fl 9 1 []) HT_ ?_
       refine pu (i := 1) (N := some 22) (fl 9 2 []) HT_ ?_
       refine pu (i := 2) (N := some 23) (fl 9 3 []) HT_ ?_
       refine pu (i := 4) (N := some 25) (fl 9 3 [4]) HT_ ?_
       refine pu (i := 5) (N := some 26) (fl 9 3 [4, 5]) HT_ ?_
       refine pu (i := 6) (N := some 27) (fl 9 3 [4, 5, 6]) HT_ ?_
       refine tk (i := 3) (N := some 24) (fl 9 7 []) HT_ HW_ hHeld ?_
       refine tk (i := 7) (N := some 28) (fl 9 8 []) HT_ HW_ hHeld ?_
       refine one_ (i := 8) (N := some 29) (fl 9 9 []) rfl rfl (one_of HT_.out (by kernel_rfl)) (by decide) (fun K hK => ?_)
       refine goes_ Try.func33 (by kernel_rfl) rfl #[.agg #[.int .i64 ((rd_T25 l0 x5_1).f0.f0), .int .i64 ((rd_T25 l0 x5_1).f0.f1), .int .i64 ((rd_T25 l0 x5_1).f0.f2), .int .i64 ((rd_T25 l0 x5_1).f1.f0), .int .i64 ((rd_T25 l0 x5_1).f1.f1), .int .i64 ((rd_T25 l0 x5_1).f1.f2)], .agg #[.int .i64 ((rd_T25 l0 x6_2).f0.f0), .int .i64 ((rd_T25 l0 x6_2).f0.f1), .int .i64 ((rd_T25 l0 x6_2).f0.f2), .int .i64 ((rd_T25 l0 x6_2).f1.f0), .int .i64 ((rd_T25 l0 x6_2).f1.f1), .int .i64 ((rd_T25 l0 x6_2).f1.f2)]] (by rfl) rfl rfl (by (try simp only [pml]); first | done | rfl | (simp only [pdt]; rfl)) ?_
       with_reducible refine (r_Overlap.calls k2 ((rd_T25 l0 x5_1).f0.f0) ((rd_T25 l0 x5_1).f0.f1) ((rd_T25 l0 x5_1).f0.f2) ((rd_T25 l0 x5_1).f1.f0) ((rd_T25 l0 x5_1).f1.f1) ((rd_T25 l0 x5_1).f1.f2) ((rd_T25 l0 x6_2).f0.f0) ((rd_T25 l0 x6_2).f0.f1) ((rd_T25 l0 x6_2).f0.f2) ((rd_T25 l0 x6_2).f1.f0) ((rd_T25 l0 x6_2).f1.f1) ((rd_T25 l0 x6_2).f1.f2) true _ A7.out).mono ?_
       rintro e w10 ⟨rfl, hb⟩
       refine ⟨_, rfl, ?_⟩
       have n0_ := bS HB hb
       clear HB
       have HB := n0_
       clear n0_
       (try clear hb)
       (try clear hb2)
       (try clear hk)
       (try clear hi)
       refine hK.out _ _ ⟨((HB.out.cell (bq w _ hw653_0)).trans hw653_0), ((HB.out.cell (bq w _ hw653_1)).trans hw653_1), ((HB.out.cell (bq w _ hw653_2)).trans hw653_2), ((HB.out.cell (bq w _ hw653_3)).trans hw653_3), ((HB.out.cell (bq w _ hw653_4)).trans hw653_4), ((HB.out.cell (bq w _ hw653_5)).trans hw653_5), ((HB.out.cell (bq w _ hw654_0)).trans hw654_0), ((HB.out.cell (bq w _ hw654_1)).trans hw654_1), ((HB.out.cell (bq w _ hw654_2)).trans hw654_2), ((HB.out.cell (bq w _ hw654_3)).trans hw654_3), ((HB.out.cell (bq w _ hw654_4)).trans hw654_4), ((HB.out.cell (bq w _ hw654_5)).trans hw654_5)⟩ (fun hHeld => ?_)
       clear hK K
       refine norm_ (a' := ?_) ?_ ?_
       rotate_left
       ·show Act.put _ (some 29) _ = _
        simp only [Act.put, psl, i64_w, i32_w]
        rfl
       refine done_ (done_of HT_.out (by kernel_rfl)) ?_
       try go_wp2
       go_ret3
       exact ⟨sqE, fW HB.out⟩
      replace c8 := Bool.eq_false_iff.mpr c8
      subst c8
      have H1 : (r_Clash.l1 k2 l0 x5_1 (wrap64 (x6_2 + 1))) = some (r1, r2, r3) := by rw [if_neg (show ¬ (false = true) by decide)] at H; exact H
      clear H
      have H := H1
      clear H1
      have H' := am H
      clear H
      try go_wp2
      have n0_ := am (below_drew1 HB.out)
      clear HB
      have HB := n0_
      clear n0_
      have p653 : 0 ≤ (x5_1 : Int) := of_decide_eq_true (by assumption)
      have q653 : x5_1 < (l0.length : Int) := of_decide_eq_true (by assumption)
      obtain ⟨ad653, e653, hx653_0, hx653_1, hx653_2, hx653_3, hx653_4, hx653_5⟩ := at_T25 HR0.out x5_1 p653 q653
      have hw653_5 := hx653_5
      have hw653_4 := hx653_4
      have hw653_3 := hx653_3
      have hw653_2 := hx653_2
      have hw653_1 := hx653_1
      have hw653_0 := hx653_0
      cases e653
      replace hx653_0 := cl HB hx653_0
      replace hx653_1 := cl HB hx653_1
      replace hx653_2 := cl HB hx653_2
      replace hx653_3 := cl HB hx653_3
      replace hx653_4 := cl HB hx653_4
      replace hx653_5 := cl HB hx653_5
      replace p653 := eq_true p653
      replace q653 := eq_true q653
      have p654 : 0 ≤ (x6_2 : Int) := of_decide_eq_true (by assumption)
      have q654 : x6_2 < (l0.length : Int) := of_decide_eq_true (by assumption)
      obtain ⟨ad654, e654, hx654_0, hx654_1, hx654_2, hx654_3, hx654_4, hx654_5⟩ := at_T25 HR0.out x6_2 p654 q654
      have hw654_5 := hx654_5
      have hw654_4 := hx654_4
      have hw654_3 := hx654_3
      have hw654_2 := hx654_2
      have hw654_1 := hx654_1
      have hw654_0 := hx654_0
      obtain rfl : ad653 = ad654 := (by injection e654)
      replace hx654_0 := cl HB hx654_0
      replace hx654_1 := cl HB hx654_1
      replace hx654_2 := cl HB hx654_2
      replace hx654_3 := cl HB hx654_3
      replace hx654_4 := cl HB hx654_4
      replace hx654_5 := cl HB hx654_5
      replace p654 := eq_true p654
      replace q654 := eq_true q654
      refine start_ (n := 9) (S := fun w' => w'.cell? (ad653.add ((x5_1).toNat * 6)) = some (.int .i64 ((rd_T25 l0 x5_1).f0.f0)) ∧ w'.cell? ⟨(ad653.add ((x5_1).toNat * 6)).block, (ad653.add ((x5_1).toNat * 6)).off + 1, none⟩ = some (.int .i64 ((rd_T25 l0 x5_1).f0.f1)) ∧ w'.cell? ⟨(ad653.add ((x5_1).toNat * 6)).block, (ad653.add ((x5_1).toNat * 6)).off + 2, none⟩ = some (.int .i64 ((rd_T25 l0 x5_1).f0.f2)) ∧ w'.cell? ⟨(ad653.add ((x5_1).toNat * 6)).block, (ad653.add ((x5_1).toNat * 6)).off + 3, none⟩ = some (.int .i64 ((rd_T25 l0 x5_1).f1.f0)) ∧ w'.cell? ⟨(ad653.add ((x5_1).toNat * 6)).block, (ad653.add ((x5_1).toNat * 6)).off + 4, none⟩ = some (.int .i64 ((rd_T25 l0 x5_1).f1.f1)) ∧ w'.cell? ⟨(ad653.add ((x5_1).toNat * 6)).block, (ad653.add ((x5_1).toNat * 6)).off + 5, none⟩ = some (.int .i64 ((rd_T25 l0 x5_1).f1.f2)) ∧ w'.cell? (ad653.add ((x6_2).toNat * 6)) = some (.int .i64 ((rd_T25 l0 x6_2).f0.f0)) ∧ w'.cell? ⟨(ad653.add ((x6_2).toNat * 6)).block, (ad653.add ((x6_2).toNat * 6)).off + 1, none⟩ = some (.int .i64 ((rd_T25 l0 x6_2).f0.f1)) ∧ w'.cell? ⟨(ad653.add ((x6_2).toNat * 6)).block, (ad653.add ((x6_2).toNat * 6)).off + 2, none⟩ = some (.int .i64 ((rd_T25 l0 x6_2).f0.f2)) ∧ w'.cell? ⟨(ad653.add ((x6_2).toNat * 6)).block, (ad653.add ((x6_2).toNat * 6)).off + 3, none⟩ = some (.int .i64 ((rd_T25 l0 x6_2).f1.f0)) ∧ w'.cell? ⟨(ad653.add ((x6_2).toNat * 6)).block, (ad653.add ((x6_2).toNat * 6)).off + 4, none⟩ = some (.int .i64 ((rd_T25 l0 x6_2).f1.f1)) ∧ w'.cell? ⟨(ad653.add ((x6_2).toNat * 6)).block, (ad653.add ((x6_2).toNat * 6)).off + 5, none⟩ = some (.int .i64 ((rd_T25 l0 x6_2).f1.f2))) (ds := []) #[F,F,F,F,F,F,F,F,F] (by kernel_rfl) rfl rfl ⟨((HB.out.cell (bq w _ hw653_0)).trans hw653_0), ((HB.out.cell (bq w _ hw653_1)).trans hw653_1), ((HB.out.cell (bq w _ hw653_2)).trans hw653_2), ((HB.out.cell (bq w _ hw653_3)).trans hw653_3), ((HB.out.cell (bq w _ hw653_4)).trans hw653_4), ((HB.out.cell (bq w _ hw653_5)).trans hw653_5), ((HB.out.cell (bq w _ hw654_0)).trans hw654_0), ((HB.out.cell (bq w _ hw654_1)).trans hw654_1), ((HB.out.cell (bq w _ hw654_2)).trans hw654_2), ((HB.out.cell (bq w _ hw654_3)).trans hw654_3), ((HB.out.cell (bq w _ hw654_4)).trans hw654_4), ((HB.out.cell (bq w _ hw654_5)).trans hw654_5)⟩ (fun hHeld => ?_); refine with_tabW r_Clash.tab7 r_Clash.bits7 (fun HT_ HW_ => ?_)
      generalize wr.drew = w11 at HB hx653_0 hx653_1 hx653_2 hx653_3 hx653_4 hx653_5 hx654_0 hx654_1 hx654_2 hx654_3 hx654_4 hx654_5 hHeld ⊢
      refine pu (i := 0) (N := some 21) (fl 9 1 []) HT_ ?_
      refine pu (i := 1) (N := some 22) (fl 9 2 []) HT_ ?_
      refine pu (i := 2) (N := some 23) (fl 9 3 []) HT_ ?_
      refine pu (i := 4) (N := some 25) (fl 9 3 [4]) HT_ ?_
      refine pu (i := 5) (N := some 26) (fl 9 3 [4, 5]) HT_ ?_
      refine pu (i := 6) (N := some 27) (fl 9 3 [4, 5, 6]) HT_ ?_
      refine tk (i := 3) (N := some 24) (fl 9 7 []) HT_ HW_ hHeld ?_
      refine tk (i := 7) (N := some 28) (fl 9 8 []) HT_ HW_ hHeld ?_
      refine one_ (i := 8) (N := some 29) (fl 9 9 []) rfl rfl (one_of HT_.out (by kernel_rfl)) (by decide) (fun K hK => ?_)
      refine goes_ Try.func33 (by kernel_rfl) rfl #[.agg #[.int .i64 ((rd_T25 l0 x5_1).f0.f0), .int .i64 ((rd_T25 l0 x5_1).f0.f1), .int .i64 ((rd_T25 l0 x5_1).f0.f2), .int .i64 ((rd_T25 l0 x5_1).f1.f0), .int .i64 ((rd_T25 l0 x5_1).f1.f1), .int .i64 ((rd_T25 l0 x5_1).f1.f2)], .agg #[.int .i64 ((rd_T25 l0 x6_2).f0.f0), .int .i64 ((rd_T25 l0 x6_2).f0.f1), .int .i64 ((rd_T25 l0 x6_2).f0.f2), .int .i64 ((rd_T25 l0 x6_2).f1.f0), .int .i64 ((rd_T25 l0 x6_2).f1.f1), .int .i64 ((rd_T25 l0 x6_2).f1.f2)]] (by rfl) rfl rfl (by (try simp only [pml]); first | done | rfl | (simp only [pdt]; rfl)) ?_
      with_reducible refine (r_Overlap.calls k2 ((rd_T25 l0 x5_1).f0.f0) ((rd_T25 l0 x5_1).f0.f1) ((rd_T25 l0 x5_1).f0.f2) ((rd_T25 l0 x5_1).f1.f0) ((rd_T25 l0 x5_1).f1.f1) ((rd_T25 l0 x5_1).f1.f2) ((rd_T25 l0 x6_2).f0.f0) ((rd_T25 l0 x6_2).f0.f1) ((rd_T25 l0 x6_2).f0.f2) ((rd_T25 l0 x6_2).f1.f0) ((rd_T25 l0 x6_2).f1.f1) ((rd_T25 l0 x6_2).f1.f2) false _ A7.out).mono ?_
      rintro e w12 ⟨rfl, hb⟩
      refine ⟨_, rfl, ?_⟩
      have n0_ := bS HB hb
      clear HB
      have HB := n0_
      clear n0_
      (try clear hb)
      (try clear hb2)
      (try clear hk)
      (try clear hi)
      refine hK.out _ _ ⟨((HB.out.cell (bq w _ hw653_0)).trans hw653_0), ((HB.out.cell (bq w _ hw653_1)).trans hw653_1), ((HB.out.cell (bq w _ hw653_2)).trans hw653_2), ((HB.out.cell (bq w _ hw653_3)).trans hw653_3), ((HB.out.cell (bq w _ hw653_4)).trans hw653_4), ((HB.out.cell (bq w _ hw653_5)).trans hw653_5), ((HB.out.cell (bq w _ hw654_0)).trans hw654_0), ((HB.out.cell (bq w _ hw654_1)).trans hw654_1), ((HB.out.cell (bq w _ hw654_2)).trans hw654_2), ((HB.out.cell (bq w _ hw654_3)).trans hw654_3), ((HB.out.cell (bq w _ hw654_4)).trans hw654_4), ((HB.out.cell (bq w _ hw654_5)).trans hw654_5)⟩ (fun hHeld => ?_)
      clear hK K
      refine norm_ (a' := ?_) ?_ ?_
      rotate_left
      ·show Act.put _ (some 29) _ = _
       simp only [Act.put, psl, i64_w, i32_w]
       rfl
      refine done_ (done_of HT_.out (by kernel_rfl)) ?_
      try go_wp2
      go_roundg k2
      case measure => have := HK1.out; have := HK2.out; omega
      case rel => exact ⟨(wrap64 (x6_2 + 1)), sqD, H', ⟨by have := HK1.out; have := HK2.out; omega⟩, ⟨fW HB.out⟩⟩
   ·rw [if_neg c2] at H
    have c2b0 : decide (x5_1 < (l0.length : Int)) = false := decide_eq_false c2
    clear c2
    simp only [Option.some.injEq, Prod.mk.injEq] at H
    obtain ⟨rfl, rfl, rfl⟩ := H
    go_wp2
    go_ret3
    exact ⟨sqE, fW HB.out⟩

mutual
def r_Total.l0 : Nat → List (S25) → Int → Int → Option (Int)
 | 0, _, _, _ => none
 | k + 1, x0, x3, x4 => if x4 < (x0.length : Int) then (if 0 ≤ x4 then (if x4 ≤ (x0.length : Int) then ((r_Rest.f k ((rd_T25 x0 x4).f0.f0) ((rd_T25 x0 x4).f0.f1) ((rd_T25 x0 x4).f0.f2) ((rd_T25 x0 x4).f1.f0) ((rd_T25 x0 x4).f1.f1) ((rd_T25 x0 x4).f1.f2) (x0.take (x4 : Int).toNat)).bind fun bt661 => (r_Total.l1 k x0 x3 x4 bt661.1 0)) else (none)) else (none)) else (some x3)
def r_Total.l1 : Nat → List (S25) → Int → Int → List (S25) → Int → Option (Int)
 | 0, _, _, _, _, _ => none
 | k + 1, x0, x3, x4, x5, x7 => if x7 < (x5.length : Int) then (if 0 ≤ x7 then ((r_Volume.f ((rd_T25 x5 x7).f0.f0) ((rd_T25 x5 x7).f0.f1) ((rd_T25 x5 x7).f0.f2) ((rd_T25 x5 x7).f1.f0) ((rd_T25 x5 x7).f1.f1) ((rd_T25 x5 x7).f1.f2)).bind fun t666 => (r_Total.l1 k x0 (wrap64 (x3 + t666)) x4 x5 (wrap64 (x7 + 1)))) else (none)) else (r_Total.l0 k x0 x3 (wrap64 (x4 + 1)))
end
def r_Total.f (k : Nat) (l0 : List (S25)) : Option (Int) := r_Total.l0 k l0 0 0
def r_Total.T5 : Bool × List (List Nat × List Nat) := (true, [([], []), ([], []), ([0, 1], [0, 1]), ([2], [2]), ([], []), ([], []), ([4, 5], [4, 5]), ([3, 6], [3, 6]), ([7], [7]), ([8], [8]), ([8], [8]), ([9, 7, 0, 1, 2, 3, 4, 5, 6, 7, 8, 9], [9]), ([10, 11, 0, 1, 2, 3, 4, 5, 6, 7, 8, 9, 10, 11], [10])])
def r_Total.B5 : List Nat := [0, 0, 3, 7, 0, 0, 48, 127, 255, 511, 511, 1023, 4095]
theorem r_Total.tab5 : rtab .any (opsOf Try.f44 5) = r_Total.T5 := by kernel_rfl
theorem r_Total.bits5 : waitsOk r_Total.T5.2 r_Total.B5 = true := by kernel_rfl
set_option maxHeartbeats 8000000 in
set_option maxRecDepth 100000 in
theorem r_Total.calls (k : Nat) (A0 : Option Addr) (c0 : Nat) (l0 : List (S25)) (r : Int) (w : World) (hr0 : Kd.C k25 w A0 l0.length l0) (hc0 : l0.length ≤ c0) (h : r_Total.f k l0 = some r) :
  Calls Try.prog 44 #[.slice A0 l0.length c0] w fun e w' => e = .returned (.int .i64 r) ∧ Below w.heap.size w w' := by
 have hu25 := Try.underlying25
 have HR0 := am hr0
 have HC0 := am hc0
 clear hr0 hc0
 have HB := am (Below.refl w.heap.size w)
 have H : (r_Total.l0 k l0 0 0) = some r := h
 clear h
 have H' := am H
 clear H
 go_enter Try.func44, Try.ntmps44
 go_wp2
 go_loopg [3, 4] k (fun kq v3 v4 w' => ∃ (x3_1 : Int) (x4_1 : Int), v3 = .int .i64 x3_1 ∧ v4 = .int .i64 x4_1 ∧ Aside0 (r_Total.l0 kq l0 x3_1 x4_1 = some r) ∧ Aside0 (kq ≤ k) ∧ Aside0 (Below w.heap.size w w'))
 case atStart => exact ⟨(0), (0), sqD, sqD, H', ⟨Nat.le_refl _⟩, ⟨fW HB.out⟩⟩
 case round =>
  clear H'
  obtain ⟨x3_1, x4_1, rfl, rfl, HA, HK1, HB⟩ := hrel
  cases gk with
  | zero => exact absurd HA.out (by simp [r_Total.l0])
  | succ k1 =>
   have H := HA.out
   clear HA
   simp only [r_Total.l0] at H
   by_cases c2 : x4_1 < (l0.length : Int)
   ·rw [if_pos c2] at H
    have c2b0 : decide (x4_1 < (l0.length : Int)) = true := decide_eq_true c2
    clear c2
    by_cases c3 : 0 ≤ x4_1
    rotate_left
    ·rw [if_neg c3] at H
     exact absurd H (by simp)
    rw [if_pos c3] at H
    have c3b0 : decide (0 ≤ x4_1) = true := decide_eq_true c3
    clear c3
    have c4b0 := eq_true (of_decide_eq_true (by assumption) : 0 ≤ x4_1)
    by_cases c5 : x4_1 ≤ (l0.length : Int)
    rotate_left
    ·rw [if_neg c5] at H
     exact absurd H (by simp)
    rw [if_pos c5] at H
    have c5b0 := eq_true c5
    have c5b1 : decide (x4_1 ≤ (l0.length : Int)) = true := decide_eq_true c5
    clear c5
    obtain ⟨y657, hy657⟩ : ∃ y_ : List (S25), y_ = (l0.take (x4_1 : Int).toNat) := ⟨_, rfl⟩
    replace H : ((r_Rest.f k1 ((rd_T25 l0 x4_1).f0.f0) ((rd_T25 l0 x4_1).f0.f1) ((rd_T25 l0 x4_1).f0.f2) ((rd_T25 l0 x4_1).f1.f0) ((rd_T25 l0 x4_1).f1.f1) ((rd_T25 l0 x4_1).f1.f2) y657).bind fun bt661 => (r_Total.l1 k1 l0 x3_1 x4_1 bt661.1 0)) = some r := by first | (rw [hy657]; with_reducible exact H) | (have H2_ := (Option.bind_some _ _).symm.trans H; rw [hy657]; with_reducible exact H2_) | (have H2_ := (Option.bind_some _ _).symm.trans H; with_reducible exact H2_) | with_reducible exact H | (rw [hy657]; exact H) | exact H
    have Ny657 := am hy657
    clear hy657
    replace H := Option.bind_eq_some_iff.mp H
    obtain ⟨⟨t661, t664⟩, A60, H⟩ := H
    replace H : (r_Total.l1 k1 l0 x3_1 x4_1 t661 0) = some r := H
    have A6 := am A60
    clear A60
    have H' := am H
    clear H
    try go_wp2
    have n0_ := am (below_drew1 HB.out)
    clear HB
    have HB := n0_
    clear n0_
    have p656 : 0 ≤ (x4_1 : Int) := of_decide_eq_true (by assumption)
    have q656 : x4_1 < (l0.length : Int) := of_decide_eq_true (by assumption)
    obtain ⟨ad656, e656, hx656_0, hx656_1, hx656_2, hx656_3, hx656_4, hx656_5⟩ := at_T25 HR0.out x4_1 p656 q656
    have hw656_5 := hx656_5
    have hw656_4 := hx656_4
    have hw656_3 := hx656_3
    have hw656_2 := hx656_2
    have hw656_1 := hx656_1
    have hw656_0 := hx656_0
    cases e656
    replace hx656_0 := cl HB hx656_0
    replace hx656_1 := cl HB hx656_1
    replace hx656_2 := cl HB hx656_2
    replace hx656_3 := cl HB hx656_3
    replace hx656_4 := cl HB hx656_4
    replace hx656_5 := cl HB hx656_5
    replace p656 := eq_true p656
    replace q656 := eq_true q656
    have q8 : (x4_1 : Int) ≤ ((l0.length : Int) : Int) := of_decide_eq_true (by assumption)
    obtain ⟨i08, hi08, _, hsz8, _⟩ := info_parts info25
    have hroom8 : l0.length ≤ c0 := HC0.out
    have hC8 : Kd.C k25 _ (some ad656) l0.length l0 := HR0.out
    have hcut8 := cut_to (P := Try.prog) 26 25 .i64 Try.underlying26 hi08 (some ad656) l0.length c0 x4_1 (of_decide_eq_true (by assumption)) q8 hroom8
    have hr8 := Kd.C_take (m := (x4_1 : Int).toNat) hC8 (by omega)
    have hy8 : y657.length = (x4_1 : Int).toNat := (by rw [Ny657.out, List.length_take]; omega)
    rw [← Ny657.out] at hr8
    rw [← hy8] at hcut8
    have HR660 := am hr8
    have HC660 := am (show y657.length ≤ c0 from by omega)
    clear hr8 hC8 hroom8 hi08 hsz8
    have KY8 := am hy8
    clear hy8
    replace q8 := eq_true q8
    refine start_ (n := 13) (S := fun w' => w'.cell? (ad656.add ((x4_1).toNat * 6)) = some (.int .i64 ((rd_T25 l0 x4_1).f0.f0)) ∧ w'.cell? ⟨(ad656.add ((x4_1).toNat * 6)).block, (ad656.add ((x4_1).toNat * 6)).off + 1, none⟩ = some (.int .i64 ((rd_T25 l0 x4_1).f0.f1)) ∧ w'.cell? ⟨(ad656.add ((x4_1).toNat * 6)).block, (ad656.add ((x4_1).toNat * 6)).off + 2, none⟩ = some (.int .i64 ((rd_T25 l0 x4_1).f0.f2)) ∧ w'.cell? ⟨(ad656.add ((x4_1).toNat * 6)).block, (ad656.add ((x4_1).toNat * 6)).off + 3, none⟩ = some (.int .i64 ((rd_T25 l0 x4_1).f1.f0)) ∧ w'.cell? ⟨(ad656.add ((x4_1).toNat * 6)).block, (ad656.add ((x4_1).toNat * 6)).off + 4, none⟩ = some (.int .i64 ((rd_T25 l0 x4_1).f1.f1)) ∧ w'.cell? ⟨(ad656.add ((x4_1).toNat * 6)).block, (ad656.add ((x4_1).toNat * 6)).off + 5, none⟩ = some (.int .i64 ((rd_T25 l0 x4_1).f1.f2))) (ds := []) #[F,F,F,F,F,F,F,F,F,F,F,F,F] (by kernel_rfl) rfl rfl ⟨((HB.out.cell (bq w _ hw656_0)).trans hw656_0), ((HB.out.cell (bq w _ hw656_1)).trans hw656_1), ((HB.out.cell (bq w _ hw656_2)).trans hw656_2), ((HB.out.cell (bq w _ hw656_3)).trans hw656_3), ((HB.out.cell (bq w _ hw656_4)).trans hw656_4), ((HB.out.cell (bq w _ hw656_5)).trans hw656_5)⟩ (fun hHeld => ?_); refine with_tabW r_Total.tab5 r_Total.bits5 (fun HT_ HW_ => ?_)
    generalize wr.drew = w7 at HB HR660 hx656_0 hx656_1 hx656_2 hx656_3 hx656_4 hx656_5 hHeld ⊢
    refine pu (i := 0) (N := some 15) (fl 13 1 []) HT_ ?_
    refine pu (i := 1) (N := some 16) (fl 13 2 []) HT_ ?_
    refine pu (i := 2) (N := some 17) (fl 13 3 []) HT_ ?_
    refine pu (i := 4) (N := some 19) (fl 13 3 [4]) HT_ ?_
    refine pu (i := 5) (N := some 20) (fl 13 3 [4, 5]) HT_ ?_
    refine pu (i := 6) (N := some 21) (fl 13 3 [4, 5, 6]) HT_ ?_
    refine tk (i := 3) (N := some 18) (fl 13 7 []) HT_ HW_ hHeld ?_
    refine one_ (i := 7) (N := some 22) (fl 13 8 []) rfl rfl (one_of HT_.out (by kernel_rfl)) (by decide) (fun K hK => ?_)
    refine goes_ Try.func39 (by kernel_rfl) rfl #[.agg #[.int .i64 ((rd_T25 l0 x4_1).f0.f0), .int .i64 ((rd_T25 l0 x4_1).f0.f1), .int .i64 ((rd_T25 l0 x4_1).f0.f2), .int .i64 ((rd_T25 l0 x4_1).f1.f0), .int .i64 ((rd_T25 l0 x4_1).f1.f1), .int .i64 ((rd_T25 l0 x4_1).f1.f2)], .slice (some ad656) y657.length c0] (by rfl) rfl rfl (by (try simp only [pml]); first | done | rfl | (simp only [pdt]; rfl)) ?_
    with_reducible refine (r_Rest.calls k1 ((rd_T25 l0 x4_1).f0.f0) ((rd_T25 l0 x4_1).f0.f1) ((rd_T25 l0 x4_1).f0.f2) ((rd_T25 l0 x4_1).f1.f0) ((rd_T25 l0 x4_1).f1.f1) ((rd_T25 l0 x4_1).f1.f2) _ _ y657 t661 t664 _ ?side1 ?side2 A6.out).mono ?_
    (case side1 => repeat (first | exact (Kd.C_below HR660.out HB.out) | (with_reducible refine Kd.C_alloc ?_ _) | (with_reducible refine Kd.C_drewN ?_ _) | (with_reducible refine Kd.C_drew ?_)))
    (case side2 => exact HC660.out)
    rintro e w9 ⟨v662, rfl, ho0, hb⟩
    refine ⟨_, rfl, ?_⟩
    have n0_ := am (Kd.R_lower ho0 (below_size (fW HB.out)))
    have n1_ := bS HB hb
    clear HB
    have HO663 := n0_
    have HB := n1_
    clear n0_ n1_
    (try clear hb)
    (try clear hb2)
    (try clear hk)
    (try clear hi)
    (try clear ho0)
    refine hK.out _ _ ⟨((HB.out.cell (bq w _ hw656_0)).trans hw656_0), ((HB.out.cell (bq w _ hw656_1)).trans hw656_1), ((HB.out.cell (bq w _ hw656_2)).trans hw656_2), ((HB.out.cell (bq w _ hw656_3)).trans hw656_3), ((HB.out.cell (bq w _ hw656_4)).trans hw656_4), ((HB.out.cell (bq w _ hw656_5)).trans hw656_5)⟩ (fun hHeld => ?_)
    clear hK K
    refine norm_ (a' := ?_) ?_ ?_
    rotate_left
    ·show Act.put _ (some 22) _ = _
     simp only [Act.put, psl, i64_w, i32_w]
     rfl
    refine pu (i := 8) (N := some 14) (fl 13 9 []) HT_ ?_
    refine pu (i := 9) (N := some 23) (fl 13 10 []) HT_ ?_
    refine pu (i := 10) (N := some 24) (fl 13 11 []) HT_ ?_
    refine pu (i := 11) (N := some 5) (fl 13 12 []) HT_ ?_
    refine pu (i := 12) (N := some 6) (fl 13 13 []) HT_ ?_
    refine done_ (done_of HT_.out (by kernel_rfl)) ?_
    try go_wp2
    go_loopg [3, 7] k1 (fun kq v3 v7 w' => ∃ (x3_2 : Int) (x7_2 : Int), v3 = .int .i64 x3_2 ∧ v7 = .int .i64 x7_2 ∧ Aside0 (r_Total.l1 kq l0 x3_2 x4_1 t661 x7_2 = some r) ∧ Aside0 (kq ≤ k1) ∧ Aside0 (Kd.R k25 25 w' w.heap.size (fun _ => True) v662 t661) ∧ Aside0 (Below w.heap.size w w'))
    case atStart => exact ⟨(x3_1), (0), sqD, sqD, H', ⟨Nat.le_refl _⟩, ⟨fR HO663.out⟩, ⟨fW HB.out⟩⟩
    case round =>
     clear H'
     try clear c2;try clear c2b0;try clear p2;try clear c3;try clear c3b0;try clear c4;try clear c4b0;try clear c5;try clear c5b0;try clear c5b1;try clear p6;try clear q6;try clear hx6;try clear q8;try clear hx656_0;try clear hx656_1;try clear hx656_2;try clear hx656_3;try clear hx656_4;try clear hx656_5;try clear p656;try clear q656;try clear q8
     obtain ⟨x3_2, x7_2, rfl, rfl, HA, HK2, HO_5, HB⟩ := hrel
     cases gk with
     | zero => exact absurd HA.out (by simp [r_Total.l1])
     | succ k2 =>
      have H := HA.out
      clear HA
      simp only [r_Total.l1] at H
      by_cases c10 : x7_2 < (t661.length : Int)
      rotate_left
      ·rw [if_neg c10] at H
       have c10b0 : decide (x7_2 < (t661.length : Int)) = false := decide_eq_false c10
       clear c10
       have H' := am H
       clear H
       obtain ⟨Ao15, co15, eo15⟩ := Kd.R_slice HO_5.out
       subst eo15
       go_wp2
       go_roundg k2
       case measure => have := HK1.out; have := HK2.out; omega
       case rel => exact ⟨(x3_2), (wrap64 (x4_1 + 1)), sqD, sqD, H', ⟨by have := HK1.out; have := HK2.out; omega⟩, ⟨fW HB.out⟩⟩
      rw [if_pos c10] at H
      have c10b0 : decide (x7_2 < (t661.length : Int)) = true := decide_eq_true c10
      clear c10
      by_cases c11 : 0 ≤ x7_2
      rotate_left
      ·rw [if_neg c11] at H
       exact absurd H (by simp)
      rw [if_pos c11] at H
      have c11b0 : decide (0 ≤ x7_2) = true := decide_eq_true c11
      clear c11
      replace H := Option.bind_eq_some_iff.mp H
      obtain ⟨t666, A120, H⟩ := H
      replace H : (r_Total.l1 k2 l0 (wrap64 (x3_2 + t666)) x4_1 t661 (wrap64 (x7_2 + 1))) = some r := H
      have A12 := am A120
      clear A120
      have H' := am H
      clear H
      obtain ⟨Ao13, co13, eo13⟩ := Kd.R_slice HO_5.out
      subst eo13
      have p665 : 0 ≤ (x7_2 : Int) := of_decide_eq_true (by assumption)
      have q665 : x7_2 < (t661.length : Int) := of_decide_eq_true (by assumption)
      obtain ⟨ad665, e665, hx665_0, hx665_1, hx665_2, hx665_3, hx665_4, hx665_5⟩ := at_T25 (Kd.R_reads' HO_5.out).2.2 x7_2 p665 q665
      cases e665
      replace p665 := eq_true p665
      replace q665 := eq_true q665
      go_wp2_with (first | ((with_reducible refine gate_callee (f := 24) rfl ?_); refine goesL_ (some 36) rfl rfl Try.func24 (by kernel_rfl) rfl #[.agg #[.int .i64 ((rd_T25 t661 x7_2).f0.f0), .int .i64 ((rd_T25 t661 x7_2).f0.f1), .int .i64 ((rd_T25 t661 x7_2).f0.f2), .int .i64 ((rd_T25 t661 x7_2).f1.f0), .int .i64 ((rd_T25 t661 x7_2).f1.f1), .int .i64 ((rd_T25 t661 x7_2).f1.f2)]] rfl (by (try simp only [pml]); first | done | rfl | (simp only [pdt]; rfl)) ?_; (with_reducible refine (r_Volume.calls ((rd_T25 t661 x7_2).f0.f0) ((rd_T25 t661 x7_2).f0.f1) ((rd_T25 t661 x7_2).f0.f2) ((rd_T25 t661 x7_2).f1.f0) ((rd_T25 t661 x7_2).f1.f1) ((rd_T25 t661 x7_2).f1.f2) t666 _ A12.out).mono ?_); rintro e w14 ⟨rfl, hb⟩; refine ⟨_, rfl, ?_⟩; replace HO_5 := dR HO_5 hb; replace HB := bS HB hb; (try clear hb); (try clear hb2); (try clear hk); (try clear hi)))
      go_roundg k2
      case measure => have := HK1.out; have := HK2.out; omega
      case rel => exact ⟨(wrap64 (x3_2 + t666)), (wrap64 (x7_2 + 1)), sqD, sqD, H', ⟨by have := HK1.out; have := HK2.out; omega⟩, ⟨fR HO_5.out⟩, ⟨fW HB.out⟩⟩
   ·rw [if_neg c2] at H
    have c2b0 : decide (x4_1 < (l0.length : Int)) = false := decide_eq_false c2
    clear c2
    obtain rfl := Option.some.inj H
    go_wp2
    go_ret
    exact ⟨sqE, fW HB.out⟩

def r_Before.f (a0_0 : Int) (a0_1 : Int) (a0_2 : Int) (a1_0 : Int) (a1_1 : Int) (a1_2 : Int) : Option (Bool) := if a0_2 = a1_2 then (if a0_1 = a1_1 then (some (decide (a0_0 < a1_0))) else (some (decide (a0_1 < a1_1)))) else (some (decide (a0_2 < a1_2)))
set_option maxHeartbeats 8000000 in
set_option maxRecDepth 100000 in
theorem r_Before.calls (a0_0 : Int) (a0_1 : Int) (a0_2 : Int) (a1_0 : Int) (a1_1 : Int) (a1_2 : Int) (r : Bool) (w : World) (h : r_Before.f a0_0 a0_1 a0_2 a1_0 a1_1 a1_2 = some r) :
  Calls Try.prog 66 #[.agg #[.int .i64 a0_0, .int .i64 a0_1, .int .i64 a0_2], .agg #[.int .i64 a1_0, .int .i64 a1_1, .int .i64 a1_2]] w fun e w' => e = .returned (.bool r) ∧ Below w.heap.size w w' := by
 have hu23 := Try.underlying23
 have HB := am (Below.refl w.heap.size w)
 have H : (if a0_2 = a1_2 then (if a0_1 = a1_1 then (some (decide (a0_0 < a1_0))) else (some (decide (a0_1 < a1_1)))) else (some (decide (a0_2 < a1_2)))) = some r := h
 clear h
 by_cases c3 : a0_2 = a1_2
 ·rw [if_pos c3] at H
  have c3b0 : (a0_2 == a1_2) = true := beq_iff_eq.mpr c3
  have c3b1 : (a0_2 != a1_2) = false := bne_eq_false_iff_eq.mpr c3
  clear c3
  by_cases c4 : a0_1 = a1_1
  ·rw [if_pos c4] at H
   have c4b0 : (a0_1 == a1_1) = true := beq_iff_eq.mpr c4
   have c4b1 : (a0_1 != a1_1) = false := bne_eq_false_iff_eq.mpr c4
   clear c4
   obtain rfl := Option.some.inj H
   go_enter Try.func66, Try.ntmps66
   go_wp2_with (first | ((with_reducible refine gate_dst (N := 2) rfl ?_); refine box_event ?hg (N := 2) ?hd (cs := #[.int .i64 a0_0, .int .i64 a0_1, .int .i64 a0_2]) (t := 23) ?hr ?_; (case hd | hg => rfl); (case hr => first | (go_simp; done) | (go_simp; rfl)); intro gb667 hg w5 hbox hb; have BK667 := am hbox; have GW667 := sG HB hg; have GE667 := sG HB hg; replace HB := bS HB hb; clear hb hbox hg) | ((with_reducible refine gate_dst (N := 3) rfl ?_); refine box_event ?hg (N := 3) ?hd (cs := #[.int .i64 a1_0, .int .i64 a1_1, .int .i64 a1_2]) (t := 23) ?hr ?_; (case hd | hg => rfl); (case hr => first | (go_simp; done) | (go_simp; rfl)); intro gb668 hg w6 hbox hb; have BK668 := am hbox; have GW668 := sG HB hg; have GE668 := sG HB hg; replace HB := bS HB hb; have NB667_668 := nL BK667 hg; have NB668_667 := nG BK667 hg; replace BK667 := bB BK667 hb; clear hb hbox hg; have hnb7 := NB667_668.out; have hnc7 := NB668_667.out; obtain ⟨_, _, _, _, _, _⟩ := zC3 BK667; obtain ⟨_, _, _, _, _, _⟩ := zC3 BK668))
   go_ret
   exact ⟨sqE, fW HB.out⟩
  rw [if_neg c4] at H
  have c4b0 : (a0_1 == a1_1) = false := beq_eq_false_iff_ne.mpr c4
  have c4b1 : (a0_1 != a1_1) = true := bne_iff_ne.mpr c4
  obtain rfl := Option.some.inj H
  go_enter Try.func66, Try.ntmps66
  go_wp2_with (first | ((with_reducible refine gate_dst (N := 2) rfl ?_); refine box_event ?hg (N := 2) ?hd (cs := #[.int .i64 a0_0, .int .i64 a0_1, .int .i64 a0_2]) (t := 23) ?hr ?_; (case hd | hg => rfl); (case hr => first | (go_simp; done) | (go_simp; rfl)); intro gb667 hg w10 hbox hb; have BK667 := am hbox; have GW667 := sG HB hg; have GE667 := sG HB hg; replace HB := bS HB hb; clear hb hbox hg) | ((with_reducible refine gate_dst (N := 3) rfl ?_); refine box_event ?hg (N := 3) ?hd (cs := #[.int .i64 a1_0, .int .i64 a1_1, .int .i64 a1_2]) (t := 23) ?hr ?_; (case hd | hg => rfl); (case hr => first | (go_simp; done) | (go_simp; rfl)); intro gb668 hg w11 hbox hb; have BK668 := am hbox; have GW668 := sG HB hg; have GE668 := sG HB hg; replace HB := bS HB hb; have NB667_668 := nL BK667 hg; have NB668_667 := nG BK667 hg; replace BK667 := bB BK667 hb; clear hb hbox hg; have hnb12 := NB667_668.out; have hnc12 := NB668_667.out; obtain ⟨_, _, _, _, _, _⟩ := zC3 BK667; obtain ⟨_, _, _, _, _, _⟩ := zC3 BK668))
  go_ret
  exact ⟨sqE, fW HB.out⟩
 ·rw [if_neg c3] at H
  have c3b0 : (a0_2 == a1_2) = false := beq_eq_false_iff_ne.mpr c3
  have c3b1 : (a0_2 != a1_2) = true := bne_iff_ne.mpr c3
  obtain rfl := Option.some.inj H
  go_enter Try.func66, Try.ntmps66
  go_wp2_with (first | ((with_reducible refine gate_dst (N := 2) rfl ?_); refine box_event ?hg (N := 2) ?hd (cs := #[.int .i64 a0_0, .int .i64 a0_1, .int .i64 a0_2]) (t := 23) ?hr ?_; (case hd | hg => rfl); (case hr => first | (go_simp; done) | (go_simp; rfl)); intro gb667 hg w15 hbox hb; have BK667 := am hbox; have GW667 := sG HB hg; have GE667 := sG HB hg; replace HB := bS HB hb; clear hb hbox hg) | ((with_reducible refine gate_dst (N := 3) rfl ?_); refine box_event ?hg (N := 3) ?hd (cs := #[.int .i64 a1_0, .int .i64 a1_1, .int .i64 a1_2]) (t := 23) ?hr ?_; (case hd | hg => rfl); (case hr => first | (go_simp; done) | (go_simp; rfl)); intro gb668 hg w16 hbox hb; have BK668 := am hbox; have GW668 := sG HB hg; have GE668 := sG HB hg; replace HB := bS HB hb; have NB667_668 := nL BK667 hg; have NB668_667 := nG BK667 hg; replace BK667 := bB BK667 hb; clear hb hbox hg; have hnb17 := NB667_668.out; have hnc17 := NB668_667.out; obtain ⟨_, _, _, _, _, _⟩ := zC3 BK667; obtain ⟨_, _, _, _, _, _⟩ := zC3 BK668))
  go_ret
  exact ⟨sqE, fW HB.out⟩

end Go.Proofs.Ytmmdikhmlmoolaa.QA
