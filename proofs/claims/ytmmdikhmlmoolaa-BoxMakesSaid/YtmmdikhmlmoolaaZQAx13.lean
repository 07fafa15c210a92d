import Derived.Test.YtmmdikhmlmoolaaZQAx0
import Derived.Test.YtmmdikhmlmoolaaZQAx5
import Derived.Test.YtmmdikhmlmoolaaZQAx6
namespace Go.Proofs.Ytmmdikhmlmoolaa.QA
open Go.RowKit Go.Proofs.YtmmdikhmlmoolaaW.PrintWords Go.Proofs.YtmmdikhmlmoolaaW.PrintLast Go.Proofs.YtmmdikhmlmoolaaW.PrintMore
open Go.Proofs.YtmmdikhmlmoolaaW.PrintWords renaming blk_drewN → bN, blk_drew → bd, blk_alloc → ba, blk_frozen → bf
open Aside0 renaming mk → am
attribute [local go_sem] max2_int min2_int max_two min_two max_three min_three max_four min_four
set_option linter.unusedVariables false
set_option linter.unusedSimpArgs false

mutual
def box_Rest.l0 : Nat → List (S25) → List (S25) → Int → Int → Option ((List (S25)) × Int)
 | 0, _, _, _, _ => none
 | k + 1, x7, x22, x23, x24 => if x24 < x23 then (if 0 ≤ x24 then (if x24 < (x22.length : Int) then (box_Rest.l1 k ([] : List (S25)) x22 x23 x24 x7 (x7.length : Int) 0 ((rd_T25 x22 x24).f0.f0) ((rd_T25 x22 x24).f0.f1) ((rd_T25 x22 x24).f0.f2) ((rd_T25 x22 x24).f1.f0) ((rd_T25 x22 x24).f1.f1) ((rd_T25 x22 x24).f1.f2)) else (none)) else (none)) else (some (x7, 0))
def box_Rest.l1 : Nat → List (S25) → List (S25) → Int → Int → List (S25) → Int → Int → Int → Int → Int → Int → Int → Int → Option ((List (S25)) × Int)
 | 0, _, _, _, _, _, _, _, _, _, _, _, _, _ => none
 | k + 1, x10, x22, x23, x24, x28, x29, x30, x349000, x349001, x349002, x349003, x349004, x349005 => if x30 < x29 then (if 0 ≤ x30 then (if x30 < (x28.length : Int) then ((box_subtract.f ((rd_T25 x28 x30).f0.f0) ((rd_T25 x28 x30).f0.f1) ((rd_T25 x28 x30).f0.f2) ((rd_T25 x28 x30).f1.f0) ((rd_T25 x28 x30).f1.f1) ((rd_T25 x28 x30).f1.f2) x349000 x349001 x349002 x349003 x349004 x349005).bind fun t351 => (if x10.length + t351.length < 2932031007402 then (box_Rest.l1 k (x10 ++ t351) x22 x23 x24 x28 x29 (wrap64 (x30 + 1)) x349000 x349001 x349002 x349003 x349004 x349005) else (none))) else (none)) else (none)) else (if (x10.length : Int) > 4096 then (some (([] : List (S25)), 7)) else (box_Rest.l0 k x10 x22 x23 (wrap64 (x24 + 1))))
end
def box_Rest.f (k : Nat) (a0_0 : Int) (a0_1 : Int) (a0_2 : Int) (a0_3 : Int) (a0_4 : Int) (a0_5 : Int) (l1 : List (S25)) : Option ((List (S25)) × Int) := (box_many.f k l1 (([(⟨(⟨a0_0, a0_1, a0_2⟩ : S23), (⟨a0_3, a0_4, a0_5⟩ : S23)⟩ : S25)] : List (S25)))).bind fun t343 => (if t343 = 0 then (box_Rest.l0 k (([(⟨(⟨a0_0, a0_1, a0_2⟩ : S23), (⟨a0_3, a0_4, a0_5⟩ : S23)⟩ : S25)] : List (S25))) l1 (l1.length : Int) 0) else (some (([] : List (S25)), t343)))
set_option maxHeartbeats 8000000 in
set_option maxRecDepth 100000 in
theorem box_Rest.calls (k : Nat) (a0_0 : Int) (a0_1 : Int) (a0_2 : Int) (a0_3 : Int) (a0_4 : Int) (a0_5 : Int) (A1 : Option Addr) (c1 : Nat) (l1 : List (S25)) (r1 : List (S25)) (r2 : Int) (w : World) (hr1 : Kd.C k25 w A1 l1.length l1) (hc1 : l1.length ≤ c1) (h : box_Rest.f k a0_0 a0_1 a0_2 a0_3 a0_4 a0_5 l1 = some (r1, r2)) :
  Calls Try.prog 13 #[.agg #[.int .i64 a0_0, .int .i64 a0_1, .int .i64 a0_2, .int .i64 a0_3, .int .i64 a0_4, .int .i64 a0_5], .slice A1 l1.length c1] w fun e w' => ∃ v0_ : Value, e = .returned (.tuple #[v0_, .int .i64 r2]) ∧ Kd.R k25 25 w' w.heap.size (fun _ => True) v0_ r1 ∧ Below w.heap.size w w' := by
 have hu25 := Try.underlying25
 have HR1 := am hr1
 have HC1 := am hc1
 clear hr1 hc1
 have HB := am (Below.refl w.heap.size w)
 have H : ((box_many.f k l1 (([(⟨(⟨a0_0, a0_1, a0_2⟩ : S23), (⟨a0_3, a0_4, a0_5⟩ : S23)⟩ : S25)] : List (S25)))).bind fun t343 => (if t343 = 0 then (box_Rest.l0 k (([(⟨(⟨a0_0, a0_1, a0_2⟩ : S23), (⟨a0_3, a0_4, a0_5⟩ : S23)⟩ : S25)] : List (S25))) l1 (l1.length : Int) 0) else (some (([] : List (S25)), t343)))) = some (r1, r2) := h
 clear h
 obtain ⟨y340, hy340⟩ : ∃ y_ : List (S25), y_ = (([(⟨(⟨a0_0, a0_1, a0_2⟩ : S23), (⟨a0_3, a0_4, a0_5⟩ : S23)⟩ : S25)] : List (S25))) := ⟨_, rfl⟩
 replace H : ((box_many.f k l1 y340).bind fun t343 => (if t343 = 0 then (box_Rest.l0 k (([(⟨(⟨a0_0, a0_1, a0_2⟩ : S23), (⟨a0_3, a0_4, a0_5⟩ : S23)⟩ : S25)] : List (S25))) l1 (l1.length : Int) 0) else (some (([] : List (S25)), t343)))) = some (r1, r2) := by first | (rw [hy340]; with_reducible exact H) | (have H2_ := (Option.bind_some _ _).symm.trans H; rw [hy340]; with_reducible exact H2_) | (have H2_ := (Option.bind_some _ _).symm.trans H; with_reducible exact H2_) | with_reducible exact H | (rw [hy340]; exact H) | exact H
 have Ny340 := am hy340
 clear hy340
 replace H := Option.bind_eq_some_iff.mp H
 obtain ⟨t343, A30, H⟩ := H
 replace H : (if t343 = 0 then (box_Rest.l0 k (([(⟨(⟨a0_0, a0_1, a0_2⟩ : S23), (⟨a0_3, a0_4, a0_5⟩ : S23)⟩ : S25)] : List (S25))) l1 (l1.length : Int) 0) else (some (([] : List (S25)), t343))) = some (r1, r2) := H
 have A3 := am A30
 clear A30
 by_cases c4 : t343 = 0
 ·rw [if_pos c4] at H
  have c4b0 : (t343 == 0) = true := beq_iff_eq.mpr c4
  have c4b1 : (t343 != 0) = false := bne_eq_false_iff_eq.mpr c4
  clear c4
  obtain ⟨y344, hy344⟩ : ∃ y_ : List (S25), y_ = (([(⟨(⟨a0_0, a0_1, a0_2⟩ : S23), (⟨a0_3, a0_4, a0_5⟩ : S23)⟩ : S25)] : List (S25))) := ⟨_, rfl⟩
  replace H : (box_Rest.l0 k y344 l1 (l1.length : Int) 0) = some (r1, r2) := by first | (rw [hy344]; with_reducible exact H) | (have H2_ := (Option.bind_some _ _).symm.trans H; rw [hy344]; with_reducible exact H2_) | (have H2_ := (Option.bind_some _ _).symm.trans H; with_reducible exact H2_) | with_reducible exact H | (rw [hy344]; exact H) | exact H
  have Ny344 := am hy344
  clear hy344
  have H' := am H
  clear H
  go_enter Try.func13, Try.ntmps13
  go_wp2_with (first | ((with_reducible refine gate_dst (N := 2) rfl ?_); refine box_event ?hg (N := 2) ?hd (cs := #[.int .i64 a0_0, .int .i64 a0_1, .int .i64 a0_2, .int .i64 a0_3, .int .i64 a0_4, .int .i64 a0_5]) (t := 25) ?hr ?_; (case hd | hg => rfl); (case hr => first | (go_simp; done) | (go_simp; rfl)); intro gb339 hg w5 hbox hb; have BK339 := am hbox; have GW339 := sG HB hg; have GE339 := sG HB hg; replace HB := bS HB hb; clear hb hbox hg; obtain ⟨_, _, _, _, _, _, _, _, _, _, _, _⟩ := zC6 BK339) | ((with_reducible refine gate_dst (N := 15) rfl ?_); refine Kd.R_lit k25 _ 25 ?hg (N := 15) ?hd (xs := ([(⟨(⟨a0_0, a0_1, a0_2⟩ : S23), (⟨a0_3, a0_4, a0_5⟩ : S23)⟩ : S25)] : List (S25))) (inner := [.int .i64 a0_0, .int .i64 a0_1, .int .i64 a0_2, .int .i64 a0_3, .int .i64 a0_4, .int .i64 a0_5]) (ok := fun _ => True) (okp := fun _ => True) ?hr ?hp (fun _ hk => hk) trivial (Below.refl _ _) (Nat.le_refl _) (by simp) ?_; (case hd | hg => rfl); (case hr => first | (go_simp; done) | (go_simp; rfl)); (case hp => exact (Reps.c6 (show Kd.M k25 _ _ _ (⟨(⟨a0_0, a0_1, a0_2⟩ : S23), (⟨a0_3, a0_4, a0_5⟩ : S23)⟩ : S25) [.int .i64 a0_0, .int .i64 a0_1, .int .i64 a0_2, .int .i64 a0_3, .int .i64 a0_4, .int .i64 a0_5] from (k25_mkM _ _ _ (⟨(⟨a0_0, a0_1, a0_2⟩ : S23), (⟨a0_3, a0_4, a0_5⟩ : S23)⟩ : S25) )) (Reps.none _ _))); intro v341 w7 ho8 hb hg_ hnew_; clear hg_ hnew_; (first | rw [← Ny340.out] at ho8 | (simp only [Int.reduceToNat] at ho8; rw [← Ny340.out] at ho8)); have HO342 := am (Kd.R_lower (Kd.R_newB ho8 (g := gb339) (o := .cells #[.int .i64 a0_0, .int .i64 a0_1, .int .i64 a0_2, .int .i64 a0_3, .int .i64 a0_4, .int .i64 a0_5] 25 (0, 0)) (fb BK339.out)) (below_size (fW HB.out))); replace BK339 := bB BK339 hb; replace HB := bS HB hb; clear hb ho8; obtain ⟨Ao9, co9, eo9⟩ := Kd.R_slice HO342.out; subst eo9) | ((with_reducible refine gate_callee (f := 48) rfl ?_); refine goesL_ (some 16) rfl rfl Try.func48 (by kernel_rfl) rfl #[.slice A1 l1.length c1, .slice Ao9 y340.length co9] rfl (by (try simp only [pml]); first | done | rfl | (simp only [pdt]; rfl)) ?_; (with_reducible refine (box_many.calls k _ _ l1 _ _ y340 t343 _ ?side1 ?side2 ?side3 ?side4 A3.out).mono ?_); (case side1 => repeat (first | exact (Kd.C_below HR1.out HB.out) | (with_reducible refine Kd.C_alloc ?_ _) | (with_reducible refine Kd.C_drewN ?_ _) | (with_reducible refine Kd.C_drew ?_))); (case side2 => exact HC1.out); (case side3 => repeat (first | exact (Kd.R_reads' HO342.out).2.2 | (with_reducible refine Kd.C_alloc ?_ _) | (with_reducible refine Kd.C_drewN ?_ _) | (with_reducible refine Kd.C_drew ?_))); (case side4 => exact (Kd.R_reads' HO342.out).2.1); rintro e w10 ⟨rfl, hb⟩; refine ⟨_, rfl, ?_⟩; replace HO342 := dR HO342 hb; replace BK339 := bB BK339 hb; replace HB := bS HB hb; (try clear hb); (try clear hb2); (try clear hk); (try clear hi); obtain ⟨_, _, _, _, _, _, _, _, _, _, _, _⟩ := zC6 BK339) | ((with_reducible refine gate_dst (N := 21) rfl ?_); refine Kd.R_lit k25 _ 25 ?hg (N := 21) ?hd (xs := ([(⟨(⟨a0_0, a0_1, a0_2⟩ : S23), (⟨a0_3, a0_4, a0_5⟩ : S23)⟩ : S25)] : List (S25))) (inner := [.int .i64 a0_0, .int .i64 a0_1, .int .i64 a0_2, .int .i64 a0_3, .int .i64 a0_4, .int .i64 a0_5]) (ok := fun _ => True) (okp := fun _ => True) ?hr ?hp (fun _ hk => hk) trivial (Below.refl _ _) (Nat.le_refl _) (by simp) ?_; (case hd | hg => rfl); (case hr => first | (go_simp; done) | (go_simp; rfl)); (case hp => exact (Reps.c6 (show Kd.M k25 _ _ _ (⟨(⟨a0_0, a0_1, a0_2⟩ : S23), (⟨a0_3, a0_4, a0_5⟩ : S23)⟩ : S25) [.int .i64 a0_0, .int .i64 a0_1, .int .i64 a0_2, .int .i64 a0_3, .int .i64 a0_4, .int .i64 a0_5] from (k25_mkM _ _ _ (⟨(⟨a0_0, a0_1, a0_2⟩ : S23), (⟨a0_3, a0_4, a0_5⟩ : S23)⟩ : S25) )) (Reps.none _ _))); intro v345 w12 ho13 hb hg_ hnew_; clear hg_ hnew_; (first | rw [← Ny344.out] at ho13 | (simp only [Int.reduceToNat] at ho13; rw [← Ny344.out] at ho13)); have HO346 := am (Kd.R_lower (Kd.R_newB (Kd.R_new' ho13 (Kd.R_lt (fR HO342.out))) (g := gb339) (o := .cells #[.int .i64 a0_0, .int .i64 a0_1, .int .i64 a0_2, .int .i64 a0_3, .int .i64 a0_4, .int .i64 a0_5] 25 (0, 0)) (fb BK339.out)) (below_size (fW HB.out))); replace HO342 := am (Kd.R_elder' (fR HO342.out) (Kd.R_base ho13) hb); replace BK339 := bB BK339 hb; replace HB := bS HB hb; clear hb ho13))
  go_loopg [7, 24] k (fun kq v7 v24 w' => ∃ (x7_1 : List (S25)) (x24_1 : Int), v24 = .int .i64 x24_1 ∧ Aside0 (box_Rest.l0 kq x7_1 l1 (l1.length : Int) x24_1 = some (r1, r2)) ∧ Aside0 (kq ≤ k) ∧ Aside0 (Kd.R k25 25 w' w.heap.size (fun k_ => k_ ≠ gb339) v7 x7_1) ∧ Aside0 (w'.heap[gb339]? = some (.cells #[.int .i64 a0_0, .int .i64 a0_1, .int .i64 a0_2, .int .i64 a0_3, .int .i64 a0_4, .int .i64 a0_5] 25 (0, 0))) ∧ Aside0 (Below w.heap.size w w'))
  case atStart => exact ⟨(y344), (0), sqD, H', ⟨Nat.le_refl _⟩, ⟨by (with_reducible repeat (first | apply Kd.R_alloc | apply Kd.R_drewN | apply Kd.R_drew)); exact Kd.R_mono HO346.out (fun _ hk => hk.2)⟩, ⟨fb BK339.out⟩, ⟨fW HB.out⟩⟩
  case round =>
   clear H'
   try clear c1;try clear p2;try clear c4;try clear c4b0;try clear c4b1;try clear c6;try clear c13
   obtain ⟨x7_1, x24_1, rfl, HA, HK1, HO_7, BK339, HB⟩ := hrel
   cases gk with
   | zero => exact absurd HA.out (by simp [box_Rest.l0])
   | succ k1 =>
    have H := HA.out
    clear HA
    simp only [box_Rest.l0] at H
    by_cases c14 : x24_1 < (l1.length : Int)
    rotate_left
    ·rw [if_neg c14] at H
     have c14b0 : decide (x24_1 < (l1.length : Int)) = false := decide_eq_false c14
     clear c14
     simp only [Option.some.injEq, Prod.mk.injEq] at H
     obtain ⟨rfl, rfl⟩ := H
     go_wp2
     go_ret2
     exact ⟨_, sqE, by (with_reducible repeat (first | apply Kd.R_alloc | apply Kd.R_drewN | apply Kd.R_drew)); exact Kd.R_mono HO_7.out (fun _ hk => trivial), fW HB.out⟩
    rw [if_pos c14] at H
    have c14b0 : decide (x24_1 < (l1.length : Int)) = true := decide_eq_true c14
    clear c14
    by_cases c15 : 0 ≤ x24_1
    rotate_left
    ·rw [if_neg c15] at H
     exact absurd H (by simp)
    rw [if_pos c15] at H
    have c15b0 : decide (0 ≤ x24_1) = true := decide_eq_true c15
    clear c15
    by_cases c16 : x24_1 < (l1.length : Int)
    rotate_left
    ·rw [if_neg c16] at H
     exact absurd H (by simp)
    rw [if_pos c16] at H
    have c16b0 : decide (x24_1 < (l1.length : Int)) = true := decide_eq_true c16
    clear c16
    have H' := am H
    clear H
    have p347 : 0 ≤ (x24_1 : Int) := of_decide_eq_true (by assumption)
    have q347 : x24_1 < (l1.length : Int) := of_decide_eq_true (by assumption)
    obtain ⟨ad347, e347, hx347_0, hx347_1, hx347_2, hx347_3, hx347_4, hx347_5⟩ := at_T25 HR1.out x24_1 p347 q347
    cases e347
    replace hx347_0 := cl HB hx347_0
    replace hx347_1 := cl HB hx347_1
    replace hx347_2 := cl HB hx347_2
    replace hx347_3 := cl HB hx347_3
    replace hx347_4 := cl HB hx347_4
    replace hx347_5 := cl HB hx347_5
    replace p347 := eq_true p347
    replace q347 := eq_true q347
    go_wp2_with (first | ((with_reducible refine gate_dst (N := 9) rfl ?_); refine box_event ?hg (N := 9) ?hd (cs := #[.int .i64 0, .int .i64 0, .int .i64 0, .int .i64 0, .int .i64 0, .int .i64 0]) (t := 25) ?hr ?_; (case hd | hg => rfl); (case hr => first | (go_simp; done) | (go_simp; rfl)); intro gb348 hg w17 hbox hb; replace HO_7 := eR HO_7 hg hb; have BK348 := am hbox; have GW348 := sG HB hg; have GE348 := sG HB hg; replace HB := bS HB hb; have NB339_348 := nL BK339 hg; have NB348_339 := nG BK339 hg; replace BK339 := bB BK339 hb; clear hb hbox hg; have hnb18 := NB348_339.out; have hnc18 := NB339_348.out; obtain ⟨_, _, _, _, _, _, _, _, _, _, _, _⟩ := zC6 BK348; obtain ⟨Ao20, co20, eo20⟩ := Kd.R_slice HO_7.out; subst eo20))
    go_loopg [10, 30] k1 (fun kq v10 v30 w' => ∃ (x10_2 : List (S25)) (x30_2 : Int), v30 = .int .i64 x30_2 ∧ Aside0 (box_Rest.l1 kq x10_2 l1 (l1.length : Int) x24_1 x7_1 (x7_1.length : Int) x30_2 ((rd_T25 l1 x24_1).f0.f0) ((rd_T25 l1 x24_1).f0.f1) ((rd_T25 l1 x24_1).f0.f2) ((rd_T25 l1 x24_1).f1.f0) ((rd_T25 l1 x24_1).f1.f1) ((rd_T25 l1 x24_1).f1.f2) = some (r1, r2)) ∧ Aside0 (kq ≤ k1) ∧ Aside0 (Kd.R k25 25 w' w.heap.size (fun k_ => some k_ ≠ ((.slice Ao20 x7_1.length co20) : Value).ownBlock ∧ k_ ≠ gb339 ∧ k_ ≠ gb348) v10 x10_2) ∧ Aside0 (Kd.R k25 25 w' w.heap.size (fun k_ => some k_ ≠ (v10 : Value).ownBlock ∧ k_ ≠ gb339 ∧ k_ ≠ gb348) (.slice Ao20 x7_1.length co20) x7_1) ∧ Aside0 (w'.heap[gb339]? = some (.cells #[.int .i64 a0_0, .int .i64 a0_1, .int .i64 a0_2, .int .i64 a0_3, .int .i64 a0_4, .int .i64 a0_5] 25 (0, 0))) ∧ Aside0 (w'.heap[gb348]? = some (.cells #[.int .i64 ((rd_T25 l1 x24_1).f0.f0), .int .i64 ((rd_T25 l1 x24_1).f0.f1), .int .i64 ((rd_T25 l1 x24_1).f0.f2), .int .i64 ((rd_T25 l1 x24_1).f1.f0), .int .i64 ((rd_T25 l1 x24_1).f1.f1), .int .i64 ((rd_T25 l1 x24_1).f1.f2)] 25 (0, 0))) ∧ Aside0 (Below w.heap.size w w'))
    case atStart => exact ⟨(([] : List (S25))), (0), sqD, H', ⟨Nat.le_refl _⟩, ⟨by first | exact Kd.R_nil _ _ _ _ _ | exact Kd.N_nil _ _ _ _ _ | exact Kd.V_nil _ _ _ _ _ | exact Kd.Q_nil _ _ _ _ _ | exact Kd.S_nil _ _ _ _ _⟩, ⟨by (with_reducible repeat (first | apply Kd.R_alloc | apply Kd.R_drewN | apply Kd.R_drew)); exact Kd.R_mono (Kd.R_far (p := ⟨gb348, 5, none⟩) (Kd.R_far (p := ⟨gb348, 4, none⟩) (Kd.R_far (p := ⟨gb348, 3, none⟩) (Kd.R_far (p := ⟨gb348, 2, none⟩) (Kd.R_far (p := ⟨gb348, 1, none⟩) (Kd.R_far (p := ⟨gb348, 0, none⟩) (Kd.R_mono HO_7.out (fun k_ hk => (⟨hk, hk.2⟩ : _ ∧ k_ ≠ gb348))) (fun _ hk => hk.2) (.int .i64 ((rd_T25 l1 x24_1).f0.f0))) (fun _ hk => hk.2) (.int .i64 ((rd_T25 l1 x24_1).f0.f1))) (fun _ hk => hk.2) (.int .i64 ((rd_T25 l1 x24_1).f0.f2))) (fun _ hk => hk.2) (.int .i64 ((rd_T25 l1 x24_1).f1.f0))) (fun _ hk => hk.2) (.int .i64 ((rd_T25 l1 x24_1).f1.f1))) (fun _ hk => hk.2) (.int .i64 ((rd_T25 l1 x24_1).f1.f2))) (fun _ hk => ⟨(by simp [Value.ownBlock]), ⟨hk.1.1, hk.1.2⟩⟩)⟩, ⟨by (with_reducible repeat first | apply bN | apply bd | apply ba); refine blk_far ?_ NB339_348.out _; (with_reducible repeat first | apply bN | apply bd | apply ba); refine blk_far ?_ NB339_348.out _; (with_reducible repeat first | apply bN | apply bd | apply ba); refine blk_far ?_ NB339_348.out _; (with_reducible repeat first | apply bN | apply bd | apply ba); refine blk_far ?_ NB339_348.out _; (with_reducible repeat first | apply bN | apply bd | apply ba); refine blk_far ?_ NB339_348.out _; (with_reducible repeat first | apply bN | apply bd | apply ba); refine blk_far ?_ NB339_348.out _; (with_reducible repeat first | apply bN | apply bd | apply ba); exact BK339.out⟩, ⟨by (with_reducible repeat first | apply bN | apply bd | apply ba); refine blk_put (cs := #[.int .i64 ((rd_T25 l1 x24_1).f0.f0), .int .i64 ((rd_T25 l1 x24_1).f0.f1), .int .i64 ((rd_T25 l1 x24_1).f0.f2), .int .i64 ((rd_T25 l1 x24_1).f1.f0), .int .i64 ((rd_T25 l1 x24_1).f1.f1), .int .i64 0]) ?_ 5 _ rfl; (with_reducible repeat first | apply bN | apply bd | apply ba); refine blk_put (cs := #[.int .i64 ((rd_T25 l1 x24_1).f0.f0), .int .i64 ((rd_T25 l1 x24_1).f0.f1), .int .i64 ((rd_T25 l1 x24_1).f0.f2), .int .i64 ((rd_T25 l1 x24_1).f1.f0), .int .i64 0, .int .i64 0]) ?_ 4 _ rfl; (with_reducible repeat first | apply bN | apply bd | apply ba); refine blk_put (cs := #[.int .i64 ((rd_T25 l1 x24_1).f0.f0), .int .i64 ((rd_T25 l1 x24_1).f0.f1), .int .i64 ((rd_T25 l1 x24_1).f0.f2), .int .i64 0, .int .i64 0, .int .i64 0]) ?_ 3 _ rfl; (with_reducible repeat first | apply bN | apply bd | apply ba); refine blk_put (cs := #[.int .i64 ((rd_T25 l1 x24_1).f0.f0), .int .i64 ((rd_T25 l1 x24_1).f0.f1), .int .i64 0, .int .i64 0, .int .i64 0, .int .i64 0]) ?_ 2 _ rfl; (with_reducible repeat first | apply bN | apply bd | apply ba); refine blk_put (cs := #[.int .i64 ((rd_T25 l1 x24_1).f0.f0), .int .i64 0, .int .i64 0, .int .i64 0, .int .i64 0, .int .i64 0]) ?_ 1 _ rfl; (with_reducible repeat first | apply bN | apply bd | apply ba); refine blk_put (cs := #[.int .i64 0, .int .i64 0, .int .i64 0, .int .i64 0, .int .i64 0, .int .i64 0]) ?_ 0 _ rfl; (with_reducible repeat first | apply bN | apply bd | apply ba); exact BK348.out⟩, ⟨fW HB.out⟩⟩
    case round =>
     clear H'
     try clear c1;try clear p2;try clear p3;try clear q3;try clear hx3;try clear c4;try clear c4b0;try clear c4b1;try clear c6;try clear c13;try clear c14;try clear c14b0;try clear c15;try clear c15b0;try clear c16;try clear c16b0;try clear c18;try clear hx347_0;try clear hx347_1;try clear hx347_2;try clear hx347_3;try clear hx347_4;try clear hx347_5;try clear p2;try clear p347;try clear q347
     obtain ⟨x10_2, x30_2, rfl, HA, HK2, HO_10, HO_28, BK339, BK348, HB⟩ := hrel
     cases gk with
     | zero => exact absurd HA.out (by simp [box_Rest.l1])
     | succ k2 =>
      have H := HA.out
      clear HA
      simp only [box_Rest.l1] at H
      by_cases c21 : x30_2 < (x7_1.length : Int)
      rotate_left
      ·rw [if_neg c21] at H
       have c21b0 : decide (x30_2 < (x7_1.length : Int)) = false := decide_eq_false c21
       clear c21
       by_cases c35 : (x10_2.length : Int) > 4096
       ·rw [if_pos c35] at H
        have c35b0 : decide (4096 < (x10_2.length : Int)) = true := decide_eq_true c35
        have c35b1 : decide (4096 < x10_2.length) = true := decide_eq_true (by omega)
        clear c35
        simp only [Option.some.injEq, Prod.mk.injEq] at H
        obtain ⟨rfl, rfl⟩ := H
        obtain ⟨Ao36, co36, eo36⟩ := Kd.R_slice HO_10.out
        subst eo36
        go_wp2
        go_ret2
        exact ⟨_, sqE, by first | exact Kd.R_nil _ _ _ _ _ | exact Kd.N_nil _ _ _ _ _ | exact Kd.V_nil _ _ _ _ _ | exact Kd.Q_nil _ _ _ _ _ | exact Kd.S_nil _ _ _ _ _, fW HB.out⟩
       rw [if_neg c35] at H
       have c35b0 : decide (4096 < (x10_2.length : Int)) = false := decide_eq_false c35
       have c35b1 : decide (4096 < x10_2.length) = false := decide_eq_false (by omega)
       clear c35
       have H' := am H
       clear H
       obtain ⟨Ao37, co37, eo37⟩ := Kd.R_slice HO_10.out
       subst eo37
       go_wp2
       go_roundg k2
       case measure => have := HK1.out; have := HK2.out; omega
       case rel => exact ⟨(x10_2), (wrap64 (x24_1 + 1)), sqD, H', ⟨by have := HK1.out; have := HK2.out; omega⟩, ⟨by (with_reducible repeat (first | apply Kd.R_alloc | apply Kd.R_drewN | apply Kd.R_drew)); exact Kd.R_mono HO_10.out (fun _ hk => hk.2.1)⟩, ⟨fb BK339.out⟩, ⟨fW HB.out⟩⟩
      rw [if_pos c21] at H
      have c21b0 : decide (x30_2 < (x7_1.length : Int)) = true := decide_eq_true c21
      clear c21
      by_cases c22 : 0 ≤ x30_2
      rotate_left
      ·rw [if_neg c22] at H
       exact absurd H (by simp)
      rw [if_pos c22] at H
      have c22b0 : decide (0 ≤ x30_2) = true := decide_eq_true c22
      clear c22
      by_cases c23 : x30_2 < (x7_1.length : Int)
      rotate_left
      ·rw [if_neg c23] at H
       exact absurd H (by simp)
      rw [if_pos c23] at H
      have c23b0 : decide (x30_2 < (x7_1.length : Int)) = true := decide_eq_true c23
      clear c23
      replace H := Option.bind_eq_some_iff.mp H
      obtain ⟨t351, A240, H⟩ := H
      replace H : (if x10_2.length + t351.length < 2932031007402 then (box_Rest.l1 k2 (x10_2 ++ t351) l1 (l1.length : Int) x24_1 x7_1 (x7_1.length : Int) (wrap64 (x30_2 + 1)) ((rd_T25 l1 x24_1).f0.f0) ((rd_T25 l1 x24_1).f0.f1) ((rd_T25 l1 x24_1).f0.f2) ((rd_T25 l1 x24_1).f1.f0) ((rd_T25 l1 x24_1).f1.f1) ((rd_T25 l1 x24_1).f1.f2)) else (none)) = some (r1, r2) := H
      have A24 := am A240
      clear A240
      by_cases c25 : x10_2.length + t351.length < 2932031007402
      rotate_left
      ·rw [if_neg c25] at H
       exact absurd H (by simp)
      rw [if_pos c25] at H
      have LMc25 := am c25
      clear c25
      obtain ⟨y354, hy354⟩ : ∃ y_ : List (S25), y_ = (x10_2 ++ t351) := ⟨_, rfl⟩
      replace H : (box_Rest.l1 k2 y354 l1 (l1.length : Int) x24_1 x7_1 (x7_1.length : Int) (wrap64 (x30_2 + 1)) ((rd_T25 l1 x24_1).f0.f0) ((rd_T25 l1 x24_1).f0.f1) ((rd_T25 l1 x24_1).f0.f2) ((rd_T25 l1 x24_1).f1.f0) ((rd_T25 l1 x24_1).f1.f1) ((rd_T25 l1 x24_1).f1.f2)) = some (r1, r2) := by first | (rw [hy354]; with_reducible exact H) | (have H2_ := (Option.bind_some _ _).symm.trans H; rw [hy354]; with_reducible exact H2_) | (have H2_ := (Option.bind_some _ _).symm.trans H; with_reducible exact H2_) | with_reducible exact H | (rw [hy354]; exact H) | exact H
      have Ny354 := am hy354
      clear hy354
      have H' := am H
      clear H
      have p349 : 0 ≤ (x30_2 : Int) := of_decide_eq_true (by assumption)
      have q349 : x30_2 < (x7_1.length : Int) := of_decide_eq_true (by assumption)
      obtain ⟨ad349, e349, hx349_0, hx349_1, hx349_2, hx349_3, hx349_4, hx349_5⟩ := at_T25 (Kd.R_reads' HO_28.out).2.2 x30_2 p349 q349
      cases e349
      replace p349 := eq_true p349
      replace q349 := eq_true q349
      go_wp2_with (first | ((with_reducible refine gate_dst (N := 12) rfl ?_); refine box_event ?hg (N := 12) ?hd (cs := #[.int .i64 0, .int .i64 0, .int .i64 0, .int .i64 0, .int .i64 0, .int .i64 0]) (t := 25) ?hr ?_; (case hd | hg => rfl); (case hr => first | (go_simp; done) | (go_simp; rfl)); intro gb350 hg w26 hbox hb; replace HO_10 := eR HO_10 hg hb; replace HO_28 := eR HO_28 hg hb; have BK350 := am hbox; have GW350 := sG HB hg; have GE350 := sG HB hg; replace HB := bS HB hb; have NB339_350 := nL BK339 hg; have NB350_339 := nG BK339 hg; replace BK339 := bB BK339 hb; have NB348_350 := nL BK348 hg; have NB350_348 := nG BK348 hg; replace BK348 := bB BK348 hb; clear hb hbox hg; have hnb27 := NB350_339.out; have hnc27 := NB339_350.out; have hnb28 := NB350_348.out; have hnc28 := NB348_350.out; obtain ⟨_, _, _, _, _, _, _, _, _, _, _, _⟩ := zC6 BK350; have hnb30 := NB348_339.out; have hnc30 := NB339_348.out; obtain ⟨_, _, _, _, _, _, _, _, _, _, _, _⟩ := zC6 BK348) | ((with_reducible refine gate_callee (f := 51) rfl ?_); refine goesL_ (some 37) rfl rfl Try.func51 (by kernel_rfl) rfl #[.agg #[.int .i64 ((rd_T25 x7_1 x30_2).f0.f0), .int .i64 ((rd_T25 x7_1 x30_2).f0.f1), .int .i64 ((rd_T25 x7_1 x30_2).f0.f2), .int .i64 ((rd_T25 x7_1 x30_2).f1.f0), .int .i64 ((rd_T25 x7_1 x30_2).f1.f1), .int .i64 ((rd_T25 x7_1 x30_2).f1.f2)], .agg #[.int .i64 ((rd_T25 l1 x24_1).f0.f0), .int .i64 ((rd_T25 l1 x24_1).f0.f1), .int .i64 ((rd_T25 l1 x24_1).f0.f2), .int .i64 ((rd_T25 l1 x24_1).f1.f0), .int .i64 ((rd_T25 l1 x24_1).f1.f1), .int .i64 ((rd_T25 l1 x24_1).f1.f2)]] rfl (by (try simp only [pml]); first | done | rfl | (simp only [pdt]; rfl)) ?_; (with_reducible refine (box_subtract.calls ((rd_T25 x7_1 x30_2).f0.f0) ((rd_T25 x7_1 x30_2).f0.f1) ((rd_T25 x7_1 x30_2).f0.f2) ((rd_T25 x7_1 x30_2).f1.f0) ((rd_T25 x7_1 x30_2).f1.f1) ((rd_T25 x7_1 x30_2).f1.f2) ((rd_T25 l1 x24_1).f0.f0) ((rd_T25 l1 x24_1).f0.f1) ((rd_T25 l1 x24_1).f0.f2) ((rd_T25 l1 x24_1).f1.f0) ((rd_T25 l1 x24_1).f1.f1) ((rd_T25 l1 x24_1).f1.f2) t351 _ A24.out).mono ?_); rintro e w32 ⟨v352, rfl, ho0, hb⟩; refine ⟨_, rfl, ?_⟩; have HO353 := am (Kd.R_lower (Kd.R_newB (Kd.R_newB (Kd.R_newB (Kd.R_new' (Kd.R_new' ho0 (Kd.R_lt (by (with_reducible repeat (first | apply Kd.R_alloc | apply Kd.R_drewN | apply Kd.R_drew)); exact (Kd.R_mono (Kd.R_far (p := ⟨gb350, 5, none⟩) (Kd.R_far (p := ⟨gb350, 4, none⟩) (Kd.R_far (p := ⟨gb350, 3, none⟩) (Kd.R_far (p := ⟨gb350, 2, none⟩) (Kd.R_far (p := ⟨gb350, 1, none⟩) (Kd.R_far (p := ⟨gb350, 0, none⟩) (Kd.R_mono HO_10.out (fun k_ hk => (⟨hk, hk.2⟩ : _ ∧ k_ ≠ gb350))) (fun _ hk => hk.2) (.int .i64 ((rd_T25 x7_1 x30_2).f0.f0))) (fun _ hk => hk.2) (.int .i64 ((rd_T25 x7_1 x30_2).f0.f1))) (fun _ hk => hk.2) (.int .i64 ((rd_T25 x7_1 x30_2).f0.f2))) (fun _ hk => hk.2) (.int .i64 ((rd_T25 x7_1 x30_2).f1.f0))) (fun _ hk => hk.2) (.int .i64 ((rd_T25 x7_1 x30_2).f1.f1))) (fun _ hk => hk.2) (.int .i64 ((rd_T25 x7_1 x30_2).f1.f2))) (fun _ h_ => h_.1))))) (Kd.R_lt (by (with_reducible repeat (first | apply Kd.R_alloc | apply Kd.R_drewN | apply Kd.R_drew)); exact (Kd.R_mono (Kd.R_far (p := ⟨gb350, 5, none⟩) (Kd.R_far (p := ⟨gb350, 4, none⟩) (Kd.R_far (p := ⟨gb350, 3, none⟩) (Kd.R_far (p := ⟨gb350, 2, none⟩) (Kd.R_far (p := ⟨gb350, 1, none⟩) (Kd.R_far (p := ⟨gb350, 0, none⟩) (Kd.R_mono HO_28.out (fun k_ hk => (⟨hk, hk.2⟩ : _ ∧ k_ ≠ gb350))) (fun _ hk => hk.2) (.int .i64 ((rd_T25 x7_1 x30_2).f0.f0))) (fun _ hk => hk.2) (.int .i64 ((rd_T25 x7_1 x30_2).f0.f1))) (fun _ hk => hk.2) (.int .i64 ((rd_T25 x7_1 x30_2).f0.f2))) (fun _ hk => hk.2) (.int .i64 ((rd_T25 x7_1 x30_2).f1.f0))) (fun _ hk => hk.2) (.int .i64 ((rd_T25 x7_1 x30_2).f1.f1))) (fun _ hk => hk.2) (.int .i64 ((rd_T25 x7_1 x30_2).f1.f2))) (fun _ h_ => h_.1))))) (g := gb339) (o := .cells #[.int .i64 a0_0, .int .i64 a0_1, .int .i64 a0_2, .int .i64 a0_3, .int .i64 a0_4, .int .i64 a0_5] 25 (0, 0)) (kfC BK339.out)) (g := gb348) (o := .cells #[.int .i64 ((rd_T25 l1 x24_1).f0.f0), .int .i64 ((rd_T25 l1 x24_1).f0.f1), .int .i64 ((rd_T25 l1 x24_1).f0.f2), .int .i64 ((rd_T25 l1 x24_1).f1.f0), .int .i64 ((rd_T25 l1 x24_1).f1.f1), .int .i64 ((rd_T25 l1 x24_1).f1.f2)] 25 (0, 0)) (kfC BK348.out)) (g := gb350) (o := .cells #[.int .i64 ((rd_T25 x7_1 x30_2).f0.f0), .int .i64 ((rd_T25 x7_1 x30_2).f0.f1), .int .i64 ((rd_T25 x7_1 x30_2).f0.f2), .int .i64 ((rd_T25 x7_1 x30_2).f1.f0), .int .i64 ((rd_T25 x7_1 x30_2).f1.f1), .int .i64 ((rd_T25 x7_1 x30_2).f1.f2)] 25 (0, 0)) (kkC BK350.out)) (below_size (fW HB.out))); replace HO_10 := am (Kd.R_elder' (by (with_reducible repeat (first | apply Kd.R_alloc | apply Kd.R_drewN | apply Kd.R_drew)); exact (Kd.R_mono (Kd.R_far (p := ⟨gb350, 5, none⟩) (Kd.R_far (p := ⟨gb350, 4, none⟩) (Kd.R_far (p := ⟨gb350, 3, none⟩) (Kd.R_far (p := ⟨gb350, 2, none⟩) (Kd.R_far (p := ⟨gb350, 1, none⟩) (Kd.R_far (p := ⟨gb350, 0, none⟩) (Kd.R_mono HO_10.out (fun k_ hk => (⟨hk, hk.2⟩ : _ ∧ k_ ≠ gb350))) (fun _ hk => hk.2) (.int .i64 ((rd_T25 x7_1 x30_2).f0.f0))) (fun _ hk => hk.2) (.int .i64 ((rd_T25 x7_1 x30_2).f0.f1))) (fun _ hk => hk.2) (.int .i64 ((rd_T25 x7_1 x30_2).f0.f2))) (fun _ hk => hk.2) (.int .i64 ((rd_T25 x7_1 x30_2).f1.f0))) (fun _ hk => hk.2) (.int .i64 ((rd_T25 x7_1 x30_2).f1.f1))) (fun _ hk => hk.2) (.int .i64 ((rd_T25 x7_1 x30_2).f1.f2))) (fun _ h_ => h_.1))) (Kd.R_base ho0) hb); replace HO_28 := am (Kd.R_elder' (by (with_reducible repeat (first | apply Kd.R_alloc | apply Kd.R_drewN | apply Kd.R_drew)); exact (Kd.R_mono (Kd.R_far (p := ⟨gb350, 5, none⟩) (Kd.R_far (p := ⟨gb350, 4, none⟩) (Kd.R_far (p := ⟨gb350, 3, none⟩) (Kd.R_far (p := ⟨gb350, 2, none⟩) (Kd.R_far (p := ⟨gb350, 1, none⟩) (Kd.R_far (p := ⟨gb350, 0, none⟩) (Kd.R_mono HO_28.out (fun k_ hk => (⟨hk, hk.2⟩ : _ ∧ k_ ≠ gb350))) (fun _ hk => hk.2) (.int .i64 ((rd_T25 x7_1 x30_2).f0.f0))) (fun _ hk => hk.2) (.int .i64 ((rd_T25 x7_1 x30_2).f0.f1))) (fun _ hk => hk.2) (.int .i64 ((rd_T25 x7_1 x30_2).f0.f2))) (fun _ hk => hk.2) (.int .i64 ((rd_T25 x7_1 x30_2).f1.f0))) (fun _ hk => hk.2) (.int .i64 ((rd_T25 x7_1 x30_2).f1.f1))) (fun _ hk => hk.2) (.int .i64 ((rd_T25 x7_1 x30_2).f1.f2))) (fun _ h_ => h_.1))) (Kd.R_base ho0) hb); replace BK339 := xC1 (kfC BK339.out) hb; replace BK348 := xC1 (kfC BK348.out) hb; replace BK350 := xC1 (o := .cells #[.int .i64 ((rd_T25 x7_1 x30_2).f0.f0), .int .i64 ((rd_T25 x7_1 x30_2).f0.f1), .int .i64 ((rd_T25 x7_1 x30_2).f0.f2), .int .i64 ((rd_T25 x7_1 x30_2).f1.f0), .int .i64 ((rd_T25 x7_1 x30_2).f1.f1), .int .i64 ((rd_T25 x7_1 x30_2).f1.f2)] 25 (0, 0)) (kkC BK350.out) hb; replace HB := bS HB hb; (try clear hb); (try clear hb2); (try clear hk); (try clear hi); (try clear ho0); obtain ⟨Ao34, co34, eo34⟩ := Kd.R_slice HO353.out; subst eo34) | ((with_reducible refine gate_builtin (b := .append) (xs := #[.tmp 34, .tmp 37]) rfl ?_); at_builtin; refine Kd.R_append_rows k25 (w0 := w) w.heap.size rfl (.tmp 34) (.tmp 37) 26 25 (.agg #[(.int .i64 0), (.int .i64 0), (.int .i64 0), (.int .i64 0), (.int .i64 0), (.int .i64 0)]) 48 rfl Try.underlying26 info25 rfl (by decide) (by omega) u10 x10_2 t351 _ _ _ (fun k_ => some k_ ≠ (.slice (some ad349) x7_1.length co20 : Value).ownBlock ∧ some k_ ≠ (.slice Ao34 t351.length co34 : Value).ownBlock ∧ k_ ≠ gb339 ∧ k_ ≠ gb348 ∧ k_ ≠ gb350) (fun _ => False) rfl rfl ?aO ?aR (fun _ _ h => h) (fun _ h => h.elim) ?aF ?aB ?aS ?aL ?_; (case aR => repeat (first | exact (Kd.R_reads' HO353.out).2.2 | (with_reducible refine Kd.C_alloc ?_ _) | (with_reducible refine Kd.C_drewN ?_ _) | (with_reducible refine Kd.C_drew ?_))); (case aB => exact (fW HB.out)); (case aF => exact (fun k_ hk => ⟨Kd.fresh' (Kd.R_lt (fR HO_28.out)) k_ hk, Kd.fresh' (Kd.R_lt (fR HO353.out)) k_ hk, Kd.freshB (g := gb339) (o := .cells #[.int .i64 a0_0, .int .i64 a0_1, .int .i64 a0_2, .int .i64 a0_3, .int .i64 a0_4, .int .i64 a0_5] 25 (0, 0)) (fb BK339.out) k_ hk, Kd.freshB (g := gb348) (o := .cells #[.int .i64 ((rd_T25 l1 x24_1).f0.f0), .int .i64 ((rd_T25 l1 x24_1).f0.f1), .int .i64 ((rd_T25 l1 x24_1).f0.f2), .int .i64 ((rd_T25 l1 x24_1).f1.f0), .int .i64 ((rd_T25 l1 x24_1).f1.f1), .int .i64 ((rd_T25 l1 x24_1).f1.f2)] 25 (0, 0)) (fb BK348.out) k_ hk, Kd.freshB (g := gb350) (o := .cells #[.int .i64 ((rd_T25 x7_1 x30_2).f0.f0), .int .i64 ((rd_T25 x7_1 x30_2).f0.f1), .int .i64 ((rd_T25 x7_1 x30_2).f0.f2), .int .i64 ((rd_T25 x7_1 x30_2).f1.f0), .int .i64 ((rd_T25 x7_1 x30_2).f1.f1), .int .i64 ((rd_T25 x7_1 x30_2).f1.f2)] 25 (0, 0)) (fb BK350.out) k_ hk⟩)); (case aO => exact (by (with_reducible repeat (first | apply Kd.R_alloc | apply Kd.R_drewN | apply Kd.R_drew)); exact Kd.R_mono HO_10.out (fun _ hk => ⟨hk.1.1.1, ⟨hk.2, ⟨hk.1.1.2.1, ⟨hk.1.1.2.2, hk.1.2⟩⟩⟩⟩))); (case aS => exact (below_size (fW HB.out))); (case aL => have := LMc25.out; omega); intro v355 w33 ho hb hg hat; rw [← Ny354.out] at ho; replace HO_28 := am (Kd.R_after (ok := (fun k_ => some k_ ≠ (.slice Ao34 t351.length co34 : Value).ownBlock ∧ k_ ≠ gb339 ∧ k_ ≠ gb348 ∧ k_ ≠ gb350)) (by (with_reducible repeat (first | apply Kd.R_alloc | apply Kd.R_drewN | apply Kd.R_drew)); exact Kd.R_mono HO_28.out (fun _ hk => ⟨⟨hk.2, ⟨hk.1.1.2.1, ⟨hk.1.1.2.2, hk.1.2⟩⟩⟩, hk.1.1.1⟩)) hg hat); replace BK339 := am (blk_grown (g := gb339) (o := .cells #[.int .i64 a0_0, .int .i64 a0_1, .int .i64 a0_2, .int .i64 a0_3, .int .i64 a0_4, .int .i64 a0_5] 25 (0, 0)) (fb BK339.out) hg (Kd.R_away HO_10.out (fun _ hk => hk.1.1.2.1))); replace BK348 := am (blk_grown (g := gb348) (o := .cells #[.int .i64 ((rd_T25 l1 x24_1).f0.f0), .int .i64 ((rd_T25 l1 x24_1).f0.f1), .int .i64 ((rd_T25 l1 x24_1).f0.f2), .int .i64 ((rd_T25 l1 x24_1).f1.f0), .int .i64 ((rd_T25 l1 x24_1).f1.f1), .int .i64 ((rd_T25 l1 x24_1).f1.f2)] 25 (0, 0)) (fb BK348.out) hg (Kd.R_away HO_10.out (fun _ hk => hk.1.1.2.2))); replace BK350 := am (blk_grown (g := gb350) (o := .cells #[.int .i64 ((rd_T25 x7_1 x30_2).f0.f0), .int .i64 ((rd_T25 x7_1 x30_2).f0.f1), .int .i64 ((rd_T25 x7_1 x30_2).f0.f2), .int .i64 ((rd_T25 x7_1 x30_2).f1.f0), .int .i64 ((rd_T25 x7_1 x30_2).f1.f1), .int .i64 ((rd_T25 x7_1 x30_2).f1.f2)] 25 (0, 0)) (fb BK350.out) hg (Kd.R_away HO_10.out (fun _ hk => hk.1.2))); replace HO353 := am (Kd.R_after (ok := (fun k_ => some k_ ≠ (.slice (some ad349) x7_1.length co20 : Value).ownBlock ∧ k_ ≠ gb339 ∧ k_ ≠ gb348 ∧ k_ ≠ gb350)) (by (with_reducible repeat (first | apply Kd.R_alloc | apply Kd.R_drewN | apply Kd.R_drew)); exact Kd.R_mono HO353.out (fun _ hk => ⟨⟨hk.1.1.1.2, ⟨hk.1.1.2, ⟨hk.1.2, hk.2⟩⟩⟩, hk.1.1.1.1.2⟩)) hg hat); replace HB := am (hb); have HO356 := am (ho); clear HO_10 ho hb hg hat))
      go_roundg k2
      case measure => have := HK1.out; have := HK2.out; omega
      case rel => exact ⟨(y354), (wrap64 (x30_2 + 1)), sqD, H', ⟨by have := HK1.out; have := HK2.out; omega⟩, ⟨by (with_reducible repeat (first | apply Kd.R_alloc | apply Kd.R_drewN | apply Kd.R_drew)); exact Kd.R_mono HO356.out (fun _ hk => ⟨hk.1, ⟨hk.2.2.1, hk.2.2.2.1⟩⟩)⟩, ⟨by (with_reducible repeat (first | apply Kd.R_alloc | apply Kd.R_drewN | apply Kd.R_drew)); exact Kd.R_mono HO_28.out (fun _ hk => ⟨hk.2, ⟨hk.1.2.1, hk.1.2.2.1⟩⟩)⟩, ⟨fb BK339.out⟩, ⟨fb BK348.out⟩, ⟨fW HB.out⟩⟩
 ·rw [if_neg c4] at H
  have c4b0 : (t343 == 0) = false := beq_eq_false_iff_ne.mpr c4
  have c4b1 : (t343 != 0) = true := bne_iff_ne.mpr c4
  simp only [Option.some.injEq, Prod.mk.injEq] at H
  obtain ⟨rfl, rfl⟩ := H
  go_enter Try.func13, Try.ntmps13
  go_wp2_with (first | ((with_reducible refine gate_dst (N := 2) rfl ?_); refine box_event ?hg (N := 2) ?hd (cs := #[.int .i64 a0_0, .int .i64 a0_1, .int .i64 a0_2, .int .i64 a0_3, .int .i64 a0_4, .int .i64 a0_5]) (t := 25) ?hr ?_; (case hd | hg => rfl); (case hr => first | (go_simp; done) | (go_simp; rfl)); intro gb339 hg w38 hbox hb; have BK339 := am hbox; have GW339 := sG HB hg; have GE339 := sG HB hg; replace HB := bS HB hb; clear hb hbox hg; obtain ⟨_, _, _, _, _, _, _, _, _, _, _, _⟩ := zC6 BK339) | ((with_reducible refine gate_dst (N := 15) rfl ?_); refine Kd.R_lit k25 _ 25 ?hg (N := 15) ?hd (xs := ([(⟨(⟨a0_0, a0_1, a0_2⟩ : S23), (⟨a0_3, a0_4, a0_5⟩ : S23)⟩ : S25)] : List (S25))) (inner := [.int .i64 a0_0, .int .i64 a0_1, .int .i64 a0_2, .int .i64 a0_3, .int .i64 a0_4, .int .i64 a0_5]) (ok := fun _ => True) (okp := fun _ => True) ?hr ?hp (fun _ hk => hk) trivial (Below.refl _ _) (Nat.le_refl _) (by simp) ?_; (case hd | hg => rfl); (case hr => first | (go_simp; done) | (go_simp; rfl)); (case hp => exact (Reps.c6 (show Kd.M k25 _ _ _ (⟨(⟨a0_0, a0_1, a0_2⟩ : S23), (⟨a0_3, a0_4, a0_5⟩ : S23)⟩ : S25) [.int .i64 a0_0, .int .i64 a0_1, .int .i64 a0_2, .int .i64 a0_3, .int .i64 a0_4, .int .i64 a0_5] from (k25_mkM _ _ _ (⟨(⟨a0_0, a0_1, a0_2⟩ : S23), (⟨a0_3, a0_4, a0_5⟩ : S23)⟩ : S25) )) (Reps.none _ _))); intro v341 w40 ho41 hb hg_ hnew_; clear hg_ hnew_; (first | rw [← Ny340.out] at ho41 | (simp only [Int.reduceToNat] at ho41; rw [← Ny340.out] at ho41)); have HO342 := am (Kd.R_lower (Kd.R_newB ho41 (g := gb339) (o := .cells #[.int .i64 a0_0, .int .i64 a0_1, .int .i64 a0_2, .int .i64 a0_3, .int .i64 a0_4, .int .i64 a0_5] 25 (0, 0)) (fb BK339.out)) (below_size (fW HB.out))); replace BK339 := bB BK339 hb; replace HB := bS HB hb; clear hb ho41; obtain ⟨Ao42, co42, eo42⟩ := Kd.R_slice HO342.out; subst eo42) | ((with_reducible refine gate_callee (f := 48) rfl ?_); refine goesL_ (some 16) rfl rfl Try.func48 (by kernel_rfl) rfl #[.slice A1 l1.length c1, .slice Ao42 y340.length co42] rfl (by (try simp only [pml]); first | done | rfl | (simp only [pdt]; rfl)) ?_; (with_reducible refine (box_many.calls k _ _ l1 _ _ y340 t343 _ ?side1 ?side2 ?side3 ?side4 A3.out).mono ?_); (case side1 => repeat (first | exact (Kd.C_below HR1.out HB.out) | (with_reducible refine Kd.C_alloc ?_ _) | (with_reducible refine Kd.C_drewN ?_ _) | (with_reducible refine Kd.C_drew ?_))); (case side2 => exact HC1.out); (case side3 => repeat (first | exact (Kd.R_reads' HO342.out).2.2 | (with_reducible refine Kd.C_alloc ?_ _) | (with_reducible refine Kd.C_drewN ?_ _) | (with_reducible refine Kd.C_drew ?_))); (case side4 => exact (Kd.R_reads' HO342.out).2.1); rintro e w43 ⟨rfl, hb⟩; refine ⟨_, rfl, ?_⟩; replace HO342 := dR HO342 hb; replace BK339 := bB BK339 hb; replace HB := bS HB hb; (try clear hb); (try clear hb2); (try clear hk); (try clear hi)))
  go_ret2
  exact ⟨_, sqE, by first | exact Kd.R_nil _ _ _ _ _ | exact Kd.N_nil _ _ _ _ _ | exact Kd.V_nil _ _ _ _ _ | exact Kd.Q_nil _ _ _ _ _ | exact Kd.S_nil _ _ _ _ _, fW HB.out⟩

def box_Has.j0 : Nat → Bool → Option (Bool)
 | 0, _ => none
 | k + 1, x4 => some x4
def box_Has.f (k : Nat) (a0_0 : Int) (a0_1 : Int) (a0_2 : Int) (a0_3 : Int) (a0_4 : Int) (a0_5 : Int) (a1_0 : Int) (a1_1 : Int) (a1_2 : Int) : Option (Bool) := if a0_0 ≤ a1_0 then (if a1_0 < a0_3 then (if a0_1 ≤ a1_1 then (if a1_1 < a0_4 then (if a0_2 ≤ a1_2 then (box_Has.j0 k (decide (a1_2 < a0_5))) else (box_Has.j0 k false)) else (box_Has.j0 k false)) else (box_Has.j0 k false)) else (box_Has.j0 k false)) else (box_Has.j0 k false)
set_option maxHeartbeats 8000000 in
set_option maxRecDepth 100000 in
theorem box_Has.calls (k : Nat) (a0_0 : Int) (a0_1 : Int) (a0_2 : Int) (a0_3 : Int) (a0_4 : Int) (a0_5 : Int) (a1_0 : Int) (a1_1 : Int) (a1_2 : Int) (r : Bool) (w : World) (h : box_Has.f k a0_0 a0_1 a0_2 a0_3 a0_4 a0_5 a1_0 a1_1 a1_2 = some r) :
  Calls Try.prog 14 #[.agg #[.int .i64 a0_0, .int .i64 a0_1, .int .i64 a0_2, .int .i64 a0_3, .int .i64 a0_4, .int .i64 a0_5], .agg #[.int .i64 a1_0, .int .i64 a1_1, .int .i64 a1_2]] w fun e w' => e = .returned (.bool r) ∧ Below w.heap.size w w' := by
 have hu25 := Try.underlying25
 have hu23 := Try.underlying23
 have HB := am (Below.refl w.heap.size w)
 have H : (if a0_0 ≤ a1_0 then (if a1_0 < a0_3 then (if a0_1 ≤ a1_1 then (if a1_1 < a0_4 then (if a0_2 ≤ a1_2 then (box_Has.j0 k (decide (a1_2 < a0_5))) else (box_Has.j0 k false)) else (box_Has.j0 k false)) else (box_Has.j0 k false)) else (box_Has.j0 k false)) else (box_Has.j0 k false)) = some r := h
 clear h
 have HC3 := am H
 clear H
 go_enter Try.func14, Try.ntmps14
 go_upto_region 1 with (first | ((with_reducible refine gate_dst (N := 2) rfl ?_); refine box_event ?hg (N := 2) ?hd (cs := #[.int .i64 a0_0, .int .i64 a0_1, .int .i64 a0_2, .int .i64 a0_3, .int .i64 a0_4, .int .i64 a0_5]) (t := 25) ?hr ?_; (case hd | hg => rfl); (case hr => first | (go_simp; done) | (go_simp; rfl)); intro gb357 hg w4 hbox hb; have BK357 := am hbox; have GW357 := sG HB hg; have GE357 := sG HB hg; replace HB := bS HB hb; clear hb hbox hg) | ((with_reducible refine gate_dst (N := 3) rfl ?_); refine box_event ?hg (N := 3) ?hd (cs := #[.int .i64 a1_0, .int .i64 a1_1, .int .i64 a1_2]) (t := 23) ?hr ?_; (case hd | hg => rfl); (case hr => first | (go_simp; done) | (go_simp; rfl)); intro gb358 hg w5 hbox hb; have BK358 := am hbox; have GW358 := sG HB hg; have GE358 := sG HB hg; replace HB := bS HB hb; have NB357_358 := nL BK357 hg; have NB358_357 := nG BK357 hg; replace BK357 := bB BK357 hb; clear hb hbox hg))
 (try simp only [Act.put, psl])
 go_cut [4] (fun v4 wc => ∃ (kq : Nat) (x4_2 : Bool), v4 = .bool x4_2 ∧ Aside0 (box_Has.j0 kq x4_2 = some r) ∧ Aside0 (kq ≤ k) ∧ Aside0 (wc.heap[gb357]? = some (.cells #[.int .i64 a0_0, .int .i64 a0_1, .int .i64 a0_2, .int .i64 a0_3, .int .i64 a0_4, .int .i64 a0_5] 25 (0, 0))) ∧ Aside0 (wc.heap[gb358]? = some (.cells #[.int .i64 a1_0, .int .i64 a1_1, .int .i64 a1_2] 23 (0, 0))) ∧ Aside0 (Below w.heap.size w wc))
 case first =>
  have H := HC3.out
  clear HC3
  by_cases c6 : a0_0 ≤ a1_0
  rotate_left
  ·rw [if_neg c6] at H
   have c6b0 : decide (a0_0 ≤ a1_0) = false := decide_eq_false c6
   clear c6
   (first | rw [c6b0] | (simp only [i64_w, i32_w]; rw [c6b0]) | skip)
   have H' := am H
   clear H
   have hnb26 := NB357_358.out
   have hnc26 := NB358_357.out
   have := yC1 BK357
   have := kC1 BK357
   have := kC2 BK357
   have := kC3 BK357
   have := kC4 BK357
   have := kC5 BK357
   have := bf BK357.out 0
   have := bf BK357.out 1
   have := bf BK357.out 2
   have := bf BK357.out 3
   have := bf BK357.out 4
   have := bf BK357.out 5
   have := yC1 BK358
   have := kC1 BK358
   have := kC2 BK358
   have := bf BK358.out 0
   have := bf BK358.out 1
   have := bf BK358.out 2
   go_wp2
   go_meet
   case rel => exact ⟨_, (false), sqD, H', ⟨by first | omega | exact Nat.le_refl _⟩, ⟨fb BK357.out⟩, ⟨fb BK358.out⟩, ⟨fW HB.out⟩⟩
  rw [if_pos c6] at H
  have c6b0 : decide (a0_0 ≤ a1_0) = true := decide_eq_true c6
  clear c6
  (first | rw [c6b0] | (simp only [i64_w, i32_w]; rw [c6b0]) | skip)
  by_cases c7 : a1_0 < a0_3
  rotate_left
  ·rw [if_neg c7] at H
   have c7b0 : decide (a1_0 < a0_3) = false := decide_eq_false c7
   clear c7
   have H' := am H
   clear H
   have hnb23 := NB357_358.out
   have hnc23 := NB358_357.out
   have := yC1 BK357
   have := kC1 BK357
   have := kC2 BK357
   have := kC3 BK357
   have := kC4 BK357
   have := kC5 BK357
   have := bf BK357.out 0
   have := bf BK357.out 1
   have := bf BK357.out 2
   have := bf BK357.out 3
   have := bf BK357.out 4
   have := bf BK357.out 5
   have := yC1 BK358
   have := kC1 BK358
   have := kC2 BK358
   have := bf BK358.out 0
   have := bf BK358.out 1
   have := bf BK358.out 2
   go_wp2
   go_meet
   case rel => exact ⟨_, (false), sqD, H', ⟨by first | omega | exact Nat.le_refl _⟩, ⟨fb BK357.out⟩, ⟨fb BK358.out⟩, ⟨fW HB.out⟩⟩
  rw [if_pos c7] at H
  have c7b0 : decide (a1_0 < a0_3) = true := decide_eq_true c7
  clear c7
  by_cases c8 : a0_1 ≤ a1_1
  rotate_left
  ·rw [if_neg c8] at H
   have c8b0 : decide (a0_1 ≤ a1_1) = false := decide_eq_false c8
   clear c8
   have H' := am H
   clear H
   have hnb20 := NB357_358.out
   have hnc20 := NB358_357.out
   have := yC1 BK357
   have := kC1 BK357
   have := kC2 BK357
   have := kC3 BK357
   have := kC4 BK357
   have := kC5 BK357
   have := bf BK357.out 0
   have := bf BK357.out 1
   have := bf BK357.out 2
   have := bf BK357.out 3
   have := bf BK357.out 4
   have := bf BK357.out 5
   have := yC1 BK358
   have := kC1 BK358
   have := kC2 BK358
   have := bf BK358.out 0
   have := bf BK358.out 1
   have := bf BK358.out 2
   go_wp2
   go_meet
   case rel => exact ⟨_, (false), sqD, H', ⟨by first | omega | exact Nat.le_refl _⟩, ⟨fb BK357.out⟩, ⟨fb BK358.out⟩, ⟨fW HB.out⟩⟩
  rw [if_pos c8] at H
  have c8b0 : decide (a0_1 ≤ a1_1) = true := decide_eq_true c8
  clear c8
  by_cases c9 : a1_1 < a0_4
  rotate_left
  ·rw [if_neg c9] at H
   have c9b0 : decide (a1_1 < a0_4) = false := decide_eq_false c9
   clear c9
   have H' := am H
   clear H
   have hnb17 := NB357_358.out
   have hnc17 := NB358_357.out
   have := yC1 BK357
   have := kC1 BK357
   have := kC2 BK357
   have := kC3 BK357
   have := kC4 BK357
   have := kC5 BK357
   have := bf BK357.out 0
   have := bf BK357.out 1
   have := bf BK357.out 2
   have := bf BK357.out 3
   have := bf BK357.out 4
   have := bf BK357.out 5
   have := yC1 BK358
   have := kC1 BK358
   have := kC2 BK358
   have := bf BK358.out 0
   have := bf BK358.out 1
   have := bf BK358.out 2
   go_wp2
   go_meet
   case rel => exact ⟨_, (false), sqD, H', ⟨by first | omega | exact Nat.le_refl _⟩, ⟨fb BK357.out⟩, ⟨fb BK358.out⟩, ⟨fW HB.out⟩⟩
  rw [if_pos c9] at H
  have c9b0 : decide (a1_1 < a0_4) = true := decide_eq_true c9
  clear c9
  by_cases c10 : a0_2 ≤ a1_2
  ·rw [if_pos c10] at H
   have c10b0 : decide (a0_2 ≤ a1_2) = true := decide_eq_true c10
   clear c10
   have H' := am H
   clear H
   have hnb11 := NB357_358.out
   have hnc11 := NB358_357.out
   have := yC1 BK357
   have := kC1 BK357
   have := kC2 BK357
   have := kC3 BK357
   have := kC4 BK357
   have := kC5 BK357
   have := bf BK357.out 0
   have := bf BK357.out 1
   have := bf BK357.out 2
   have := bf BK357.out 3
   have := bf BK357.out 4
   have := bf BK357.out 5
   have := yC1 BK358
   have := kC1 BK358
   have := kC2 BK358
   have := bf BK358.out 0
   have := bf BK358.out 1
   have := bf BK358.out 2
   go_wp2
   go_meet
   case rel => exact ⟨_, (decide (a1_2 < a0_5)), sqD, H', ⟨by first | omega | exact Nat.le_refl _⟩, ⟨fb BK357.out⟩, ⟨fb BK358.out⟩, ⟨fW HB.out⟩⟩
  rw [if_neg c10] at H
  have c10b0 : decide (a0_2 ≤ a1_2) = false := decide_eq_false c10
  clear c10
  have H' := am H
  clear H
  have hnb14 := NB357_358.out
  have hnc14 := NB358_357.out
  have := yC1 BK357
  have := kC1 BK357
  have := kC2 BK357
  have := kC3 BK357
  have := kC4 BK357
  have := kC5 BK357
  have := bf BK357.out 0
  have := bf BK357.out 1
  have := bf BK357.out 2
  have := bf BK357.out 3
  have := bf BK357.out 4
  have := bf BK357.out 5
  have := yC1 BK358
  have := kC1 BK358
  have := kC2 BK358
  have := bf BK358.out 0
  have := bf BK358.out 1
  have := bf BK358.out 2
  go_wp2
  go_meet
  case rel => exact ⟨_, (false), sqD, H', ⟨by first | omega | exact Nat.le_refl _⟩, ⟨fb BK357.out⟩, ⟨fb BK358.out⟩, ⟨fW HB.out⟩⟩
 case rest =>
  clear HC3
  try clear c1;try clear c2;try clear p2;try clear c6;try clear c6b0;try clear c7;try clear c7b0;try clear c8;try clear c8b0;try clear c9;try clear c9b0;try clear c10;try clear c10b0;try clear c11;try clear c14;try clear c17;try clear c20;try clear c23;try clear c26
  obtain ⟨kq, x4_2, rfl, HA, HJ2, BK357, BK358, HB⟩ := hcut
  cases kq with
  | zero => exact absurd HA.out (by simp [box_Has.j0])
  | succ kj2 =>
   have H := HA.out
   clear HA
   simp only [box_Has.j0] at H
   obtain rfl := Option.some.inj H
   go_wp2
   go_ret
   exact ⟨sqE, fW HB.out⟩

end Go.Proofs.Ytmmdikhmlmoolaa.QA
