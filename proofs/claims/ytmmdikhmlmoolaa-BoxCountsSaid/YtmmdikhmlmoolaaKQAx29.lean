import Derived.Test.YtmmdikhmlmoolaaKQAx0
import Derived.Test.YtmmdikhmlmoolaaKQAx26
import Derived.Test.YtmmdikhmlmoolaaKQAx28
namespace Go.Proofs.Ytmmdikhmlmoolaa.QA
open Go.RowKit Go.Proofs.YtmmdikhmlmoolaaW.PrintWords Go.Proofs.YtmmdikhmlmoolaaW.PrintLast Go.Proofs.YtmmdikhmlmoolaaW.PrintMore
open Go.Proofs.YtmmdikhmlmoolaaW.PrintWords renaming blk_drewN → bN, blk_drew → bd, blk_alloc → ba, blk_frozen → bf, blk_cell → bc
open Aside0 renaming mk → am
open World renaming block_lt_of_cell? → bq
attribute [local go_sem] max2_int min2_int max_two min_two max_three min_three max_four min_four
set_option linter.unusedVariables false
set_option linter.unusedSimpArgs false

def r_Gap.l0 : Nat → List (S25) → Int → Int → Int → Int → Option (Int × Int × Int × Bool)
 | 0, _, _, _, _, _ => none
 | k + 1, x6, x9, x677000, x677001, x677002 => if x9 < (x6.length : Int) then (if 0 ≤ x9 then ((r_Before.f ((rd_T25 x6 x9).f0.f0) ((rd_T25 x6 x9).f0.f1) ((rd_T25 x6 x9).f0.f2) x677000 x677001 x677002).bind fun t678 => (if t678 = true then (r_Gap.l0 k x6 (wrap64 (x9 + 1)) ((rd_T25 x6 x9).f0.f0) ((rd_T25 x6 x9).f0.f1) ((rd_T25 x6 x9).f0.f2)) else (r_Gap.l0 k x6 (wrap64 (x9 + 1)) x677000 x677001 x677002))) else (none)) else (some (x677000, x677001, x677002, true))
def r_Gap.f (k : Nat) (a0_0 : Int) (a0_1 : Int) (a0_2 : Int) (a0_3 : Int) (a0_4 : Int) (a0_5 : Int) (l1 : List (S25)) : Option (Int × Int × Int × Bool) := (r_Rest.f k a0_0 a0_1 a0_2 a0_3 a0_4 a0_5 l1).bind fun bt671 => (if (bt671.1.length : Int) = 0 then (some (0, 0, 0, false)) else (if 0 < (bt671.1.length : Int) then (r_Gap.l0 k bt671.1 1 ((rd_T25 bt671.1 0).f0.f0) ((rd_T25 bt671.1 0).f0.f1) ((rd_T25 bt671.1 0).f0.f2)) else (none)))
set_option maxHeartbeats 8000000 in
set_option maxRecDepth 100000 in
theorem r_Gap.calls (k : Nat) (a0_0 : Int) (a0_1 : Int) (a0_2 : Int) (a0_3 : Int) (a0_4 : Int) (a0_5 : Int) (A1 : Option Addr) (c1 : Nat) (l1 : List (S25)) (r1 : Int) (r2 : Int) (r3 : Int) (r4 : Bool) (w : World) (hr1 : Kd.C k25 w A1 l1.length l1) (hc1 : l1.length ≤ c1) (h : r_Gap.f k a0_0 a0_1 a0_2 a0_3 a0_4 a0_5 l1 = some (r1, r2, r3, r4)) :
  Calls Try.prog 45 #[.agg #[.int .i64 a0_0, .int .i64 a0_1, .int .i64 a0_2, .int .i64 a0_3, .int .i64 a0_4, .int .i64 a0_5], .slice A1 l1.length c1] w fun e w' => e = .returned (.tuple #[.agg #[.int .i64 r1, .int .i64 r2, .int .i64 r3], .bool r4]) ∧ Below w.heap.size w w' := by
 have hu25 := Try.underlying25
 have hu23 := Try.underlying23
 have HR1 := am hr1
 have HC1 := am hc1
 clear hr1 hc1
 have HB := am (Below.refl w.heap.size w)
 have H : ((r_Rest.f k a0_0 a0_1 a0_2 a0_3 a0_4 a0_5 l1).bind fun bt671 => (if (bt671.1.length : Int) = 0 then (some (0, 0, 0, false)) else (if 0 < (bt671.1.length : Int) then (r_Gap.l0 k bt671.1 1 ((rd_T25 bt671.1 0).f0.f0) ((rd_T25 bt671.1 0).f0.f1) ((rd_T25 bt671.1 0).f0.f2)) else (none)))) = some (r1, r2, r3, r4) := h
 clear h
 replace H := Option.bind_eq_some_iff.mp H
 obtain ⟨⟨t671, t674⟩, A30, H⟩ := H
 replace H : (if (t671.length : Int) = 0 then (some (0, 0, 0, false)) else (if 0 < (t671.length : Int) then (r_Gap.l0 k t671 1 ((rd_T25 t671 0).f0.f0) ((rd_T25 t671 0).f0.f1) ((rd_T25 t671 0).f0.f2)) else (none))) = some (r1, r2, r3, r4) := H
 have A3 := am A30
 clear A30
 by_cases c4 : (t671.length : Int) = 0
 ·rw [if_pos c4] at H
  have c4b0 : ((t671.length : Int) == 0) = true := beq_iff_eq.mpr c4
  have c4b1 : ((t671.length : Int) != 0) = false := bne_eq_false_iff_eq.mpr c4
  clear c4
  simp only [Option.some.injEq, Prod.mk.injEq] at H
  obtain ⟨rfl, rfl, rfl, rfl⟩ := H
  go_enter Try.func45, Try.ntmps45
  go_wp2_with (first | ((with_reducible refine gate_dst (N := 2) rfl ?_); refine box_event ?hg (N := 2) ?hd (cs := #[.int .i64 a0_0, .int .i64 a0_1, .int .i64 a0_2, .int .i64 a0_3, .int .i64 a0_4, .int .i64 a0_5]) (t := 25) ?hr ?_; (case hd | hg => rfl); (case hr => first | (go_simp; done) | (go_simp; rfl)); intro gb669 hg w5 hbox hb; have BK669 := am hbox; have GW669 := sG HB hg; have GE669 := sG HB hg; replace HB := bS HB hb; clear hb hbox hg) | ((with_reducible refine gate_dst (N := 4) rfl ?_); refine box_event ?hg (N := 4) ?hd (cs := #[.int .i64 0, .int .i64 0, .int .i64 0]) (t := 23) ?hr ?_; (case hd | hg => rfl); (case hr => first | (go_simp; done) | (go_simp; rfl)); intro gb670 hg w6 hbox hb; have BK670 := am hbox; have GW670 := sG HB hg; have GE670 := sG HB hg; replace HB := bS HB hb; have NB669_670 := nL BK669 hg; have NB670_669 := nG BK669 hg; replace BK669 := bB BK669 hb; clear hb hbox hg; have hnb7 := NB669_670.out; have hnc7 := NB670_669.out; obtain ⟨_, _, _, _, _, _, _, _, _, _, _, _⟩ := zC6 BK669) | ((with_reducible refine gate_callee (f := 39) rfl ?_); refine goesL_ (some 13) rfl rfl Try.func39 (by kernel_rfl) rfl #[.agg #[.int .i64 a0_0, .int .i64 a0_1, .int .i64 a0_2, .int .i64 a0_3, .int .i64 a0_4, .int .i64 a0_5], .slice A1 l1.length c1] rfl (by (try simp only [pml]); first | done | rfl | (simp only [pdt]; rfl)) ?_; (with_reducible refine (r_Rest.calls k a0_0 a0_1 a0_2 a0_3 a0_4 a0_5 _ _ l1 t671 t674 _ ?side1 ?side2 A3.out).mono ?_); (case side1 => repeat (first | exact (Kd.C_below HR1.out HB.out) | (with_reducible refine Kd.C_alloc ?_ _) | (with_reducible refine Kd.C_drewN ?_ _) | (with_reducible refine Kd.C_drew ?_))); (case side2 => exact HC1.out); rintro e w9 ⟨v672, rfl, ho0, hb⟩; refine ⟨_, rfl, ?_⟩; have HO673 := am (Kd.R_lower (Kd.R_newB ho0 (g := gb669) (o := .cells #[.int .i64 a0_0, .int .i64 a0_1, .int .i64 a0_2, .int .i64 a0_3, .int .i64 a0_4, .int .i64 a0_5] 25 (0, 0)) (fb BK669.out)) (below_size (fW HB.out))); replace BK669 := bB BK669 hb; replace BK670 := bB BK670 hb; replace HB := bS HB hb; (try clear hb); (try clear hb2); (try clear hk); (try clear hi); (try clear ho0); obtain ⟨Ao10, co10, eo10⟩ := Kd.R_slice HO673.out; subst eo10; obtain ⟨_, _, _, _, _, _⟩ := zC3 BK670))
  refine bodyPost_ret (results_ct rfl _ _ gb670 23 #[.int .i64 0, .int .i64 0, .int .i64 0] (0, 0) _ rfl (kkC BK670.out) Try.underlying23 rfl (by kernel_rfl)) rfl ?_
  exact ⟨sqE, fW HB.out⟩
 ·rw [if_neg c4] at H
  have c4b0 : ((t671.length : Int) == 0) = false := beq_eq_false_iff_ne.mpr c4
  have c4b1 : ((t671.length : Int) != 0) = true := bne_iff_ne.mpr c4
  have c4b2 : ¬ (t671 = []) := fun h_ => c4 (by rw [h_]; rfl)
  by_cases c12 : 0 < (t671.length : Int)
  ·rw [if_pos c12] at H
   have c12b0 : decide (0 < (t671.length : Int)) = true := decide_eq_true c12
   have c12b1 : decide (0 < t671.length) = true := decide_eq_true (by omega)
   clear c12
   have H' := am H
   clear H
   go_enter Try.func45, Try.ntmps45
   go_wp2_with (first | ((with_reducible refine gate_dst (N := 2) rfl ?_); refine box_event ?hg (N := 2) ?hd (cs := #[.int .i64 a0_0, .int .i64 a0_1, .int .i64 a0_2, .int .i64 a0_3, .int .i64 a0_4, .int .i64 a0_5]) (t := 25) ?hr ?_; (case hd | hg => rfl); (case hr => first | (go_simp; done) | (go_simp; rfl)); intro gb669 hg w13 hbox hb; have BK669 := am hbox; have GW669 := sG HB hg; have GE669 := sG HB hg; replace HB := bS HB hb; clear hb hbox hg) | ((with_reducible refine gate_dst (N := 4) rfl ?_); refine box_event ?hg (N := 4) ?hd (cs := #[.int .i64 0, .int .i64 0, .int .i64 0]) (t := 23) ?hr ?_; (case hd | hg => rfl); (case hr => first | (go_simp; done) | (go_simp; rfl)); intro gb670 hg w14 hbox hb; have BK670 := am hbox; have GW670 := sG HB hg; have GE670 := sG HB hg; replace HB := bS HB hb; have NB669_670 := nL BK669 hg; have NB670_669 := nG BK669 hg; replace BK669 := bB BK669 hb; clear hb hbox hg; have hnb15 := NB669_670.out; have hnc15 := NB670_669.out; obtain ⟨_, _, _, _, _, _, _, _, _, _, _, _⟩ := zC6 BK669) | ((with_reducible refine gate_callee (f := 39) rfl ?_); refine goesL_ (some 13) rfl rfl Try.func39 (by kernel_rfl) rfl #[.agg #[.int .i64 a0_0, .int .i64 a0_1, .int .i64 a0_2, .int .i64 a0_3, .int .i64 a0_4, .int .i64 a0_5], .slice A1 l1.length c1] rfl (by (try simp only [pml]); first | done | rfl | (simp only [pdt]; rfl)) ?_; (with_reducible refine (r_Rest.calls k a0_0 a0_1 a0_2 a0_3 a0_4 a0_5 _ _ l1 t671 t674 _ ?side1 ?side2 A3.out).mono ?_); (case side1 => repeat (first | exact (Kd.C_below HR1.out HB.out) | (with_reducible refine Kd.C_alloc ?_ _) | (with_reducible refine Kd.C_drewN ?_ _) | (with_reducible refine Kd.C_drew ?_))); (case side2 => exact HC1.out); rintro e w17 ⟨v672, rfl, ho0, hb⟩; refine ⟨_, rfl, ?_⟩; have HO673 := am (Kd.R_lower (Kd.R_newB ho0 (g := gb669) (o := .cells #[.int .i64 a0_0, .int .i64 a0_1, .int .i64 a0_2, .int .i64 a0_3, .int .i64 a0_4, .int .i64 a0_5] 25 (0, 0)) (fb BK669.out)) (below_size (fW HB.out))); replace BK669 := bB BK669 hb; replace BK670 := bB BK670 hb; replace HB := bS HB hb; (try clear hb); (try clear hb2); (try clear hk); (try clear hi); (try clear ho0); obtain ⟨Ao18, co18, eo18⟩ := Kd.R_slice HO673.out; subst eo18; have p675 : 0 ≤ (0 : Int) := (by omega); have q675 : 0 < (t671.length : Int) := of_decide_eq_true (by assumption); obtain ⟨ad675, e675, hx675_0, hx675_1, hx675_2, hx675_3, hx675_4, hx675_5⟩ := at_T25 (Kd.R_reads' HO673.out).2.2 0 p675 q675; cases e675; have qi675 : (0 < t671.length) = True := eq_true (by omega); (try rw [show ((0 : Int)).toNat = 0 from rfl] at hx675_0); (try rw [show 0 * 6 = 0 from rfl] at hx675_0); (try rw [Addr.add_zero'] at hx675_0); (try rw [show ((0 : Int)).toNat = 0 from rfl] at hx675_1); (try rw [show 0 * 6 = 0 from rfl] at hx675_1); (try rw [Addr.add_zero'] at hx675_1); (try rw [show ((0 : Int)).toNat = 0 from rfl] at hx675_2); (try rw [show 0 * 6 = 0 from rfl] at hx675_2); (try rw [Addr.add_zero'] at hx675_2); (try rw [show ((0 : Int)).toNat = 0 from rfl] at hx675_3); (try rw [show 0 * 6 = 0 from rfl] at hx675_3); (try rw [Addr.add_zero'] at hx675_3); (try rw [show ((0 : Int)).toNat = 0 from rfl] at hx675_4); (try rw [show 0 * 6 = 0 from rfl] at hx675_4); (try rw [Addr.add_zero'] at hx675_4); (try rw [show ((0 : Int)).toNat = 0 from rfl] at hx675_5); (try rw [show 0 * 6 = 0 from rfl] at hx675_5); (try rw [Addr.add_zero'] at hx675_5); replace p675 := eq_true p675; replace q675 := eq_true q675) | ((with_reducible refine gate_dst (N := 8) rfl ?_); refine box_event ?hg (N := 8) ?hd (cs := #[.int .i64 0, .int .i64 0, .int .i64 0]) (t := 23) ?hr ?_; (case hd | hg => rfl); (case hr => first | (go_simp; done) | (go_simp; rfl)); intro gb676 hg w19 hbox hb; replace HO673 := dR HO673 hb; have BK676 := am hbox; have GW676 := sG HB hg; have GE676 := sG HB hg; replace HB := bS HB hb; have NB669_676 := nL BK669 hg; have NB676_669 := nG BK669 hg; replace BK669 := bB BK669 hb; have NB670_676 := nL BK670 hg; have NB676_670 := nG BK670 hg; replace BK670 := bB BK670 hb; clear hb hbox hg; have hnb20 := NB676_669.out; have hnc20 := NB669_676.out; have hnb21 := NB676_670.out; have hnc21 := NB670_676.out; obtain ⟨_, _, _, _, _, _⟩ := zC3 BK676))
   go_loopg [9] k (fun kq v9 w' => ∃ (x9_1 : Int) (x677000_1 : Int) (x677001_1 : Int) (x677002_1 : Int), v9 = .int .i64 x9_1 ∧ Aside0 (r_Gap.l0 kq t671 x9_1 x677000_1 x677001_1 x677002_1 = some (r1, r2, r3, r4)) ∧ Aside0 (kq ≤ k) ∧ Aside0 (Kd.R k25 25 w' w.heap.size (fun k_ => k_ ≠ gb669) (.slice (some ad675) t671.length co18) t671) ∧ Aside0 (w'.heap[gb669]? = some (.cells #[.int .i64 a0_0, .int .i64 a0_1, .int .i64 a0_2, .int .i64 a0_3, .int .i64 a0_4, .int .i64 a0_5] 25 (0, 0))) ∧ Aside0 (w'.heap[gb670]? = some (.cells #[.int .i64 0, .int .i64 0, .int .i64 0] 23 (0, 0))) ∧ Aside0 (w'.heap[gb676]? = some (.cells #[.int .i64 x677000_1, .int .i64 x677001_1, .int .i64 x677002_1] 23 (0, 0))) ∧ Aside0 (Below w.heap.size w w'))
   case atStart => exact ⟨(1), ((rd_T25 t671 0).f0.f0), ((rd_T25 t671 0).f0.f1), ((rd_T25 t671 0).f0.f2), sqD, H', ⟨Nat.le_refl _⟩, ⟨by (with_reducible repeat (first | apply Kd.R_alloc | apply Kd.R_drewN | apply Kd.R_drew)); exact Kd.R_mono (Kd.R_far (p := ⟨gb676, 2, none⟩) (Kd.R_far (p := ⟨gb676, 1, none⟩) (Kd.R_far (p := ⟨gb676, 0, none⟩) (Kd.R_types HO673.out BK676.out (by decide)) (fun _ hk => hk.2) (.int .i64 ((rd_T25 t671 0).f0.f0))) (fun _ hk => hk.2) (.int .i64 ((rd_T25 t671 0).f0.f1))) (fun _ hk => hk.2) (.int .i64 ((rd_T25 t671 0).f0.f2))) (fun _ hk => hk.1.2)⟩, ⟨by (with_reducible repeat first | apply bN | apply bd | apply ba); refine blk_far ?_ NB669_676.out _; (with_reducible repeat first | apply bN | apply bd | apply ba); refine blk_far ?_ NB669_676.out _; (with_reducible repeat first | apply bN | apply bd | apply ba); refine blk_far ?_ NB669_676.out _; (with_reducible repeat first | apply bN | apply bd | apply ba); exact BK669.out⟩, ⟨by (with_reducible repeat first | apply bN | apply bd | apply ba); refine blk_far ?_ NB670_676.out _; (with_reducible repeat first | apply bN | apply bd | apply ba); refine blk_far ?_ NB670_676.out _; (with_reducible repeat first | apply bN | apply bd | apply ba); refine blk_far ?_ NB670_676.out _; (with_reducible repeat first | apply bN | apply bd | apply ba); exact BK670.out⟩, ⟨by (with_reducible repeat first | apply bN | apply bd | apply ba); refine blk_put (cs := #[.int .i64 ((rd_T25 t671 0).f0.f0), .int .i64 ((rd_T25 t671 0).f0.f1), .int .i64 0]) ?_ 2 _ rfl; (with_reducible repeat first | apply bN | apply bd | apply ba); refine blk_put (cs := #[.int .i64 ((rd_T25 t671 0).f0.f0), .int .i64 0, .int .i64 0]) ?_ 1 _ rfl; (with_reducible repeat first | apply bN | apply bd | apply ba); refine blk_put (cs := #[.int .i64 0, .int .i64 0, .int .i64 0]) ?_ 0 _ rfl; (with_reducible repeat first | apply bN | apply bd | apply ba); exact BK676.out⟩, ⟨fW HB.out⟩⟩
   case round =>
    clear H'
    try clear c1;try clear c2;try clear p2;try clear c3;try clear c4;try clear c4b0;try clear c4b1;try clear c4b2;try clear p6;try clear q6;try clear hx6;try clear qi6;try clear c7;try clear c12;try clear c12b0;try clear c12b1;try clear c15;try clear c20;try clear c21;try clear hx675_0;try clear hx675_1;try clear hx675_2;try clear hx675_3;try clear hx675_4;try clear hx675_5;try clear p675;try clear q675
    obtain ⟨x9_1, x677000_1, x677001_1, x677002_1, rfl, HA, HK1, HO_6, BK669, BK670, BK676, HB⟩ := hrel
    cases gk with
    | zero => exact absurd HA.out (by simp [r_Gap.l0])
    | succ k1 =>
     have H := HA.out
     clear HA
     simp only [r_Gap.l0] at H
     by_cases c23 : x9_1 < (t671.length : Int)
     rotate_left
     ·rw [if_neg c23] at H
      have c23b0 : decide (x9_1 < (t671.length : Int)) = false := decide_eq_false c23
      clear c23
      simp only [Option.some.injEq, Prod.mk.injEq] at H
      obtain ⟨rfl, rfl, rfl, rfl⟩ := H
      have hnb34 := NB676_669.out
      have hnc34 := NB669_676.out
      have hnb35 := NB676_670.out
      have hnc35 := NB670_676.out
      have := yC1 BK676
      have := kC1 BK676
      have := kC2 BK676
      have := bf BK676.out 0
      have := bf BK676.out 1
      have := bf BK676.out 2
      have hnb37 := NB670_669.out
      have hnc37 := NB669_670.out
      have := yC1 BK670
      have := kC1 BK670
      have := kC2 BK670
      have := bf BK670.out 0
      have := bf BK670.out 1
      have := bf BK670.out 2
      go_wp2
      refine bodyPost_ret (results_ct rfl _ _ gb670 23 #[.int .i64 x677000_1, .int .i64 x677001_1, .int .i64 x677002_1] (0, 0) _ rfl (kkC BK670.out) Try.underlying23 rfl (by kernel_rfl)) rfl ?_
      exact ⟨sqE, fW HB.out⟩
     rw [if_pos c23] at H
     have c23b0 : decide (x9_1 < (t671.length : Int)) = true := decide_eq_true c23
     clear c23
     by_cases c24 : 0 ≤ x9_1
     rotate_left
     ·rw [if_neg c24] at H
      exact absurd H (by simp)
     rw [if_pos c24] at H
     have c24b0 : decide (0 ≤ x9_1) = true := decide_eq_true c24
     clear c24
     replace H := Option.bind_eq_some_iff.mp H
     obtain ⟨t678, A250, H⟩ := H
     replace H : (if t678 = true then (r_Gap.l0 k1 t671 (wrap64 (x9_1 + 1)) ((rd_T25 t671 x9_1).f0.f0) ((rd_T25 t671 x9_1).f0.f1) ((rd_T25 t671 x9_1).f0.f2)) else (r_Gap.l0 k1 t671 (wrap64 (x9_1 + 1)) x677000_1 x677001_1 x677002_1)) = some (r1, r2, r3, r4) := H
     have A25 := am A250
     clear A250
     by_cases c26 : t678 = true
     rotate_left
     ·replace c26 := Bool.eq_false_iff.mpr c26
      subst c26
      have H1 : (r_Gap.l0 k1 t671 (wrap64 (x9_1 + 1)) x677000_1 x677001_1 x677002_1) = some (r1, r2, r3, r4) := by rw [if_neg (show ¬ (false = true) by decide)] at H; exact H
      clear H
      have H := H1
      clear H1
      have H' := am H
      clear H
      try go_wp2
      have n0_ := am (Kd.R_drew HO_6.out)
      have n1_ := am (bd BK669.out)
      have n2_ := am (bd BK670.out)
      have n3_ := am (bd BK676.out)
      have n4_ := am (below_drew1 HB.out)
      clear HO_6 BK669 BK670 BK676 HB
      have HO_6 := n0_
      have BK669 := n1_
      have BK670 := n2_
      have BK676 := n3_
      have HB := n4_
      clear n0_ n1_ n2_ n3_ n4_
      have p677 : 0 ≤ (x9_1 : Int) := of_decide_eq_true (by assumption)
      have q677 : x9_1 < (t671.length : Int) := of_decide_eq_true (by assumption)
      obtain ⟨ad677, e677, hx677_0, hx677_1, hx677_2, hx677_3, hx677_4, hx677_5⟩ := at_T25 (Kd.R_reads' HO_6.out).2.2 x9_1 p677 q677
      obtain rfl : ad675 = ad677 := (by injection e677)
      replace p677 := eq_true p677
      replace q677 := eq_true q677
      refine start_ (n := 7) (S := fun w' => w'.cell? ⟨gb676, 0, none⟩ = some (.int .i64 x677000_1) ∧ w'.cell? ⟨gb676, 1, none⟩ = some (.int .i64 x677001_1) ∧ w'.cell? ⟨gb676, 2, none⟩ = some (.int .i64 x677002_1) ∧ w'.cell? (ad675.add ((x9_1).toNat * 6)) = some (.int .i64 ((rd_T25 t671 x9_1).f0.f0)) ∧ w'.cell? ⟨(ad675.add ((x9_1).toNat * 6)).block, (ad675.add ((x9_1).toNat * 6)).off + 1, none⟩ = some (.int .i64 ((rd_T25 t671 x9_1).f0.f1)) ∧ w'.cell? ⟨(ad675.add ((x9_1).toNat * 6)).block, (ad675.add ((x9_1).toNat * 6)).off + 2, none⟩ = some (.int .i64 ((rd_T25 t671 x9_1).f0.f2)) ∧ w'.cell? ⟨(ad675.add ((x9_1).toNat * 6)).block, (ad675.add ((x9_1).toNat * 6)).off + 3, none⟩ = some (.int .i64 ((rd_T25 t671 x9_1).f1.f0)) ∧ w'.cell? ⟨(ad675.add ((x9_1).toNat * 6)).block, (ad675.add ((x9_1).toNat * 6)).off + 4, none⟩ = some (.int .i64 ((rd_T25 t671 x9_1).f1.f1)) ∧ w'.cell? ⟨(ad675.add ((x9_1).toNat * 6)).block, (ad675.add ((x9_1).toNat * 6)).off + 5, none⟩ = some (.int .i64 ((rd_T25 t671 x9_1).f1.f2))) (ds := []) #[F,F,F,F,F,F,F] (by kernel_rfl) rfl rfl ⟨(bc BK676.out 0).trans rfl, (bc BK676.out 1).trans rfl, (bc BK676.out 2).trans rfl, hx677_0, hx677_1, hx677_2, hx677_3, hx677_4, hx677_5⟩ (fun hHeld => ?_)
      generalize wr.drew = w32 at HO_6 BK669 BK670 BK676 HB hx677_0 hx677_1 hx677_2 hx677_3 hx677_4 hx677_5 hHeld ⊢
      refine pure_ (i := 0) (N := some 30) (v := ?_) (a' := ?_) #[T,F,F,F,F,F,F] rfl rfl (by kernel_rfl) (fun _ _ _ h => h) (Or.inl ⟨by rfl, ?_⟩) ?_ ?_
      rotate_left
      ·intro w'
       go_simp
       with_reducible rfl
      rotate_left
      ·simp only [Act.put, psl, i64_w, i32_w]
       rfl
      refine pure_ (i := 1) (N := some 31) (v := ?_) (a' := ?_) #[T,T,F,F,F,F,F] rfl rfl (by kernel_rfl) (fun _ _ _ h => h) (Or.inl ⟨by rfl, ?_⟩) ?_ ?_
      rotate_left
      ·intro w'
       go_simp
       with_reducible rfl
      rotate_left
      ·simp only [Act.put, psl, i64_w, i32_w]
       rfl
      refine pure_ (i := 2) (N := some 32) (v := ?_) (a' := ?_) #[T,T,T,F,F,F,F] rfl rfl (by kernel_rfl) (fun _ _ _ h => h) (Or.inl ⟨by rfl, ?_⟩) ?_ ?_
      rotate_left
      ·intro w'
       go_simp
       with_reducible rfl
      rotate_left
      ·simp only [Act.put, psl, i64_w, i32_w]
       rfl
      refine pure_ (i := 3) (N := some 33) (v := ?_) (a' := ?_) #[T,T,T,T,F,F,F] rfl rfl (by kernel_rfl) (fun _ _ _ h => h) (Or.inl ⟨by rfl, ?_⟩) ?_ ?_
      rotate_left
      ·intro w'
       go_simp
       with_reducible rfl
      rotate_left
      ·simp only [Act.put, psl, i64_w, i32_w]
       rfl
      refine take_ (i := 4) (N := some 34) (v := ?_) (a' := ?_) #[T,T,T,T,T,F,F] rfl rfl (by kernel_rfl) (fun _ _ _ h => h) (Or.inl ⟨by rfl, ?_⟩) hHeld ?_ ?_
      rotate_left
      ·rintro w' ⟨s0, s1, s2, s3, s4, s5, s6, s7, s8⟩
       go_simp
       with_reducible rfl
      rotate_left
      ·simp only [Act.put, psl, i64_w, i32_w]
       rfl
      refine take_ (i := 5) (N := some 35) (v := ?_) (a' := ?_) #[T,T,T,T,T,T,F] rfl rfl (by kernel_rfl) (fun _ _ _ h => h) (Or.inl ⟨by rfl, ?_⟩) hHeld ?_ ?_
      rotate_left
      ·rintro w' ⟨s0, s1, s2, s3, s4, s5, s6, s7, s8⟩
       go_simp
       with_reducible rfl
      rotate_left
      ·simp only [Act.put, psl, i64_w, i32_w]
       rfl
      refine one_ (i := 6) (N := some 36) (fl 7 7 []) rfl rfl (by kernel_rfl) (by decide) (fun K hK => ?_)
      refine goes_ Try.func66 (by kernel_rfl) rfl #[.agg #[.int .i64 ((rd_T25 t671 x9_1).f0.f0), .int .i64 ((rd_T25 t671 x9_1).f0.f1), .int .i64 ((rd_T25 t671 x9_1).f0.f2)], .agg #[.int .i64 x677000_1, .int .i64 x677001_1, .int .i64 x677002_1]] (by rfl) rfl rfl (by (try simp only [pml]); first | done | rfl | (simp only [pdt]; rfl)) ?_
      with_reducible refine (r_Before.calls ((rd_T25 t671 x9_1).f0.f0) ((rd_T25 t671 x9_1).f0.f1) ((rd_T25 t671 x9_1).f0.f2) x677000_1 x677001_1 x677002_1 false _ A25.out).mono ?_
      rintro e w33 ⟨rfl, hb⟩
      have HS3_ := (hb.cell (bq _ _ (hHeld.2.2.2.1))).trans (hHeld.2.2.2.1)
      have HS4_ := (hb.cell (bq _ _ (hHeld.2.2.2.2.1))).trans (hHeld.2.2.2.2.1)
      have HS5_ := (hb.cell (bq _ _ (hHeld.2.2.2.2.2.1))).trans (hHeld.2.2.2.2.2.1)
      have HS6_ := (hb.cell (bq _ _ (hHeld.2.2.2.2.2.2.1))).trans (hHeld.2.2.2.2.2.2.1)
      have HS7_ := (hb.cell (bq _ _ (hHeld.2.2.2.2.2.2.2.1))).trans (hHeld.2.2.2.2.2.2.2.1)
      have HS8_ := (hb.cell (bq _ _ (hHeld.2.2.2.2.2.2.2.2))).trans (hHeld.2.2.2.2.2.2.2.2)
      refine ⟨_, rfl, ?_⟩
      have n0_ := dR HO_6 hb
      have n1_ := bB BK669 hb
      have n2_ := bB BK670 hb
      have n3_ := bB BK676 hb
      have n4_ := bS HB hb
      clear HO_6 BK669 BK670 BK676 HB
      have HO_6 := n0_
      have BK669 := n1_
      have BK670 := n2_
      have BK676 := n3_
      have HB := n4_
      clear n0_ n1_ n2_ n3_ n4_
      (try clear hb)
      (try clear hb2)
      (try clear hk)
      (try clear hi)
      refine hK.out _ _ ⟨(bc BK676.out 0).trans rfl, (bc BK676.out 1).trans rfl, (bc BK676.out 2).trans rfl, HS3_, HS4_, HS5_, HS6_, HS7_, HS8_⟩ (fun hHeld => ?_)
      clear hK K
      refine norm_ (a' := ?_) ?_ ?_
      rotate_left
      ·show Act.put _ (some 36) _ = _
       simp only [Act.put, psl, i64_w, i32_w]
       rfl
      refine done_ (by kernel_rfl) ?_
      try go_wp2
      go_roundg k1
      case measure => have := HK1.out; omega
      case rel => exact ⟨(wrap64 (x9_1 + 1)), (x677000_1), (x677001_1), (x677002_1), sqD, H', ⟨by have := HK1.out; omega⟩, ⟨fR HO_6.out⟩, ⟨fb BK669.out⟩, ⟨fb BK670.out⟩, ⟨fb BK676.out⟩, ⟨fW HB.out⟩⟩
     subst c26
     have H1 : (r_Gap.l0 k1 t671 (wrap64 (x9_1 + 1)) ((rd_T25 t671 x9_1).f0.f0) ((rd_T25 t671 x9_1).f0.f1) ((rd_T25 t671 x9_1).f0.f2)) = some (r1, r2, r3, r4) := by rw [if_pos rfl] at H; exact H
     clear H
     have H := H1
     clear H1
     have H' := am H
     clear H
     try go_wp2
     have n0_ := am (Kd.R_drew HO_6.out)
     have n1_ := am (bd BK669.out)
     have n2_ := am (bd BK670.out)
     have n3_ := am (bd BK676.out)
     have n4_ := am (below_drew1 HB.out)
     clear HO_6 BK669 BK670 BK676 HB
     have HO_6 := n0_
     have BK669 := n1_
     have BK670 := n2_
     have BK676 := n3_
     have HB := n4_
     clear n0_ n1_ n2_ n3_ n4_
     have p677 : 0 ≤ (x9_1 : Int) := of_decide_eq_true (by assumption)
     have q677 : x9_1 < (t671.length : Int) := of_decide_eq_true (by assumption)
     obtain ⟨ad677, e677, hx677_0, hx677_1, hx677_2, hx677_3, hx677_4, hx677_5⟩ := at_T25 (Kd.R_reads' HO_6.out).2.2 x9_1 p677 q677
     obtain rfl : ad675 = ad677 := (by injection e677)
     replace p677 := eq_true p677
     replace q677 := eq_true q677
     refine start_ (n := 7) (S := fun w' => w'.cell? ⟨gb676, 0, none⟩ = some (.int .i64 x677000_1) ∧ w'.cell? ⟨gb676, 1, none⟩ = some (.int .i64 x677001_1) ∧ w'.cell? ⟨gb676, 2, none⟩ = some (.int .i64 x677002_1) ∧ w'.cell? (ad675.add ((x9_1).toNat * 6)) = some (.int .i64 ((rd_T25 t671 x9_1).f0.f0)) ∧ w'.cell? ⟨(ad675.add ((x9_1).toNat * 6)).block, (ad675.add ((x9_1).toNat * 6)).off + 1, none⟩ = some (.int .i64 ((rd_T25 t671 x9_1).f0.f1)) ∧ w'.cell? ⟨(ad675.add ((x9_1).toNat * 6)).block, (ad675.add ((x9_1).toNat * 6)).off + 2, none⟩ = some (.int .i64 ((rd_T25 t671 x9_1).f0.f2)) ∧ w'.cell? ⟨(ad675.add ((x9_1).toNat * 6)).block, (ad675.add ((x9_1).toNat * 6)).off + 3, none⟩ = some (.int .i64 ((rd_T25 t671 x9_1).f1.f0)) ∧ w'.cell? ⟨(ad675.add ((x9_1).toNat * 6)).block, (ad675.add ((x9_1).toNat * 6)).off + 4, none⟩ = some (.int .i64 ((rd_T25 t671 x9_1).f1.f1)) ∧ w'.cell? ⟨(ad675.add ((x9_1).toNat * 6)).block, (ad675.add ((x9_1).toNat * 6)).off + 5, none⟩ = some (.int .i64 ((rd_T25 t671 x9_1).f1.f2))) (ds := []) #[F,F,F,F,F,F,F] (by kernel_rfl) rfl rfl ⟨(bc BK676.out 0).trans rfl, (bc BK676.out 1).trans rfl, (bc BK676.out 2).trans rfl, hx677_0, hx677_1, hx677_2, hx677_3, hx677_4, hx677_5⟩ (fun hHeld => ?_)
     generalize wr.drew = w27 at HO_6 BK669 BK670 BK676 HB hx677_0 hx677_1 hx677_2 hx677_3 hx677_4 hx677_5 hHeld ⊢
     refine pure_ (i := 0) (N := some 30) (v := ?_) (a' := ?_) #[T,F,F,F,F,F,F] rfl rfl (by kernel_rfl) (fun _ _ _ h => h) (Or.inl ⟨by rfl, ?_⟩) ?_ ?_
     rotate_left
     ·intro w'
      go_simp
      with_reducible rfl
     rotate_left
     ·simp only [Act.put, psl, i64_w, i32_w]
      rfl
     refine pure_ (i := 1) (N := some 31) (v := ?_) (a' := ?_) #[T,T,F,F,F,F,F] rfl rfl (by kernel_rfl) (fun _ _ _ h => h) (Or.inl ⟨by rfl, ?_⟩) ?_ ?_
     rotate_left
     ·intro w'
      go_simp
      with_reducible rfl
     rotate_left
     ·simp only [Act.put, psl, i64_w, i32_w]
      rfl
     refine pure_ (i := 2) (N := some 32) (v := ?_) (a' := ?_) #[T,T,T,F,F,F,F] rfl rfl (by kernel_rfl) (fun _ _ _ h => h) (Or.inl ⟨by rfl, ?_⟩) ?_ ?_
     rotate_left
     ·intro w'
      go_simp
      with_reducible rfl
     rotate_left
     ·simp only [Act.put, psl, i64_w, i32_w]
      rfl
     refine pure_ (i := 3) (N := some 33) (v := ?_) (a' := ?_) #[T,T,T,T,F,F,F] rfl rfl (by kernel_rfl) (fun _ _ _ h => h) (Or.inl ⟨by rfl, ?_⟩) ?_ ?_
     rotate_left
     ·intro w'
      go_simp
      with_reducible rfl
     rotate_left
     ·simp only [Act.put, psl, i64_w, i32_w]
      rfl
     refine take_ (i := 4) (N := some 34) (v := ?_) (a' := ?_) #[T,T,T,T,T,F,F] rfl rfl (by kernel_rfl) (fun _ _ _ h => h) (Or.inl ⟨by rfl, ?_⟩) hHeld ?_ ?_
     rotate_left
     ·rintro w' ⟨s0, s1, s2, s3, s4, s5, s6, s7, s8⟩
      go_simp
      with_reducible rfl
     rotate_left
     ·simp only [Act.put, psl, i64_w, i32_w]
      rfl
     refine take_ (i := 5) (N := some 35) (v := ?_) (a' := ?_) #[T,T,T,T,T,T,F] rfl rfl (by kernel_rfl) (fun _ _ _ h => h) (Or.inl ⟨by rfl, ?_⟩) hHeld ?_ ?_
     rotate_left
     ·rintro w' ⟨s0, s1, s2, s3, s4, s5, s6, s7, s8⟩
      go_simp
      with_reducible rfl
     rotate_left
     ·simp only [Act.put, psl, i64_w, i32_w]
      rfl
     refine one_ (i := 6) (N := some 36) (fl 7 7 []) rfl rfl (by kernel_rfl) (by decide) (fun K hK => ?_)
     refine goes_ Try.func66 (by kernel_rfl) rfl #[.agg #[.int .i64 ((rd_T25 t671 x9_1).f0.f0), .int .i64 ((rd_T25 t671 x9_1).f0.f1), .int .i64 ((rd_T25 t671 x9_1).f0.f2)], .agg #[.int .i64 x677000_1, .int .i64 x677001_1, .int .i64 x677002_1]] (by rfl) rfl rfl (by (try simp only [pml]); first | done | rfl | (simp only [pdt]; rfl)) ?_
     with_reducible refine (r_Before.calls ((rd_T25 t671 x9_1).f0.f0) ((rd_T25 t671 x9_1).f0.f1) ((rd_T25 t671 x9_1).f0.f2) x677000_1 x677001_1 x677002_1 true _ A25.out).mono ?_
     rintro e w28 ⟨rfl, hb⟩
     have HS3_ := (hb.cell (bq _ _ (hHeld.2.2.2.1))).trans (hHeld.2.2.2.1)
     have HS4_ := (hb.cell (bq _ _ (hHeld.2.2.2.2.1))).trans (hHeld.2.2.2.2.1)
     have HS5_ := (hb.cell (bq _ _ (hHeld.2.2.2.2.2.1))).trans (hHeld.2.2.2.2.2.1)
     have HS6_ := (hb.cell (bq _ _ (hHeld.2.2.2.2.2.2.1))).trans (hHeld.2.2.2.2.2.2.1)
     have HS7_ := (hb.cell (bq _ _ (hHeld.2.2.2.2.2.2.2.1))).trans (hHeld.2.2.2.2.2.2.2.1)
     have HS8_ := (hb.cell (bq _ _ (hHeld.2.2.2.2.2.2.2.2))).trans (hHeld.2.2.2.2.2.2.2.2)
     refine ⟨_, rfl, ?_⟩
     have n0_ := dR HO_6 hb
     have n1_ := bB BK669 hb
     have n2_ := bB BK670 hb
     have n3_ := bB BK676 hb
     have n4_ := bS HB hb
     clear HO_6 BK669 BK670 BK676 HB
     have HO_6 := n0_
     have BK669 := n1_
     have BK670 := n2_
     have BK676 := n3_
     have HB := n4_
     clear n0_ n1_ n2_ n3_ n4_
     (try clear hb)
     (try clear hb2)
     (try clear hk)
     (try clear hi)
     refine hK.out _ _ ⟨(bc BK676.out 0).trans rfl, (bc BK676.out 1).trans rfl, (bc BK676.out 2).trans rfl, HS3_, HS4_, HS5_, HS6_, HS7_, HS8_⟩ (fun hHeld => ?_)
     clear hK K
     refine norm_ (a' := ?_) ?_ ?_
     rotate_left
     ·show Act.put _ (some 36) _ = _
      simp only [Act.put, psl, i64_w, i32_w]
      rfl
     refine done_ (by kernel_rfl) ?_
     have p679 : 0 ≤ (x9_1 : Int) := of_decide_eq_true (by assumption)
     have q679 : x9_1 < (t671.length : Int) := of_decide_eq_true (by assumption)
     obtain ⟨ad679, e679, hx679_0, hx679_1, hx679_2, hx679_3, hx679_4, hx679_5⟩ := at_T25 (Kd.R_reads' HO_6.out).2.2 x9_1 p679 q679
     obtain rfl : ad675 = ad679 := (by injection e679)
     replace p679 := eq_true p679
     replace q679 := eq_true q679
     have hnb29 := NB676_669.out
     have hnc29 := NB669_676.out
     have hnb30 := NB676_670.out
     have hnc30 := NB670_676.out
     have := yC1 BK676
     have := kC1 BK676
     have := kC2 BK676
     have := bf BK676.out 0
     have := bf BK676.out 1
     have := bf BK676.out 2
     try go_wp2
     go_roundg k1
     case measure => have := HK1.out; omega
     case rel => exact ⟨(wrap64 (x9_1 + 1)), ((rd_T25 t671 x9_1).f0.f0), ((rd_T25 t671 x9_1).f0.f1), ((rd_T25 t671 x9_1).f0.f2), sqD, H', ⟨by have := HK1.out; omega⟩, ⟨by (with_reducible repeat (first | apply Kd.R_alloc | apply Kd.R_drewN | apply Kd.R_drew)); exact Kd.R_mono (Kd.R_far (p := ⟨gb676, 2, none⟩) (Kd.R_far (p := ⟨gb676, 1, none⟩) (Kd.R_far (p := ⟨gb676, 0, none⟩) (Kd.R_types HO_6.out BK676.out (by decide)) (fun _ hk => hk.2) (.int .i64 ((rd_T25 t671 x9_1).f0.f0))) (fun _ hk => hk.2) (.int .i64 ((rd_T25 t671 x9_1).f0.f1))) (fun _ hk => hk.2) (.int .i64 ((rd_T25 t671 x9_1).f0.f2))) (fun _ hk => hk.1)⟩, ⟨by (with_reducible repeat first | apply bN | apply bd | apply ba); refine blk_far ?_ NB669_676.out _; (with_reducible repeat first | apply bN | apply bd | apply ba); refine blk_far ?_ NB669_676.out _; (with_reducible repeat first | apply bN | apply bd | apply ba); refine blk_far ?_ NB669_676.out _; (with_reducible repeat first | apply bN | apply bd | apply ba); exact BK669.out⟩, ⟨by (with_reducible repeat first | apply bN | apply bd | apply ba); refine blk_far ?_ NB670_676.out _; (with_reducible repeat first | apply bN | apply bd | apply ba); refine blk_far ?_ NB670_676.out _; (with_reducible repeat first | apply bN | apply bd | apply ba); refine blk_far ?_ NB670_676.out _; (with_reducible repeat first | apply bN | apply bd | apply ba); exact BK670.out⟩, ⟨by (with_reducible repeat first | apply bN | apply bd | apply ba); refine blk_put (cs := #[.int .i64 ((rd_T25 t671 x9_1).f0.f0), .int .i64 ((rd_T25 t671 x9_1).f0.f1), .int .i64 x677002_1]) ?_ 2 _ rfl; (with_reducible repeat first | apply bN | apply bd | apply ba); refine blk_put (cs := #[.int .i64 ((rd_T25 t671 x9_1).f0.f0), .int .i64 x677001_1, .int .i64 x677002_1]) ?_ 1 _ rfl; (with_reducible repeat first | apply bN | apply bd | apply ba); refine blk_put (cs := #[.int .i64 x677000_1, .int .i64 x677001_1, .int .i64 x677002_1]) ?_ 0 _ rfl; (with_reducible repeat first | apply bN | apply bd | apply ba); exact BK676.out⟩, ⟨fW HB.out⟩⟩
  ·rw [if_neg c12] at H
   exact absurd H (by simp)

end Go.Proofs.Ytmmdikhmlmoolaa.QA
