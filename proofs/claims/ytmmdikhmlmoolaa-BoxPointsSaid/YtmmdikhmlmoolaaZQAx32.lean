import Derived.Test.YtmmdikhmlmoolaaZQAx0
import Derived.Test.YtmmdikhmlmoolaaZQAx3
import Derived.Test.YtmmdikhmlmoolaaZQAx4
import Derived.Test.YtmmdikhmlmoolaaZQAx5
import Derived.Test.YtmmdikhmlmoolaaZQAx13
import Derived.Test.YtmmdikhmlmoolaaZQAx15
namespace Go.Proofs.Ytmmdikhmlmoolaa.QA
open Go.RowKit Go.Proofs.YtmmdikhmlmoolaaW.PrintWords Go.Proofs.YtmmdikhmlmoolaaW.PrintLast Go.Proofs.YtmmdikhmlmoolaaW.PrintMore
open Go.Proofs.YtmmdikhmlmoolaaW.PrintWords renaming blk_drewN → bN, blk_drew → bd, blk_alloc → ba, below_alloc → wa, pw_below_drewN → wN, below_drew1 → wd, below_set → ws, blk_frozen → bf, blk_cell → bc, blk_far → bF, blk_put → bp
open Aside0 renaming mk → am
open World renaming block_lt_of_cell? → bq
attribute [local go_sem] max2_int min2_int max_two min_two max_three min_three max_four min_four
set_option linter.unusedVariables false
set_option linter.unusedSimpArgs false

mutual
def w_BoxPoints.j0 : Nat → List (S25) → Int → Int → Bool → Int → Int → Int → Int → Int → Int → Int → Int → Int → Int → Int → Int → Int → Int → Int → Int → Int → Int → Int → Int → Int → Option (Bool)
 | 0, _, _, _, _, _, _, _, _, _, _, _, _, _, _, _, _, _, _, _, _, _, _, _, _, _ => none
 | k + 1, x7, x8, x10, x36, x716000, x716001, x716002, x716003, x716004, x716005, x717000, x717001, x717002, x717003, x717004, x717005, x718000, x718001, x718002, x731000, x731001, x731002, x731003, x731004, x731005 => if x36 = true then (some (x8 == x10)) else (w_BoxPoints.l0 k x7 0 0 x716000 x716001 x716002 x716003 x716004 x716005 x717000 x717001 x717002 x717003 x717004 x717005 x718000 x718001 x718002 x731000 x731001 x731002 x731003 x731004 x731005)
def w_BoxPoints.l0 : Nat → List (S25) → Int → Int → Int → Int → Int → Int → Int → Int → Int → Int → Int → Int → Int → Int → Int → Int → Int → Int → Int → Int → Int → Int → Int → Option (Bool)
 | 0, _, _, _, _, _, _, _, _, _, _, _, _, _, _, _, _, _, _, _, _, _, _, _, _ => none
 | k + 1, x7, x11, x12, x716000, x716001, x716002, x716003, x716004, x716005, x717000, x717001, x717002, x717003, x717004, x717005, x718000, x718001, x718002, x731000, x731001, x731002, x731003, x731004, x731005 => if x12 < (x7.length : Int) then (if 0 ≤ x12 then ((box_Has.f k ((rd_T25 x7 x12).f0.f0) ((rd_T25 x7 x12).f0.f1) ((rd_T25 x7 x12).f0.f2) ((rd_T25 x7 x12).f1.f0) ((rd_T25 x7 x12).f1.f1) ((rd_T25 x7 x12).f1.f2) x718000 x718001 x718002).bind fun t732 => (if t732 = true then (w_BoxPoints.l0 k x7 (wrap64 (x11 + 1)) (wrap64 (x12 + 1)) x716000 x716001 x716002 x716003 x716004 x716005 x717000 x717001 x717002 x717003 x717004 x717005 x718000 x718001 x718002 x731000 x731001 x731002 x731003 x731004 x731005) else (w_BoxPoints.l0 k x7 x11 (wrap64 (x12 + 1)) x716000 x716001 x716002 x716003 x716004 x716005 x717000 x717001 x717002 x717003 x717004 x717005 x718000 x718001 x718002 x731000 x731001 x731002 x731003 x731004 x731005))) else (none)) else ((box_Has.f k x716000 x716001 x716002 x716003 x716004 x716005 x718000 x718001 x718002).bind fun t733 => ((box_Has.f k x717000 x717001 x717002 x717003 x717004 x717005 x718000 x718001 x718002).bind fun t734 => ((box_Intersect.f k x716000 x716001 x716002 x716003 x716004 x716005 x717000 x717001 x717002 x717003 x717004 x717005).bind fun bt735 => (if t733 = true then (if t734 = true then (if x11 = 0 then ((box_Overlap.f x716000 x716001 x716002 x716003 x716004 x716005 x717000 x717001 x717002 x717003 x717004 x717005).bind fun t743 => (if ((bt735.2.2.2.2.2.2 == 0) != t743) = true then (w_BoxPoints.j2 k t733 t734 true x718000 x718001 x718002 x731000 x731001 x731002 x731003 x731004 x731005) else (if bt735.2.2.2.2.2.2 = 0 then ((box_Has.f k bt735.1 bt735.2.1 bt735.2.2.1 bt735.2.2.2.1 bt735.2.2.2.2.1 bt735.2.2.2.2.2.1 x718000 x718001 x718002).bind fun t744 => (w_BoxPoints.j2 k t733 t734 (t744 != t734) x718000 x718001 x718002 x731000 x731001 x731002 x731003 x731004 x731005)) else (w_BoxPoints.j2 k t733 t734 false x718000 x718001 x718002 x731000 x731001 x731002 x731003 x731004 x731005)))) else (w_BoxPoints.j2 k t733 t734 true x718000 x718001 x718002 x731000 x731001 x731002 x731003 x731004 x731005)) else (if x11 = 1 then ((box_Overlap.f x716000 x716001 x716002 x716003 x716004 x716005 x717000 x717001 x717002 x717003 x717004 x717005).bind fun t745 => (if ((bt735.2.2.2.2.2.2 == 0) != t745) = true then (w_BoxPoints.j2 k t733 t734 true x718000 x718001 x718002 x731000 x731001 x731002 x731003 x731004 x731005) else (if bt735.2.2.2.2.2.2 = 0 then ((box_Has.f k bt735.1 bt735.2.1 bt735.2.2.1 bt735.2.2.2.1 bt735.2.2.2.2.1 bt735.2.2.2.2.2.1 x718000 x718001 x718002).bind fun t746 => (w_BoxPoints.j2 k t733 t734 (t746 != t734) x718000 x718001 x718002 x731000 x731001 x731002 x731003 x731004 x731005)) else (w_BoxPoints.j2 k t733 t734 false x718000 x718001 x718002 x731000 x731001 x731002 x731003 x731004 x731005)))) else (w_BoxPoints.j2 k t733 t734 true x718000 x718001 x718002 x731000 x731001 x731002 x731003 x731004 x731005))) else (if x11 = 0 then ((box_Overlap.f x716000 x716001 x716002 x716003 x716004 x716005 x717000 x717001 x717002 x717003 x717004 x717005).bind fun t747 => (if ((bt735.2.2.2.2.2.2 == 0) != t747) = true then (w_BoxPoints.j2 k t733 t734 true x718000 x718001 x718002 x731000 x731001 x731002 x731003 x731004 x731005) else (if bt735.2.2.2.2.2.2 = 0 then ((box_Has.f k bt735.1 bt735.2.1 bt735.2.2.1 bt735.2.2.2.1 bt735.2.2.2.2.1 bt735.2.2.2.2.2.1 x718000 x718001 x718002).bind fun t748 => (w_BoxPoints.j2 k t733 t734 (t748 != false) x718000 x718001 x718002 x731000 x731001 x731002 x731003 x731004 x731005)) else (w_BoxPoints.j2 k t733 t734 false x718000 x718001 x718002 x731000 x731001 x731002 x731003 x731004 x731005)))) else (w_BoxPoints.j2 k t733 t734 true x718000 x718001 x718002 x731000 x731001 x731002 x731003 x731004 x731005))))))
def w_BoxPoints.j2 : Nat → Bool → Bool → Bool → Int → Int → Int → Int → Int → Int → Int → Int → Int → Option (Bool)
 | 0, _, _, _, _, _, _, _, _, _, _, _, _ => none
 | k + 1, x13, x14, x107, x718000, x718001, x718002, x731000, x731001, x731002, x731003, x731004, x731005 => if x107 = true then (some false) else (if x13 = true then ((box_Has.f k x731000 x731001 x731002 x731003 x731004 x731005 x718000 x718001 x718002).bind fun t749 => (some t749)) else (if x14 = true then ((box_Has.f k x731000 x731001 x731002 x731003 x731004 x731005 x718000 x718001 x718002).bind fun t750 => (some t750)) else (some true)))
end
def w_BoxPoints.f (k : Nat) (a0_0 : Int) (a0_1 : Int) (a0_2 : Int) (a0_3 : Int) (a0_4 : Int) (a0_5 : Int) (a1_0 : Int) (a1_1 : Int) (a1_2 : Int) (a1_3 : Int) (a1_4 : Int) (a1_5 : Int) (a2_0 : Int) (a2_1 : Int) (a2_2 : Int) : Option (Bool) := (w_awake.f).bind fun t718 => (if t718 = true then ((box_Subtract.f k a0_0 a0_1 a0_2 a0_3 a0_4 a0_5 a1_0 a1_1 a1_2 a1_3 a1_4 a1_5).bind fun bt719 => ((box_Hull.f a0_0 a0_1 a0_2 a0_3 a0_4 a0_5 a1_0 a1_1 a1_2 a1_3 a1_4 a1_5).bind fun bt723 => (if bt719.2 = 0 then (w_BoxPoints.j0 k bt719.1 bt719.2 bt723.2.2.2.2.2.2 (bt723.2.2.2.2.2.2 != 0) a0_0 a0_1 a0_2 a0_3 a0_4 a0_5 a1_0 a1_1 a1_2 a1_3 a1_4 a1_5 a2_0 a2_1 a2_2 bt723.1 bt723.2.1 bt723.2.2.1 bt723.2.2.2.1 bt723.2.2.2.2.1 bt723.2.2.2.2.2.1) else (w_BoxPoints.j0 k bt719.1 bt719.2 bt723.2.2.2.2.2.2 true a0_0 a0_1 a0_2 a0_3 a0_4 a0_5 a1_0 a1_1 a1_2 a1_3 a1_4 a1_5 a2_0 a2_1 a2_2 bt723.1 bt723.2.1 bt723.2.2.1 bt723.2.2.2.1 bt723.2.2.2.2.1 bt723.2.2.2.2.2.1)))) else (some false))
def w_BoxPoints.T13 : Bool × List (List Nat × List Nat) := (true, [([], []), ([], []), ([0, 1], [0, 1]), ([], []), ([], []), ([3, 4, 2], [3, 4]), ([2, 5, 0, 1, 2], [2]), ([5, 6, 0, 1, 2, 3, 4, 5, 6], [5])])
def w_BoxPoints.B13 : List Nat := [0, 0, 3, 0, 0, 31, 63, 127]
theorem w_BoxPoints.tab13 : rtab .any (opsOf Try.f9 13) = w_BoxPoints.T13 := by kernel_rfl
theorem w_BoxPoints.bits13 : waitsOk w_BoxPoints.T13.2 w_BoxPoints.B13 = true := by kernel_rfl
set_option maxHeartbeats 8000000 in
set_option maxRecDepth 100000 in
theorem w_BoxPoints.calls (k : Nat) (a0_0 : Int) (a0_1 : Int) (a0_2 : Int) (a0_3 : Int) (a0_4 : Int) (a0_5 : Int) (a1_0 : Int) (a1_1 : Int) (a1_2 : Int) (a1_3 : Int) (a1_4 : Int) (a1_5 : Int) (a2_0 : Int) (a2_1 : Int) (a2_2 : Int) (r : Bool) (w : World) (h : w_BoxPoints.f k a0_0 a0_1 a0_2 a0_3 a0_4 a0_5 a1_0 a1_1 a1_2 a1_3 a1_4 a1_5 a2_0 a2_1 a2_2 = some r) :
  Calls Try.prog 9 #[.agg #[.int .i64 a0_0, .int .i64 a0_1, .int .i64 a0_2, .int .i64 a0_3, .int .i64 a0_4, .int .i64 a0_5], .agg #[.int .i64 a1_0, .int .i64 a1_1, .int .i64 a1_2, .int .i64 a1_3, .int .i64 a1_4, .int .i64 a1_5], .agg #[.int .i64 a2_0, .int .i64 a2_1, .int .i64 a2_2]] w fun e w' => e = .returned (.bool r) ∧ Below w.heap.size w w' := by
 have hu25 := Try.underlying25
 have hu23 := Try.underlying23
 have HB := am (Below.refl w.heap.size w)
 have H : ((w_awake.f).bind fun t718 => (if t718 = true then ((box_Subtract.f k a0_0 a0_1 a0_2 a0_3 a0_4 a0_5 a1_0 a1_1 a1_2 a1_3 a1_4 a1_5).bind fun bt719 => ((box_Hull.f a0_0 a0_1 a0_2 a0_3 a0_4 a0_5 a1_0 a1_1 a1_2 a1_3 a1_4 a1_5).bind fun bt723 => (if bt719.2 = 0 then (w_BoxPoints.j0 k bt719.1 bt719.2 bt723.2.2.2.2.2.2 (bt723.2.2.2.2.2.2 != 0) a0_0 a0_1 a0_2 a0_3 a0_4 a0_5 a1_0 a1_1 a1_2 a1_3 a1_4 a1_5 a2_0 a2_1 a2_2 bt723.1 bt723.2.1 bt723.2.2.1 bt723.2.2.2.1 bt723.2.2.2.2.1 bt723.2.2.2.2.2.1) else (w_BoxPoints.j0 k bt719.1 bt719.2 bt723.2.2.2.2.2.2 true a0_0 a0_1 a0_2 a0_3 a0_4 a0_5 a1_0 a1_1 a1_2 a1_3 a1_4 a1_5 a2_0 a2_1 a2_2 bt723.1 bt723.2.1 bt723.2.2.1 bt723.2.2.2.1 bt723.2.2.2.2.1 bt723.2.2.2.2.2.1)))) else (some false))) = some r := h
 clear h
 replace H := Option.bind_eq_some_iff.mp H
 obtain ⟨t718, A40, H⟩ := H
 replace H : (if t718 = true then ((box_Subtract.f k a0_0 a0_1 a0_2 a0_3 a0_4 a0_5 a1_0 a1_1 a1_2 a1_3 a1_4 a1_5).bind fun bt719 => ((box_Hull.f a0_0 a0_1 a0_2 a0_3 a0_4 a0_5 a1_0 a1_1 a1_2 a1_3 a1_4 a1_5).bind fun bt723 => (if bt719.2 = 0 then (w_BoxPoints.j0 k bt719.1 bt719.2 bt723.2.2.2.2.2.2 (bt723.2.2.2.2.2.2 != 0) a0_0 a0_1 a0_2 a0_3 a0_4 a0_5 a1_0 a1_1 a1_2 a1_3 a1_4 a1_5 a2_0 a2_1 a2_2 bt723.1 bt723.2.1 bt723.2.2.1 bt723.2.2.2.1 bt723.2.2.2.2.1 bt723.2.2.2.2.2.1) else (w_BoxPoints.j0 k bt719.1 bt719.2 bt723.2.2.2.2.2.2 true a0_0 a0_1 a0_2 a0_3 a0_4 a0_5 a1_0 a1_1 a1_2 a1_3 a1_4 a1_5 a2_0 a2_1 a2_2 bt723.1 bt723.2.1 bt723.2.2.1 bt723.2.2.2.1 bt723.2.2.2.2.1 bt723.2.2.2.2.2.1)))) else (some false)) = some r := H
 have A4 := am A40
 clear A40
 by_cases c5 : t718 = true
 ·subst c5
  have H1 : ((box_Subtract.f k a0_0 a0_1 a0_2 a0_3 a0_4 a0_5 a1_0 a1_1 a1_2 a1_3 a1_4 a1_5).bind fun bt719 => ((box_Hull.f a0_0 a0_1 a0_2 a0_3 a0_4 a0_5 a1_0 a1_1 a1_2 a1_3 a1_4 a1_5).bind fun bt723 => (if bt719.2 = 0 then (w_BoxPoints.j0 k bt719.1 bt719.2 bt723.2.2.2.2.2.2 (bt723.2.2.2.2.2.2 != 0) a0_0 a0_1 a0_2 a0_3 a0_4 a0_5 a1_0 a1_1 a1_2 a1_3 a1_4 a1_5 a2_0 a2_1 a2_2 bt723.1 bt723.2.1 bt723.2.2.1 bt723.2.2.2.1 bt723.2.2.2.2.1 bt723.2.2.2.2.2.1) else (w_BoxPoints.j0 k bt719.1 bt719.2 bt723.2.2.2.2.2.2 true a0_0 a0_1 a0_2 a0_3 a0_4 a0_5 a1_0 a1_1 a1_2 a1_3 a1_4 a1_5 a2_0 a2_1 a2_2 bt723.1 bt723.2.1 bt723.2.2.1 bt723.2.2.2.1 bt723.2.2.2.2.1 bt723.2.2.2.2.2.1)))) = some r := by rw [if_pos rfl] at H; exact H
  clear H
  have H := H1
  clear H1
  replace H := Option.bind_eq_some_iff.mp H
  obtain ⟨⟨t719, t722⟩, A60, H⟩ := H
  replace H : ((box_Hull.f a0_0 a0_1 a0_2 a0_3 a0_4 a0_5 a1_0 a1_1 a1_2 a1_3 a1_4 a1_5).bind fun bt723 => (if t722 = 0 then (w_BoxPoints.j0 k t719 t722 bt723.2.2.2.2.2.2 (bt723.2.2.2.2.2.2 != 0) a0_0 a0_1 a0_2 a0_3 a0_4 a0_5 a1_0 a1_1 a1_2 a1_3 a1_4 a1_5 a2_0 a2_1 a2_2 bt723.1 bt723.2.1 bt723.2.2.1 bt723.2.2.2.1 bt723.2.2.2.2.1 bt723.2.2.2.2.2.1) else (w_BoxPoints.j0 k t719 t722 bt723.2.2.2.2.2.2 true a0_0 a0_1 a0_2 a0_3 a0_4 a0_5 a1_0 a1_1 a1_2 a1_3 a1_4 a1_5 a2_0 a2_1 a2_2 bt723.1 bt723.2.1 bt723.2.2.1 bt723.2.2.2.1 bt723.2.2.2.2.1 bt723.2.2.2.2.2.1))) = some r := H
  have A6 := am A60
  clear A60
  replace H := Option.bind_eq_some_iff.mp H
  obtain ⟨⟨t723, t724, t725, t726, t727, t728, t729⟩, A70, H⟩ := H
  replace H : (if t722 = 0 then (w_BoxPoints.j0 k t719 t722 t729 (t729 != 0) a0_0 a0_1 a0_2 a0_3 a0_4 a0_5 a1_0 a1_1 a1_2 a1_3 a1_4 a1_5 a2_0 a2_1 a2_2 t723 t724 t725 t726 t727 t728) else (w_BoxPoints.j0 k t719 t722 t729 true a0_0 a0_1 a0_2 a0_3 a0_4 a0_5 a1_0 a1_1 a1_2 a1_3 a1_4 a1_5 a2_0 a2_1 a2_2 t723 t724 t725 t726 t727 t728)) = some r := H
  have A7 := am A70
  clear A70
  have HC8 := am H
  clear H
  go_enter Try.func9, Try.ntmps9
  go_upto_region 5 with (first | ((with_reducible refine gate_dst (N := 3) rfl ?_); refine box_event ?hg (N := 3) ?hd (cs := #[.int .i64 a0_0, .int .i64 a0_1, .int .i64 a0_2, .int .i64 a0_3, .int .i64 a0_4, .int .i64 a0_5]) (t := 25) ?hr ?_; (case hd | hg => rfl); (case hr => first | (go_simp; done) | (go_simp; rfl)); intro gb715 hg w9 hbox hb; have BK715 := am hbox; have GW715 := sG HB hg; have GE715 := sG HB hg; replace HB := bS HB hb; clear hb hbox hg) | ((with_reducible refine gate_dst (N := 4) rfl ?_); refine box_event ?hg (N := 4) ?hd (cs := #[.int .i64 a1_0, .int .i64 a1_1, .int .i64 a1_2, .int .i64 a1_3, .int .i64 a1_4, .int .i64 a1_5]) (t := 25) ?hr ?_; (case hd | hg => rfl); (case hr => first | (go_simp; done) | (go_simp; rfl)); intro gb716 hg w10 hbox hb; have BK716 := am hbox; have GW716 := sG HB hg; have GE716 := sG HB hg; replace HB := bS HB hb; have NB715_716 := nL BK715 hg; have NB716_715 := nG BK715 hg; replace BK715 := bB BK715 hb; clear hb hbox hg) | ((with_reducible refine gate_dst (N := 5) rfl ?_); refine box_event ?hg (N := 5) ?hd (cs := #[.int .i64 a2_0, .int .i64 a2_1, .int .i64 a2_2]) (t := 23) ?hr ?_; (case hd | hg => rfl); (case hr => first | (go_simp; done) | (go_simp; rfl)); intro gb717 hg w11 hbox hb; have BK717 := am hbox; have GW717 := sG HB hg; have GE717 := sG HB hg; replace HB := bS HB hb; have NB715_717 := nL BK715 hg; have NB717_715 := nG BK715 hg; replace BK715 := bB BK715 hb; have NB716_717 := nL BK716 hg; have NB717_716 := nG BK716 hg; replace BK716 := bB BK716 hb; clear hb hbox hg) | ((with_reducible refine gate_callee (f := 11) rfl ?_); refine goesL_ (some 17) rfl rfl Try.func11 (by kernel_rfl) rfl #[] rfl (by (try simp only [pml]); first | done | rfl | (simp only [pdt]; rfl)) ?_; (with_reducible refine (w_awake.calls  true _ A4.out).mono ?_); rintro e w12 ⟨rfl, hb⟩; refine ⟨_, rfl, ?_⟩; replace BK715 := bB BK715 hb; replace BK716 := bB BK716 hb; replace BK717 := bB BK717 hb; replace HB := bS HB hb; (try clear hb); (try clear hb2); (try clear hk); (try clear hi); have hnb13 := NB715_716.out; have hnc13 := NB716_715.out; have hnb14 := NB715_717.out; have hnc14 := NB717_715.out; obtain ⟨_, _, _, _, _, _, _, _, _, _, _, _⟩ := zC6 BK715; have hnb16 := NB716_717.out; have hnc16 := NB717_716.out; obtain ⟨_, _, _, _, _, _, _, _, _, _, _, _⟩ := zC6 BK716) | ((with_reducible refine gate_callee (f := 35) rfl ?_); refine goesL_ (some 22) rfl rfl Try.func35 (by kernel_rfl) rfl #[.agg #[.int .i64 a0_0, .int .i64 a0_1, .int .i64 a0_2, .int .i64 a0_3, .int .i64 a0_4, .int .i64 a0_5], .agg #[.int .i64 a1_0, .int .i64 a1_1, .int .i64 a1_2, .int .i64 a1_3, .int .i64 a1_4, .int .i64 a1_5]] rfl (by (try simp only [pml]); first | done | rfl | (simp only [pdt]; rfl)) ?_; (with_reducible refine (box_Subtract.calls k a0_0 a0_1 a0_2 a0_3 a0_4 a0_5 a1_0 a1_1 a1_2 a1_3 a1_4 a1_5 t719 t722 _ A6.out).mono ?_); rintro e w18 ⟨v720, rfl, ho0, hb⟩; refine ⟨_, rfl, ?_⟩; have HO721 := am (Kd.R_lower (Kd.R_newB (Kd.R_newB ho0 (g := gb715) (o := .cells #[.int .i64 a0_0, .int .i64 a0_1, .int .i64 a0_2, .int .i64 a0_3, .int .i64 a0_4, .int .i64 a0_5] 25 (0, 0)) (fb BK715.out)) (g := gb716) (o := .cells #[.int .i64 a1_0, .int .i64 a1_1, .int .i64 a1_2, .int .i64 a1_3, .int .i64 a1_4, .int .i64 a1_5] 25 (0, 0)) (fb BK716.out)) (below_size (fW HB.out))); replace BK715 := bB BK715 hb; replace BK716 := bB BK716 hb; replace BK717 := bB BK717 hb; replace HB := bS HB hb; (try clear hb); (try clear hb2); (try clear hk); (try clear hi); (try clear ho0); obtain ⟨_, _, _, _, _, _, _, _, _, _, _, _⟩ := zC6 BK715; obtain ⟨_, _, _, _, _, _, _, _, _, _, _, _⟩ := zC6 BK716) | ((with_reducible refine gate_callee (f := 26) rfl ?_); refine goesL_ (some 28) rfl rfl Try.func26 (by kernel_rfl) rfl #[.agg #[.int .i64 a0_0, .int .i64 a0_1, .int .i64 a0_2, .int .i64 a0_3, .int .i64 a0_4, .int .i64 a0_5], .agg #[.int .i64 a1_0, .int .i64 a1_1, .int .i64 a1_2, .int .i64 a1_3, .int .i64 a1_4, .int .i64 a1_5]] rfl (by (try simp only [pml]); first | done | rfl | (simp only [pdt]; rfl)) ?_; (with_reducible refine (box_Hull.calls a0_0 a0_1 a0_2 a0_3 a0_4 a0_5 a1_0 a1_1 a1_2 a1_3 a1_4 a1_5 t723 t724 t725 t726 t727 t728 t729 _ A7.out).mono ?_); rintro e w21 ⟨rfl, hb⟩; refine ⟨_, rfl, ?_⟩; replace HO721 := dR HO721 hb; replace BK715 := bB BK715 hb; replace BK716 := bB BK716 hb; replace BK717 := bB BK717 hb; replace HB := bS HB hb; (try clear hb); (try clear hb2); (try clear hk); (try clear hi)) | ((with_reducible refine gate_dst (N := 9) rfl ?_); refine box_event ?hg (N := 9) ?hd (cs := #[.int .i64 0, .int .i64 0, .int .i64 0, .int .i64 0, .int .i64 0, .int .i64 0]) (t := 25) ?hr ?_; (case hd | hg => rfl); (case hr => first | (go_simp; done) | (go_simp; rfl)); intro gb730 hg w22 hbox hb; replace HO721 := eR HO721 hg hb; have BK730 := am hbox; have GW730 := sG HB hg; have GE730 := sG HB hg; replace HB := bS HB hb; have NB715_730 := nL BK715 hg; have NB730_715 := nG BK715 hg; replace BK715 := bB BK715 hb; have NB716_730 := nL BK716 hg; have NB730_716 := nG BK716 hg; replace BK716 := bB BK716 hb; have NB717_730 := nL BK717 hg; have NB730_717 := nG BK717 hg; replace BK717 := bB BK717 hb; clear hb hbox hg; have hnb23 := NB730_715.out; have hnc23 := NB715_730.out; have hnb24 := NB730_716.out; have hnc24 := NB716_730.out; have hnb25 := NB730_717.out; have hnc25 := NB717_730.out; obtain ⟨_, _, _, _, _, _, _, _, _, _, _, _⟩ := zC6 BK730))
  (try simp only [Act.put, psl])
  go_cut [36] (fun v36 wc => ∃ (kq : Nat) (x36_7 : Bool), v36 = .bool x36_7 ∧ Aside0 (w_BoxPoints.j0 kq t719 t722 t729 x36_7 a0_0 a0_1 a0_2 a0_3 a0_4 a0_5 a1_0 a1_1 a1_2 a1_3 a1_4 a1_5 a2_0 a2_1 a2_2 t723 t724 t725 t726 t727 t728 = some r) ∧ Aside0 (kq ≤ k) ∧ Aside0 (Kd.R k25 25 wc w.heap.size (fun k_ => k_ ≠ gb715 ∧ k_ ≠ gb716 ∧ k_ ≠ gb730) v720 t719) ∧ Aside0 (wc.heap[gb715]? = some (.cells #[.int .i64 a0_0, .int .i64 a0_1, .int .i64 a0_2, .int .i64 a0_3, .int .i64 a0_4, .int .i64 a0_5] 25 (0, 0))) ∧ Aside0 (wc.heap[gb716]? = some (.cells #[.int .i64 a1_0, .int .i64 a1_1, .int .i64 a1_2, .int .i64 a1_3, .int .i64 a1_4, .int .i64 a1_5] 25 (0, 0))) ∧ Aside0 (wc.heap[gb717]? = some (.cells #[.int .i64 a2_0, .int .i64 a2_1, .int .i64 a2_2] 23 (0, 0))) ∧ Aside0 (wc.heap[gb730]? = some (.cells #[.int .i64 t723, .int .i64 t724, .int .i64 t725, .int .i64 t726, .int .i64 t727, .int .i64 t728] 25 (0, 0))) ∧ Aside0 (Below w.heap.size w wc))
  case first =>
   have H := HC8.out
   clear HC8
   by_cases c27 : t722 = 0
   ·rw [if_pos c27] at H
    have c27b0 : (t722 == 0) = true := beq_iff_eq.mpr c27
    have c27b1 : (t722 != 0) = false := bne_eq_false_iff_eq.mpr c27
    clear c27
    (first | rw [c27b0] | (simp only [i64_w, i32_w]; rw [c27b0]) | skip)
    have H' := am H
    clear H
    go_wp2
    go_meet
    case rel => exact ⟨_, ((t729 != 0)), (by first | rfl | (simp; done) | (simp [*]; done)), H', ⟨by first | omega | exact Nat.le_refl _⟩, ⟨by (with_reducible repeat (first | apply Kd.R_alloc | apply Kd.R_drewN | apply Kd.R_drew)); exact Kd.R_mono (Kd.R_far (p := ⟨gb730, 5, none⟩) (Kd.R_far (p := ⟨gb730, 4, none⟩) (Kd.R_far (p := ⟨gb730, 3, none⟩) (Kd.R_far (p := ⟨gb730, 2, none⟩) (Kd.R_far (p := ⟨gb730, 1, none⟩) (Kd.R_far (p := ⟨gb730, 0, none⟩) (Kd.R_mono HO721.out (fun k_ hk => (⟨hk, hk.2⟩ : _ ∧ k_ ≠ gb730))) (fun _ hk => hk.2) (.int .i64 t723)) (fun _ hk => hk.2) (.int .i64 t724)) (fun _ hk => hk.2) (.int .i64 t725)) (fun _ hk => hk.2) (.int .i64 t726)) (fun _ hk => hk.2) (.int .i64 t727)) (fun _ hk => hk.2) (.int .i64 t728)) (fun _ hk => ⟨hk.1.1.1.2, ⟨hk.1.1.2, hk.1.2⟩⟩)⟩, ⟨by (with_reducible repeat first | apply bN | apply bd | apply ba); refine bF ?_ NB715_730.out _; (with_reducible repeat first | apply bN | apply bd | apply ba); refine bF ?_ NB715_730.out _; (with_reducible repeat first | apply bN | apply bd | apply ba); refine bF ?_ NB715_730.out _; (with_reducible repeat first | apply bN | apply bd | apply ba); refine bF ?_ NB715_730.out _; (with_reducible repeat first | apply bN | apply bd | apply ba); refine bF ?_ NB715_730.out _; (with_reducible repeat first | apply bN | apply bd | apply ba); refine bF ?_ NB715_730.out _; (with_reducible repeat first | apply bN | apply bd | apply ba); exact BK715.out⟩, ⟨by (with_reducible repeat first | apply bN | apply bd | apply ba); refine bF ?_ NB716_730.out _; (with_reducible repeat first | apply bN | apply bd | apply ba); refine bF ?_ NB716_730.out _; (with_reducible repeat first | apply bN | apply bd | apply ba); refine bF ?_ NB716_730.out _; (with_reducible repeat first | apply bN | apply bd | apply ba); refine bF ?_ NB716_730.out _; (with_reducible repeat first | apply bN | apply bd | apply ba); refine bF ?_ NB716_730.out _; (with_reducible repeat first | apply bN | apply bd | apply ba); refine bF ?_ NB716_730.out _; (with_reducible repeat first | apply bN | apply bd | apply ba); exact BK716.out⟩, ⟨by (with_reducible repeat first | apply bN | apply bd | apply ba); refine bF ?_ NB717_730.out _; (with_reducible repeat first | apply bN | apply bd | apply ba); refine bF ?_ NB717_730.out _; (with_reducible repeat first | apply bN | apply bd | apply ba); refine bF ?_ NB717_730.out _; (with_reducible repeat first | apply bN | apply bd | apply ba); refine bF ?_ NB717_730.out _; (with_reducible repeat first | apply bN | apply bd | apply ba); refine bF ?_ NB717_730.out _; (with_reducible repeat first | apply bN | apply bd | apply ba); refine bF ?_ NB717_730.out _; (with_reducible repeat first | apply bN | apply bd | apply ba); exact BK717.out⟩, ⟨by (with_reducible repeat first | apply bN | apply bd | apply ba); refine bp (cs := #[.int .i64 t723, .int .i64 t724, .int .i64 t725, .int .i64 t726, .int .i64 t727, .int .i64 0]) ?_ 5 _ rfl; (with_reducible repeat first | apply bN | apply bd | apply ba); refine bp (cs := #[.int .i64 t723, .int .i64 t724, .int .i64 t725, .int .i64 t726, .int .i64 0, .int .i64 0]) ?_ 4 _ rfl; (with_reducible repeat first | apply bN | apply bd | apply ba); refine bp (cs := #[.int .i64 t723, .int .i64 t724, .int .i64 t725, .int .i64 0, .int .i64 0, .int .i64 0]) ?_ 3 _ rfl; (with_reducible repeat first | apply bN | apply bd | apply ba); refine bp (cs := #[.int .i64 t723, .int .i64 t724, .int .i64 0, .int .i64 0, .int .i64 0, .int .i64 0]) ?_ 2 _ rfl; (with_reducible repeat first | apply bN | apply bd | apply ba); refine bp (cs := #[.int .i64 t723, .int .i64 0, .int .i64 0, .int .i64 0, .int .i64 0, .int .i64 0]) ?_ 1 _ rfl; (with_reducible repeat first | apply bN | apply bd | apply ba); refine bp (cs := #[.int .i64 0, .int .i64 0, .int .i64 0, .int .i64 0, .int .i64 0, .int .i64 0]) ?_ 0 _ rfl; (with_reducible repeat first | apply bN | apply bd | apply ba); exact BK730.out⟩, ⟨by repeat (first | (with_reducible first | exact HB.out | apply wa | apply wN | apply wd | refine ws ?_ GE715.out | refine ws ?_ GE716.out | refine ws ?_ GE717.out | refine ws ?_ GE730.out) | exact HB.out)⟩⟩
   rw [if_neg c27] at H
   have c27b0 : (t722 == 0) = false := beq_eq_false_iff_ne.mpr c27
   have c27b1 : (t722 != 0) = true := bne_iff_ne.mpr c27
   (first | rw [c27b0] | (simp only [i64_w, i32_w]; rw [c27b0]) | skip)
   have H' := am H
   clear H
   go_wp2
   go_meet
   case rel => exact ⟨_, (true), (by first | rfl | (simp; done) | (simp [*]; done)), H', ⟨by first | omega | exact Nat.le_refl _⟩, ⟨by (with_reducible repeat (first | apply Kd.R_alloc | apply Kd.R_drewN | apply Kd.R_drew)); exact Kd.R_mono (Kd.R_far (p := ⟨gb730, 5, none⟩) (Kd.R_far (p := ⟨gb730, 4, none⟩) (Kd.R_far (p := ⟨gb730, 3, none⟩) (Kd.R_far (p := ⟨gb730, 2, none⟩) (Kd.R_far (p := ⟨gb730, 1, none⟩) (Kd.R_far (p := ⟨gb730, 0, none⟩) (Kd.R_mono HO721.out (fun k_ hk => (⟨hk, hk.2⟩ : _ ∧ k_ ≠ gb730))) (fun _ hk => hk.2) (.int .i64 t723)) (fun _ hk => hk.2) (.int .i64 t724)) (fun _ hk => hk.2) (.int .i64 t725)) (fun _ hk => hk.2) (.int .i64 t726)) (fun _ hk => hk.2) (.int .i64 t727)) (fun _ hk => hk.2) (.int .i64 t728)) (fun _ hk => ⟨hk.1.1.1.2, ⟨hk.1.1.2, hk.1.2⟩⟩)⟩, ⟨by (with_reducible repeat first | apply bN | apply bd | apply ba); refine bF ?_ NB715_730.out _; (with_reducible repeat first | apply bN | apply bd | apply ba); refine bF ?_ NB715_730.out _; (with_reducible repeat first | apply bN | apply bd | apply ba); refine bF ?_ NB715_730.out _; (with_reducible repeat first | apply bN | apply bd | apply ba); refine bF ?_ NB715_730.out _; (with_reducible repeat first | apply bN | apply bd | apply ba); refine bF ?_ NB715_730.out _; (with_reducible repeat first | apply bN | apply bd | apply ba); refine bF ?_ NB715_730.out _; (with_reducible repeat first | apply bN | apply bd | apply ba); exact BK715.out⟩, ⟨by (with_reducible repeat first | apply bN | apply bd | apply ba); refine bF ?_ NB716_730.out _; (with_reducible repeat first | apply bN | apply bd | apply ba); refine bF ?_ NB716_730.out _; (with_reducible repeat first | apply bN | apply bd | apply ba); refine bF ?_ NB716_730.out _; (with_reducible repeat first | apply bN | apply bd | apply ba); refine bF ?_ NB716_730.out _; (with_reducible repeat first | apply bN | apply bd | apply ba); refine bF ?_ NB716_730.out _; (with_reducible repeat first | apply bN | apply bd | apply ba); refine bF ?_ NB716_730.out _; (with_reducible repeat first | apply bN | apply bd | apply ba); exact BK716.out⟩, ⟨by (with_reducible repeat first | apply bN | apply bd | apply ba); refine bF ?_ NB717_730.out _; (with_reducible repeat first | apply bN | apply bd | apply ba); refine bF ?_ NB717_730.out _; (with_reducible repeat first | apply bN | apply bd | apply ba); refine bF ?_ NB717_730.out _; (with_reducible repeat first | apply bN | apply bd | apply ba); refine bF ?_ NB717_730.out _; (with_reducible repeat first | apply bN | apply bd | apply ba); refine bF ?_ NB717_730.out _; (with_reducible repeat first | apply bN | apply bd | apply ba); refine bF ?_ NB717_730.out _; (with_reducible repeat first | apply bN | apply bd | apply ba); exact BK717.out⟩, ⟨by (with_reducible repeat first | apply bN | apply bd | apply ba); refine bp (cs := #[.int .i64 t723, .int .i64 t724, .int .i64 t725, .int .i64 t726, .int .i64 t727, .int .i64 0]) ?_ 5 _ rfl; (with_reducible repeat first | apply bN | apply bd | apply ba); refine bp (cs := #[.int .i64 t723, .int .i64 t724, .int .i64 t725, .int .i64 t726, .int .i64 0, .int .i64 0]) ?_ 4 _ rfl; (with_reducible repeat first | apply bN | apply bd | apply ba); refine bp (cs := #[.int .i64 t723, .int .i64 t724, .int .i64 t725, .int .i64 0, .int .i64 0, .int .i64 0]) ?_ 3 _ rfl; (with_reducible repeat first | apply bN | apply bd | apply ba); refine bp (cs := #[.int .i64 t723, .int .i64 t724, .int .i64 0, .int .i64 0, .int .i64 0, .int .i64 0]) ?_ 2 _ rfl; (with_reducible repeat first | apply bN | apply bd | apply ba); refine bp (cs := #[.int .i64 t723, .int .i64 0, .int .i64 0, .int .i64 0, .int .i64 0, .int .i64 0]) ?_ 1 _ rfl; (with_reducible repeat first | apply bN | apply bd | apply ba); refine bp (cs := #[.int .i64 0, .int .i64 0, .int .i64 0, .int .i64 0, .int .i64 0, .int .i64 0]) ?_ 0 _ rfl; (with_reducible repeat first | apply bN | apply bd | apply ba); exact BK730.out⟩, ⟨by repeat (first | (with_reducible first | exact HB.out | apply wa | apply wN | apply wd | refine ws ?_ GE715.out | refine ws ?_ GE716.out | refine ws ?_ GE717.out | refine ws ?_ GE730.out) | exact HB.out)⟩⟩
  case rest =>
   clear HC8
   try clear c1;try clear c2;try clear p2;try clear c3;try clear c5;try clear c9;try clear c11;try clear c13;try clear c14;try clear c16;try clear c23;try clear c24;try clear c25;try clear c26;try clear c27;try clear c27b0;try clear c27b1;try clear hcz15_0;try clear hcz15_1;try clear hcz15_2;try clear hcz15_3;try clear hcz15_4;try clear hcz15_5;try clear hcz17_0;try clear hcz17_1;try clear hcz17_2;try clear hcz17_3;try clear hcz17_4;try clear hcz17_5;try clear hcz19_0;try clear hcz19_1;try clear hcz19_2;try clear hcz19_3;try clear hcz19_4;try clear hcz19_5;try clear hcz20_0;try clear hcz20_1;try clear hcz20_2;try clear hcz20_3;try clear hcz20_4;try clear hcz20_5;try clear hcz26_0;try clear hcz26_1;try clear hcz26_2;try clear hcz26_3;try clear hcz26_4;try clear hcz26_5;try clear hfz15_0;try clear hfz15_1;try clear hfz15_2;try clear hfz15_3;try clear hfz15_4;try clear hfz15_5;try clear hfz17_0;try clear hfz17_1;try clear hfz17_2;try clear hfz17_3;try clear hfz17_4;try clear hfz17_5;try clear hfz19_0;try clear hfz19_1;try clear hfz19_2;try clear hfz19_3;try clear hfz19_4;try clear hfz19_5;try clear hfz20_0;try clear hfz20_1;try clear hfz20_2;try clear hfz20_3;try clear hfz20_4;try clear hfz20_5;try clear hfz26_0;try clear hfz26_1;try clear hfz26_2;try clear hfz26_3;try clear hfz26_4;try clear hfz26_5
   obtain ⟨kq, x36_7, rfl, HA, HJ7, HO_7, BK715, BK716, BK717, BK730, HB⟩ := hcut
   cases kq with
   | zero => exact absurd HA.out (by simp [w_BoxPoints.j0])
   | succ kj7 =>
    have H := HA.out
    clear HA
    simp only [w_BoxPoints.j0] at H
    by_cases c28 : x36_7 = true
    ·subst c28
     have H1 : (some (t722 == t729)) = some r := by rw [if_pos rfl] at H; exact H
     clear H
     have H := H1
     clear H1
     obtain rfl := Option.some.inj H
     go_wp2
     go_ret
     exact ⟨by first | rfl | (simp [errW_none, errW_some] <;> rfl) | (simp [*, errW_none, errW_some] <;> rfl), by repeat (first | (with_reducible first | exact HB.out | apply wa | apply wN | apply wd | refine ws ?_ GE715.out | refine ws ?_ GE716.out | refine ws ?_ GE717.out | refine ws ?_ GE730.out) | exact HB.out)⟩
    replace c28 := Bool.eq_false_iff.mpr c28
    subst c28
    have H1 : (w_BoxPoints.l0 kj7 t719 0 0 a0_0 a0_1 a0_2 a0_3 a0_4 a0_5 a1_0 a1_1 a1_2 a1_3 a1_4 a1_5 a2_0 a2_1 a2_2 t723 t724 t725 t726 t727 t728) = some r := by rw [if_neg (show ¬ (false = true) by decide)] at H; exact H
    clear H
    have H := H1
    clear H1
    have H' := am H
    clear H
    go_wp2
    go_loopg [11, 12] kj7 (fun kq v11 v12 w' => ∃ (x11_2 : Int) (x12_2 : Int), v11 = .int .i64 x11_2 ∧ v12 = .int .i64 x12_2 ∧ Aside0 (w_BoxPoints.l0 kq t719 x11_2 x12_2 a0_0 a0_1 a0_2 a0_3 a0_4 a0_5 a1_0 a1_1 a1_2 a1_3 a1_4 a1_5 a2_0 a2_1 a2_2 t723 t724 t725 t726 t727 t728 = some r) ∧ Aside0 (kq ≤ kj7) ∧ Aside0 (Kd.R k25 25 w' w.heap.size (fun k_ => k_ ≠ gb715 ∧ k_ ≠ gb716 ∧ k_ ≠ gb730) v720 t719) ∧ Aside0 (w'.heap[gb715]? = some (.cells #[.int .i64 a0_0, .int .i64 a0_1, .int .i64 a0_2, .int .i64 a0_3, .int .i64 a0_4, .int .i64 a0_5] 25 (0, 0))) ∧ Aside0 (w'.heap[gb716]? = some (.cells #[.int .i64 a1_0, .int .i64 a1_1, .int .i64 a1_2, .int .i64 a1_3, .int .i64 a1_4, .int .i64 a1_5] 25 (0, 0))) ∧ Aside0 (w'.heap[gb717]? = some (.cells #[.int .i64 a2_0, .int .i64 a2_1, .int .i64 a2_2] 23 (0, 0))) ∧ Aside0 (w'.heap[gb730]? = some (.cells #[.int .i64 t723, .int .i64 t724, .int .i64 t725, .int .i64 t726, .int .i64 t727, .int .i64 t728] 25 (0, 0))) ∧ Aside0 (Below w.heap.size w w'))
    case atStart => exact ⟨(0), (0), (by first | rfl | (simp; done) | (simp [*]; done)), (by first | rfl | (simp; done) | (simp [*]; done)), H', ⟨Nat.le_refl _⟩, ⟨by (with_reducible repeat (first | apply Kd.R_alloc | apply Kd.R_drewN | apply Kd.R_drew)); exact HO_7.out⟩, ⟨by (with_reducible repeat first | apply bN | apply bd | apply ba); exact BK715.out⟩, ⟨by (with_reducible repeat first | apply bN | apply bd | apply ba); exact BK716.out⟩, ⟨by (with_reducible repeat first | apply bN | apply bd | apply ba); exact BK717.out⟩, ⟨by (with_reducible repeat first | apply bN | apply bd | apply ba); exact BK730.out⟩, ⟨by repeat (first | (with_reducible first | exact HB.out | apply wa | apply wN | apply wd | refine ws ?_ GE715.out | refine ws ?_ GE716.out | refine ws ?_ GE717.out | refine ws ?_ GE730.out) | exact HB.out)⟩⟩
    case round =>
     clear H'
     try clear c1;try clear c2;try clear p2;try clear c3;try clear c5;try clear c9;try clear c11;try clear c13;try clear c14;try clear c16;try clear c23;try clear c24;try clear c25;try clear c26;try clear c27;try clear c27b0;try clear c27b1;try clear c28;try clear hcz15_0;try clear hcz15_1;try clear hcz15_2;try clear hcz15_3;try clear hcz15_4;try clear hcz15_5;try clear hcz17_0;try clear hcz17_1;try clear hcz17_2;try clear hcz17_3;try clear hcz17_4;try clear hcz17_5;try clear hcz19_0;try clear hcz19_1;try clear hcz19_2;try clear hcz19_3;try clear hcz19_4;try clear hcz19_5;try clear hcz20_0;try clear hcz20_1;try clear hcz20_2;try clear hcz20_3;try clear hcz20_4;try clear hcz20_5;try clear hcz26_0;try clear hcz26_1;try clear hcz26_2;try clear hcz26_3;try clear hcz26_4;try clear hcz26_5;try clear hfz15_0;try clear hfz15_1;try clear hfz15_2;try clear hfz15_3;try clear hfz15_4;try clear hfz15_5;try clear hfz17_0;try clear hfz17_1;try clear hfz17_2;try clear hfz17_3;try clear hfz17_4;try clear hfz17_5;try clear hfz19_0;try clear hfz19_1;try clear hfz19_2;try clear hfz19_3;try clear hfz19_4;try clear hfz19_5;try clear hfz20_0;try clear hfz20_1;try clear hfz20_2;try clear hfz20_3;try clear hfz20_4;try clear hfz20_5;try clear hfz26_0;try clear hfz26_1;try clear hfz26_2;try clear hfz26_3;try clear hfz26_4;try clear hfz26_5;try clear p2
     obtain ⟨x11_2, x12_2, rfl, rfl, HA, HK2, HO_7, BK715, BK716, BK717, BK730, HB⟩ := hrel
     cases gk with
     | zero => exact absurd HA.out (by simp [w_BoxPoints.l0])
     | succ k2 =>
      have H := HA.out
      clear HA
      simp only [w_BoxPoints.l0] at H
      by_cases c29 : x12_2 < (t719.length : Int)
      ·rw [if_pos c29] at H
       have c29b0 : decide (x12_2 < (t719.length : Int)) = true := decide_eq_true c29
       clear c29
       by_cases c30 : 0 ≤ x12_2
       rotate_left
       ·rw [if_neg c30] at H
        exact absurd H (by simp)
       rw [if_pos c30] at H
       have c30b0 : decide (0 ≤ x12_2) = true := decide_eq_true c30
       clear c30
       replace H := Option.bind_eq_some_iff.mp H
       obtain ⟨t732, A310, H⟩ := H
       replace H : (if t732 = true then (w_BoxPoints.l0 k2 t719 (wrap64 (x11_2 + 1)) (wrap64 (x12_2 + 1)) a0_0 a0_1 a0_2 a0_3 a0_4 a0_5 a1_0 a1_1 a1_2 a1_3 a1_4 a1_5 a2_0 a2_1 a2_2 t723 t724 t725 t726 t727 t728) else (w_BoxPoints.l0 k2 t719 x11_2 (wrap64 (x12_2 + 1)) a0_0 a0_1 a0_2 a0_3 a0_4 a0_5 a1_0 a1_1 a1_2 a1_3 a1_4 a1_5 a2_0 a2_1 a2_2 t723 t724 t725 t726 t727 t728)) = some r := H
       have A31 := am A310
       clear A310
       by_cases c32 : t732 = true
       ·subst c32
        have H1 : (w_BoxPoints.l0 k2 t719 (wrap64 (x11_2 + 1)) (wrap64 (x12_2 + 1)) a0_0 a0_1 a0_2 a0_3 a0_4 a0_5 a1_0 a1_1 a1_2 a1_3 a1_4 a1_5 a2_0 a2_1 a2_2 t723 t724 t725 t726 t727 t728) = some r := by rw [if_pos rfl] at H; exact H
        clear H
        have H := H1
        clear H1
        have H' := am H
        clear H
        obtain ⟨Ao33, co33, eo33⟩ := Kd.R_slice HO_7.out
        subst eo33
        try go_wp2
        have n0_ := am (Kd.R_drew HO_7.out)
        have n1_ := am (bd BK715.out)
        have n2_ := am (bd BK716.out)
        have n3_ := am (bd BK717.out)
        have n4_ := am (bd BK730.out)
        have n5_ := am (wd HB.out)
        clear HO_7 BK715 BK716 BK717 BK730 HB
        have HO_7 := n0_
        have BK715 := n1_
        have BK716 := n2_
        have BK717 := n3_
        have BK730 := n4_
        have HB := n5_
        clear n0_ n1_ n2_ n3_ n4_ n5_
        have p731 : 0 ≤ (x12_2 : Int) := of_decide_eq_true (by assumption)
        have q731 : x12_2 < (t719.length : Int) := of_decide_eq_true (by assumption)
        obtain ⟨ad731, e731, hx731_0, hx731_1, hx731_2, hx731_3, hx731_4, hx731_5⟩ := at_T25 (Kd.R_reads' HO_7.out).2.2 x12_2 p731 q731
        cases e731
        replace p731 := eq_true p731
        replace q731 := eq_true q731
        refine start_ (n := 6) (S := fun w' => w'.cell? ⟨gb717, 0, none⟩ = some (.int .i64 a2_0) ∧ w'.cell? ⟨gb717, 1, none⟩ = some (.int .i64 a2_1) ∧ w'.cell? ⟨gb717, 2, none⟩ = some (.int .i64 a2_2) ∧ w'.cell? (ad731.add ((x12_2).toNat * 6)) = some (.int .i64 ((rd_T25 t719 x12_2).f0.f0)) ∧ w'.cell? ⟨(ad731.add ((x12_2).toNat * 6)).block, (ad731.add ((x12_2).toNat * 6)).off + 1, none⟩ = some (.int .i64 ((rd_T25 t719 x12_2).f0.f1)) ∧ w'.cell? ⟨(ad731.add ((x12_2).toNat * 6)).block, (ad731.add ((x12_2).toNat * 6)).off + 2, none⟩ = some (.int .i64 ((rd_T25 t719 x12_2).f0.f2)) ∧ w'.cell? ⟨(ad731.add ((x12_2).toNat * 6)).block, (ad731.add ((x12_2).toNat * 6)).off + 3, none⟩ = some (.int .i64 ((rd_T25 t719 x12_2).f1.f0)) ∧ w'.cell? ⟨(ad731.add ((x12_2).toNat * 6)).block, (ad731.add ((x12_2).toNat * 6)).off + 4, none⟩ = some (.int .i64 ((rd_T25 t719 x12_2).f1.f1)) ∧ w'.cell? ⟨(ad731.add ((x12_2).toNat * 6)).block, (ad731.add ((x12_2).toNat * 6)).off + 5, none⟩ = some (.int .i64 ((rd_T25 t719 x12_2).f1.f2))) (ds := []) #[F,F,F,F,F,F] (by kernel_rfl) rfl rfl ⟨(bc BK717.out 0).trans rfl, (bc BK717.out 1).trans rfl, (bc BK717.out 2).trans rfl, hx731_0, hx731_1, hx731_2, hx731_3, hx731_4, hx731_5⟩ (fun hHeld => ?_)
        generalize wr.drew = w34 at HO_7 BK715 BK716 BK717 BK730 HB hx731_0 hx731_1 hx731_2 hx731_3 hx731_4 hx731_5 hHeld ⊢
        refine pure_ (i := 0) (N := some 46) (v := ?_) (a' := ?_) #[T,F,F,F,F,F] rfl rfl (by kernel_rfl) (fun _ _ _ h => h) (Or.inl ⟨by rfl, ?_⟩) ?_ ?_
        rotate_left
        ·intro w'
         go_simp
         with_reducible rfl
        rotate_left
        ·simp only [Act.put, psl, i64_w, i32_w]
         rfl
        refine pure_ (i := 1) (N := some 47) (v := ?_) (a' := ?_) #[T,T,F,F,F,F] rfl rfl (by kernel_rfl) (fun _ _ _ h => h) (Or.inl ⟨by rfl, ?_⟩) ?_ ?_
        rotate_left
        ·intro w'
         go_simp
         with_reducible rfl
        rotate_left
        ·simp only [Act.put, psl, i64_w, i32_w]
         rfl
        refine pure_ (i := 2) (N := some 48) (v := ?_) (a' := ?_) #[T,T,T,F,F,F] rfl rfl (by kernel_rfl) (fun _ _ _ h => h) (Or.inl ⟨by rfl, ?_⟩) ?_ ?_
        rotate_left
        ·intro w'
         go_simp
         with_reducible rfl
        rotate_left
        ·simp only [Act.put, psl, i64_w, i32_w]
         rfl
        refine take_ (i := 3) (N := some 49) (v := ?_) (a' := ?_) #[T,T,T,T,F,F] rfl rfl (by kernel_rfl) (fun _ _ _ h => h) (Or.inl ⟨by rfl, ?_⟩) hHeld ?_ ?_
        rotate_left
        ·rintro w' ⟨s0, s1, s2, s3, s4, s5, s6, s7, s8⟩
         go_simp
         with_reducible rfl
        rotate_left
        ·simp only [Act.put, psl, i64_w, i32_w]
         rfl
        refine take_ (i := 4) (N := some 50) (v := ?_) (a' := ?_) #[T,T,T,T,T,F] rfl rfl (by kernel_rfl) (fun _ _ _ h => h) (Or.inl ⟨by rfl, ?_⟩) hHeld ?_ ?_
        rotate_left
        ·rintro w' ⟨s0, s1, s2, s3, s4, s5, s6, s7, s8⟩
         go_simp
         with_reducible rfl
        rotate_left
        ·simp only [Act.put, psl, i64_w, i32_w]
         rfl
        refine one_ (i := 5) (N := some 51) (fl 6 6 []) rfl rfl (by kernel_rfl) (by decide) (fun K hK => ?_)
        refine goes_ Try.func14 (by kernel_rfl) rfl #[.agg #[.int .i64 ((rd_T25 t719 x12_2).f0.f0), .int .i64 ((rd_T25 t719 x12_2).f0.f1), .int .i64 ((rd_T25 t719 x12_2).f0.f2), .int .i64 ((rd_T25 t719 x12_2).f1.f0), .int .i64 ((rd_T25 t719 x12_2).f1.f1), .int .i64 ((rd_T25 t719 x12_2).f1.f2)], .agg #[.int .i64 a2_0, .int .i64 a2_1, .int .i64 a2_2]] (by rfl) rfl rfl (by (try simp only [pml]); first | done | rfl | (simp only [pdt]; rfl)) ?_
        with_reducible refine (box_Has.calls k2 ((rd_T25 t719 x12_2).f0.f0) ((rd_T25 t719 x12_2).f0.f1) ((rd_T25 t719 x12_2).f0.f2) ((rd_T25 t719 x12_2).f1.f0) ((rd_T25 t719 x12_2).f1.f1) ((rd_T25 t719 x12_2).f1.f2) a2_0 a2_1 a2_2 true _ A31.out).mono ?_
        rintro e w35 ⟨rfl, hb⟩
        have HS3_ := (hb.cell (bq _ _ (hHeld.2.2.2.1))).trans (hHeld.2.2.2.1)
        have HS4_ := (hb.cell (bq _ _ (hHeld.2.2.2.2.1))).trans (hHeld.2.2.2.2.1)
        have HS5_ := (hb.cell (bq _ _ (hHeld.2.2.2.2.2.1))).trans (hHeld.2.2.2.2.2.1)
        have HS6_ := (hb.cell (bq _ _ (hHeld.2.2.2.2.2.2.1))).trans (hHeld.2.2.2.2.2.2.1)
        have HS7_ := (hb.cell (bq _ _ (hHeld.2.2.2.2.2.2.2.1))).trans (hHeld.2.2.2.2.2.2.2.1)
        have HS8_ := (hb.cell (bq _ _ (hHeld.2.2.2.2.2.2.2.2))).trans (hHeld.2.2.2.2.2.2.2.2)
        refine ⟨_, rfl, ?_⟩
        have n0_ := dR HO_7 hb
        have n1_ := bB BK715 hb
        have n2_ := bB BK716 hb
        have n3_ := bB BK717 hb
        have n4_ := bB BK730 hb
        have n5_ := bS HB hb
        clear HO_7 BK715 BK716 BK717 BK730 HB
        have HO_7 := n0_
        have BK715 := n1_
        have BK716 := n2_
        have BK717 := n3_
        have BK730 := n4_
        have HB := n5_
        clear n0_ n1_ n2_ n3_ n4_ n5_
        (try clear hb)
        (try clear hb2)
        (try clear hk)
        (try clear hi)
        refine hK.out _ _ ⟨(bc BK717.out 0).trans rfl, (bc BK717.out 1).trans rfl, (bc BK717.out 2).trans rfl, HS3_, HS4_, HS5_, HS6_, HS7_, HS8_⟩ (fun hHeld => ?_)
        clear hK K
        refine norm_ (a' := ?_) ?_ ?_
        rotate_left
        ·show Act.put _ (some 51) _ = _
         simp only [Act.put, psl, i64_w, i32_w]
         rfl
        refine done_ (by kernel_rfl) ?_
        try go_wp2
        go_roundg k2
        case measure => have := HJ7.out; have := HK2.out; omega
        case rel => exact ⟨(wrap64 (x11_2 + 1)), (wrap64 (x12_2 + 1)), (by first | rfl | (simp; done) | (simp [*]; done)), (by first | rfl | (simp; done) | (simp [*]; done)), H', ⟨by have := HJ7.out; have := HK2.out; omega⟩, ⟨by (with_reducible repeat (first | apply Kd.R_alloc | apply Kd.R_drewN | apply Kd.R_drew)); exact HO_7.out⟩, ⟨by (with_reducible repeat first | apply bN | apply bd | apply ba); exact BK715.out⟩, ⟨by (with_reducible repeat first | apply bN | apply bd | apply ba); exact BK716.out⟩, ⟨by (with_reducible repeat first | apply bN | apply bd | apply ba); exact BK717.out⟩, ⟨by (with_reducible repeat first | apply bN | apply bd | apply ba); exact BK730.out⟩, ⟨by repeat (first | (with_reducible first | exact HB.out | apply wa | apply wN | apply wd | refine ws ?_ GE715.out | refine ws ?_ GE716.out | refine ws ?_ GE717.out | refine ws ?_ GE730.out) | exact HB.out)⟩⟩
       replace c32 := Bool.eq_false_iff.mpr c32
       subst c32
       have H1 : (w_BoxPoints.l0 k2 t719 x11_2 (wrap64 (x12_2 + 1)) a0_0 a0_1 a0_2 a0_3 a0_4 a0_5 a1_0 a1_1 a1_2 a1_3 a1_4 a1_5 a2_0 a2_1 a2_2 t723 t724 t725 t726 t727 t728) = some r := by rw [if_neg (show ¬ (false = true) by decide)] at H; exact H
       clear H
       have H := H1
       clear H1
       have H' := am H
       clear H
       obtain ⟨Ao36, co36, eo36⟩ := Kd.R_slice HO_7.out
       subst eo36
       try go_wp2
       have n0_ := am (Kd.R_drew HO_7.out)
       have n1_ := am (bd BK715.out)
       have n2_ := am (bd BK716.out)
       have n3_ := am (bd BK717.out)
       have n4_ := am (bd BK730.out)
       have n5_ := am (wd HB.out)
       clear HO_7 BK715 BK716 BK717 BK730 HB
       have HO_7 := n0_
       have BK715 := n1_
       have BK716 := n2_
       have BK717 := n3_
       have BK730 := n4_
       have HB := n5_
       clear n0_ n1_ n2_ n3_ n4_ n5_
       have p731 : 0 ≤ (x12_2 : Int) := of_decide_eq_true (by assumption)
       have q731 : x12_2 < (t719.length : Int) := of_decide_eq_true (by assumption)
       obtain ⟨ad731, e731, hx731_0, hx731_1, hx731_2, hx731_3, hx731_4, hx731_5⟩ := at_T25 (Kd.R_reads' HO_7.out).2.2 x12_2 p731 q731
       cases e731
       replace p731 := eq_true p731
       replace q731 := eq_true q731
       refine start_ (n := 6) (S := fun w' => w'.cell? ⟨gb717, 0, none⟩ = some (.int .i64 a2_0) ∧ w'.cell? ⟨gb717, 1, none⟩ = some (.int .i64 a2_1) ∧ w'.cell? ⟨gb717, 2, none⟩ = some (.int .i64 a2_2) ∧ w'.cell? (ad731.add ((x12_2).toNat * 6)) = some (.int .i64 ((rd_T25 t719 x12_2).f0.f0)) ∧ w'.cell? ⟨(ad731.add ((x12_2).toNat * 6)).block, (ad731.add ((x12_2).toNat * 6)).off + 1, none⟩ = some (.int .i64 ((rd_T25 t719 x12_2).f0.f1)) ∧ w'.cell? ⟨(ad731.add ((x12_2).toNat * 6)).block, (ad731.add ((x12_2).toNat * 6)).off + 2, none⟩ = some (.int .i64 ((rd_T25 t719 x12_2).f0.f2)) ∧ w'.cell? ⟨(ad731.add ((x12_2).toNat * 6)).block, (ad731.add ((x12_2).toNat * 6)).off + 3, none⟩ = some (.int .i64 ((rd_T25 t719 x12_2).f1.f0)) ∧ w'.cell? ⟨(ad731.add ((x12_2).toNat * 6)).block, (ad731.add ((x12_2).toNat * 6)).off + 4, none⟩ = some (.int .i64 ((rd_T25 t719 x12_2).f1.f1)) ∧ w'.cell? ⟨(ad731.add ((x12_2).toNat * 6)).block, (ad731.add ((x12_2).toNat * 6)).off + 5, none⟩ = some (.int .i64 ((rd_T25 t719 x12_2).f1.f2))) (ds := []) #[F,F,F,F,F,F] (by kernel_rfl) rfl rfl ⟨(bc BK717.out 0).trans rfl, (bc BK717.out 1).trans rfl, (bc BK717.out 2).trans rfl, hx731_0, hx731_1, hx731_2, hx731_3, hx731_4, hx731_5⟩ (fun hHeld => ?_)
       generalize wr.drew = w37 at HO_7 BK715 BK716 BK717 BK730 HB hx731_0 hx731_1 hx731_2 hx731_3 hx731_4 hx731_5 hHeld ⊢
       refine pure_ (i := 0) (N := some 46) (v := ?_) (a' := ?_) #[T,F,F,F,F,F] rfl rfl (by kernel_rfl) (fun _ _ _ h => h) (Or.inl ⟨by rfl, ?_⟩) ?_ ?_
       rotate_left
       ·intro w'
        go_simp
        with_reducible rfl
       rotate_left
       ·simp only [Act.put, psl, i64_w, i32_w]
        rfl
       refine pure_ (i := 1) (N := some 47) (v := ?_) (a' := ?_) #[T,T,F,F,F,F] rfl rfl (by kernel_rfl) (fun _ _ _ h => h) (Or.inl ⟨by rfl, ?_⟩) ?_ ?_
       rotate_left
       ·intro w'
        go_simp
        with_reducible rfl
       rotate_left
       ·simp only [Act.put, psl, i64_w, i32_w]
        rfl
       refine pure_ (i := 2) (N := some 48) (v := ?_) (a' := ?_) #[T,T,T,F,F,F] rfl rfl (by kernel_rfl) (fun _ _ _ h => h) (Or.inl ⟨by rfl, ?_⟩) ?_ ?_
       rotate_left
       ·intro w'
        go_simp
        with_reducible rfl
       rotate_left
       ·simp only [Act.put, psl, i64_w, i32_w]
        rfl
       refine take_ (i := 3) (N := some 49) (v := ?_) (a' := ?_) #[T,T,T,T,F,F] rfl rfl (by kernel_rfl) (fun _ _ _ h => h) (Or.inl ⟨by rfl, ?_⟩) hHeld ?_ ?_
       rotate_left
       ·rintro w' ⟨s0, s1, s2, s3, s4, s5, s6, s7, s8⟩
        go_simp
        with_reducible rfl
       rotate_left
       ·simp only [Act.put, psl, i64_w, i32_w]
        rfl
       refine take_ (i := 4) (N := some 50) (v := ?_) (a' := ?_) #[T,T,T,T,T,F] rfl rfl (by kernel_rfl) (fun _ _ _ h => h) (Or.inl ⟨by rfl, ?_⟩) hHeld ?_ ?_
       rotate_left
       ·rintro w' ⟨s0, s1, s2, s3, s4, s5, s6, s7, s8⟩
        go_simp
        with_reducible rfl
       rotate_left
       ·simp only [Act.put, psl, i64_w, i32_w]
        rfl
       refine one_ (i := 5) (N := some 51) (fl 6 6 []) rfl rfl (by kernel_rfl) (by decide) (fun K hK => ?_)
       refine goes_ Try.func14 (by kernel_rfl) rfl #[.agg #[.int .i64 ((rd_T25 t719 x12_2).f0.f0), .int .i64 ((rd_T25 t719 x12_2).f0.f1), .int .i64 ((rd_T25 t719 x12_2).f0.f2), .int .i64 ((rd_T25 t719 x12_2).f1.f0), .int .i64 ((rd_T25 t719 x12_2).f1.f1), .int .i64 ((rd_T25 t719 x12_2).f1.f2)], .agg #[.int .i64 a2_0, .int .i64 a2_1, .int .i64 a2_2]] (by rfl) rfl rfl (by (try simp only [pml]); first | done | rfl | (simp only [pdt]; rfl)) ?_
       with_reducible refine (box_Has.calls k2 ((rd_T25 t719 x12_2).f0.f0) ((rd_T25 t719 x12_2).f0.f1) ((rd_T25 t719 x12_2).f0.f2) ((rd_T25 t719 x12_2).f1.f0) ((rd_T25 t719 x12_2).f1.f1) ((rd_T25 t719 x12_2).f1.f2) a2_0 a2_1 a2_2 false _ A31.out).mono ?_
       rintro e w38 ⟨rfl, hb⟩
       have HS3_ := (hb.cell (bq _ _ (hHeld.2.2.2.1))).trans (hHeld.2.2.2.1)
       have HS4_ := (hb.cell (bq _ _ (hHeld.2.2.2.2.1))).trans (hHeld.2.2.2.2.1)
       have HS5_ := (hb.cell (bq _ _ (hHeld.2.2.2.2.2.1))).trans (hHeld.2.2.2.2.2.1)
       have HS6_ := (hb.cell (bq _ _ (hHeld.2.2.2.2.2.2.1))).trans (hHeld.2.2.2.2.2.2.1)
       have HS7_ := (hb.cell (bq _ _ (hHeld.2.2.2.2.2.2.2.1))).trans (hHeld.2.2.2.2.2.2.2.1)
       have HS8_ := (hb.cell (bq _ _ (hHeld.2.2.2.2.2.2.2.2))).trans (hHeld.2.2.2.2.2.2.2.2)
       refine ⟨_, rfl, ?_⟩
       have n0_ := dR HO_7 hb
       have n1_ := bB BK715 hb
       have n2_ := bB BK716 hb
       have n3_ := bB BK717 hb
       have n4_ := bB BK730 hb
       have n5_ := bS HB hb
       clear HO_7 BK715 BK716 BK717 BK730 HB
       have HO_7 := n0_
       have BK715 := n1_
       have BK716 := n2_
       have BK717 := n3_
       have BK730 := n4_
       have HB := n5_
       clear n0_ n1_ n2_ n3_ n4_ n5_
       (try clear hb)
       (try clear hb2)
       (try clear hk)
       (try clear hi)
       refine hK.out _ _ ⟨(bc BK717.out 0).trans rfl, (bc BK717.out 1).trans rfl, (bc BK717.out 2).trans rfl, HS3_, HS4_, HS5_, HS6_, HS7_, HS8_⟩ (fun hHeld => ?_)
       clear hK K
       refine norm_ (a' := ?_) ?_ ?_
       rotate_left
       ·show Act.put _ (some 51) _ = _
        simp only [Act.put, psl, i64_w, i32_w]
        rfl
       refine done_ (by kernel_rfl) ?_
       try go_wp2
       go_roundg k2
       case measure => have := HJ7.out; have := HK2.out; omega
       case rel => exact ⟨(x11_2), (wrap64 (x12_2 + 1)), (by first | rfl | (simp; done) | (simp [*]; done)), (by first | rfl | (simp; done) | (simp [*]; done)), H', ⟨by have := HJ7.out; have := HK2.out; omega⟩, ⟨by (with_reducible repeat (first | apply Kd.R_alloc | apply Kd.R_drewN | apply Kd.R_drew)); exact HO_7.out⟩, ⟨by (with_reducible repeat first | apply bN | apply bd | apply ba); exact BK715.out⟩, ⟨by (with_reducible repeat first | apply bN | apply bd | apply ba); exact BK716.out⟩, ⟨by (with_reducible repeat first | apply bN | apply bd | apply ba); exact BK717.out⟩, ⟨by (with_reducible repeat first | apply bN | apply bd | apply ba); exact BK730.out⟩, ⟨by repeat (first | (with_reducible first | exact HB.out | apply wa | apply wN | apply wd | refine ws ?_ GE715.out | refine ws ?_ GE716.out | refine ws ?_ GE717.out | refine ws ?_ GE730.out) | exact HB.out)⟩⟩
      rw [if_neg c29] at H
      have c29b0 : decide (x12_2 < (t719.length : Int)) = false := decide_eq_false c29
      clear c29
      replace H := Option.bind_eq_some_iff.mp H
      obtain ⟨t733, A390, H⟩ := H
      replace H : ((box_Has.f k2 a1_0 a1_1 a1_2 a1_3 a1_4 a1_5 a2_0 a2_1 a2_2).bind fun t734 => ((box_Intersect.f k2 a0_0 a0_1 a0_2 a0_3 a0_4 a0_5 a1_0 a1_1 a1_2 a1_3 a1_4 a1_5).bind fun bt735 => (if t733 = true then (if t734 = true then (if x11_2 = 0 then ((box_Overlap.f a0_0 a0_1 a0_2 a0_3 a0_4 a0_5 a1_0 a1_1 a1_2 a1_3 a1_4 a1_5).bind fun t743 => (if ((bt735.2.2.2.2.2.2 == 0) != t743) = true then (w_BoxPoints.j2 k2 t733 t734 true a2_0 a2_1 a2_2 t723 t724 t725 t726 t727 t728) else (if bt735.2.2.2.2.2.2 = 0 then ((box_Has.f k2 bt735.1 bt735.2.1 bt735.2.2.1 bt735.2.2.2.1 bt735.2.2.2.2.1 bt735.2.2.2.2.2.1 a2_0 a2_1 a2_2).bind fun t744 => (w_BoxPoints.j2 k2 t733 t734 (t744 != t734) a2_0 a2_1 a2_2 t723 t724 t725 t726 t727 t728)) else (w_BoxPoints.j2 k2 t733 t734 false a2_0 a2_1 a2_2 t723 t724 t725 t726 t727 t728)))) else (w_BoxPoints.j2 k2 t733 t734 true a2_0 a2_1 a2_2 t723 t724 t725 t726 t727 t728)) else (if x11_2 = 1 then ((box_Overlap.f a0_0 a0_1 a0_2 a0_3 a0_4 a0_5 a1_0 a1_1 a1_2 a1_3 a1_4 a1_5).bind fun t745 => (if ((bt735.2.2.2.2.2.2 == 0) != t745) = true then (w_BoxPoints.j2 k2 t733 t734 true a2_0 a2_1 a2_2 t723 t724 t725 t726 t727 t728) else (if bt735.2.2.2.2.2.2 = 0 then ((box_Has.f k2 bt735.1 bt735.2.1 bt735.2.2.1 bt735.2.2.2.1 bt735.2.2.2.2.1 bt735.2.2.2.2.2.1 a2_0 a2_1 a2_2).bind fun t746 => (w_BoxPoints.j2 k2 t733 t734 (t746 != t734) a2_0 a2_1 a2_2 t723 t724 t725 t726 t727 t728)) else (w_BoxPoints.j2 k2 t733 t734 false a2_0 a2_1 a2_2 t723 t724 t725 t726 t727 t728)))) else (w_BoxPoints.j2 k2 t733 t734 true a2_0 a2_1 a2_2 t723 t724 t725 t726 t727 t728))) else (if x11_2 = 0 then ((box_Overlap.f a0_0 a0_1 a0_2 a0_3 a0_4 a0_5 a1_0 a1_1 a1_2 a1_3 a1_4 a1_5).bind fun t747 => (if ((bt735.2.2.2.2.2.2 == 0) != t747) = true then (w_BoxPoints.j2 k2 t733 t734 true a2_0 a2_1 a2_2 t723 t724 t725 t726 t727 t728) else (if bt735.2.2.2.2.2.2 = 0 then ((box_Has.f k2 bt735.1 bt735.2.1 bt735.2.2.1 bt735.2.2.2.1 bt735.2.2.2.2.1 bt735.2.2.2.2.2.1 a2_0 a2_1 a2_2).bind fun t748 => (w_BoxPoints.j2 k2 t733 t734 (t748 != false) a2_0 a2_1 a2_2 t723 t724 t725 t726 t727 t728)) else (w_BoxPoints.j2 k2 t733 t734 false a2_0 a2_1 a2_2 t723 t724 t725 t726 t727 t728)))) else (w_BoxPoints.j2 k2 t733 t734 true a2_0 a2_1 a2_2 t723 t724 t725 t726 t727 t728))))) = some r := H
      have A39 := am A390
      clear A390
      replace H := Option.bind_eq_some_iff.mp H
      obtain ⟨t734, A400, H⟩ := H
      replace H : ((box_Intersect.f k2 a0_0 a0_1 a0_2 a0_3 a0_4 a0_5 a1_0 a1_1 a1_2 a1_3 a1_4 a1_5).bind fun bt735 => (if t733 = true then (if t734 = true then (if x11_2 = 0 then ((box_Overlap.f a0_0 a0_1 a0_2 a0_3 a0_4 a0_5 a1_0 a1_1 a1_2 a1_3 a1_4 a1_5).bind fun t743 => (if ((bt735.2.2.2.2.2.2 == 0) != t743) = true then (w_BoxPoints.j2 k2 t733 t734 true a2_0 a2_1 a2_2 t723 t724 t725 t726 t727 t728) else (if bt735.2.2.2.2.2.2 = 0 then ((box_Has.f k2 bt735.1 bt735.2.1 bt735.2.2.1 bt735.2.2.2.1 bt735.2.2.2.2.1 bt735.2.2.2.2.2.1 a2_0 a2_1 a2_2).bind fun t744 => (w_BoxPoints.j2 k2 t733 t734 (t744 != t734) a2_0 a2_1 a2_2 t723 t724 t725 t726 t727 t728)) else (w_BoxPoints.j2 k2 t733 t734 false a2_0 a2_1 a2_2 t723 t724 t725 t726 t727 t728)))) else (w_BoxPoints.j2 k2 t733 t734 true a2_0 a2_1 a2_2 t723 t724 t725 t726 t727 t728)) else (if x11_2 = 1 then ((box_Overlap.f a0_0 a0_1 a0_2 a0_3 a0_4 a0_5 a1_0 a1_1 a1_2 a1_3 a1_4 a1_5).bind fun t745 => (if ((bt735.2.2.2.2.2.2 == 0) != t745) = true then (w_BoxPoints.j2 k2 t733 t734 true a2_0 a2_1 a2_2 t723 t724 t725 t726 t727 t728) else (if bt735.2.2.2.2.2.2 = 0 then ((box_Has.f k2 bt735.1 bt735.2.1 bt735.2.2.1 bt735.2.2.2.1 bt735.2.2.2.2.1 bt735.2.2.2.2.2.1 a2_0 a2_1 a2_2).bind fun t746 => (w_BoxPoints.j2 k2 t733 t734 (t746 != t734) a2_0 a2_1 a2_2 t723 t724 t725 t726 t727 t728)) else (w_BoxPoints.j2 k2 t733 t734 false a2_0 a2_1 a2_2 t723 t724 t725 t726 t727 t728)))) else (w_BoxPoints.j2 k2 t733 t734 true a2_0 a2_1 a2_2 t723 t724 t725 t726 t727 t728))) else (if x11_2 = 0 then ((box_Overlap.f a0_0 a0_1 a0_2 a0_3 a0_4 a0_5 a1_0 a1_1 a1_2 a1_3 a1_4 a1_5).bind fun t747 => (if ((bt735.2.2.2.2.2.2 == 0) != t747) = true then (w_BoxPoints.j2 k2 t733 t734 true a2_0 a2_1 a2_2 t723 t724 t725 t726 t727 t728) else (if bt735.2.2.2.2.2.2 = 0 then ((box_Has.f k2 bt735.1 bt735.2.1 bt735.2.2.1 bt735.2.2.2.1 bt735.2.2.2.2.1 bt735.2.2.2.2.2.1 a2_0 a2_1 a2_2).bind fun t748 => (w_BoxPoints.j2 k2 t733 t734 (t748 != false) a2_0 a2_1 a2_2 t723 t724 t725 t726 t727 t728)) else (w_BoxPoints.j2 k2 t733 t734 false a2_0 a2_1 a2_2 t723 t724 t725 t726 t727 t728)))) else (w_BoxPoints.j2 k2 t733 t734 true a2_0 a2_1 a2_2 t723 t724 t725 t726 t727 t728)))) = some r := H
      have A40 := am A400
      clear A400
      replace H := Option.bind_eq_some_iff.mp H
      obtain ⟨⟨t735, t736, t737, t738, t739, t740, t741⟩, A410, H⟩ := H
      replace H : (if t733 = true then (if t734 = true then (if x11_2 = 0 then ((box_Overlap.f a0_0 a0_1 a0_2 a0_3 a0_4 a0_5 a1_0 a1_1 a1_2 a1_3 a1_4 a1_5).bind fun t743 => (if ((t741 == 0) != t743) = true then (w_BoxPoints.j2 k2 t733 t734 true a2_0 a2_1 a2_2 t723 t724 t725 t726 t727 t728) else (if t741 = 0 then ((box_Has.f k2 t735 t736 t737 t738 t739 t740 a2_0 a2_1 a2_2).bind fun t744 => (w_BoxPoints.j2 k2 t733 t734 (t744 != t734) a2_0 a2_1 a2_2 t723 t724 t725 t726 t727 t728)) else (w_BoxPoints.j2 k2 t733 t734 false a2_0 a2_1 a2_2 t723 t724 t725 t726 t727 t728)))) else (w_BoxPoints.j2 k2 t733 t734 true a2_0 a2_1 a2_2 t723 t724 t725 t726 t727 t728)) else (if x11_2 = 1 then ((box_Overlap.f a0_0 a0_1 a0_2 a0_3 a0_4 a0_5 a1_0 a1_1 a1_2 a1_3 a1_4 a1_5).bind fun t745 => (if ((t741 == 0) != t745) = true then (w_BoxPoints.j2 k2 t733 t734 true a2_0 a2_1 a2_2 t723 t724 t725 t726 t727 t728) else (if t741 = 0 then ((box_Has.f k2 t735 t736 t737 t738 t739 t740 a2_0 a2_1 a2_2).bind fun t746 => (w_BoxPoints.j2 k2 t733 t734 (t746 != t734) a2_0 a2_1 a2_2 t723 t724 t725 t726 t727 t728)) else (w_BoxPoints.j2 k2 t733 t734 false a2_0 a2_1 a2_2 t723 t724 t725 t726 t727 t728)))) else (w_BoxPoints.j2 k2 t733 t734 true a2_0 a2_1 a2_2 t723 t724 t725 t726 t727 t728))) else (if x11_2 = 0 then ((box_Overlap.f a0_0 a0_1 a0_2 a0_3 a0_4 a0_5 a1_0 a1_1 a1_2 a1_3 a1_4 a1_5).bind fun t747 => (if ((t741 == 0) != t747) = true then (w_BoxPoints.j2 k2 t733 t734 true a2_0 a2_1 a2_2 t723 t724 t725 t726 t727 t728) else (if t741 = 0 then ((box_Has.f k2 t735 t736 t737 t738 t739 t740 a2_0 a2_1 a2_2).bind fun t748 => (w_BoxPoints.j2 k2 t733 t734 (t748 != false) a2_0 a2_1 a2_2 t723 t724 t725 t726 t727 t728)) else (w_BoxPoints.j2 k2 t733 t734 false a2_0 a2_1 a2_2 t723 t724 t725 t726 t727 t728)))) else (w_BoxPoints.j2 k2 t733 t734 true a2_0 a2_1 a2_2 t723 t724 t725 t726 t727 t728))) = some r := H
      have A41 := am A410
      clear A410
      have HC42 := am H
      clear H
      obtain ⟨Ao43, co43, eo43⟩ := Kd.R_slice HO_7.out
      subst eo43
      try go_wp2
      have n0_ := am (Kd.R_drew HO_7.out)
      have n1_ := am (bd BK715.out)
      have n2_ := am (bd BK716.out)
      have n3_ := am (bd BK717.out)
      have n4_ := am (bd BK730.out)
      have n5_ := am (wd HB.out)
      clear HO_7 BK715 BK716 BK717 BK730 HB
      have HO_7 := n0_
      have BK715 := n1_
      have BK716 := n2_
      have BK717 := n3_
      have BK730 := n4_
      have HB := n5_
      clear n0_ n1_ n2_ n3_ n4_ n5_
      refine start_ (n := 8) (S := fun w' => w'.cell? ⟨gb715, 0, none⟩ = some (.int .i64 a0_0) ∧ w'.cell? ⟨gb715, 1, none⟩ = some (.int .i64 a0_1) ∧ w'.cell? ⟨gb715, 2, none⟩ = some (.int .i64 a0_2) ∧ w'.cell? ⟨gb715, 3, none⟩ = some (.int .i64 a0_3) ∧ w'.cell? ⟨gb715, 4, none⟩ = some (.int .i64 a0_4) ∧ w'.cell? ⟨gb715, 5, none⟩ = some (.int .i64 a0_5) ∧ w'.cell? ⟨gb717, 0, none⟩ = some (.int .i64 a2_0) ∧ w'.cell? ⟨gb717, 1, none⟩ = some (.int .i64 a2_1) ∧ w'.cell? ⟨gb717, 2, none⟩ = some (.int .i64 a2_2) ∧ w'.cell? ⟨gb716, 0, none⟩ = some (.int .i64 a1_0) ∧ w'.cell? ⟨gb716, 1, none⟩ = some (.int .i64 a1_1) ∧ w'.cell? ⟨gb716, 2, none⟩ = some (.int .i64 a1_2) ∧ w'.cell? ⟨gb716, 3, none⟩ = some (.int .i64 a1_3) ∧ w'.cell? ⟨gb716, 4, none⟩ = some (.int .i64 a1_4) ∧ w'.cell? ⟨gb716, 5, none⟩ = some (.int .i64 a1_5)) (ds := []) #[F,F,F,F,F,F,F,F] (by kernel_rfl) rfl rfl ⟨(bc BK715.out 0).trans rfl, (bc BK715.out 1).trans rfl, (bc BK715.out 2).trans rfl, (bc BK715.out 3).trans rfl, (bc BK715.out 4).trans rfl, (bc BK715.out 5).trans rfl, (bc BK717.out 0).trans rfl, (bc BK717.out 1).trans rfl, (bc BK717.out 2).trans rfl, (bc BK716.out 0).trans rfl, (bc BK716.out 1).trans rfl, (bc BK716.out 2).trans rfl, (bc BK716.out 3).trans rfl, (bc BK716.out 4).trans rfl, (bc BK716.out 5).trans rfl⟩ (fun hHeld => ?_); refine with_tabW w_BoxPoints.tab13 w_BoxPoints.bits13 (fun HT_ HW_ => ?_)
      generalize wr.drew = w44 at HO_7 BK715 BK716 BK717 BK730 HB hHeld ⊢
      refine tk (i := 0) (N := some 54) (fl 8 1 []) HT_ HW_ hHeld ?_
      refine tk (i := 1) (N := some 55) (fl 8 2 []) HT_ HW_ hHeld ?_
      refine tk (i := 3) (N := some 57) (fl 8 2 [3]) HT_ HW_ hHeld ?_
      refine tk (i := 4) (N := some 58) (fl 8 2 [3, 4]) HT_ HW_ hHeld ?_
      refine one_ (i := 2) (N := some 56) (fl 8 5 []) rfl rfl (one_of HT_.out (by kernel_rfl)) (by decide) (fun K hK => ?_)
      refine goes_ Try.func14 (by kernel_rfl) rfl #[.agg #[.int .i64 a0_0, .int .i64 a0_1, .int .i64 a0_2, .int .i64 a0_3, .int .i64 a0_4, .int .i64 a0_5], .agg #[.int .i64 a2_0, .int .i64 a2_1, .int .i64 a2_2]] (by rfl) rfl rfl (by (try simp only [pml]); first | done | rfl | (simp only [pdt]; rfl)) ?_
      with_reducible refine (box_Has.calls k2 a0_0 a0_1 a0_2 a0_3 a0_4 a0_5 a2_0 a2_1 a2_2 t733 _ A39.out).mono ?_
      rintro e w45 ⟨rfl, hb⟩
      refine ⟨_, rfl, ?_⟩
      have n0_ := dR HO_7 hb
      have n1_ := bB BK715 hb
      have n2_ := bB BK716 hb
      have n3_ := bB BK717 hb
      have n4_ := bB BK730 hb
      have n5_ := bS HB hb
      clear HO_7 BK715 BK716 BK717 BK730 HB
      have HO_7 := n0_
      have BK715 := n1_
      have BK716 := n2_
      have BK717 := n3_
      have BK730 := n4_
      have HB := n5_
      clear n0_ n1_ n2_ n3_ n4_ n5_
      (try clear hb)
      (try clear hb2)
      (try clear hk)
      (try clear hi)
      refine hK.out _ _ ⟨(bc BK715.out 0).trans rfl, (bc BK715.out 1).trans rfl, (bc BK715.out 2).trans rfl, (bc BK715.out 3).trans rfl, (bc BK715.out 4).trans rfl, (bc BK715.out 5).trans rfl, (bc BK717.out 0).trans rfl, (bc BK717.out 1).trans rfl, (bc BK717.out 2).trans rfl, (bc BK716.out 0).trans rfl, (bc BK716.out 1).trans rfl, (bc BK716.out 2).trans rfl, (bc BK716.out 3).trans rfl, (bc BK716.out 4).trans rfl, (bc BK716.out 5).trans rfl⟩ (fun hHeld => ?_)
      clear hK K
      refine norm_ (a' := ?_) ?_ ?_
      rotate_left
      ·show Act.put _ (some 56) _ = _
       simp only [Act.put, psl, i64_w, i32_w]
       rfl
      refine one_ (i := 5) (N := some 59) (fl 8 6 []) rfl rfl (one_of HT_.out (by kernel_rfl)) (by decide) (fun K hK => ?_)
      refine goes_ Try.func14 (by kernel_rfl) rfl #[.agg #[.int .i64 a1_0, .int .i64 a1_1, .int .i64 a1_2, .int .i64 a1_3, .int .i64 a1_4, .int .i64 a1_5], .agg #[.int .i64 a2_0, .int .i64 a2_1, .int .i64 a2_2]] (by rfl) rfl rfl (by (try simp only [pml]); first | done | rfl | (simp only [pdt]; rfl)) ?_
      with_reducible refine (box_Has.calls k2 a1_0 a1_1 a1_2 a1_3 a1_4 a1_5 a2_0 a2_1 a2_2 t734 _ A40.out).mono ?_
      rintro e w46 ⟨rfl, hb⟩
      refine ⟨_, rfl, ?_⟩
      have n0_ := dR HO_7 hb
      have n1_ := bB BK715 hb
      have n2_ := bB BK716 hb
      have n3_ := bB BK717 hb
      have n4_ := bB BK730 hb
      have n5_ := bS HB hb
      clear HO_7 BK715 BK716 BK717 BK730 HB
      have HO_7 := n0_
      have BK715 := n1_
      have BK716 := n2_
      have BK717 := n3_
      have BK730 := n4_
      have HB := n5_
      clear n0_ n1_ n2_ n3_ n4_ n5_
      (try clear hb)
      (try clear hb2)
      (try clear hk)
      (try clear hi)
      refine hK.out _ _ ⟨(bc BK715.out 0).trans rfl, (bc BK715.out 1).trans rfl, (bc BK715.out 2).trans rfl, (bc BK715.out 3).trans rfl, (bc BK715.out 4).trans rfl, (bc BK715.out 5).trans rfl, (bc BK717.out 0).trans rfl, (bc BK717.out 1).trans rfl, (bc BK717.out 2).trans rfl, (bc BK716.out 0).trans rfl, (bc BK716.out 1).trans rfl, (bc BK716.out 2).trans rfl, (bc BK716.out 3).trans rfl, (bc BK716.out 4).trans rfl, (bc BK716.out 5).trans rfl⟩ (fun hHeld => ?_)
      clear hK K
      refine norm_ (a' := ?_) ?_ ?_
      rotate_left
      ·show Act.put _ (some 59) _ = _
       simp only [Act.put, psl, i64_w, i32_w]
       rfl
      refine pu (i := 6) (N := some 13) (fl 8 7 []) HT_ ?_
      refine pu (i := 7) (N := some 14) (fl 8 8 []) HT_ ?_
      refine done_ (done_of HT_.out (by kernel_rfl)) ?_
      have hnb47 := NB715_716.out
      have hnc47 := NB716_715.out
      have hnb48 := NB715_717.out
      have hnc48 := NB717_715.out
      have hnb49 := NB715_730.out
      have hnc49 := NB730_715.out
      have := yC1 BK715
      have hcz50_1 := kC1 BK715
      have hcz50_2 := kC2 BK715
      have hcz50_3 := kC3 BK715
      have hcz50_4 := kC4 BK715
      have hcz50_5 := kC5 BK715
      have hfz50_0 := bf BK715.out 0
      have hfz50_1 := bf BK715.out 1
      have hfz50_2 := bf BK715.out 2
      have hfz50_3 := bf BK715.out 3
      have hfz50_4 := bf BK715.out 4
      have hfz50_5 := bf BK715.out 5
      have hnb51 := NB716_717.out
      have hnc51 := NB717_716.out
      have hnb52 := NB716_730.out
      have hnc52 := NB730_716.out
      have := yC1 BK716
      have hcz53_1 := kC1 BK716
      have hcz53_2 := kC2 BK716
      have hcz53_3 := kC3 BK716
      have hcz53_4 := kC4 BK716
      have hcz53_5 := kC5 BK716
      have hfz53_0 := bf BK716.out 0
      have hfz53_1 := bf BK716.out 1
      have hfz53_2 := bf BK716.out 2
      have hfz53_3 := bf BK716.out 3
      have hfz53_4 := bf BK716.out 4
      have hfz53_5 := bf BK716.out 5
      go_upto_region 15 with (first | ((with_reducible refine gate_callee (f := 25) rfl ?_); refine goesL_ (some 63) rfl rfl Try.func25 (by kernel_rfl) rfl #[.agg #[.int .i64 a0_0, .int .i64 a0_1, .int .i64 a0_2, .int .i64 a0_3, .int .i64 a0_4, .int .i64 a0_5], .agg #[.int .i64 a1_0, .int .i64 a1_1, .int .i64 a1_2, .int .i64 a1_3, .int .i64 a1_4, .int .i64 a1_5]] rfl (by (try simp only [pml]); first | done | rfl | (simp only [pdt]; rfl)) ?_; (with_reducible refine (box_Intersect.calls k2 a0_0 a0_1 a0_2 a0_3 a0_4 a0_5 a1_0 a1_1 a1_2 a1_3 a1_4 a1_5 t735 t736 t737 t738 t739 t740 t741 _ A41.out).mono ?_); rintro e w54 ⟨rfl, hb⟩; refine ⟨_, rfl, ?_⟩; replace HO_7 := dR HO_7 hb; replace BK715 := bB BK715 hb; replace BK716 := bB BK716 hb; replace BK717 := bB BK717 hb; replace BK730 := bB BK730 hb; replace HB := bS HB hb; (try clear hb); (try clear hb2); (try clear hk); (try clear hi)) | ((with_reducible refine gate_dst (N := 15) rfl ?_); refine box_event ?hg (N := 15) ?hd (cs := #[.int .i64 0, .int .i64 0, .int .i64 0, .int .i64 0, .int .i64 0, .int .i64 0]) (t := 25) ?hr ?_; (case hd | hg => rfl); (case hr => first | (go_simp; done) | (go_simp; rfl)); intro gb742 hg w55 hbox hb; replace HO_7 := eR HO_7 hg hb; have BK742 := am hbox; have GW742 := sG HB hg; have GE742 := sG HB hg; replace HB := bS HB hb; have NB715_742 := nL BK715 hg; have NB742_715 := nG BK715 hg; replace BK715 := bB BK715 hb; have NB716_742 := nL BK716 hg; have NB742_716 := nG BK716 hg; replace BK716 := bB BK716 hb; have NB717_742 := nL BK717 hg; have NB742_717 := nG BK717 hg; replace BK717 := bB BK717 hb; have NB730_742 := nL BK730 hg; have NB742_730 := nG BK730 hg; replace BK730 := bB BK730 hb; clear hb hbox hg; have hnb56 := NB742_715.out; have hnc56 := NB715_742.out; have hnb57 := NB742_716.out; have hnc57 := NB716_742.out; have hnb58 := NB742_717.out; have hnc58 := NB717_742.out; have hnb59 := NB742_730.out; have hnc59 := NB730_742.out; obtain ⟨_, _, _, _, _, _, _, _, _, _, _, _⟩ := zC6 BK742))
      (try simp only [Act.put, psl])
      go_cut [107] (fun v107 wc => ∃ (kq : Nat) (x107_41 : Bool), v107 = .bool x107_41 ∧ Aside0 (w_BoxPoints.j2 kq t733 t734 x107_41 a2_0 a2_1 a2_2 t723 t724 t725 t726 t727 t728 = some r) ∧ Aside0 (kq ≤ k2) ∧ Aside0 (wc.heap[gb715]? = some (.cells #[.int .i64 a0_0, .int .i64 a0_1, .int .i64 a0_2, .int .i64 a0_3, .int .i64 a0_4, .int .i64 a0_5] 25 (0, 0))) ∧ Aside0 (wc.heap[gb716]? = some (.cells #[.int .i64 a1_0, .int .i64 a1_1, .int .i64 a1_2, .int .i64 a1_3, .int .i64 a1_4, .int .i64 a1_5] 25 (0, 0))) ∧ Aside0 (wc.heap[gb717]? = some (.cells #[.int .i64 a2_0, .int .i64 a2_1, .int .i64 a2_2] 23 (0, 0))) ∧ Aside0 (wc.heap[gb730]? = some (.cells #[.int .i64 t723, .int .i64 t724, .int .i64 t725, .int .i64 t726, .int .i64 t727, .int .i64 t728] 25 (0, 0))) ∧ Aside0 (wc.heap[gb742]? = some (.cells #[.int .i64 t735, .int .i64 t736, .int .i64 t737, .int .i64 t738, .int .i64 t739, .int .i64 t740] 25 (0, 0))) ∧ Aside0 (Below w.heap.size w wc))
      case first =>
       have H := HC42.out
       clear HC42
       by_cases c61 : t733 = true
       rotate_left
       ·replace c61 := Bool.eq_false_iff.mpr c61
        subst c61
        have H1 : (if x11_2 = 0 then ((box_Overlap.f a0_0 a0_1 a0_2 a0_3 a0_4 a0_5 a1_0 a1_1 a1_2 a1_3 a1_4 a1_5).bind fun t747 => (if ((t741 == 0) != t747) = true then (w_BoxPoints.j2 k2 false t734 true a2_0 a2_1 a2_2 t723 t724 t725 t726 t727 t728) else (if t741 = 0 then ((box_Has.f k2 t735 t736 t737 t738 t739 t740 a2_0 a2_1 a2_2).bind fun t748 => (w_BoxPoints.j2 k2 false t734 (t748 != false) a2_0 a2_1 a2_2 t723 t724 t725 t726 t727 t728)) else (w_BoxPoints.j2 k2 false t734 false a2_0 a2_1 a2_2 t723 t724 t725 t726 t727 t728)))) else (w_BoxPoints.j2 k2 false t734 true a2_0 a2_1 a2_2 t723 t724 t725 t726 t727 t728)) = some r := by rw [if_neg (show ¬ (false = true) by decide)] at H; exact H
        clear H
        have H := H1
        clear H1
        by_cases c145 : x11_2 = 0
        rotate_left
        ·rw [if_neg c145] at H
         have c145b0 : (x11_2 == 0) = false := beq_eq_false_iff_ne.mpr c145
         have c145b1 : (x11_2 != 0) = true := bne_iff_ne.mpr c145
         have H' := am H
         clear H
         go_wp2
         go_meet
         case rel => exact ⟨_, (true), (by first | rfl | (simp; done) | (simp [*]; done)), H', ⟨by have := HJ7.out; have := HK2.out; first | omega | exact Nat.le_refl _⟩, ⟨by (with_reducible repeat first | apply bN | apply bd | apply ba); refine bF ?_ NB715_742.out _; (with_reducible repeat first | apply bN | apply bd | apply ba); refine bF ?_ NB715_742.out _; (with_reducible repeat first | apply bN | apply bd | apply ba); refine bF ?_ NB715_742.out _; (with_reducible repeat first | apply bN | apply bd | apply ba); refine bF ?_ NB715_742.out _; (with_reducible repeat first | apply bN | apply bd | apply ba); refine bF ?_ NB715_742.out _; (with_reducible repeat first | apply bN | apply bd | apply ba); refine bF ?_ NB715_742.out _; (with_reducible repeat first | apply bN | apply bd | apply ba); exact BK715.out⟩, ⟨by (with_reducible repeat first | apply bN | apply bd | apply ba); refine bF ?_ NB716_742.out _; (with_reducible repeat first | apply bN | apply bd | apply ba); refine bF ?_ NB716_742.out _; (with_reducible repeat first | apply bN | apply bd | apply ba); refine bF ?_ NB716_742.out _; (with_reducible repeat first | apply bN | apply bd | apply ba); refine bF ?_ NB716_742.out _; (with_reducible repeat first | apply bN | apply bd | apply ba); refine bF ?_ NB716_742.out _; (with_reducible repeat first | apply bN | apply bd | apply ba); refine bF ?_ NB716_742.out _; (with_reducible repeat first | apply bN | apply bd | apply ba); exact BK716.out⟩, ⟨by (with_reducible repeat first | apply bN | apply bd | apply ba); refine bF ?_ NB717_742.out _; (with_reducible repeat first | apply bN | apply bd | apply ba); refine bF ?_ NB717_742.out _; (with_reducible repeat first | apply bN | apply bd | apply ba); refine bF ?_ NB717_742.out _; (with_reducible repeat first | apply bN | apply bd | apply ba); refine bF ?_ NB717_742.out _; (with_reducible repeat first | apply bN | apply bd | apply ba); refine bF ?_ NB717_742.out _; (with_reducible repeat first | apply bN | apply bd | apply ba); refine bF ?_ NB717_742.out _; (with_reducible repeat first | apply bN | apply bd | apply ba); exact BK717.out⟩, ⟨by (with_reducible repeat first | apply bN | apply bd | apply ba); refine bF ?_ NB730_742.out _; (with_reducible repeat first | apply bN | apply bd | apply ba); refine bF ?_ NB730_742.out _; (with_reducible repeat first | apply bN | apply bd | apply ba); refine bF ?_ NB730_742.out _; (with_reducible repeat first | apply bN | apply bd | apply ba); refine bF ?_ NB730_742.out _; (with_reducible repeat first | apply bN | apply bd | apply ba); refine bF ?_ NB730_742.out _; (with_reducible repeat first | apply bN | apply bd | apply ba); refine bF ?_ NB730_742.out _; (with_reducible repeat first | apply bN | apply bd | apply ba); exact BK730.out⟩, ⟨by (with_reducible repeat first | apply bN | apply bd | apply ba); refine bp (cs := #[.int .i64 t735, .int .i64 t736, .int .i64 t737, .int .i64 t738, .int .i64 t739, .int .i64 0]) ?_ 5 _ rfl; (with_reducible repeat first | apply bN | apply bd | apply ba); refine bp (cs := #[.int .i64 t735, .int .i64 t736, .int .i64 t737, .int .i64 t738, .int .i64 0, .int .i64 0]) ?_ 4 _ rfl; (with_reducible repeat first | apply bN | apply bd | apply ba); refine bp (cs := #[.int .i64 t735, .int .i64 t736, .int .i64 t737, .int .i64 0, .int .i64 0, .int .i64 0]) ?_ 3 _ rfl; (with_reducible repeat first | apply bN | apply bd | apply ba); refine bp (cs := #[.int .i64 t735, .int .i64 t736, .int .i64 0, .int .i64 0, .int .i64 0, .int .i64 0]) ?_ 2 _ rfl; (with_reducible repeat first | apply bN | apply bd | apply ba); refine bp (cs := #[.int .i64 t735, .int .i64 0, .int .i64 0, .int .i64 0, .int .i64 0, .int .i64 0]) ?_ 1 _ rfl; (with_reducible repeat first | apply bN | apply bd | apply ba); refine bp (cs := #[.int .i64 0, .int .i64 0, .int .i64 0, .int .i64 0, .int .i64 0, .int .i64 0]) ?_ 0 _ rfl; (with_reducible repeat first | apply bN | apply bd | apply ba); exact BK742.out⟩, ⟨by repeat (first | (with_reducible first | exact HB.out | apply wa | apply wN | apply wd | refine ws ?_ GE715.out | refine ws ?_ GE716.out | refine ws ?_ GE717.out | refine ws ?_ GE730.out | refine ws ?_ GE742.out) | exact HB.out)⟩⟩
        rw [if_pos c145] at H
        have c145b0 : (x11_2 == 0) = true := beq_iff_eq.mpr c145
        have c145b1 : (x11_2 != 0) = false := bne_eq_false_iff_eq.mpr c145
        clear c145
        replace H := Option.bind_eq_some_iff.mp H
        obtain ⟨t747, A1460, H⟩ := H
        replace H : (if ((t741 == 0) != t747) = true then (w_BoxPoints.j2 k2 false t734 true a2_0 a2_1 a2_2 t723 t724 t725 t726 t727 t728) else (if t741 = 0 then ((box_Has.f k2 t735 t736 t737 t738 t739 t740 a2_0 a2_1 a2_2).bind fun t748 => (w_BoxPoints.j2 k2 false t734 (t748 != false) a2_0 a2_1 a2_2 t723 t724 t725 t726 t727 t728)) else (w_BoxPoints.j2 k2 false t734 false a2_0 a2_1 a2_2 t723 t724 t725 t726 t727 t728))) = some r := H
        have A146 := am A1460
        clear A1460
        by_cases c147 : ((t741 == 0) != t747) = true
        ·rw [if_pos c147] at H
         have c147b0 : ((t741 == 0) != t747) = true := c147
         (try (have c147b1 : decide ((t741 == 0) = t747) = false := by simpa using c147))
         (try (have c147b2 : ((t741 == 0) == t747) = false := by simpa using c147))
         (try (have c147b3 : ¬ ((t741 == 0) = t747) := by simpa using c147))
         clear c147
         have H' := am H
         clear H
         have hnb148 := NB715_716.out
         have hnc148 := NB716_715.out
         have hnb149 := NB715_717.out
         have hnc149 := NB717_715.out
         have hnb150 := NB715_730.out
         have hnc150 := NB730_715.out
         have hnb151 := NB715_742.out
         have hnc151 := NB742_715.out
         have := yC1 BK715
         have hcz152_1 := kC1 BK715
         have hcz152_2 := kC2 BK715
         have hcz152_3 := kC3 BK715
         have hcz152_4 := kC4 BK715
         have hcz152_5 := kC5 BK715
         have hfz152_0 := bf BK715.out 0
         have hfz152_1 := bf BK715.out 1
         have hfz152_2 := bf BK715.out 2
         have hfz152_3 := bf BK715.out 3
         have hfz152_4 := bf BK715.out 4
         have hfz152_5 := bf BK715.out 5
         have hnb153 := NB716_717.out
         have hnc153 := NB717_716.out
         have hnb154 := NB716_730.out
         have hnc154 := NB730_716.out
         have hnb155 := NB716_742.out
         have hnc155 := NB742_716.out
         have := yC1 BK716
         have hcz156_1 := kC1 BK716
         have hcz156_2 := kC2 BK716
         have hcz156_3 := kC3 BK716
         have hcz156_4 := kC4 BK716
         have hcz156_5 := kC5 BK716
         have hfz156_0 := bf BK716.out 0
         have hfz156_1 := bf BK716.out 1
         have hfz156_2 := bf BK716.out 2
         have hfz156_3 := bf BK716.out 3
         have hfz156_4 := bf BK716.out 4
         have hfz156_5 := bf BK716.out 5
         go_wp2_with (first | (go_at_call 17; (with_reducible refine (box_Overlap.calls a0_0 a0_1 a0_2 a0_3 a0_4 a0_5 a1_0 a1_1 a1_2 a1_3 a1_4 a1_5 t747 _ A146.out).mono ?_); rintro e w157 ⟨rfl, hb⟩; replace HO_7 := am (Kd.R_below (by (with_reducible repeat (first | apply Kd.R_alloc | apply Kd.R_drewN | apply Kd.R_drew)); exact (Kd.R_mono (Kd.R_far (p := ⟨gb742, 5, none⟩) (Kd.R_far (p := ⟨gb742, 4, none⟩) (Kd.R_far (p := ⟨gb742, 3, none⟩) (Kd.R_far (p := ⟨gb742, 2, none⟩) (Kd.R_far (p := ⟨gb742, 1, none⟩) (Kd.R_far (p := ⟨gb742, 0, none⟩) (Kd.R_mono HO_7.out (fun k_ hk => (⟨hk, hk.2⟩ : _ ∧ k_ ≠ gb742))) (fun _ hk => hk.2) (.int .i64 t735)) (fun _ hk => hk.2) (.int .i64 t736)) (fun _ hk => hk.2) (.int .i64 t737)) (fun _ hk => hk.2) (.int .i64 t738)) (fun _ hk => hk.2) (.int .i64 t739)) (fun _ hk => hk.2) (.int .i64 t740)) (fun _ h_ => h_.1))) hb); replace BK715 := xC1 (kfC BK715.out) hb; replace BK716 := xC1 (kfC BK716.out) hb; replace BK717 := xC1 (kfC BK717.out) hb; replace BK730 := xC1 (kfC BK730.out) hb; replace BK742 := xC1 (o := .cells #[.int .i64 t735, .int .i64 t736, .int .i64 t737, .int .i64 t738, .int .i64 t739, .int .i64 t740] 25 (0, 0)) (kkC BK742.out) hb; replace HB := bS HB hb; (try clear hb); (try clear hb2); (try clear hk); (try clear hi)))
         go_meet
         case rel => exact ⟨_, (true), (by first | rfl | (simp; done) | (simp [*]; done)), H', ⟨by have := HJ7.out; have := HK2.out; first | omega | exact Nat.le_refl _⟩, ⟨by (with_reducible repeat first | apply bN | apply bd | apply ba); exact BK715.out⟩, ⟨by (with_reducible repeat first | apply bN | apply bd | apply ba); exact BK716.out⟩, ⟨by (with_reducible repeat first | apply bN | apply bd | apply ba); exact BK717.out⟩, ⟨by (with_reducible repeat first | apply bN | apply bd | apply ba); exact BK730.out⟩, ⟨by (with_reducible repeat first | apply bN | apply bd | apply ba); exact BK742.out⟩, ⟨by repeat (first | (with_reducible first | exact HB.out | apply wa | apply wN | apply wd | refine ws ?_ GE715.out | refine ws ?_ GE716.out | refine ws ?_ GE717.out | refine ws ?_ GE730.out | refine ws ?_ GE742.out) | exact HB.out)⟩⟩
        rw [if_neg c147] at H
        have c147b0 : ((t741 == 0) != t747) = false := by simpa using c147
        (try (have c147b1 : decide ((t741 == 0) = t747) = true := by simpa using c147))
        (try (have c147b2 : ((t741 == 0) == t747) = true := by simpa using c147))
        clear c147
        by_cases c158 : t741 = 0
        ·rw [if_pos c158] at H
         have c158b0 : (t741 == 0) = true := beq_iff_eq.mpr c158
         (try (have h9_ : ((t741 == 0) == t743) = true := (by assumption); rw [c158b0] at h9_; have c158vt743 : t743 = true := (by simpa using h9_); clear h9_))
         (try (have h9_ : ((t741 == 0) == t745) = true := (by assumption); rw [c158b0] at h9_; have c158vt745 : t745 = true := (by simpa using h9_); clear h9_))
         (try (have h9_ : ((t741 == 0) == t747) = true := (by assumption); rw [c158b0] at h9_; have c158vt747 : t747 = true := (by simpa using h9_); clear h9_))
         have c158b1 : (t741 != 0) = false := bne_eq_false_iff_eq.mpr c158
         clear c158
         replace H := Option.bind_eq_some_iff.mp H
         obtain ⟨t748, A1590, H⟩ := H
         replace H : (w_BoxPoints.j2 k2 false t734 (t748 != false) a2_0 a2_1 a2_2 t723 t724 t725 t726 t727 t728) = some r := H
         have A159 := am A1590
         clear A1590
         have H' := am H
         clear H
         have hnb160 := NB715_716.out
         have hnc160 := NB716_715.out
         have hnb161 := NB715_717.out
         have hnc161 := NB717_715.out
         have hnb162 := NB715_730.out
         have hnc162 := NB730_715.out
         have hnb163 := NB715_742.out
         have hnc163 := NB742_715.out
         have := yC1 BK715
         have hcz164_1 := kC1 BK715
         have hcz164_2 := kC2 BK715
         have hcz164_3 := kC3 BK715
         have hcz164_4 := kC4 BK715
         have hcz164_5 := kC5 BK715
         have hfz164_0 := bf BK715.out 0
         have hfz164_1 := bf BK715.out 1
         have hfz164_2 := bf BK715.out 2
         have hfz164_3 := bf BK715.out 3
         have hfz164_4 := bf BK715.out 4
         have hfz164_5 := bf BK715.out 5
         have hnb165 := NB716_717.out
         have hnc165 := NB717_716.out
         have hnb166 := NB716_730.out
         have hnc166 := NB730_716.out
         have hnb167 := NB716_742.out
         have hnc167 := NB742_716.out
         have := yC1 BK716
         have hcz168_1 := kC1 BK716
         have hcz168_2 := kC2 BK716
         have hcz168_3 := kC3 BK716
         have hcz168_4 := kC4 BK716
         have hcz168_5 := kC5 BK716
         have hfz168_0 := bf BK716.out 0
         have hfz168_1 := bf BK716.out 1
         have hfz168_2 := bf BK716.out 2
         have hfz168_3 := bf BK716.out 3
         have hfz168_4 := bf BK716.out 4
         have hfz168_5 := bf BK716.out 5
         go_wp2_with (first | (go_at_call 17; (with_reducible refine (box_Overlap.calls a0_0 a0_1 a0_2 a0_3 a0_4 a0_5 a1_0 a1_1 a1_2 a1_3 a1_4 a1_5 t747 _ A146.out).mono ?_); rintro e w169 ⟨rfl, hb⟩; replace HO_7 := am (Kd.R_below (by (with_reducible repeat (first | apply Kd.R_alloc | apply Kd.R_drewN | apply Kd.R_drew)); exact (Kd.R_mono (Kd.R_far (p := ⟨gb742, 5, none⟩) (Kd.R_far (p := ⟨gb742, 4, none⟩) (Kd.R_far (p := ⟨gb742, 3, none⟩) (Kd.R_far (p := ⟨gb742, 2, none⟩) (Kd.R_far (p := ⟨gb742, 1, none⟩) (Kd.R_far (p := ⟨gb742, 0, none⟩) (Kd.R_mono HO_7.out (fun k_ hk => (⟨hk, hk.2⟩ : _ ∧ k_ ≠ gb742))) (fun _ hk => hk.2) (.int .i64 t735)) (fun _ hk => hk.2) (.int .i64 t736)) (fun _ hk => hk.2) (.int .i64 t737)) (fun _ hk => hk.2) (.int .i64 t738)) (fun _ hk => hk.2) (.int .i64 t739)) (fun _ hk => hk.2) (.int .i64 t740)) (fun _ h_ => h_.1))) hb); replace BK715 := xC1 (kfC BK715.out) hb; replace BK716 := xC1 (kfC BK716.out) hb; replace BK717 := xC1 (kfC BK717.out) hb; replace BK730 := xC1 (kfC BK730.out) hb; replace BK742 := xC1 (o := .cells #[.int .i64 t735, .int .i64 t736, .int .i64 t737, .int .i64 t738, .int .i64 t739, .int .i64 t740] 25 (0, 0)) (kkC BK742.out) hb; replace HB := bS HB hb; (try clear hb); (try clear hb2); (try clear hk); (try clear hi); have hnb170 := NB742_717.out; have hnc170 := NB717_742.out; have hnb171 := NB742_730.out; have hnc171 := NB730_742.out; obtain ⟨_, _, _, _, _, _, _, _, _, _, _, _⟩ := zC6 BK742; have hnb173 := NB717_730.out; have hnc173 := NB730_717.out; obtain ⟨_, _, _, _, _, _⟩ := zC3 BK717) | (go_at_call 14; (with_reducible refine (box_Has.calls k2 t735 t736 t737 t738 t739 t740 a2_0 a2_1 a2_2 t748 _ A159.out).mono ?_); rintro e w175 ⟨rfl, hb⟩; replace HO_7 := dR HO_7 hb; replace BK715 := bB BK715 hb; replace BK716 := bB BK716 hb; replace BK717 := bB BK717 hb; replace BK730 := bB BK730 hb; replace BK742 := bB BK742 hb; replace HB := bS HB hb; (try clear hb); (try clear hb2); (try clear hk); (try clear hi)))
         go_meet
         case rel => exact ⟨_, ((t748 != false)), (by first | rfl | (simp; done) | (simp [*]; done)), H', ⟨by have := HJ7.out; have := HK2.out; first | omega | exact Nat.le_refl _⟩, ⟨by (with_reducible repeat first | apply bN | apply bd | apply ba); exact BK715.out⟩, ⟨by (with_reducible repeat first | apply bN | apply bd | apply ba); exact BK716.out⟩, ⟨by (with_reducible repeat first | apply bN | apply bd | apply ba); exact BK717.out⟩, ⟨by (with_reducible repeat first | apply bN | apply bd | apply ba); exact BK730.out⟩, ⟨by (with_reducible repeat first | apply bN | apply bd | apply ba); exact BK742.out⟩, ⟨by repeat (first | (with_reducible first | exact HB.out | apply wa | apply wN | apply wd | refine ws ?_ GE715.out | refine ws ?_ GE716.out | refine ws ?_ GE717.out | refine ws ?_ GE730.out | refine ws ?_ GE742.out) | exact HB.out)⟩⟩
        rw [if_neg c158] at H
        have c158b0 : (t741 == 0) = false := beq_eq_false_iff_ne.mpr c158
        (try (have h9_ : ((t741 == 0) == t743) = true := (by assumption); rw [c158b0] at h9_; have c158vt743 : t743 = false := (by simpa using h9_); clear h9_))
        (try (have h9_ : ((t741 == 0) == t745) = true := (by assumption); rw [c158b0] at h9_; have c158vt745 : t745 = false := (by simpa using h9_); clear h9_))
        (try (have h9_ : ((t741 == 0) == t747) = true := (by assumption); rw [c158b0] at h9_; have c158vt747 : t747 = false := (by simpa using h9_); clear h9_))
        have c158b1 : (t741 != 0) = true := bne_iff_ne.mpr c158
        have H' := am H
        clear H
        have hnb176 := NB715_716.out
        have hnc176 := NB716_715.out
        have hnb177 := NB715_717.out
        have hnc177 := NB717_715.out
        have hnb178 := NB715_730.out
        have hnc178 := NB730_715.out
        have hnb179 := NB715_742.out
        have hnc179 := NB742_715.out
        have := yC1 BK715
        have hcz180_1 := kC1 BK715
        have hcz180_2 := kC2 BK715
        have hcz180_3 := kC3 BK715
        have hcz180_4 := kC4 BK715
        have hcz180_5 := kC5 BK715
        have hfz180_0 := bf BK715.out 0
        have hfz180_1 := bf BK715.out 1
        have hfz180_2 := bf BK715.out 2
        have hfz180_3 := bf BK715.out 3
        have hfz180_4 := bf BK715.out 4
        have hfz180_5 := bf BK715.out 5
        have hnb181 := NB716_717.out
        have hnc181 := NB717_716.out
        have hnb182 := NB716_730.out
        have hnc182 := NB730_716.out
        have hnb183 := NB716_742.out
        have hnc183 := NB742_716.out
        have := yC1 BK716
        have hcz184_1 := kC1 BK716
        have hcz184_2 := kC2 BK716
        have hcz184_3 := kC3 BK716
        have hcz184_4 := kC4 BK716
        have hcz184_5 := kC5 BK716
        have hfz184_0 := bf BK716.out 0
        have hfz184_1 := bf BK716.out 1
        have hfz184_2 := bf BK716.out 2
        have hfz184_3 := bf BK716.out 3
        have hfz184_4 := bf BK716.out 4
        have hfz184_5 := bf BK716.out 5
        go_wp2_with (first | (go_at_call 17; (with_reducible refine (box_Overlap.calls a0_0 a0_1 a0_2 a0_3 a0_4 a0_5 a1_0 a1_1 a1_2 a1_3 a1_4 a1_5 t747 _ A146.out).mono ?_); rintro e w185 ⟨rfl, hb⟩; replace HO_7 := am (Kd.R_below (by (with_reducible repeat (first | apply Kd.R_alloc | apply Kd.R_drewN | apply Kd.R_drew)); exact (Kd.R_mono (Kd.R_far (p := ⟨gb742, 5, none⟩) (Kd.R_far (p := ⟨gb742, 4, none⟩) (Kd.R_far (p := ⟨gb742, 3, none⟩) (Kd.R_far (p := ⟨gb742, 2, none⟩) (Kd.R_far (p := ⟨gb742, 1, none⟩) (Kd.R_far (p := ⟨gb742, 0, none⟩) (Kd.R_mono HO_7.out (fun k_ hk => (⟨hk, hk.2⟩ : _ ∧ k_ ≠ gb742))) (fun _ hk => hk.2) (.int .i64 t735)) (fun _ hk => hk.2) (.int .i64 t736)) (fun _ hk => hk.2) (.int .i64 t737)) (fun _ hk => hk.2) (.int .i64 t738)) (fun _ hk => hk.2) (.int .i64 t739)) (fun _ hk => hk.2) (.int .i64 t740)) (fun _ h_ => h_.1))) hb); replace BK715 := xC1 (kfC BK715.out) hb; replace BK716 := xC1 (kfC BK716.out) hb; replace BK717 := xC1 (kfC BK717.out) hb; replace BK730 := xC1 (kfC BK730.out) hb; replace BK742 := xC1 (o := .cells #[.int .i64 t735, .int .i64 t736, .int .i64 t737, .int .i64 t738, .int .i64 t739, .int .i64 t740] 25 (0, 0)) (kkC BK742.out) hb; replace HB := bS HB hb; (try clear hb); (try clear hb2); (try clear hk); (try clear hi)))
        go_meet
        case rel => exact ⟨_, (false), (by first | rfl | (simp; done) | (simp [*]; done)), H', ⟨by have := HJ7.out; have := HK2.out; first | omega | exact Nat.le_refl _⟩, ⟨by (with_reducible repeat first | apply bN | apply bd | apply ba); exact BK715.out⟩, ⟨by (with_reducible repeat first | apply bN | apply bd | apply ba); exact BK716.out⟩, ⟨by (with_reducible repeat first | apply bN | apply bd | apply ba); exact BK717.out⟩, ⟨by (with_reducible repeat first | apply bN | apply bd | apply ba); exact BK730.out⟩, ⟨by (with_reducible repeat first | apply bN | apply bd | apply ba); exact BK742.out⟩, ⟨by repeat (first | (with_reducible first | exact HB.out | apply wa | apply wN | apply wd | refine ws ?_ GE715.out | refine ws ?_ GE716.out | refine ws ?_ GE717.out | refine ws ?_ GE730.out | refine ws ?_ GE742.out) | exact HB.out)⟩⟩
       subst c61
       have H1 : (if t734 = true then (if x11_2 = 0 then ((box_Overlap.f a0_0 a0_1 a0_2 a0_3 a0_4 a0_5 a1_0 a1_1 a1_2 a1_3 a1_4 a1_5).bind fun t743 => (if ((t741 == 0) != t743) = true then (w_BoxPoints.j2 k2 true t734 true a2_0 a2_1 a2_2 t723 t724 t725 t726 t727 t728) else (if t741 = 0 then ((box_Has.f k2 t735 t736 t737 t738 t739 t740 a2_0 a2_1 a2_2).bind fun t744 => (w_BoxPoints.j2 k2 true t734 (t744 != t734) a2_0 a2_1 a2_2 t723 t724 t725 t726 t727 t728)) else (w_BoxPoints.j2 k2 true t734 false a2_0 a2_1 a2_2 t723 t724 t725 t726 t727 t728)))) else (w_BoxPoints.j2 k2 true t734 true a2_0 a2_1 a2_2 t723 t724 t725 t726 t727 t728)) else (if x11_2 = 1 then ((box_Overlap.f a0_0 a0_1 a0_2 a0_3 a0_4 a0_5 a1_0 a1_1 a1_2 a1_3 a1_4 a1_5).bind fun t745 => (if ((t741 == 0) != t745) = true then (w_BoxPoints.j2 k2 true t734 true a2_0 a2_1 a2_2 t723 t724 t725 t726 t727 t728) else (if t741 = 0 then ((box_Has.f k2 t735 t736 t737 t738 t739 t740 a2_0 a2_1 a2_2).bind fun t746 => (w_BoxPoints.j2 k2 true t734 (t746 != t734) a2_0 a2_1 a2_2 t723 t724 t725 t726 t727 t728)) else (w_BoxPoints.j2 k2 true t734 false a2_0 a2_1 a2_2 t723 t724 t725 t726 t727 t728)))) else (w_BoxPoints.j2 k2 true t734 true a2_0 a2_1 a2_2 t723 t724 t725 t726 t727 t728))) = some r := by rw [if_pos rfl] at H; exact H
       clear H
       have H := H1
       clear H1
       by_cases c62 : t734 = true
       ·subst c62
        have H1 : (if x11_2 = 0 then ((box_Overlap.f a0_0 a0_1 a0_2 a0_3 a0_4 a0_5 a1_0 a1_1 a1_2 a1_3 a1_4 a1_5).bind fun t743 => (if ((t741 == 0) != t743) = true then (w_BoxPoints.j2 k2 true true true a2_0 a2_1 a2_2 t723 t724 t725 t726 t727 t728) else (if t741 = 0 then ((box_Has.f k2 t735 t736 t737 t738 t739 t740 a2_0 a2_1 a2_2).bind fun t744 => (w_BoxPoints.j2 k2 true true (t744 != true) a2_0 a2_1 a2_2 t723 t724 t725 t726 t727 t728)) else (w_BoxPoints.j2 k2 true true false a2_0 a2_1 a2_2 t723 t724 t725 t726 t727 t728)))) else (w_BoxPoints.j2 k2 true true true a2_0 a2_1 a2_2 t723 t724 t725 t726 t727 t728)) = some r := by rw [if_pos rfl] at H; exact H
        clear H
        have H := H1
        clear H1
        by_cases c63 : x11_2 = 0
        rotate_left
        ·rw [if_neg c63] at H
         have c63b0 : (x11_2 == 0) = false := beq_eq_false_iff_ne.mpr c63
         have c63b1 : (x11_2 != 0) = true := bne_iff_ne.mpr c63
         (first | rw [c63b0] | (simp only [i64_w, i32_w]; rw [c63b0]) | skip)
         have H' := am H
         clear H
         go_wp2
         go_meet
         case rel => exact ⟨_, (true), (by first | rfl | (simp; done) | (simp [*]; done)), H', ⟨by have := HJ7.out; have := HK2.out; first | omega | exact Nat.le_refl _⟩, ⟨by (with_reducible repeat first | apply bN | apply bd | apply ba); refine bF ?_ NB715_742.out _; (with_reducible repeat first | apply bN | apply bd | apply ba); refine bF ?_ NB715_742.out _; (with_reducible repeat first | apply bN | apply bd | apply ba); refine bF ?_ NB715_742.out _; (with_reducible repeat first | apply bN | apply bd | apply ba); refine bF ?_ NB715_742.out _; (with_reducible repeat first | apply bN | apply bd | apply ba); refine bF ?_ NB715_742.out _; (with_reducible repeat first | apply bN | apply bd | apply ba); refine bF ?_ NB715_742.out _; (with_reducible repeat first | apply bN | apply bd | apply ba); exact BK715.out⟩, ⟨by (with_reducible repeat first | apply bN | apply bd | apply ba); refine bF ?_ NB716_742.out _; (with_reducible repeat first | apply bN | apply bd | apply ba); refine bF ?_ NB716_742.out _; (with_reducible repeat first | apply bN | apply bd | apply ba); refine bF ?_ NB716_742.out _; (with_reducible repeat first | apply bN | apply bd | apply ba); refine bF ?_ NB716_742.out _; (with_reducible repeat first | apply bN | apply bd | apply ba); refine bF ?_ NB716_742.out _; (with_reducible repeat first | apply bN | apply bd | apply ba); refine bF ?_ NB716_742.out _; (with_reducible repeat first | apply bN | apply bd | apply ba); exact BK716.out⟩, ⟨by (with_reducible repeat first | apply bN | apply bd | apply ba); refine bF ?_ NB717_742.out _; (with_reducible repeat first | apply bN | apply bd | apply ba); refine bF ?_ NB717_742.out _; (with_reducible repeat first | apply bN | apply bd | apply ba); refine bF ?_ NB717_742.out _; (with_reducible repeat first | apply bN | apply bd | apply ba); refine bF ?_ NB717_742.out _; (with_reducible repeat first | apply bN | apply bd | apply ba); refine bF ?_ NB717_742.out _; (with_reducible repeat first | apply bN | apply bd | apply ba); refine bF ?_ NB717_742.out _; (with_reducible repeat first | apply bN | apply bd | apply ba); exact BK717.out⟩, ⟨by (with_reducible repeat first | apply bN | apply bd | apply ba); refine bF ?_ NB730_742.out _; (with_reducible repeat first | apply bN | apply bd | apply ba); refine bF ?_ NB730_742.out _; (with_reducible repeat first | apply bN | apply bd | apply ba); refine bF ?_ NB730_742.out _; (with_reducible repeat first | apply bN | apply bd | apply ba); refine bF ?_ NB730_742.out _; (with_reducible repeat first | apply bN | apply bd | apply ba); refine bF ?_ NB730_742.out _; (with_reducible repeat first | apply bN | apply bd | apply ba); refine bF ?_ NB730_742.out _; (with_reducible repeat first | apply bN | apply bd | apply ba); exact BK730.out⟩, ⟨by (with_reducible repeat first | apply bN | apply bd | apply ba); refine bp (cs := #[.int .i64 t735, .int .i64 t736, .int .i64 t737, .int .i64 t738, .int .i64 t739, .int .i64 0]) ?_ 5 _ rfl; (with_reducible repeat first | apply bN | apply bd | apply ba); refine bp (cs := #[.int .i64 t735, .int .i64 t736, .int .i64 t737, .int .i64 t738, .int .i64 0, .int .i64 0]) ?_ 4 _ rfl; (with_reducible repeat first | apply bN | apply bd | apply ba); refine bp (cs := #[.int .i64 t735, .int .i64 t736, .int .i64 t737, .int .i64 0, .int .i64 0, .int .i64 0]) ?_ 3 _ rfl; (with_reducible repeat first | apply bN | apply bd | apply ba); refine bp (cs := #[.int .i64 t735, .int .i64 t736, .int .i64 0, .int .i64 0, .int .i64 0, .int .i64 0]) ?_ 2 _ rfl; (with_reducible repeat first | apply bN | apply bd | apply ba); refine bp (cs := #[.int .i64 t735, .int .i64 0, .int .i64 0, .int .i64 0, .int .i64 0, .int .i64 0]) ?_ 1 _ rfl; (with_reducible repeat first | apply bN | apply bd | apply ba); refine bp (cs := #[.int .i64 0, .int .i64 0, .int .i64 0, .int .i64 0, .int .i64 0, .int .i64 0]) ?_ 0 _ rfl; (with_reducible repeat first | apply bN | apply bd | apply ba); exact BK742.out⟩, ⟨by repeat (first | (with_reducible first | exact HB.out | apply wa | apply wN | apply wd | refine ws ?_ GE715.out | refine ws ?_ GE716.out | refine ws ?_ GE717.out | refine ws ?_ GE730.out | refine ws ?_ GE742.out) | exact HB.out)⟩⟩
        rw [if_pos c63] at H
        have c63b0 : (x11_2 == 0) = true := beq_iff_eq.mpr c63
        have c63b1 : (x11_2 != 0) = false := bne_eq_false_iff_eq.mpr c63
        clear c63
        (first | rw [c63b0] | (simp only [i64_w, i32_w]; rw [c63b0]) | skip)
        replace H := Option.bind_eq_some_iff.mp H
        obtain ⟨t743, A640, H⟩ := H
        replace H : (if ((t741 == 0) != t743) = true then (w_BoxPoints.j2 k2 true true true a2_0 a2_1 a2_2 t723 t724 t725 t726 t727 t728) else (if t741 = 0 then ((box_Has.f k2 t735 t736 t737 t738 t739 t740 a2_0 a2_1 a2_2).bind fun t744 => (w_BoxPoints.j2 k2 true true (t744 != true) a2_0 a2_1 a2_2 t723 t724 t725 t726 t727 t728)) else (w_BoxPoints.j2 k2 true true false a2_0 a2_1 a2_2 t723 t724 t725 t726 t727 t728))) = some r := H
        have A64 := am A640
        clear A640
        by_cases c65 : ((t741 == 0) != t743) = true
        ·rw [if_pos c65] at H
         have c65b0 : ((t741 == 0) != t743) = true := c65
         (try (have c65b1 : decide ((t741 == 0) = t743) = false := by simpa using c65))
         (try (have c65b2 : ((t741 == 0) == t743) = false := by simpa using c65))
         (try (have c65b3 : ¬ ((t741 == 0) = t743) := by simpa using c65))
         clear c65
         have H' := am H
         clear H
         have hnb66 := NB715_716.out
         have hnc66 := NB716_715.out
         have hnb67 := NB715_717.out
         have hnc67 := NB717_715.out
         have hnb68 := NB715_730.out
         have hnc68 := NB730_715.out
         have hnb69 := NB715_742.out
         have hnc69 := NB742_715.out
         have := yC1 BK715
         have hcz70_1 := kC1 BK715
         have hcz70_2 := kC2 BK715
         have hcz70_3 := kC3 BK715
         have hcz70_4 := kC4 BK715
         have hcz70_5 := kC5 BK715
         have hfz70_0 := bf BK715.out 0
         have hfz70_1 := bf BK715.out 1
         have hfz70_2 := bf BK715.out 2
         have hfz70_3 := bf BK715.out 3
         have hfz70_4 := bf BK715.out 4
         have hfz70_5 := bf BK715.out 5
         have hnb71 := NB716_717.out
         have hnc71 := NB717_716.out
         have hnb72 := NB716_730.out
         have hnc72 := NB730_716.out
         have hnb73 := NB716_742.out
         have hnc73 := NB742_716.out
         have := yC1 BK716
         have hcz74_1 := kC1 BK716
         have hcz74_2 := kC2 BK716
         have hcz74_3 := kC3 BK716
         have hcz74_4 := kC4 BK716
         have hcz74_5 := kC5 BK716
         have hfz74_0 := bf BK716.out 0
         have hfz74_1 := bf BK716.out 1
         have hfz74_2 := bf BK716.out 2
         have hfz74_3 := bf BK716.out 3
         have hfz74_4 := bf BK716.out 4
         have hfz74_5 := bf BK716.out 5
         go_wp2_with (first | (go_at_call 17; (with_reducible refine (box_Overlap.calls a0_0 a0_1 a0_2 a0_3 a0_4 a0_5 a1_0 a1_1 a1_2 a1_3 a1_4 a1_5 t743 _ A64.out).mono ?_); rintro e w75 ⟨rfl, hb⟩; replace HO_7 := am (Kd.R_below (by (with_reducible repeat (first | apply Kd.R_alloc | apply Kd.R_drewN | apply Kd.R_drew)); exact (Kd.R_mono (Kd.R_far (p := ⟨gb742, 5, none⟩) (Kd.R_far (p := ⟨gb742, 4, none⟩) (Kd.R_far (p := ⟨gb742, 3, none⟩) (Kd.R_far (p := ⟨gb742, 2, none⟩) (Kd.R_far (p := ⟨gb742, 1, none⟩) (Kd.R_far (p := ⟨gb742, 0, none⟩) (Kd.R_mono HO_7.out (fun k_ hk => (⟨hk, hk.2⟩ : _ ∧ k_ ≠ gb742))) (fun _ hk => hk.2) (.int .i64 t735)) (fun _ hk => hk.2) (.int .i64 t736)) (fun _ hk => hk.2) (.int .i64 t737)) (fun _ hk => hk.2) (.int .i64 t738)) (fun _ hk => hk.2) (.int .i64 t739)) (fun _ hk => hk.2) (.int .i64 t740)) (fun _ h_ => h_.1))) hb); replace BK715 := xC1 (kfC BK715.out) hb; replace BK716 := xC1 (kfC BK716.out) hb; replace BK717 := xC1 (kfC BK717.out) hb; replace BK730 := xC1 (kfC BK730.out) hb; replace BK742 := xC1 (o := .cells #[.int .i64 t735, .int .i64 t736, .int .i64 t737, .int .i64 t738, .int .i64 t739, .int .i64 t740] 25 (0, 0)) (kkC BK742.out) hb; replace HB := bS HB hb; (try clear hb); (try clear hb2); (try clear hk); (try clear hi)))
         go_meet
         case rel => exact ⟨_, (true), (by first | rfl | (simp; done) | (simp [*]; done)), H', ⟨by have := HJ7.out; have := HK2.out; first | omega | exact Nat.le_refl _⟩, ⟨by (with_reducible repeat first | apply bN | apply bd | apply ba); exact BK715.out⟩, ⟨by (with_reducible repeat first | apply bN | apply bd | apply ba); exact BK716.out⟩, ⟨by (with_reducible repeat first | apply bN | apply bd | apply ba); exact BK717.out⟩, ⟨by (with_reducible repeat first | apply bN | apply bd | apply ba); exact BK730.out⟩, ⟨by (with_reducible repeat first | apply bN | apply bd | apply ba); exact BK742.out⟩, ⟨by repeat (first | (with_reducible first | exact HB.out | apply wa | apply wN | apply wd | refine ws ?_ GE715.out | refine ws ?_ GE716.out | refine ws ?_ GE717.out | refine ws ?_ GE730.out | refine ws ?_ GE742.out) | exact HB.out)⟩⟩
        rw [if_neg c65] at H
        have c65b0 : ((t741 == 0) != t743) = false := by simpa using c65
        (try (have c65b1 : decide ((t741 == 0) = t743) = true := by simpa using c65))
        (try (have c65b2 : ((t741 == 0) == t743) = true := by simpa using c65))
        clear c65
        by_cases c76 : t741 = 0
        ·rw [if_pos c76] at H
         have c76b0 : (t741 == 0) = true := beq_iff_eq.mpr c76
         (try (have h9_ : ((t741 == 0) == t743) = true := (by assumption); rw [c76b0] at h9_; have c76vt743 : t743 = true := (by simpa using h9_); clear h9_))
         (try (have h9_ : ((t741 == 0) == t745) = true := (by assumption); rw [c76b0] at h9_; have c76vt745 : t745 = true := (by simpa using h9_); clear h9_))
         (try (have h9_ : ((t741 == 0) == t747) = true := (by assumption); rw [c76b0] at h9_; have c76vt747 : t747 = true := (by simpa using h9_); clear h9_))
         have c76b1 : (t741 != 0) = false := bne_eq_false_iff_eq.mpr c76
         clear c76
         replace H := Option.bind_eq_some_iff.mp H
         obtain ⟨t744, A770, H⟩ := H
         replace H : (w_BoxPoints.j2 k2 true true (t744 != true) a2_0 a2_1 a2_2 t723 t724 t725 t726 t727 t728) = some r := H
         have A77 := am A770
         clear A770
         have H' := am H
         clear H
         have hnb78 := NB715_716.out
         have hnc78 := NB716_715.out
         have hnb79 := NB715_717.out
         have hnc79 := NB717_715.out
         have hnb80 := NB715_730.out
         have hnc80 := NB730_715.out
         have hnb81 := NB715_742.out
         have hnc81 := NB742_715.out
         have := yC1 BK715
         have hcz82_1 := kC1 BK715
         have hcz82_2 := kC2 BK715
         have hcz82_3 := kC3 BK715
         have hcz82_4 := kC4 BK715
         have hcz82_5 := kC5 BK715
         have hfz82_0 := bf BK715.out 0
         have hfz82_1 := bf BK715.out 1
         have hfz82_2 := bf BK715.out 2
         have hfz82_3 := bf BK715.out 3
         have hfz82_4 := bf BK715.out 4
         have hfz82_5 := bf BK715.out 5
         have hnb83 := NB716_717.out
         have hnc83 := NB717_716.out
         have hnb84 := NB716_730.out
         have hnc84 := NB730_716.out
         have hnb85 := NB716_742.out
         have hnc85 := NB742_716.out
         have := yC1 BK716
         have hcz86_1 := kC1 BK716
         have hcz86_2 := kC2 BK716
         have hcz86_3 := kC3 BK716
         have hcz86_4 := kC4 BK716
         have hcz86_5 := kC5 BK716
         have hfz86_0 := bf BK716.out 0
         have hfz86_1 := bf BK716.out 1
         have hfz86_2 := bf BK716.out 2
         have hfz86_3 := bf BK716.out 3
         have hfz86_4 := bf BK716.out 4
         have hfz86_5 := bf BK716.out 5
         go_wp2_with (first | (go_at_call 17; (with_reducible refine (box_Overlap.calls a0_0 a0_1 a0_2 a0_3 a0_4 a0_5 a1_0 a1_1 a1_2 a1_3 a1_4 a1_5 t743 _ A64.out).mono ?_); rintro e w87 ⟨rfl, hb⟩; replace HO_7 := am (Kd.R_below (by (with_reducible repeat (first | apply Kd.R_alloc | apply Kd.R_drewN | apply Kd.R_drew)); exact (Kd.R_mono (Kd.R_far (p := ⟨gb742, 5, none⟩) (Kd.R_far (p := ⟨gb742, 4, none⟩) (Kd.R_far (p := ⟨gb742, 3, none⟩) (Kd.R_far (p := ⟨gb742, 2, none⟩) (Kd.R_far (p := ⟨gb742, 1, none⟩) (Kd.R_far (p := ⟨gb742, 0, none⟩) (Kd.R_mono HO_7.out (fun k_ hk => (⟨hk, hk.2⟩ : _ ∧ k_ ≠ gb742))) (fun _ hk => hk.2) (.int .i64 t735)) (fun _ hk => hk.2) (.int .i64 t736)) (fun _ hk => hk.2) (.int .i64 t737)) (fun _ hk => hk.2) (.int .i64 t738)) (fun _ hk => hk.2) (.int .i64 t739)) (fun _ hk => hk.2) (.int .i64 t740)) (fun _ h_ => h_.1))) hb); replace BK715 := xC1 (kfC BK715.out) hb; replace BK716 := xC1 (kfC BK716.out) hb; replace BK717 := xC1 (kfC BK717.out) hb; replace BK730 := xC1 (kfC BK730.out) hb; replace BK742 := xC1 (o := .cells #[.int .i64 t735, .int .i64 t736, .int .i64 t737, .int .i64 t738, .int .i64 t739, .int .i64 t740] 25 (0, 0)) (kkC BK742.out) hb; replace HB := bS HB hb; (try clear hb); (try clear hb2); (try clear hk); (try clear hi); have hnb88 := NB742_717.out; have hnc88 := NB717_742.out; have hnb89 := NB742_730.out; have hnc89 := NB730_742.out; obtain ⟨_, _, _, _, _, _, _, _, _, _, _, _⟩ := zC6 BK742; have hnb91 := NB717_730.out; have hnc91 := NB730_717.out; obtain ⟨_, _, _, _, _, _⟩ := zC3 BK717) | (go_at_call 14; (with_reducible refine (box_Has.calls k2 t735 t736 t737 t738 t739 t740 a2_0 a2_1 a2_2 t744 _ A77.out).mono ?_); rintro e w93 ⟨rfl, hb⟩; replace HO_7 := dR HO_7 hb; replace BK715 := bB BK715 hb; replace BK716 := bB BK716 hb; replace BK717 := bB BK717 hb; replace BK730 := bB BK730 hb; replace BK742 := bB BK742 hb; replace HB := bS HB hb; (try clear hb); (try clear hb2); (try clear hk); (try clear hi)))
         go_meet
         case rel => exact ⟨_, ((t744 != true)), (by first | rfl | (simp; done) | (simp [*]; done)), H', ⟨by have := HJ7.out; have := HK2.out; first | omega | exact Nat.le_refl _⟩, ⟨by (with_reducible repeat first | apply bN | apply bd | apply ba); exact BK715.out⟩, ⟨by (with_reducible repeat first | apply bN | apply bd | apply ba); exact BK716.out⟩, ⟨by (with_reducible repeat first | apply bN | apply bd | apply ba); exact BK717.out⟩, ⟨by (with_reducible repeat first | apply bN | apply bd | apply ba); exact BK730.out⟩, ⟨by (with_reducible repeat first | apply bN | apply bd | apply ba); exact BK742.out⟩, ⟨by repeat (first | (with_reducible first | exact HB.out | apply wa | apply wN | apply wd | refine ws ?_ GE715.out | refine ws ?_ GE716.out | refine ws ?_ GE717.out | refine ws ?_ GE730.out | refine ws ?_ GE742.out) | exact HB.out)⟩⟩
        rw [if_neg c76] at H
        have c76b0 : (t741 == 0) = false := beq_eq_false_iff_ne.mpr c76
        (try (have h9_ : ((t741 == 0) == t743) = true := (by assumption); rw [c76b0] at h9_; have c76vt743 : t743 = false := (by simpa using h9_); clear h9_))
        (try (have h9_ : ((t741 == 0) == t745) = true := (by assumption); rw [c76b0] at h9_; have c76vt745 : t745 = false := (by simpa using h9_); clear h9_))
        (try (have h9_ : ((t741 == 0) == t747) = true := (by assumption); rw [c76b0] at h9_; have c76vt747 : t747 = false := (by simpa using h9_); clear h9_))
        have c76b1 : (t741 != 0) = true := bne_iff_ne.mpr c76
        have H' := am H
        clear H
        have hnb94 := NB715_716.out
        have hnc94 := NB716_715.out
        have hnb95 := NB715_717.out
        have hnc95 := NB717_715.out
        have hnb96 := NB715_730.out
        have hnc96 := NB730_715.out
        have hnb97 := NB715_742.out
        have hnc97 := NB742_715.out
        have := yC1 BK715
        have hcz98_1 := kC1 BK715
        have hcz98_2 := kC2 BK715
        have hcz98_3 := kC3 BK715
        have hcz98_4 := kC4 BK715
        have hcz98_5 := kC5 BK715
        have hfz98_0 := bf BK715.out 0
        have hfz98_1 := bf BK715.out 1
        have hfz98_2 := bf BK715.out 2
        have hfz98_3 := bf BK715.out 3
        have hfz98_4 := bf BK715.out 4
        have hfz98_5 := bf BK715.out 5
        have hnb99 := NB716_717.out
        have hnc99 := NB717_716.out
        have hnb100 := NB716_730.out
        have hnc100 := NB730_716.out
        have hnb101 := NB716_742.out
        have hnc101 := NB742_716.out
        have := yC1 BK716
        have hcz102_1 := kC1 BK716
        have hcz102_2 := kC2 BK716
        have hcz102_3 := kC3 BK716
        have hcz102_4 := kC4 BK716
        have hcz102_5 := kC5 BK716
        have hfz102_0 := bf BK716.out 0
        have hfz102_1 := bf BK716.out 1
        have hfz102_2 := bf BK716.out 2
        have hfz102_3 := bf BK716.out 3
        have hfz102_4 := bf BK716.out 4
        have hfz102_5 := bf BK716.out 5
        go_wp2_with (first | (go_at_call 17; (with_reducible refine (box_Overlap.calls a0_0 a0_1 a0_2 a0_3 a0_4 a0_5 a1_0 a1_1 a1_2 a1_3 a1_4 a1_5 t743 _ A64.out).mono ?_); rintro e w103 ⟨rfl, hb⟩; replace HO_7 := am (Kd.R_below (by (with_reducible repeat (first | apply Kd.R_alloc | apply Kd.R_drewN | apply Kd.R_drew)); exact (Kd.R_mono (Kd.R_far (p := ⟨gb742, 5, none⟩) (Kd.R_far (p := ⟨gb742, 4, none⟩) (Kd.R_far (p := ⟨gb742, 3, none⟩) (Kd.R_far (p := ⟨gb742, 2, none⟩) (Kd.R_far (p := ⟨gb742, 1, none⟩) (Kd.R_far (p := ⟨gb742, 0, none⟩) (Kd.R_mono HO_7.out (fun k_ hk => (⟨hk, hk.2⟩ : _ ∧ k_ ≠ gb742))) (fun _ hk => hk.2) (.int .i64 t735)) (fun _ hk => hk.2) (.int .i64 t736)) (fun _ hk => hk.2) (.int .i64 t737)) (fun _ hk => hk.2) (.int .i64 t738)) (fun _ hk => hk.2) (.int .i64 t739)) (fun _ hk => hk.2) (.int .i64 t740)) (fun _ h_ => h_.1))) hb); replace BK715 := xC1 (kfC BK715.out) hb; replace BK716 := xC1 (kfC BK716.out) hb; replace BK717 := xC1 (kfC BK717.out) hb; replace BK730 := xC1 (kfC BK730.out) hb; replace BK742 := xC1 (o := .cells #[.int .i64 t735, .int .i64 t736, .int .i64 t737, .int .i64 t738, .int .i64 t739, .int .i64 t740] 25 (0, 0)) (kkC BK742.out) hb; replace HB := bS HB hb; (try clear hb); (try clear hb2); (try clear hk); (try clear hi)))
        go_meet
        case rel => exact ⟨_, (false), (by first | rfl | (simp; done) | (simp [*]; done)), H', ⟨by have := HJ7.out; have := HK2.out; first | omega | exact Nat.le_refl _⟩, ⟨by (with_reducible repeat first | apply bN | apply bd | apply ba); exact BK715.out⟩, ⟨by (with_reducible repeat first | apply bN | apply bd | apply ba); exact BK716.out⟩, ⟨by (with_reducible repeat first | apply bN | apply bd | apply ba); exact BK717.out⟩, ⟨by (with_reducible repeat first | apply bN | apply bd | apply ba); exact BK730.out⟩, ⟨by (with_reducible repeat first | apply bN | apply bd | apply ba); exact BK742.out⟩, ⟨by repeat (first | (with_reducible first | exact HB.out | apply wa | apply wN | apply wd | refine ws ?_ GE715.out | refine ws ?_ GE716.out | refine ws ?_ GE717.out | refine ws ?_ GE730.out | refine ws ?_ GE742.out) | exact HB.out)⟩⟩
       replace c62 := Bool.eq_false_iff.mpr c62
       subst c62
       have H1 : (if x11_2 = 1 then ((box_Overlap.f a0_0 a0_1 a0_2 a0_3 a0_4 a0_5 a1_0 a1_1 a1_2 a1_3 a1_4 a1_5).bind fun t745 => (if ((t741 == 0) != t745) = true then (w_BoxPoints.j2 k2 true false true a2_0 a2_1 a2_2 t723 t724 t725 t726 t727 t728) else (if t741 = 0 then ((box_Has.f k2 t735 t736 t737 t738 t739 t740 a2_0 a2_1 a2_2).bind fun t746 => (w_BoxPoints.j2 k2 true false (t746 != false) a2_0 a2_1 a2_2 t723 t724 t725 t726 t727 t728)) else (w_BoxPoints.j2 k2 true false false a2_0 a2_1 a2_2 t723 t724 t725 t726 t727 t728)))) else (w_BoxPoints.j2 k2 true false true a2_0 a2_1 a2_2 t723 t724 t725 t726 t727 t728)) = some r := by rw [if_neg (show ¬ (false = true) by decide)] at H; exact H
       clear H
       have H := H1
       clear H1
       by_cases c104 : x11_2 = 1
       rotate_left
       ·rw [if_neg c104] at H
        have c104b0 : (x11_2 == 1) = false := beq_eq_false_iff_ne.mpr c104
        have c104b1 : (x11_2 != 1) = true := bne_iff_ne.mpr c104
        have H' := am H
        clear H
        go_wp2
        go_meet
        case rel => exact ⟨_, (true), (by first | rfl | (simp; done) | (simp [*]; done)), H', ⟨by have := HJ7.out; have := HK2.out; first | omega | exact Nat.le_refl _⟩, ⟨by (with_reducible repeat first | apply bN | apply bd | apply ba); refine bF ?_ NB715_742.out _; (with_reducible repeat first | apply bN | apply bd | apply ba); refine bF ?_ NB715_742.out _; (with_reducible repeat first | apply bN | apply bd | apply ba); refine bF ?_ NB715_742.out _; (with_reducible repeat first | apply bN | apply bd | apply ba); refine bF ?_ NB715_742.out _; (with_reducible repeat first | apply bN | apply bd | apply ba); refine bF ?_ NB715_742.out _; (with_reducible repeat first | apply bN | apply bd | apply ba); refine bF ?_ NB715_742.out _; (with_reducible repeat first | apply bN | apply bd | apply ba); exact BK715.out⟩, ⟨by (with_reducible repeat first | apply bN | apply bd | apply ba); refine bF ?_ NB716_742.out _; (with_reducible repeat first | apply bN | apply bd | apply ba); refine bF ?_ NB716_742.out _; (with_reducible repeat first | apply bN | apply bd | apply ba); refine bF ?_ NB716_742.out _; (with_reducible repeat first | apply bN | apply bd | apply ba); refine bF ?_ NB716_742.out _; (with_reducible repeat first | apply bN | apply bd | apply ba); refine bF ?_ NB716_742.out _; (with_reducible repeat first | apply bN | apply bd | apply ba); refine bF ?_ NB716_742.out _; (with_reducible repeat first | apply bN | apply bd | apply ba); exact BK716.out⟩, ⟨by (with_reducible repeat first | apply bN | apply bd | apply ba); refine bF ?_ NB717_742.out _; (with_reducible repeat first | apply bN | apply bd | apply ba); refine bF ?_ NB717_742.out _; (with_reducible repeat first | apply bN | apply bd | apply ba); refine bF ?_ NB717_742.out _; (with_reducible repeat first | apply bN | apply bd | apply ba); refine bF ?_ NB717_742.out _; (with_reducible repeat first | apply bN | apply bd | apply ba); refine bF ?_ NB717_742.out _; (with_reducible repeat first | apply bN | apply bd | apply ba); refine bF ?_ NB717_742.out _; (with_reducible repeat first | apply bN | apply bd | apply ba); exact BK717.out⟩, ⟨by (with_reducible repeat first | apply bN | apply bd | apply ba); refine bF ?_ NB730_742.out _; (with_reducible repeat first | apply bN | apply bd | apply ba); refine bF ?_ NB730_742.out _; (with_reducible repeat first | apply bN | apply bd | apply ba); refine bF ?_ NB730_742.out _; (with_reducible repeat first | apply bN | apply bd | apply ba); refine bF ?_ NB730_742.out _; (with_reducible repeat first | apply bN | apply bd | apply ba); refine bF ?_ NB730_742.out _; (with_reducible repeat first | apply bN | apply bd | apply ba); refine bF ?_ NB730_742.out _; (with_reducible repeat first | apply bN | apply bd | apply ba); exact BK730.out⟩, ⟨by (with_reducible repeat first | apply bN | apply bd | apply ba); refine bp (cs := #[.int .i64 t735, .int .i64 t736, .int .i64 t737, .int .i64 t738, .int .i64 t739, .int .i64 0]) ?_ 5 _ rfl; (with_reducible repeat first | apply bN | apply bd | apply ba); refine bp (cs := #[.int .i64 t735, .int .i64 t736, .int .i64 t737, .int .i64 t738, .int .i64 0, .int .i64 0]) ?_ 4 _ rfl; (with_reducible repeat first | apply bN | apply bd | apply ba); refine bp (cs := #[.int .i64 t735, .int .i64 t736, .int .i64 t737, .int .i64 0, .int .i64 0, .int .i64 0]) ?_ 3 _ rfl; (with_reducible repeat first | apply bN | apply bd | apply ba); refine bp (cs := #[.int .i64 t735, .int .i64 t736, .int .i64 0, .int .i64 0, .int .i64 0, .int .i64 0]) ?_ 2 _ rfl; (with_reducible repeat first | apply bN | apply bd | apply ba); refine bp (cs := #[.int .i64 t735, .int .i64 0, .int .i64 0, .int .i64 0, .int .i64 0, .int .i64 0]) ?_ 1 _ rfl; (with_reducible repeat first | apply bN | apply bd | apply ba); refine bp (cs := #[.int .i64 0, .int .i64 0, .int .i64 0, .int .i64 0, .int .i64 0, .int .i64 0]) ?_ 0 _ rfl; (with_reducible repeat first | apply bN | apply bd | apply ba); exact BK742.out⟩, ⟨by repeat (first | (with_reducible first | exact HB.out | apply wa | apply wN | apply wd | refine ws ?_ GE715.out | refine ws ?_ GE716.out | refine ws ?_ GE717.out | refine ws ?_ GE730.out | refine ws ?_ GE742.out) | exact HB.out)⟩⟩
       rw [if_pos c104] at H
       have c104b0 : (x11_2 == 1) = true := beq_iff_eq.mpr c104
       have c104b1 : (x11_2 != 1) = false := bne_eq_false_iff_eq.mpr c104
       clear c104
       replace H := Option.bind_eq_some_iff.mp H
       obtain ⟨t745, A1050, H⟩ := H
       replace H : (if ((t741 == 0) != t745) = true then (w_BoxPoints.j2 k2 true false true a2_0 a2_1 a2_2 t723 t724 t725 t726 t727 t728) else (if t741 = 0 then ((box_Has.f k2 t735 t736 t737 t738 t739 t740 a2_0 a2_1 a2_2).bind fun t746 => (w_BoxPoints.j2 k2 true false (t746 != false) a2_0 a2_1 a2_2 t723 t724 t725 t726 t727 t728)) else (w_BoxPoints.j2 k2 true false false a2_0 a2_1 a2_2 t723 t724 t725 t726 t727 t728))) = some r := H
       have A105 := am A1050
       clear A1050
       by_cases c106 : ((t741 == 0) != t745) = true
       ·rw [if_pos c106] at H
        have c106b0 : ((t741 == 0) != t745) = true := c106
        (try (have c106b1 : decide ((t741 == 0) = t745) = false := by simpa using c106))
        (try (have c106b2 : ((t741 == 0) == t745) = false := by simpa using c106))
        (try (have c106b3 : ¬ ((t741 == 0) = t745) := by simpa using c106))
        clear c106
        have H' := am H
        clear H
        have hnb107 := NB715_716.out
        have hnc107 := NB716_715.out
        have hnb108 := NB715_717.out
        have hnc108 := NB717_715.out
        have hnb109 := NB715_730.out
        have hnc109 := NB730_715.out
        have hnb110 := NB715_742.out
        have hnc110 := NB742_715.out
        have := yC1 BK715
        have hcz111_1 := kC1 BK715
        have hcz111_2 := kC2 BK715
        have hcz111_3 := kC3 BK715
        have hcz111_4 := kC4 BK715
        have hcz111_5 := kC5 BK715
        have hfz111_0 := bf BK715.out 0
        have hfz111_1 := bf BK715.out 1
        have hfz111_2 := bf BK715.out 2
        have hfz111_3 := bf BK715.out 3
        have hfz111_4 := bf BK715.out 4
        have hfz111_5 := bf BK715.out 5
        have hnb112 := NB716_717.out
        have hnc112 := NB717_716.out
        have hnb113 := NB716_730.out
        have hnc113 := NB730_716.out
        have hnb114 := NB716_742.out
        have hnc114 := NB742_716.out
        have := yC1 BK716
        have hcz115_1 := kC1 BK716
        have hcz115_2 := kC2 BK716
        have hcz115_3 := kC3 BK716
        have hcz115_4 := kC4 BK716
        have hcz115_5 := kC5 BK716
        have hfz115_0 := bf BK716.out 0
        have hfz115_1 := bf BK716.out 1
        have hfz115_2 := bf BK716.out 2
        have hfz115_3 := bf BK716.out 3
        have hfz115_4 := bf BK716.out 4
        have hfz115_5 := bf BK716.out 5
        go_wp2_with (first | (go_at_call 17; (with_reducible refine (box_Overlap.calls a0_0 a0_1 a0_2 a0_3 a0_4 a0_5 a1_0 a1_1 a1_2 a1_3 a1_4 a1_5 t745 _ A105.out).mono ?_); rintro e w116 ⟨rfl, hb⟩; replace HO_7 := am (Kd.R_below (by (with_reducible repeat (first | apply Kd.R_alloc | apply Kd.R_drewN | apply Kd.R_drew)); exact (Kd.R_mono (Kd.R_far (p := ⟨gb742, 5, none⟩) (Kd.R_far (p := ⟨gb742, 4, none⟩) (Kd.R_far (p := ⟨gb742, 3, none⟩) (Kd.R_far (p := ⟨gb742, 2, none⟩) (Kd.R_far (p := ⟨gb742, 1, none⟩) (Kd.R_far (p := ⟨gb742, 0, none⟩) (Kd.R_mono HO_7.out (fun k_ hk => (⟨hk, hk.2⟩ : _ ∧ k_ ≠ gb742))) (fun _ hk => hk.2) (.int .i64 t735)) (fun _ hk => hk.2) (.int .i64 t736)) (fun _ hk => hk.2) (.int .i64 t737)) (fun _ hk => hk.2) (.int .i64 t738)) (fun _ hk => hk.2) (.int .i64 t739)) (fun _ hk => hk.2) (.int .i64 t740)) (fun _ h_ => h_.1))) hb); replace BK715 := xC1 (kfC BK715.out) hb; replace BK716 := xC1 (kfC BK716.out) hb; replace BK717 := xC1 (kfC BK717.out) hb; replace BK730 := xC1 (kfC BK730.out) hb; replace BK742 := xC1 (o := .cells #[.int .i64 t735, .int .i64 t736, .int .i64 t737, .int .i64 t738, .int .i64 t739, .int .i64 t740] 25 (0, 0)) (kkC BK742.out) hb; replace HB := bS HB hb; (try clear hb); (try clear hb2); (try clear hk); (try clear hi)))
        go_meet
        case rel => exact ⟨_, (true), (by first | rfl | (simp; done) | (simp [*]; done)), H', ⟨by have := HJ7.out; have := HK2.out; first | omega | exact Nat.le_refl _⟩, ⟨by (with_reducible repeat first | apply bN | apply bd | apply ba); exact BK715.out⟩, ⟨by (with_reducible repeat first | apply bN | apply bd | apply ba); exact BK716.out⟩, ⟨by (with_reducible repeat first | apply bN | apply bd | apply ba); exact BK717.out⟩, ⟨by (with_reducible repeat first | apply bN | apply bd | apply ba); exact BK730.out⟩, ⟨by (with_reducible repeat first | apply bN | apply bd | apply ba); exact BK742.out⟩, ⟨by repeat (first | (with_reducible first | exact HB.out | apply wa | apply wN | apply wd | refine ws ?_ GE715.out | refine ws ?_ GE716.out | refine ws ?_ GE717.out | refine ws ?_ GE730.out | refine ws ?_ GE742.out) | exact HB.out)⟩⟩
       rw [if_neg c106] at H
       have c106b0 : ((t741 == 0) != t745) = false := by simpa using c106
       (try (have c106b1 : decide ((t741 == 0) = t745) = true := by simpa using c106))
       (try (have c106b2 : ((t741 == 0) == t745) = true := by simpa using c106))
       clear c106
       by_cases c117 : t741 = 0
       ·rw [if_pos c117] at H
        have c117b0 : (t741 == 0) = true := beq_iff_eq.mpr c117
        (try (have h9_ : ((t741 == 0) == t743) = true := (by assumption); rw [c117b0] at h9_; have c117vt743 : t743 = true := (by simpa using h9_); clear h9_))
        (try (have h9_ : ((t741 == 0) == t745) = true := (by assumption); rw [c117b0] at h9_; have c117vt745 : t745 = true := (by simpa using h9_); clear h9_))
        (try (have h9_ : ((t741 == 0) == t747) = true := (by assumption); rw [c117b0] at h9_; have c117vt747 : t747 = true := (by simpa using h9_); clear h9_))
        have c117b1 : (t741 != 0) = false := bne_eq_false_iff_eq.mpr c117
        clear c117
        replace H := Option.bind_eq_some_iff.mp H
        obtain ⟨t746, A1180, H⟩ := H
        replace H : (w_BoxPoints.j2 k2 true false (t746 != false) a2_0 a2_1 a2_2 t723 t724 t725 t726 t727 t728) = some r := H
        have A118 := am A1180
        clear A1180
        have H' := am H
        clear H
        have hnb119 := NB715_716.out
        have hnc119 := NB716_715.out
        have hnb120 := NB715_717.out
        have hnc120 := NB717_715.out
        have hnb121 := NB715_730.out
        have hnc121 := NB730_715.out
        have hnb122 := NB715_742.out
        have hnc122 := NB742_715.out
        have := yC1 BK715
        have hcz123_1 := kC1 BK715
        have hcz123_2 := kC2 BK715
        have hcz123_3 := kC3 BK715
        have hcz123_4 := kC4 BK715
        have hcz123_5 := kC5 BK715
        have hfz123_0 := bf BK715.out 0
        have hfz123_1 := bf BK715.out 1
        have hfz123_2 := bf BK715.out 2
        have hfz123_3 := bf BK715.out 3
        have hfz123_4 := bf BK715.out 4
        have hfz123_5 := bf BK715.out 5
        have hnb124 := NB716_717.out
        have hnc124 := NB717_716.out
        have hnb125 := NB716_730.out
        have hnc125 := NB730_716.out
        have hnb126 := NB716_742.out
        have hnc126 := NB742_716.out
        have := yC1 BK716
        have hcz127_1 := kC1 BK716
        have hcz127_2 := kC2 BK716
        have hcz127_3 := kC3 BK716
        have hcz127_4 := kC4 BK716
        have hcz127_5 := kC5 BK716
        have hfz127_0 := bf BK716.out 0
        have hfz127_1 := bf BK716.out 1
        have hfz127_2 := bf BK716.out 2
        have hfz127_3 := bf BK716.out 3
        have hfz127_4 := bf BK716.out 4
        have hfz127_5 := bf BK716.out 5
        go_wp2_with (first | (go_at_call 17; (with_reducible refine (box_Overlap.calls a0_0 a0_1 a0_2 a0_3 a0_4 a0_5 a1_0 a1_1 a1_2 a1_3 a1_4 a1_5 t745 _ A105.out).mono ?_); rintro e w128 ⟨rfl, hb⟩; replace HO_7 := am (Kd.R_below (by (with_reducible repeat (first | apply Kd.R_alloc | apply Kd.R_drewN | apply Kd.R_drew)); exact (Kd.R_mono (Kd.R_far (p := ⟨gb742, 5, none⟩) (Kd.R_far (p := ⟨gb742, 4, none⟩) (Kd.R_far (p := ⟨gb742, 3, none⟩) (Kd.R_far (p := ⟨gb742, 2, none⟩) (Kd.R_far (p := ⟨gb742, 1, none⟩) (Kd.R_far (p := ⟨gb742, 0, none⟩) (Kd.R_mono HO_7.out (fun k_ hk => (⟨hk, hk.2⟩ : _ ∧ k_ ≠ gb742))) (fun _ hk => hk.2) (.int .i64 t735)) (fun _ hk => hk.2) (.int .i64 t736)) (fun _ hk => hk.2) (.int .i64 t737)) (fun _ hk => hk.2) (.int .i64 t738)) (fun _ hk => hk.2) (.int .i64 t739)) (fun _ hk => hk.2) (.int .i64 t740)) (fun _ h_ => h_.1))) hb); replace BK715 := xC1 (kfC BK715.out) hb; replace BK716 := xC1 (kfC BK716.out) hb; replace BK717 := xC1 (kfC BK717.out) hb; replace BK730 := xC1 (kfC BK730.out) hb; replace BK742 := xC1 (o := .cells #[.int .i64 t735, .int .i64 t736, .int .i64 t737, .int .i64 t738, .int .i64 t739, .int .i64 t740] 25 (0, 0)) (kkC BK742.out) hb; replace HB := bS HB hb; (try clear hb); (try clear hb2); (try clear hk); (try clear hi); have hnb129 := NB742_717.out; have hnc129 := NB717_742.out; have hnb130 := NB742_730.out; have hnc130 := NB730_742.out; obtain ⟨_, _, _, _, _, _, _, _, _, _, _, _⟩ := zC6 BK742; have hnb132 := NB717_730.out; have hnc132 := NB730_717.out; obtain ⟨_, _, _, _, _, _⟩ := zC3 BK717) | (go_at_call 14; (with_reducible refine (box_Has.calls k2 t735 t736 t737 t738 t739 t740 a2_0 a2_1 a2_2 t746 _ A118.out).mono ?_); rintro e w134 ⟨rfl, hb⟩; replace HO_7 := dR HO_7 hb; replace BK715 := bB BK715 hb; replace BK716 := bB BK716 hb; replace BK717 := bB BK717 hb; replace BK730 := bB BK730 hb; replace BK742 := bB BK742 hb; replace HB := bS HB hb; (try clear hb); (try clear hb2); (try clear hk); (try clear hi)))
        go_meet
        case rel => exact ⟨_, ((t746 != false)), (by first | rfl | (simp; done) | (simp [*]; done)), H', ⟨by have := HJ7.out; have := HK2.out; first | omega | exact Nat.le_refl _⟩, ⟨by (with_reducible repeat first | apply bN | apply bd | apply ba); exact BK715.out⟩, ⟨by (with_reducible repeat first | apply bN | apply bd | apply ba); exact BK716.out⟩, ⟨by (with_reducible repeat first | apply bN | apply bd | apply ba); exact BK717.out⟩, ⟨by (with_reducible repeat first | apply bN | apply bd | apply ba); exact BK730.out⟩, ⟨by (with_reducible repeat first | apply bN | apply bd | apply ba); exact BK742.out⟩, ⟨by repeat (first | (with_reducible first | exact HB.out | apply wa | apply wN | apply wd | refine ws ?_ GE715.out | refine ws ?_ GE716.out | refine ws ?_ GE717.out | refine ws ?_ GE730.out | refine ws ?_ GE742.out) | exact HB.out)⟩⟩
       rw [if_neg c117] at H
       have c117b0 : (t741 == 0) = false := beq_eq_false_iff_ne.mpr c117
       (try (have h9_ : ((t741 == 0) == t743) = true := (by assumption); rw [c117b0] at h9_; have c117vt743 : t743 = false := (by simpa using h9_); clear h9_))
       (try (have h9_ : ((t741 == 0) == t745) = true := (by assumption); rw [c117b0] at h9_; have c117vt745 : t745 = false := (by simpa using h9_); clear h9_))
       (try (have h9_ : ((t741 == 0) == t747) = true := (by assumption); rw [c117b0] at h9_; have c117vt747 : t747 = false := (by simpa using h9_); clear h9_))
       have c117b1 : (t741 != 0) = true := bne_iff_ne.mpr c117
       have H' := am H
       clear H
       have hnb135 := NB715_716.out
       have hnc135 := NB716_715.out
       have hnb136 := NB715_717.out
       have hnc136 := NB717_715.out
       have hnb137 := NB715_730.out
       have hnc137 := NB730_715.out
       have hnb138 := NB715_742.out
       have hnc138 := NB742_715.out
       have := yC1 BK715
       have hcz139_1 := kC1 BK715
       have hcz139_2 := kC2 BK715
       have hcz139_3 := kC3 BK715
       have hcz139_4 := kC4 BK715
       have hcz139_5 := kC5 BK715
       have hfz139_0 := bf BK715.out 0
       have hfz139_1 := bf BK715.out 1
       have hfz139_2 := bf BK715.out 2
       have hfz139_3 := bf BK715.out 3
       have hfz139_4 := bf BK715.out 4
       have hfz139_5 := bf BK715.out 5
       have hnb140 := NB716_717.out
       have hnc140 := NB717_716.out
       have hnb141 := NB716_730.out
       have hnc141 := NB730_716.out
       have hnb142 := NB716_742.out
       have hnc142 := NB742_716.out
       have := yC1 BK716
       have hcz143_1 := kC1 BK716
       have hcz143_2 := kC2 BK716
       have hcz143_3 := kC3 BK716
       have hcz143_4 := kC4 BK716
       have hcz143_5 := kC5 BK716
       have hfz143_0 := bf BK716.out 0
       have hfz143_1 := bf BK716.out 1
       have hfz143_2 := bf BK716.out 2
       have hfz143_3 := bf BK716.out 3
       have hfz143_4 := bf BK716.out 4
       have hfz143_5 := bf BK716.out 5
       go_wp2_with (first | (go_at_call 17; (with_reducible refine (box_Overlap.calls a0_0 a0_1 a0_2 a0_3 a0_4 a0_5 a1_0 a1_1 a1_2 a1_3 a1_4 a1_5 t745 _ A105.out).mono ?_); rintro e w144 ⟨rfl, hb⟩; replace HO_7 := am (Kd.R_below (by (with_reducible repeat (first | apply Kd.R_alloc | apply Kd.R_drewN | apply Kd.R_drew)); exact (Kd.R_mono (Kd.R_far (p := ⟨gb742, 5, none⟩) (Kd.R_far (p := ⟨gb742, 4, none⟩) (Kd.R_far (p := ⟨gb742, 3, none⟩) (Kd.R_far (p := ⟨gb742, 2, none⟩) (Kd.R_far (p := ⟨gb742, 1, none⟩) (Kd.R_far (p := ⟨gb742, 0, none⟩) (Kd.R_mono HO_7.out (fun k_ hk => (⟨hk, hk.2⟩ : _ ∧ k_ ≠ gb742))) (fun _ hk => hk.2) (.int .i64 t735)) (fun _ hk => hk.2) (.int .i64 t736)) (fun _ hk => hk.2) (.int .i64 t737)) (fun _ hk => hk.2) (.int .i64 t738)) (fun _ hk => hk.2) (.int .i64 t739)) (fun _ hk => hk.2) (.int .i64 t740)) (fun _ h_ => h_.1))) hb); replace BK715 := xC1 (kfC BK715.out) hb; replace BK716 := xC1 (kfC BK716.out) hb; replace BK717 := xC1 (kfC BK717.out) hb; replace BK730 := xC1 (kfC BK730.out) hb; replace BK742 := xC1 (o := .cells #[.int .i64 t735, .int .i64 t736, .int .i64 t737, .int .i64 t738, .int .i64 t739, .int .i64 t740] 25 (0, 0)) (kkC BK742.out) hb; replace HB := bS HB hb; (try clear hb); (try clear hb2); (try clear hk); (try clear hi)))
       go_meet
       case rel => exact ⟨_, (false), (by first | rfl | (simp; done) | (simp [*]; done)), H', ⟨by have := HJ7.out; have := HK2.out; first | omega | exact Nat.le_refl _⟩, ⟨by (with_reducible repeat first | apply bN | apply bd | apply ba); exact BK715.out⟩, ⟨by (with_reducible repeat first | apply bN | apply bd | apply ba); exact BK716.out⟩, ⟨by (with_reducible repeat first | apply bN | apply bd | apply ba); exact BK717.out⟩, ⟨by (with_reducible repeat first | apply bN | apply bd | apply ba); exact BK730.out⟩, ⟨by (with_reducible repeat first | apply bN | apply bd | apply ba); exact BK742.out⟩, ⟨by repeat (first | (with_reducible first | exact HB.out | apply wa | apply wN | apply wd | refine ws ?_ GE715.out | refine ws ?_ GE716.out | refine ws ?_ GE717.out | refine ws ?_ GE730.out | refine ws ?_ GE742.out) | exact HB.out)⟩⟩
      case rest =>
       clear HC42
       try clear c1;try clear c2;try clear p2;try clear c4;try clear c5;try clear c6;try clear c7;try clear c8;try clear c9;try clear c10;try clear c11;try clear c12;try clear c13;try clear c14;try clear c15;try clear c16;try clear c17;try clear c18;try clear c25;try clear c47;try clear c48;try clear c49;try clear c51;try clear c52;try clear c56;try clear c57;try clear c58;try clear c59;try clear c61;try clear c62;try clear c63;try clear c63b0;try clear c63b1;try clear c65;try clear c65b0;try clear c65b1;try clear c65b2;try clear c66;try clear c67;try clear c68;try clear c69;try clear c71;try clear c72;try clear c73;try clear c76;try clear c76b0;try clear c76b1;try clear c78;try clear c79;try clear c80;try clear c81;try clear c83;try clear c84;try clear c85;try clear c88;try clear c89;try clear c91;try clear c94;try clear c95;try clear c96;try clear c97;try clear c99;try clear c100;try clear c101;try clear c104;try clear c104b0;try clear c104b1;try clear c106;try clear c106b0;try clear c106b1;try clear c106b2;try clear c107;try clear c108;try clear c109;try clear c110;try clear c112;try clear c113;try clear c114;try clear c117;try clear c117b0;try clear c117b1;try clear c119;try clear c120;try clear c121;try clear c122;try clear c124;try clear c125;try clear c126;try clear c129;try clear c130;try clear c132;try clear c135;try clear c136;try clear c137;try clear c138;try clear c140;try clear c141;try clear c142;try clear c145;try clear c145b0;try clear c145b1;try clear c147;try clear c147b0;try clear c147b1;try clear c147b2;try clear c148;try clear c149;try clear c150;try clear c151;try clear c153;try clear c154;try clear c155;try clear c158;try clear c158b0;try clear c158b1;try clear c160;try clear c161;try clear c162;try clear c163;try clear c165;try clear c166;try clear c167;try clear c170;try clear c171;try clear c173;try clear c176;try clear c177;try clear c178;try clear c179;try clear c181;try clear c182;try clear c183;try clear hcz102_0;try clear hcz102_1;try clear hcz102_2;try clear hcz102_3;try clear hcz102_4;try clear hcz102_5;try clear hcz111_0;try clear hcz111_1;try clear hcz111_2;try clear hcz111_3;try clear hcz111_4;try clear hcz111_5;try clear hcz115_0;try clear hcz115_1;try clear hcz115_2;try clear hcz115_3;try clear hcz115_4;try clear hcz115_5;try clear hcz123_0;try clear hcz123_1;try clear hcz123_2;try clear hcz123_3;try clear hcz123_4;try clear hcz123_5;try clear hcz127_0;try clear hcz127_1;try clear hcz127_2;try clear hcz127_3;try clear hcz127_4;try clear hcz127_5;try clear hcz131_0;try clear hcz131_1;try clear hcz131_2;try clear hcz131_3;try clear hcz131_4;try clear hcz131_5;try clear hcz133_0;try clear hcz133_1;try clear hcz133_2;try clear hcz139_0;try clear hcz139_1;try clear hcz139_2;try clear hcz139_3;try clear hcz139_4;try clear hcz139_5;try clear hcz143_0;try clear hcz143_1;try clear hcz143_2;try clear hcz143_3;try clear hcz143_4;try clear hcz143_5;try clear hcz152_0;try clear hcz152_1;try clear hcz152_2;try clear hcz152_3;try clear hcz152_4;try clear hcz152_5;try clear hcz156_0;try clear hcz156_1;try clear hcz156_2;try clear hcz156_3;try clear hcz156_4;try clear hcz156_5;try clear hcz164_0;try clear hcz164_1;try clear hcz164_2;try clear hcz164_3;try clear hcz164_4;try clear hcz164_5;try clear hcz168_0;try clear hcz168_1;try clear hcz168_2;try clear hcz168_3;try clear hcz168_4;try clear hcz168_5;try clear hcz172_0;try clear hcz172_1;try clear hcz172_2;try clear hcz172_3;try clear hcz172_4;try clear hcz172_5;try clear hcz174_0;try clear hcz174_1;try clear hcz174_2;try clear hcz180_0;try clear hcz180_1;try clear hcz180_2;try clear hcz180_3;try clear hcz180_4;try clear hcz180_5;try clear hcz184_0;try clear hcz184_1;try clear hcz184_2;try clear hcz184_3;try clear hcz184_4;try clear hcz184_5;try clear hcz50_0;try clear hcz50_1;try clear hcz50_2;try clear hcz50_3;try clear hcz50_4;try clear hcz50_5;try clear hcz53_0;try clear hcz53_1;try clear hcz53_2;try clear hcz53_3;try clear hcz53_4;try clear hcz53_5;try clear hcz60_0;try clear hcz60_1;try clear hcz60_2;try clear hcz60_3;try clear hcz60_4;try clear hcz60_5;try clear hcz70_0;try clear hcz70_1;try clear hcz70_2;try clear hcz70_3;try clear hcz70_4;try clear hcz70_5;try clear hcz74_0;try clear hcz74_1;try clear hcz74_2;try clear hcz74_3;try clear hcz74_4;try clear hcz74_5;try clear hcz82_0;try clear hcz82_1;try clear hcz82_2;try clear hcz82_3;try clear hcz82_4;try clear hcz82_5;try clear hcz86_0;try clear hcz86_1;try clear hcz86_2;try clear hcz86_3;try clear hcz86_4;try clear hcz86_5;try clear hcz90_0;try clear hcz90_1;try clear hcz90_2;try clear hcz90_3;try clear hcz90_4;try clear hcz90_5;try clear hcz92_0;try clear hcz92_1;try clear hcz92_2;try clear hcz98_0;try clear hcz98_1;try clear hcz98_2;try clear hcz98_3;try clear hcz98_4;try clear hcz98_5;try clear hfz102_0;try clear hfz102_1;try clear hfz102_2;try clear hfz102_3;try clear hfz102_4;try clear hfz102_5;try clear hfz111_0;try clear hfz111_1;try clear hfz111_2;try clear hfz111_3;try clear hfz111_4;try clear hfz111_5;try clear hfz115_0;try clear hfz115_1;try clear hfz115_2;try clear hfz115_3;try clear hfz115_4;try clear hfz115_5;try clear hfz123_0;try clear hfz123_1;try clear hfz123_2;try clear hfz123_3;try clear hfz123_4;try clear hfz123_5;try clear hfz127_0;try clear hfz127_1;try clear hfz127_2;try clear hfz127_3;try clear hfz127_4;try clear hfz127_5;try clear hfz131_0;try clear hfz131_1;try clear hfz131_2;try clear hfz131_3;try clear hfz131_4;try clear hfz131_5;try clear hfz133_0;try clear hfz133_1;try clear hfz133_2;try clear hfz139_0;try clear hfz139_1;try clear hfz139_2;try clear hfz139_3;try clear hfz139_4;try clear hfz139_5;try clear hfz143_0;try clear hfz143_1;try clear hfz143_2;try clear hfz143_3;try clear hfz143_4;try clear hfz143_5;try clear hfz152_0;try clear hfz152_1;try clear hfz152_2;try clear hfz152_3;try clear hfz152_4;try clear hfz152_5;try clear hfz156_0;try clear hfz156_1;try clear hfz156_2;try clear hfz156_3;try clear hfz156_4;try clear hfz156_5;try clear hfz164_0;try clear hfz164_1;try clear hfz164_2;try clear hfz164_3;try clear hfz164_4;try clear hfz164_5;try clear hfz168_0;try clear hfz168_1;try clear hfz168_2;try clear hfz168_3;try clear hfz168_4;try clear hfz168_5;try clear hfz172_0;try clear hfz172_1;try clear hfz172_2;try clear hfz172_3;try clear hfz172_4;try clear hfz172_5;try clear hfz174_0;try clear hfz174_1;try clear hfz174_2;try clear hfz180_0;try clear hfz180_1;try clear hfz180_2;try clear hfz180_3;try clear hfz180_4;try clear hfz180_5;try clear hfz184_0;try clear hfz184_1;try clear hfz184_2;try clear hfz184_3;try clear hfz184_4;try clear hfz184_5;try clear hfz50_0;try clear hfz50_1;try clear hfz50_2;try clear hfz50_3;try clear hfz50_4;try clear hfz50_5;try clear hfz53_0;try clear hfz53_1;try clear hfz53_2;try clear hfz53_3;try clear hfz53_4;try clear hfz53_5;try clear hfz60_0;try clear hfz60_1;try clear hfz60_2;try clear hfz60_3;try clear hfz60_4;try clear hfz60_5;try clear hfz70_0;try clear hfz70_1;try clear hfz70_2;try clear hfz70_3;try clear hfz70_4;try clear hfz70_5;try clear hfz74_0;try clear hfz74_1;try clear hfz74_2;try clear hfz74_3;try clear hfz74_4;try clear hfz74_5;try clear hfz82_0;try clear hfz82_1;try clear hfz82_2;try clear hfz82_3;try clear hfz82_4;try clear hfz82_5;try clear hfz86_0;try clear hfz86_1;try clear hfz86_2;try clear hfz86_3;try clear hfz86_4;try clear hfz86_5;try clear hfz90_0;try clear hfz90_1;try clear hfz90_2;try clear hfz90_3;try clear hfz90_4;try clear hfz90_5;try clear hfz92_0;try clear hfz92_1;try clear hfz92_2;try clear hfz98_0;try clear hfz98_1;try clear hfz98_2;try clear hfz98_3;try clear hfz98_4;try clear hfz98_5
       obtain ⟨kq, x107_41, rfl, HA, HJ41, BK715, BK716, BK717, BK730, BK742, HB⟩ := hcut
       cases kq with
       | zero => exact absurd HA.out (by simp [w_BoxPoints.j2])
       | succ kj41 =>
        have H := HA.out
        clear HA
        simp only [w_BoxPoints.j2] at H
        by_cases c186 : x107_41 = true
        ·subst c186
         have H1 : (some false) = some r := by rw [if_pos rfl] at H; exact H
         clear H
         have H := H1
         clear H1
         obtain rfl := Option.some.inj H
         go_wp2
         go_ret
         exact ⟨by first | rfl | (simp [errW_none, errW_some] <;> rfl) | (simp [*, errW_none, errW_some] <;> rfl), by repeat (first | (with_reducible first | exact HB.out | apply wa | apply wN | apply wd | refine ws ?_ GE715.out | refine ws ?_ GE716.out | refine ws ?_ GE717.out | refine ws ?_ GE730.out | refine ws ?_ GE742.out) | exact HB.out)⟩
        replace c186 := Bool.eq_false_iff.mpr c186
        subst c186
        have H1 : (if t733 = true then ((box_Has.f kj41 t723 t724 t725 t726 t727 t728 a2_0 a2_1 a2_2).bind fun t749 => (some t749)) else (if t734 = true then ((box_Has.f kj41 t723 t724 t725 t726 t727 t728 a2_0 a2_1 a2_2).bind fun t750 => (some t750)) else (some true))) = some r := by rw [if_neg (show ¬ (false = true) by decide)] at H; exact H
        clear H
        have H := H1
        clear H1
        by_cases c187 : t733 = true
        ·subst c187
         have H1 : ((box_Has.f kj41 t723 t724 t725 t726 t727 t728 a2_0 a2_1 a2_2).bind fun t749 => (some t749)) = some r := by rw [if_pos rfl] at H; exact H
         clear H
         have H := H1
         clear H1
         replace H := Option.bind_eq_some_iff.mp H
         obtain ⟨t749, A1880, H⟩ := H
         replace H : (some t749) = some r := H
         have A188 := am A1880
         clear A1880
         obtain rfl := Option.some.inj H
         have hnb189 := NB730_715.out
         have hnc189 := NB715_730.out
         have hnb190 := NB730_716.out
         have hnc190 := NB716_730.out
         have hnb191 := NB730_717.out
         have hnc191 := NB717_730.out
         have hnb192 := NB730_742.out
         have hnc192 := NB742_730.out
         have := yC1 BK730
         have hcz193_1 := kC1 BK730
         have hcz193_2 := kC2 BK730
         have hcz193_3 := kC3 BK730
         have hcz193_4 := kC4 BK730
         have hcz193_5 := kC5 BK730
         have hfz193_0 := bf BK730.out 0
         have hfz193_1 := bf BK730.out 1
         have hfz193_2 := bf BK730.out 2
         have hfz193_3 := bf BK730.out 3
         have hfz193_4 := bf BK730.out 4
         have hfz193_5 := bf BK730.out 5
         have hnb194 := NB717_715.out
         have hnc194 := NB715_717.out
         have hnb195 := NB717_716.out
         have hnc195 := NB716_717.out
         have hnb196 := NB717_742.out
         have hnc196 := NB742_717.out
         have := yC1 BK717
         have hcz197_1 := kC1 BK717
         have hcz197_2 := kC2 BK717
         have hfz197_0 := bf BK717.out 0
         have hfz197_1 := bf BK717.out 1
         have hfz197_2 := bf BK717.out 2
         go_wp2_with (first | (go_at_call 14; (with_reducible refine (box_Has.calls kj41 t723 t724 t725 t726 t727 t728 a2_0 a2_1 a2_2 t749 _ A188.out).mono ?_); rintro e w198 ⟨rfl, hb⟩; replace BK715 := bB BK715 hb; replace BK716 := bB BK716 hb; replace BK717 := bB BK717 hb; replace BK730 := bB BK730 hb; replace BK742 := bB BK742 hb; replace HB := bS HB hb; (try clear hb); (try clear hb2); (try clear hk); (try clear hi)))
         go_ret
         exact ⟨by first | rfl | (simp [errW_none, errW_some] <;> rfl) | (simp [*, errW_none, errW_some] <;> rfl), by repeat (first | (with_reducible first | exact HB.out | apply wa | apply wN | apply wd | refine ws ?_ GE715.out | refine ws ?_ GE716.out | refine ws ?_ GE717.out | refine ws ?_ GE730.out | refine ws ?_ GE742.out) | exact HB.out)⟩
        replace c187 := Bool.eq_false_iff.mpr c187
        subst c187
        have H1 : (if t734 = true then ((box_Has.f kj41 t723 t724 t725 t726 t727 t728 a2_0 a2_1 a2_2).bind fun t750 => (some t750)) else (some true)) = some r := by rw [if_neg (show ¬ (false = true) by decide)] at H; exact H
        clear H
        have H := H1
        clear H1
        by_cases c199 : t734 = true
        rotate_left
        ·replace c199 := Bool.eq_false_iff.mpr c199
         subst c199
         have H1 : (some true) = some r := by rw [if_neg (show ¬ (false = true) by decide)] at H; exact H
         clear H
         have H := H1
         clear H1
         obtain rfl := Option.some.inj H
         go_wp2
         go_ret
         exact ⟨by first | rfl | (simp [errW_none, errW_some] <;> rfl) | (simp [*, errW_none, errW_some] <;> rfl), by repeat (first | (with_reducible first | exact HB.out | apply wa | apply wN | apply wd | refine ws ?_ GE715.out | refine ws ?_ GE716.out | refine ws ?_ GE717.out | refine ws ?_ GE730.out | refine ws ?_ GE742.out) | exact HB.out)⟩
        subst c199
        have H1 : ((box_Has.f kj41 t723 t724 t725 t726 t727 t728 a2_0 a2_1 a2_2).bind fun t750 => (some t750)) = some r := by rw [if_pos rfl] at H; exact H
        clear H
        have H := H1
        clear H1
        replace H := Option.bind_eq_some_iff.mp H
        obtain ⟨t750, A2000, H⟩ := H
        replace H : (some t750) = some r := H
        have A200 := am A2000
        clear A2000
        obtain rfl := Option.some.inj H
        have hnb201 := NB730_715.out
        have hnc201 := NB715_730.out
        have hnb202 := NB730_716.out
        have hnc202 := NB716_730.out
        have hnb203 := NB730_717.out
        have hnc203 := NB717_730.out
        have hnb204 := NB730_742.out
        have hnc204 := NB742_730.out
        have := yC1 BK730
        have hcz205_1 := kC1 BK730
        have hcz205_2 := kC2 BK730
        have hcz205_3 := kC3 BK730
        have hcz205_4 := kC4 BK730
        have hcz205_5 := kC5 BK730
        have hfz205_0 := bf BK730.out 0
        have hfz205_1 := bf BK730.out 1
        have hfz205_2 := bf BK730.out 2
        have hfz205_3 := bf BK730.out 3
        have hfz205_4 := bf BK730.out 4
        have hfz205_5 := bf BK730.out 5
        have hnb206 := NB717_715.out
        have hnc206 := NB715_717.out
        have hnb207 := NB717_716.out
        have hnc207 := NB716_717.out
        have hnb208 := NB717_742.out
        have hnc208 := NB742_717.out
        have := yC1 BK717
        have hcz209_1 := kC1 BK717
        have hcz209_2 := kC2 BK717
        have hfz209_0 := bf BK717.out 0
        have hfz209_1 := bf BK717.out 1
        have hfz209_2 := bf BK717.out 2
        go_wp2_with (first | (go_at_call 14; (with_reducible refine (box_Has.calls kj41 t723 t724 t725 t726 t727 t728 a2_0 a2_1 a2_2 t750 _ A200.out).mono ?_); rintro e w210 ⟨rfl, hb⟩; replace BK715 := bB BK715 hb; replace BK716 := bB BK716 hb; replace BK717 := bB BK717 hb; replace BK730 := bB BK730 hb; replace BK742 := bB BK742 hb; replace HB := bS HB hb; (try clear hb); (try clear hb2); (try clear hk); (try clear hi)))
        go_ret
        exact ⟨by first | rfl | (simp [errW_none, errW_some] <;> rfl) | (simp [*, errW_none, errW_some] <;> rfl), by repeat (first | (with_reducible first | exact HB.out | apply wa | apply wN | apply wd | refine ws ?_ GE715.out | refine ws ?_ GE716.out | refine ws ?_ GE717.out | refine ws ?_ GE730.out | refine ws ?_ GE742.out) | exact HB.out)⟩
 ·replace c5 := Bool.eq_false_iff.mpr c5
  subst c5
  have H1 : (some false) = some r := by rw [if_neg (show ¬ (false = true) by decide)] at H; exact H
  clear H
  have H := H1
  clear H1
  obtain rfl := Option.some.inj H
  go_enter Try.func9, Try.ntmps9
  go_wp2_with (first | ((with_reducible refine gate_dst (N := 3) rfl ?_); refine box_event ?hg (N := 3) ?hd (cs := #[.int .i64 a0_0, .int .i64 a0_1, .int .i64 a0_2, .int .i64 a0_3, .int .i64 a0_4, .int .i64 a0_5]) (t := 25) ?hr ?_; (case hd | hg => rfl); (case hr => first | (go_simp; done) | (go_simp; rfl)); intro gb715 hg w211 hbox hb; have BK715 := am hbox; have GW715 := sG HB hg; have GE715 := sG HB hg; replace HB := bS HB hb; clear hb hbox hg) | ((with_reducible refine gate_dst (N := 4) rfl ?_); refine box_event ?hg (N := 4) ?hd (cs := #[.int .i64 a1_0, .int .i64 a1_1, .int .i64 a1_2, .int .i64 a1_3, .int .i64 a1_4, .int .i64 a1_5]) (t := 25) ?hr ?_; (case hd | hg => rfl); (case hr => first | (go_simp; done) | (go_simp; rfl)); intro gb716 hg w212 hbox hb; have BK716 := am hbox; have GW716 := sG HB hg; have GE716 := sG HB hg; replace HB := bS HB hb; have NB715_716 := nL BK715 hg; have NB716_715 := nG BK715 hg; replace BK715 := bB BK715 hb; clear hb hbox hg) | ((with_reducible refine gate_dst (N := 5) rfl ?_); refine box_event ?hg (N := 5) ?hd (cs := #[.int .i64 a2_0, .int .i64 a2_1, .int .i64 a2_2]) (t := 23) ?hr ?_; (case hd | hg => rfl); (case hr => first | (go_simp; done) | (go_simp; rfl)); intro gb717 hg w213 hbox hb; have BK717 := am hbox; have GW717 := sG HB hg; have GE717 := sG HB hg; replace HB := bS HB hb; have NB715_717 := nL BK715 hg; have NB717_715 := nG BK715 hg; replace BK715 := bB BK715 hb; have NB716_717 := nL BK716 hg; have NB717_716 := nG BK716 hg; replace BK716 := bB BK716 hb; clear hb hbox hg) | ((with_reducible refine gate_callee (f := 11) rfl ?_); refine goesL_ (some 17) rfl rfl Try.func11 (by kernel_rfl) rfl #[] rfl (by (try simp only [pml]); first | done | rfl | (simp only [pdt]; rfl)) ?_; (with_reducible refine (w_awake.calls  false _ A4.out).mono ?_); rintro e w214 ⟨rfl, hb⟩; refine ⟨_, rfl, ?_⟩; replace BK715 := bB BK715 hb; replace BK716 := bB BK716 hb; replace BK717 := bB BK717 hb; replace HB := bS HB hb; (try clear hb); (try clear hb2); (try clear hk); (try clear hi)))
  go_ret
  exact ⟨by first | rfl | (simp [errW_none, errW_some] <;> rfl) | (simp [*, errW_none, errW_some] <;> rfl), by repeat (first | (with_reducible first | exact HB.out | apply wa | apply wN | apply wd | refine ws ?_ GE715.out | refine ws ?_ GE716.out | refine ws ?_ GE717.out) | exact HB.out)⟩

def w_BoxPoints.Pure : Prop := ∀ (a0_0 : Int) (a0_1 : Int) (a0_2 : Int) (a0_3 : Int) (a0_4 : Int) (a0_5 : Int) (a1_0 : Int) (a1_1 : Int) (a1_2 : Int) (a1_3 : Int) (a1_4 : Int) (a1_5 : Int) (a2_0 : Int) (a2_1 : Int) (a2_2 : Int), ((Lit.int .i64 a0_0).wf = true) → ((Lit.int .i64 a0_1).wf = true) → ((Lit.int .i64 a0_2).wf = true) → ((Lit.int .i64 a0_3).wf = true) → ((Lit.int .i64 a0_4).wf = true) → ((Lit.int .i64 a0_5).wf = true) → ((Lit.int .i64 a1_0).wf = true) → ((Lit.int .i64 a1_1).wf = true) → ((Lit.int .i64 a1_2).wf = true) → ((Lit.int .i64 a1_3).wf = true) → ((Lit.int .i64 a1_4).wf = true) → ((Lit.int .i64 a1_5).wf = true) → ((Lit.int .i64 a2_0).wf = true) → ((Lit.int .i64 a2_1).wf = true) → ((Lit.int .i64 a2_2).wf = true) → ∃ k, w_BoxPoints.f k a0_0 a0_1 a0_2 a0_3 a0_4 a0_5 a1_0 a1_1 a1_2 a1_3 a1_4 a1_5 a2_0 a2_1 a2_2 = some true
theorem w_BoxPoints.walk (P_ : w_BoxPoints.Pure) (a0_0 : Int) (a0_1 : Int) (a0_2 : Int) (a0_3 : Int) (a0_4 : Int) (a0_5 : Int) (a1_0 : Int) (a1_1 : Int) (a1_2 : Int) (a1_3 : Int) (a1_4 : Int) (a1_5 : Int) (a2_0 : Int) (a2_1 : Int) (a2_2 : Int) (w : World) (o0 : ((Lit.int .i64 a0_0).wf = true)) (o1 : ((Lit.int .i64 a0_1).wf = true)) (o2 : ((Lit.int .i64 a0_2).wf = true)) (o3 : ((Lit.int .i64 a0_3).wf = true)) (o4 : ((Lit.int .i64 a0_4).wf = true)) (o5 : ((Lit.int .i64 a0_5).wf = true)) (o6 : ((Lit.int .i64 a1_0).wf = true)) (o7 : ((Lit.int .i64 a1_1).wf = true)) (o8 : ((Lit.int .i64 a1_2).wf = true)) (o9 : ((Lit.int .i64 a1_3).wf = true)) (o10 : ((Lit.int .i64 a1_4).wf = true)) (o11 : ((Lit.int .i64 a1_5).wf = true)) (o12 : ((Lit.int .i64 a2_0).wf = true)) (o13 : ((Lit.int .i64 a2_1).wf = true)) (o14 : ((Lit.int .i64 a2_2).wf = true)) :
  Calls Try.prog 9 #[.agg #[.int .i64 a0_0, .int .i64 a0_1, .int .i64 a0_2, .int .i64 a0_3, .int .i64 a0_4, .int .i64 a0_5], .agg #[.int .i64 a1_0, .int .i64 a1_1, .int .i64 a1_2, .int .i64 a1_3, .int .i64 a1_4, .int .i64 a1_5], .agg #[.int .i64 a2_0, .int .i64 a2_1, .int .i64 a2_2]] w fun e w' => e = .returned (.bool true) ∧ Below w.heap.size w w' := by
 obtain ⟨k, h⟩ := P_ a0_0 a0_1 a0_2 a0_3 a0_4 a0_5 a1_0 a1_1 a1_2 a1_3 a1_4 a1_5 a2_0 a2_1 a2_2 o0 o1 o2 o3 o4 o5 o6 o7 o8 o9 o10 o11 o12 o13 o14
 refine (w_BoxPoints.calls k a0_0 a0_1 a0_2 a0_3 a0_4 a0_5 a1_0 a1_1 a1_2 a1_3 a1_4 a1_5 a2_0 a2_1 a2_2 true w  h).mono ?_
 rintro e w' ⟨rfl, hd⟩
 exact ⟨rfl, hd⟩

end Go.Proofs.Ytmmdikhmlmoolaa.QA
