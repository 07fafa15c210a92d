import Derived.Test.YtcembjgpcbodcaaDPQAx0
import Derived.Test.YtcembjgpcbodcaaDPQAx2
import Derived.Test.YtcembjgpcbodcaaDPQAx3
namespace Go.Proofs.Ytcembjgpcbodcaa.QA
open Go.RowKit Go.Proofs.YtcembjgpcbodcaaW.PrintWords Go.Proofs.YtcembjgpcbodcaaW.PrintLast Go.Proofs.YtcembjgpcbodcaaW.PrintMore
open Go.Proofs.YtcembjgpcbodcaaW.PrintWords renaming blk_drewN → bN, blk_drew → bd, blk_alloc → ba, below_alloc → wa, pw_below_drewN → wN, below_drew1 → wd, below_set → ws, blk_frozen → bf, blk_cell → bc, blk_below → bb, below_size → wz, below_step → wt
open Aside0 renaming mk → am
attribute [local go_sem] max2_int min2_int max_two min_two max_three min_three max_four min_four
set_option linter.unusedVariables false
set_option linter.unusedSimpArgs false

def p_meet.j0 : Nat → Bool → Int → Int → Int → Int → Int → Int → Int → Int → Option (Bool)
 | 0, _, _, _, _, _, _, _, _, _ => none
 | k + 1, x30, x124000, x124001, x125000, x125001, x126000, x126001, x127000, x127001 => if x30 = true then (some true) else ((p_Orient.f x124000 x124001 x125000 x125001 x126000 x126001).bind fun t131 => ((p_Orient.f x124000 x124001 x125000 x125001 x127000 x127001).bind fun t132 => (if (wrap64 (t131 * t132)) < 0 then ((p_Orient.f x126000 x126001 x127000 x127001 x124000 x124001).bind fun t133 => ((p_Orient.f x126000 x126001 x127000 x127001 x125000 x125001).bind fun t134 => (some (decide ((wrap64 (t133 * t134)) < 0))))) else (some false))))
def p_meet.f (k : Nat) (a0_0 : Int) (a0_1 : Int) (a1_0 : Int) (a1_1 : Int) (a2_0 : Int) (a2_1 : Int) (a3_0 : Int) (a3_1 : Int) : Option (Bool) := (p_on.f k a0_0 a0_1 a1_0 a1_1 a2_0 a2_1).bind fun t127 => (if t127 = true then (p_meet.j0 k true a0_0 a0_1 a1_0 a1_1 a2_0 a2_1 a3_0 a3_1) else ((p_on.f k a0_0 a0_1 a1_0 a1_1 a3_0 a3_1).bind fun t128 => (if t128 = true then (p_meet.j0 k true a0_0 a0_1 a1_0 a1_1 a2_0 a2_1 a3_0 a3_1) else ((p_on.f k a2_0 a2_1 a3_0 a3_1 a0_0 a0_1).bind fun t129 => (if t129 = true then (p_meet.j0 k true a0_0 a0_1 a1_0 a1_1 a2_0 a2_1 a3_0 a3_1) else ((p_on.f k a2_0 a2_1 a3_0 a3_1 a1_0 a1_1).bind fun t130 => (p_meet.j0 k t130 a0_0 a0_1 a1_0 a1_1 a2_0 a2_1 a3_0 a3_1)))))))
theorem p_meet.mono_l : ∀ k, (∀ y0 y1 y2 y3 y4 y5 y6 y7 y8, LeO (p_meet.j0 k y0 y1 y2 y3 y4 y5 y6 y7 y8) (p_meet.j0 (k + 1) y0 y1 y2 y3 y4 y5 y6 y7 y8))
 | 0 => fun _ _ _ _ _ _ _ _ _ r h => by simp [p_meet.j0] at h
 | k + 1 => by
  have ih0 := p_meet.mono_l k
  intro y0 y1 y2 y3 y4 y5 y6 y7 y8
  unfold p_meet.j0
  repeat' first
  | (with_reducible exact ih0 _ _ _ _ _ _ _ _ _)
  | (with_reducible exact p_on.mono _ _ _ _ _ _ _)
  | (with_reducible exact LeO.refl _)
  | (with_reducible exact LeO.none _)
  | (with_reducible refine LeO.ite ?_ ?_)
  | (with_reducible refine LeO.bind ?_ (fun _ => ?_))
  | exact ih0 _ _ _ _ _ _ _ _ _
  | exact p_on.mono _ _ _ _ _ _ _
  | exact LeO.none _
  | refine LeO.ite ?_ ?_
  | refine LeO.bind ?_ (fun _ => ?_)
theorem p_meet.mono : ∀ a0 a1 a2 a3 a4 a5 a6 a7 k, LeO (p_meet.f k a0 a1 a2 a3 a4 a5 a6 a7) (p_meet.f (k + 1) a0 a1 a2 a3 a4 a5 a6 a7) := by
 intro a0 a1 a2 a3 a4 a5 a6 a7 k
 have ih0 := p_meet.mono_l k
 unfold p_meet.f
 repeat' first
   | (with_reducible exact ih0 _ _ _ _ _ _ _ _ _)
   | (with_reducible exact p_on.mono _ _ _ _ _ _ _)
   | (with_reducible exact LeO.refl _)
   | (with_reducible exact LeO.none _)
   | (with_reducible refine LeO.ite ?_ ?_)
   | (with_reducible refine LeO.bind ?_ (fun _ => ?_))
   | exact ih0 _ _ _ _ _ _ _ _ _
   | exact p_on.mono _ _ _ _ _ _ _
   | exact LeO.none _
   | refine LeO.ite ?_ ?_
   | refine LeO.bind ?_ (fun _ => ?_)
def p_meet.T3 : Bool × List (List Nat × List Nat) := (true, [([], []), ([], []), ([], []), ([0, 1, 2], [0, 1, 2]), ([], []), ([], []), ([], []), ([4, 5, 6, 3], [4, 5, 6]), ([3, 7], [3, 7]), ([8], [8]), ([9, 7], [9]), ([10], [10]), ([10], [10]), ([10], [10]), ([11, 12, 13, 10, 10], [10, 11, 12, 13]), ([10], [10]), ([10], [10]), ([10], [10]), ([15, 16, 17, 14, 10], [10, 15, 16, 17]), ([14, 18, 10], [10, 14, 18]), ([19, 10], [10, 19]), ([10, 20], [10, 20]), ([21, 18, 0, 1, 2, 3, 4, 5, 6, 7, 8, 9, 10, 11, 12, 13, 14, 15, 16, 17, 18, 19, 20, 21], [21])])
def p_meet.B3 : List Nat := [0, 0, 0, 7, 0, 0, 0, 127, 255, 511, 1023, 2047, 2047, 2047, 16383, 2047, 2047, 2047, 262143, 524287, 1048575, 2097151, 4194303]
theorem p_meet.tab3 : rtab .any (opsOf Try.f62 3) = p_meet.T3 := by kernel_rfl
theorem p_meet.bits3 : waitsOk p_meet.T3.2 p_meet.B3 = true := by kernel_rfl
set_option maxHeartbeats 8000000 in
set_option maxRecDepth 100000 in
theorem p_meet.calls (k : Nat) (a0_0 : Int) (a0_1 : Int) (a1_0 : Int) (a1_1 : Int) (a2_0 : Int) (a2_1 : Int) (a3_0 : Int) (a3_1 : Int) (r : Bool) (w : World) (h : p_meet.f k a0_0 a0_1 a1_0 a1_1 a2_0 a2_1 a3_0 a3_1 = some r) :
  Calls Try.prog 62 #[.agg #[.int .i64 a0_0, .int .i64 a0_1], .agg #[.int .i64 a1_0, .int .i64 a1_1], .agg #[.int .i64 a2_0, .int .i64 a2_1], .agg #[.int .i64 a3_0, .int .i64 a3_1]] w fun e w' => e = .returned (.bool r) ∧ Below w.heap.size w w' := by
 have hu23 := Try.underlying23
 have HB := am (Below.refl w.heap.size w)
 have H : ((p_on.f k a0_0 a0_1 a1_0 a1_1 a2_0 a2_1).bind fun t127 => (if t127 = true then (p_meet.j0 k true a0_0 a0_1 a1_0 a1_1 a2_0 a2_1 a3_0 a3_1) else ((p_on.f k a0_0 a0_1 a1_0 a1_1 a3_0 a3_1).bind fun t128 => (if t128 = true then (p_meet.j0 k true a0_0 a0_1 a1_0 a1_1 a2_0 a2_1 a3_0 a3_1) else ((p_on.f k a2_0 a2_1 a3_0 a3_1 a0_0 a0_1).bind fun t129 => (if t129 = true then (p_meet.j0 k true a0_0 a0_1 a1_0 a1_1 a2_0 a2_1 a3_0 a3_1) else ((p_on.f k a2_0 a2_1 a3_0 a3_1 a1_0 a1_1).bind fun t130 => (p_meet.j0 k t130 a0_0 a0_1 a1_0 a1_1 a2_0 a2_1 a3_0 a3_1)))))))) = some r := h
 clear h
 have HC5 := am H
 clear H
 go_enter Try.func62, Try.ntmps62
 go_upto_region 1 with (first | ((with_reducible refine gate_dst (N := 4) rfl ?_); refine box_event ?hg (N := 4) ?hd (cs := #[.int .i64 a0_0, .int .i64 a0_1]) (t := 23) ?hr ?_; (case hd | hg => rfl); (case hr => first | (go_simp; done) | (go_simp; rfl)); intro gb123 hg w6 hbox hb; have n0_ := am (wt (by repeat (first | (with_reducible first | exact HB.out | apply wa | apply wN | apply wd) | exact HB.out)) hb); have n1_ := am (hbox); have n2_ := am ((by rw [hg]; exact (wz (by repeat (first | (with_reducible first | exact HB.out | apply wa | apply wN | apply wd) | exact HB.out))) : w.heap.size ≤ gb123)); have n3_ := am ((by rw [hg]; exact (wz (by repeat (first | (with_reducible first | exact HB.out | apply wa | apply wN | apply wd) | exact HB.out))) : w.heap.size ≤ gb123)); clear HB; have HB := n0_; have BK123 := n1_; have GW123 := n2_; have GE123 := n3_; clear n0_ n1_ n2_ n3_ hb hbox hg) | ((with_reducible refine gate_dst (N := 5) rfl ?_); refine box_event ?hg (N := 5) ?hd (cs := #[.int .i64 a1_0, .int .i64 a1_1]) (t := 23) ?hr ?_; (case hd | hg => rfl); (case hr => first | (go_simp; done) | (go_simp; rfl)); intro gb124 hg w7 hbox hb; have n0_ := am (bb (g := gb123) (o := .cells #[.int .i64 a0_0, .int .i64 a0_1] 23 (0, 0)) (by (with_reducible repeat first | apply bN | apply bd | apply ba); exact BK123.out) hb); have n1_ := am (wt (by repeat (first | (with_reducible first | exact HB.out | apply wa | apply wN | apply wd | refine ws ?_ GE123.out) | exact HB.out)) hb); have n2_ := am (hbox); have n3_ := am ((by rw [hg]; exact (wz (by repeat (first | (with_reducible first | exact HB.out | apply wa | apply wN | apply wd | refine ws ?_ GE123.out) | exact HB.out))) : w.heap.size ≤ gb124)); have n4_ := am ((by rw [hg]; exact (wz (by repeat (first | (with_reducible first | exact HB.out | apply wa | apply wN | apply wd | refine ws ?_ GE123.out) | exact HB.out))) : w.heap.size ≤ gb124)); have n5_ := am ((by rw [hg]; exact Nat.ne_of_lt (blk_lt (g := gb123) (o := .cells #[.int .i64 a0_0, .int .i64 a0_1] 23 (0, 0)) (by (with_reducible repeat first | apply bN | apply bd | apply ba); exact BK123.out)) : gb123 ≠ gb124)); have n6_ := am ((by rw [hg]; exact Nat.ne_of_gt (blk_lt (g := gb123) (o := .cells #[.int .i64 a0_0, .int .i64 a0_1] 23 (0, 0)) (by (with_reducible repeat first | apply bN | apply bd | apply ba); exact BK123.out)) : gb124 ≠ gb123)); clear BK123 HB; have BK123 := n0_; have HB := n1_; have BK124 := n2_; have GW124 := n3_; have GE124 := n4_; have NB123_124 := n5_; have NB124_123 := n6_; clear n0_ n1_ n2_ n3_ n4_ n5_ n6_ hb hbox hg) | ((with_reducible refine gate_dst (N := 6) rfl ?_); refine box_event ?hg (N := 6) ?hd (cs := #[.int .i64 a2_0, .int .i64 a2_1]) (t := 23) ?hr ?_; (case hd | hg => rfl); (case hr => first | (go_simp; done) | (go_simp; rfl)); intro gb125 hg w8 hbox hb; have n0_ := am (bb (g := gb123) (o := .cells #[.int .i64 a0_0, .int .i64 a0_1] 23 (0, 0)) (by (with_reducible repeat first | apply bN | apply bd | apply ba); exact BK123.out) hb); have n1_ := am (bb (g := gb124) (o := .cells #[.int .i64 a1_0, .int .i64 a1_1] 23 (0, 0)) (by (with_reducible repeat first | apply bN | apply bd | apply ba); exact BK124.out) hb); have n2_ := am (wt (by repeat (first | (with_reducible first | exact HB.out | apply wa | apply wN | apply wd | refine ws ?_ GE123.out | refine ws ?_ GE124.out) | exact HB.out)) hb); have n3_ := am (hbox); have n4_ := am ((by rw [hg]; exact (wz (by repeat (first | (with_reducible first | exact HB.out | apply wa | apply wN | apply wd | refine ws ?_ GE123.out | refine ws ?_ GE124.out) | exact HB.out))) : w.heap.size ≤ gb125)); have n5_ := am ((by rw [hg]; exact (wz (by repeat (first | (with_reducible first | exact HB.out | apply wa | apply wN | apply wd | refine ws ?_ GE123.out | refine ws ?_ GE124.out) | exact HB.out))) : w.heap.size ≤ gb125)); have n6_ := am ((by rw [hg]; exact Nat.ne_of_lt (blk_lt (g := gb123) (o := .cells #[.int .i64 a0_0, .int .i64 a0_1] 23 (0, 0)) (by (with_reducible repeat first | apply bN | apply bd | apply ba); exact BK123.out)) : gb123 ≠ gb125)); have n7_ := am ((by rw [hg]; exact Nat.ne_of_gt (blk_lt (g := gb123) (o := .cells #[.int .i64 a0_0, .int .i64 a0_1] 23 (0, 0)) (by (with_reducible repeat first | apply bN | apply bd | apply ba); exact BK123.out)) : gb125 ≠ gb123)); have n8_ := am ((by rw [hg]; exact Nat.ne_of_lt (blk_lt (g := gb124) (o := .cells #[.int .i64 a1_0, .int .i64 a1_1] 23 (0, 0)) (by (with_reducible repeat first | apply bN | apply bd | apply ba); exact BK124.out)) : gb124 ≠ gb125)); have n9_ := am ((by rw [hg]; exact Nat.ne_of_gt (blk_lt (g := gb124) (o := .cells #[.int .i64 a1_0, .int .i64 a1_1] 23 (0, 0)) (by (with_reducible repeat first | apply bN | apply bd | apply ba); exact BK124.out)) : gb125 ≠ gb124)); clear BK123 BK124 HB; have BK123 := n0_; have BK124 := n1_; have HB := n2_; have BK125 := n3_; have GW125 := n4_; have GE125 := n5_; have NB123_125 := n6_; have NB125_123 := n7_; have NB124_125 := n8_; have NB125_124 := n9_; clear n0_ n1_ n2_ n3_ n4_ n5_ n6_ n7_ n8_ n9_ hb hbox hg) | ((with_reducible refine gate_dst (N := 7) rfl ?_); refine box_event ?hg (N := 7) ?hd (cs := #[.int .i64 a3_0, .int .i64 a3_1]) (t := 23) ?hr ?_; (case hd | hg => rfl); (case hr => first | (go_simp; done) | (go_simp; rfl)); intro gb126 hg w9 hbox hb; have n0_ := am (bb (g := gb123) (o := .cells #[.int .i64 a0_0, .int .i64 a0_1] 23 (0, 0)) (by (with_reducible repeat first | apply bN | apply bd | apply ba); exact BK123.out) hb); have n1_ := am (bb (g := gb124) (o := .cells #[.int .i64 a1_0, .int .i64 a1_1] 23 (0, 0)) (by (with_reducible repeat first | apply bN | apply bd | apply ba); exact BK124.out) hb); have n2_ := am (bb (g := gb125) (o := .cells #[.int .i64 a2_0, .int .i64 a2_1] 23 (0, 0)) (by (with_reducible repeat first | apply bN | apply bd | apply ba); exact BK125.out) hb); have n3_ := am (wt (by repeat (first | (with_reducible first | exact HB.out | apply wa | apply wN | apply wd | refine ws ?_ GE123.out | refine ws ?_ GE124.out | refine ws ?_ GE125.out) | exact HB.out)) hb); have n4_ := am (hbox); have n5_ := am ((by rw [hg]; exact (wz (by repeat (first | (with_reducible first | exact HB.out | apply wa | apply wN | apply wd | refine ws ?_ GE123.out | refine ws ?_ GE124.out | refine ws ?_ GE125.out) | exact HB.out))) : w.heap.size ≤ gb126)); have n6_ := am ((by rw [hg]; exact (wz (by repeat (first | (with_reducible first | exact HB.out | apply wa | apply wN | apply wd | refine ws ?_ GE123.out | refine ws ?_ GE124.out | refine ws ?_ GE125.out) | exact HB.out))) : w.heap.size ≤ gb126)); have n7_ := am ((by rw [hg]; exact Nat.ne_of_lt (blk_lt (g := gb123) (o := .cells #[.int .i64 a0_0, .int .i64 a0_1] 23 (0, 0)) (by (with_reducible repeat first | apply bN | apply bd | apply ba); exact BK123.out)) : gb123 ≠ gb126)); have n8_ := am ((by rw [hg]; exact Nat.ne_of_gt (blk_lt (g := gb123) (o := .cells #[.int .i64 a0_0, .int .i64 a0_1] 23 (0, 0)) (by (with_reducible repeat first | apply bN | apply bd | apply ba); exact BK123.out)) : gb126 ≠ gb123)); have n9_ := am ((by rw [hg]; exact Nat.ne_of_lt (blk_lt (g := gb124) (o := .cells #[.int .i64 a1_0, .int .i64 a1_1] 23 (0, 0)) (by (with_reducible repeat first | apply bN | apply bd | apply ba); exact BK124.out)) : gb124 ≠ gb126)); have n10_ := am ((by rw [hg]; exact Nat.ne_of_gt (blk_lt (g := gb124) (o := .cells #[.int .i64 a1_0, .int .i64 a1_1] 23 (0, 0)) (by (with_reducible repeat first | apply bN | apply bd | apply ba); exact BK124.out)) : gb126 ≠ gb124)); have n11_ := am ((by rw [hg]; exact Nat.ne_of_lt (blk_lt (g := gb125) (o := .cells #[.int .i64 a2_0, .int .i64 a2_1] 23 (0, 0)) (by (with_reducible repeat first | apply bN | apply bd | apply ba); exact BK125.out)) : gb125 ≠ gb126)); have n12_ := am ((by rw [hg]; exact Nat.ne_of_gt (blk_lt (g := gb125) (o := .cells #[.int .i64 a2_0, .int .i64 a2_1] 23 (0, 0)) (by (with_reducible repeat first | apply bN | apply bd | apply ba); exact BK125.out)) : gb126 ≠ gb125)); clear BK123 BK124 BK125 HB; have BK123 := n0_; have BK124 := n1_; have BK125 := n2_; have HB := n3_; have BK126 := n4_; have GW126 := n5_; have GE126 := n6_; have NB123_126 := n7_; have NB126_123 := n8_; have NB124_126 := n9_; have NB126_124 := n10_; have NB125_126 := n11_; have NB126_125 := n12_; clear n0_ n1_ n2_ n3_ n4_ n5_ n6_ n7_ n8_ n9_ n10_ n11_ n12_ hb hbox hg))
 (try simp only [Act.put, psl])
 go_cut [30] (fun v30 wc => ∃ (kq : Nat) (x30_4 : Bool), v30 = .bool x30_4 ∧ Aside0 (p_meet.j0 kq x30_4 a0_0 a0_1 a1_0 a1_1 a2_0 a2_1 a3_0 a3_1 = some r) ∧ Aside0 (kq ≤ k) ∧ Aside0 (wc.heap[gb123]? = some (.cells #[.int .i64 a0_0, .int .i64 a0_1] 23 (0, 0))) ∧ Aside0 (wc.heap[gb124]? = some (.cells #[.int .i64 a1_0, .int .i64 a1_1] 23 (0, 0))) ∧ Aside0 (wc.heap[gb125]? = some (.cells #[.int .i64 a2_0, .int .i64 a2_1] 23 (0, 0))) ∧ Aside0 (wc.heap[gb126]? = some (.cells #[.int .i64 a3_0, .int .i64 a3_1] 23 (0, 0))) ∧ Aside0 (Below w.heap.size w wc))
 case first =>
  have H := HC5.out
  clear HC5
  replace H := Option.bind_eq_some_iff.mp H
  obtain ⟨t127, A100, H⟩ := H
  replace H : (if t127 = true then (p_meet.j0 k true a0_0 a0_1 a1_0 a1_1 a2_0 a2_1 a3_0 a3_1) else ((p_on.f k a0_0 a0_1 a1_0 a1_1 a3_0 a3_1).bind fun t128 => (if t128 = true then (p_meet.j0 k true a0_0 a0_1 a1_0 a1_1 a2_0 a2_1 a3_0 a3_1) else ((p_on.f k a2_0 a2_1 a3_0 a3_1 a0_0 a0_1).bind fun t129 => (if t129 = true then (p_meet.j0 k true a0_0 a0_1 a1_0 a1_1 a2_0 a2_1 a3_0 a3_1) else ((p_on.f k a2_0 a2_1 a3_0 a3_1 a1_0 a1_1).bind fun t130 => (p_meet.j0 k t130 a0_0 a0_1 a1_0 a1_1 a2_0 a2_1 a3_0 a3_1))))))) = some r := H
  have A10 := am A100
  clear A100
  by_cases c11 : t127 = true
  ·subst c11
   have H1 : (p_meet.j0 k true a0_0 a0_1 a1_0 a1_1 a2_0 a2_1 a3_0 a3_1) = some r := by rw [if_pos rfl] at H; exact H
   clear H
   have H := H1
   clear H1
   have H' := am H
   clear H
   have hnb12 := NB123_124.out
   have hnc12 := NB124_123.out
   have hnb13 := NB123_125.out
   have hnc13 := NB125_123.out
   have hnb14 := NB123_126.out
   have hnc14 := NB126_123.out
   have hcz15_0 : w9.cell? ⟨gb123, 0, none⟩ = some (.int .i64 a0_0) := (bc BK123.out 0).trans rfl
   have hcz15_1 : w9.cell? ⟨gb123, 1, none⟩ = some (.int .i64 a0_1) := (bc BK123.out 1).trans rfl
   have hfz15_0 := bf BK123.out 0
   have hfz15_1 := bf BK123.out 1
   have hnb16 := NB124_125.out
   have hnc16 := NB125_124.out
   have hnb17 := NB124_126.out
   have hnc17 := NB126_124.out
   have hcz18_0 : w9.cell? ⟨gb124, 0, none⟩ = some (.int .i64 a1_0) := (bc BK124.out 0).trans rfl
   have hcz18_1 : w9.cell? ⟨gb124, 1, none⟩ = some (.int .i64 a1_1) := (bc BK124.out 1).trans rfl
   have hfz18_0 := bf BK124.out 0
   have hfz18_1 := bf BK124.out 1
   have hnb19 := NB125_126.out
   have hnc19 := NB126_125.out
   have hcz20_0 : w9.cell? ⟨gb125, 0, none⟩ = some (.int .i64 a2_0) := (bc BK125.out 0).trans rfl
   have hcz20_1 : w9.cell? ⟨gb125, 1, none⟩ = some (.int .i64 a2_1) := (bc BK125.out 1).trans rfl
   have hfz20_0 := bf BK125.out 0
   have hfz20_1 := bf BK125.out 1
   go_wp2_with (first | ((with_reducible refine gate_callee (f := 41) rfl ?_); refine goesL_ (some 12) rfl rfl Try.func41 (by kernel_rfl) rfl #[.agg #[.int .i64 a0_0, .int .i64 a0_1], .agg #[.int .i64 a1_0, .int .i64 a1_1], .agg #[.int .i64 a2_0, .int .i64 a2_1]] rfl (by (try simp only [pml]); first | done | rfl | (simp only [pdt]; rfl)) ?_; (with_reducible refine (p_on.calls k a0_0 a0_1 a1_0 a1_1 a2_0 a2_1 true _ A10.out).mono ?_); rintro e w21 ⟨rfl, hb⟩; refine ⟨_, rfl, ?_⟩; have n0_ := am (bb (g := gb123) (o := .cells #[.int .i64 a0_0, .int .i64 a0_1] 23 (0, 0)) (by (with_reducible repeat first | apply bN | apply bd | apply ba); exact BK123.out) hb); have n1_ := am (bb (g := gb124) (o := .cells #[.int .i64 a1_0, .int .i64 a1_1] 23 (0, 0)) (by (with_reducible repeat first | apply bN | apply bd | apply ba); exact BK124.out) hb); have n2_ := am (bb (g := gb125) (o := .cells #[.int .i64 a2_0, .int .i64 a2_1] 23 (0, 0)) (by (with_reducible repeat first | apply bN | apply bd | apply ba); exact BK125.out) hb); have n3_ := am (bb (g := gb126) (o := .cells #[.int .i64 a3_0, .int .i64 a3_1] 23 (0, 0)) (by (with_reducible repeat first | apply bN | apply bd | apply ba); exact BK126.out) hb); have n4_ := am (wt (by repeat (first | (with_reducible first | exact HB.out | apply wa | apply wN | apply wd | refine ws ?_ GE123.out | refine ws ?_ GE124.out | refine ws ?_ GE125.out | refine ws ?_ GE126.out) | exact HB.out)) hb); clear BK123 BK124 BK125 BK126 HB; have BK123 := n0_; have BK124 := n1_; have BK125 := n2_; have BK126 := n3_; have HB := n4_; clear n0_ n1_ n2_ n3_ n4_; (try clear hb); (try clear hb2); (try clear hk); (try clear hi)))
   go_meet
   case rel => exact ⟨_, (true), (by first | rfl | (simp; done) | (simp [*]; done)), H', ⟨by first | omega | exact Nat.le_refl _⟩, ⟨by (with_reducible repeat first | apply bN | apply bd | apply ba); exact BK123.out⟩, ⟨by (with_reducible repeat first | apply bN | apply bd | apply ba); exact BK124.out⟩, ⟨by (with_reducible repeat first | apply bN | apply bd | apply ba); exact BK125.out⟩, ⟨by (with_reducible repeat first | apply bN | apply bd | apply ba); exact BK126.out⟩, ⟨by repeat (first | (with_reducible first | exact HB.out | apply wa | apply wN | apply wd | refine ws ?_ GE123.out | refine ws ?_ GE124.out | refine ws ?_ GE125.out | refine ws ?_ GE126.out) | exact HB.out)⟩⟩
  replace c11 := Bool.eq_false_iff.mpr c11
  subst c11
  have H1 : ((p_on.f k a0_0 a0_1 a1_0 a1_1 a3_0 a3_1).bind fun t128 => (if t128 = true then (p_meet.j0 k true a0_0 a0_1 a1_0 a1_1 a2_0 a2_1 a3_0 a3_1) else ((p_on.f k a2_0 a2_1 a3_0 a3_1 a0_0 a0_1).bind fun t129 => (if t129 = true then (p_meet.j0 k true a0_0 a0_1 a1_0 a1_1 a2_0 a2_1 a3_0 a3_1) else ((p_on.f k a2_0 a2_1 a3_0 a3_1 a1_0 a1_1).bind fun t130 => (p_meet.j0 k t130 a0_0 a0_1 a1_0 a1_1 a2_0 a2_1 a3_0 a3_1)))))) = some r := by rw [if_neg (show ¬ (false = true) by decide)] at H; exact H
  clear H
  have H := H1
  clear H1
  replace H := Option.bind_eq_some_iff.mp H
  obtain ⟨t128, A220, H⟩ := H
  replace H : (if t128 = true then (p_meet.j0 k true a0_0 a0_1 a1_0 a1_1 a2_0 a2_1 a3_0 a3_1) else ((p_on.f k a2_0 a2_1 a3_0 a3_1 a0_0 a0_1).bind fun t129 => (if t129 = true then (p_meet.j0 k true a0_0 a0_1 a1_0 a1_1 a2_0 a2_1 a3_0 a3_1) else ((p_on.f k a2_0 a2_1 a3_0 a3_1 a1_0 a1_1).bind fun t130 => (p_meet.j0 k t130 a0_0 a0_1 a1_0 a1_1 a2_0 a2_1 a3_0 a3_1))))) = some r := H
  have A22 := am A220
  clear A220
  by_cases c23 : t128 = true
  ·subst c23
   have H1 : (p_meet.j0 k true a0_0 a0_1 a1_0 a1_1 a2_0 a2_1 a3_0 a3_1) = some r := by rw [if_pos rfl] at H; exact H
   clear H
   have H := H1
   clear H1
   have H' := am H
   clear H
   have hnb24 := NB123_124.out
   have hnc24 := NB124_123.out
   have hnb25 := NB123_125.out
   have hnc25 := NB125_123.out
   have hnb26 := NB123_126.out
   have hnc26 := NB126_123.out
   have hcz27_0 : w9.cell? ⟨gb123, 0, none⟩ = some (.int .i64 a0_0) := (bc BK123.out 0).trans rfl
   have hcz27_1 : w9.cell? ⟨gb123, 1, none⟩ = some (.int .i64 a0_1) := (bc BK123.out 1).trans rfl
   have hfz27_0 := bf BK123.out 0
   have hfz27_1 := bf BK123.out 1
   have hnb28 := NB124_125.out
   have hnc28 := NB125_124.out
   have hnb29 := NB124_126.out
   have hnc29 := NB126_124.out
   have hcz30_0 : w9.cell? ⟨gb124, 0, none⟩ = some (.int .i64 a1_0) := (bc BK124.out 0).trans rfl
   have hcz30_1 : w9.cell? ⟨gb124, 1, none⟩ = some (.int .i64 a1_1) := (bc BK124.out 1).trans rfl
   have hfz30_0 := bf BK124.out 0
   have hfz30_1 := bf BK124.out 1
   have hnb31 := NB125_126.out
   have hnc31 := NB126_125.out
   have hcz32_0 : w9.cell? ⟨gb125, 0, none⟩ = some (.int .i64 a2_0) := (bc BK125.out 0).trans rfl
   have hcz32_1 : w9.cell? ⟨gb125, 1, none⟩ = some (.int .i64 a2_1) := (bc BK125.out 1).trans rfl
   have hfz32_0 := bf BK125.out 0
   have hfz32_1 := bf BK125.out 1
   go_wp2_with (first | ((with_reducible refine gate_callee (f := 41) rfl ?_); refine goesL_ (some 12) rfl rfl Try.func41 (by kernel_rfl) rfl #[.agg #[.int .i64 a0_0, .int .i64 a0_1], .agg #[.int .i64 a1_0, .int .i64 a1_1], .agg #[.int .i64 a2_0, .int .i64 a2_1]] rfl (by (try simp only [pml]); first | done | rfl | (simp only [pdt]; rfl)) ?_; (with_reducible refine (p_on.calls k a0_0 a0_1 a1_0 a1_1 a2_0 a2_1 false _ A10.out).mono ?_); rintro e w33 ⟨rfl, hb⟩; refine ⟨_, rfl, ?_⟩; have n0_ := am (bb (g := gb123) (o := .cells #[.int .i64 a0_0, .int .i64 a0_1] 23 (0, 0)) (by (with_reducible repeat first | apply bN | apply bd | apply ba); exact BK123.out) hb); have n1_ := am (bb (g := gb124) (o := .cells #[.int .i64 a1_0, .int .i64 a1_1] 23 (0, 0)) (by (with_reducible repeat first | apply bN | apply bd | apply ba); exact BK124.out) hb); have n2_ := am (bb (g := gb125) (o := .cells #[.int .i64 a2_0, .int .i64 a2_1] 23 (0, 0)) (by (with_reducible repeat first | apply bN | apply bd | apply ba); exact BK125.out) hb); have n3_ := am (bb (g := gb126) (o := .cells #[.int .i64 a3_0, .int .i64 a3_1] 23 (0, 0)) (by (with_reducible repeat first | apply bN | apply bd | apply ba); exact BK126.out) hb); have n4_ := am (wt (by repeat (first | (with_reducible first | exact HB.out | apply wa | apply wN | apply wd | refine ws ?_ GE123.out | refine ws ?_ GE124.out | refine ws ?_ GE125.out | refine ws ?_ GE126.out) | exact HB.out)) hb); clear BK123 BK124 BK125 BK126 HB; have BK123 := n0_; have BK124 := n1_; have BK125 := n2_; have BK126 := n3_; have HB := n4_; clear n0_ n1_ n2_ n3_ n4_; (try clear hb); (try clear hb2); (try clear hk); (try clear hi); have hcz34_0 : w33.cell? ⟨gb123, 0, none⟩ = some (.int .i64 a0_0) := (bc BK123.out 0).trans rfl; have hcz34_1 : w33.cell? ⟨gb123, 1, none⟩ = some (.int .i64 a0_1) := (bc BK123.out 1).trans rfl; have hfz34_0 := bf BK123.out 0; have hfz34_1 := bf BK123.out 1; have hcz35_0 : w33.cell? ⟨gb124, 0, none⟩ = some (.int .i64 a1_0) := (bc BK124.out 0).trans rfl; have hcz35_1 : w33.cell? ⟨gb124, 1, none⟩ = some (.int .i64 a1_1) := (bc BK124.out 1).trans rfl; have hfz35_0 := bf BK124.out 0; have hfz35_1 := bf BK124.out 1; have hcz36_0 : w33.cell? ⟨gb126, 0, none⟩ = some (.int .i64 a3_0) := (bc BK126.out 0).trans rfl; have hcz36_1 : w33.cell? ⟨gb126, 1, none⟩ = some (.int .i64 a3_1) := (bc BK126.out 1).trans rfl; have hfz36_0 := bf BK126.out 0; have hfz36_1 := bf BK126.out 1) | (go_at_call 41; (with_reducible refine (p_on.calls k a0_0 a0_1 a1_0 a1_1 a3_0 a3_1 true _ A22.out).mono ?_); rintro e w37 ⟨rfl, hb⟩; have n0_ := am (bb (g := gb123) (o := .cells #[.int .i64 a0_0, .int .i64 a0_1] 23 (0, 0)) (by (with_reducible repeat first | apply bN | apply bd | apply ba); exact BK123.out) hb); have n1_ := am (bb (g := gb124) (o := .cells #[.int .i64 a1_0, .int .i64 a1_1] 23 (0, 0)) (by (with_reducible repeat first | apply bN | apply bd | apply ba); exact BK124.out) hb); have n2_ := am (bb (g := gb125) (o := .cells #[.int .i64 a2_0, .int .i64 a2_1] 23 (0, 0)) (by (with_reducible repeat first | apply bN | apply bd | apply ba); exact BK125.out) hb); have n3_ := am (bb (g := gb126) (o := .cells #[.int .i64 a3_0, .int .i64 a3_1] 23 (0, 0)) (by (with_reducible repeat first | apply bN | apply bd | apply ba); exact BK126.out) hb); have n4_ := am (wt (by repeat (first | (with_reducible first | exact HB.out | apply wa | apply wN | apply wd | refine ws ?_ GE123.out | refine ws ?_ GE124.out | refine ws ?_ GE125.out | refine ws ?_ GE126.out) | exact HB.out)) hb); clear BK123 BK124 BK125 BK126 HB; have BK123 := n0_; have BK124 := n1_; have BK125 := n2_; have BK126 := n3_; have HB := n4_; clear n0_ n1_ n2_ n3_ n4_; (try clear hb); (try clear hb2); (try clear hk); (try clear hi)))
   go_meet
   case rel => exact ⟨_, (true), (by first | rfl | (simp; done) | (simp [*]; done)), H', ⟨by first | omega | exact Nat.le_refl _⟩, ⟨by (with_reducible repeat first | apply bN | apply bd | apply ba); exact BK123.out⟩, ⟨by (with_reducible repeat first | apply bN | apply bd | apply ba); exact BK124.out⟩, ⟨by (with_reducible repeat first | apply bN | apply bd | apply ba); exact BK125.out⟩, ⟨by (with_reducible repeat first | apply bN | apply bd | apply ba); exact BK126.out⟩, ⟨by repeat (first | (with_reducible first | exact HB.out | apply wa | apply wN | apply wd | refine ws ?_ GE123.out | refine ws ?_ GE124.out | refine ws ?_ GE125.out | refine ws ?_ GE126.out) | exact HB.out)⟩⟩
  replace c23 := Bool.eq_false_iff.mpr c23
  subst c23
  have H1 : ((p_on.f k a2_0 a2_1 a3_0 a3_1 a0_0 a0_1).bind fun t129 => (if t129 = true then (p_meet.j0 k true a0_0 a0_1 a1_0 a1_1 a2_0 a2_1 a3_0 a3_1) else ((p_on.f k a2_0 a2_1 a3_0 a3_1 a1_0 a1_1).bind fun t130 => (p_meet.j0 k t130 a0_0 a0_1 a1_0 a1_1 a2_0 a2_1 a3_0 a3_1)))) = some r := by rw [if_neg (show ¬ (false = true) by decide)] at H; exact H
  clear H
  have H := H1
  clear H1
  replace H := Option.bind_eq_some_iff.mp H
  obtain ⟨t129, A380, H⟩ := H
  replace H : (if t129 = true then (p_meet.j0 k true a0_0 a0_1 a1_0 a1_1 a2_0 a2_1 a3_0 a3_1) else ((p_on.f k a2_0 a2_1 a3_0 a3_1 a1_0 a1_1).bind fun t130 => (p_meet.j0 k t130 a0_0 a0_1 a1_0 a1_1 a2_0 a2_1 a3_0 a3_1))) = some r := H
  have A38 := am A380
  clear A380
  by_cases c39 : t129 = true
  ·subst c39
   have H1 : (p_meet.j0 k true a0_0 a0_1 a1_0 a1_1 a2_0 a2_1 a3_0 a3_1) = some r := by rw [if_pos rfl] at H; exact H
   clear H
   have H := H1
   clear H1
   have H' := am H
   clear H
   have hnb40 := NB123_124.out
   have hnc40 := NB124_123.out
   have hnb41 := NB123_125.out
   have hnc41 := NB125_123.out
   have hnb42 := NB123_126.out
   have hnc42 := NB126_123.out
   have hcz43_0 : w9.cell? ⟨gb123, 0, none⟩ = some (.int .i64 a0_0) := (bc BK123.out 0).trans rfl
   have hcz43_1 : w9.cell? ⟨gb123, 1, none⟩ = some (.int .i64 a0_1) := (bc BK123.out 1).trans rfl
   have hfz43_0 := bf BK123.out 0
   have hfz43_1 := bf BK123.out 1
   have hnb44 := NB124_125.out
   have hnc44 := NB125_124.out
   have hnb45 := NB124_126.out
   have hnc45 := NB126_124.out
   have hcz46_0 : w9.cell? ⟨gb124, 0, none⟩ = some (.int .i64 a1_0) := (bc BK124.out 0).trans rfl
   have hcz46_1 : w9.cell? ⟨gb124, 1, none⟩ = some (.int .i64 a1_1) := (bc BK124.out 1).trans rfl
   have hfz46_0 := bf BK124.out 0
   have hfz46_1 := bf BK124.out 1
   have hnb47 := NB125_126.out
   have hnc47 := NB126_125.out
   have hcz48_0 : w9.cell? ⟨gb125, 0, none⟩ = some (.int .i64 a2_0) := (bc BK125.out 0).trans rfl
   have hcz48_1 : w9.cell? ⟨gb125, 1, none⟩ = some (.int .i64 a2_1) := (bc BK125.out 1).trans rfl
   have hfz48_0 := bf BK125.out 0
   have hfz48_1 := bf BK125.out 1
   go_wp2_with (first | ((with_reducible refine gate_callee (f := 41) rfl ?_); refine goesL_ (some 12) rfl rfl Try.func41 (by kernel_rfl) rfl #[.agg #[.int .i64 a0_0, .int .i64 a0_1], .agg #[.int .i64 a1_0, .int .i64 a1_1], .agg #[.int .i64 a2_0, .int .i64 a2_1]] rfl (by (try simp only [pml]); first | done | rfl | (simp only [pdt]; rfl)) ?_; (with_reducible refine (p_on.calls k a0_0 a0_1 a1_0 a1_1 a2_0 a2_1 false _ A10.out).mono ?_); rintro e w49 ⟨rfl, hb⟩; refine ⟨_, rfl, ?_⟩; have n0_ := am (bb (g := gb123) (o := .cells #[.int .i64 a0_0, .int .i64 a0_1] 23 (0, 0)) (by (with_reducible repeat first | apply bN | apply bd | apply ba); exact BK123.out) hb); have n1_ := am (bb (g := gb124) (o := .cells #[.int .i64 a1_0, .int .i64 a1_1] 23 (0, 0)) (by (with_reducible repeat first | apply bN | apply bd | apply ba); exact BK124.out) hb); have n2_ := am (bb (g := gb125) (o := .cells #[.int .i64 a2_0, .int .i64 a2_1] 23 (0, 0)) (by (with_reducible repeat first | apply bN | apply bd | apply ba); exact BK125.out) hb); have n3_ := am (bb (g := gb126) (o := .cells #[.int .i64 a3_0, .int .i64 a3_1] 23 (0, 0)) (by (with_reducible repeat first | apply bN | apply bd | apply ba); exact BK126.out) hb); have n4_ := am (wt (by repeat (first | (with_reducible first | exact HB.out | apply wa | apply wN | apply wd | refine ws ?_ GE123.out | refine ws ?_ GE124.out | refine ws ?_ GE125.out | refine ws ?_ GE126.out) | exact HB.out)) hb); clear BK123 BK124 BK125 BK126 HB; have BK123 := n0_; have BK124 := n1_; have BK125 := n2_; have BK126 := n3_; have HB := n4_; clear n0_ n1_ n2_ n3_ n4_; (try clear hb); (try clear hb2); (try clear hk); (try clear hi); have hcz50_0 : w49.cell? ⟨gb123, 0, none⟩ = some (.int .i64 a0_0) := (bc BK123.out 0).trans rfl; have hcz50_1 : w49.cell? ⟨gb123, 1, none⟩ = some (.int .i64 a0_1) := (bc BK123.out 1).trans rfl; have hfz50_0 := bf BK123.out 0; have hfz50_1 := bf BK123.out 1; have hcz51_0 : w49.cell? ⟨gb124, 0, none⟩ = some (.int .i64 a1_0) := (bc BK124.out 0).trans rfl; have hcz51_1 : w49.cell? ⟨gb124, 1, none⟩ = some (.int .i64 a1_1) := (bc BK124.out 1).trans rfl; have hfz51_0 := bf BK124.out 0; have hfz51_1 := bf BK124.out 1; have hcz52_0 : w49.cell? ⟨gb126, 0, none⟩ = some (.int .i64 a3_0) := (bc BK126.out 0).trans rfl; have hcz52_1 : w49.cell? ⟨gb126, 1, none⟩ = some (.int .i64 a3_1) := (bc BK126.out 1).trans rfl; have hfz52_0 := bf BK126.out 0; have hfz52_1 := bf BK126.out 1) | (go_at_call 41; (with_reducible refine (p_on.calls k a0_0 a0_1 a1_0 a1_1 a3_0 a3_1 false _ A22.out).mono ?_); rintro e w53 ⟨rfl, hb⟩; have n0_ := am (bb (g := gb123) (o := .cells #[.int .i64 a0_0, .int .i64 a0_1] 23 (0, 0)) (by (with_reducible repeat first | apply bN | apply bd | apply ba); exact BK123.out) hb); have n1_ := am (bb (g := gb124) (o := .cells #[.int .i64 a1_0, .int .i64 a1_1] 23 (0, 0)) (by (with_reducible repeat first | apply bN | apply bd | apply ba); exact BK124.out) hb); have n2_ := am (bb (g := gb125) (o := .cells #[.int .i64 a2_0, .int .i64 a2_1] 23 (0, 0)) (by (with_reducible repeat first | apply bN | apply bd | apply ba); exact BK125.out) hb); have n3_ := am (bb (g := gb126) (o := .cells #[.int .i64 a3_0, .int .i64 a3_1] 23 (0, 0)) (by (with_reducible repeat first | apply bN | apply bd | apply ba); exact BK126.out) hb); have n4_ := am (wt (by repeat (first | (with_reducible first | exact HB.out | apply wa | apply wN | apply wd | refine ws ?_ GE123.out | refine ws ?_ GE124.out | refine ws ?_ GE125.out | refine ws ?_ GE126.out) | exact HB.out)) hb); clear BK123 BK124 BK125 BK126 HB; have BK123 := n0_; have BK124 := n1_; have BK125 := n2_; have BK126 := n3_; have HB := n4_; clear n0_ n1_ n2_ n3_ n4_; (try clear hb); (try clear hb2); (try clear hk); (try clear hi); have hcz54_0 : w53.cell? ⟨gb125, 0, none⟩ = some (.int .i64 a2_0) := (bc BK125.out 0).trans rfl; have hcz54_1 : w53.cell? ⟨gb125, 1, none⟩ = some (.int .i64 a2_1) := (bc BK125.out 1).trans rfl; have hfz54_0 := bf BK125.out 0; have hfz54_1 := bf BK125.out 1; have hcz55_0 : w53.cell? ⟨gb126, 0, none⟩ = some (.int .i64 a3_0) := (bc BK126.out 0).trans rfl; have hcz55_1 : w53.cell? ⟨gb126, 1, none⟩ = some (.int .i64 a3_1) := (bc BK126.out 1).trans rfl; have hfz55_0 := bf BK126.out 0; have hfz55_1 := bf BK126.out 1; have hcz56_0 : w53.cell? ⟨gb123, 0, none⟩ = some (.int .i64 a0_0) := (bc BK123.out 0).trans rfl; have hcz56_1 : w53.cell? ⟨gb123, 1, none⟩ = some (.int .i64 a0_1) := (bc BK123.out 1).trans rfl; have hfz56_0 := bf BK123.out 0; have hfz56_1 := bf BK123.out 1) | (go_at_call 41; (with_reducible refine (p_on.calls k a2_0 a2_1 a3_0 a3_1 a0_0 a0_1 true _ A38.out).mono ?_); rintro e w57 ⟨rfl, hb⟩; have n0_ := am (bb (g := gb123) (o := .cells #[.int .i64 a0_0, .int .i64 a0_1] 23 (0, 0)) (by (with_reducible repeat first | apply bN | apply bd | apply ba); exact BK123.out) hb); have n1_ := am (bb (g := gb124) (o := .cells #[.int .i64 a1_0, .int .i64 a1_1] 23 (0, 0)) (by (with_reducible repeat first | apply bN | apply bd | apply ba); exact BK124.out) hb); have n2_ := am (bb (g := gb125) (o := .cells #[.int .i64 a2_0, .int .i64 a2_1] 23 (0, 0)) (by (with_reducible repeat first | apply bN | apply bd | apply ba); exact BK125.out) hb); have n3_ := am (bb (g := gb126) (o := .cells #[.int .i64 a3_0, .int .i64 a3_1] 23 (0, 0)) (by (with_reducible repeat first | apply bN | apply bd | apply ba); exact BK126.out) hb); have n4_ := am (wt (by repeat (first | (with_reducible first | exact HB.out | apply wa | apply wN | apply wd | refine ws ?_ GE123.out | refine ws ?_ GE124.out | refine ws ?_ GE125.out | refine ws ?_ GE126.out) | exact HB.out)) hb); clear BK123 BK124 BK125 BK126 HB; have BK123 := n0_; have BK124 := n1_; have BK125 := n2_; have BK126 := n3_; have HB := n4_; clear n0_ n1_ n2_ n3_ n4_; (try clear hb); (try clear hb2); (try clear hk); (try clear hi)))
   go_meet
   case rel => exact ⟨_, (true), (by first | rfl | (simp; done) | (simp [*]; done)), H', ⟨by first | omega | exact Nat.le_refl _⟩, ⟨by (with_reducible repeat first | apply bN | apply bd | apply ba); exact BK123.out⟩, ⟨by (with_reducible repeat first | apply bN | apply bd | apply ba); exact BK124.out⟩, ⟨by (with_reducible repeat first | apply bN | apply bd | apply ba); exact BK125.out⟩, ⟨by (with_reducible repeat first | apply bN | apply bd | apply ba); exact BK126.out⟩, ⟨by repeat (first | (with_reducible first | exact HB.out | apply wa | apply wN | apply wd | refine ws ?_ GE123.out | refine ws ?_ GE124.out | refine ws ?_ GE125.out | refine ws ?_ GE126.out) | exact HB.out)⟩⟩
  replace c39 := Bool.eq_false_iff.mpr c39
  subst c39
  have H1 : ((p_on.f k a2_0 a2_1 a3_0 a3_1 a1_0 a1_1).bind fun t130 => (p_meet.j0 k t130 a0_0 a0_1 a1_0 a1_1 a2_0 a2_1 a3_0 a3_1)) = some r := by rw [if_neg (show ¬ (false = true) by decide)] at H; exact H
  clear H
  have H := H1
  clear H1
  replace H := Option.bind_eq_some_iff.mp H
  obtain ⟨t130, A580, H⟩ := H
  replace H : (p_meet.j0 k t130 a0_0 a0_1 a1_0 a1_1 a2_0 a2_1 a3_0 a3_1) = some r := H
  have A58 := am A580
  clear A580
  have H' := am H
  clear H
  have hnb59 := NB123_124.out
  have hnc59 := NB124_123.out
  have hnb60 := NB123_125.out
  have hnc60 := NB125_123.out
  have hnb61 := NB123_126.out
  have hnc61 := NB126_123.out
  have hcz62_0 : w9.cell? ⟨gb123, 0, none⟩ = some (.int .i64 a0_0) := (bc BK123.out 0).trans rfl
  have hcz62_1 : w9.cell? ⟨gb123, 1, none⟩ = some (.int .i64 a0_1) := (bc BK123.out 1).trans rfl
  have hfz62_0 := bf BK123.out 0
  have hfz62_1 := bf BK123.out 1
  have hnb63 := NB124_125.out
  have hnc63 := NB125_124.out
  have hnb64 := NB124_126.out
  have hnc64 := NB126_124.out
  have hcz65_0 : w9.cell? ⟨gb124, 0, none⟩ = some (.int .i64 a1_0) := (bc BK124.out 0).trans rfl
  have hcz65_1 : w9.cell? ⟨gb124, 1, none⟩ = some (.int .i64 a1_1) := (bc BK124.out 1).trans rfl
  have hfz65_0 := bf BK124.out 0
  have hfz65_1 := bf BK124.out 1
  have hnb66 := NB125_126.out
  have hnc66 := NB126_125.out
  have hcz67_0 : w9.cell? ⟨gb125, 0, none⟩ = some (.int .i64 a2_0) := (bc BK125.out 0).trans rfl
  have hcz67_1 : w9.cell? ⟨gb125, 1, none⟩ = some (.int .i64 a2_1) := (bc BK125.out 1).trans rfl
  have hfz67_0 := bf BK125.out 0
  have hfz67_1 := bf BK125.out 1
  go_wp2_with (first | ((with_reducible refine gate_callee (f := 41) rfl ?_); refine goesL_ (some 12) rfl rfl Try.func41 (by kernel_rfl) rfl #[.agg #[.int .i64 a0_0, .int .i64 a0_1], .agg #[.int .i64 a1_0, .int .i64 a1_1], .agg #[.int .i64 a2_0, .int .i64 a2_1]] rfl (by (try simp only [pml]); first | done | rfl | (simp only [pdt]; rfl)) ?_; (with_reducible refine (p_on.calls k a0_0 a0_1 a1_0 a1_1 a2_0 a2_1 false _ A10.out).mono ?_); rintro e w68 ⟨rfl, hb⟩; refine ⟨_, rfl, ?_⟩; have n0_ := am (bb (g := gb123) (o := .cells #[.int .i64 a0_0, .int .i64 a0_1] 23 (0, 0)) (by (with_reducible repeat first | apply bN | apply bd | apply ba); exact BK123.out) hb); have n1_ := am (bb (g := gb124) (o := .cells #[.int .i64 a1_0, .int .i64 a1_1] 23 (0, 0)) (by (with_reducible repeat first | apply bN | apply bd | apply ba); exact BK124.out) hb); have n2_ := am (bb (g := gb125) (o := .cells #[.int .i64 a2_0, .int .i64 a2_1] 23 (0, 0)) (by (with_reducible repeat first | apply bN | apply bd | apply ba); exact BK125.out) hb); have n3_ := am (bb (g := gb126) (o := .cells #[.int .i64 a3_0, .int .i64 a3_1] 23 (0, 0)) (by (with_reducible repeat first | apply bN | apply bd | apply ba); exact BK126.out) hb); have n4_ := am (wt (by repeat (first | (with_reducible first | exact HB.out | apply wa | apply wN | apply wd | refine ws ?_ GE123.out | refine ws ?_ GE124.out | refine ws ?_ GE125.out | refine ws ?_ GE126.out) | exact HB.out)) hb); clear BK123 BK124 BK125 BK126 HB; have BK123 := n0_; have BK124 := n1_; have BK125 := n2_; have BK126 := n3_; have HB := n4_; clear n0_ n1_ n2_ n3_ n4_; (try clear hb); (try clear hb2); (try clear hk); (try clear hi); have hcz69_0 : w68.cell? ⟨gb123, 0, none⟩ = some (.int .i64 a0_0) := (bc BK123.out 0).trans rfl; have hcz69_1 : w68.cell? ⟨gb123, 1, none⟩ = some (.int .i64 a0_1) := (bc BK123.out 1).trans rfl; have hfz69_0 := bf BK123.out 0; have hfz69_1 := bf BK123.out 1; have hcz70_0 : w68.cell? ⟨gb124, 0, none⟩ = some (.int .i64 a1_0) := (bc BK124.out 0).trans rfl; have hcz70_1 : w68.cell? ⟨gb124, 1, none⟩ = some (.int .i64 a1_1) := (bc BK124.out 1).trans rfl; have hfz70_0 := bf BK124.out 0; have hfz70_1 := bf BK124.out 1; have hcz71_0 : w68.cell? ⟨gb126, 0, none⟩ = some (.int .i64 a3_0) := (bc BK126.out 0).trans rfl; have hcz71_1 : w68.cell? ⟨gb126, 1, none⟩ = some (.int .i64 a3_1) := (bc BK126.out 1).trans rfl; have hfz71_0 := bf BK126.out 0; have hfz71_1 := bf BK126.out 1) | (go_at_call 41; (with_reducible refine (p_on.calls k a0_0 a0_1 a1_0 a1_1 a3_0 a3_1 false _ A22.out).mono ?_); rintro e w72 ⟨rfl, hb⟩; have n0_ := am (bb (g := gb123) (o := .cells #[.int .i64 a0_0, .int .i64 a0_1] 23 (0, 0)) (by (with_reducible repeat first | apply bN | apply bd | apply ba); exact BK123.out) hb); have n1_ := am (bb (g := gb124) (o := .cells #[.int .i64 a1_0, .int .i64 a1_1] 23 (0, 0)) (by (with_reducible repeat first | apply bN | apply bd | apply ba); exact BK124.out) hb); have n2_ := am (bb (g := gb125) (o := .cells #[.int .i64 a2_0, .int .i64 a2_1] 23 (0, 0)) (by (with_reducible repeat first | apply bN | apply bd | apply ba); exact BK125.out) hb); have n3_ := am (bb (g := gb126) (o := .cells #[.int .i64 a3_0, .int .i64 a3_1] 23 (0, 0)) (by (with_reducible repeat first | apply bN | apply bd | apply ba); exact BK126.out) hb); have n4_ := am (wt (by repeat (first | (with_reducible first | exact HB.out | apply wa | apply wN | apply wd | refine ws ?_ GE123.out | refine ws ?_ GE124.out | refine ws ?_ GE125.out | refine ws ?_ GE126.out) | exact HB.out)) hb); clear BK123 BK124 BK125 BK126 HB; have BK123 := n0_; have BK124 := n1_; have BK125 := n2_; have BK126 := n3_; have HB := n4_; clear n0_ n1_ n2_ n3_ n4_; (try clear hb); (try clear hb2); (try clear hk); (try clear hi); have hcz73_0 : w72.cell? ⟨gb125, 0, none⟩ = some (.int .i64 a2_0) := (bc BK125.out 0).trans rfl; have hcz73_1 : w72.cell? ⟨gb125, 1, none⟩ = some (.int .i64 a2_1) := (bc BK125.out 1).trans rfl; have hfz73_0 := bf BK125.out 0; have hfz73_1 := bf BK125.out 1; have hcz74_0 : w72.cell? ⟨gb126, 0, none⟩ = some (.int .i64 a3_0) := (bc BK126.out 0).trans rfl; have hcz74_1 : w72.cell? ⟨gb126, 1, none⟩ = some (.int .i64 a3_1) := (bc BK126.out 1).trans rfl; have hfz74_0 := bf BK126.out 0; have hfz74_1 := bf BK126.out 1; have hcz75_0 : w72.cell? ⟨gb123, 0, none⟩ = some (.int .i64 a0_0) := (bc BK123.out 0).trans rfl; have hcz75_1 : w72.cell? ⟨gb123, 1, none⟩ = some (.int .i64 a0_1) := (bc BK123.out 1).trans rfl; have hfz75_0 := bf BK123.out 0; have hfz75_1 := bf BK123.out 1) | (go_at_call 41; (with_reducible refine (p_on.calls k a2_0 a2_1 a3_0 a3_1 a0_0 a0_1 false _ A38.out).mono ?_); rintro e w76 ⟨rfl, hb⟩; have n0_ := am (bb (g := gb123) (o := .cells #[.int .i64 a0_0, .int .i64 a0_1] 23 (0, 0)) (by (with_reducible repeat first | apply bN | apply bd | apply ba); exact BK123.out) hb); have n1_ := am (bb (g := gb124) (o := .cells #[.int .i64 a1_0, .int .i64 a1_1] 23 (0, 0)) (by (with_reducible repeat first | apply bN | apply bd | apply ba); exact BK124.out) hb); have n2_ := am (bb (g := gb125) (o := .cells #[.int .i64 a2_0, .int .i64 a2_1] 23 (0, 0)) (by (with_reducible repeat first | apply bN | apply bd | apply ba); exact BK125.out) hb); have n3_ := am (bb (g := gb126) (o := .cells #[.int .i64 a3_0, .int .i64 a3_1] 23 (0, 0)) (by (with_reducible repeat first | apply bN | apply bd | apply ba); exact BK126.out) hb); have n4_ := am (wt (by repeat (first | (with_reducible first | exact HB.out | apply wa | apply wN | apply wd | refine ws ?_ GE123.out | refine ws ?_ GE124.out | refine ws ?_ GE125.out | refine ws ?_ GE126.out) | exact HB.out)) hb); clear BK123 BK124 BK125 BK126 HB; have BK123 := n0_; have BK124 := n1_; have BK125 := n2_; have BK126 := n3_; have HB := n4_; clear n0_ n1_ n2_ n3_ n4_; (try clear hb); (try clear hb2); (try clear hk); (try clear hi); have hcz77_0 : w76.cell? ⟨gb125, 0, none⟩ = some (.int .i64 a2_0) := (bc BK125.out 0).trans rfl; have hcz77_1 : w76.cell? ⟨gb125, 1, none⟩ = some (.int .i64 a2_1) := (bc BK125.out 1).trans rfl; have hfz77_0 := bf BK125.out 0; have hfz77_1 := bf BK125.out 1; have hcz78_0 : w76.cell? ⟨gb126, 0, none⟩ = some (.int .i64 a3_0) := (bc BK126.out 0).trans rfl; have hcz78_1 : w76.cell? ⟨gb126, 1, none⟩ = some (.int .i64 a3_1) := (bc BK126.out 1).trans rfl; have hfz78_0 := bf BK126.out 0; have hfz78_1 := bf BK126.out 1; have hcz79_0 : w76.cell? ⟨gb124, 0, none⟩ = some (.int .i64 a1_0) := (bc BK124.out 0).trans rfl; have hcz79_1 : w76.cell? ⟨gb124, 1, none⟩ = some (.int .i64 a1_1) := (bc BK124.out 1).trans rfl; have hfz79_0 := bf BK124.out 0; have hfz79_1 := bf BK124.out 1) | (go_at_call 41; (with_reducible refine (p_on.calls k a2_0 a2_1 a3_0 a3_1 a1_0 a1_1 t130 _ A58.out).mono ?_); rintro e w80 ⟨rfl, hb⟩; have n0_ := am (bb (g := gb123) (o := .cells #[.int .i64 a0_0, .int .i64 a0_1] 23 (0, 0)) (by (with_reducible repeat first | apply bN | apply bd | apply ba); exact BK123.out) hb); have n1_ := am (bb (g := gb124) (o := .cells #[.int .i64 a1_0, .int .i64 a1_1] 23 (0, 0)) (by (with_reducible repeat first | apply bN | apply bd | apply ba); exact BK124.out) hb); have n2_ := am (bb (g := gb125) (o := .cells #[.int .i64 a2_0, .int .i64 a2_1] 23 (0, 0)) (by (with_reducible repeat first | apply bN | apply bd | apply ba); exact BK125.out) hb); have n3_ := am (bb (g := gb126) (o := .cells #[.int .i64 a3_0, .int .i64 a3_1] 23 (0, 0)) (by (with_reducible repeat first | apply bN | apply bd | apply ba); exact BK126.out) hb); have n4_ := am (wt (by repeat (first | (with_reducible first | exact HB.out | apply wa | apply wN | apply wd | refine ws ?_ GE123.out | refine ws ?_ GE124.out | refine ws ?_ GE125.out | refine ws ?_ GE126.out) | exact HB.out)) hb); clear BK123 BK124 BK125 BK126 HB; have BK123 := n0_; have BK124 := n1_; have BK125 := n2_; have BK126 := n3_; have HB := n4_; clear n0_ n1_ n2_ n3_ n4_; (try clear hb); (try clear hb2); (try clear hk); (try clear hi)))
  go_meet
  case rel => exact ⟨_, (t130), (by first | rfl | (simp; done) | (simp [*]; done)), H', ⟨by first | omega | exact Nat.le_refl _⟩, ⟨by (with_reducible repeat first | apply bN | apply bd | apply ba); exact BK123.out⟩, ⟨by (with_reducible repeat first | apply bN | apply bd | apply ba); exact BK124.out⟩, ⟨by (with_reducible repeat first | apply bN | apply bd | apply ba); exact BK125.out⟩, ⟨by (with_reducible repeat first | apply bN | apply bd | apply ba); exact BK126.out⟩, ⟨by repeat (first | (with_reducible first | exact HB.out | apply wa | apply wN | apply wd | refine ws ?_ GE123.out | refine ws ?_ GE124.out | refine ws ?_ GE125.out | refine ws ?_ GE126.out) | exact HB.out)⟩⟩
 case rest =>
  clear HC5
  try clear c1;try clear c2;try clear p2;try clear c3;try clear c4;try clear c5;try clear c6;try clear c11;try clear c12;try clear c13;try clear c14;try clear c16;try clear c17;try clear c19;try clear c23;try clear c24;try clear c25;try clear c26;try clear c28;try clear c29;try clear c31;try clear c39;try clear c40;try clear c41;try clear c42;try clear c44;try clear c45;try clear c47;try clear c59;try clear c60;try clear c61;try clear c62;try clear c63;try clear c64;try clear c66;try clear hcz15_0;try clear hcz15_1;try clear hcz18_0;try clear hcz18_1;try clear hcz20_0;try clear hcz20_1;try clear hcz27_0;try clear hcz27_1;try clear hcz30_0;try clear hcz30_1;try clear hcz32_0;try clear hcz32_1;try clear hcz34_0;try clear hcz34_1;try clear hcz35_0;try clear hcz35_1;try clear hcz36_0;try clear hcz36_1;try clear hcz43_0;try clear hcz43_1;try clear hcz46_0;try clear hcz46_1;try clear hcz48_0;try clear hcz48_1;try clear hcz50_0;try clear hcz50_1;try clear hcz51_0;try clear hcz51_1;try clear hcz52_0;try clear hcz52_1;try clear hcz54_0;try clear hcz54_1;try clear hcz55_0;try clear hcz55_1;try clear hcz56_0;try clear hcz56_1;try clear hcz62_0;try clear hcz62_1;try clear hcz65_0;try clear hcz65_1;try clear hcz67_0;try clear hcz67_1;try clear hcz69_0;try clear hcz69_1;try clear hcz70_0;try clear hcz70_1;try clear hcz71_0;try clear hcz71_1;try clear hcz73_0;try clear hcz73_1;try clear hcz74_0;try clear hcz74_1;try clear hcz75_0;try clear hcz75_1;try clear hcz77_0;try clear hcz77_1;try clear hcz78_0;try clear hcz78_1;try clear hcz79_0;try clear hcz79_1;try clear hfz15_0;try clear hfz15_1;try clear hfz18_0;try clear hfz18_1;try clear hfz20_0;try clear hfz20_1;try clear hfz27_0;try clear hfz27_1;try clear hfz30_0;try clear hfz30_1;try clear hfz32_0;try clear hfz32_1;try clear hfz34_0;try clear hfz34_1;try clear hfz35_0;try clear hfz35_1;try clear hfz36_0;try clear hfz36_1;try clear hfz43_0;try clear hfz43_1;try clear hfz46_0;try clear hfz46_1;try clear hfz48_0;try clear hfz48_1;try clear hfz50_0;try clear hfz50_1;try clear hfz51_0;try clear hfz51_1;try clear hfz52_0;try clear hfz52_1;try clear hfz54_0;try clear hfz54_1;try clear hfz55_0;try clear hfz55_1;try clear hfz56_0;try clear hfz56_1;try clear hfz62_0;try clear hfz62_1;try clear hfz65_0;try clear hfz65_1;try clear hfz67_0;try clear hfz67_1;try clear hfz69_0;try clear hfz69_1;try clear hfz70_0;try clear hfz70_1;try clear hfz71_0;try clear hfz71_1;try clear hfz73_0;try clear hfz73_1;try clear hfz74_0;try clear hfz74_1;try clear hfz75_0;try clear hfz75_1;try clear hfz77_0;try clear hfz77_1;try clear hfz78_0;try clear hfz78_1;try clear hfz79_0;try clear hfz79_1
  obtain ⟨kq, x30_4, rfl, HA, HJ4, BK123, BK124, BK125, BK126, HB⟩ := hcut
  cases kq with
  | zero => exact absurd HA.out (by simp [p_meet.j0])
  | succ kj4 =>
   have H := HA.out
   clear HA
   simp only [p_meet.j0] at H
   by_cases c81 : x30_4 = true
   ·subst c81
    have H1 : (some true) = some r := by rw [if_pos rfl] at H; exact H
    clear H
    have H := H1
    clear H1
    obtain rfl := Option.some.inj H
    go_wp2
    go_ret
    exact ⟨by first | rfl | (simp [errW_none, errW_some] <;> rfl) | (simp [*, errW_none, errW_some] <;> rfl), by repeat (first | (with_reducible first | exact HB.out | apply wa | apply wN | apply wd | refine ws ?_ GE123.out | refine ws ?_ GE124.out | refine ws ?_ GE125.out | refine ws ?_ GE126.out) | exact HB.out)⟩
   ·replace c81 := Bool.eq_false_iff.mpr c81
    subst c81
    have H1 : ((p_Orient.f a0_0 a0_1 a1_0 a1_1 a2_0 a2_1).bind fun t131 => ((p_Orient.f a0_0 a0_1 a1_0 a1_1 a3_0 a3_1).bind fun t132 => (if (wrap64 (t131 * t132)) < 0 then ((p_Orient.f a2_0 a2_1 a3_0 a3_1 a0_0 a0_1).bind fun t133 => ((p_Orient.f a2_0 a2_1 a3_0 a3_1 a1_0 a1_1).bind fun t134 => (some (decide ((wrap64 (t133 * t134)) < 0))))) else (some false)))) = some r := by rw [if_neg (show ¬ (false = true) by decide)] at H; exact H
    clear H
    have H := H1
    clear H1
    replace H := Option.bind_eq_some_iff.mp H
    obtain ⟨t131, A820, H⟩ := H
    replace H : ((p_Orient.f a0_0 a0_1 a1_0 a1_1 a3_0 a3_1).bind fun t132 => (if (wrap64 (t131 * t132)) < 0 then ((p_Orient.f a2_0 a2_1 a3_0 a3_1 a0_0 a0_1).bind fun t133 => ((p_Orient.f a2_0 a2_1 a3_0 a3_1 a1_0 a1_1).bind fun t134 => (some (decide ((wrap64 (t133 * t134)) < 0))))) else (some false))) = some r := H
    have A82 := am A820
    clear A820
    replace H := Option.bind_eq_some_iff.mp H
    obtain ⟨t132, A830, H⟩ := H
    replace H : (if (wrap64 (t131 * t132)) < 0 then ((p_Orient.f a2_0 a2_1 a3_0 a3_1 a0_0 a0_1).bind fun t133 => ((p_Orient.f a2_0 a2_1 a3_0 a3_1 a1_0 a1_1).bind fun t134 => (some (decide ((wrap64 (t133 * t134)) < 0))))) else (some false)) = some r := H
    have A83 := am A830
    clear A830
    by_cases c84 : (wrap64 (t131 * t132)) < 0
    ·rw [if_pos c84] at H
     have c84b0 : decide ((wrap64 (t131 * t132)) < 0) = true := decide_eq_true c84
     clear c84
     replace H := Option.bind_eq_some_iff.mp H
     obtain ⟨t133, A850, H⟩ := H
     replace H : ((p_Orient.f a2_0 a2_1 a3_0 a3_1 a1_0 a1_1).bind fun t134 => (some (decide ((wrap64 (t133 * t134)) < 0)))) = some r := H
     have A85 := am A850
     clear A850
     replace H := Option.bind_eq_some_iff.mp H
     obtain ⟨t134, A860, H⟩ := H
     replace H : (some (decide ((wrap64 (t133 * t134)) < 0))) = some r := H
     have A86 := am A860
     clear A860
     obtain rfl := Option.some.inj H
     try go_wp2
     have n0_ := am (bd BK123.out)
     have n1_ := am (bd BK124.out)
     have n2_ := am (bd BK125.out)
     have n3_ := am (bd BK126.out)
     have n4_ := am (wd HB.out)
     clear BK123 BK124 BK125 BK126 HB
     have BK123 := n0_
     have BK124 := n1_
     have BK125 := n2_
     have BK126 := n3_
     have HB := n4_
     clear n0_ n1_ n2_ n3_ n4_
     refine start_ (n := 23) (S := fun w' => w'.cell? ⟨gb123, 0, none⟩ = some (.int .i64 a0_0) ∧ w'.cell? ⟨gb123, 1, none⟩ = some (.int .i64 a0_1) ∧ w'.cell? ⟨gb124, 0, none⟩ = some (.int .i64 a1_0) ∧ w'.cell? ⟨gb124, 1, none⟩ = some (.int .i64 a1_1) ∧ w'.cell? ⟨gb125, 0, none⟩ = some (.int .i64 a2_0) ∧ w'.cell? ⟨gb125, 1, none⟩ = some (.int .i64 a2_1) ∧ w'.cell? ⟨gb126, 0, none⟩ = some (.int .i64 a3_0) ∧ w'.cell? ⟨gb126, 1, none⟩ = some (.int .i64 a3_1)) (ds := []) #[F,F,F,F,F,F,F,F,F,F,F,F,F,F,F,F,F,F,F,F,F,F,F] (by kernel_rfl) rfl rfl ⟨(bc BK123.out 0).trans rfl, (bc BK123.out 1).trans rfl, (bc BK124.out 0).trans rfl, (bc BK124.out 1).trans rfl, (bc BK125.out 0).trans rfl, (bc BK125.out 1).trans rfl, (bc BK126.out 0).trans rfl, (bc BK126.out 1).trans rfl⟩ (fun hHeld => ?_); refine with_tabW p_meet.tab3 p_meet.bits3 (fun HT_ HW_ => ?_)
     generalize wc.drew = w87 at BK123 BK124 BK125 BK126 HB hHeld ⊢
     refine take_ (i := 0) (N := some 31) (v := ?_) (a' := ?_) #[T,F,F,F,F,F,F,F,F,F,F,F,F,F,F,F,F,F,F,F,F,F,F] rfl rfl (take_ofW HT_.out HW_.out (by kernel_rfl)) (fun _ _ _ h => h) (Or.inl ⟨by rfl, ?_⟩) hHeld ?_ ?_
     rotate_left
     ·rintro w' ⟨s0, s1, s2, s3, s4, s5, s6, s7⟩
      go_simp
      with_reducible rfl
     rotate_left
     ·simp only [Act.put, psl, i64_w, i32_w]
      rfl
     refine take_ (i := 1) (N := some 32) (v := ?_) (a' := ?_) #[T,T,F,F,F,F,F,F,F,F,F,F,F,F,F,F,F,F,F,F,F,F,F] rfl rfl (take_ofW HT_.out HW_.out (by kernel_rfl)) (fun _ _ _ h => h) (Or.inl ⟨by rfl, ?_⟩) hHeld ?_ ?_
     rotate_left
     ·rintro w' ⟨s0, s1, s2, s3, s4, s5, s6, s7⟩
      go_simp
      with_reducible rfl
     rotate_left
     ·simp only [Act.put, psl, i64_w, i32_w]
      rfl
     refine take_ (i := 2) (N := some 33) (v := ?_) (a' := ?_) #[T,T,T,F,F,F,F,F,F,F,F,F,F,F,F,F,F,F,F,F,F,F,F] rfl rfl (take_ofW HT_.out HW_.out (by kernel_rfl)) (fun _ _ _ h => h) (Or.inl ⟨by rfl, ?_⟩) hHeld ?_ ?_
     rotate_left
     ·rintro w' ⟨s0, s1, s2, s3, s4, s5, s6, s7⟩
      go_simp
      with_reducible rfl
     rotate_left
     ·simp only [Act.put, psl, i64_w, i32_w]
      rfl
     refine take_ (i := 4) (N := some 35) (v := ?_) (a' := ?_) #[T,T,T,F,T,F,F,F,F,F,F,F,F,F,F,F,F,F,F,F,F,F,F] rfl rfl (take_ofW HT_.out HW_.out (by kernel_rfl)) (fun _ _ _ h => h) (Or.inl ⟨by rfl, ?_⟩) hHeld ?_ ?_
     rotate_left
     ·rintro w' ⟨s0, s1, s2, s3, s4, s5, s6, s7⟩
      go_simp
      with_reducible rfl
     rotate_left
     ·simp only [Act.put, psl, i64_w, i32_w]
      rfl
     refine take_ (i := 5) (N := some 36) (v := ?_) (a' := ?_) #[T,T,T,F,T,T,F,F,F,F,F,F,F,F,F,F,F,F,F,F,F,F,F] rfl rfl (take_ofW HT_.out HW_.out (by kernel_rfl)) (fun _ _ _ h => h) (Or.inl ⟨by rfl, ?_⟩) hHeld ?_ ?_
     rotate_left
     ·rintro w' ⟨s0, s1, s2, s3, s4, s5, s6, s7⟩
      go_simp
      with_reducible rfl
     rotate_left
     ·simp only [Act.put, psl, i64_w, i32_w]
      rfl
     refine take_ (i := 6) (N := some 37) (v := ?_) (a' := ?_) #[T,T,T,F,T,T,T,F,F,F,F,F,F,F,F,F,F,F,F,F,F,F,F] rfl rfl (take_ofW HT_.out HW_.out (by kernel_rfl)) (fun _ _ _ h => h) (Or.inl ⟨by rfl, ?_⟩) hHeld ?_ ?_
     rotate_left
     ·rintro w' ⟨s0, s1, s2, s3, s4, s5, s6, s7⟩
      go_simp
      with_reducible rfl
     rotate_left
     ·simp only [Act.put, psl, i64_w, i32_w]
      rfl
     refine one_ (i := 3) (N := some 34) #[T,T,T,T,T,T,T,F,F,F,F,F,F,F,F,F,F,F,F,F,F,F,F] rfl rfl (one_of HT_.out (by kernel_rfl)) (by decide) (fun K hK => ?_)
     refine goes_ Try.func13 (by kernel_rfl) rfl #[.agg #[.int .i64 a0_0, .int .i64 a0_1], .agg #[.int .i64 a1_0, .int .i64 a1_1], .agg #[.int .i64 a2_0, .int .i64 a2_1]] (by rfl) rfl rfl (by (try simp only [pml]); first | done | rfl | (simp only [pdt]; rfl)) ?_
     with_reducible refine (p_Orient.calls a0_0 a0_1 a1_0 a1_1 a2_0 a2_1 t131 _ A82.out).mono ?_
     rintro e w88 ⟨rfl, hb⟩
     refine ⟨_, rfl, ?_⟩
     have n0_ := am (bb (g := gb123) (o := .cells #[.int .i64 a0_0, .int .i64 a0_1] 23 (0, 0)) (by (with_reducible repeat first | apply bN | apply bd | apply ba); exact BK123.out) hb)
     have n1_ := am (bb (g := gb124) (o := .cells #[.int .i64 a1_0, .int .i64 a1_1] 23 (0, 0)) (by (with_reducible repeat first | apply bN | apply bd | apply ba); exact BK124.out) hb)
     have n2_ := am (bb (g := gb125) (o := .cells #[.int .i64 a2_0, .int .i64 a2_1] 23 (0, 0)) (by (with_reducible repeat first | apply bN | apply bd | apply ba); exact BK125.out) hb)
     have n3_ := am (bb (g := gb126) (o := .cells #[.int .i64 a3_0, .int .i64 a3_1] 23 (0, 0)) (by (with_reducible repeat first | apply bN | apply bd | apply ba); exact BK126.out) hb)
     have n4_ := am (wt (by repeat (first | (with_reducible first | exact HB.out | apply wa | apply wN | apply wd | refine ws ?_ GE123.out | refine ws ?_ GE124.out | refine ws ?_ GE125.out | refine ws ?_ GE126.out) | exact HB.out)) hb)
     clear BK123 BK124 BK125 BK126 HB
     have BK123 := n0_
     have BK124 := n1_
     have BK125 := n2_
     have BK126 := n3_
     have HB := n4_
     clear n0_ n1_ n2_ n3_ n4_
     (try clear hb)
     (try clear hb2)
     (try clear hk)
     (try clear hi)
     refine hK.out _ _ ⟨(bc BK123.out 0).trans rfl, (bc BK123.out 1).trans rfl, (bc BK124.out 0).trans rfl, (bc BK124.out 1).trans rfl, (bc BK125.out 0).trans rfl, (bc BK125.out 1).trans rfl, (bc BK126.out 0).trans rfl, (bc BK126.out 1).trans rfl⟩ (fun hHeld => ?_)
     clear hK K
     refine norm_ (a' := ?_) ?_ ?_
     rotate_left
     ·show Act.put _ (some 34) _ = _
      simp only [Act.put, psl, i64_w, i32_w]
      rfl
     refine one_ (i := 7) (N := some 38) #[T,T,T,T,T,T,T,T,F,F,F,F,F,F,F,F,F,F,F,F,F,F,F] rfl rfl (one_of HT_.out (by kernel_rfl)) (by decide) (fun K hK => ?_)
     refine goes_ Try.func13 (by kernel_rfl) rfl #[.agg #[.int .i64 a0_0, .int .i64 a0_1], .agg #[.int .i64 a1_0, .int .i64 a1_1], .agg #[.int .i64 a3_0, .int .i64 a3_1]] (by rfl) rfl rfl (by (try simp only [pml]); first | done | rfl | (simp only [pdt]; rfl)) ?_
     with_reducible refine (p_Orient.calls a0_0 a0_1 a1_0 a1_1 a3_0 a3_1 t132 _ A83.out).mono ?_
     rintro e w89 ⟨rfl, hb⟩
     refine ⟨_, rfl, ?_⟩
     have n0_ := am (bb (g := gb123) (o := .cells #[.int .i64 a0_0, .int .i64 a0_1] 23 (0, 0)) (by (with_reducible repeat first | apply bN | apply bd | apply ba); exact BK123.out) hb)
     have n1_ := am (bb (g := gb124) (o := .cells #[.int .i64 a1_0, .int .i64 a1_1] 23 (0, 0)) (by (with_reducible repeat first | apply bN | apply bd | apply ba); exact BK124.out) hb)
     have n2_ := am (bb (g := gb125) (o := .cells #[.int .i64 a2_0, .int .i64 a2_1] 23 (0, 0)) (by (with_reducible repeat first | apply bN | apply bd | apply ba); exact BK125.out) hb)
     have n3_ := am (bb (g := gb126) (o := .cells #[.int .i64 a3_0, .int .i64 a3_1] 23 (0, 0)) (by (with_reducible repeat first | apply bN | apply bd | apply ba); exact BK126.out) hb)
     have n4_ := am (wt (by repeat (first | (with_reducible first | exact HB.out | apply wa | apply wN | apply wd | refine ws ?_ GE123.out | refine ws ?_ GE124.out | refine ws ?_ GE125.out | refine ws ?_ GE126.out) | exact HB.out)) hb)
     clear BK123 BK124 BK125 BK126 HB
     have BK123 := n0_
     have BK124 := n1_
     have BK125 := n2_
     have BK126 := n3_
     have HB := n4_
     clear n0_ n1_ n2_ n3_ n4_
     (try clear hb)
     (try clear hb2)
     (try clear hk)
     (try clear hi)
     refine hK.out _ _ ⟨(bc BK123.out 0).trans rfl, (bc BK123.out 1).trans rfl, (bc BK124.out 0).trans rfl, (bc BK124.out 1).trans rfl, (bc BK125.out 0).trans rfl, (bc BK125.out 1).trans rfl, (bc BK126.out 0).trans rfl, (bc BK126.out 1).trans rfl⟩ (fun hHeld => ?_)
     clear hK K
     refine norm_ (a' := ?_) ?_ ?_
     rotate_left
     ·show Act.put _ (some 38) _ = _
      simp only [Act.put, psl, i64_w, i32_w]
      rfl
     refine pure_ (i := 8) (N := some 39) (v := ?_) (a' := ?_) #[T,T,T,T,T,T,T,T,T,F,F,F,F,F,F,F,F,F,F,F,F,F,F] rfl rfl (any_of HT_.out (by kernel_rfl)) (fun _ _ _ h => h) (Or.inl ⟨by rfl, ?_⟩) ?_ ?_
     rotate_left
     ·intro w'
      go_simp
      with_reducible rfl
     rotate_left
     ·simp only [Act.put, psl, i64_w, i32_w]
      rfl
     refine pure_ (i := 9) (N := some 40) (v := ?_) (a' := ?_) #[T,T,T,T,T,T,T,T,T,T,F,F,F,F,F,F,F,F,F,F,F,F,F] rfl rfl (any_of HT_.out (by kernel_rfl)) (fun _ _ _ h => h) (Or.inl ⟨by rfl, ?_⟩) ?_ ?_
     rotate_left
     ·intro w'
      go_simp
      with_reducible rfl
     rotate_left
     ·simp only [Act.put, psl, i64_w, i32_w]
      rfl
     refine pure_ (i := 10) (N := some 41) (v := ?_) (a' := ?_) #[T,T,T,T,T,T,T,T,T,T,T,F,F,F,F,F,F,F,F,F,F,F,F] rfl rfl (any_of HT_.out (by kernel_rfl)) (fun _ _ _ h => h) (Or.inl ⟨by rfl, ?_⟩) ?_ ?_
     rotate_left
     ·intro w'
      go_simp
      with_reducible rfl
     rotate_left
     ·simp only [Act.put, psl, i64_w, i32_w]
      rfl
     refine take_ (i := 11) (N := some 42) (v := ?_) (a' := ?_) #[T,T,T,T,T,T,T,T,T,T,T,T,F,F,F,F,F,F,F,F,F,F,F] rfl rfl (take_ofW HT_.out HW_.out (by kernel_rfl)) (fun _ _ _ h => h) (Or.inl ⟨by rfl, ?_⟩) hHeld ?_ ?_
     rotate_left
     ·rintro w' ⟨s0, s1, s2, s3, s4, s5, s6, s7⟩
      go_simp
      with_reducible rfl
     rotate_left
     ·simp only [Act.put, psl, i64_w, i32_w]
      rfl
     refine take_ (i := 12) (N := some 43) (v := ?_) (a' := ?_) #[T,T,T,T,T,T,T,T,T,T,T,T,T,F,F,F,F,F,F,F,F,F,F] rfl rfl (take_ofW HT_.out HW_.out (by kernel_rfl)) (fun _ _ _ h => h) (Or.inl ⟨by rfl, ?_⟩) hHeld ?_ ?_
     rotate_left
     ·rintro w' ⟨s0, s1, s2, s3, s4, s5, s6, s7⟩
      go_simp
      with_reducible rfl
     rotate_left
     ·simp only [Act.put, psl, i64_w, i32_w]
      rfl
     refine take_ (i := 13) (N := some 44) (v := ?_) (a' := ?_) #[T,T,T,T,T,T,T,T,T,T,T,T,T,T,F,F,F,F,F,F,F,F,F] rfl rfl (take_ofW HT_.out HW_.out (by kernel_rfl)) (fun _ _ _ h => h) (Or.inl ⟨by rfl, ?_⟩) hHeld ?_ ?_
     rotate_left
     ·rintro w' ⟨s0, s1, s2, s3, s4, s5, s6, s7⟩
      go_simp
      with_reducible rfl
     rotate_left
     ·simp only [Act.put, psl, i64_w, i32_w]
      rfl
     refine take_ (i := 15) (N := some 46) (v := ?_) (a' := ?_) #[T,T,T,T,T,T,T,T,T,T,T,T,T,T,F,T,F,F,F,F,F,F,F] rfl rfl (take_ofW HT_.out HW_.out (by kernel_rfl)) (fun _ _ _ h => h) (Or.inl ⟨by rfl, ?_⟩) hHeld ?_ ?_
     rotate_left
     ·rintro w' ⟨s0, s1, s2, s3, s4, s5, s6, s7⟩
      go_simp
      with_reducible rfl
     rotate_left
     ·simp only [Act.put, psl, i64_w, i32_w]
      rfl
     refine take_ (i := 16) (N := some 47) (v := ?_) (a' := ?_) #[T,T,T,T,T,T,T,T,T,T,T,T,T,T,F,T,T,F,F,F,F,F,F] rfl rfl (take_ofW HT_.out HW_.out (by kernel_rfl)) (fun _ _ _ h => h) (Or.inl ⟨by rfl, ?_⟩) hHeld ?_ ?_
     rotate_left
     ·rintro w' ⟨s0, s1, s2, s3, s4, s5, s6, s7⟩
      go_simp
      with_reducible rfl
     rotate_left
     ·simp only [Act.put, psl, i64_w, i32_w]
      rfl
     refine take_ (i := 17) (N := some 48) (v := ?_) (a' := ?_) #[T,T,T,T,T,T,T,T,T,T,T,T,T,T,F,T,T,T,F,F,F,F,F] rfl rfl (take_ofW HT_.out HW_.out (by kernel_rfl)) (fun _ _ _ h => h) (Or.inl ⟨by rfl, ?_⟩) hHeld ?_ ?_
     rotate_left
     ·rintro w' ⟨s0, s1, s2, s3, s4, s5, s6, s7⟩
      go_simp
      with_reducible rfl
     rotate_left
     ·simp only [Act.put, psl, i64_w, i32_w]
      rfl
     refine one_ (i := 14) (N := some 45) #[T,T,T,T,T,T,T,T,T,T,T,T,T,T,T,T,T,T,F,F,F,F,F] rfl rfl (one_of HT_.out (by kernel_rfl)) (by decide) (fun K hK => ?_)
     refine goes_ Try.func13 (by kernel_rfl) rfl #[.agg #[.int .i64 a2_0, .int .i64 a2_1], .agg #[.int .i64 a3_0, .int .i64 a3_1], .agg #[.int .i64 a0_0, .int .i64 a0_1]] (by rfl) rfl rfl (by (try simp only [pml]); first | done | rfl | (simp only [pdt]; rfl)) ?_
     with_reducible refine (p_Orient.calls a2_0 a2_1 a3_0 a3_1 a0_0 a0_1 t133 _ A85.out).mono ?_
     rintro e w90 ⟨rfl, hb⟩
     refine ⟨_, rfl, ?_⟩
     have n0_ := am (bb (g := gb123) (o := .cells #[.int .i64 a0_0, .int .i64 a0_1] 23 (0, 0)) (by (with_reducible repeat first | apply bN | apply bd | apply ba); exact BK123.out) hb)
     have n1_ := am (bb (g := gb124) (o := .cells #[.int .i64 a1_0, .int .i64 a1_1] 23 (0, 0)) (by (with_reducible repeat first | apply bN | apply bd | apply ba); exact BK124.out) hb)
     have n2_ := am (bb (g := gb125) (o := .cells #[.int .i64 a2_0, .int .i64 a2_1] 23 (0, 0)) (by (with_reducible repeat first | apply bN | apply bd | apply ba); exact BK125.out) hb)
     have n3_ := am (bb (g := gb126) (o := .cells #[.int .i64 a3_0, .int .i64 a3_1] 23 (0, 0)) (by (with_reducible repeat first | apply bN | apply bd | apply ba); exact BK126.out) hb)
     have n4_ := am (wt (by repeat (first | (with_reducible first | exact HB.out | apply wa | apply wN | apply wd | refine ws ?_ GE123.out | refine ws ?_ GE124.out | refine ws ?_ GE125.out | refine ws ?_ GE126.out) | exact HB.out)) hb)
     clear BK123 BK124 BK125 BK126 HB
     have BK123 := n0_
     have BK124 := n1_
     have BK125 := n2_
     have BK126 := n3_
     have HB := n4_
     clear n0_ n1_ n2_ n3_ n4_
     (try clear hb)
     (try clear hb2)
     (try clear hk)
     (try clear hi)
     refine hK.out _ _ ⟨(bc BK123.out 0).trans rfl, (bc BK123.out 1).trans rfl, (bc BK124.out 0).trans rfl, (bc BK124.out 1).trans rfl, (bc BK125.out 0).trans rfl, (bc BK125.out 1).trans rfl, (bc BK126.out 0).trans rfl, (bc BK126.out 1).trans rfl⟩ (fun hHeld => ?_)
     clear hK K
     refine norm_ (a' := ?_) ?_ ?_
     rotate_left
     ·show Act.put _ (some 45) _ = _
      simp only [Act.put, psl, i64_w, i32_w]
      rfl
     refine one_ (i := 18) (N := some 49) #[T,T,T,T,T,T,T,T,T,T,T,T,T,T,T,T,T,T,T,F,F,F,F] rfl rfl (one_of HT_.out (by kernel_rfl)) (by decide) (fun K hK => ?_)
     refine goes_ Try.func13 (by kernel_rfl) rfl #[.agg #[.int .i64 a2_0, .int .i64 a2_1], .agg #[.int .i64 a3_0, .int .i64 a3_1], .agg #[.int .i64 a1_0, .int .i64 a1_1]] (by rfl) rfl rfl (by (try simp only [pml]); first | done | rfl | (simp only [pdt]; rfl)) ?_
     with_reducible refine (p_Orient.calls a2_0 a2_1 a3_0 a3_1 a1_0 a1_1 t134 _ A86.out).mono ?_
     rintro e w91 ⟨rfl, hb⟩
     refine ⟨_, rfl, ?_⟩
     have n0_ := am (bb (g := gb123) (o := .cells #[.int .i64 a0_0, .int .i64 a0_1] 23 (0, 0)) (by (with_reducible repeat first | apply bN | apply bd | apply ba); exact BK123.out) hb)
     have n1_ := am (bb (g := gb124) (o := .cells #[.int .i64 a1_0, .int .i64 a1_1] 23 (0, 0)) (by (with_reducible repeat first | apply bN | apply bd | apply ba); exact BK124.out) hb)
     have n2_ := am (bb (g := gb125) (o := .cells #[.int .i64 a2_0, .int .i64 a2_1] 23 (0, 0)) (by (with_reducible repeat first | apply bN | apply bd | apply ba); exact BK125.out) hb)
     have n3_ := am (bb (g := gb126) (o := .cells #[.int .i64 a3_0, .int .i64 a3_1] 23 (0, 0)) (by (with_reducible repeat first | apply bN | apply bd | apply ba); exact BK126.out) hb)
     have n4_ := am (wt (by repeat (first | (with_reducible first | exact HB.out | apply wa | apply wN | apply wd | refine ws ?_ GE123.out | refine ws ?_ GE124.out | refine ws ?_ GE125.out | refine ws ?_ GE126.out) | exact HB.out)) hb)
     clear BK123 BK124 BK125 BK126 HB
     have BK123 := n0_
     have BK124 := n1_
     have BK125 := n2_
     have BK126 := n3_
     have HB := n4_
     clear n0_ n1_ n2_ n3_ n4_
     (try clear hb)
     (try clear hb2)
     (try clear hk)
     (try clear hi)
     refine hK.out _ _ ⟨(bc BK123.out 0).trans rfl, (bc BK123.out 1).trans rfl, (bc BK124.out 0).trans rfl, (bc BK124.out 1).trans rfl, (bc BK125.out 0).trans rfl, (bc BK125.out 1).trans rfl, (bc BK126.out 0).trans rfl, (bc BK126.out 1).trans rfl⟩ (fun hHeld => ?_)
     clear hK K
     refine norm_ (a' := ?_) ?_ ?_
     rotate_left
     ·show Act.put _ (some 49) _ = _
      simp only [Act.put, psl, i64_w, i32_w]
      rfl
     refine pure_ (i := 19) (N := some 50) (v := ?_) (a' := ?_) #[T,T,T,T,T,T,T,T,T,T,T,T,T,T,T,T,T,T,T,T,F,F,F] rfl rfl (any_of HT_.out (by kernel_rfl)) (fun _ _ _ h => h) (Or.inl ⟨by rfl, ?_⟩) ?_ ?_
     rotate_left
     ·intro w'
      go_simp
      with_reducible rfl
     rotate_left
     ·simp only [Act.put, psl, i64_w, i32_w]
      rfl
     refine pure_ (i := 20) (N := some 51) (v := ?_) (a' := ?_) #[T,T,T,T,T,T,T,T,T,T,T,T,T,T,T,T,T,T,T,T,T,F,F] rfl rfl (any_of HT_.out (by kernel_rfl)) (fun _ _ _ h => h) (Or.inl ⟨by rfl, ?_⟩) ?_ ?_
     rotate_left
     ·intro w'
      go_simp
      with_reducible rfl
     rotate_left
     ·simp only [Act.put, psl, i64_w, i32_w]
      rfl
     refine pure_ (i := 21) (N := some 52) (v := ?_) (a' := ?_) #[T,T,T,T,T,T,T,T,T,T,T,T,T,T,T,T,T,T,T,T,T,T,F] rfl rfl (any_of HT_.out (by kernel_rfl)) (fun _ _ _ h => h) (Or.inl ⟨by rfl, ?_⟩) ?_ ?_
     rotate_left
     ·intro w'
      go_simp
      with_reducible rfl
     rotate_left
     ·simp only [Act.put, psl, i64_w, i32_w]
      rfl
     refine pure_ (i := 22) (N := some 8) (v := ?_) (a' := ?_) #[T,T,T,T,T,T,T,T,T,T,T,T,T,T,T,T,T,T,T,T,T,T,T] rfl rfl (any_of HT_.out (by kernel_rfl)) (fun _ _ _ h => h) (Or.inl ⟨by rfl, ?_⟩) ?_ ?_
     rotate_left
     ·intro w'
      go_simp
      with_reducible rfl
     rotate_left
     ·simp only [Act.put, psl, i64_w, i32_w]
      rfl
     refine done_ (done_of HT_.out (by kernel_rfl)) ?_
     try go_wp2
     go_ret
     exact ⟨by first | rfl | (simp [errW_none, errW_some] <;> rfl) | (simp [*, errW_none, errW_some] <;> rfl), by repeat (first | (with_reducible first | exact HB.out | apply wa | apply wN | apply wd | refine ws ?_ GE123.out | refine ws ?_ GE124.out | refine ws ?_ GE125.out | refine ws ?_ GE126.out) | exact HB.out)⟩
    ·rw [if_neg c84] at H
     have c84b0 : decide ((wrap64 (t131 * t132)) < 0) = false := decide_eq_false c84
     clear c84
     obtain rfl := Option.some.inj H
     try go_wp2
     have n0_ := am (bd BK123.out)
     have n1_ := am (bd BK124.out)
     have n2_ := am (bd BK125.out)
     have n3_ := am (bd BK126.out)
     have n4_ := am (wd HB.out)
     clear BK123 BK124 BK125 BK126 HB
     have BK123 := n0_
     have BK124 := n1_
     have BK125 := n2_
     have BK126 := n3_
     have HB := n4_
     clear n0_ n1_ n2_ n3_ n4_
     refine start_ (n := 23) (S := fun w' => w'.cell? ⟨gb123, 0, none⟩ = some (.int .i64 a0_0) ∧ w'.cell? ⟨gb123, 1, none⟩ = some (.int .i64 a0_1) ∧ w'.cell? ⟨gb124, 0, none⟩ = some (.int .i64 a1_0) ∧ w'.cell? ⟨gb124, 1, none⟩ = some (.int .i64 a1_1) ∧ w'.cell? ⟨gb125, 0, none⟩ = some (.int .i64 a2_0) ∧ w'.cell? ⟨gb125, 1, none⟩ = some (.int .i64 a2_1) ∧ w'.cell? ⟨gb126, 0, none⟩ = some (.int .i64 a3_0) ∧ w'.cell? ⟨gb126, 1, none⟩ = some (.int .i64 a3_1)) (ds := []) #[F,F,F,F,F,F,F,F,F,F,F,F,F,F,F,F,F,F,F,F,F,F,F] (by kernel_rfl) rfl rfl ⟨(bc BK123.out 0).trans rfl, (bc BK123.out 1).trans rfl, (bc BK124.out 0).trans rfl, (bc BK124.out 1).trans rfl, (bc BK125.out 0).trans rfl, (bc BK125.out 1).trans rfl, (bc BK126.out 0).trans rfl, (bc BK126.out 1).trans rfl⟩ (fun hHeld => ?_); refine with_tabW p_meet.tab3 p_meet.bits3 (fun HT_ HW_ => ?_)
     generalize wc.drew = w92 at BK123 BK124 BK125 BK126 HB hHeld ⊢
     refine take_ (i := 0) (N := some 31) (v := ?_) (a' := ?_) #[T,F,F,F,F,F,F,F,F,F,F,F,F,F,F,F,F,F,F,F,F,F,F] rfl rfl (take_ofW HT_.out HW_.out (by kernel_rfl)) (fun _ _ _ h => h) (Or.inl ⟨by rfl, ?_⟩) hHeld ?_ ?_
     rotate_left
     ·rintro w' ⟨s0, s1, s2, s3, s4, s5, s6, s7⟩
      go_simp
      with_reducible rfl
     rotate_left
     ·simp only [Act.put, psl, i64_w, i32_w]
      rfl
     refine take_ (i := 1) (N := some 32) (v := ?_) (a' := ?_) #[T,T,F,F,F,F,F,F,F,F,F,F,F,F,F,F,F,F,F,F,F,F,F] rfl rfl (take_ofW HT_.out HW_.out (by kernel_rfl)) (fun _ _ _ h => h) (Or.inl ⟨by rfl, ?_⟩) hHeld ?_ ?_
     rotate_left
     ·rintro w' ⟨s0, s1, s2, s3, s4, s5, s6, s7⟩
      go_simp
      with_reducible rfl
     rotate_left
     ·simp only [Act.put, psl, i64_w, i32_w]
      rfl
     refine take_ (i := 2) (N := some 33) (v := ?_) (a' := ?_) #[T,T,T,F,F,F,F,F,F,F,F,F,F,F,F,F,F,F,F,F,F,F,F] rfl rfl (take_ofW HT_.out HW_.out (by kernel_rfl)) (fun _ _ _ h => h) (Or.inl ⟨by rfl, ?_⟩) hHeld ?_ ?_
     rotate_left
     ·rintro w' ⟨s0, s1, s2, s3, s4, s5, s6, s7⟩
      go_simp
      with_reducible rfl
     rotate_left
     ·simp only [Act.put, psl, i64_w, i32_w]
      rfl
     refine take_ (i := 4) (N := some 35) (v := ?_) (a' := ?_) #[T,T,T,F,T,F,F,F,F,F,F,F,F,F,F,F,F,F,F,F,F,F,F] rfl rfl (take_ofW HT_.out HW_.out (by kernel_rfl)) (fun _ _ _ h => h) (Or.inl ⟨by rfl, ?_⟩) hHeld ?_ ?_
     rotate_left
     ·rintro w' ⟨s0, s1, s2, s3, s4, s5, s6, s7⟩
      go_simp
      with_reducible rfl
     rotate_left
     ·simp only [Act.put, psl, i64_w, i32_w]
      rfl
     refine take_ (i := 5) (N := some 36) (v := ?_) (a' := ?_) #[T,T,T,F,T,T,F,F,F,F,F,F,F,F,F,F,F,F,F,F,F,F,F] rfl rfl (take_ofW HT_.out HW_.out (by kernel_rfl)) (fun _ _ _ h => h) (Or.inl ⟨by rfl, ?_⟩) hHeld ?_ ?_
     rotate_left
     ·rintro w' ⟨s0, s1, s2, s3, s4, s5, s6, s7⟩
      go_simp
      with_reducible rfl
     rotate_left
     ·simp only [Act.put, psl, i64_w, i32_w]
      rfl
     refine take_ (i := 6) (N := some 37) (v := ?_) (a' := ?_) #[T,T,T,F,T,T,T,F,F,F,F,F,F,F,F,F,F,F,F,F,F,F,F] rfl rfl (take_ofW HT_.out HW_.out (by kernel_rfl)) (fun _ _ _ h => h) (Or.inl ⟨by rfl, ?_⟩) hHeld ?_ ?_
     rotate_left
     ·rintro w' ⟨s0, s1, s2, s3, s4, s5, s6, s7⟩
      go_simp
      with_reducible rfl
     rotate_left
     ·simp only [Act.put, psl, i64_w, i32_w]
      rfl
     refine one_ (i := 3) (N := some 34) #[T,T,T,T,T,T,T,F,F,F,F,F,F,F,F,F,F,F,F,F,F,F,F] rfl rfl (one_of HT_.out (by kernel_rfl)) (by decide) (fun K hK => ?_)
     refine goes_ Try.func13 (by kernel_rfl) rfl #[.agg #[.int .i64 a0_0, .int .i64 a0_1], .agg #[.int .i64 a1_0, .int .i64 a1_1], .agg #[.int .i64 a2_0, .int .i64 a2_1]] (by rfl) rfl rfl (by (try simp only [pml]); first | done | rfl | (simp only [pdt]; rfl)) ?_
     with_reducible refine (p_Orient.calls a0_0 a0_1 a1_0 a1_1 a2_0 a2_1 t131 _ A82.out).mono ?_
     rintro e w93 ⟨rfl, hb⟩
     refine ⟨_, rfl, ?_⟩
     have n0_ := am (bb (g := gb123) (o := .cells #[.int .i64 a0_0, .int .i64 a0_1] 23 (0, 0)) (by (with_reducible repeat first | apply bN | apply bd | apply ba); exact BK123.out) hb)
     have n1_ := am (bb (g := gb124) (o := .cells #[.int .i64 a1_0, .int .i64 a1_1] 23 (0, 0)) (by (with_reducible repeat first | apply bN | apply bd | apply ba); exact BK124.out) hb)
     have n2_ := am (bb (g := gb125) (o := .cells #[.int .i64 a2_0, .int .i64 a2_1] 23 (0, 0)) (by (with_reducible repeat first | apply bN | apply bd | apply ba); exact BK125.out) hb)
     have n3_ := am (bb (g := gb126) (o := .cells #[.int .i64 a3_0, .int .i64 a3_1] 23 (0, 0)) (by (with_reducible repeat first | apply bN | apply bd | apply ba); exact BK126.out) hb)
     have n4_ := am (wt (by repeat (first | (with_reducible first | exact HB.out | apply wa | apply wN | apply wd | refine ws ?_ GE123.out | refine ws ?_ GE124.out | refine ws ?_ GE125.out | refine ws ?_ GE126.out) | exact HB.out)) hb)
     clear BK123 BK124 BK125 BK126 HB
     have BK123 := n0_
     have BK124 := n1_
     have BK125 := n2_
     have BK126 := n3_
     have HB := n4_
     clear n0_ n1_ n2_ n3_ n4_
     (try clear hb)
     (try clear hb2)
     (try clear hk)
     (try clear hi)
     refine hK.out _ _ ⟨(bc BK123.out 0).trans rfl, (bc BK123.out 1).trans rfl, (bc BK124.out 0).trans rfl, (bc BK124.out 1).trans rfl, (bc BK125.out 0).trans rfl, (bc BK125.out 1).trans rfl, (bc BK126.out 0).trans rfl, (bc BK126.out 1).trans rfl⟩ (fun hHeld => ?_)
     clear hK K
     refine norm_ (a' := ?_) ?_ ?_
     rotate_left
     ·show Act.put _ (some 34) _ = _
      simp only [Act.put, psl, i64_w, i32_w]
      rfl
     refine one_ (i := 7) (N := some 38) #[T,T,T,T,T,T,T,T,F,F,F,F,F,F,F,F,F,F,F,F,F,F,F] rfl rfl (one_of HT_.out (by kernel_rfl)) (by decide) (fun K hK => ?_)
     refine goes_ Try.func13 (by kernel_rfl) rfl #[.agg #[.int .i64 a0_0, .int .i64 a0_1], .agg #[.int .i64 a1_0, .int .i64 a1_1], .agg #[.int .i64 a3_0, .int .i64 a3_1]] (by rfl) rfl rfl (by (try simp only [pml]); first | done | rfl | (simp only [pdt]; rfl)) ?_
     with_reducible refine (p_Orient.calls a0_0 a0_1 a1_0 a1_1 a3_0 a3_1 t132 _ A83.out).mono ?_
     rintro e w94 ⟨rfl, hb⟩
     refine ⟨_, rfl, ?_⟩
     have n0_ := am (bb (g := gb123) (o := .cells #[.int .i64 a0_0, .int .i64 a0_1] 23 (0, 0)) (by (with_reducible repeat first | apply bN | apply bd | apply ba); exact BK123.out) hb)
     have n1_ := am (bb (g := gb124) (o := .cells #[.int .i64 a1_0, .int .i64 a1_1] 23 (0, 0)) (by (with_reducible repeat first | apply bN | apply bd | apply ba); exact BK124.out) hb)
     have n2_ := am (bb (g := gb125) (o := .cells #[.int .i64 a2_0, .int .i64 a2_1] 23 (0, 0)) (by (with_reducible repeat first | apply bN | apply bd | apply ba); exact BK125.out) hb)
     have n3_ := am (bb (g := gb126) (o := .cells #[.int .i64 a3_0, .int .i64 a3_1] 23 (0, 0)) (by (with_reducible repeat first | apply bN | apply bd | apply ba); exact BK126.out) hb)
     have n4_ := am (wt (by repeat (first | (with_reducible first | exact HB.out | apply wa | apply wN | apply wd | refine ws ?_ GE123.out | refine ws ?_ GE124.out | refine ws ?_ GE125.out | refine ws ?_ GE126.out) | exact HB.out)) hb)
     clear BK123 BK124 BK125 BK126 HB
     have BK123 := n0_
     have BK124 := n1_
     have BK125 := n2_
     have BK126 := n3_
     have HB := n4_
     clear n0_ n1_ n2_ n3_ n4_
     (try clear hb)
     (try clear hb2)
     (try clear hk)
     (try clear hi)
     refine hK.out _ _ ⟨(bc BK123.out 0).trans rfl, (bc BK123.out 1).trans rfl, (bc BK124.out 0).trans rfl, (bc BK124.out 1).trans rfl, (bc BK125.out 0).trans rfl, (bc BK125.out 1).trans rfl, (bc BK126.out 0).trans rfl, (bc BK126.out 1).trans rfl⟩ (fun hHeld => ?_)
     clear hK K
     refine norm_ (a' := ?_) ?_ ?_
     rotate_left
     ·show Act.put _ (some 38) _ = _
      simp only [Act.put, psl, i64_w, i32_w]
      rfl
     refine pure_ (i := 8) (N := some 39) (v := ?_) (a' := ?_) #[T,T,T,T,T,T,T,T,T,F,F,F,F,F,F,F,F,F,F,F,F,F,F] rfl rfl (any_of HT_.out (by kernel_rfl)) (fun _ _ _ h => h) (Or.inl ⟨by rfl, ?_⟩) ?_ ?_
     rotate_left
     ·intro w'
      go_simp
      with_reducible rfl
     rotate_left
     ·simp only [Act.put, psl, i64_w, i32_w]
      rfl
     refine pure_ (i := 9) (N := some 40) (v := ?_) (a' := ?_) #[T,T,T,T,T,T,T,T,T,T,F,F,F,F,F,F,F,F,F,F,F,F,F] rfl rfl (any_of HT_.out (by kernel_rfl)) (fun _ _ _ h => h) (Or.inl ⟨by rfl, ?_⟩) ?_ ?_
     rotate_left
     ·intro w'
      go_simp
      with_reducible rfl
     rotate_left
     ·simp only [Act.put, psl, i64_w, i32_w]
      rfl
     refine pure_ (i := 10) (N := some 41) (v := ?_) (a' := ?_) #[T,T,T,T,T,T,T,T,T,T,T,F,F,F,F,F,F,F,F,F,F,F,F] rfl rfl (any_of HT_.out (by kernel_rfl)) (fun _ _ _ h => h) (Or.inl ⟨by rfl, ?_⟩) ?_ ?_
     rotate_left
     ·intro w'
      go_simp
      with_reducible rfl
     rotate_left
     ·simp only [Act.put, psl, i64_w, i32_w]
      rfl
     refine pure_ (i := 11) (N := some 42) (v := undef) (a' := ?_) #[T,T,T,T,T,T,T,T,T,T,T,T,F,F,F,F,F,F,F,F,F,F,F] rfl rfl (any_of HT_.out (by kernel_rfl)) (fun _ _ _ h => h) (Or.inr ⟨by rfl, rfl⟩) ?_ ?_
     rotate_left
     ·simp only [Act.put, psl, i64_w, i32_w]
      rfl
     refine pure_ (i := 12) (N := some 43) (v := undef) (a' := ?_) #[T,T,T,T,T,T,T,T,T,T,T,T,T,F,F,F,F,F,F,F,F,F,F] rfl rfl (any_of HT_.out (by kernel_rfl)) (fun _ _ _ h => h) (Or.inr ⟨by rfl, rfl⟩) ?_ ?_
     rotate_left
     ·simp only [Act.put, psl, i64_w, i32_w]
      rfl
     refine pure_ (i := 13) (N := some 44) (v := undef) (a' := ?_) #[T,T,T,T,T,T,T,T,T,T,T,T,T,T,F,F,F,F,F,F,F,F,F] rfl rfl (any_of HT_.out (by kernel_rfl)) (fun _ _ _ h => h) (Or.inr ⟨by rfl, rfl⟩) ?_ ?_
     rotate_left
     ·simp only [Act.put, psl, i64_w, i32_w]
      rfl
     refine pure_ (i := 14) (N := some 45) (v := undef) (a' := ?_) #[T,T,T,T,T,T,T,T,T,T,T,T,T,T,T,F,F,F,F,F,F,F,F] rfl rfl (any_of HT_.out (by kernel_rfl)) (fun _ _ _ h => h) (Or.inr ⟨by rfl, rfl⟩) ?_ ?_
     rotate_left
     ·simp only [Act.put, psl, i64_w, i32_w]
      rfl
     refine pure_ (i := 15) (N := some 46) (v := undef) (a' := ?_) #[T,T,T,T,T,T,T,T,T,T,T,T,T,T,T,T,F,F,F,F,F,F,F] rfl rfl (any_of HT_.out (by kernel_rfl)) (fun _ _ _ h => h) (Or.inr ⟨by rfl, rfl⟩) ?_ ?_
     rotate_left
     ·simp only [Act.put, psl, i64_w, i32_w]
      rfl
     refine pure_ (i := 16) (N := some 47) (v := undef) (a' := ?_) #[T,T,T,T,T,T,T,T,T,T,T,T,T,T,T,T,T,F,F,F,F,F,F] rfl rfl (any_of HT_.out (by kernel_rfl)) (fun _ _ _ h => h) (Or.inr ⟨by rfl, rfl⟩) ?_ ?_
     rotate_left
     ·simp only [Act.put, psl, i64_w, i32_w]
      rfl
     refine pure_ (i := 17) (N := some 48) (v := undef) (a' := ?_) #[T,T,T,T,T,T,T,T,T,T,T,T,T,T,T,T,T,T,F,F,F,F,F] rfl rfl (any_of HT_.out (by kernel_rfl)) (fun _ _ _ h => h) (Or.inr ⟨by rfl, rfl⟩) ?_ ?_
     rotate_left
     ·simp only [Act.put, psl, i64_w, i32_w]
      rfl
     refine pure_ (i := 18) (N := some 49) (v := undef) (a' := ?_) #[T,T,T,T,T,T,T,T,T,T,T,T,T,T,T,T,T,T,T,F,F,F,F] rfl rfl (any_of HT_.out (by kernel_rfl)) (fun _ _ _ h => h) (Or.inr ⟨by rfl, rfl⟩) ?_ ?_
     rotate_left
     ·simp only [Act.put, psl, i64_w, i32_w]
      rfl
     refine pure_ (i := 19) (N := some 50) (v := undef) (a' := ?_) #[T,T,T,T,T,T,T,T,T,T,T,T,T,T,T,T,T,T,T,T,F,F,F] rfl rfl (any_of HT_.out (by kernel_rfl)) (fun _ _ _ h => h) (Or.inr ⟨by rfl, rfl⟩) ?_ ?_
     rotate_left
     ·simp only [Act.put, psl, i64_w, i32_w]
      rfl
     refine pure_ (i := 20) (N := some 51) (v := undef) (a' := ?_) #[T,T,T,T,T,T,T,T,T,T,T,T,T,T,T,T,T,T,T,T,T,F,F] rfl rfl (any_of HT_.out (by kernel_rfl)) (fun _ _ _ h => h) (Or.inr ⟨by rfl, rfl⟩) ?_ ?_
     rotate_left
     ·simp only [Act.put, psl, i64_w, i32_w]
      rfl
     refine pure_ (i := 21) (N := some 52) (v := ?_) (a' := ?_) #[T,T,T,T,T,T,T,T,T,T,T,T,T,T,T,T,T,T,T,T,T,T,F] rfl rfl (any_of HT_.out (by kernel_rfl)) (fun _ _ _ h => h) (Or.inl ⟨by rfl, ?_⟩) ?_ ?_
     rotate_left
     ·intro w'
      go_simp
      with_reducible rfl
     rotate_left
     ·simp only [Act.put, psl, i64_w, i32_w]
      rfl
     refine pure_ (i := 22) (N := some 8) (v := ?_) (a' := ?_) #[T,T,T,T,T,T,T,T,T,T,T,T,T,T,T,T,T,T,T,T,T,T,T] rfl rfl (any_of HT_.out (by kernel_rfl)) (fun _ _ _ h => h) (Or.inl ⟨by rfl, ?_⟩) ?_ ?_
     rotate_left
     ·intro w'
      go_simp
      with_reducible rfl
     rotate_left
     ·simp only [Act.put, psl, i64_w, i32_w]
      rfl
     refine done_ (done_of HT_.out (by kernel_rfl)) ?_
     try go_wp2
     go_ret
     exact ⟨by first | rfl | (simp [errW_none, errW_some] <;> rfl) | (simp [*, errW_none, errW_some] <;> rfl), by repeat (first | (with_reducible first | exact HB.out | apply wa | apply wN | apply wd | refine ws ?_ GE123.out | refine ws ?_ GE124.out | refine ws ?_ GE125.out | refine ws ?_ GE126.out) | exact HB.out)⟩

end Go.Proofs.Ytcembjgpcbodcaa.QA
