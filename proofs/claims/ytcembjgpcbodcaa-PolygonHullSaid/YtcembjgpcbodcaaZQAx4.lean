import Derived.Test.YtcembjgpcbodcaaZQAx0
import Derived.Test.YtcembjgpcbodcaaZQAx2
import Derived.Test.YtcembjgpcbodcaaZQAx3
namespace Go.Proofs.Ytcembjgpcbodcaa.QA
open Go.RowKit Go.Proofs.YtcembjgpcbodcaaW.PrintWords Go.Proofs.YtcembjgpcbodcaaW.PrintLast Go.Proofs.YtcembjgpcbodcaaW.PrintMore
open Go.Proofs.YtcembjgpcbodcaaW.PrintWords renaming blk_frozen → bf, blk_cell → bc
open Aside0 renaming mk → am
attribute [local go_sem] max2_int min2_int max_two min_two max_three min_three max_four min_four
set_option linter.unusedVariables false
set_option linter.unusedSimpArgs false

def polygon_meet.j0 : Nat → Bool → Int → Int → Int → Int → Int → Int → Int → Int → Option (Bool)
 | 0, _, _, _, _, _, _, _, _, _ => none
 | k + 1, x30, x124000, x124001, x125000, x125001, x126000, x126001, x127000, x127001 => if x30 = true then (some true) else ((polygon_Orient.f x124000 x124001 x125000 x125001 x126000 x126001).bind fun t131 => ((polygon_Orient.f x124000 x124001 x125000 x125001 x127000 x127001).bind fun t132 => (if (wrap64 (t131 * t132)) < 0 then ((polygon_Orient.f x126000 x126001 x127000 x127001 x124000 x124001).bind fun t133 => ((polygon_Orient.f x126000 x126001 x127000 x127001 x125000 x125001).bind fun t134 => (some (decide ((wrap64 (t133 * t134)) < 0))))) else (some false))))
def polygon_meet.f (k : Nat) (a0_0 : Int) (a0_1 : Int) (a1_0 : Int) (a1_1 : Int) (a2_0 : Int) (a2_1 : Int) (a3_0 : Int) (a3_1 : Int) : Option (Bool) := (polygon_on.f k a0_0 a0_1 a1_0 a1_1 a2_0 a2_1).bind fun t127 => (if t127 = true then (polygon_meet.j0 k true a0_0 a0_1 a1_0 a1_1 a2_0 a2_1 a3_0 a3_1) else ((polygon_on.f k a0_0 a0_1 a1_0 a1_1 a3_0 a3_1).bind fun t128 => (if t128 = true then (polygon_meet.j0 k true a0_0 a0_1 a1_0 a1_1 a2_0 a2_1 a3_0 a3_1) else ((polygon_on.f k a2_0 a2_1 a3_0 a3_1 a0_0 a0_1).bind fun t129 => (if t129 = true then (polygon_meet.j0 k true a0_0 a0_1 a1_0 a1_1 a2_0 a2_1 a3_0 a3_1) else ((polygon_on.f k a2_0 a2_1 a3_0 a3_1 a1_0 a1_1).bind fun t130 => (polygon_meet.j0 k t130 a0_0 a0_1 a1_0 a1_1 a2_0 a2_1 a3_0 a3_1)))))))
theorem polygon_meet.mono_l : ∀ k, (∀ y0 y1 y2 y3 y4 y5 y6 y7 y8, LeO (polygon_meet.j0 k y0 y1 y2 y3 y4 y5 y6 y7 y8) (polygon_meet.j0 (k + 1) y0 y1 y2 y3 y4 y5 y6 y7 y8))
 | 0 => fun _ _ _ _ _ _ _ _ _ r h => by simp [polygon_meet.j0] at h
 | k + 1 => by
  have ih0 := polygon_meet.mono_l k
  intro y0 y1 y2 y3 y4 y5 y6 y7 y8
  unfold polygon_meet.j0
  repeat' first
  | (with_reducible exact ih0 _ _ _ _ _ _ _ _ _)
  | (with_reducible exact polygon_on.mono _ _ _ _ _ _ _)
  | (with_reducible exact LeO.refl _)
  | (with_reducible exact LeO.none _)
  | (with_reducible refine LeO.ite ?_ ?_)
  | (with_reducible refine LeO.bind ?_ (fun _ => ?_))
  | exact ih0 _ _ _ _ _ _ _ _ _
  | exact polygon_on.mono _ _ _ _ _ _ _
  | exact LeO.none _
  | refine LeO.ite ?_ ?_
  | refine LeO.bind ?_ (fun _ => ?_)
theorem polygon_meet.mono : ∀ a0 a1 a2 a3 a4 a5 a6 a7 k, LeO (polygon_meet.f k a0 a1 a2 a3 a4 a5 a6 a7) (polygon_meet.f (k + 1) a0 a1 a2 a3 a4 a5 a6 a7) := by
 intro a0 a1 a2 a3 a4 a5 a6 a7 k
 have ih0 := polygon_meet.mono_l k
 unfold polygon_meet.f
 repeat' first
   | (with_reducible exact ih0 _ _ _ _ _ _ _ _ _)
   | (with_reducible exact polygon_on.mono _ _ _ _ _ _ _)
   | (with_reducible exact LeO.refl _)
   | (with_reducible exact LeO.none _)
   | (with_reducible refine LeO.ite ?_ ?_)
   | (with_reducible refine LeO.bind ?_ (fun _ => ?_))
   | exact ih0 _ _ _ _ _ _ _ _ _
   | exact polygon_on.mono _ _ _ _ _ _ _
   | exact LeO.none _
   | refine LeO.ite ?_ ?_
   | refine LeO.bind ?_ (fun _ => ?_)
def polygon_meet.T3 : Bool × List (List Nat × List Nat) := (true, [([], []), ([], []), ([], []), ([0, 1, 2], [0, 1, 2]), ([], []), ([], []), ([], []), ([4, 5, 6, 3], [4, 5, 6]), ([3, 7], [3, 7]), ([8], [8]), ([9, 7], [9]), ([10], [10]), ([10], [10]), ([10], [10]), ([11, 12, 13, 10, 10], [10, 11, 12, 13]), ([10], [10]), ([10], [10]), ([10], [10]), ([15, 16, 17, 14, 10], [10, 15, 16, 17]), ([14, 18, 10], [10, 14, 18]), ([19, 10], [10, 19]), ([10, 20], [10, 20]), ([21, 18, 0, 1, 2, 3, 4, 5, 6, 7, 8, 9, 10, 11, 12, 13, 14, 15, 16, 17, 18, 19, 20, 21], [21])])
def polygon_meet.B3 : List Nat := [0, 0, 0, 7, 0, 0, 0, 127, 255, 511, 1023, 2047, 2047, 2047, 16383, 2047, 2047, 2047, 262143, 524287, 1048575, 2097151, 4194303]
theorem polygon_meet.tab3 : rtab .any (opsOf Try.f62 3) = polygon_meet.T3 := by kernel_rfl
theorem polygon_meet.bits3 : waitsOk polygon_meet.T3.2 polygon_meet.B3 = true := by kernel_rfl
set_option maxHeartbeats 8000000 in
set_option maxRecDepth 100000 in
theorem polygon_meet.calls (k : Nat) (a0_0 : Int) (a0_1 : Int) (a1_0 : Int) (a1_1 : Int) (a2_0 : Int) (a2_1 : Int) (a3_0 : Int) (a3_1 : Int) (r : Bool) (w : World) (h : polygon_meet.f k a0_0 a0_1 a1_0 a1_1 a2_0 a2_1 a3_0 a3_1 = some r) :
  Calls Try.prog 62 #[.agg #[.int .i64 a0_0, .int .i64 a0_1], .agg #[.int .i64 a1_0, .int .i64 a1_1], .agg #[.int .i64 a2_0, .int .i64 a2_1], .agg #[.int .i64 a3_0, .int .i64 a3_1]] w fun e w' => e = .returned (.bool r) ∧ Below w.heap.size w w' := by
 have hu23 := Try.underlying23
 have HB := am (Below.refl w.heap.size w)
 have H : ((polygon_on.f k a0_0 a0_1 a1_0 a1_1 a2_0 a2_1).bind fun t127 => (if t127 = true then (polygon_meet.j0 k true a0_0 a0_1 a1_0 a1_1 a2_0 a2_1 a3_0 a3_1) else ((polygon_on.f k a0_0 a0_1 a1_0 a1_1 a3_0 a3_1).bind fun t128 => (if t128 = true then (polygon_meet.j0 k true a0_0 a0_1 a1_0 a1_1 a2_0 a2_1 a3_0 a3_1) else ((polygon_on.f k a2_0 a2_1 a3_0 a3_1 a0_0 a0_1).bind fun t129 => (if t129 = true then (polygon_meet.j0 k true a0_0 a0_1 a1_0 a1_1 a2_0 a2_1 a3_0 a3_1) else ((polygon_on.f k a2_0 a2_1 a3_0 a3_1 a1_0 a1_1).bind fun t130 => (polygon_meet.j0 k t130 a0_0 a0_1 a1_0 a1_1 a2_0 a2_1 a3_0 a3_1)))))))) = some r := h
 clear h
 have HC5 := am H
 clear H
 go_enter Try.func62, Try.ntmps62
 go_upto_region 1 with (first | ((with_reducible refine gate_dst (N := 4) rfl ?_); refine box_event ?hg (N := 4) ?hd (cs := #[.int .i64 a0_0, .int .i64 a0_1]) (t := 23) ?hr ?_; (case hd | hg => rfl); (case hr => first | (go_simp; done) | (go_simp; rfl)); intro gb123 hg w6 hbox hb; have BK123 := am hbox; have GW123 := sG HB hg; have GE123 := sG HB hg; replace HB := bS HB hb; clear hb hbox hg) | ((with_reducible refine gate_dst (N := 5) rfl ?_); refine box_event ?hg (N := 5) ?hd (cs := #[.int .i64 a1_0, .int .i64 a1_1]) (t := 23) ?hr ?_; (case hd | hg => rfl); (case hr => first | (go_simp; done) | (go_simp; rfl)); intro gb124 hg w7 hbox hb; have BK124 := am hbox; have GW124 := sG HB hg; have GE124 := sG HB hg; replace HB := bS HB hb; have NB123_124 := nL BK123 hg; have NB124_123 := nG BK123 hg; replace BK123 := bB BK123 hb; clear hb hbox hg) | ((with_reducible refine gate_dst (N := 6) rfl ?_); refine box_event ?hg (N := 6) ?hd (cs := #[.int .i64 a2_0, .int .i64 a2_1]) (t := 23) ?hr ?_; (case hd | hg => rfl); (case hr => first | (go_simp; done) | (go_simp; rfl)); intro gb125 hg w8 hbox hb; have BK125 := am hbox; have GW125 := sG HB hg; have GE125 := sG HB hg; replace HB := bS HB hb; have NB123_125 := nL BK123 hg; have NB125_123 := nG BK123 hg; replace BK123 := bB BK123 hb; have NB124_125 := nL BK124 hg; have NB125_124 := nG BK124 hg; replace BK124 := bB BK124 hb; clear hb hbox hg) | ((with_reducible refine gate_dst (N := 7) rfl ?_); refine box_event ?hg (N := 7) ?hd (cs := #[.int .i64 a3_0, .int .i64 a3_1]) (t := 23) ?hr ?_; (case hd | hg => rfl); (case hr => first | (go_simp; done) | (go_simp; rfl)); intro gb126 hg w9 hbox hb; have BK126 := am hbox; have GW126 := sG HB hg; have GE126 := sG HB hg; replace HB := bS HB hb; have NB123_126 := nL BK123 hg; have NB126_123 := nG BK123 hg; replace BK123 := bB BK123 hb; have NB124_126 := nL BK124 hg; have NB126_124 := nG BK124 hg; replace BK124 := bB BK124 hb; have NB125_126 := nL BK125 hg; have NB126_125 := nG BK125 hg; replace BK125 := bB BK125 hb; clear hb hbox hg))
 (try simp only [Act.put, psl])
 go_cut [30] (fun v30 wc => ∃ (kq : Nat) (x30_4 : Bool), v30 = .bool x30_4 ∧ Aside0 (polygon_meet.j0 kq x30_4 a0_0 a0_1 a1_0 a1_1 a2_0 a2_1 a3_0 a3_1 = some r) ∧ Aside0 (kq ≤ k) ∧ Aside0 (wc.heap[gb123]? = some (.cells #[.int .i64 a0_0, .int .i64 a0_1] 23 (0, 0))) ∧ Aside0 (wc.heap[gb124]? = some (.cells #[.int .i64 a1_0, .int .i64 a1_1] 23 (0, 0))) ∧ Aside0 (wc.heap[gb125]? = some (.cells #[.int .i64 a2_0, .int .i64 a2_1] 23 (0, 0))) ∧ Aside0 (wc.heap[gb126]? = some (.cells #[.int .i64 a3_0, .int .i64 a3_1] 23 (0, 0))) ∧ Aside0 (Below w.heap.size w wc))
 case first =>
  have H := HC5.out
  clear HC5
  replace H := Option.bind_eq_some_iff.mp H
  obtain ⟨t127, A100, H⟩ := H
  replace H : (if t127 = true then (polygon_meet.j0 k true a0_0 a0_1 a1_0 a1_1 a2_0 a2_1 a3_0 a3_1) else ((polygon_on.f k a0_0 a0_1 a1_0 a1_1 a3_0 a3_1).bind fun t128 => (if t128 = true then (polygon_meet.j0 k true a0_0 a0_1 a1_0 a1_1 a2_0 a2_1 a3_0 a3_1) else ((polygon_on.f k a2_0 a2_1 a3_0 a3_1 a0_0 a0_1).bind fun t129 => (if t129 = true then (polygon_meet.j0 k true a0_0 a0_1 a1_0 a1_1 a2_0 a2_1 a3_0 a3_1) else ((polygon_on.f k a2_0 a2_1 a3_0 a3_1 a1_0 a1_1).bind fun t130 => (polygon_meet.j0 k t130 a0_0 a0_1 a1_0 a1_1 a2_0 a2_1 a3_0 a3_1))))))) = some r := H
  have A10 := am A100
  clear A100
  by_cases c11 : t127 = true
  ·subst c11
   have H1 : (polygon_meet.j0 k true a0_0 a0_1 a1_0 a1_1 a2_0 a2_1 a3_0 a3_1) = some r := by rw [if_pos rfl] at H; exact H
   clear H
   have H := H1
   clear H1
   have H' := am H
   clear H
   have hnb12 := NB123_124.out
   have hnc12 := NB124_123.out
   have hnb13 := NB123_125.out
   have hnc13 := NB125_123.out
   have hnb14 := NB123_126.out
   have hnc14 := NB126_123.out
   have := yC1 BK123
   have := kC1 BK123
   have := bf BK123.out 0
   have := bf BK123.out 1
   have hnb16 := NB124_125.out
   have hnc16 := NB125_124.out
   have hnb17 := NB124_126.out
   have hnc17 := NB126_124.out
   have := yC1 BK124
   have := kC1 BK124
   have := bf BK124.out 0
   have := bf BK124.out 1
   have hnb19 := NB125_126.out
   have hnc19 := NB126_125.out
   have := yC1 BK125
   have := kC1 BK125
   have := bf BK125.out 0
   have := bf BK125.out 1
   go_wp2_with (first | ((with_reducible refine gate_callee (f := 41) rfl ?_); refine goesL_ (some 12) rfl rfl Try.func41 (by kernel_rfl) rfl #[.agg #[.int .i64 a0_0, .int .i64 a0_1], .agg #[.int .i64 a1_0, .int .i64 a1_1], .agg #[.int .i64 a2_0, .int .i64 a2_1]] rfl (by (try simp only [pml]); first | done | rfl | (simp only [pdt]; rfl)) ?_; (with_reducible refine (polygon_on.calls k a0_0 a0_1 a1_0 a1_1 a2_0 a2_1 true _ A10.out).mono ?_); rintro e w21 ⟨rfl, hb⟩; refine ⟨_, rfl, ?_⟩; replace BK123 := bB BK123 hb; replace BK124 := bB BK124 hb; replace BK125 := bB BK125 hb; replace BK126 := bB BK126 hb; replace HB := bS HB hb; (try clear hb); (try clear hb2); (try clear hk); (try clear hi)))
   go_meet
   case rel => exact ⟨_, (true), sqD, H', ⟨by first | omega | exact Nat.le_refl _⟩, ⟨fb BK123.out⟩, ⟨fb BK124.out⟩, ⟨fb BK125.out⟩, ⟨fb BK126.out⟩, ⟨fW HB.out⟩⟩
  replace c11 := Bool.eq_false_iff.mpr c11
  subst c11
  have H1 : ((polygon_on.f k a0_0 a0_1 a1_0 a1_1 a3_0 a3_1).bind fun t128 => (if t128 = true then (polygon_meet.j0 k true a0_0 a0_1 a1_0 a1_1 a2_0 a2_1 a3_0 a3_1) else ((polygon_on.f k a2_0 a2_1 a3_0 a3_1 a0_0 a0_1).bind fun t129 => (if t129 = true then (polygon_meet.j0 k true a0_0 a0_1 a1_0 a1_1 a2_0 a2_1 a3_0 a3_1) else ((polygon_on.f k a2_0 a2_1 a3_0 a3_1 a1_0 a1_1).bind fun t130 => (polygon_meet.j0 k t130 a0_0 a0_1 a1_0 a1_1 a2_0 a2_1 a3_0 a3_1)))))) = some r := by rw [if_neg (show ¬ (false = true) by decide)] at H; exact H
  clear H
  have H := H1
  clear H1
  replace H := Option.bind_eq_some_iff.mp H
  obtain ⟨t128, A220, H⟩ := H
  replace H : (if t128 = true then (polygon_meet.j0 k true a0_0 a0_1 a1_0 a1_1 a2_0 a2_1 a3_0 a3_1) else ((polygon_on.f k a2_0 a2_1 a3_0 a3_1 a0_0 a0_1).bind fun t129 => (if t129 = true then (polygon_meet.j0 k true a0_0 a0_1 a1_0 a1_1 a2_0 a2_1 a3_0 a3_1) else ((polygon_on.f k a2_0 a2_1 a3_0 a3_1 a1_0 a1_1).bind fun t130 => (polygon_meet.j0 k t130 a0_0 a0_1 a1_0 a1_1 a2_0 a2_1 a3_0 a3_1))))) = some r := H
  have A22 := am A220
  clear A220
  by_cases c23 : t128 = true
  ·subst c23
   have H1 : (polygon_meet.j0 k true a0_0 a0_1 a1_0 a1_1 a2_0 a2_1 a3_0 a3_1) = some r := by rw [if_pos rfl] at H; exact H
   clear H
   have H := H1
   clear H1
   have H' := am H
   clear H
   have hnb24 := NB123_124.out
   have hnc24 := NB124_123.out
   have hnb25 := NB123_125.out
   have hnc25 := NB125_123.out
   have hnb26 := NB123_126.out
   have hnc26 := NB126_123.out
   have := yC1 BK123
   have := kC1 BK123
   have := bf BK123.out 0
   have := bf BK123.out 1
   have hnb28 := NB124_125.out
   have hnc28 := NB125_124.out
   have hnb29 := NB124_126.out
   have hnc29 := NB126_124.out
   have := yC1 BK124
   have := kC1 BK124
   have := bf BK124.out 0
   have := bf BK124.out 1
   have hnb31 := NB125_126.out
   have hnc31 := NB126_125.out
   have := yC1 BK125
   have := kC1 BK125
   have := bf BK125.out 0
   have := bf BK125.out 1
   go_wp2_with (first | ((with_reducible refine gate_callee (f := 41) rfl ?_); refine goesL_ (some 12) rfl rfl Try.func41 (by kernel_rfl) rfl #[.agg #[.int .i64 a0_0, .int .i64 a0_1], .agg #[.int .i64 a1_0, .int .i64 a1_1], .agg #[.int .i64 a2_0, .int .i64 a2_1]] rfl (by (try simp only [pml]); first | done | rfl | (simp only [pdt]; rfl)) ?_; (with_reducible refine (polygon_on.calls k a0_0 a0_1 a1_0 a1_1 a2_0 a2_1 false _ A10.out).mono ?_); rintro e w33 ⟨rfl, hb⟩; refine ⟨_, rfl, ?_⟩; replace BK123 := bB BK123 hb; replace BK124 := bB BK124 hb; replace BK125 := bB BK125 hb; replace BK126 := bB BK126 hb; replace HB := bS HB hb; (try clear hb); (try clear hb2); (try clear hk); (try clear hi); obtain ⟨_, _, _, _⟩ := zC2 BK123; obtain ⟨_, _, _, _⟩ := zC2 BK124; obtain ⟨_, _, _, _⟩ := zC2 BK126) | (go_at_call 41; (with_reducible refine (polygon_on.calls k a0_0 a0_1 a1_0 a1_1 a3_0 a3_1 true _ A22.out).mono ?_); rintro e w37 ⟨rfl, hb⟩; replace BK123 := bB BK123 hb; replace BK124 := bB BK124 hb; replace BK125 := bB BK125 hb; replace BK126 := bB BK126 hb; replace HB := bS HB hb; (try clear hb); (try clear hb2); (try clear hk); (try clear hi)))
   go_meet
   case rel => exact ⟨_, (true), sqD, H', ⟨by first | omega | exact Nat.le_refl _⟩, ⟨fb BK123.out⟩, ⟨fb BK124.out⟩, ⟨fb BK125.out⟩, ⟨fb BK126.out⟩, ⟨fW HB.out⟩⟩
  replace c23 := Bool.eq_false_iff.mpr c23
  subst c23
  have H1 : ((polygon_on.f k a2_0 a2_1 a3_0 a3_1 a0_0 a0_1).bind fun t129 => (if t129 = true then (polygon_meet.j0 k true a0_0 a0_1 a1_0 a1_1 a2_0 a2_1 a3_0 a3_1) else ((polygon_on.f k a2_0 a2_1 a3_0 a3_1 a1_0 a1_1).bind fun t130 => (polygon_meet.j0 k t130 a0_0 a0_1 a1_0 a1_1 a2_0 a2_1 a3_0 a3_1)))) = some r := by rw [if_neg (show ¬ (false = true) by decide)] at H; exact H
  clear H
  have H := H1
  clear H1
  replace H := Option.bind_eq_some_iff.mp H
  obtain ⟨t129, A380, H⟩ := H
  replace H : (if t129 = true then (polygon_meet.j0 k true a0_0 a0_1 a1_0 a1_1 a2_0 a2_1 a3_0 a3_1) else ((polygon_on.f k a2_0 a2_1 a3_0 a3_1 a1_0 a1_1).bind fun t130 => (polygon_meet.j0 k t130 a0_0 a0_1 a1_0 a1_1 a2_0 a2_1 a3_0 a3_1))) = some r := H
  have A38 := am A380
  clear A380
  by_cases c39 : t129 = true
  ·subst c39
   have H1 : (polygon_meet.j0 k true a0_0 a0_1 a1_0 a1_1 a2_0 a2_1 a3_0 a3_1) = some r := by rw [if_pos rfl] at H; exact H
   clear H
   have H := H1
   clear H1
   have H' := am H
   clear H
   have hnb40 := NB123_124.out
   have hnc40 := NB124_123.out
   have hnb41 := NB123_125.out
   have hnc41 := NB125_123.out
   have hnb42 := NB123_126.out
   have hnc42 := NB126_123.out
   have := yC1 BK123
   have := kC1 BK123
   have := bf BK123.out 0
   have := bf BK123.out 1
   have hnb44 := NB124_125.out
   have hnc44 := NB125_124.out
   have hnb45 := NB124_126.out
   have hnc45 := NB126_124.out
   have := yC1 BK124
   have := kC1 BK124
   have := bf BK124.out 0
   have := bf BK124.out 1
   have hnb47 := NB125_126.out
   have hnc47 := NB126_125.out
   have := yC1 BK125
   have := kC1 BK125
   have := bf BK125.out 0
   have := bf BK125.out 1
   go_wp2_with (first | ((with_reducible refine gate_callee (f := 41) rfl ?_); refine goesL_ (some 12) rfl rfl Try.func41 (by kernel_rfl) rfl #[.agg #[.int .i64 a0_0, .int .i64 a0_1], .agg #[.int .i64 a1_0, .int .i64 a1_1], .agg #[.int .i64 a2_0, .int .i64 a2_1]] rfl (by (try simp only [pml]); first | done | rfl | (simp only [pdt]; rfl)) ?_; (with_reducible refine (polygon_on.calls k a0_0 a0_1 a1_0 a1_1 a2_0 a2_1 false _ A10.out).mono ?_); rintro e w49 ⟨rfl, hb⟩; refine ⟨_, rfl, ?_⟩; replace BK123 := bB BK123 hb; replace BK124 := bB BK124 hb; replace BK125 := bB BK125 hb; replace BK126 := bB BK126 hb; replace HB := bS HB hb; (try clear hb); (try clear hb2); (try clear hk); (try clear hi); obtain ⟨_, _, _, _⟩ := zC2 BK123; obtain ⟨_, _, _, _⟩ := zC2 BK124; obtain ⟨_, _, _, _⟩ := zC2 BK126) | (go_at_call 41; (with_reducible refine (polygon_on.calls k a0_0 a0_1 a1_0 a1_1 a3_0 a3_1 false _ A22.out).mono ?_); rintro e w53 ⟨rfl, hb⟩; replace BK123 := bB BK123 hb; replace BK124 := bB BK124 hb; replace BK125 := bB BK125 hb; replace BK126 := bB BK126 hb; replace HB := bS HB hb; (try clear hb); (try clear hb2); (try clear hk); (try clear hi); obtain ⟨_, _, _, _⟩ := zC2 BK125; obtain ⟨_, _, _, _⟩ := zC2 BK126; obtain ⟨_, _, _, _⟩ := zC2 BK123) | (go_at_call 41; (with_reducible refine (polygon_on.calls k a2_0 a2_1 a3_0 a3_1 a0_0 a0_1 true _ A38.out).mono ?_); rintro e w57 ⟨rfl, hb⟩; replace BK123 := bB BK123 hb; replace BK124 := bB BK124 hb; replace BK125 := bB BK125 hb; replace BK126 := bB BK126 hb; replace HB := bS HB hb; (try clear hb); (try clear hb2); (try clear hk); (try clear hi)))
   go_meet
   case rel => exact ⟨_, (true), sqD, H', ⟨by first | omega | exact Nat.le_refl _⟩, ⟨fb BK123.out⟩, ⟨fb BK124.out⟩, ⟨fb BK125.out⟩, ⟨fb BK126.out⟩, ⟨fW HB.out⟩⟩
  replace c39 := Bool.eq_false_iff.mpr c39
  subst c39
  have H1 : ((polygon_on.f k a2_0 a2_1 a3_0 a3_1 a1_0 a1_1).bind fun t130 => (polygon_meet.j0 k t130 a0_0 a0_1 a1_0 a1_1 a2_0 a2_1 a3_0 a3_1)) = some r := by rw [if_neg (show ¬ (false = true) by decide)] at H; exact H
  clear H
  have H := H1
  clear H1
  replace H := Option.bind_eq_some_iff.mp H
  obtain ⟨t130, A580, H⟩ := H
  replace H : (polygon_meet.j0 k t130 a0_0 a0_1 a1_0 a1_1 a2_0 a2_1 a3_0 a3_1) = some r := H
  have A58 := am A580
  clear A580
  have H' := am H
  clear H
  have hnb59 := NB123_124.out
  have hnc59 := NB124_123.out
  have hnb60 := NB123_125.out
  have hnc60 := NB125_123.out
  have hnb61 := NB123_126.out
  have hnc61 := NB126_123.out
  have := yC1 BK123
  have := kC1 BK123
  have := bf BK123.out 0
  have := bf BK123.out 1
  have hnb63 := NB124_125.out
  have hnc63 := NB125_124.out
  have hnb64 := NB124_126.out
  have hnc64 := NB126_124.out
  have := yC1 BK124
  have := kC1 BK124
  have := bf BK124.out 0
  have := bf BK124.out 1
  have hnb66 := NB125_126.out
  have hnc66 := NB126_125.out
  have := yC1 BK125
  have := kC1 BK125
  have := bf BK125.out 0
  have := bf BK125.out 1
  go_wp2_with (first | ((with_reducible refine gate_callee (f := 41) rfl ?_); refine goesL_ (some 12) rfl rfl Try.func41 (by kernel_rfl) rfl #[.agg #[.int .i64 a0_0, .int .i64 a0_1], .agg #[.int .i64 a1_0, .int .i64 a1_1], .agg #[.int .i64 a2_0, .int .i64 a2_1]] rfl (by (try simp only [pml]); first | done | rfl | (simp only [pdt]; rfl)) ?_; (with_reducible refine (polygon_on.calls k a0_0 a0_1 a1_0 a1_1 a2_0 a2_1 false _ A10.out).mono ?_); rintro e w68 ⟨rfl, hb⟩; refine ⟨_, rfl, ?_⟩; replace BK123 := bB BK123 hb; replace BK124 := bB BK124 hb; replace BK125 := bB BK125 hb; replace BK126 := bB BK126 hb; replace HB := bS HB hb; (try clear hb); (try clear hb2); (try clear hk); (try clear hi); obtain ⟨_, _, _, _⟩ := zC2 BK123; obtain ⟨_, _, _, _⟩ := zC2 BK124; obtain ⟨_, _, _, _⟩ := zC2 BK126) | (go_at_call 41; (with_reducible refine (polygon_on.calls k a0_0 a0_1 a1_0 a1_1 a3_0 a3_1 false _ A22.out).mono ?_); rintro e w72 ⟨rfl, hb⟩; replace BK123 := bB BK123 hb; replace BK124 := bB BK124 hb; replace BK125 := bB BK125 hb; replace BK126 := bB BK126 hb; replace HB := bS HB hb; (try clear hb); (try clear hb2); (try clear hk); (try clear hi); obtain ⟨_, _, _, _⟩ := zC2 BK125; obtain ⟨_, _, _, _⟩ := zC2 BK126; obtain ⟨_, _, _, _⟩ := zC2 BK123) | (go_at_call 41; (with_reducible refine (polygon_on.calls k a2_0 a2_1 a3_0 a3_1 a0_0 a0_1 false _ A38.out).mono ?_); rintro e w76 ⟨rfl, hb⟩; replace BK123 := bB BK123 hb; replace BK124 := bB BK124 hb; replace BK125 := bB BK125 hb; replace BK126 := bB BK126 hb; replace HB := bS HB hb; (try clear hb); (try clear hb2); (try clear hk); (try clear hi); obtain ⟨_, _, _, _⟩ := zC2 BK125; obtain ⟨_, _, _, _⟩ := zC2 BK126; obtain ⟨_, _, _, _⟩ := zC2 BK124) | (go_at_call 41; (with_reducible refine (polygon_on.calls k a2_0 a2_1 a3_0 a3_1 a1_0 a1_1 t130 _ A58.out).mono ?_); rintro e w80 ⟨rfl, hb⟩; replace BK123 := bB BK123 hb; replace BK124 := bB BK124 hb; replace BK125 := bB BK125 hb; replace BK126 := bB BK126 hb; replace HB := bS HB hb; (try clear hb); (try clear hb2); (try clear hk); (try clear hi)))
  go_meet
  case rel => exact ⟨_, (t130), sqD, H', ⟨by first | omega | exact Nat.le_refl _⟩, ⟨fb BK123.out⟩, ⟨fb BK124.out⟩, ⟨fb BK125.out⟩, ⟨fb BK126.out⟩, ⟨fW HB.out⟩⟩
 case rest =>
  clear HC5
  try clear c1;try clear c2;try clear p2;try clear c3;try clear c4;try clear c5;try clear c6;try clear c11;try clear c12;try clear c13;try clear c14;try clear c16;try clear c17;try clear c19;try clear c23;try clear c24;try clear c25;try clear c26;try clear c28;try clear c29;try clear c31;try clear c39;try clear c40;try clear c41;try clear c42;try clear c44;try clear c45;try clear c47;try clear c59;try clear c60;try clear c61;try clear c62;try clear c63;try clear c64;try clear c66
  obtain ⟨kq, x30_4, rfl, HA, HJ4, BK123, BK124, BK125, BK126, HB⟩ := hcut
  cases kq with
  | zero => exact absurd HA.out (by simp [polygon_meet.j0])
  | succ kj4 =>
   have H := HA.out
   clear HA
   simp only [polygon_meet.j0] at H
   by_cases c81 : x30_4 = true
   ·subst c81
    have H1 : (some true) = some r := by rw [if_pos rfl] at H; exact H
    clear H
    have H := H1
    clear H1
    obtain rfl := Option.some.inj H
    go_wp2
    go_ret
    exact ⟨sqE, fW HB.out⟩
   ·replace c81 := Bool.eq_false_iff.mpr c81
    subst c81
    have H1 : ((polygon_Orient.f a0_0 a0_1 a1_0 a1_1 a2_0 a2_1).bind fun t131 => ((polygon_Orient.f a0_0 a0_1 a1_0 a1_1 a3_0 a3_1).bind fun t132 => (if (wrap64 (t131 * t132)) < 0 then ((polygon_Orient.f a2_0 a2_1 a3_0 a3_1 a0_0 a0_1).bind fun t133 => ((polygon_Orient.f a2_0 a2_1 a3_0 a3_1 a1_0 a1_1).bind fun t134 => (some (decide ((wrap64 (t133 * t134)) < 0))))) else (some false)))) = some r := by rw [if_neg (show ¬ (false = true) by decide)] at H; exact H
    clear H
    have H := H1
    clear H1
    replace H := Option.bind_eq_some_iff.mp H
    obtain ⟨t131, A820, H⟩ := H
    replace H : ((polygon_Orient.f a0_0 a0_1 a1_0 a1_1 a3_0 a3_1).bind fun t132 => (if (wrap64 (t131 * t132)) < 0 then ((polygon_Orient.f a2_0 a2_1 a3_0 a3_1 a0_0 a0_1).bind fun t133 => ((polygon_Orient.f a2_0 a2_1 a3_0 a3_1 a1_0 a1_1).bind fun t134 => (some (decide ((wrap64 (t133 * t134)) < 0))))) else (some false))) = some r := H
    have A82 := am A820
    clear A820
    replace H := Option.bind_eq_some_iff.mp H
    obtain ⟨t132, A830, H⟩ := H
    replace H : (if (wrap64 (t131 * t132)) < 0 then ((polygon_Orient.f a2_0 a2_1 a3_0 a3_1 a0_0 a0_1).bind fun t133 => ((polygon_Orient.f a2_0 a2_1 a3_0 a3_1 a1_0 a1_1).bind fun t134 => (some (decide ((wrap64 (t133 * t134)) < 0))))) else (some false)) = some r := H
    have A83 := am A830
    clear A830
    by_cases c84 : (wrap64 (t131 * t132)) < 0
    ·rw [if_pos c84] at H
     have c84b0 : decide ((wrap64 (t131 * t132)) < 0) = true := decide_eq_true c84
     clear c84
     replace H := Option.bind_eq_some_iff.mp H
     obtain ⟨t133, A850, H⟩ := H
     replace H : ((polygon_Orient.f a2_0 a2_1 a3_0 a3_1 a1_0 a1_1).bind fun t134 => (some (decide ((wrap64 (t133 * t134)) < 0)))) = some r := H
     have A85 := am A850
     clear A850
     replace H := Option.bind_eq_some_iff.mp H
     obtain ⟨t134, A860, H⟩ := H
     replace H : (some (decide ((wrap64 (t133 * t134)) < 0))) = some r := H
     have A86 := am A860
     clear A860
     obtain rfl := Option.some.inj H
     try go_wp2
     have n0_ := am (blk_drew BK123.out)
     have n1_ := am (blk_drew BK124.out)
     have n2_ := am (blk_drew BK125.out)
     have n3_ := am (blk_drew BK126.out)
     have n4_ := am (below_drew1 HB.out)
     clear BK123 BK124 BK125 BK126 HB
     have BK123 := n0_
     have BK124 := n1_
     have BK125 := n2_
     have BK126 := n3_
     have HB := n4_
     clear n0_ n1_ n2_ n3_ n4_
     refine start_ (n := 23) (S := fun w' => w'.cell? ⟨gb123, 0, none⟩ = some (.int .i64 a0_0) ∧ w'.cell? ⟨gb123, 1, none⟩ = some (.int .i64 a0_1) ∧ w'.cell? ⟨gb124, 0, none⟩ = some (.int .i64 a1_0) ∧ w'.cell? ⟨gb124, 1, none⟩ = some (.int .i64 a1_1) ∧ w'.cell? ⟨gb125, 0, none⟩ = some (.int .i64 a2_0) ∧ w'.cell? ⟨gb125, 1, none⟩ = some (.int .i64 a2_1) ∧ w'.cell? ⟨gb126, 0, none⟩ = some (.int .i64 a3_0) ∧ w'.cell? ⟨gb126, 1, none⟩ = some (.int .i64 a3_1)) (ds := []) #[F,F,F,F,F,F,F,F,F,F,F,F,F,F,F,F,F,F,F,F,F,F,F] (by kernel_rfl) rfl rfl ⟨(bc BK123.out 0).trans rfl, (bc BK123.out 1).trans rfl, (bc BK124.out 0).trans rfl, (bc BK124.out 1).trans rfl, (bc BK125.out 0).trans rfl, (bc BK125.out 1).trans rfl, (bc BK126.out 0).trans rfl, (bc BK126.out 1).trans rfl⟩ (fun hHeld => ?_); refine with_tabW polygon_meet.tab3 polygon_meet.bits3 (fun HT_ HW_ => ?_)
     generalize wc.drew = w87 at BK123 BK124 BK125 BK126 HB hHeld ⊢
     refine tk (i := 0) (N := some 31) (fl 23 1 []) HT_ HW_ hHeld ?_
     refine tk (i := 1) (N := some 32) (fl 23 2 []) HT_ HW_ hHeld ?_
     refine tk (i := 2) (N := some 33) (fl 23 3 []) HT_ HW_ hHeld ?_
     refine tk (i := 4) (N := some 35) (fl 23 3 [4]) HT_ HW_ hHeld ?_
     refine tk (i := 5) (N := some 36) (fl 23 3 [4, 5]) HT_ HW_ hHeld ?_
     refine tk (i := 6) (N := some 37) (fl 23 3 [4, 5, 6]) HT_ HW_ hHeld ?_
     refine one_ (i := 3) (N := some 34) (fl 23 7 []) rfl rfl (one_of HT_.out (by kernel_rfl)) (by decide) (fun K hK => ?_)
     refine goes_ Try.func13 (by kernel_rfl) rfl #[.agg #[.int .i64 a0_0, .int .i64 a0_1], .agg #[.int .i64 a1_0, .int .i64 a1_1], .agg #[.int .i64 a2_0, .int .i64 a2_1]] (by rfl) rfl rfl (by (try simp only [pml]); first | done | rfl | (simp only [pdt]; rfl)) ?_
     with_reducible refine (polygon_Orient.calls a0_0 a0_1 a1_0 a1_1 a2_0 a2_1 t131 _ A82.out).mono ?_
     rintro e w88 ⟨rfl, hb⟩
     refine ⟨_, rfl, ?_⟩
     have n0_ := bB BK123 hb
     have n1_ := bB BK124 hb
     have n2_ := bB BK125 hb
     have n3_ := bB BK126 hb
     have n4_ := bS HB hb
     clear BK123 BK124 BK125 BK126 HB
     have BK123 := n0_
     have BK124 := n1_
     have BK125 := n2_
     have BK126 := n3_
     have HB := n4_
     clear n0_ n1_ n2_ n3_ n4_
     (try clear hb)
     (try clear hb2)
     (try clear hk)
     (try clear hi)
     refine hK.out _ _ ⟨(bc BK123.out 0).trans rfl, (bc BK123.out 1).trans rfl, (bc BK124.out 0).trans rfl, (bc BK124.out 1).trans rfl, (bc BK125.out 0).trans rfl, (bc BK125.out 1).trans rfl, (bc BK126.out 0).trans rfl, (bc BK126.out 1).trans rfl⟩ (fun hHeld => ?_)
     clear hK K
     refine norm_ (a' := ?_) ?_ ?_
     rotate_left
     ·show Act.put _ (some 34) _ = _
      simp only [Act.put, psl, i64_w, i32_w]
      rfl
     refine one_ (i := 7) (N := some 38) (fl 23 8 []) rfl rfl (one_of HT_.out (by kernel_rfl)) (by decide) (fun K hK => ?_)
     refine goes_ Try.func13 (by kernel_rfl) rfl #[.agg #[.int .i64 a0_0, .int .i64 a0_1], .agg #[.int .i64 a1_0, .int .i64 a1_1], .agg #[.int .i64 a3_0, .int .i64 a3_1]] (by rfl) rfl rfl (by (try simp only [pml]); first | done | rfl | (simp only [pdt]; rfl)) ?_
     with_reducible refine (polygon_Orient.calls a0_0 a0_1 a1_0 a1_1 a3_0 a3_1 t132 _ A83.out).mono ?_
     rintro e w89 ⟨rfl, hb⟩
     refine ⟨_, rfl, ?_⟩
     have n0_ := bB BK123 hb
     have n1_ := bB BK124 hb
     have n2_ := bB BK125 hb
     have n3_ := bB BK126 hb
     have n4_ := bS HB hb
     clear BK123 BK124 BK125 BK126 HB
     have BK123 := n0_
     have BK124 := n1_
     have BK125 := n2_
     have BK126 := n3_
     have HB := n4_
     clear n0_ n1_ n2_ n3_ n4_
     (try clear hb)
     (try clear hb2)
     (try clear hk)
     (try clear hi)
     refine hK.out _ _ ⟨(bc BK123.out 0).trans rfl, (bc BK123.out 1).trans rfl, (bc BK124.out 0).trans rfl, (bc BK124.out 1).trans rfl, (bc BK125.out 0).trans rfl, (bc BK125.out 1).trans rfl, (bc BK126.out 0).trans rfl, (bc BK126.out 1).trans rfl⟩ (fun hHeld => ?_)
     clear hK K
     refine norm_ (a' := ?_) ?_ ?_
     rotate_left
     ·show Act.put _ (some 38) _ = _
      simp only [Act.put, psl, i64_w, i32_w]
      rfl
     refine pu (i := 8) (N := some 39) (fl 23 9 []) HT_ ?_
     refine pu (i := 9) (N := some 40) (fl 23 10 []) HT_ ?_
     refine pu (i := 10) (N := some 41) (fl 23 11 []) HT_ ?_
     refine tk (i := 11) (N := some 42) (fl 23 12 []) HT_ HW_ hHeld ?_
     refine tk (i := 12) (N := some 43) (fl 23 13 []) HT_ HW_ hHeld ?_
     refine tk (i := 13) (N := some 44) (fl 23 14 []) HT_ HW_ hHeld ?_
     refine tk (i := 15) (N := some 46) (fl 23 14 [15]) HT_ HW_ hHeld ?_
     refine tk (i := 16) (N := some 47) (fl 23 14 [15, 16]) HT_ HW_ hHeld ?_
     refine tk (i := 17) (N := some 48) (fl 23 14 [15, 16, 17]) HT_ HW_ hHeld ?_
     refine one_ (i := 14) (N := some 45) (fl 23 18 []) rfl rfl (one_of HT_.out (by kernel_rfl)) (by decide) (fun K hK => ?_)
     refine goes_ Try.func13 (by kernel_rfl) rfl #[.agg #[.int .i64 a2_0, .int .i64 a2_1], .agg #[.int .i64 a3_0, .int .i64 a3_1], .agg #[.int .i64 a0_0, .int .i64 a0_1]] (by rfl) rfl rfl (by (try simp only [pml]); first | done | rfl | (simp only [pdt]; rfl)) ?_
     with_reducible refine (polygon_Orient.calls a2_0 a2_1 a3_0 a3_1 a0_0 a0_1 t133 _ A85.out).mono ?_
     rintro e w90 ⟨rfl, hb⟩
     refine ⟨_, rfl, ?_⟩
     have n0_ := bB BK123 hb
     have n1_ := bB BK124 hb
     have n2_ := bB BK125 hb
     have n3_ := bB BK126 hb
     have n4_ := bS HB hb
     clear BK123 BK124 BK125 BK126 HB
     have BK123 := n0_
     have BK124 := n1_
     have BK125 := n2_
     have BK126 := n3_
     have HB := n4_
     clear n0_ n1_ n2_ n3_ n4_
     (try clear hb)
     (try clear hb2)
     (try clear hk)
     (try clear hi)
     refine hK.out _ _ ⟨(bc BK123.out 0).trans rfl, (bc BK123.out 1).trans rfl, (bc BK124.out 0).trans rfl, (bc BK124.out 1).trans rfl, (bc BK125.out 0).trans rfl, (bc BK125.out 1).trans rfl, (bc BK126.out 0).trans rfl, (bc BK126.out 1).trans rfl⟩ (fun hHeld => ?_)
     clear hK K
     refine norm_ (a' := ?_) ?_ ?_
     rotate_left
     ·show Act.put _ (some 45) _ = _
      simp only [Act.put, psl, i64_w, i32_w]
      rfl
     refine one_ (i := 18) (N := some 49) (fl 23 19 []) rfl rfl (one_of HT_.out (by kernel_rfl)) (by decide) (fun K hK => ?_)
     refine goes_ Try.func13 (by kernel_rfl) rfl #[.agg #[.int .i64 a2_0, .int .i64 a2_1], .agg #[.int .i64 a3_0, .int .i64 a3_1], .agg #[.int .i64 a1_0, .int .i64 a1_1]] (by rfl) rfl rfl (by (try simp only [pml]); first | done | rfl | (simp only [pdt]; rfl)) ?_
     with_reducible refine (polygon_Orient.calls a2_0 a2_1 a3_0 a3_1 a1_0 a1_1 t134 _ A86.out).mono ?_
     rintro e w91 ⟨rfl, hb⟩
     refine ⟨_, rfl, ?_⟩
     have n0_ := bB BK123 hb
     have n1_ := bB BK124 hb
     have n2_ := bB BK125 hb
     have n3_ := bB BK126 hb
     have n4_ := bS HB hb
     clear BK123 BK124 BK125 BK126 HB
     have BK123 := n0_
     have BK124 := n1_
     have BK125 := n2_
     have BK126 := n3_
     have HB := n4_
     clear n0_ n1_ n2_ n3_ n4_
     (try clear hb)
     (try clear hb2)
     (try clear hk)
     (try clear hi)
     refine hK.out _ _ ⟨(bc BK123.out 0).trans rfl, (bc BK123.out 1).trans rfl, (bc BK124.out 0).trans rfl, (bc BK124.out 1).trans rfl, (bc BK125.out 0).trans rfl, (bc BK125.out 1).trans rfl, (bc BK126.out 0).trans rfl, (bc BK126.out 1).trans rfl⟩ (fun hHeld => ?_)
     clear hK K
     refine norm_ (a' := ?_) ?_ ?_
     rotate_left
     ·show Act.put _ (some 49) _ = _
      simp only [Act.put, psl, i64_w, i32_w]
      rfl
     refine pu (i := 19) (N := some 50) (fl 23 20 []) HT_ ?_
     refine pu (i := 20) (N := some 51) (fl 23 21 []) HT_ ?_
     refine pu (i := 21) (N := some 52) (fl 23 22 []) HT_ ?_
     refine pu (i := 22) (N := some 8) (fl 23 23 []) HT_ ?_
     refine done_ (done_of HT_.out (by kernel_rfl)) ?_
     try go_wp2
     go_ret
     exact ⟨sqE, fW HB.out⟩
    ·rw [if_neg c84] at H
     have c84b0 : decide ((wrap64 (t131 * t132)) < 0) = false := decide_eq_false c84
     clear c84
     obtain rfl := Option.some.inj H
     try go_wp2
     have n0_ := am (blk_drew BK123.out)
     have n1_ := am (blk_drew BK124.out)
     have n2_ := am (blk_drew BK125.out)
     have n3_ := am (blk_drew BK126.out)
     have n4_ := am (below_drew1 HB.out)
     clear BK123 BK124 BK125 BK126 HB
     have BK123 := n0_
     have BK124 := n1_
     have BK125 := n2_
     have BK126 := n3_
     have HB := n4_
     clear n0_ n1_ n2_ n3_ n4_
     refine start_ (n := 23) (S := fun w' => w'.cell? ⟨gb123, 0, none⟩ = some (.int .i64 a0_0) ∧ w'.cell? ⟨gb123, 1, none⟩ = some (.int .i64 a0_1) ∧ w'.cell? ⟨gb124, 0, none⟩ = some (.int .i64 a1_0) ∧ w'.cell? ⟨gb124, 1, none⟩ = some (.int .i64 a1_1) ∧ w'.cell? ⟨gb125, 0, none⟩ = some (.int .i64 a2_0) ∧ w'.cell? ⟨gb125, 1, none⟩ = some (.int .i64 a2_1) ∧ w'.cell? ⟨gb126, 0, none⟩ = some (.int .i64 a3_0) ∧ w'.cell? ⟨gb126, 1, none⟩ = some (.int .i64 a3_1)) (ds := []) #[F,F,F,F,F,F,F,F,F,F,F,F,F,F,F,F,F,F,F,F,F,F,F] (by kernel_rfl) rfl rfl ⟨(bc BK123.out 0).trans rfl, (bc BK123.out 1).trans rfl, (bc BK124.out 0).trans rfl, (bc BK124.out 1).trans rfl, (bc BK125.out 0).trans rfl, (bc BK125.out 1).trans rfl, (bc BK126.out 0).trans rfl, (bc BK126.out 1).trans rfl⟩ (fun hHeld => ?_); refine with_tabW polygon_meet.tab3 polygon_meet.bits3 (fun HT_ HW_ => ?_)
     generalize wc.drew = w92 at BK123 BK124 BK125 BK126 HB hHeld ⊢
     refine tk (i := 0) (N := some 31) (fl 23 1 []) HT_ HW_ hHeld ?_
     refine tk (i := 1) (N := some 32) (fl 23 2 []) HT_ HW_ hHeld ?_
     refine tk (i := 2) (N := some 33) (fl 23 3 []) HT_ HW_ hHeld ?_
     refine tk (i := 4) (N := some 35) (fl 23 3 [4]) HT_ HW_ hHeld ?_
     refine tk (i := 5) (N := some 36) (fl 23 3 [4, 5]) HT_ HW_ hHeld ?_
     refine tk (i := 6) (N := some 37) (fl 23 3 [4, 5, 6]) HT_ HW_ hHeld ?_
     refine one_ (i := 3) (N := some 34) (fl 23 7 []) rfl rfl (one_of HT_.out (by kernel_rfl)) (by decide) (fun K hK => ?_)
     refine goes_ Try.func13 (by kernel_rfl) rfl #[.agg #[.int .i64 a0_0, .int .i64 a0_1], .agg #[.int .i64 a1_0, .int .i64 a1_1], .agg #[.int .i64 a2_0, .int .i64 a2_1]] (by rfl) rfl rfl (by (try simp only [pml]); first | done | rfl | (simp only [pdt]; rfl)) ?_
     with_reducible refine (polygon_Orient.calls a0_0 a0_1 a1_0 a1_1 a2_0 a2_1 t131 _ A82.out).mono ?_
     rintro e w93 ⟨rfl, hb⟩
     refine ⟨_, rfl, ?_⟩
     have n0_ := bB BK123 hb
     have n1_ := bB BK124 hb
     have n2_ := bB BK125 hb
     have n3_ := bB BK126 hb
     have n4_ := bS HB hb
     clear BK123 BK124 BK125 BK126 HB
     have BK123 := n0_
     have BK124 := n1_
     have BK125 := n2_
     have BK126 := n3_
     have HB := n4_
     clear n0_ n1_ n2_ n3_ n4_
     (try clear hb)
     (try clear hb2)
     (try clear hk)
     (try clear hi)
     refine hK.out _ _ ⟨(bc BK123.out 0).trans rfl, (bc BK123.out 1).trans rfl, (bc BK124.out 0).trans rfl, (bc BK124.out 1).trans rfl, (bc BK125.out 0).trans rfl, (bc BK125.out 1).trans rfl, (bc BK126.out 0).trans rfl, (bc BK126.out 1).trans rfl⟩ (fun hHeld => ?_)
     clear hK K
     refine norm_ (a' := ?_) ?_ ?_
     rotate_left
     ·show Act.put _ (some 34) _ = _
      simp only [Act.put, psl, i64_w, i32_w]
      rfl
     refine one_ (i := 7) (N := some 38) (fl 23 8 []) rfl rfl (one_of HT_.out (by kernel_rfl)) (by decide) (fun K hK => ?_)
     refine goes_ Try.func13 (by kernel_rfl) rfl #[.agg #[.int .i64 a0_0, .int .i64 a0_1], .agg #[.int .i64 a1_0, .int .i64 a1_1], .agg #[.int .i64 a3_0, .int .i64 a3_1]] (by rfl) rfl rfl (by (try simp only [pml]); first | done | rfl | (simp only [pdt]; rfl)) ?_
     with_reducible refine (polygon_Orient.calls a0_0 a0_1 a1_0 a1_1 a3_0 a3_1 t132 _ A83.out).mono ?_
     rintro e w94 ⟨rfl, hb⟩
     refine ⟨_, rfl, ?_⟩
     have n0_ := bB BK123 hb
     have n1_ := bB BK124 hb
     have n2_ := bB BK125 hb
     have n3_ := bB BK126 hb
     have n4_ := bS HB hb
     clear BK123 BK124 BK125 BK126 HB
     have BK123 := n0_
     have BK124 := n1_
     have BK125 := n2_
     have BK126 := n3_
     have HB := n4_
     clear n0_ n1_ n2_ n3_ n4_
     (try clear hb)
     (try clear hb2)
     (try clear hk)
     (try clear hi)
     refine hK.out _ _ ⟨(bc BK123.out 0).trans rfl, (bc BK123.out 1).trans rfl, (bc BK124.out 0).trans rfl, (bc BK124.out 1).trans rfl, (bc BK125.out 0).trans rfl, (bc BK125.out 1).trans rfl, (bc BK126.out 0).trans rfl, (bc BK126.out 1).trans rfl⟩ (fun hHeld => ?_)
     clear hK K
     refine norm_ (a' := ?_) ?_ ?_
     rotate_left
     ·show Act.put _ (some 38) _ = _
      simp only [Act.put, psl, i64_w, i32_w]
      rfl
     refine pu (i := 8) (N := some 39) (fl 23 9 []) HT_ ?_
     refine pu (i := 9) (N := some 40) (fl 23 10 []) HT_ ?_
     refine pu (i := 10) (N := some 41) (fl 23 11 []) HT_ ?_
     refine pure_ (i := 11) (N := some 42) (v := undef) (a' := ?_) #[T,T,T,T,T,T,T,T,T,T,T,T,F,F,F,F,F,F,F,F,F,F,F] rfl rfl (any_of HT_.out (by kernel_rfl)) (fun _ _ _ h => h) (Or.inr ⟨by rfl, rfl⟩) ?_ ?_
     rotate_left
     ·simp only [Act.put, psl, i64_w, i32_w]
      rfl
     refine pure_ (i := 12) (N := some 43) (v := undef) (a' := ?_) #[T,T,T,T,T,T,T,T,T,T,T,T,T,F,F,F,F,F,F,F,F,F,F] rfl rfl (any_of HT_.out (by kernel_rfl)) (fun _ _ _ h => h) (Or.inr ⟨by rfl, rfl⟩) ?_ ?_
     rotate_left
     ·simp only [Act.put, psl, i64_w, i32_w]
      rfl
     refine pure_ (i := 13) (N := some 44) (v := undef) (a' := ?_) #[T,T,T,T,T,T,T,T,T,T,T,T,T,T,F,F,F,F,F,F,F,F,F] rfl rfl (any_of HT_.out (by kernel_rfl)) (fun _ _ _ h => h) (Or.inr ⟨by rfl, rfl⟩) ?_ ?_
     rotate_left
     ·simp only [Act.put, psl, i64_w, i32_w]
      rfl
     refine pure_ (i := 14) (N := some 45) (v := undef) (a' := ?_) #[T,T,T,T,T,T,T,T,T,T,T,T,T,T,T,F,F,F,F,F,F,F,F] rfl rfl (any_of HT_.out (by kernel_rfl)) (fun _ _ _ h => h) (Or.inr ⟨by rfl, rfl⟩) ?_ ?_
     rotate_left
     ·simp only [Act.put, psl, i64_w, i32_w]
      rfl
     refine pure_ (i := 15) (N := some 46) (v := undef) (a' := ?_) #[T,T,T,T,T,T,T,T,T,T,T,T,T,T,T,T,F,F,F,F,F,F,F] rfl rfl (any_of HT_.out (by kernel_rfl)) (fun _ _ _ h => h) (Or.inr ⟨by rfl, rfl⟩) ?_ ?_
     rotate_left
     ·simp only [Act.put, psl, i64_w, i32_w]
      rfl
     refine pure_ (i := 16) (N := some 47) (v := undef) (a' := ?_) #[T,T,T,T,T,T,T,T,T,T,T,T,T,T,T,T,T,F,F,F,F,F,F] rfl rfl (any_of HT_.out (by kernel_rfl)) (fun _ _ _ h => h) (Or.inr ⟨by rfl, rfl⟩) ?_ ?_
     rotate_left
     ·simp only [Act.put, psl, i64_w, i32_w]
      rfl
     refine pure_ (i := 17) (N := some 48) (v := undef) (a' := ?_) #[T,T,T,T,T,T,T,T,T,T,T,T,T,T,T,T,T,T,F,F,F,F,F] rfl rfl (any_of HT_.out (by kernel_rfl)) (fun _ _ _ h => h) (Or.inr ⟨by rfl, rfl⟩) ?_ ?_
     rotate_left
     ·simp only [Act.put, psl, i64_w, i32_w]
      rfl
     refine pure_ (i := 18) (N := some 49) (v := undef) (a' := ?_) #[T,T,T,T,T,T,T,T,T,T,T,T,T,T,T,T,T,T,T,F,F,F,F] rfl rfl (any_of HT_.out (by kernel_rfl)) (fun _ _ _ h => h) (Or.inr ⟨by rfl, rfl⟩) ?_ ?_
     rotate_left
     ·simp only [Act.put, psl, i64_w, i32_w]
      rfl
     refine pure_ (i := 19) (N := some 50) (v := undef) (a' := ?_) #[T,T,T,T,T,T,T,T,T,T,T,T,T,T,T,T,T,T,T,T,F,F,F] rfl rfl (any_of HT_.out (by kernel_rfl)) (fun _ _ _ h => h) (Or.inr ⟨by rfl, rfl⟩) ?_ ?_
     rotate_left
     ·simp only [Act.put, psl, i64_w, i32_w]
      rfl
     refine pure_ (i := 20) (N := some 51) (v := undef) (a' := ?_) #[T,T,T,T,T,T,T,T,T,T,T,T,T,T,T,T,T,T,T,T,T,F,F] rfl rfl (any_of HT_.out (by kernel_rfl)) (fun _ _ _ h => h) (Or.inr ⟨by rfl, rfl⟩) ?_ ?_
     rotate_left
     ·simp only [Act.put, psl, i64_w, i32_w]
      rfl
     refine pu (i := 21) (N := some 52) (fl 23 22 []) HT_ ?_
     refine pu (i := 22) (N := some 8) (fl 23 23 []) HT_ ?_
     refine done_ (done_of HT_.out (by kernel_rfl)) ?_
     try go_wp2
     go_ret
     exact ⟨sqE, fW HB.out⟩

end Go.Proofs.Ytcembjgpcbodcaa.QA
