import Derived.Test.YtmmdikhmlmoolaaZQAx0
import Derived.Test.YtmmdikhmlmoolaaZQAx3
import Derived.Test.YtmmdikhmlmoolaaZQAx6
import Derived.Test.YtmmdikhmlmoolaaZQAx13
import Derived.Test.YtmmdikhmlmoolaaZQAx14
import Derived.Test.YtmmdikhmlmoolaaZQAx15
import Derived.Test.YtmmdikhmlmoolaaZQAx20
import Derived.Test.YtmmdikhmlmoolaaZQAx22
import Derived.Test.YtmmdikhmlmoolaaZQAx23
import Derived.Test.YtmmdikhmlmoolaaZQAx24
namespace Go.Proofs.Ytmmdikhmlmoolaa.QA
open Go.RowKit Go.Proofs.YtmmdikhmlmoolaaW.PrintWords Go.Proofs.YtmmdikhmlmoolaaW.PrintLast Go.Proofs.YtmmdikhmlmoolaaW.PrintMore
open Go.Proofs.YtmmdikhmlmoolaaW.PrintWords renaming blk_drewN → bN, blk_drew → bd, blk_alloc → ba, below_alloc → wa, pw_below_drewN → wN, below_drew1 → wd, below_set → ws, blk_frozen → bf, blk_cell → bc, gate_callee → gc
open Aside0 renaming mk → am
attribute [local go_sem] max2_int min2_int max_two min_two max_three min_three max_four min_four
set_option linter.unusedVariables false
set_option linter.unusedSimpArgs false

mutual
def w_BoxRelates.j0 : Nat → Bool → Int → Int → Int → Int → Int → Int → Int → Int → Int → Int → Int → Int → Option (Bool)
 | 0, _, _, _, _, _, _, _, _, _, _, _, _, _ => none
 | k + 1, x37, x581000, x581001, x581002, x581003, x581004, x581005, x582000, x582001, x582002, x582003, x582004, x582005 => if x37 = true then (some false) else ((box_Touch.f x581000 x581001 x581002 x581003 x581004 x581005 x582000 x582001 x582002 x582003 x582004 x582005).bind fun bt590 => ((w_both.f k x581000 x581001 x581002 x581003 x581004 x581005 x582000 x582001 x582002 x582003 x582004 x582005).bind fun t592 => (if t592 = 0 then ((r_Touch.f k x581000 x581001 x581002 x581003 x581004 x581005 x582000 x582001 x582002 x582003 x582004 x582005).bind fun t593 => (if t593 < 0 then (if bt590.2 = 9 then (if bt590.1 = 0 then (w_BoxRelates.j1 k true) else (if t593 ≥ 0 then (if bt590.2 = 0 then (w_BoxRelates.j1 k (bt590.1 == t593)) else (w_BoxRelates.j1 k false)) else (w_BoxRelates.j1 k false))) else (if t593 ≥ 0 then (if bt590.2 = 0 then (w_BoxRelates.j1 k (bt590.1 == t593)) else (w_BoxRelates.j1 k false)) else (w_BoxRelates.j1 k false))) else (if t593 ≥ 0 then (if bt590.2 = 0 then (w_BoxRelates.j1 k (bt590.1 == t593)) else (w_BoxRelates.j1 k false)) else (w_BoxRelates.j1 k false)))) else (if bt590.2 = t592 then (some (bt590.1 == 0)) else (some false)))))
def w_BoxRelates.j1 : Nat → Bool → Option (Bool)
 | 0, _ => none
 | k + 1, x6 => some x6
end
def w_BoxRelates.f (k : Nat) (a0_0 : Int) (a0_1 : Int) (a0_2 : Int) (a0_3 : Int) (a0_4 : Int) (a0_5 : Int) (a1_0 : Int) (a1_1 : Int) (a1_2 : Int) (a1_3 : Int) (a1_4 : Int) (a1_5 : Int) (a2_0 : Int) (a2_1 : Int) (a2_2 : Int) : Option (Bool) := (w_awake.f).bind fun t583 => (if t583 = true then ((box_Has.f k a0_0 a0_1 a0_2 a0_3 a0_4 a0_5 a2_0 a2_1 a2_2).bind fun t584 => ((r_Has.f k a0_0 a0_1 a0_2 a0_3 a0_4 a0_5 a2_0 a2_1 a2_2).bind fun t585 => (if (t584 != t585) = true then (w_BoxRelates.j0 k true a0_0 a0_1 a0_2 a0_3 a0_4 a0_5 a1_0 a1_1 a1_2 a1_3 a1_4 a1_5) else ((box_Inside.f a0_0 a0_1 a0_2 a0_3 a0_4 a0_5 a1_0 a1_1 a1_2 a1_3 a1_4 a1_5).bind fun t586 => ((r_Inside.f k a0_0 a0_1 a0_2 a0_3 a0_4 a0_5 a1_0 a1_1 a1_2 a1_3 a1_4 a1_5).bind fun t587 => (if (t586 != t587) = true then (w_BoxRelates.j0 k true a0_0 a0_1 a0_2 a0_3 a0_4 a0_5 a1_0 a1_1 a1_2 a1_3 a1_4 a1_5) else ((box_Overlap.f a0_0 a0_1 a0_2 a0_3 a0_4 a0_5 a1_0 a1_1 a1_2 a1_3 a1_4 a1_5).bind fun t588 => ((r_Overlap.f k a0_0 a0_1 a0_2 a0_3 a0_4 a0_5 a1_0 a1_1 a1_2 a1_3 a1_4 a1_5).bind fun t589 => (w_BoxRelates.j0 k (t588 != t589) a0_0 a0_1 a0_2 a0_3 a0_4 a0_5 a1_0 a1_1 a1_2 a1_3 a1_4 a1_5))))))))) else (some false))
def w_BoxRelates.T3 : Bool × List (List Nat × List Nat) := (true, [([], []), ([], []), ([0, 1], [0, 1]), ([], []), ([], []), ([3, 4, 2], [3, 4]), ([2, 5], [2, 5]), ([6, 5], [6]), ([7], [7]), ([7], [7]), ([8, 9, 7, 7], [7, 8, 9]), ([7], [7]), ([7], [7]), ([11, 12, 10, 7], [7, 11, 12]), ([10, 13, 7], [7, 10, 13]), ([7, 14], [7, 14]), ([15, 13], [15]), ([16], [16]), ([16], [16]), ([17, 18, 16, 16], [16, 17, 18]), ([16], [16]), ([16], [16]), ([20, 21, 19, 16], [16, 20, 21]), ([19, 22, 16], [16, 19, 22]), ([16, 23], [16, 23])])
def w_BoxRelates.B3 : List Nat := [0, 0, 3, 0, 0, 31, 63, 127, 255, 255, 1023, 255, 255, 8191, 16383, 32767, 65535, 131071, 131071, 524287, 131071, 131071, 4194303, 8388607, 16777215]
theorem w_BoxRelates.tab3 : rtab .any (opsOf Try.f6 3) = w_BoxRelates.T3 := by kernel_rfl
theorem w_BoxRelates.bits3 : waitsOk w_BoxRelates.T3.2 w_BoxRelates.B3 = true := by kernel_rfl
set_option maxHeartbeats 8000000 in
set_option maxRecDepth 100000 in
theorem w_BoxRelates.calls (k : Nat) (a0_0 : Int) (a0_1 : Int) (a0_2 : Int) (a0_3 : Int) (a0_4 : Int) (a0_5 : Int) (a1_0 : Int) (a1_1 : Int) (a1_2 : Int) (a1_3 : Int) (a1_4 : Int) (a1_5 : Int) (a2_0 : Int) (a2_1 : Int) (a2_2 : Int) (r : Bool) (w : World) (h : w_BoxRelates.f k a0_0 a0_1 a0_2 a0_3 a0_4 a0_5 a1_0 a1_1 a1_2 a1_3 a1_4 a1_5 a2_0 a2_1 a2_2 = some r) :
  Calls Try.prog 6 #[.agg #[.int .i64 a0_0, .int .i64 a0_1, .int .i64 a0_2, .int .i64 a0_3, .int .i64 a0_4, .int .i64 a0_5], .agg #[.int .i64 a1_0, .int .i64 a1_1, .int .i64 a1_2, .int .i64 a1_3, .int .i64 a1_4, .int .i64 a1_5], .agg #[.int .i64 a2_0, .int .i64 a2_1, .int .i64 a2_2]] w fun e w' => e = .returned (.bool r) ∧ Below w.heap.size w w' := by
 have hu25 := Try.underlying25
 have hu23 := Try.underlying23
 have HB := am (Below.refl w.heap.size w)
 have H : ((w_awake.f).bind fun t583 => (if t583 = true then ((box_Has.f k a0_0 a0_1 a0_2 a0_3 a0_4 a0_5 a2_0 a2_1 a2_2).bind fun t584 => ((r_Has.f k a0_0 a0_1 a0_2 a0_3 a0_4 a0_5 a2_0 a2_1 a2_2).bind fun t585 => (if (t584 != t585) = true then (w_BoxRelates.j0 k true a0_0 a0_1 a0_2 a0_3 a0_4 a0_5 a1_0 a1_1 a1_2 a1_3 a1_4 a1_5) else ((box_Inside.f a0_0 a0_1 a0_2 a0_3 a0_4 a0_5 a1_0 a1_1 a1_2 a1_3 a1_4 a1_5).bind fun t586 => ((r_Inside.f k a0_0 a0_1 a0_2 a0_3 a0_4 a0_5 a1_0 a1_1 a1_2 a1_3 a1_4 a1_5).bind fun t587 => (if (t586 != t587) = true then (w_BoxRelates.j0 k true a0_0 a0_1 a0_2 a0_3 a0_4 a0_5 a1_0 a1_1 a1_2 a1_3 a1_4 a1_5) else ((box_Overlap.f a0_0 a0_1 a0_2 a0_3 a0_4 a0_5 a1_0 a1_1 a1_2 a1_3 a1_4 a1_5).bind fun t588 => ((r_Overlap.f k a0_0 a0_1 a0_2 a0_3 a0_4 a0_5 a1_0 a1_1 a1_2 a1_3 a1_4 a1_5).bind fun t589 => (w_BoxRelates.j0 k (t588 != t589) a0_0 a0_1 a0_2 a0_3 a0_4 a0_5 a1_0 a1_1 a1_2 a1_3 a1_4 a1_5))))))))) else (some false))) = some r := h
 clear h
 replace H := Option.bind_eq_some_iff.mp H
 obtain ⟨t583, A40, H⟩ := H
 replace H : (if t583 = true then ((box_Has.f k a0_0 a0_1 a0_2 a0_3 a0_4 a0_5 a2_0 a2_1 a2_2).bind fun t584 => ((r_Has.f k a0_0 a0_1 a0_2 a0_3 a0_4 a0_5 a2_0 a2_1 a2_2).bind fun t585 => (if (t584 != t585) = true then (w_BoxRelates.j0 k true a0_0 a0_1 a0_2 a0_3 a0_4 a0_5 a1_0 a1_1 a1_2 a1_3 a1_4 a1_5) else ((box_Inside.f a0_0 a0_1 a0_2 a0_3 a0_4 a0_5 a1_0 a1_1 a1_2 a1_3 a1_4 a1_5).bind fun t586 => ((r_Inside.f k a0_0 a0_1 a0_2 a0_3 a0_4 a0_5 a1_0 a1_1 a1_2 a1_3 a1_4 a1_5).bind fun t587 => (if (t586 != t587) = true then (w_BoxRelates.j0 k true a0_0 a0_1 a0_2 a0_3 a0_4 a0_5 a1_0 a1_1 a1_2 a1_3 a1_4 a1_5) else ((box_Overlap.f a0_0 a0_1 a0_2 a0_3 a0_4 a0_5 a1_0 a1_1 a1_2 a1_3 a1_4 a1_5).bind fun t588 => ((r_Overlap.f k a0_0 a0_1 a0_2 a0_3 a0_4 a0_5 a1_0 a1_1 a1_2 a1_3 a1_4 a1_5).bind fun t589 => (w_BoxRelates.j0 k (t588 != t589) a0_0 a0_1 a0_2 a0_3 a0_4 a0_5 a1_0 a1_1 a1_2 a1_3 a1_4 a1_5))))))))) else (some false)) = some r := H
 have A4 := am A40
 clear A40
 by_cases c5 : t583 = true
 ·subst c5
  have H1 : ((box_Has.f k a0_0 a0_1 a0_2 a0_3 a0_4 a0_5 a2_0 a2_1 a2_2).bind fun t584 => ((r_Has.f k a0_0 a0_1 a0_2 a0_3 a0_4 a0_5 a2_0 a2_1 a2_2).bind fun t585 => (if (t584 != t585) = true then (w_BoxRelates.j0 k true a0_0 a0_1 a0_2 a0_3 a0_4 a0_5 a1_0 a1_1 a1_2 a1_3 a1_4 a1_5) else ((box_Inside.f a0_0 a0_1 a0_2 a0_3 a0_4 a0_5 a1_0 a1_1 a1_2 a1_3 a1_4 a1_5).bind fun t586 => ((r_Inside.f k a0_0 a0_1 a0_2 a0_3 a0_4 a0_5 a1_0 a1_1 a1_2 a1_3 a1_4 a1_5).bind fun t587 => (if (t586 != t587) = true then (w_BoxRelates.j0 k true a0_0 a0_1 a0_2 a0_3 a0_4 a0_5 a1_0 a1_1 a1_2 a1_3 a1_4 a1_5) else ((box_Overlap.f a0_0 a0_1 a0_2 a0_3 a0_4 a0_5 a1_0 a1_1 a1_2 a1_3 a1_4 a1_5).bind fun t588 => ((r_Overlap.f k a0_0 a0_1 a0_2 a0_3 a0_4 a0_5 a1_0 a1_1 a1_2 a1_3 a1_4 a1_5).bind fun t589 => (w_BoxRelates.j0 k (t588 != t589) a0_0 a0_1 a0_2 a0_3 a0_4 a0_5 a1_0 a1_1 a1_2 a1_3 a1_4 a1_5))))))))) = some r := by rw [if_pos rfl] at H; exact H
  clear H
  have H := H1
  clear H1
  have HC6 := am H
  clear H
  go_enter Try.func6, Try.ntmps6
  go_upto_region 3 with (first | ((with_reducible refine gate_dst (N := 3) rfl ?_); refine box_event ?hg (N := 3) ?hd (cs := #[.int .i64 a0_0, .int .i64 a0_1, .int .i64 a0_2, .int .i64 a0_3, .int .i64 a0_4, .int .i64 a0_5]) (t := 25) ?hr ?_; (case hd | hg => rfl); (case hr => first | (go_simp; done) | (go_simp; rfl)); intro gb580 hg w7 hbox hb; have BK580 := am hbox; have GW580 := sG HB hg; have GE580 := sG HB hg; replace HB := bS HB hb; clear hb hbox hg) | ((with_reducible refine gate_dst (N := 4) rfl ?_); refine box_event ?hg (N := 4) ?hd (cs := #[.int .i64 a1_0, .int .i64 a1_1, .int .i64 a1_2, .int .i64 a1_3, .int .i64 a1_4, .int .i64 a1_5]) (t := 25) ?hr ?_; (case hd | hg => rfl); (case hr => first | (go_simp; done) | (go_simp; rfl)); intro gb581 hg w8 hbox hb; have BK581 := am hbox; have GW581 := sG HB hg; have GE581 := sG HB hg; replace HB := bS HB hb; have NB580_581 := nL BK580 hg; have NB581_580 := nG BK580 hg; replace BK580 := bB BK580 hb; clear hb hbox hg) | ((with_reducible refine gate_dst (N := 5) rfl ?_); refine box_event ?hg (N := 5) ?hd (cs := #[.int .i64 a2_0, .int .i64 a2_1, .int .i64 a2_2]) (t := 23) ?hr ?_; (case hd | hg => rfl); (case hr => first | (go_simp; done) | (go_simp; rfl)); intro gb582 hg w9 hbox hb; have BK582 := am hbox; have GW582 := sG HB hg; have GE582 := sG HB hg; replace HB := bS HB hb; have NB580_582 := nL BK580 hg; have NB582_580 := nG BK580 hg; replace BK580 := bB BK580 hb; have NB581_582 := nL BK581 hg; have NB582_581 := nG BK581 hg; replace BK581 := bB BK581 hb; clear hb hbox hg) | ((with_reducible refine gc (f := 11) rfl ?_); refine goesL_ (some 11) rfl rfl Try.func11 (by kernel_rfl) rfl #[] rfl (by (try simp only [pml]); first | done | rfl | (simp only [pdt]; rfl)) ?_; (with_reducible refine (w_awake.calls  true _ A4.out).mono ?_); rintro e w10 ⟨rfl, hb⟩; refine ⟨_, rfl, ?_⟩; replace BK580 := bB BK580 hb; replace BK581 := bB BK581 hb; replace BK582 := bB BK582 hb; replace HB := bS HB hb; (try clear hb); (try clear hb2); (try clear hk); (try clear hi)))
  (try simp only [Act.put, psl])
  go_cut [37] (fun v37 wc => ∃ (kq : Nat) (x37_5 : Bool), v37 = .bool x37_5 ∧ Aside0 (w_BoxRelates.j0 kq x37_5 a0_0 a0_1 a0_2 a0_3 a0_4 a0_5 a1_0 a1_1 a1_2 a1_3 a1_4 a1_5 = some r) ∧ Aside0 (kq ≤ k) ∧ Aside0 (wc.heap[gb580]? = some (.cells #[.int .i64 a0_0, .int .i64 a0_1, .int .i64 a0_2, .int .i64 a0_3, .int .i64 a0_4, .int .i64 a0_5] 25 (0, 0))) ∧ Aside0 (wc.heap[gb581]? = some (.cells #[.int .i64 a1_0, .int .i64 a1_1, .int .i64 a1_2, .int .i64 a1_3, .int .i64 a1_4, .int .i64 a1_5] 25 (0, 0))) ∧ Aside0 (wc.heap[gb582]? = some (.cells #[.int .i64 a2_0, .int .i64 a2_1, .int .i64 a2_2] 23 (0, 0))) ∧ Aside0 (Below w.heap.size w wc))
  case first =>
   have H := HC6.out
   clear HC6
   replace H := Option.bind_eq_some_iff.mp H
   obtain ⟨t584, A110, H⟩ := H
   replace H : ((r_Has.f k a0_0 a0_1 a0_2 a0_3 a0_4 a0_5 a2_0 a2_1 a2_2).bind fun t585 => (if (t584 != t585) = true then (w_BoxRelates.j0 k true a0_0 a0_1 a0_2 a0_3 a0_4 a0_5 a1_0 a1_1 a1_2 a1_3 a1_4 a1_5) else ((box_Inside.f a0_0 a0_1 a0_2 a0_3 a0_4 a0_5 a1_0 a1_1 a1_2 a1_3 a1_4 a1_5).bind fun t586 => ((r_Inside.f k a0_0 a0_1 a0_2 a0_3 a0_4 a0_5 a1_0 a1_1 a1_2 a1_3 a1_4 a1_5).bind fun t587 => (if (t586 != t587) = true then (w_BoxRelates.j0 k true a0_0 a0_1 a0_2 a0_3 a0_4 a0_5 a1_0 a1_1 a1_2 a1_3 a1_4 a1_5) else ((box_Overlap.f a0_0 a0_1 a0_2 a0_3 a0_4 a0_5 a1_0 a1_1 a1_2 a1_3 a1_4 a1_5).bind fun t588 => ((r_Overlap.f k a0_0 a0_1 a0_2 a0_3 a0_4 a0_5 a1_0 a1_1 a1_2 a1_3 a1_4 a1_5).bind fun t589 => (w_BoxRelates.j0 k (t588 != t589) a0_0 a0_1 a0_2 a0_3 a0_4 a0_5 a1_0 a1_1 a1_2 a1_3 a1_4 a1_5)))))))) = some r := H
   have A11 := am A110
   clear A110
   replace H := Option.bind_eq_some_iff.mp H
   obtain ⟨t585, A120, H⟩ := H
   replace H : (if (t584 != t585) = true then (w_BoxRelates.j0 k true a0_0 a0_1 a0_2 a0_3 a0_4 a0_5 a1_0 a1_1 a1_2 a1_3 a1_4 a1_5) else ((box_Inside.f a0_0 a0_1 a0_2 a0_3 a0_4 a0_5 a1_0 a1_1 a1_2 a1_3 a1_4 a1_5).bind fun t586 => ((r_Inside.f k a0_0 a0_1 a0_2 a0_3 a0_4 a0_5 a1_0 a1_1 a1_2 a1_3 a1_4 a1_5).bind fun t587 => (if (t586 != t587) = true then (w_BoxRelates.j0 k true a0_0 a0_1 a0_2 a0_3 a0_4 a0_5 a1_0 a1_1 a1_2 a1_3 a1_4 a1_5) else ((box_Overlap.f a0_0 a0_1 a0_2 a0_3 a0_4 a0_5 a1_0 a1_1 a1_2 a1_3 a1_4 a1_5).bind fun t588 => ((r_Overlap.f k a0_0 a0_1 a0_2 a0_3 a0_4 a0_5 a1_0 a1_1 a1_2 a1_3 a1_4 a1_5).bind fun t589 => (w_BoxRelates.j0 k (t588 != t589) a0_0 a0_1 a0_2 a0_3 a0_4 a0_5 a1_0 a1_1 a1_2 a1_3 a1_4 a1_5))))))) = some r := H
   have A12 := am A120
   clear A120
   by_cases c13 : (t584 != t585) = true
   ·rw [if_pos c13] at H
    have c13b0 : (t584 != t585) = true := c13
    (try (have c13b1 : decide (t584 = t585) = false := by simpa using c13))
    (try (have c13b2 : (t584 == t585) = false := by simpa using c13))
    (try (have c13b3 : ¬ (t584 = t585) := by simpa using c13))
    clear c13
    (first | rw [c13b0] | (simp only [i64_w, i32_w]; rw [c13b0]) | skip)
    have H' := am H
    clear H
    try go_wp2
    have n0_ := am (bd BK580.out)
    have n1_ := am (bd BK581.out)
    have n2_ := am (bd BK582.out)
    have n3_ := am (wd HB.out)
    clear BK580 BK581 BK582 HB
    have BK580 := n0_
    have BK581 := n1_
    have BK582 := n2_
    have HB := n3_
    clear n0_ n1_ n2_ n3_
    refine start_ (n := 25) (S := fun w' => w'.cell? ⟨gb580, 0, none⟩ = some (.int .i64 a0_0) ∧ w'.cell? ⟨gb580, 1, none⟩ = some (.int .i64 a0_1) ∧ w'.cell? ⟨gb580, 2, none⟩ = some (.int .i64 a0_2) ∧ w'.cell? ⟨gb580, 3, none⟩ = some (.int .i64 a0_3) ∧ w'.cell? ⟨gb580, 4, none⟩ = some (.int .i64 a0_4) ∧ w'.cell? ⟨gb580, 5, none⟩ = some (.int .i64 a0_5) ∧ w'.cell? ⟨gb582, 0, none⟩ = some (.int .i64 a2_0) ∧ w'.cell? ⟨gb582, 1, none⟩ = some (.int .i64 a2_1) ∧ w'.cell? ⟨gb582, 2, none⟩ = some (.int .i64 a2_2)) (ds := []) #[F,F,F,F,F,F,F,F,F,F,F,F,F,F,F,F,F,F,F,F,F,F,F,F,F] (by kernel_rfl) rfl rfl ⟨(bc BK580.out 0).trans rfl, (bc BK580.out 1).trans rfl, (bc BK580.out 2).trans rfl, (bc BK580.out 3).trans rfl, (bc BK580.out 4).trans rfl, (bc BK580.out 5).trans rfl, (bc BK582.out 0).trans rfl, (bc BK582.out 1).trans rfl, (bc BK582.out 2).trans rfl⟩ (fun hHeld => ?_); refine with_tabW w_BoxRelates.tab3 w_BoxRelates.bits3 (fun HT_ HW_ => ?_)
    generalize w10.drew = w14 at BK580 BK581 BK582 HB hHeld ⊢
    refine tk (i := 0) (N := some 13) (fl 25 1 []) HT_ HW_ hHeld ?_
    refine tk (i := 1) (N := some 14) (fl 25 2 []) HT_ HW_ hHeld ?_
    refine tk (i := 3) (N := some 16) (fl 25 2 [3]) HT_ HW_ hHeld ?_
    refine tk (i := 4) (N := some 17) (fl 25 2 [3, 4]) HT_ HW_ hHeld ?_
    refine one_ (i := 2) (N := some 15) (fl 25 5 []) rfl rfl (one_of HT_.out (by kernel_rfl)) (by decide) (fun K hK => ?_)
    refine goes_ Try.func14 (by kernel_rfl) rfl #[.agg #[.int .i64 a0_0, .int .i64 a0_1, .int .i64 a0_2, .int .i64 a0_3, .int .i64 a0_4, .int .i64 a0_5], .agg #[.int .i64 a2_0, .int .i64 a2_1, .int .i64 a2_2]] (by rfl) rfl rfl (by (try simp only [pml]); first | done | rfl | (simp only [pdt]; rfl)) ?_
    with_reducible refine (box_Has.calls k a0_0 a0_1 a0_2 a0_3 a0_4 a0_5 a2_0 a2_1 a2_2 t584 _ A11.out).mono ?_
    rintro e w15 ⟨rfl, hb⟩
    refine ⟨_, rfl, ?_⟩
    have n0_ := bB BK580 hb
    have n1_ := bB BK581 hb
    have n2_ := bB BK582 hb
    have n3_ := bS HB hb
    clear BK580 BK581 BK582 HB
    have BK580 := n0_
    have BK581 := n1_
    have BK582 := n2_
    have HB := n3_
    clear n0_ n1_ n2_ n3_
    (try clear hb)
    (try clear hb2)
    (try clear hk)
    (try clear hi)
    refine hK.out _ _ ⟨(bc BK580.out 0).trans rfl, (bc BK580.out 1).trans rfl, (bc BK580.out 2).trans rfl, (bc BK580.out 3).trans rfl, (bc BK580.out 4).trans rfl, (bc BK580.out 5).trans rfl, (bc BK582.out 0).trans rfl, (bc BK582.out 1).trans rfl, (bc BK582.out 2).trans rfl⟩ (fun hHeld => ?_)
    clear hK K
    refine norm_ (a' := ?_) ?_ ?_
    rotate_left
    ·show Act.put _ (some 15) _ = _
     simp only [Act.put, psl, i64_w, i32_w]
     rfl
    refine one_ (i := 5) (N := some 18) (fl 25 6 []) rfl rfl (one_of HT_.out (by kernel_rfl)) (by decide) (fun K hK => ?_)
    refine goes_ Try.func30 (by kernel_rfl) rfl #[.agg #[.int .i64 a0_0, .int .i64 a0_1, .int .i64 a0_2, .int .i64 a0_3, .int .i64 a0_4, .int .i64 a0_5], .agg #[.int .i64 a2_0, .int .i64 a2_1, .int .i64 a2_2]] (by rfl) rfl rfl (by (try simp only [pml]); first | done | rfl | (simp only [pdt]; rfl)) ?_
    with_reducible refine (r_Has.calls k a0_0 a0_1 a0_2 a0_3 a0_4 a0_5 a2_0 a2_1 a2_2 t585 _ A12.out).mono ?_
    rintro e w16 ⟨rfl, hb⟩
    refine ⟨_, rfl, ?_⟩
    have n0_ := bB BK580 hb
    have n1_ := bB BK581 hb
    have n2_ := bB BK582 hb
    have n3_ := bS HB hb
    clear BK580 BK581 BK582 HB
    have BK580 := n0_
    have BK581 := n1_
    have BK582 := n2_
    have HB := n3_
    clear n0_ n1_ n2_ n3_
    (try clear hb)
    (try clear hb2)
    (try clear hk)
    (try clear hi)
    refine hK.out _ _ ⟨(bc BK580.out 0).trans rfl, (bc BK580.out 1).trans rfl, (bc BK580.out 2).trans rfl, (bc BK580.out 3).trans rfl, (bc BK580.out 4).trans rfl, (bc BK580.out 5).trans rfl, (bc BK582.out 0).trans rfl, (bc BK582.out 1).trans rfl, (bc BK582.out 2).trans rfl⟩ (fun hHeld => ?_)
    clear hK K
    refine norm_ (a' := ?_) ?_ ?_
    rotate_left
    ·show Act.put _ (some 18) _ = _
     simp only [Act.put, psl, i64_w, i32_w]
     rfl
    refine pu (i := 6) (N := some 19) (fl 25 7 []) HT_ ?_
    refine pu (i := 7) (N := some 20) (fl 25 8 []) HT_ ?_
    refine pure_ (i := 8) (N := some 21) (v := undef) (a' := ?_) #[T,T,T,T,T,T,T,T,T,F,F,F,F,F,F,F,F,F,F,F,F,F,F,F,F] rfl rfl (any_of HT_.out (by kernel_rfl)) (fun _ _ _ h => h) (Or.inr ⟨by rfl, rfl⟩) ?_ ?_
    rotate_left
    ·simp only [Act.put, psl, i64_w, i32_w]
     rfl
    refine pure_ (i := 9) (N := some 22) (v := undef) (a' := ?_) #[T,T,T,T,T,T,T,T,T,T,F,F,F,F,F,F,F,F,F,F,F,F,F,F,F] rfl rfl (any_of HT_.out (by kernel_rfl)) (fun _ _ _ h => h) (Or.inr ⟨by rfl, rfl⟩) ?_ ?_
    rotate_left
    ·simp only [Act.put, psl, i64_w, i32_w]
     rfl
    refine pure_ (i := 10) (N := some 23) (v := undef) (a' := ?_) #[T,T,T,T,T,T,T,T,T,T,T,F,F,F,F,F,F,F,F,F,F,F,F,F,F] rfl rfl (any_of HT_.out (by kernel_rfl)) (fun _ _ _ h => h) (Or.inr ⟨by rfl, rfl⟩) ?_ ?_
    rotate_left
    ·simp only [Act.put, psl, i64_w, i32_w]
     rfl
    refine pure_ (i := 11) (N := some 24) (v := undef) (a' := ?_) #[T,T,T,T,T,T,T,T,T,T,T,T,F,F,F,F,F,F,F,F,F,F,F,F,F] rfl rfl (any_of HT_.out (by kernel_rfl)) (fun _ _ _ h => h) (Or.inr ⟨by rfl, rfl⟩) ?_ ?_
    rotate_left
    ·simp only [Act.put, psl, i64_w, i32_w]
     rfl
    refine pure_ (i := 12) (N := some 25) (v := undef) (a' := ?_) #[T,T,T,T,T,T,T,T,T,T,T,T,T,F,F,F,F,F,F,F,F,F,F,F,F] rfl rfl (any_of HT_.out (by kernel_rfl)) (fun _ _ _ h => h) (Or.inr ⟨by rfl, rfl⟩) ?_ ?_
    rotate_left
    ·simp only [Act.put, psl, i64_w, i32_w]
     rfl
    refine pure_ (i := 13) (N := some 26) (v := undef) (a' := ?_) #[T,T,T,T,T,T,T,T,T,T,T,T,T,T,F,F,F,F,F,F,F,F,F,F,F] rfl rfl (any_of HT_.out (by kernel_rfl)) (fun _ _ _ h => h) (Or.inr ⟨by rfl, rfl⟩) ?_ ?_
    rotate_left
    ·simp only [Act.put, psl, i64_w, i32_w]
     rfl
    refine pure_ (i := 14) (N := some 27) (v := undef) (a' := ?_) #[T,T,T,T,T,T,T,T,T,T,T,T,T,T,T,F,F,F,F,F,F,F,F,F,F] rfl rfl (any_of HT_.out (by kernel_rfl)) (fun _ _ _ h => h) (Or.inr ⟨by rfl, rfl⟩) ?_ ?_
    rotate_left
    ·simp only [Act.put, psl, i64_w, i32_w]
     rfl
    refine pu (i := 15) (N := some 28) (fl 25 16 []) HT_ ?_
    refine pu (i := 16) (N := some 29) (fl 25 17 []) HT_ ?_
    refine pure_ (i := 17) (N := some 30) (v := undef) (a' := ?_) #[T,T,T,T,T,T,T,T,T,T,T,T,T,T,T,T,T,T,F,F,F,F,F,F,F] rfl rfl (any_of HT_.out (by kernel_rfl)) (fun _ _ _ h => h) (Or.inr ⟨by rfl, rfl⟩) ?_ ?_
    rotate_left
    ·simp only [Act.put, psl, i64_w, i32_w]
     rfl
    refine pure_ (i := 18) (N := some 31) (v := undef) (a' := ?_) #[T,T,T,T,T,T,T,T,T,T,T,T,T,T,T,T,T,T,T,F,F,F,F,F,F] rfl rfl (any_of HT_.out (by kernel_rfl)) (fun _ _ _ h => h) (Or.inr ⟨by rfl, rfl⟩) ?_ ?_
    rotate_left
    ·simp only [Act.put, psl, i64_w, i32_w]
     rfl
    refine pure_ (i := 19) (N := some 32) (v := undef) (a' := ?_) #[T,T,T,T,T,T,T,T,T,T,T,T,T,T,T,T,T,T,T,T,F,F,F,F,F] rfl rfl (any_of HT_.out (by kernel_rfl)) (fun _ _ _ h => h) (Or.inr ⟨by rfl, rfl⟩) ?_ ?_
    rotate_left
    ·simp only [Act.put, psl, i64_w, i32_w]
     rfl
    refine pure_ (i := 20) (N := some 33) (v := undef) (a' := ?_) #[T,T,T,T,T,T,T,T,T,T,T,T,T,T,T,T,T,T,T,T,T,F,F,F,F] rfl rfl (any_of HT_.out (by kernel_rfl)) (fun _ _ _ h => h) (Or.inr ⟨by rfl, rfl⟩) ?_ ?_
    rotate_left
    ·simp only [Act.put, psl, i64_w, i32_w]
     rfl
    refine pure_ (i := 21) (N := some 34) (v := undef) (a' := ?_) #[T,T,T,T,T,T,T,T,T,T,T,T,T,T,T,T,T,T,T,T,T,T,F,F,F] rfl rfl (any_of HT_.out (by kernel_rfl)) (fun _ _ _ h => h) (Or.inr ⟨by rfl, rfl⟩) ?_ ?_
    rotate_left
    ·simp only [Act.put, psl, i64_w, i32_w]
     rfl
    refine pure_ (i := 22) (N := some 35) (v := undef) (a' := ?_) #[T,T,T,T,T,T,T,T,T,T,T,T,T,T,T,T,T,T,T,T,T,T,T,F,F] rfl rfl (any_of HT_.out (by kernel_rfl)) (fun _ _ _ h => h) (Or.inr ⟨by rfl, rfl⟩) ?_ ?_
    rotate_left
    ·simp only [Act.put, psl, i64_w, i32_w]
     rfl
    refine pure_ (i := 23) (N := some 36) (v := undef) (a' := ?_) #[T,T,T,T,T,T,T,T,T,T,T,T,T,T,T,T,T,T,T,T,T,T,T,T,F] rfl rfl (any_of HT_.out (by kernel_rfl)) (fun _ _ _ h => h) (Or.inr ⟨by rfl, rfl⟩) ?_ ?_
    rotate_left
    ·simp only [Act.put, psl, i64_w, i32_w]
     rfl
    refine pu (i := 24) (N := some 37) (fl 25 25 []) HT_ ?_
    refine done_ (done_of HT_.out (by kernel_rfl)) ?_
    try go_wp2
    go_meet
    case rel => exact ⟨_, (true), (by first | rfl | (simp; done) | (simp [*]; done)), H', ⟨by first | omega | exact Nat.le_refl _⟩, ⟨by (with_reducible repeat first | apply bN | apply bd | apply ba); exact BK580.out⟩, ⟨by (with_reducible repeat first | apply bN | apply bd | apply ba); exact BK581.out⟩, ⟨by (with_reducible repeat first | apply bN | apply bd | apply ba); exact BK582.out⟩, ⟨by repeat (first | (with_reducible first | exact HB.out | apply wa | apply wN | apply wd | refine ws ?_ GE580.out | refine ws ?_ GE581.out | refine ws ?_ GE582.out) | exact HB.out)⟩⟩
   rw [if_neg c13] at H
   have c13b0 : (t584 != t585) = false := by simpa using c13
   (try (have c13b1 : decide (t584 = t585) = true := by simpa using c13))
   (try (have c13b2 : (t584 == t585) = true := by simpa using c13))
   clear c13
   (first | rw [c13b0] | (simp only [i64_w, i32_w]; rw [c13b0]) | skip)
   replace H := Option.bind_eq_some_iff.mp H
   obtain ⟨t586, A170, H⟩ := H
   replace H : ((r_Inside.f k a0_0 a0_1 a0_2 a0_3 a0_4 a0_5 a1_0 a1_1 a1_2 a1_3 a1_4 a1_5).bind fun t587 => (if (t586 != t587) = true then (w_BoxRelates.j0 k true a0_0 a0_1 a0_2 a0_3 a0_4 a0_5 a1_0 a1_1 a1_2 a1_3 a1_4 a1_5) else ((box_Overlap.f a0_0 a0_1 a0_2 a0_3 a0_4 a0_5 a1_0 a1_1 a1_2 a1_3 a1_4 a1_5).bind fun t588 => ((r_Overlap.f k a0_0 a0_1 a0_2 a0_3 a0_4 a0_5 a1_0 a1_1 a1_2 a1_3 a1_4 a1_5).bind fun t589 => (w_BoxRelates.j0 k (t588 != t589) a0_0 a0_1 a0_2 a0_3 a0_4 a0_5 a1_0 a1_1 a1_2 a1_3 a1_4 a1_5))))) = some r := H
   have A17 := am A170
   clear A170
   replace H := Option.bind_eq_some_iff.mp H
   obtain ⟨t587, A180, H⟩ := H
   replace H : (if (t586 != t587) = true then (w_BoxRelates.j0 k true a0_0 a0_1 a0_2 a0_3 a0_4 a0_5 a1_0 a1_1 a1_2 a1_3 a1_4 a1_5) else ((box_Overlap.f a0_0 a0_1 a0_2 a0_3 a0_4 a0_5 a1_0 a1_1 a1_2 a1_3 a1_4 a1_5).bind fun t588 => ((r_Overlap.f k a0_0 a0_1 a0_2 a0_3 a0_4 a0_5 a1_0 a1_1 a1_2 a1_3 a1_4 a1_5).bind fun t589 => (w_BoxRelates.j0 k (t588 != t589) a0_0 a0_1 a0_2 a0_3 a0_4 a0_5 a1_0 a1_1 a1_2 a1_3 a1_4 a1_5)))) = some r := H
   have A18 := am A180
   clear A180
   by_cases c19 : (t586 != t587) = true
   ·rw [if_pos c19] at H
    have c19b0 : (t586 != t587) = true := c19
    (try (have c19b1 : decide (t586 = t587) = false := by simpa using c19))
    (try (have c19b2 : (t586 == t587) = false := by simpa using c19))
    (try (have c19b3 : ¬ (t586 = t587) := by simpa using c19))
    clear c19
    have H' := am H
    clear H
    try go_wp2
    have n0_ := am (bd BK580.out)
    have n1_ := am (bd BK581.out)
    have n2_ := am (bd BK582.out)
    have n3_ := am (wd HB.out)
    clear BK580 BK581 BK582 HB
    have BK580 := n0_
    have BK581 := n1_
    have BK582 := n2_
    have HB := n3_
    clear n0_ n1_ n2_ n3_
    refine start_ (n := 25) (S := fun w' => w'.cell? ⟨gb580, 0, none⟩ = some (.int .i64 a0_0) ∧ w'.cell? ⟨gb580, 1, none⟩ = some (.int .i64 a0_1) ∧ w'.cell? ⟨gb580, 2, none⟩ = some (.int .i64 a0_2) ∧ w'.cell? ⟨gb580, 3, none⟩ = some (.int .i64 a0_3) ∧ w'.cell? ⟨gb580, 4, none⟩ = some (.int .i64 a0_4) ∧ w'.cell? ⟨gb580, 5, none⟩ = some (.int .i64 a0_5) ∧ w'.cell? ⟨gb582, 0, none⟩ = some (.int .i64 a2_0) ∧ w'.cell? ⟨gb582, 1, none⟩ = some (.int .i64 a2_1) ∧ w'.cell? ⟨gb582, 2, none⟩ = some (.int .i64 a2_2) ∧ w'.cell? ⟨gb581, 0, none⟩ = some (.int .i64 a1_0) ∧ w'.cell? ⟨gb581, 1, none⟩ = some (.int .i64 a1_1) ∧ w'.cell? ⟨gb581, 2, none⟩ = some (.int .i64 a1_2) ∧ w'.cell? ⟨gb581, 3, none⟩ = some (.int .i64 a1_3) ∧ w'.cell? ⟨gb581, 4, none⟩ = some (.int .i64 a1_4) ∧ w'.cell? ⟨gb581, 5, none⟩ = some (.int .i64 a1_5)) (ds := []) #[F,F,F,F,F,F,F,F,F,F,F,F,F,F,F,F,F,F,F,F,F,F,F,F,F] (by kernel_rfl) rfl rfl ⟨(bc BK580.out 0).trans rfl, (bc BK580.out 1).trans rfl, (bc BK580.out 2).trans rfl, (bc BK580.out 3).trans rfl, (bc BK580.out 4).trans rfl, (bc BK580.out 5).trans rfl, (bc BK582.out 0).trans rfl, (bc BK582.out 1).trans rfl, (bc BK582.out 2).trans rfl, (bc BK581.out 0).trans rfl, (bc BK581.out 1).trans rfl, (bc BK581.out 2).trans rfl, (bc BK581.out 3).trans rfl, (bc BK581.out 4).trans rfl, (bc BK581.out 5).trans rfl⟩ (fun hHeld => ?_); refine with_tabW w_BoxRelates.tab3 w_BoxRelates.bits3 (fun HT_ HW_ => ?_)
    generalize w10.drew = w20 at BK580 BK581 BK582 HB hHeld ⊢
    refine tk (i := 0) (N := some 13) (fl 25 1 []) HT_ HW_ hHeld ?_
    refine tk (i := 1) (N := some 14) (fl 25 2 []) HT_ HW_ hHeld ?_
    refine tk (i := 3) (N := some 16) (fl 25 2 [3]) HT_ HW_ hHeld ?_
    refine tk (i := 4) (N := some 17) (fl 25 2 [3, 4]) HT_ HW_ hHeld ?_
    refine one_ (i := 2) (N := some 15) (fl 25 5 []) rfl rfl (one_of HT_.out (by kernel_rfl)) (by decide) (fun K hK => ?_)
    refine goes_ Try.func14 (by kernel_rfl) rfl #[.agg #[.int .i64 a0_0, .int .i64 a0_1, .int .i64 a0_2, .int .i64 a0_3, .int .i64 a0_4, .int .i64 a0_5], .agg #[.int .i64 a2_0, .int .i64 a2_1, .int .i64 a2_2]] (by rfl) rfl rfl (by (try simp only [pml]); first | done | rfl | (simp only [pdt]; rfl)) ?_
    with_reducible refine (box_Has.calls k a0_0 a0_1 a0_2 a0_3 a0_4 a0_5 a2_0 a2_1 a2_2 t584 _ A11.out).mono ?_
    rintro e w21 ⟨rfl, hb⟩
    refine ⟨_, rfl, ?_⟩
    have n0_ := bB BK580 hb
    have n1_ := bB BK581 hb
    have n2_ := bB BK582 hb
    have n3_ := bS HB hb
    clear BK580 BK581 BK582 HB
    have BK580 := n0_
    have BK581 := n1_
    have BK582 := n2_
    have HB := n3_
    clear n0_ n1_ n2_ n3_
    (try clear hb)
    (try clear hb2)
    (try clear hk)
    (try clear hi)
    refine hK.out _ _ ⟨(bc BK580.out 0).trans rfl, (bc BK580.out 1).trans rfl, (bc BK580.out 2).trans rfl, (bc BK580.out 3).trans rfl, (bc BK580.out 4).trans rfl, (bc BK580.out 5).trans rfl, (bc BK582.out 0).trans rfl, (bc BK582.out 1).trans rfl, (bc BK582.out 2).trans rfl, (bc BK581.out 0).trans rfl, (bc BK581.out 1).trans rfl, (bc BK581.out 2).trans rfl, (bc BK581.out 3).trans rfl, (bc BK581.out 4).trans rfl, (bc BK581.out 5).trans rfl⟩ (fun hHeld => ?_)
    clear hK K
    refine norm_ (a' := ?_) ?_ ?_
    rotate_left
    ·show Act.put _ (some 15) _ = _
     simp only [Act.put, psl, i64_w, i32_w]
     rfl
    refine one_ (i := 5) (N := some 18) (fl 25 6 []) rfl rfl (one_of HT_.out (by kernel_rfl)) (by decide) (fun K hK => ?_)
    refine goes_ Try.func30 (by kernel_rfl) rfl #[.agg #[.int .i64 a0_0, .int .i64 a0_1, .int .i64 a0_2, .int .i64 a0_3, .int .i64 a0_4, .int .i64 a0_5], .agg #[.int .i64 a2_0, .int .i64 a2_1, .int .i64 a2_2]] (by rfl) rfl rfl (by (try simp only [pml]); first | done | rfl | (simp only [pdt]; rfl)) ?_
    with_reducible refine (r_Has.calls k a0_0 a0_1 a0_2 a0_3 a0_4 a0_5 a2_0 a2_1 a2_2 t585 _ A12.out).mono ?_
    rintro e w22 ⟨rfl, hb⟩
    refine ⟨_, rfl, ?_⟩
    have n0_ := bB BK580 hb
    have n1_ := bB BK581 hb
    have n2_ := bB BK582 hb
    have n3_ := bS HB hb
    clear BK580 BK581 BK582 HB
    have BK580 := n0_
    have BK581 := n1_
    have BK582 := n2_
    have HB := n3_
    clear n0_ n1_ n2_ n3_
    (try clear hb)
    (try clear hb2)
    (try clear hk)
    (try clear hi)
    refine hK.out _ _ ⟨(bc BK580.out 0).trans rfl, (bc BK580.out 1).trans rfl, (bc BK580.out 2).trans rfl, (bc BK580.out 3).trans rfl, (bc BK580.out 4).trans rfl, (bc BK580.out 5).trans rfl, (bc BK582.out 0).trans rfl, (bc BK582.out 1).trans rfl, (bc BK582.out 2).trans rfl, (bc BK581.out 0).trans rfl, (bc BK581.out 1).trans rfl, (bc BK581.out 2).trans rfl, (bc BK581.out 3).trans rfl, (bc BK581.out 4).trans rfl, (bc BK581.out 5).trans rfl⟩ (fun hHeld => ?_)
    clear hK K
    refine norm_ (a' := ?_) ?_ ?_
    rotate_left
    ·show Act.put _ (some 18) _ = _
     simp only [Act.put, psl, i64_w, i32_w]
     rfl
    refine pu (i := 6) (N := some 19) (fl 25 7 []) HT_ ?_
    refine pu (i := 7) (N := some 20) (fl 25 8 []) HT_ ?_
    refine tk (i := 8) (N := some 21) (fl 25 9 []) HT_ HW_ hHeld ?_
    refine tk (i := 9) (N := some 22) (fl 25 10 []) HT_ HW_ hHeld ?_
    refine tk (i := 11) (N := some 24) (fl 25 10 [11]) HT_ HW_ hHeld ?_
    refine tk (i := 12) (N := some 25) (fl 25 10 [11, 12]) HT_ HW_ hHeld ?_
    refine one_ (i := 10) (N := some 23) (fl 25 13 []) rfl rfl (one_of HT_.out (by kernel_rfl)) (by decide) (fun K hK => ?_)
    refine goes_ Try.func31 (by kernel_rfl) rfl #[.agg #[.int .i64 a0_0, .int .i64 a0_1, .int .i64 a0_2, .int .i64 a0_3, .int .i64 a0_4, .int .i64 a0_5], .agg #[.int .i64 a1_0, .int .i64 a1_1, .int .i64 a1_2, .int .i64 a1_3, .int .i64 a1_4, .int .i64 a1_5]] (by rfl) rfl rfl (by (try simp only [pml]); first | done | rfl | (simp only [pdt]; rfl)) ?_
    with_reducible refine (box_Inside.calls a0_0 a0_1 a0_2 a0_3 a0_4 a0_5 a1_0 a1_1 a1_2 a1_3 a1_4 a1_5 t586 _ A17.out).mono ?_
    rintro e w23 ⟨rfl, hb⟩
    refine ⟨_, rfl, ?_⟩
    have n0_ := bB BK580 hb
    have n1_ := bB BK581 hb
    have n2_ := bB BK582 hb
    have n3_ := bS HB hb
    clear BK580 BK581 BK582 HB
    have BK580 := n0_
    have BK581 := n1_
    have BK582 := n2_
    have HB := n3_
    clear n0_ n1_ n2_ n3_
    (try clear hb)
    (try clear hb2)
    (try clear hk)
    (try clear hi)
    refine hK.out _ _ ⟨(bc BK580.out 0).trans rfl, (bc BK580.out 1).trans rfl, (bc BK580.out 2).trans rfl, (bc BK580.out 3).trans rfl, (bc BK580.out 4).trans rfl, (bc BK580.out 5).trans rfl, (bc BK582.out 0).trans rfl, (bc BK582.out 1).trans rfl, (bc BK582.out 2).trans rfl, (bc BK581.out 0).trans rfl, (bc BK581.out 1).trans rfl, (bc BK581.out 2).trans rfl, (bc BK581.out 3).trans rfl, (bc BK581.out 4).trans rfl, (bc BK581.out 5).trans rfl⟩ (fun hHeld => ?_)
    clear hK K
    refine norm_ (a' := ?_) ?_ ?_
    rotate_left
    ·show Act.put _ (some 23) _ = _
     simp only [Act.put, psl, i64_w, i32_w]
     rfl
    refine one_ (i := 13) (N := some 26) (fl 25 14 []) rfl rfl (one_of HT_.out (by kernel_rfl)) (by decide) (fun K hK => ?_)
    refine goes_ Try.func32 (by kernel_rfl) rfl #[.agg #[.int .i64 a0_0, .int .i64 a0_1, .int .i64 a0_2, .int .i64 a0_3, .int .i64 a0_4, .int .i64 a0_5], .agg #[.int .i64 a1_0, .int .i64 a1_1, .int .i64 a1_2, .int .i64 a1_3, .int .i64 a1_4, .int .i64 a1_5]] (by rfl) rfl rfl (by (try simp only [pml]); first | done | rfl | (simp only [pdt]; rfl)) ?_
    with_reducible refine (r_Inside.calls k a0_0 a0_1 a0_2 a0_3 a0_4 a0_5 a1_0 a1_1 a1_2 a1_3 a1_4 a1_5 t587 _ A18.out).mono ?_
    rintro e w24 ⟨rfl, hb⟩
    refine ⟨_, rfl, ?_⟩
    have n0_ := bB BK580 hb
    have n1_ := bB BK581 hb
    have n2_ := bB BK582 hb
    have n3_ := bS HB hb
    clear BK580 BK581 BK582 HB
    have BK580 := n0_
    have BK581 := n1_
    have BK582 := n2_
    have HB := n3_
    clear n0_ n1_ n2_ n3_
    (try clear hb)
    (try clear hb2)
    (try clear hk)
    (try clear hi)
    refine hK.out _ _ ⟨(bc BK580.out 0).trans rfl, (bc BK580.out 1).trans rfl, (bc BK580.out 2).trans rfl, (bc BK580.out 3).trans rfl, (bc BK580.out 4).trans rfl, (bc BK580.out 5).trans rfl, (bc BK582.out 0).trans rfl, (bc BK582.out 1).trans rfl, (bc BK582.out 2).trans rfl, (bc BK581.out 0).trans rfl, (bc BK581.out 1).trans rfl, (bc BK581.out 2).trans rfl, (bc BK581.out 3).trans rfl, (bc BK581.out 4).trans rfl, (bc BK581.out 5).trans rfl⟩ (fun hHeld => ?_)
    clear hK K
    refine norm_ (a' := ?_) ?_ ?_
    rotate_left
    ·show Act.put _ (some 26) _ = _
     simp only [Act.put, psl, i64_w, i32_w]
     rfl
    refine pu (i := 14) (N := some 27) (fl 25 15 []) HT_ ?_
    refine pu (i := 15) (N := some 28) (fl 25 16 []) HT_ ?_
    refine pu (i := 16) (N := some 29) (fl 25 17 []) HT_ ?_
    refine pure_ (i := 17) (N := some 30) (v := undef) (a' := ?_) #[T,T,T,T,T,T,T,T,T,T,T,T,T,T,T,T,T,T,F,F,F,F,F,F,F] rfl rfl (any_of HT_.out (by kernel_rfl)) (fun _ _ _ h => h) (Or.inr ⟨by rfl, rfl⟩) ?_ ?_
    rotate_left
    ·simp only [Act.put, psl, i64_w, i32_w]
     rfl
    refine pure_ (i := 18) (N := some 31) (v := undef) (a' := ?_) #[T,T,T,T,T,T,T,T,T,T,T,T,T,T,T,T,T,T,T,F,F,F,F,F,F] rfl rfl (any_of HT_.out (by kernel_rfl)) (fun _ _ _ h => h) (Or.inr ⟨by rfl, rfl⟩) ?_ ?_
    rotate_left
    ·simp only [Act.put, psl, i64_w, i32_w]
     rfl
    refine pure_ (i := 19) (N := some 32) (v := undef) (a' := ?_) #[T,T,T,T,T,T,T,T,T,T,T,T,T,T,T,T,T,T,T,T,F,F,F,F,F] rfl rfl (any_of HT_.out (by kernel_rfl)) (fun _ _ _ h => h) (Or.inr ⟨by rfl, rfl⟩) ?_ ?_
    rotate_left
    ·simp only [Act.put, psl, i64_w, i32_w]
     rfl
    refine pure_ (i := 20) (N := some 33) (v := undef) (a' := ?_) #[T,T,T,T,T,T,T,T,T,T,T,T,T,T,T,T,T,T,T,T,T,F,F,F,F] rfl rfl (any_of HT_.out (by kernel_rfl)) (fun _ _ _ h => h) (Or.inr ⟨by rfl, rfl⟩) ?_ ?_
    rotate_left
    ·simp only [Act.put, psl, i64_w, i32_w]
     rfl
    refine pure_ (i := 21) (N := some 34) (v := undef) (a' := ?_) #[T,T,T,T,T,T,T,T,T,T,T,T,T,T,T,T,T,T,T,T,T,T,F,F,F] rfl rfl (any_of HT_.out (by kernel_rfl)) (fun _ _ _ h => h) (Or.inr ⟨by rfl, rfl⟩) ?_ ?_
    rotate_left
    ·simp only [Act.put, psl, i64_w, i32_w]
     rfl
    refine pure_ (i := 22) (N := some 35) (v := undef) (a' := ?_) #[T,T,T,T,T,T,T,T,T,T,T,T,T,T,T,T,T,T,T,T,T,T,T,F,F] rfl rfl (any_of HT_.out (by kernel_rfl)) (fun _ _ _ h => h) (Or.inr ⟨by rfl, rfl⟩) ?_ ?_
    rotate_left
    ·simp only [Act.put, psl, i64_w, i32_w]
     rfl
    refine pure_ (i := 23) (N := some 36) (v := undef) (a' := ?_) #[T,T,T,T,T,T,T,T,T,T,T,T,T,T,T,T,T,T,T,T,T,T,T,T,F] rfl rfl (any_of HT_.out (by kernel_rfl)) (fun _ _ _ h => h) (Or.inr ⟨by rfl, rfl⟩) ?_ ?_
    rotate_left
    ·simp only [Act.put, psl, i64_w, i32_w]
     rfl
    refine pu (i := 24) (N := some 37) (fl 25 25 []) HT_ ?_
    refine done_ (done_of HT_.out (by kernel_rfl)) ?_
    try go_wp2
    go_meet
    case rel => exact ⟨_, (true), (by first | rfl | (simp; done) | (simp [*]; done)), H', ⟨by first | omega | exact Nat.le_refl _⟩, ⟨by (with_reducible repeat first | apply bN | apply bd | apply ba); exact BK580.out⟩, ⟨by (with_reducible repeat first | apply bN | apply bd | apply ba); exact BK581.out⟩, ⟨by (with_reducible repeat first | apply bN | apply bd | apply ba); exact BK582.out⟩, ⟨by repeat (first | (with_reducible first | exact HB.out | apply wa | apply wN | apply wd | refine ws ?_ GE580.out | refine ws ?_ GE581.out | refine ws ?_ GE582.out) | exact HB.out)⟩⟩
   rw [if_neg c19] at H
   have c19b0 : (t586 != t587) = false := by simpa using c19
   (try (have c19b1 : decide (t586 = t587) = true := by simpa using c19))
   (try (have c19b2 : (t586 == t587) = true := by simpa using c19))
   clear c19
   replace H := Option.bind_eq_some_iff.mp H
   obtain ⟨t588, A250, H⟩ := H
   replace H : ((r_Overlap.f k a0_0 a0_1 a0_2 a0_3 a0_4 a0_5 a1_0 a1_1 a1_2 a1_3 a1_4 a1_5).bind fun t589 => (w_BoxRelates.j0 k (t588 != t589) a0_0 a0_1 a0_2 a0_3 a0_4 a0_5 a1_0 a1_1 a1_2 a1_3 a1_4 a1_5)) = some r := H
   have A25 := am A250
   clear A250
   replace H := Option.bind_eq_some_iff.mp H
   obtain ⟨t589, A260, H⟩ := H
   replace H : (w_BoxRelates.j0 k (t588 != t589) a0_0 a0_1 a0_2 a0_3 a0_4 a0_5 a1_0 a1_1 a1_2 a1_3 a1_4 a1_5) = some r := H
   have A26 := am A260
   clear A260
   have H' := am H
   clear H
   try go_wp2
   have n0_ := am (bd BK580.out)
   have n1_ := am (bd BK581.out)
   have n2_ := am (bd BK582.out)
   have n3_ := am (wd HB.out)
   clear BK580 BK581 BK582 HB
   have BK580 := n0_
   have BK581 := n1_
   have BK582 := n2_
   have HB := n3_
   clear n0_ n1_ n2_ n3_
   refine start_ (n := 25) (S := fun w' => w'.cell? ⟨gb580, 0, none⟩ = some (.int .i64 a0_0) ∧ w'.cell? ⟨gb580, 1, none⟩ = some (.int .i64 a0_1) ∧ w'.cell? ⟨gb580, 2, none⟩ = some (.int .i64 a0_2) ∧ w'.cell? ⟨gb580, 3, none⟩ = some (.int .i64 a0_3) ∧ w'.cell? ⟨gb580, 4, none⟩ = some (.int .i64 a0_4) ∧ w'.cell? ⟨gb580, 5, none⟩ = some (.int .i64 a0_5) ∧ w'.cell? ⟨gb582, 0, none⟩ = some (.int .i64 a2_0) ∧ w'.cell? ⟨gb582, 1, none⟩ = some (.int .i64 a2_1) ∧ w'.cell? ⟨gb582, 2, none⟩ = some (.int .i64 a2_2) ∧ w'.cell? ⟨gb581, 0, none⟩ = some (.int .i64 a1_0) ∧ w'.cell? ⟨gb581, 1, none⟩ = some (.int .i64 a1_1) ∧ w'.cell? ⟨gb581, 2, none⟩ = some (.int .i64 a1_2) ∧ w'.cell? ⟨gb581, 3, none⟩ = some (.int .i64 a1_3) ∧ w'.cell? ⟨gb581, 4, none⟩ = some (.int .i64 a1_4) ∧ w'.cell? ⟨gb581, 5, none⟩ = some (.int .i64 a1_5)) (ds := []) #[F,F,F,F,F,F,F,F,F,F,F,F,F,F,F,F,F,F,F,F,F,F,F,F,F] (by kernel_rfl) rfl rfl ⟨(bc BK580.out 0).trans rfl, (bc BK580.out 1).trans rfl, (bc BK580.out 2).trans rfl, (bc BK580.out 3).trans rfl, (bc BK580.out 4).trans rfl, (bc BK580.out 5).trans rfl, (bc BK582.out 0).trans rfl, (bc BK582.out 1).trans rfl, (bc BK582.out 2).trans rfl, (bc BK581.out 0).trans rfl, (bc BK581.out 1).trans rfl, (bc BK581.out 2).trans rfl, (bc BK581.out 3).trans rfl, (bc BK581.out 4).trans rfl, (bc BK581.out 5).trans rfl⟩ (fun hHeld => ?_); refine with_tabW w_BoxRelates.tab3 w_BoxRelates.bits3 (fun HT_ HW_ => ?_)
   generalize w10.drew = w27 at BK580 BK581 BK582 HB hHeld ⊢
   refine tk (i := 0) (N := some 13) (fl 25 1 []) HT_ HW_ hHeld ?_
   refine tk (i := 1) (N := some 14) (fl 25 2 []) HT_ HW_ hHeld ?_
   refine tk (i := 3) (N := some 16) (fl 25 2 [3]) HT_ HW_ hHeld ?_
   refine tk (i := 4) (N := some 17) (fl 25 2 [3, 4]) HT_ HW_ hHeld ?_
   refine one_ (i := 2) (N := some 15) (fl 25 5 []) rfl rfl (one_of HT_.out (by kernel_rfl)) (by decide) (fun K hK => ?_)
   refine goes_ Try.func14 (by kernel_rfl) rfl #[.agg #[.int .i64 a0_0, .int .i64 a0_1, .int .i64 a0_2, .int .i64 a0_3, .int .i64 a0_4, .int .i64 a0_5], .agg #[.int .i64 a2_0, .int .i64 a2_1, .int .i64 a2_2]] (by rfl) rfl rfl (by (try simp only [pml]); first | done | rfl | (simp only [pdt]; rfl)) ?_
   with_reducible refine (box_Has.calls k a0_0 a0_1 a0_2 a0_3 a0_4 a0_5 a2_0 a2_1 a2_2 t584 _ A11.out).mono ?_
   rintro e w28 ⟨rfl, hb⟩
   refine ⟨_, rfl, ?_⟩
   have n0_ := bB BK580 hb
   have n1_ := bB BK581 hb
   have n2_ := bB BK582 hb
   have n3_ := bS HB hb
   clear BK580 BK581 BK582 HB
   have BK580 := n0_
   have BK581 := n1_
   have BK582 := n2_
   have HB := n3_
   clear n0_ n1_ n2_ n3_
   (try clear hb)
   (try clear hb2)
   (try clear hk)
   (try clear hi)
   refine hK.out _ _ ⟨(bc BK580.out 0).trans rfl, (bc BK580.out 1).trans rfl, (bc BK580.out 2).trans rfl, (bc BK580.out 3).trans rfl, (bc BK580.out 4).trans rfl, (bc BK580.out 5).trans rfl, (bc BK582.out 0).trans rfl, (bc BK582.out 1).trans rfl, (bc BK582.out 2).trans rfl, (bc BK581.out 0).trans rfl, (bc BK581.out 1).trans rfl, (bc BK581.out 2).trans rfl, (bc BK581.out 3).trans rfl, (bc BK581.out 4).trans rfl, (bc BK581.out 5).trans rfl⟩ (fun hHeld => ?_)
   clear hK K
   refine norm_ (a' := ?_) ?_ ?_
   rotate_left
   ·show Act.put _ (some 15) _ = _
    simp only [Act.put, psl, i64_w, i32_w]
    rfl
   refine one_ (i := 5) (N := some 18) (fl 25 6 []) rfl rfl (one_of HT_.out (by kernel_rfl)) (by decide) (fun K hK => ?_)
   refine goes_ Try.func30 (by kernel_rfl) rfl #[.agg #[.int .i64 a0_0, .int .i64 a0_1, .int .i64 a0_2, .int .i64 a0_3, .int .i64 a0_4, .int .i64 a0_5], .agg #[.int .i64 a2_0, .int .i64 a2_1, .int .i64 a2_2]] (by rfl) rfl rfl (by (try simp only [pml]); first | done | rfl | (simp only [pdt]; rfl)) ?_
   with_reducible refine (r_Has.calls k a0_0 a0_1 a0_2 a0_3 a0_4 a0_5 a2_0 a2_1 a2_2 t585 _ A12.out).mono ?_
   rintro e w29 ⟨rfl, hb⟩
   refine ⟨_, rfl, ?_⟩
   have n0_ := bB BK580 hb
   have n1_ := bB BK581 hb
   have n2_ := bB BK582 hb
   have n3_ := bS HB hb
   clear BK580 BK581 BK582 HB
   have BK580 := n0_
   have BK581 := n1_
   have BK582 := n2_
   have HB := n3_
   clear n0_ n1_ n2_ n3_
   (try clear hb)
   (try clear hb2)
   (try clear hk)
   (try clear hi)
   refine hK.out _ _ ⟨(bc BK580.out 0).trans rfl, (bc BK580.out 1).trans rfl, (bc BK580.out 2).trans rfl, (bc BK580.out 3).trans rfl, (bc BK580.out 4).trans rfl, (bc BK580.out 5).trans rfl, (bc BK582.out 0).trans rfl, (bc BK582.out 1).trans rfl, (bc BK582.out 2).trans rfl, (bc BK581.out 0).trans rfl, (bc BK581.out 1).trans rfl, (bc BK581.out 2).trans rfl, (bc BK581.out 3).trans rfl, (bc BK581.out 4).trans rfl, (bc BK581.out 5).trans rfl⟩ (fun hHeld => ?_)
   clear hK K
   refine norm_ (a' := ?_) ?_ ?_
   rotate_left
   ·show Act.put _ (some 18) _ = _
    simp only [Act.put, psl, i64_w, i32_w]
    rfl
   refine pu (i := 6) (N := some 19) (fl 25 7 []) HT_ ?_
   refine pu (i := 7) (N := some 20) (fl 25 8 []) HT_ ?_
   refine tk (i := 8) (N := some 21) (fl 25 9 []) HT_ HW_ hHeld ?_
   refine tk (i := 9) (N := some 22) (fl 25 10 []) HT_ HW_ hHeld ?_
   refine tk (i := 11) (N := some 24) (fl 25 10 [11]) HT_ HW_ hHeld ?_
   refine tk (i := 12) (N := some 25) (fl 25 10 [11, 12]) HT_ HW_ hHeld ?_
   refine one_ (i := 10) (N := some 23) (fl 25 13 []) rfl rfl (one_of HT_.out (by kernel_rfl)) (by decide) (fun K hK => ?_)
   refine goes_ Try.func31 (by kernel_rfl) rfl #[.agg #[.int .i64 a0_0, .int .i64 a0_1, .int .i64 a0_2, .int .i64 a0_3, .int .i64 a0_4, .int .i64 a0_5], .agg #[.int .i64 a1_0, .int .i64 a1_1, .int .i64 a1_2, .int .i64 a1_3, .int .i64 a1_4, .int .i64 a1_5]] (by rfl) rfl rfl (by (try simp only [pml]); first | done | rfl | (simp only [pdt]; rfl)) ?_
   with_reducible refine (box_Inside.calls a0_0 a0_1 a0_2 a0_3 a0_4 a0_5 a1_0 a1_1 a1_2 a1_3 a1_4 a1_5 t586 _ A17.out).mono ?_
   rintro e w30 ⟨rfl, hb⟩
   refine ⟨_, rfl, ?_⟩
   have n0_ := bB BK580 hb
   have n1_ := bB BK581 hb
   have n2_ := bB BK582 hb
   have n3_ := bS HB hb
   clear BK580 BK581 BK582 HB
   have BK580 := n0_
   have BK581 := n1_
   have BK582 := n2_
   have HB := n3_
   clear n0_ n1_ n2_ n3_
   (try clear hb)
   (try clear hb2)
   (try clear hk)
   (try clear hi)
   refine hK.out _ _ ⟨(bc BK580.out 0).trans rfl, (bc BK580.out 1).trans rfl, (bc BK580.out 2).trans rfl, (bc BK580.out 3).trans rfl, (bc BK580.out 4).trans rfl, (bc BK580.out 5).trans rfl, (bc BK582.out 0).trans rfl, (bc BK582.out 1).trans rfl, (bc BK582.out 2).trans rfl, (bc BK581.out 0).trans rfl, (bc BK581.out 1).trans rfl, (bc BK581.out 2).trans rfl, (bc BK581.out 3).trans rfl, (bc BK581.out 4).trans rfl, (bc BK581.out 5).trans rfl⟩ (fun hHeld => ?_)
   clear hK K
   refine norm_ (a' := ?_) ?_ ?_
   rotate_left
   ·show Act.put _ (some 23) _ = _
    simp only [Act.put, psl, i64_w, i32_w]
    rfl
   refine one_ (i := 13) (N := some 26) (fl 25 14 []) rfl rfl (one_of HT_.out (by kernel_rfl)) (by decide) (fun K hK => ?_)
   refine goes_ Try.func32 (by kernel_rfl) rfl #[.agg #[.int .i64 a0_0, .int .i64 a0_1, .int .i64 a0_2, .int .i64 a0_3, .int .i64 a0_4, .int .i64 a0_5], .agg #[.int .i64 a1_0, .int .i64 a1_1, .int .i64 a1_2, .int .i64 a1_3, .int .i64 a1_4, .int .i64 a1_5]] (by rfl) rfl rfl (by (try simp only [pml]); first | done | rfl | (simp only [pdt]; rfl)) ?_
   with_reducible refine (r_Inside.calls k a0_0 a0_1 a0_2 a0_3 a0_4 a0_5 a1_0 a1_1 a1_2 a1_3 a1_4 a1_5 t587 _ A18.out).mono ?_
   rintro e w31 ⟨rfl, hb⟩
   refine ⟨_, rfl, ?_⟩
   have n0_ := bB BK580 hb
   have n1_ := bB BK581 hb
   have n2_ := bB BK582 hb
   have n3_ := bS HB hb
   clear BK580 BK581 BK582 HB
   have BK580 := n0_
   have BK581 := n1_
   have BK582 := n2_
   have HB := n3_
   clear n0_ n1_ n2_ n3_
   (try clear hb)
   (try clear hb2)
   (try clear hk)
   (try clear hi)
   refine hK.out _ _ ⟨(bc BK580.out 0).trans rfl, (bc BK580.out 1).trans rfl, (bc BK580.out 2).trans rfl, (bc BK580.out 3).trans rfl, (bc BK580.out 4).trans rfl, (bc BK580.out 5).trans rfl, (bc BK582.out 0).trans rfl, (bc BK582.out 1).trans rfl, (bc BK582.out 2).trans rfl, (bc BK581.out 0).trans rfl, (bc BK581.out 1).trans rfl, (bc BK581.out 2).trans rfl, (bc BK581.out 3).trans rfl, (bc BK581.out 4).trans rfl, (bc BK581.out 5).trans rfl⟩ (fun hHeld => ?_)
   clear hK K
   refine norm_ (a' := ?_) ?_ ?_
   rotate_left
   ·show Act.put _ (some 26) _ = _
    simp only [Act.put, psl, i64_w, i32_w]
    rfl
   refine pu (i := 14) (N := some 27) (fl 25 15 []) HT_ ?_
   refine pu (i := 15) (N := some 28) (fl 25 16 []) HT_ ?_
   refine pu (i := 16) (N := some 29) (fl 25 17 []) HT_ ?_
   refine tk (i := 17) (N := some 30) (fl 25 18 []) HT_ HW_ hHeld ?_
   refine tk (i := 18) (N := some 31) (fl 25 19 []) HT_ HW_ hHeld ?_
   refine tk (i := 20) (N := some 33) (fl 25 19 [20]) HT_ HW_ hHeld ?_
   refine tk (i := 21) (N := some 34) (fl 25 19 [20, 21]) HT_ HW_ hHeld ?_
   refine one_ (i := 19) (N := some 32) (fl 25 22 []) rfl rfl (one_of HT_.out (by kernel_rfl)) (by decide) (fun K hK => ?_)
   refine goes_ Try.func17 (by kernel_rfl) rfl #[.agg #[.int .i64 a0_0, .int .i64 a0_1, .int .i64 a0_2, .int .i64 a0_3, .int .i64 a0_4, .int .i64 a0_5], .agg #[.int .i64 a1_0, .int .i64 a1_1, .int .i64 a1_2, .int .i64 a1_3, .int .i64 a1_4, .int .i64 a1_5]] (by rfl) rfl rfl (by (try simp only [pml]); first | done | rfl | (simp only [pdt]; rfl)) ?_
   with_reducible refine (box_Overlap.calls a0_0 a0_1 a0_2 a0_3 a0_4 a0_5 a1_0 a1_1 a1_2 a1_3 a1_4 a1_5 t588 _ A25.out).mono ?_
   rintro e w32 ⟨rfl, hb⟩
   refine ⟨_, rfl, ?_⟩
   have n0_ := bB BK580 hb
   have n1_ := bB BK581 hb
   have n2_ := bB BK582 hb
   have n3_ := bS HB hb
   clear BK580 BK581 BK582 HB
   have BK580 := n0_
   have BK581 := n1_
   have BK582 := n2_
   have HB := n3_
   clear n0_ n1_ n2_ n3_
   (try clear hb)
   (try clear hb2)
   (try clear hk)
   (try clear hi)
   refine hK.out _ _ ⟨(bc BK580.out 0).trans rfl, (bc BK580.out 1).trans rfl, (bc BK580.out 2).trans rfl, (bc BK580.out 3).trans rfl, (bc BK580.out 4).trans rfl, (bc BK580.out 5).trans rfl, (bc BK582.out 0).trans rfl, (bc BK582.out 1).trans rfl, (bc BK582.out 2).trans rfl, (bc BK581.out 0).trans rfl, (bc BK581.out 1).trans rfl, (bc BK581.out 2).trans rfl, (bc BK581.out 3).trans rfl, (bc BK581.out 4).trans rfl, (bc BK581.out 5).trans rfl⟩ (fun hHeld => ?_)
   clear hK K
   refine norm_ (a' := ?_) ?_ ?_
   rotate_left
   ·show Act.put _ (some 32) _ = _
    simp only [Act.put, psl, i64_w, i32_w]
    rfl
   refine one_ (i := 22) (N := some 35) (fl 25 23 []) rfl rfl (one_of HT_.out (by kernel_rfl)) (by decide) (fun K hK => ?_)
   refine goes_ Try.func33 (by kernel_rfl) rfl #[.agg #[.int .i64 a0_0, .int .i64 a0_1, .int .i64 a0_2, .int .i64 a0_3, .int .i64 a0_4, .int .i64 a0_5], .agg #[.int .i64 a1_0, .int .i64 a1_1, .int .i64 a1_2, .int .i64 a1_3, .int .i64 a1_4, .int .i64 a1_5]] (by rfl) rfl rfl (by (try simp only [pml]); first | done | rfl | (simp only [pdt]; rfl)) ?_
   with_reducible refine (r_Overlap.calls k a0_0 a0_1 a0_2 a0_3 a0_4 a0_5 a1_0 a1_1 a1_2 a1_3 a1_4 a1_5 t589 _ A26.out).mono ?_
   rintro e w33 ⟨rfl, hb⟩
   refine ⟨_, rfl, ?_⟩
   have n0_ := bB BK580 hb
   have n1_ := bB BK581 hb
   have n2_ := bB BK582 hb
   have n3_ := bS HB hb
   clear BK580 BK581 BK582 HB
   have BK580 := n0_
   have BK581 := n1_
   have BK582 := n2_
   have HB := n3_
   clear n0_ n1_ n2_ n3_
   (try clear hb)
   (try clear hb2)
   (try clear hk)
   (try clear hi)
   refine hK.out _ _ ⟨(bc BK580.out 0).trans rfl, (bc BK580.out 1).trans rfl, (bc BK580.out 2).trans rfl, (bc BK580.out 3).trans rfl, (bc BK580.out 4).trans rfl, (bc BK580.out 5).trans rfl, (bc BK582.out 0).trans rfl, (bc BK582.out 1).trans rfl, (bc BK582.out 2).trans rfl, (bc BK581.out 0).trans rfl, (bc BK581.out 1).trans rfl, (bc BK581.out 2).trans rfl, (bc BK581.out 3).trans rfl, (bc BK581.out 4).trans rfl, (bc BK581.out 5).trans rfl⟩ (fun hHeld => ?_)
   clear hK K
   refine norm_ (a' := ?_) ?_ ?_
   rotate_left
   ·show Act.put _ (some 35) _ = _
    simp only [Act.put, psl, i64_w, i32_w]
    rfl
   refine pu (i := 23) (N := some 36) (fl 25 24 []) HT_ ?_
   refine pu (i := 24) (N := some 37) (fl 25 25 []) HT_ ?_
   refine done_ (done_of HT_.out (by kernel_rfl)) ?_
   try go_wp2
   go_meet
   case rel => exact ⟨_, ((t588 != t589)), (by first | rfl | (simp; done) | (simp [*]; done)), H', ⟨by first | omega | exact Nat.le_refl _⟩, ⟨by (with_reducible repeat first | apply bN | apply bd | apply ba); exact BK580.out⟩, ⟨by (with_reducible repeat first | apply bN | apply bd | apply ba); exact BK581.out⟩, ⟨by (with_reducible repeat first | apply bN | apply bd | apply ba); exact BK582.out⟩, ⟨by repeat (first | (with_reducible first | exact HB.out | apply wa | apply wN | apply wd | refine ws ?_ GE580.out | refine ws ?_ GE581.out | refine ws ?_ GE582.out) | exact HB.out)⟩⟩
  case rest =>
   clear HC6
   try clear c1;try clear p2;try clear c3;try clear c14;try clear c17;try clear c19;try clear c19b0;try clear c19b1;try clear c19b2;try clear c30;try clear c31;try clear c32;try clear c33
   obtain ⟨kq, x37_5, rfl, HA, HJ5, BK580, BK581, BK582, HB⟩ := hcut
   cases kq with
   | zero => exact absurd HA.out (by simp [w_BoxRelates.j0])
   | succ kj5 =>
    have H := HA.out
    clear HA
    simp only [w_BoxRelates.j0] at H
    by_cases c34 : x37_5 = true
    ·subst c34
     have H1 : (some false) = some r := by rw [if_pos rfl] at H; exact H
     clear H
     have H := H1
     clear H1
     obtain rfl := Option.some.inj H
     go_wp2
     go_ret
     exact ⟨by first | rfl | (simp [errW_none, errW_some] <;> rfl) | (simp [*, errW_none, errW_some] <;> rfl), by repeat (first | (with_reducible first | exact HB.out | apply wa | apply wN | apply wd | refine ws ?_ GE580.out | refine ws ?_ GE581.out | refine ws ?_ GE582.out) | exact HB.out)⟩
    replace c34 := Bool.eq_false_iff.mpr c34
    subst c34
    have H1 : ((box_Touch.f a0_0 a0_1 a0_2 a0_3 a0_4 a0_5 a1_0 a1_1 a1_2 a1_3 a1_4 a1_5).bind fun bt590 => ((w_both.f kj5 a0_0 a0_1 a0_2 a0_3 a0_4 a0_5 a1_0 a1_1 a1_2 a1_3 a1_4 a1_5).bind fun t592 => (if t592 = 0 then ((r_Touch.f kj5 a0_0 a0_1 a0_2 a0_3 a0_4 a0_5 a1_0 a1_1 a1_2 a1_3 a1_4 a1_5).bind fun t593 => (if t593 < 0 then (if bt590.2 = 9 then (if bt590.1 = 0 then (w_BoxRelates.j1 kj5 true) else (if t593 ≥ 0 then (if bt590.2 = 0 then (w_BoxRelates.j1 kj5 (bt590.1 == t593)) else (w_BoxRelates.j1 kj5 false)) else (w_BoxRelates.j1 kj5 false))) else (if t593 ≥ 0 then (if bt590.2 = 0 then (w_BoxRelates.j1 kj5 (bt590.1 == t593)) else (w_BoxRelates.j1 kj5 false)) else (w_BoxRelates.j1 kj5 false))) else (if t593 ≥ 0 then (if bt590.2 = 0 then (w_BoxRelates.j1 kj5 (bt590.1 == t593)) else (w_BoxRelates.j1 kj5 false)) else (w_BoxRelates.j1 kj5 false)))) else (if bt590.2 = t592 then (some (bt590.1 == 0)) else (some false))))) = some r := by rw [if_neg (show ¬ (false = true) by decide)] at H; exact H
    clear H
    have H := H1
    clear H1
    replace H := Option.bind_eq_some_iff.mp H
    obtain ⟨⟨t590, t591⟩, A350, H⟩ := H
    replace H : ((w_both.f kj5 a0_0 a0_1 a0_2 a0_3 a0_4 a0_5 a1_0 a1_1 a1_2 a1_3 a1_4 a1_5).bind fun t592 => (if t592 = 0 then ((r_Touch.f kj5 a0_0 a0_1 a0_2 a0_3 a0_4 a0_5 a1_0 a1_1 a1_2 a1_3 a1_4 a1_5).bind fun t593 => (if t593 < 0 then (if t591 = 9 then (if t590 = 0 then (w_BoxRelates.j1 kj5 true) else (if t593 ≥ 0 then (if t591 = 0 then (w_BoxRelates.j1 kj5 (t590 == t593)) else (w_BoxRelates.j1 kj5 false)) else (w_BoxRelates.j1 kj5 false))) else (if t593 ≥ 0 then (if t591 = 0 then (w_BoxRelates.j1 kj5 (t590 == t593)) else (w_BoxRelates.j1 kj5 false)) else (w_BoxRelates.j1 kj5 false))) else (if t593 ≥ 0 then (if t591 = 0 then (w_BoxRelates.j1 kj5 (t590 == t593)) else (w_BoxRelates.j1 kj5 false)) else (w_BoxRelates.j1 kj5 false)))) else (if t591 = t592 then (some (t590 == 0)) else (some false)))) = some r := H
    have A35 := am A350
    clear A350
    replace H := Option.bind_eq_some_iff.mp H
    obtain ⟨t592, A360, H⟩ := H
    replace H : (if t592 = 0 then ((r_Touch.f kj5 a0_0 a0_1 a0_2 a0_3 a0_4 a0_5 a1_0 a1_1 a1_2 a1_3 a1_4 a1_5).bind fun t593 => (if t593 < 0 then (if t591 = 9 then (if t590 = 0 then (w_BoxRelates.j1 kj5 true) else (if t593 ≥ 0 then (if t591 = 0 then (w_BoxRelates.j1 kj5 (t590 == t593)) else (w_BoxRelates.j1 kj5 false)) else (w_BoxRelates.j1 kj5 false))) else (if t593 ≥ 0 then (if t591 = 0 then (w_BoxRelates.j1 kj5 (t590 == t593)) else (w_BoxRelates.j1 kj5 false)) else (w_BoxRelates.j1 kj5 false))) else (if t593 ≥ 0 then (if t591 = 0 then (w_BoxRelates.j1 kj5 (t590 == t593)) else (w_BoxRelates.j1 kj5 false)) else (w_BoxRelates.j1 kj5 false)))) else (if t591 = t592 then (some (t590 == 0)) else (some false))) = some r := H
    have A36 := am A360
    clear A360
    by_cases c37 : t592 = 0
    rotate_left
    ·rw [if_neg c37] at H
     have c37b0 : (t592 == 0) = false := beq_eq_false_iff_ne.mpr c37
     have c37b1 : (t592 != 0) = true := bne_iff_ne.mpr c37
     by_cases c61 : t591 = t592
     ·rw [if_pos c61] at H
      have c61b0 : (t591 == t592) = true := beq_iff_eq.mpr c61
      have c61b1 : (t591 != t592) = false := bne_eq_false_iff_eq.mpr c61
      clear c61
      obtain rfl := Option.some.inj H
      have hnb62 := NB580_581.out
      have hnc62 := NB581_580.out
      have hnb63 := NB580_582.out
      have hnc63 := NB582_580.out
      have := yC1 BK580
      have hcz64_1 := kC1 BK580
      have hcz64_2 := kC2 BK580
      have hcz64_3 := kC3 BK580
      have hcz64_4 := kC4 BK580
      have hcz64_5 := kC5 BK580
      have hfz64_0 := bf BK580.out 0
      have hfz64_1 := bf BK580.out 1
      have hfz64_2 := bf BK580.out 2
      have hfz64_3 := bf BK580.out 3
      have hfz64_4 := bf BK580.out 4
      have hfz64_5 := bf BK580.out 5
      have hnb65 := NB581_582.out
      have hnc65 := NB582_581.out
      have := yC1 BK581
      have hcz66_1 := kC1 BK581
      have hcz66_2 := kC2 BK581
      have hcz66_3 := kC3 BK581
      have hcz66_4 := kC4 BK581
      have hcz66_5 := kC5 BK581
      have hfz66_0 := bf BK581.out 0
      have hfz66_1 := bf BK581.out 1
      have hfz66_2 := bf BK581.out 2
      have hfz66_3 := bf BK581.out 3
      have hfz66_4 := bf BK581.out 4
      have hfz66_5 := bf BK581.out 5
      go_wp2_with (first | ((with_reducible refine gc (f := 18) rfl ?_); refine goesL_ (some 41) rfl rfl Try.func18 (by kernel_rfl) rfl #[.agg #[.int .i64 a0_0, .int .i64 a0_1, .int .i64 a0_2, .int .i64 a0_3, .int .i64 a0_4, .int .i64 a0_5], .agg #[.int .i64 a1_0, .int .i64 a1_1, .int .i64 a1_2, .int .i64 a1_3, .int .i64 a1_4, .int .i64 a1_5]] rfl (by (try simp only [pml]); first | done | rfl | (simp only [pdt]; rfl)) ?_; (with_reducible refine (box_Touch.calls a0_0 a0_1 a0_2 a0_3 a0_4 a0_5 a1_0 a1_1 a1_2 a1_3 a1_4 a1_5 t590 t591 _ A35.out).mono ?_); rintro e w67 ⟨rfl, hb⟩; refine ⟨_, rfl, ?_⟩; replace BK580 := bB BK580 hb; replace BK581 := bB BK581 hb; replace BK582 := bB BK582 hb; replace HB := bS HB hb; (try clear hb); (try clear hb2); (try clear hk); (try clear hi); obtain ⟨_, _, _, _, _, _, _, _, _, _, _, _⟩ := zC6 BK580; obtain ⟨_, _, _, _, _, _, _, _, _, _, _, _⟩ := zC6 BK581) | ((with_reducible refine gc (f := 27) rfl ?_); refine goesL_ (some 46) rfl rfl Try.func27 (by kernel_rfl) rfl #[.agg #[.int .i64 a0_0, .int .i64 a0_1, .int .i64 a0_2, .int .i64 a0_3, .int .i64 a0_4, .int .i64 a0_5], .agg #[.int .i64 a1_0, .int .i64 a1_1, .int .i64 a1_2, .int .i64 a1_3, .int .i64 a1_4, .int .i64 a1_5]] rfl (by (try simp only [pml]); first | done | rfl | (simp only [pdt]; rfl)) ?_; (with_reducible refine (w_both.calls kj5 a0_0 a0_1 a0_2 a0_3 a0_4 a0_5 a1_0 a1_1 a1_2 a1_3 a1_4 a1_5 t592 _ A36.out).mono ?_); rintro e w70 ⟨rfl, hb⟩; refine ⟨_, rfl, ?_⟩; replace BK580 := bB BK580 hb; replace BK581 := bB BK581 hb; replace BK582 := bB BK582 hb; replace HB := bS HB hb; (try clear hb); (try clear hb2); (try clear hk); (try clear hi)))
      go_ret
      exact ⟨by first | rfl | (simp [errW_none, errW_some] <;> rfl) | (simp [*, errW_none, errW_some] <;> rfl), by repeat (first | (with_reducible first | exact HB.out | apply wa | apply wN | apply wd | refine ws ?_ GE580.out | refine ws ?_ GE581.out | refine ws ?_ GE582.out) | exact HB.out)⟩
     rw [if_neg c61] at H
     have c61b0 : (t591 == t592) = false := beq_eq_false_iff_ne.mpr c61
     have c61b1 : (t591 != t592) = true := bne_iff_ne.mpr c61
     obtain rfl := Option.some.inj H
     have hnb71 := NB580_581.out
     have hnc71 := NB581_580.out
     have hnb72 := NB580_582.out
     have hnc72 := NB582_580.out
     have := yC1 BK580
     have hcz73_1 := kC1 BK580
     have hcz73_2 := kC2 BK580
     have hcz73_3 := kC3 BK580
     have hcz73_4 := kC4 BK580
     have hcz73_5 := kC5 BK580
     have hfz73_0 := bf BK580.out 0
     have hfz73_1 := bf BK580.out 1
     have hfz73_2 := bf BK580.out 2
     have hfz73_3 := bf BK580.out 3
     have hfz73_4 := bf BK580.out 4
     have hfz73_5 := bf BK580.out 5
     have hnb74 := NB581_582.out
     have hnc74 := NB582_581.out
     have := yC1 BK581
     have hcz75_1 := kC1 BK581
     have hcz75_2 := kC2 BK581
     have hcz75_3 := kC3 BK581
     have hcz75_4 := kC4 BK581
     have hcz75_5 := kC5 BK581
     have hfz75_0 := bf BK581.out 0
     have hfz75_1 := bf BK581.out 1
     have hfz75_2 := bf BK581.out 2
     have hfz75_3 := bf BK581.out 3
     have hfz75_4 := bf BK581.out 4
     have hfz75_5 := bf BK581.out 5
     go_wp2_with (first | ((with_reducible refine gc (f := 18) rfl ?_); refine goesL_ (some 41) rfl rfl Try.func18 (by kernel_rfl) rfl #[.agg #[.int .i64 a0_0, .int .i64 a0_1, .int .i64 a0_2, .int .i64 a0_3, .int .i64 a0_4, .int .i64 a0_5], .agg #[.int .i64 a1_0, .int .i64 a1_1, .int .i64 a1_2, .int .i64 a1_3, .int .i64 a1_4, .int .i64 a1_5]] rfl (by (try simp only [pml]); first | done | rfl | (simp only [pdt]; rfl)) ?_; (with_reducible refine (box_Touch.calls a0_0 a0_1 a0_2 a0_3 a0_4 a0_5 a1_0 a1_1 a1_2 a1_3 a1_4 a1_5 t590 t591 _ A35.out).mono ?_); rintro e w76 ⟨rfl, hb⟩; refine ⟨_, rfl, ?_⟩; replace BK580 := bB BK580 hb; replace BK581 := bB BK581 hb; replace BK582 := bB BK582 hb; replace HB := bS HB hb; (try clear hb); (try clear hb2); (try clear hk); (try clear hi); obtain ⟨_, _, _, _, _, _, _, _, _, _, _, _⟩ := zC6 BK580; obtain ⟨_, _, _, _, _, _, _, _, _, _, _, _⟩ := zC6 BK581) | ((with_reducible refine gc (f := 27) rfl ?_); refine goesL_ (some 46) rfl rfl Try.func27 (by kernel_rfl) rfl #[.agg #[.int .i64 a0_0, .int .i64 a0_1, .int .i64 a0_2, .int .i64 a0_3, .int .i64 a0_4, .int .i64 a0_5], .agg #[.int .i64 a1_0, .int .i64 a1_1, .int .i64 a1_2, .int .i64 a1_3, .int .i64 a1_4, .int .i64 a1_5]] rfl (by (try simp only [pml]); first | done | rfl | (simp only [pdt]; rfl)) ?_; (with_reducible refine (w_both.calls kj5 a0_0 a0_1 a0_2 a0_3 a0_4 a0_5 a1_0 a1_1 a1_2 a1_3 a1_4 a1_5 t592 _ A36.out).mono ?_); rintro e w79 ⟨rfl, hb⟩; refine ⟨_, rfl, ?_⟩; replace BK580 := bB BK580 hb; replace BK581 := bB BK581 hb; replace BK582 := bB BK582 hb; replace HB := bS HB hb; (try clear hb); (try clear hb2); (try clear hk); (try clear hi)))
     go_ret
     exact ⟨by first | rfl | (simp [errW_none, errW_some] <;> rfl) | (simp [*, errW_none, errW_some] <;> rfl), by repeat (first | (with_reducible first | exact HB.out | apply wa | apply wN | apply wd | refine ws ?_ GE580.out | refine ws ?_ GE581.out | refine ws ?_ GE582.out) | exact HB.out)⟩
    rw [if_pos c37] at H
    have c37b0 : (t592 == 0) = true := beq_iff_eq.mpr c37
    have c37b1 : (t592 != 0) = false := bne_eq_false_iff_eq.mpr c37
    clear c37
    replace H := Option.bind_eq_some_iff.mp H
    obtain ⟨t593, A380, H⟩ := H
    replace H : (if t593 < 0 then (if t591 = 9 then (if t590 = 0 then (w_BoxRelates.j1 kj5 true) else (if t593 ≥ 0 then (if t591 = 0 then (w_BoxRelates.j1 kj5 (t590 == t593)) else (w_BoxRelates.j1 kj5 false)) else (w_BoxRelates.j1 kj5 false))) else (if t593 ≥ 0 then (if t591 = 0 then (w_BoxRelates.j1 kj5 (t590 == t593)) else (w_BoxRelates.j1 kj5 false)) else (w_BoxRelates.j1 kj5 false))) else (if t593 ≥ 0 then (if t591 = 0 then (w_BoxRelates.j1 kj5 (t590 == t593)) else (w_BoxRelates.j1 kj5 false)) else (w_BoxRelates.j1 kj5 false))) = some r := H
    have A38 := am A380
    clear A380
    have HC39 := am H
    clear H
    have hnb40 := NB580_581.out
    have hnc40 := NB581_580.out
    have hnb41 := NB580_582.out
    have hnc41 := NB582_580.out
    have := yC1 BK580
    have hcz42_1 := kC1 BK580
    have hcz42_2 := kC2 BK580
    have hcz42_3 := kC3 BK580
    have hcz42_4 := kC4 BK580
    have hcz42_5 := kC5 BK580
    have hfz42_0 := bf BK580.out 0
    have hfz42_1 := bf BK580.out 1
    have hfz42_2 := bf BK580.out 2
    have hfz42_3 := bf BK580.out 3
    have hfz42_4 := bf BK580.out 4
    have hfz42_5 := bf BK580.out 5
    have hnb43 := NB581_582.out
    have hnc43 := NB582_581.out
    have := yC1 BK581
    have hcz44_1 := kC1 BK581
    have hcz44_2 := kC2 BK581
    have hcz44_3 := kC3 BK581
    have hcz44_4 := kC4 BK581
    have hcz44_5 := kC5 BK581
    have hfz44_0 := bf BK581.out 0
    have hfz44_1 := bf BK581.out 1
    have hfz44_2 := bf BK581.out 2
    have hfz44_3 := bf BK581.out 3
    have hfz44_4 := bf BK581.out 4
    have hfz44_5 := bf BK581.out 5
    go_upto_region 10 with (first | ((with_reducible refine gc (f := 18) rfl ?_); refine goesL_ (some 41) rfl rfl Try.func18 (by kernel_rfl) rfl #[.agg #[.int .i64 a0_0, .int .i64 a0_1, .int .i64 a0_2, .int .i64 a0_3, .int .i64 a0_4, .int .i64 a0_5], .agg #[.int .i64 a1_0, .int .i64 a1_1, .int .i64 a1_2, .int .i64 a1_3, .int .i64 a1_4, .int .i64 a1_5]] rfl (by (try simp only [pml]); first | done | rfl | (simp only [pdt]; rfl)) ?_; (with_reducible refine (box_Touch.calls a0_0 a0_1 a0_2 a0_3 a0_4 a0_5 a1_0 a1_1 a1_2 a1_3 a1_4 a1_5 t590 t591 _ A35.out).mono ?_); rintro e w45 ⟨rfl, hb⟩; refine ⟨_, rfl, ?_⟩; replace BK580 := bB BK580 hb; replace BK581 := bB BK581 hb; replace BK582 := bB BK582 hb; replace HB := bS HB hb; (try clear hb); (try clear hb2); (try clear hk); (try clear hi); obtain ⟨_, _, _, _, _, _, _, _, _, _, _, _⟩ := zC6 BK580; obtain ⟨_, _, _, _, _, _, _, _, _, _, _, _⟩ := zC6 BK581) | ((with_reducible refine gc (f := 27) rfl ?_); refine goesL_ (some 46) rfl rfl Try.func27 (by kernel_rfl) rfl #[.agg #[.int .i64 a0_0, .int .i64 a0_1, .int .i64 a0_2, .int .i64 a0_3, .int .i64 a0_4, .int .i64 a0_5], .agg #[.int .i64 a1_0, .int .i64 a1_1, .int .i64 a1_2, .int .i64 a1_3, .int .i64 a1_4, .int .i64 a1_5]] rfl (by (try simp only [pml]); first | done | rfl | (simp only [pdt]; rfl)) ?_; (with_reducible refine (w_both.calls kj5 a0_0 a0_1 a0_2 a0_3 a0_4 a0_5 a1_0 a1_1 a1_2 a1_3 a1_4 a1_5 t592 _ A36.out).mono ?_); rintro e w48 ⟨rfl, hb⟩; refine ⟨_, rfl, ?_⟩; replace BK580 := bB BK580 hb; replace BK581 := bB BK581 hb; replace BK582 := bB BK582 hb; replace HB := bS HB hb; (try clear hb); (try clear hb2); (try clear hk); (try clear hi); obtain ⟨_, _, _, _, _, _, _, _, _, _, _, _⟩ := zC6 BK580; obtain ⟨_, _, _, _, _, _, _, _, _, _, _, _⟩ := zC6 BK581) | ((with_reducible refine gc (f := 34) rfl ?_); refine goesL_ (some 58) rfl rfl Try.func34 (by kernel_rfl) rfl #[.agg #[.int .i64 a0_0, .int .i64 a0_1, .int .i64 a0_2, .int .i64 a0_3, .int .i64 a0_4, .int .i64 a0_5], .agg #[.int .i64 a1_0, .int .i64 a1_1, .int .i64 a1_2, .int .i64 a1_3, .int .i64 a1_4, .int .i64 a1_5]] rfl (by (try simp only [pml]); first | done | rfl | (simp only [pdt]; rfl)) ?_; (with_reducible refine (r_Touch.calls kj5 a0_0 a0_1 a0_2 a0_3 a0_4 a0_5 a1_0 a1_1 a1_2 a1_3 a1_4 a1_5 t593 _ A38.out).mono ?_); rintro e w51 ⟨rfl, hb⟩; refine ⟨_, rfl, ?_⟩; replace BK580 := bB BK580 hb; replace BK581 := bB BK581 hb; replace BK582 := bB BK582 hb; replace HB := bS HB hb; (try clear hb); (try clear hb2); (try clear hk); (try clear hi)))
    (try simp only [Act.put, psl])
    go_cut [6] (fun v6 wc => ∃ (kq : Nat) (x6_38 : Bool), v6 = .bool x6_38 ∧ Aside0 (w_BoxRelates.j1 kq x6_38 = some r) ∧ Aside0 (kq ≤ kj5) ∧ Aside0 (wc.heap[gb580]? = some (.cells #[.int .i64 a0_0, .int .i64 a0_1, .int .i64 a0_2, .int .i64 a0_3, .int .i64 a0_4, .int .i64 a0_5] 25 (0, 0))) ∧ Aside0 (wc.heap[gb581]? = some (.cells #[.int .i64 a1_0, .int .i64 a1_1, .int .i64 a1_2, .int .i64 a1_3, .int .i64 a1_4, .int .i64 a1_5] 25 (0, 0))) ∧ Aside0 (wc.heap[gb582]? = some (.cells #[.int .i64 a2_0, .int .i64 a2_1, .int .i64 a2_2] 23 (0, 0))) ∧ Aside0 (Below w.heap.size w wc))
    case first =>
     have H := HC39.out
     clear HC39
     by_cases c52 : t593 < 0
     rotate_left
     ·rw [if_neg c52] at H
      have c52b0 : decide (t593 < 0) = false := decide_eq_false c52
      clear c52
      (first | rw [c52b0] | (simp only [i64_w, i32_w]; rw [c52b0]) | skip)
      by_cases c59 : t593 ≥ 0
      rotate_left
      ·rw [if_neg c59] at H
       have c59b0 : decide (0 ≤ t593) = false := decide_eq_false c59
       clear c59
       have H' := am H
       clear H
       go_wp2
       go_meet
       case rel => exact ⟨_, (false), (by first | rfl | (simp; done) | (simp [*]; done)), H', ⟨by have := HJ5.out; first | omega | exact Nat.le_refl _⟩, ⟨by (with_reducible repeat first | apply bN | apply bd | apply ba); exact BK580.out⟩, ⟨by (with_reducible repeat first | apply bN | apply bd | apply ba); exact BK581.out⟩, ⟨by (with_reducible repeat first | apply bN | apply bd | apply ba); exact BK582.out⟩, ⟨by repeat (first | (with_reducible first | exact HB.out | apply wa | apply wN | apply wd | refine ws ?_ GE580.out | refine ws ?_ GE581.out | refine ws ?_ GE582.out) | exact HB.out)⟩⟩
      rw [if_pos c59] at H
      have c59b0 : decide (0 ≤ t593) = true := decide_eq_true c59
      clear c59
      by_cases c60 : t591 = 0
      ·rw [if_pos c60] at H
       have c60b0 : (t591 == 0) = true := beq_iff_eq.mpr c60
       have c60b1 : (t591 != 0) = false := bne_eq_false_iff_eq.mpr c60
       clear c60
       have H' := am H
       clear H
       go_wp2
       go_meet
       case rel => exact ⟨_, ((t590 == t593)), (by first | rfl | (simp; done) | (simp [*]; done)), H', ⟨by have := HJ5.out; first | omega | exact Nat.le_refl _⟩, ⟨by (with_reducible repeat first | apply bN | apply bd | apply ba); exact BK580.out⟩, ⟨by (with_reducible repeat first | apply bN | apply bd | apply ba); exact BK581.out⟩, ⟨by (with_reducible repeat first | apply bN | apply bd | apply ba); exact BK582.out⟩, ⟨by repeat (first | (with_reducible first | exact HB.out | apply wa | apply wN | apply wd | refine ws ?_ GE580.out | refine ws ?_ GE581.out | refine ws ?_ GE582.out) | exact HB.out)⟩⟩
      rw [if_neg c60] at H
      have c60b0 : (t591 == 0) = false := beq_eq_false_iff_ne.mpr c60
      have c60b1 : (t591 != 0) = true := bne_iff_ne.mpr c60
      have H' := am H
      clear H
      go_wp2
      go_meet
      case rel => exact ⟨_, (false), (by first | rfl | (simp; done) | (simp [*]; done)), H', ⟨by have := HJ5.out; first | omega | exact Nat.le_refl _⟩, ⟨by (with_reducible repeat first | apply bN | apply bd | apply ba); exact BK580.out⟩, ⟨by (with_reducible repeat first | apply bN | apply bd | apply ba); exact BK581.out⟩, ⟨by (with_reducible repeat first | apply bN | apply bd | apply ba); exact BK582.out⟩, ⟨by repeat (first | (with_reducible first | exact HB.out | apply wa | apply wN | apply wd | refine ws ?_ GE580.out | refine ws ?_ GE581.out | refine ws ?_ GE582.out) | exact HB.out)⟩⟩
     rw [if_pos c52] at H
     have c52b0 : decide (t593 < 0) = true := decide_eq_true c52
     clear c52
     (first | rw [c52b0] | (simp only [i64_w, i32_w]; rw [c52b0]) | skip)
     by_cases c53 : t591 = 9
     rotate_left
     ·rw [if_neg c53] at H
      have c53b0 : (t591 == 9) = false := beq_eq_false_iff_ne.mpr c53
      have c53b1 : (t591 != 9) = true := bne_iff_ne.mpr c53
      by_cases c57 : t593 ≥ 0
      rotate_left
      ·rw [if_neg c57] at H
       have c57b0 : decide (0 ≤ t593) = false := decide_eq_false c57
       clear c57
       have H' := am H
       clear H
       go_wp2
       go_meet
       case rel => exact ⟨_, (false), (by first | rfl | (simp; done) | (simp [*]; done)), H', ⟨by have := HJ5.out; first | omega | exact Nat.le_refl _⟩, ⟨by (with_reducible repeat first | apply bN | apply bd | apply ba); exact BK580.out⟩, ⟨by (with_reducible repeat first | apply bN | apply bd | apply ba); exact BK581.out⟩, ⟨by (with_reducible repeat first | apply bN | apply bd | apply ba); exact BK582.out⟩, ⟨by repeat (first | (with_reducible first | exact HB.out | apply wa | apply wN | apply wd | refine ws ?_ GE580.out | refine ws ?_ GE581.out | refine ws ?_ GE582.out) | exact HB.out)⟩⟩
      rw [if_pos c57] at H
      have c57b0 : decide (0 ≤ t593) = true := decide_eq_true c57
      clear c57
      by_cases c58 : t591 = 0
      ·rw [if_pos c58] at H
       have c58b0 : (t591 == 0) = true := beq_iff_eq.mpr c58
       have c58b1 : (t591 != 0) = false := bne_eq_false_iff_eq.mpr c58
       clear c58
       have H' := am H
       clear H
       go_wp2
       go_meet
       case rel => exact ⟨_, ((t590 == t593)), (by first | rfl | (simp; done) | (simp [*]; done)), H', ⟨by have := HJ5.out; first | omega | exact Nat.le_refl _⟩, ⟨by (with_reducible repeat first | apply bN | apply bd | apply ba); exact BK580.out⟩, ⟨by (with_reducible repeat first | apply bN | apply bd | apply ba); exact BK581.out⟩, ⟨by (with_reducible repeat first | apply bN | apply bd | apply ba); exact BK582.out⟩, ⟨by repeat (first | (with_reducible first | exact HB.out | apply wa | apply wN | apply wd | refine ws ?_ GE580.out | refine ws ?_ GE581.out | refine ws ?_ GE582.out) | exact HB.out)⟩⟩
      rw [if_neg c58] at H
      have c58b0 : (t591 == 0) = false := beq_eq_false_iff_ne.mpr c58
      have c58b1 : (t591 != 0) = true := bne_iff_ne.mpr c58
      have H' := am H
      clear H
      go_wp2
      go_meet
      case rel => exact ⟨_, (false), (by first | rfl | (simp; done) | (simp [*]; done)), H', ⟨by have := HJ5.out; first | omega | exact Nat.le_refl _⟩, ⟨by (with_reducible repeat first | apply bN | apply bd | apply ba); exact BK580.out⟩, ⟨by (with_reducible repeat first | apply bN | apply bd | apply ba); exact BK581.out⟩, ⟨by (with_reducible repeat first | apply bN | apply bd | apply ba); exact BK582.out⟩, ⟨by repeat (first | (with_reducible first | exact HB.out | apply wa | apply wN | apply wd | refine ws ?_ GE580.out | refine ws ?_ GE581.out | refine ws ?_ GE582.out) | exact HB.out)⟩⟩
     rw [if_pos c53] at H
     have c53b0 : (t591 == 9) = true := beq_iff_eq.mpr c53
     have c53b1 : (t591 != 9) = false := bne_eq_false_iff_eq.mpr c53
     clear c53
     by_cases c54 : t590 = 0
     ·rw [if_pos c54] at H
      have c54b0 : (t590 == 0) = true := beq_iff_eq.mpr c54
      have c54b1 : (t590 != 0) = false := bne_eq_false_iff_eq.mpr c54
      clear c54
      have H' := am H
      clear H
      go_wp2
      go_meet
      case rel => exact ⟨_, (true), (by first | rfl | (simp; done) | (simp [*]; done)), H', ⟨by have := HJ5.out; first | omega | exact Nat.le_refl _⟩, ⟨by (with_reducible repeat first | apply bN | apply bd | apply ba); exact BK580.out⟩, ⟨by (with_reducible repeat first | apply bN | apply bd | apply ba); exact BK581.out⟩, ⟨by (with_reducible repeat first | apply bN | apply bd | apply ba); exact BK582.out⟩, ⟨by repeat (first | (with_reducible first | exact HB.out | apply wa | apply wN | apply wd | refine ws ?_ GE580.out | refine ws ?_ GE581.out | refine ws ?_ GE582.out) | exact HB.out)⟩⟩
     rw [if_neg c54] at H
     have c54b0 : (t590 == 0) = false := beq_eq_false_iff_ne.mpr c54
     have c54b1 : (t590 != 0) = true := bne_iff_ne.mpr c54
     by_cases c55 : t593 ≥ 0
     rotate_left
     ·rw [if_neg c55] at H
      have c55b0 : decide (0 ≤ t593) = false := decide_eq_false c55
      clear c55
      have H' := am H
      clear H
      go_wp2
      go_meet
      case rel => exact ⟨_, (false), (by first | rfl | (simp; done) | (simp [*]; done)), H', ⟨by have := HJ5.out; first | omega | exact Nat.le_refl _⟩, ⟨by (with_reducible repeat first | apply bN | apply bd | apply ba); exact BK580.out⟩, ⟨by (with_reducible repeat first | apply bN | apply bd | apply ba); exact BK581.out⟩, ⟨by (with_reducible repeat first | apply bN | apply bd | apply ba); exact BK582.out⟩, ⟨by repeat (first | (with_reducible first | exact HB.out | apply wa | apply wN | apply wd | refine ws ?_ GE580.out | refine ws ?_ GE581.out | refine ws ?_ GE582.out) | exact HB.out)⟩⟩
     rw [if_pos c55] at H
     have c55b0 : decide (0 ≤ t593) = true := decide_eq_true c55
     clear c55
     by_cases c56 : t591 = 0
     ·rw [if_pos c56] at H
      have c56b0 : (t591 == 0) = true := beq_iff_eq.mpr c56
      have c56b1 : (t591 != 0) = false := bne_eq_false_iff_eq.mpr c56
      clear c56
      have H' := am H
      clear H
      go_wp2
      go_meet
      case rel => exact ⟨_, ((t590 == t593)), (by first | rfl | (simp; done) | (simp [*]; done)), H', ⟨by have := HJ5.out; first | omega | exact Nat.le_refl _⟩, ⟨by (with_reducible repeat first | apply bN | apply bd | apply ba); exact BK580.out⟩, ⟨by (with_reducible repeat first | apply bN | apply bd | apply ba); exact BK581.out⟩, ⟨by (with_reducible repeat first | apply bN | apply bd | apply ba); exact BK582.out⟩, ⟨by repeat (first | (with_reducible first | exact HB.out | apply wa | apply wN | apply wd | refine ws ?_ GE580.out | refine ws ?_ GE581.out | refine ws ?_ GE582.out) | exact HB.out)⟩⟩
     rw [if_neg c56] at H
     have c56b0 : (t591 == 0) = false := beq_eq_false_iff_ne.mpr c56
     have c56b1 : (t591 != 0) = true := bne_iff_ne.mpr c56
     have H' := am H
     clear H
     go_wp2
     go_meet
     case rel => exact ⟨_, (false), (by first | rfl | (simp; done) | (simp [*]; done)), H', ⟨by have := HJ5.out; first | omega | exact Nat.le_refl _⟩, ⟨by (with_reducible repeat first | apply bN | apply bd | apply ba); exact BK580.out⟩, ⟨by (with_reducible repeat first | apply bN | apply bd | apply ba); exact BK581.out⟩, ⟨by (with_reducible repeat first | apply bN | apply bd | apply ba); exact BK582.out⟩, ⟨by repeat (first | (with_reducible first | exact HB.out | apply wa | apply wN | apply wd | refine ws ?_ GE580.out | refine ws ?_ GE581.out | refine ws ?_ GE582.out) | exact HB.out)⟩⟩
    case rest =>
     clear HC39
     try clear c1;try clear c2;try clear p2;try clear c3;try clear c4;try clear c5;try clear c6;try clear c14;try clear c17;try clear c18;try clear c19;try clear c19b0;try clear c19b1;try clear c19b2;try clear c27;try clear c30;try clear c31;try clear c32;try clear c33;try clear c34;try clear c37;try clear c37b0;try clear c37b1;try clear c40;try clear c41;try clear c43;try clear c52;try clear c52b0;try clear c53;try clear c53b0;try clear c53b1;try clear c54;try clear c54b0;try clear c54b1;try clear c55;try clear c55b0;try clear c56;try clear c56b0;try clear c56b1;try clear c57;try clear c57b0;try clear c58;try clear c58b0;try clear c58b1;try clear c59;try clear c59b0;try clear c60;try clear c60b0;try clear c60b1;try clear hcz42_0;try clear hcz42_1;try clear hcz42_2;try clear hcz42_3;try clear hcz42_4;try clear hcz42_5;try clear hcz44_0;try clear hcz44_1;try clear hcz44_2;try clear hcz44_3;try clear hcz44_4;try clear hcz44_5;try clear hcz46_0;try clear hcz46_1;try clear hcz46_2;try clear hcz46_3;try clear hcz46_4;try clear hcz46_5;try clear hcz47_0;try clear hcz47_1;try clear hcz47_2;try clear hcz47_3;try clear hcz47_4;try clear hcz47_5;try clear hcz49_0;try clear hcz49_1;try clear hcz49_2;try clear hcz49_3;try clear hcz49_4;try clear hcz49_5;try clear hcz50_0;try clear hcz50_1;try clear hcz50_2;try clear hcz50_3;try clear hcz50_4;try clear hcz50_5;try clear hfz42_0;try clear hfz42_1;try clear hfz42_2;try clear hfz42_3;try clear hfz42_4;try clear hfz42_5;try clear hfz44_0;try clear hfz44_1;try clear hfz44_2;try clear hfz44_3;try clear hfz44_4;try clear hfz44_5;try clear hfz46_0;try clear hfz46_1;try clear hfz46_2;try clear hfz46_3;try clear hfz46_4;try clear hfz46_5;try clear hfz47_0;try clear hfz47_1;try clear hfz47_2;try clear hfz47_3;try clear hfz47_4;try clear hfz47_5;try clear hfz49_0;try clear hfz49_1;try clear hfz49_2;try clear hfz49_3;try clear hfz49_4;try clear hfz49_5;try clear hfz50_0;try clear hfz50_1;try clear hfz50_2;try clear hfz50_3;try clear hfz50_4;try clear hfz50_5;try clear p2
     obtain ⟨kq, x6_38, rfl, HA, HJ38, BK580, BK581, BK582, HB⟩ := hcut
     cases kq with
     | zero => exact absurd HA.out (by simp [w_BoxRelates.j1])
     | succ kj38 =>
      have H := HA.out
      clear HA
      simp only [w_BoxRelates.j1] at H
      obtain rfl := Option.some.inj H
      go_wp2
      go_ret
      exact ⟨by first | rfl | (simp [errW_none, errW_some] <;> rfl) | (simp [*, errW_none, errW_some] <;> rfl), by repeat (first | (with_reducible first | exact HB.out | apply wa | apply wN | apply wd | refine ws ?_ GE580.out | refine ws ?_ GE581.out | refine ws ?_ GE582.out) | exact HB.out)⟩
 ·replace c5 := Bool.eq_false_iff.mpr c5
  subst c5
  have H1 : (some false) = some r := by rw [if_neg (show ¬ (false = true) by decide)] at H; exact H
  clear H
  have H := H1
  clear H1
  obtain rfl := Option.some.inj H
  go_enter Try.func6, Try.ntmps6
  go_wp2_with (first | ((with_reducible refine gate_dst (N := 3) rfl ?_); refine box_event ?hg (N := 3) ?hd (cs := #[.int .i64 a0_0, .int .i64 a0_1, .int .i64 a0_2, .int .i64 a0_3, .int .i64 a0_4, .int .i64 a0_5]) (t := 25) ?hr ?_; (case hd | hg => rfl); (case hr => first | (go_simp; done) | (go_simp; rfl)); intro gb580 hg w80 hbox hb; have BK580 := am hbox; have GW580 := sG HB hg; have GE580 := sG HB hg; replace HB := bS HB hb; clear hb hbox hg) | ((with_reducible refine gate_dst (N := 4) rfl ?_); refine box_event ?hg (N := 4) ?hd (cs := #[.int .i64 a1_0, .int .i64 a1_1, .int .i64 a1_2, .int .i64 a1_3, .int .i64 a1_4, .int .i64 a1_5]) (t := 25) ?hr ?_; (case hd | hg => rfl); (case hr => first | (go_simp; done) | (go_simp; rfl)); intro gb581 hg w81 hbox hb; have BK581 := am hbox; have GW581 := sG HB hg; have GE581 := sG HB hg; replace HB := bS HB hb; have NB580_581 := nL BK580 hg; have NB581_580 := nG BK580 hg; replace BK580 := bB BK580 hb; clear hb hbox hg) | ((with_reducible refine gate_dst (N := 5) rfl ?_); refine box_event ?hg (N := 5) ?hd (cs := #[.int .i64 a2_0, .int .i64 a2_1, .int .i64 a2_2]) (t := 23) ?hr ?_; (case hd | hg => rfl); (case hr => first | (go_simp; done) | (go_simp; rfl)); intro gb582 hg w82 hbox hb; have BK582 := am hbox; have GW582 := sG HB hg; have GE582 := sG HB hg; replace HB := bS HB hb; have NB580_582 := nL BK580 hg; have NB582_580 := nG BK580 hg; replace BK580 := bB BK580 hb; have NB581_582 := nL BK581 hg; have NB582_581 := nG BK581 hg; replace BK581 := bB BK581 hb; clear hb hbox hg) | ((with_reducible refine gc (f := 11) rfl ?_); refine goesL_ (some 11) rfl rfl Try.func11 (by kernel_rfl) rfl #[] rfl (by (try simp only [pml]); first | done | rfl | (simp only [pdt]; rfl)) ?_; (with_reducible refine (w_awake.calls  false _ A4.out).mono ?_); rintro e w83 ⟨rfl, hb⟩; refine ⟨_, rfl, ?_⟩; replace BK580 := bB BK580 hb; replace BK581 := bB BK581 hb; replace BK582 := bB BK582 hb; replace HB := bS HB hb; (try clear hb); (try clear hb2); (try clear hk); (try clear hi)))
  go_ret
  exact ⟨by first | rfl | (simp [errW_none, errW_some] <;> rfl) | (simp [*, errW_none, errW_some] <;> rfl), by repeat (first | (with_reducible first | exact HB.out | apply wa | apply wN | apply wd | refine ws ?_ GE580.out | refine ws ?_ GE581.out | refine ws ?_ GE582.out) | exact HB.out)⟩

def w_BoxRelates.Pure : Prop := ∀ (a0_0 : Int) (a0_1 : Int) (a0_2 : Int) (a0_3 : Int) (a0_4 : Int) (a0_5 : Int) (a1_0 : Int) (a1_1 : Int) (a1_2 : Int) (a1_3 : Int) (a1_4 : Int) (a1_5 : Int) (a2_0 : Int) (a2_1 : Int) (a2_2 : Int), ((Lit.int .i64 a0_0).wf = true) → ((Lit.int .i64 a0_1).wf = true) → ((Lit.int .i64 a0_2).wf = true) → ((Lit.int .i64 a0_3).wf = true) → ((Lit.int .i64 a0_4).wf = true) → ((Lit.int .i64 a0_5).wf = true) → ((Lit.int .i64 a1_0).wf = true) → ((Lit.int .i64 a1_1).wf = true) → ((Lit.int .i64 a1_2).wf = true) → ((Lit.int .i64 a1_3).wf = true) → ((Lit.int .i64 a1_4).wf = true) → ((Lit.int .i64 a1_5).wf = true) → ((Lit.int .i64 a2_0).wf = true) → ((Lit.int .i64 a2_1).wf = true) → ((Lit.int .i64 a2_2).wf = true) → ∃ k, w_BoxRelates.f k a0_0 a0_1 a0_2 a0_3 a0_4 a0_5 a1_0 a1_1 a1_2 a1_3 a1_4 a1_5 a2_0 a2_1 a2_2 = some true
theorem w_BoxRelates.walk (P_ : w_BoxRelates.Pure) (a0_0 : Int) (a0_1 : Int) (a0_2 : Int) (a0_3 : Int) (a0_4 : Int) (a0_5 : Int) (a1_0 : Int) (a1_1 : Int) (a1_2 : Int) (a1_3 : Int) (a1_4 : Int) (a1_5 : Int) (a2_0 : Int) (a2_1 : Int) (a2_2 : Int) (w : World) (o0 : ((Lit.int .i64 a0_0).wf = true)) (o1 : ((Lit.int .i64 a0_1).wf = true)) (o2 : ((Lit.int .i64 a0_2).wf = true)) (o3 : ((Lit.int .i64 a0_3).wf = true)) (o4 : ((Lit.int .i64 a0_4).wf = true)) (o5 : ((Lit.int .i64 a0_5).wf = true)) (o6 : ((Lit.int .i64 a1_0).wf = true)) (o7 : ((Lit.int .i64 a1_1).wf = true)) (o8 : ((Lit.int .i64 a1_2).wf = true)) (o9 : ((Lit.int .i64 a1_3).wf = true)) (o10 : ((Lit.int .i64 a1_4).wf = true)) (o11 : ((Lit.int .i64 a1_5).wf = true)) (o12 : ((Lit.int .i64 a2_0).wf = true)) (o13 : ((Lit.int .i64 a2_1).wf = true)) (o14 : ((Lit.int .i64 a2_2).wf = true)) :
  Calls Try.prog 6 #[.agg #[.int .i64 a0_0, .int .i64 a0_1, .int .i64 a0_2, .int .i64 a0_3, .int .i64 a0_4, .int .i64 a0_5], .agg #[.int .i64 a1_0, .int .i64 a1_1, .int .i64 a1_2, .int .i64 a1_3, .int .i64 a1_4, .int .i64 a1_5], .agg #[.int .i64 a2_0, .int .i64 a2_1, .int .i64 a2_2]] w fun e w' => e = .returned (.bool true) ∧ Below w.heap.size w w' := by
 obtain ⟨k, h⟩ := P_ a0_0 a0_1 a0_2 a0_3 a0_4 a0_5 a1_0 a1_1 a1_2 a1_3 a1_4 a1_5 a2_0 a2_1 a2_2 o0 o1 o2 o3 o4 o5 o6 o7 o8 o9 o10 o11 o12 o13 o14
 refine (w_BoxRelates.calls k a0_0 a0_1 a0_2 a0_3 a0_4 a0_5 a1_0 a1_1 a1_2 a1_3 a1_4 a1_5 a2_0 a2_1 a2_2 true w  h).mono ?_
 rintro e w' ⟨rfl, hd⟩
 exact ⟨rfl, hd⟩

end Go.Proofs.Ytmmdikhmlmoolaa.QA
