import Derived.Test.YtmmdikhmlmoolaaZQAx0
import Derived.Test.YtmmdikhmlmoolaaZQAx2
import Derived.Test.YtmmdikhmlmoolaaZQAx3
import Derived.Test.YtmmdikhmlmoolaaZQAx6
import Derived.Test.YtmmdikhmlmoolaaZQAx10
import Derived.Test.YtmmdikhmlmoolaaZQAx12
import Derived.Test.YtmmdikhmlmoolaaZQAx15
namespace Go.Proofs.Ytmmdikhmlmoolaa.QA
open Go.RowKit Go.Proofs.YtmmdikhmlmoolaaW.PrintWords Go.Proofs.YtmmdikhmlmoolaaW.PrintLast Go.Proofs.YtmmdikhmlmoolaaW.PrintMore
open Go.Proofs.YtmmdikhmlmoolaaW.PrintWords renaming blk_drewN → bN, blk_drew → bd, blk_alloc → ba, below_alloc → wa, pw_below_drewN → wN, below_drew1 → wd, below_set → ws, blk_frozen → bf, blk_cell → bc, blk_far → bF, gate_callee → gc, box_event → be
open Aside0 renaming mk → am
attribute [local go_sem] max2_int min2_int max_two min_two max_three min_three max_four min_four
set_option linter.unusedVariables false
set_option linter.unusedSimpArgs false

attribute [local go_sem high] eqA25
mutual
def w_BoxMoves.j0 : Nat → Bool → Int → Int → Int → Int → Int → Int → Int → Int → Int → Int → Int → Int → Int → Int → Int → Int → Int → Int → Int → Int → Int → Int → Int → Int → Int → Int → Int → Option (Bool)
 | 0, _, _, _, _, _, _, _, _, _, _, _, _, _, _, _, _, _, _, _, _, _, _, _, _, _, _, _, _ => none
 | k + 1, x42, x394000, x394001, x394002, x394003, x394004, x394005, x395000, x395001, x395002, x395003, x395004, x395005, x396000, x396001, x396002, x405000, x405001, x405002, x405003, x405004, x405005, x413000, x413001, x413002, x413003, x413004, x413005 => if x42 = true then (some true) else ((box_Move.f x405000 x405001 x405002 x405003 x405004 x405005 (wrap64 (-x396000)) (wrap64 (-x396001)) (wrap64 (-x396002))).bind fun bt413 => ((box_Volume.f x394000 x394001 x394002 x394003 x394004 x394005).bind fun bt421 => ((box_Volume.f x405000 x405001 x405002 x405003 x405004 x405005).bind fun bt423 => (if bt413.2.2.2.2.2.2 = 0 then (if ((!(bt413.1 == x394000) || (!(bt413.2.1 == x394001) || (!(bt413.2.2.1 == x394002)))) || ((!(bt413.2.2.2.1 == x394003) || (!(bt413.2.2.2.2.1 == x394004) || (!(bt413.2.2.2.2.2.1 == x394005)))))) = true then (w_BoxMoves.j1 k true x394000 x394001 x394002 x394003 x394004 x394005 x395000 x395001 x395002 x395003 x395004 x395005 x405000 x405001 x405002 x405003 x405004 x405005 x413000 x413001 x413002 x413003 x413004 x413005) else (if bt421.2 = 0 then (if bt423.2 = 0 then (if bt421.1 = bt423.1 then ((box_Overlap.f x394000 x394001 x394002 x394003 x394004 x394005 x395000 x395001 x395002 x395003 x395004 x395005).bind fun t425 => ((box_Overlap.f x405000 x405001 x405002 x405003 x405004 x405005 x413000 x413001 x413002 x413003 x413004 x413005).bind fun t426 => (w_BoxMoves.j1 k (t425 != t426) x394000 x394001 x394002 x394003 x394004 x394005 x395000 x395001 x395002 x395003 x395004 x395005 x405000 x405001 x405002 x405003 x405004 x405005 x413000 x413001 x413002 x413003 x413004 x413005))) else (w_BoxMoves.j1 k true x394000 x394001 x394002 x394003 x394004 x394005 x395000 x395001 x395002 x395003 x395004 x395005 x405000 x405001 x405002 x405003 x405004 x405005 x413000 x413001 x413002 x413003 x413004 x413005)) else (w_BoxMoves.j1 k true x394000 x394001 x394002 x394003 x394004 x394005 x395000 x395001 x395002 x395003 x395004 x395005 x405000 x405001 x405002 x405003 x405004 x405005 x413000 x413001 x413002 x413003 x413004 x413005)) else (w_BoxMoves.j1 k true x394000 x394001 x394002 x394003 x394004 x394005 x395000 x395001 x395002 x395003 x395004 x395005 x405000 x405001 x405002 x405003 x405004 x405005 x413000 x413001 x413002 x413003 x413004 x413005))) else (w_BoxMoves.j1 k true x394000 x394001 x394002 x394003 x394004 x394005 x395000 x395001 x395002 x395003 x395004 x395005 x405000 x405001 x405002 x405003 x405004 x405005 x413000 x413001 x413002 x413003 x413004 x413005)))))
def w_BoxMoves.j1 : Nat → Bool → Int → Int → Int → Int → Int → Int → Int → Int → Int → Int → Int → Int → Int → Int → Int → Int → Int → Int → Int → Int → Int → Int → Int → Int → Option (Bool)
 | 0, _, _, _, _, _, _, _, _, _, _, _, _, _, _, _, _, _, _, _, _, _, _, _, _, _ => none
 | k + 1, x96, x394000, x394001, x394002, x394003, x394004, x394005, x395000, x395001, x395002, x395003, x395004, x395005, x405000, x405001, x405002, x405003, x405004, x405005, x413000, x413001, x413002, x413003, x413004, x413005 => if x96 = true then (some false) else ((box_Touch.f x394000 x394001 x394002 x394003 x394004 x394005 x395000 x395001 x395002 x395003 x395004 x395005).bind fun bt427 => ((box_Touch.f x405000 x405001 x405002 x405003 x405004 x405005 x413000 x413001 x413002 x413003 x413004 x413005).bind fun bt429 => ((box_Touch.f x395000 x395001 x395002 x395003 x395004 x395005 x394000 x394001 x394002 x394003 x394004 x394005).bind fun bt431 => (if bt427.2 = bt429.2 then (if bt427.1 = bt429.1 then (if bt427.2 = bt431.2 then (if bt427.2 = 0 then (if (wrap64 (Int.tdiv bt427.1 2)) = (wrap64 (Int.tdiv bt431.1 2)) then (if bt427.1 = bt431.1 then (w_BoxMoves.j2 k false) else ((box_Overlap.f x394000 x394001 x394002 x394003 x394004 x394005 x395000 x395001 x395002 x395003 x395004 x395005).bind fun t433 => (w_BoxMoves.j2 k (!t433)))) else (w_BoxMoves.j2 k false)) else (w_BoxMoves.j2 k true)) else (w_BoxMoves.j2 k false)) else (w_BoxMoves.j2 k false)) else (w_BoxMoves.j2 k false)))))
def w_BoxMoves.j2 : Nat → Bool → Option (Bool)
 | 0, _ => none
 | k + 1, x6 => some x6
end
def w_BoxMoves.f (k : Nat) (a0_0 : Int) (a0_1 : Int) (a0_2 : Int) (a0_3 : Int) (a0_4 : Int) (a0_5 : Int) (a1_0 : Int) (a1_1 : Int) (a1_2 : Int) (a1_3 : Int) (a1_4 : Int) (a1_5 : Int) (a2_0 : Int) (a2_1 : Int) (a2_2 : Int) : Option (Bool) := (w_awake.f).bind fun t396 => (if t396 = true then ((box_Move.f a0_0 a0_1 a0_2 a0_3 a0_4 a0_5 a2_0 a2_1 a2_2).bind fun bt397 => ((box_Move.f a1_0 a1_1 a1_2 a1_3 a1_4 a1_5 a2_0 a2_1 a2_2).bind fun bt405 => (if bt397.2.2.2.2.2.2 = 0 then (w_BoxMoves.j0 k (bt405.2.2.2.2.2.2 != 0) a0_0 a0_1 a0_2 a0_3 a0_4 a0_5 a1_0 a1_1 a1_2 a1_3 a1_4 a1_5 a2_0 a2_1 a2_2 bt397.1 bt397.2.1 bt397.2.2.1 bt397.2.2.2.1 bt397.2.2.2.2.1 bt397.2.2.2.2.2.1 bt405.1 bt405.2.1 bt405.2.2.1 bt405.2.2.2.1 bt405.2.2.2.2.1 bt405.2.2.2.2.2.1) else (w_BoxMoves.j0 k true a0_0 a0_1 a0_2 a0_3 a0_4 a0_5 a1_0 a1_1 a1_2 a1_3 a1_4 a1_5 a2_0 a2_1 a2_2 bt397.1 bt397.2.1 bt397.2.2.1 bt397.2.2.2.1 bt397.2.2.2.2.1 bt397.2.2.2.2.2.1 bt405.1 bt405.2.1 bt405.2.2.1 bt405.2.2.2.1 bt405.2.2.2.2.1 bt405.2.2.2.2.2.1)))) else (some false))
def w_BoxMoves.T10 : Bool × List (List Nat × List Nat) := (true, [([], []), ([0], [0]), ([1], [1]), ([2], [2]), ([2], [2]), ([3, 4, 2], [2, 3, 4]), ([2, 5], [2, 5]), ([6, 2], [6]), ([7], [7]), ([8, 7], [7, 8]), ([7, 9], [7, 9]), ([10, 7], [10]), ([11], [11]), ([12, 11], [11, 12]), ([11, 13], [11, 13]), ([14, 11], [14]), ([15], [15]), ([15], [15]), ([16, 17, 15], [15, 16, 17]), ([15, 18], [15, 18]), ([19, 15], [19]), ([20], [20]), ([20], [20]), ([21, 22, 20, 20], [20, 21, 22]), ([20], [20]), ([20], [20]), ([24, 25, 23, 20], [20, 24, 25]), ([23, 26, 20], [20, 23, 26]), ([20, 27], [20, 27])])
def w_BoxMoves.B10 : List Nat := [0, 1, 3, 7, 7, 31, 63, 127, 255, 511, 1023, 2047, 4095, 8191, 16383, 32767, 65535, 65535, 262143, 524287, 1048575, 2097151, 2097151, 8388607, 2097151, 2097151, 67108863, 134217727, 268435455]
theorem w_BoxMoves.tab10 : rtab .any (opsOf Try.f4 10) = w_BoxMoves.T10 := by kernel_rfl
theorem w_BoxMoves.bits10 : waitsOk w_BoxMoves.T10.2 w_BoxMoves.B10 = true := by kernel_rfl
set_option maxHeartbeats 8000000 in
set_option maxRecDepth 100000 in
theorem w_BoxMoves.calls (k : Nat) (a0_0 : Int) (a0_1 : Int) (a0_2 : Int) (a0_3 : Int) (a0_4 : Int) (a0_5 : Int) (a1_0 : Int) (a1_1 : Int) (a1_2 : Int) (a1_3 : Int) (a1_4 : Int) (a1_5 : Int) (a2_0 : Int) (a2_1 : Int) (a2_2 : Int) (r : Bool) (w : World) (h : w_BoxMoves.f k a0_0 a0_1 a0_2 a0_3 a0_4 a0_5 a1_0 a1_1 a1_2 a1_3 a1_4 a1_5 a2_0 a2_1 a2_2 = some r) :
  Calls Try.prog 4 #[.agg #[.int .i64 a0_0, .int .i64 a0_1, .int .i64 a0_2, .int .i64 a0_3, .int .i64 a0_4, .int .i64 a0_5], .agg #[.int .i64 a1_0, .int .i64 a1_1, .int .i64 a1_2, .int .i64 a1_3, .int .i64 a1_4, .int .i64 a1_5], .agg #[.int .i64 a2_0, .int .i64 a2_1, .int .i64 a2_2]] w fun e w' => e = .returned (.bool r) ∧ Below w.heap.size w w' := by
 have hu25 := Try.underlying25
 have hu23 := Try.underlying23
 have HB := am (Below.refl w.heap.size w)
 have H : ((w_awake.f).bind fun t396 => (if t396 = true then ((box_Move.f a0_0 a0_1 a0_2 a0_3 a0_4 a0_5 a2_0 a2_1 a2_2).bind fun bt397 => ((box_Move.f a1_0 a1_1 a1_2 a1_3 a1_4 a1_5 a2_0 a2_1 a2_2).bind fun bt405 => (if bt397.2.2.2.2.2.2 = 0 then (w_BoxMoves.j0 k (bt405.2.2.2.2.2.2 != 0) a0_0 a0_1 a0_2 a0_3 a0_4 a0_5 a1_0 a1_1 a1_2 a1_3 a1_4 a1_5 a2_0 a2_1 a2_2 bt397.1 bt397.2.1 bt397.2.2.1 bt397.2.2.2.1 bt397.2.2.2.2.1 bt397.2.2.2.2.2.1 bt405.1 bt405.2.1 bt405.2.2.1 bt405.2.2.2.1 bt405.2.2.2.2.1 bt405.2.2.2.2.2.1) else (w_BoxMoves.j0 k true a0_0 a0_1 a0_2 a0_3 a0_4 a0_5 a1_0 a1_1 a1_2 a1_3 a1_4 a1_5 a2_0 a2_1 a2_2 bt397.1 bt397.2.1 bt397.2.2.1 bt397.2.2.2.1 bt397.2.2.2.2.1 bt397.2.2.2.2.2.1 bt405.1 bt405.2.1 bt405.2.2.1 bt405.2.2.2.1 bt405.2.2.2.2.1 bt405.2.2.2.2.2.1)))) else (some false))) = some r := h
 clear h
 replace H := Option.bind_eq_some_iff.mp H
 obtain ⟨t396, A40, H⟩ := H
 replace H : (if t396 = true then ((box_Move.f a0_0 a0_1 a0_2 a0_3 a0_4 a0_5 a2_0 a2_1 a2_2).bind fun bt397 => ((box_Move.f a1_0 a1_1 a1_2 a1_3 a1_4 a1_5 a2_0 a2_1 a2_2).bind fun bt405 => (if bt397.2.2.2.2.2.2 = 0 then (w_BoxMoves.j0 k (bt405.2.2.2.2.2.2 != 0) a0_0 a0_1 a0_2 a0_3 a0_4 a0_5 a1_0 a1_1 a1_2 a1_3 a1_4 a1_5 a2_0 a2_1 a2_2 bt397.1 bt397.2.1 bt397.2.2.1 bt397.2.2.2.1 bt397.2.2.2.2.1 bt397.2.2.2.2.2.1 bt405.1 bt405.2.1 bt405.2.2.1 bt405.2.2.2.1 bt405.2.2.2.2.1 bt405.2.2.2.2.2.1) else (w_BoxMoves.j0 k true a0_0 a0_1 a0_2 a0_3 a0_4 a0_5 a1_0 a1_1 a1_2 a1_3 a1_4 a1_5 a2_0 a2_1 a2_2 bt397.1 bt397.2.1 bt397.2.2.1 bt397.2.2.2.1 bt397.2.2.2.2.1 bt397.2.2.2.2.2.1 bt405.1 bt405.2.1 bt405.2.2.1 bt405.2.2.2.1 bt405.2.2.2.2.1 bt405.2.2.2.2.2.1)))) else (some false)) = some r := H
 have A4 := am A40
 clear A40
 by_cases c5 : t396 = true
 ·subst c5
  have H1 : ((box_Move.f a0_0 a0_1 a0_2 a0_3 a0_4 a0_5 a2_0 a2_1 a2_2).bind fun bt397 => ((box_Move.f a1_0 a1_1 a1_2 a1_3 a1_4 a1_5 a2_0 a2_1 a2_2).bind fun bt405 => (if bt397.2.2.2.2.2.2 = 0 then (w_BoxMoves.j0 k (bt405.2.2.2.2.2.2 != 0) a0_0 a0_1 a0_2 a0_3 a0_4 a0_5 a1_0 a1_1 a1_2 a1_3 a1_4 a1_5 a2_0 a2_1 a2_2 bt397.1 bt397.2.1 bt397.2.2.1 bt397.2.2.2.1 bt397.2.2.2.2.1 bt397.2.2.2.2.2.1 bt405.1 bt405.2.1 bt405.2.2.1 bt405.2.2.2.1 bt405.2.2.2.2.1 bt405.2.2.2.2.2.1) else (w_BoxMoves.j0 k true a0_0 a0_1 a0_2 a0_3 a0_4 a0_5 a1_0 a1_1 a1_2 a1_3 a1_4 a1_5 a2_0 a2_1 a2_2 bt397.1 bt397.2.1 bt397.2.2.1 bt397.2.2.2.1 bt397.2.2.2.2.1 bt397.2.2.2.2.2.1 bt405.1 bt405.2.1 bt405.2.2.1 bt405.2.2.2.1 bt405.2.2.2.2.1 bt405.2.2.2.2.2.1)))) = some r := by rw [if_pos rfl] at H; exact H
  clear H
  have H := H1
  clear H1
  replace H := Option.bind_eq_some_iff.mp H
  obtain ⟨⟨t397, t398, t399, t400, t401, t402, t403⟩, A60, H⟩ := H
  replace H : ((box_Move.f a1_0 a1_1 a1_2 a1_3 a1_4 a1_5 a2_0 a2_1 a2_2).bind fun bt405 => (if t403 = 0 then (w_BoxMoves.j0 k (bt405.2.2.2.2.2.2 != 0) a0_0 a0_1 a0_2 a0_3 a0_4 a0_5 a1_0 a1_1 a1_2 a1_3 a1_4 a1_5 a2_0 a2_1 a2_2 t397 t398 t399 t400 t401 t402 bt405.1 bt405.2.1 bt405.2.2.1 bt405.2.2.2.1 bt405.2.2.2.2.1 bt405.2.2.2.2.2.1) else (w_BoxMoves.j0 k true a0_0 a0_1 a0_2 a0_3 a0_4 a0_5 a1_0 a1_1 a1_2 a1_3 a1_4 a1_5 a2_0 a2_1 a2_2 t397 t398 t399 t400 t401 t402 bt405.1 bt405.2.1 bt405.2.2.1 bt405.2.2.2.1 bt405.2.2.2.2.1 bt405.2.2.2.2.2.1))) = some r := H
  have A6 := am A60
  clear A60
  replace H := Option.bind_eq_some_iff.mp H
  obtain ⟨⟨t405, t406, t407, t408, t409, t410, t411⟩, A70, H⟩ := H
  replace H : (if t403 = 0 then (w_BoxMoves.j0 k (t411 != 0) a0_0 a0_1 a0_2 a0_3 a0_4 a0_5 a1_0 a1_1 a1_2 a1_3 a1_4 a1_5 a2_0 a2_1 a2_2 t397 t398 t399 t400 t401 t402 t405 t406 t407 t408 t409 t410) else (w_BoxMoves.j0 k true a0_0 a0_1 a0_2 a0_3 a0_4 a0_5 a1_0 a1_1 a1_2 a1_3 a1_4 a1_5 a2_0 a2_1 a2_2 t397 t398 t399 t400 t401 t402 t405 t406 t407 t408 t409 t410)) = some r := H
  have A7 := am A70
  clear A70
  have HC8 := am H
  clear H
  go_enter Try.func4, Try.ntmps4
  go_upto_region 5 with (first | ((with_reducible refine gate_dst (N := 3) rfl ?_); refine be ?hg (N := 3) ?hd (cs := #[.int .i64 a0_0, .int .i64 a0_1, .int .i64 a0_2, .int .i64 a0_3, .int .i64 a0_4, .int .i64 a0_5]) (t := 25) ?hr ?_; (case hd | hg => rfl); (case hr => first | (go_simp; done) | (go_simp; rfl)); intro gb393 hg w9 hbox hb; have BK393 := am hbox; have GW393 := sG HB hg; have GE393 := sG HB hg; replace HB := bS HB hb; clear hb hbox hg) | ((with_reducible refine gate_dst (N := 4) rfl ?_); refine be ?hg (N := 4) ?hd (cs := #[.int .i64 a1_0, .int .i64 a1_1, .int .i64 a1_2, .int .i64 a1_3, .int .i64 a1_4, .int .i64 a1_5]) (t := 25) ?hr ?_; (case hd | hg => rfl); (case hr => first | (go_simp; done) | (go_simp; rfl)); intro gb394 hg w10 hbox hb; have BK394 := am hbox; have GW394 := sG HB hg; have GE394 := sG HB hg; replace HB := bS HB hb; have NB393_394 := nL BK393 hg; have NB394_393 := nG BK393 hg; replace BK393 := bB BK393 hb; clear hb hbox hg) | ((with_reducible refine gate_dst (N := 5) rfl ?_); refine be ?hg (N := 5) ?hd (cs := #[.int .i64 a2_0, .int .i64 a2_1, .int .i64 a2_2]) (t := 23) ?hr ?_; (case hd | hg => rfl); (case hr => first | (go_simp; done) | (go_simp; rfl)); intro gb395 hg w11 hbox hb; have BK395 := am hbox; have GW395 := sG HB hg; have GE395 := sG HB hg; replace HB := bS HB hb; have NB393_395 := nL BK393 hg; have NB395_393 := nG BK393 hg; replace BK393 := bB BK393 hb; have NB394_395 := nL BK394 hg; have NB395_394 := nG BK394 hg; replace BK394 := bB BK394 hb; clear hb hbox hg) | ((with_reducible refine gc (f := 11) rfl ?_); refine goesL_ (some 23) rfl rfl Try.func11 (by kernel_rfl) rfl #[] rfl (by (try simp only [pml]); first | done | rfl | (simp only [pdt]; rfl)) ?_; (with_reducible refine (w_awake.calls  true _ A4.out).mono ?_); rintro e w12 ⟨rfl, hb⟩; refine ⟨_, rfl, ?_⟩; replace BK393 := bB BK393 hb; replace BK394 := bB BK394 hb; replace BK395 := bB BK395 hb; replace HB := bS HB hb; (try clear hb); (try clear hb2); (try clear hk); (try clear hi); have hnb13 := NB393_394.out; have hnc13 := NB394_393.out; have hnb14 := NB393_395.out; have hnc14 := NB395_393.out; obtain ⟨_, _, _, _, _, _, _, _, _, _, _, _⟩ := zC6 BK393; have hnb16 := NB395_394.out; have hnc16 := NB394_395.out; obtain ⟨_, _, _, _, _, _⟩ := zC3 BK395) | ((with_reducible refine gc (f := 15) rfl ?_); refine goesL_ (some 28) rfl rfl Try.func15 (by kernel_rfl) rfl #[.agg #[.int .i64 a0_0, .int .i64 a0_1, .int .i64 a0_2, .int .i64 a0_3, .int .i64 a0_4, .int .i64 a0_5], .agg #[.int .i64 a2_0, .int .i64 a2_1, .int .i64 a2_2]] rfl (by (try simp only [pml]); first | done | rfl | (simp only [pdt]; rfl)) ?_; (with_reducible refine (box_Move.calls a0_0 a0_1 a0_2 a0_3 a0_4 a0_5 a2_0 a2_1 a2_2 t397 t398 t399 t400 t401 t402 t403 _ A6.out).mono ?_); rintro e w18 ⟨rfl, hb⟩; refine ⟨_, rfl, ?_⟩; replace BK393 := bB BK393 hb; replace BK394 := bB BK394 hb; replace BK395 := bB BK395 hb; replace HB := bS HB hb; (try clear hb); (try clear hb2); (try clear hk); (try clear hi)) | ((with_reducible refine gate_dst (N := 7) rfl ?_); refine be ?hg (N := 7) ?hd (cs := #[.int .i64 0, .int .i64 0, .int .i64 0, .int .i64 0, .int .i64 0, .int .i64 0]) (t := 25) ?hr ?_; (case hd | hg => rfl); (case hr => first | (go_simp; done) | (go_simp; rfl)); intro gb404 hg w19 hbox hb; have BK404 := am hbox; have GW404 := sG HB hg; have GE404 := sG HB hg; replace HB := bS HB hb; have NB393_404 := nL BK393 hg; have NB404_393 := nG BK393 hg; replace BK393 := bB BK393 hb; have NB394_404 := nL BK394 hg; have NB404_394 := nG BK394 hg; replace BK394 := bB BK394 hb; have NB395_404 := nL BK395 hg; have NB404_395 := nG BK395 hg; replace BK395 := bB BK395 hb; clear hb hbox hg; have hnb20 := NB404_393.out; have hnc20 := NB393_404.out; have hnb21 := NB404_394.out; have hnc21 := NB394_404.out; have hnb22 := NB404_395.out; have hnc22 := NB395_404.out; obtain ⟨_, _, _, _, _, _, _, _, _, _, _, _⟩ := zC6 BK404; obtain ⟨_, _, _, _, _, _, _, _, _, _, _, _⟩ := zC6 BK394; obtain ⟨_, _, _, _, _, _⟩ := zC3 BK395) | ((with_reducible refine gc (f := 15) rfl ?_); refine goesL_ (some 34) rfl rfl Try.func15 (by kernel_rfl) rfl #[.agg #[.int .i64 a1_0, .int .i64 a1_1, .int .i64 a1_2, .int .i64 a1_3, .int .i64 a1_4, .int .i64 a1_5], .agg #[.int .i64 a2_0, .int .i64 a2_1, .int .i64 a2_2]] rfl (by (try simp only [pml]); first | done | rfl | (simp only [pdt]; rfl)) ?_; (with_reducible refine (box_Move.calls a1_0 a1_1 a1_2 a1_3 a1_4 a1_5 a2_0 a2_1 a2_2 t405 t406 t407 t408 t409 t410 t411 _ A7.out).mono ?_); rintro e w26 ⟨rfl, hb⟩; refine ⟨_, rfl, ?_⟩; replace BK393 := xC1 (kfC BK393.out) hb; replace BK394 := xC1 (kfC BK394.out) hb; replace BK395 := xC1 (kfC BK395.out) hb; replace BK404 := xC1 (o := .cells #[.int .i64 t397, .int .i64 t398, .int .i64 t399, .int .i64 t400, .int .i64 t401, .int .i64 t402] 25 (0, 0)) (kkC BK404.out) hb; replace HB := bS HB hb; (try clear hb); (try clear hb2); (try clear hk); (try clear hi)) | ((with_reducible refine gate_dst (N := 9) rfl ?_); refine be ?hg (N := 9) ?hd (cs := #[.int .i64 0, .int .i64 0, .int .i64 0, .int .i64 0, .int .i64 0, .int .i64 0]) (t := 25) ?hr ?_; (case hd | hg => rfl); (case hr => first | (go_simp; done) | (go_simp; rfl)); intro gb412 hg w27 hbox hb; have BK412 := am hbox; have GW412 := sG HB hg; have GE412 := sG HB hg; replace HB := bS HB hb; have NB393_412 := nL BK393 hg; have NB412_393 := nG BK393 hg; replace BK393 := bB BK393 hb; have NB394_412 := nL BK394 hg; have NB412_394 := nG BK394 hg; replace BK394 := bB BK394 hb; have NB395_412 := nL BK395 hg; have NB412_395 := nG BK395 hg; replace BK395 := bB BK395 hb; have NB404_412 := nL BK404 hg; have NB412_404 := nG BK404 hg; replace BK404 := bB BK404 hb; clear hb hbox hg; have hnb28 := NB412_393.out; have hnc28 := NB393_412.out; have hnb29 := NB412_394.out; have hnc29 := NB394_412.out; have hnb30 := NB412_395.out; have hnc30 := NB395_412.out; have hnb31 := NB412_404.out; have hnc31 := NB404_412.out; obtain ⟨_, _, _, _, _, _, _, _, _, _, _, _⟩ := zC6 BK412))
  (try simp only [Act.put, psl])
  go_cut [42] (fun v42 wc => ∃ (kq : Nat) (x42_7 : Bool), v42 = .bool x42_7 ∧ Aside0 (w_BoxMoves.j0 kq x42_7 a0_0 a0_1 a0_2 a0_3 a0_4 a0_5 a1_0 a1_1 a1_2 a1_3 a1_4 a1_5 a2_0 a2_1 a2_2 t397 t398 t399 t400 t401 t402 t405 t406 t407 t408 t409 t410 = some r) ∧ Aside0 (kq ≤ k) ∧ Aside0 (wc.heap[gb393]? = some (.cells #[.int .i64 a0_0, .int .i64 a0_1, .int .i64 a0_2, .int .i64 a0_3, .int .i64 a0_4, .int .i64 a0_5] 25 (0, 0))) ∧ Aside0 (wc.heap[gb394]? = some (.cells #[.int .i64 a1_0, .int .i64 a1_1, .int .i64 a1_2, .int .i64 a1_3, .int .i64 a1_4, .int .i64 a1_5] 25 (0, 0))) ∧ Aside0 (wc.heap[gb395]? = some (.cells #[.int .i64 a2_0, .int .i64 a2_1, .int .i64 a2_2] 23 (0, 0))) ∧ Aside0 (wc.heap[gb404]? = some (.cells #[.int .i64 t397, .int .i64 t398, .int .i64 t399, .int .i64 t400, .int .i64 t401, .int .i64 t402] 25 (0, 0))) ∧ Aside0 (wc.heap[gb412]? = some (.cells #[.int .i64 t405, .int .i64 t406, .int .i64 t407, .int .i64 t408, .int .i64 t409, .int .i64 t410] 25 (0, 0))) ∧ Aside0 (Below w.heap.size w wc))
  case first =>
   have H := HC8.out
   clear HC8
   by_cases c33 : t403 = 0
   ·rw [if_pos c33] at H
    have c33b0 : (t403 == 0) = true := beq_iff_eq.mpr c33
    have c33b1 : (t403 != 0) = false := bne_eq_false_iff_eq.mpr c33
    clear c33
    (first | rw [c33b0] | (simp only [i64_w, i32_w]; rw [c33b0]) | skip)
    have H' := am H
    clear H
    go_wp2
    go_meet
    case rel => exact ⟨_, ((t411 != 0)), (by first | rfl | (simp; done) | (simp [*]; done)), H', ⟨by first | omega | exact Nat.le_refl _⟩, ⟨by (with_reducible repeat first | apply bN | apply bd | apply ba); refine bF ?_ NB393_412.out _; (with_reducible repeat first | apply bN | apply bd | apply ba); refine bF ?_ NB393_412.out _; (with_reducible repeat first | apply bN | apply bd | apply ba); refine bF ?_ NB393_412.out _; (with_reducible repeat first | apply bN | apply bd | apply ba); refine bF ?_ NB393_412.out _; (with_reducible repeat first | apply bN | apply bd | apply ba); refine bF ?_ NB393_412.out _; (with_reducible repeat first | apply bN | apply bd | apply ba); refine bF ?_ NB393_412.out _; (with_reducible repeat first | apply bN | apply bd | apply ba); exact BK393.out⟩, ⟨by (with_reducible repeat first | apply bN | apply bd | apply ba); refine bF ?_ NB394_412.out _; (with_reducible repeat first | apply bN | apply bd | apply ba); refine bF ?_ NB394_412.out _; (with_reducible repeat first | apply bN | apply bd | apply ba); refine bF ?_ NB394_412.out _; (with_reducible repeat first | apply bN | apply bd | apply ba); refine bF ?_ NB394_412.out _; (with_reducible repeat first | apply bN | apply bd | apply ba); refine bF ?_ NB394_412.out _; (with_reducible repeat first | apply bN | apply bd | apply ba); refine bF ?_ NB394_412.out _; (with_reducible repeat first | apply bN | apply bd | apply ba); exact BK394.out⟩, ⟨by (with_reducible repeat first | apply bN | apply bd | apply ba); refine bF ?_ NB395_412.out _; (with_reducible repeat first | apply bN | apply bd | apply ba); refine bF ?_ NB395_412.out _; (with_reducible repeat first | apply bN | apply bd | apply ba); refine bF ?_ NB395_412.out _; (with_reducible repeat first | apply bN | apply bd | apply ba); refine bF ?_ NB395_412.out _; (with_reducible repeat first | apply bN | apply bd | apply ba); refine bF ?_ NB395_412.out _; (with_reducible repeat first | apply bN | apply bd | apply ba); refine bF ?_ NB395_412.out _; (with_reducible repeat first | apply bN | apply bd | apply ba); exact BK395.out⟩, ⟨by (with_reducible repeat first | apply bN | apply bd | apply ba); refine bF ?_ NB404_412.out _; (with_reducible repeat first | apply bN | apply bd | apply ba); refine bF ?_ NB404_412.out _; (with_reducible repeat first | apply bN | apply bd | apply ba); refine bF ?_ NB404_412.out _; (with_reducible repeat first | apply bN | apply bd | apply ba); refine bF ?_ NB404_412.out _; (with_reducible repeat first | apply bN | apply bd | apply ba); refine bF ?_ NB404_412.out _; (with_reducible repeat first | apply bN | apply bd | apply ba); refine bF ?_ NB404_412.out _; (with_reducible repeat first | apply bN | apply bd | apply ba); exact BK404.out⟩, ⟨by (with_reducible repeat first | apply bN | apply bd | apply ba); refine blk_put (cs := #[.int .i64 t405, .int .i64 t406, .int .i64 t407, .int .i64 t408, .int .i64 t409, .int .i64 0]) ?_ 5 _ rfl; (with_reducible repeat first | apply bN | apply bd | apply ba); refine blk_put (cs := #[.int .i64 t405, .int .i64 t406, .int .i64 t407, .int .i64 t408, .int .i64 0, .int .i64 0]) ?_ 4 _ rfl; (with_reducible repeat first | apply bN | apply bd | apply ba); refine blk_put (cs := #[.int .i64 t405, .int .i64 t406, .int .i64 t407, .int .i64 0, .int .i64 0, .int .i64 0]) ?_ 3 _ rfl; (with_reducible repeat first | apply bN | apply bd | apply ba); refine blk_put (cs := #[.int .i64 t405, .int .i64 t406, .int .i64 0, .int .i64 0, .int .i64 0, .int .i64 0]) ?_ 2 _ rfl; (with_reducible repeat first | apply bN | apply bd | apply ba); refine blk_put (cs := #[.int .i64 t405, .int .i64 0, .int .i64 0, .int .i64 0, .int .i64 0, .int .i64 0]) ?_ 1 _ rfl; (with_reducible repeat first | apply bN | apply bd | apply ba); refine blk_put (cs := #[.int .i64 0, .int .i64 0, .int .i64 0, .int .i64 0, .int .i64 0, .int .i64 0]) ?_ 0 _ rfl; (with_reducible repeat first | apply bN | apply bd | apply ba); exact BK412.out⟩, ⟨by repeat (first | (with_reducible first | exact HB.out | apply wa | apply wN | apply wd | refine ws ?_ GE393.out | refine ws ?_ GE394.out | refine ws ?_ GE395.out | refine ws ?_ GE404.out | refine ws ?_ GE412.out) | exact HB.out)⟩⟩
   rw [if_neg c33] at H
   have c33b0 : (t403 == 0) = false := beq_eq_false_iff_ne.mpr c33
   have c33b1 : (t403 != 0) = true := bne_iff_ne.mpr c33
   (first | rw [c33b0] | (simp only [i64_w, i32_w]; rw [c33b0]) | skip)
   have H' := am H
   clear H
   go_wp2
   go_meet
   case rel => exact ⟨_, (true), (by first | rfl | (simp; done) | (simp [*]; done)), H', ⟨by first | omega | exact Nat.le_refl _⟩, ⟨by (with_reducible repeat first | apply bN | apply bd | apply ba); refine bF ?_ NB393_412.out _; (with_reducible repeat first | apply bN | apply bd | apply ba); refine bF ?_ NB393_412.out _; (with_reducible repeat first | apply bN | apply bd | apply ba); refine bF ?_ NB393_412.out _; (with_reducible repeat first | apply bN | apply bd | apply ba); refine bF ?_ NB393_412.out _; (with_reducible repeat first | apply bN | apply bd | apply ba); refine bF ?_ NB393_412.out _; (with_reducible repeat first | apply bN | apply bd | apply ba); refine bF ?_ NB393_412.out _; (with_reducible repeat first | apply bN | apply bd | apply ba); exact BK393.out⟩, ⟨by (with_reducible repeat first | apply bN | apply bd | apply ba); refine bF ?_ NB394_412.out _; (with_reducible repeat first | apply bN | apply bd | apply ba); refine bF ?_ NB394_412.out _; (with_reducible repeat first | apply bN | apply bd | apply ba); refine bF ?_ NB394_412.out _; (with_reducible repeat first | apply bN | apply bd | apply ba); refine bF ?_ NB394_412.out _; (with_reducible repeat first | apply bN | apply bd | apply ba); refine bF ?_ NB394_412.out _; (with_reducible repeat first | apply bN | apply bd | apply ba); refine bF ?_ NB394_412.out _; (with_reducible repeat first | apply bN | apply bd | apply ba); exact BK394.out⟩, ⟨by (with_reducible repeat first | apply bN | apply bd | apply ba); refine bF ?_ NB395_412.out _; (with_reducible repeat first | apply bN | apply bd | apply ba); refine bF ?_ NB395_412.out _; (with_reducible repeat first | apply bN | apply bd | apply ba); refine bF ?_ NB395_412.out _; (with_reducible repeat first | apply bN | apply bd | apply ba); refine bF ?_ NB395_412.out _; (with_reducible repeat first | apply bN | apply bd | apply ba); refine bF ?_ NB395_412.out _; (with_reducible repeat first | apply bN | apply bd | apply ba); refine bF ?_ NB395_412.out _; (with_reducible repeat first | apply bN | apply bd | apply ba); exact BK395.out⟩, ⟨by (with_reducible repeat first | apply bN | apply bd | apply ba); refine bF ?_ NB404_412.out _; (with_reducible repeat first | apply bN | apply bd | apply ba); refine bF ?_ NB404_412.out _; (with_reducible repeat first | apply bN | apply bd | apply ba); refine bF ?_ NB404_412.out _; (with_reducible repeat first | apply bN | apply bd | apply ba); refine bF ?_ NB404_412.out _; (with_reducible repeat first | apply bN | apply bd | apply ba); refine bF ?_ NB404_412.out _; (with_reducible repeat first | apply bN | apply bd | apply ba); refine bF ?_ NB404_412.out _; (with_reducible repeat first | apply bN | apply bd | apply ba); exact BK404.out⟩, ⟨by (with_reducible repeat first | apply bN | apply bd | apply ba); refine blk_put (cs := #[.int .i64 t405, .int .i64 t406, .int .i64 t407, .int .i64 t408, .int .i64 t409, .int .i64 0]) ?_ 5 _ rfl; (with_reducible repeat first | apply bN | apply bd | apply ba); refine blk_put (cs := #[.int .i64 t405, .int .i64 t406, .int .i64 t407, .int .i64 t408, .int .i64 0, .int .i64 0]) ?_ 4 _ rfl; (with_reducible repeat first | apply bN | apply bd | apply ba); refine blk_put (cs := #[.int .i64 t405, .int .i64 t406, .int .i64 t407, .int .i64 0, .int .i64 0, .int .i64 0]) ?_ 3 _ rfl; (with_reducible repeat first | apply bN | apply bd | apply ba); refine blk_put (cs := #[.int .i64 t405, .int .i64 t406, .int .i64 0, .int .i64 0, .int .i64 0, .int .i64 0]) ?_ 2 _ rfl; (with_reducible repeat first | apply bN | apply bd | apply ba); refine blk_put (cs := #[.int .i64 t405, .int .i64 0, .int .i64 0, .int .i64 0, .int .i64 0, .int .i64 0]) ?_ 1 _ rfl; (with_reducible repeat first | apply bN | apply bd | apply ba); refine blk_put (cs := #[.int .i64 0, .int .i64 0, .int .i64 0, .int .i64 0, .int .i64 0, .int .i64 0]) ?_ 0 _ rfl; (with_reducible repeat first | apply bN | apply bd | apply ba); exact BK412.out⟩, ⟨by repeat (first | (with_reducible first | exact HB.out | apply wa | apply wN | apply wd | refine ws ?_ GE393.out | refine ws ?_ GE394.out | refine ws ?_ GE395.out | refine ws ?_ GE404.out | refine ws ?_ GE412.out) | exact HB.out)⟩⟩
  case rest =>
   clear HC8
   try clear c1;try clear c2;try clear p2;try clear c3;try clear c4;try clear c5;try clear c11;try clear c13;try clear c14;try clear c15;try clear c16;try clear c20;try clear c21;try clear c22;try clear c28;try clear c29;try clear c30;try clear c31;try clear c33;try clear c33b0;try clear c33b1;try clear hcz15_0;try clear hcz15_1;try clear hcz15_2;try clear hcz15_3;try clear hcz15_4;try clear hcz15_5;try clear hcz17_0;try clear hcz17_1;try clear hcz17_2;try clear hcz23_0;try clear hcz23_1;try clear hcz23_2;try clear hcz23_3;try clear hcz23_4;try clear hcz23_5;try clear hcz24_0;try clear hcz24_1;try clear hcz24_2;try clear hcz24_3;try clear hcz24_4;try clear hcz24_5;try clear hcz25_0;try clear hcz25_1;try clear hcz25_2;try clear hcz32_0;try clear hcz32_1;try clear hcz32_2;try clear hcz32_3;try clear hcz32_4;try clear hcz32_5;try clear hfz15_0;try clear hfz15_1;try clear hfz15_2;try clear hfz15_3;try clear hfz15_4;try clear hfz15_5;try clear hfz17_0;try clear hfz17_1;try clear hfz17_2;try clear hfz23_0;try clear hfz23_1;try clear hfz23_2;try clear hfz23_3;try clear hfz23_4;try clear hfz23_5;try clear hfz24_0;try clear hfz24_1;try clear hfz24_2;try clear hfz24_3;try clear hfz24_4;try clear hfz24_5;try clear hfz25_0;try clear hfz25_1;try clear hfz25_2;try clear hfz32_0;try clear hfz32_1;try clear hfz32_2;try clear hfz32_3;try clear hfz32_4;try clear hfz32_5
   obtain ⟨kq, x42_7, rfl, HA, HJ7, BK393, BK394, BK395, BK404, BK412, HB⟩ := hcut
   cases kq with
   | zero => exact absurd HA.out (by simp [w_BoxMoves.j0])
   | succ kj7 =>
    have H := HA.out
    clear HA
    simp only [w_BoxMoves.j0] at H
    by_cases c34 : x42_7 = true
    ·subst c34
     have H1 : (some true) = some r := by rw [if_pos rfl] at H; exact H
     clear H
     have H := H1
     clear H1
     obtain rfl := Option.some.inj H
     go_wp2
     go_ret
     exact ⟨by first | rfl | (simp [errW_none, errW_some] <;> rfl) | (simp [*, errW_none, errW_some] <;> rfl), by repeat (first | (with_reducible first | exact HB.out | apply wa | apply wN | apply wd | refine ws ?_ GE393.out | refine ws ?_ GE394.out | refine ws ?_ GE395.out | refine ws ?_ GE404.out | refine ws ?_ GE412.out) | exact HB.out)⟩
    replace c34 := Bool.eq_false_iff.mpr c34
    subst c34
    have H1 : ((box_Move.f t397 t398 t399 t400 t401 t402 (wrap64 (-a2_0)) (wrap64 (-a2_1)) (wrap64 (-a2_2))).bind fun bt413 => ((box_Volume.f a0_0 a0_1 a0_2 a0_3 a0_4 a0_5).bind fun bt421 => ((box_Volume.f t397 t398 t399 t400 t401 t402).bind fun bt423 => (if bt413.2.2.2.2.2.2 = 0 then (if ((!(bt413.1 == a0_0) || (!(bt413.2.1 == a0_1) || (!(bt413.2.2.1 == a0_2)))) || ((!(bt413.2.2.2.1 == a0_3) || (!(bt413.2.2.2.2.1 == a0_4) || (!(bt413.2.2.2.2.2.1 == a0_5)))))) = true then (w_BoxMoves.j1 kj7 true a0_0 a0_1 a0_2 a0_3 a0_4 a0_5 a1_0 a1_1 a1_2 a1_3 a1_4 a1_5 t397 t398 t399 t400 t401 t402 t405 t406 t407 t408 t409 t410) else (if bt421.2 = 0 then (if bt423.2 = 0 then (if bt421.1 = bt423.1 then ((box_Overlap.f a0_0 a0_1 a0_2 a0_3 a0_4 a0_5 a1_0 a1_1 a1_2 a1_3 a1_4 a1_5).bind fun t425 => ((box_Overlap.f t397 t398 t399 t400 t401 t402 t405 t406 t407 t408 t409 t410).bind fun t426 => (w_BoxMoves.j1 kj7 (t425 != t426) a0_0 a0_1 a0_2 a0_3 a0_4 a0_5 a1_0 a1_1 a1_2 a1_3 a1_4 a1_5 t397 t398 t399 t400 t401 t402 t405 t406 t407 t408 t409 t410))) else (w_BoxMoves.j1 kj7 true a0_0 a0_1 a0_2 a0_3 a0_4 a0_5 a1_0 a1_1 a1_2 a1_3 a1_4 a1_5 t397 t398 t399 t400 t401 t402 t405 t406 t407 t408 t409 t410)) else (w_BoxMoves.j1 kj7 true a0_0 a0_1 a0_2 a0_3 a0_4 a0_5 a1_0 a1_1 a1_2 a1_3 a1_4 a1_5 t397 t398 t399 t400 t401 t402 t405 t406 t407 t408 t409 t410)) else (w_BoxMoves.j1 kj7 true a0_0 a0_1 a0_2 a0_3 a0_4 a0_5 a1_0 a1_1 a1_2 a1_3 a1_4 a1_5 t397 t398 t399 t400 t401 t402 t405 t406 t407 t408 t409 t410))) else (w_BoxMoves.j1 kj7 true a0_0 a0_1 a0_2 a0_3 a0_4 a0_5 a1_0 a1_1 a1_2 a1_3 a1_4 a1_5 t397 t398 t399 t400 t401 t402 t405 t406 t407 t408 t409 t410))))) = some r := by rw [if_neg (show ¬ (false = true) by decide)] at H; exact H
    clear H
    have H := H1
    clear H1
    replace H := Option.bind_eq_some_iff.mp H
    obtain ⟨⟨t413, t414, t415, t416, t417, t418, t419⟩, A350, H⟩ := H
    replace H : ((box_Volume.f a0_0 a0_1 a0_2 a0_3 a0_4 a0_5).bind fun bt421 => ((box_Volume.f t397 t398 t399 t400 t401 t402).bind fun bt423 => (if t419 = 0 then (if ((!(t413 == a0_0) || (!(t414 == a0_1) || (!(t415 == a0_2)))) || ((!(t416 == a0_3) || (!(t417 == a0_4) || (!(t418 == a0_5)))))) = true then (w_BoxMoves.j1 kj7 true a0_0 a0_1 a0_2 a0_3 a0_4 a0_5 a1_0 a1_1 a1_2 a1_3 a1_4 a1_5 t397 t398 t399 t400 t401 t402 t405 t406 t407 t408 t409 t410) else (if bt421.2 = 0 then (if bt423.2 = 0 then (if bt421.1 = bt423.1 then ((box_Overlap.f a0_0 a0_1 a0_2 a0_3 a0_4 a0_5 a1_0 a1_1 a1_2 a1_3 a1_4 a1_5).bind fun t425 => ((box_Overlap.f t397 t398 t399 t400 t401 t402 t405 t406 t407 t408 t409 t410).bind fun t426 => (w_BoxMoves.j1 kj7 (t425 != t426) a0_0 a0_1 a0_2 a0_3 a0_4 a0_5 a1_0 a1_1 a1_2 a1_3 a1_4 a1_5 t397 t398 t399 t400 t401 t402 t405 t406 t407 t408 t409 t410))) else (w_BoxMoves.j1 kj7 true a0_0 a0_1 a0_2 a0_3 a0_4 a0_5 a1_0 a1_1 a1_2 a1_3 a1_4 a1_5 t397 t398 t399 t400 t401 t402 t405 t406 t407 t408 t409 t410)) else (w_BoxMoves.j1 kj7 true a0_0 a0_1 a0_2 a0_3 a0_4 a0_5 a1_0 a1_1 a1_2 a1_3 a1_4 a1_5 t397 t398 t399 t400 t401 t402 t405 t406 t407 t408 t409 t410)) else (w_BoxMoves.j1 kj7 true a0_0 a0_1 a0_2 a0_3 a0_4 a0_5 a1_0 a1_1 a1_2 a1_3 a1_4 a1_5 t397 t398 t399 t400 t401 t402 t405 t406 t407 t408 t409 t410))) else (w_BoxMoves.j1 kj7 true a0_0 a0_1 a0_2 a0_3 a0_4 a0_5 a1_0 a1_1 a1_2 a1_3 a1_4 a1_5 t397 t398 t399 t400 t401 t402 t405 t406 t407 t408 t409 t410)))) = some r := H
    have A35 := am A350
    clear A350
    replace H := Option.bind_eq_some_iff.mp H
    obtain ⟨⟨t421, t422⟩, A360, H⟩ := H
    replace H : ((box_Volume.f t397 t398 t399 t400 t401 t402).bind fun bt423 => (if t419 = 0 then (if ((!(t413 == a0_0) || (!(t414 == a0_1) || (!(t415 == a0_2)))) || ((!(t416 == a0_3) || (!(t417 == a0_4) || (!(t418 == a0_5)))))) = true then (w_BoxMoves.j1 kj7 true a0_0 a0_1 a0_2 a0_3 a0_4 a0_5 a1_0 a1_1 a1_2 a1_3 a1_4 a1_5 t397 t398 t399 t400 t401 t402 t405 t406 t407 t408 t409 t410) else (if t422 = 0 then (if bt423.2 = 0 then (if t421 = bt423.1 then ((box_Overlap.f a0_0 a0_1 a0_2 a0_3 a0_4 a0_5 a1_0 a1_1 a1_2 a1_3 a1_4 a1_5).bind fun t425 => ((box_Overlap.f t397 t398 t399 t400 t401 t402 t405 t406 t407 t408 t409 t410).bind fun t426 => (w_BoxMoves.j1 kj7 (t425 != t426) a0_0 a0_1 a0_2 a0_3 a0_4 a0_5 a1_0 a1_1 a1_2 a1_3 a1_4 a1_5 t397 t398 t399 t400 t401 t402 t405 t406 t407 t408 t409 t410))) else (w_BoxMoves.j1 kj7 true a0_0 a0_1 a0_2 a0_3 a0_4 a0_5 a1_0 a1_1 a1_2 a1_3 a1_4 a1_5 t397 t398 t399 t400 t401 t402 t405 t406 t407 t408 t409 t410)) else (w_BoxMoves.j1 kj7 true a0_0 a0_1 a0_2 a0_3 a0_4 a0_5 a1_0 a1_1 a1_2 a1_3 a1_4 a1_5 t397 t398 t399 t400 t401 t402 t405 t406 t407 t408 t409 t410)) else (w_BoxMoves.j1 kj7 true a0_0 a0_1 a0_2 a0_3 a0_4 a0_5 a1_0 a1_1 a1_2 a1_3 a1_4 a1_5 t397 t398 t399 t400 t401 t402 t405 t406 t407 t408 t409 t410))) else (w_BoxMoves.j1 kj7 true a0_0 a0_1 a0_2 a0_3 a0_4 a0_5 a1_0 a1_1 a1_2 a1_3 a1_4 a1_5 t397 t398 t399 t400 t401 t402 t405 t406 t407 t408 t409 t410))) = some r := H
    have A36 := am A360
    clear A360
    replace H := Option.bind_eq_some_iff.mp H
    obtain ⟨⟨t423, t424⟩, A370, H⟩ := H
    replace H : (if t419 = 0 then (if ((!(t413 == a0_0) || (!(t414 == a0_1) || (!(t415 == a0_2)))) || ((!(t416 == a0_3) || (!(t417 == a0_4) || (!(t418 == a0_5)))))) = true then (w_BoxMoves.j1 kj7 true a0_0 a0_1 a0_2 a0_3 a0_4 a0_5 a1_0 a1_1 a1_2 a1_3 a1_4 a1_5 t397 t398 t399 t400 t401 t402 t405 t406 t407 t408 t409 t410) else (if t422 = 0 then (if t424 = 0 then (if t421 = t423 then ((box_Overlap.f a0_0 a0_1 a0_2 a0_3 a0_4 a0_5 a1_0 a1_1 a1_2 a1_3 a1_4 a1_5).bind fun t425 => ((box_Overlap.f t397 t398 t399 t400 t401 t402 t405 t406 t407 t408 t409 t410).bind fun t426 => (w_BoxMoves.j1 kj7 (t425 != t426) a0_0 a0_1 a0_2 a0_3 a0_4 a0_5 a1_0 a1_1 a1_2 a1_3 a1_4 a1_5 t397 t398 t399 t400 t401 t402 t405 t406 t407 t408 t409 t410))) else (w_BoxMoves.j1 kj7 true a0_0 a0_1 a0_2 a0_3 a0_4 a0_5 a1_0 a1_1 a1_2 a1_3 a1_4 a1_5 t397 t398 t399 t400 t401 t402 t405 t406 t407 t408 t409 t410)) else (w_BoxMoves.j1 kj7 true a0_0 a0_1 a0_2 a0_3 a0_4 a0_5 a1_0 a1_1 a1_2 a1_3 a1_4 a1_5 t397 t398 t399 t400 t401 t402 t405 t406 t407 t408 t409 t410)) else (w_BoxMoves.j1 kj7 true a0_0 a0_1 a0_2 a0_3 a0_4 a0_5 a1_0 a1_1 a1_2 a1_3 a1_4 a1_5 t397 t398 t399 t400 t401 t402 t405 t406 t407 t408 t409 t410))) else (w_BoxMoves.j1 kj7 true a0_0 a0_1 a0_2 a0_3 a0_4 a0_5 a1_0 a1_1 a1_2 a1_3 a1_4 a1_5 t397 t398 t399 t400 t401 t402 t405 t406 t407 t408 t409 t410)) = some r := H
    have A37 := am A370
    clear A370
    have HC38 := am H
    clear H
    have hnb39 := NB404_393.out
    have hnc39 := NB393_404.out
    have hnb40 := NB404_394.out
    have hnc40 := NB394_404.out
    have hnb41 := NB404_395.out
    have hnc41 := NB395_404.out
    have hnb42 := NB404_412.out
    have hnc42 := NB412_404.out
    have := yC1 BK404
    have hcz43_1 := kC1 BK404
    have hcz43_2 := kC2 BK404
    have hcz43_3 := kC3 BK404
    have hcz43_4 := kC4 BK404
    have hcz43_5 := kC5 BK404
    have hfz43_0 := bf BK404.out 0
    have hfz43_1 := bf BK404.out 1
    have hfz43_2 := bf BK404.out 2
    have hfz43_3 := bf BK404.out 3
    have hfz43_4 := bf BK404.out 4
    have hfz43_5 := bf BK404.out 5
    have hnb44 := NB395_393.out
    have hnc44 := NB393_395.out
    have hnb45 := NB395_394.out
    have hnc45 := NB394_395.out
    have hnb46 := NB395_412.out
    have hnc46 := NB412_395.out
    have := yC1 BK395
    have hcz47_1 := kC1 BK395
    have hcz47_2 := kC2 BK395
    have hfz47_0 := bf BK395.out 0
    have hfz47_1 := bf BK395.out 1
    have hfz47_2 := bf BK395.out 2
    go_upto_region 10 with (first | ((with_reducible refine gc (f := 15) rfl ?_); refine goesL_ (some 55) rfl rfl Try.func15 (by kernel_rfl) rfl #[.agg #[.int .i64 t397, .int .i64 t398, .int .i64 t399, .int .i64 t400, .int .i64 t401, .int .i64 t402], .agg #[.int .i64 (wrap64 (-a2_0)), .int .i64 (wrap64 (-a2_1)), .int .i64 (wrap64 (-a2_2))]] rfl (by (try simp only [pml]); first | done | rfl | (simp only [pdt]; rfl)) ?_; (with_reducible refine (box_Move.calls t397 t398 t399 t400 t401 t402 (wrap64 (-a2_0)) (wrap64 (-a2_1)) (wrap64 (-a2_2)) t413 t414 t415 t416 t417 t418 t419 _ A35.out).mono ?_); rintro e w48 ⟨rfl, hb⟩; refine ⟨_, rfl, ?_⟩; replace BK393 := bB BK393 hb; replace BK394 := bB BK394 hb; replace BK395 := bB BK395 hb; replace BK404 := bB BK404 hb; replace BK412 := bB BK412 hb; replace HB := bS HB hb; (try clear hb); (try clear hb2); (try clear hk); (try clear hi)) | ((with_reducible refine gate_dst (N := 11) rfl ?_); refine be ?hg (N := 11) ?hd (cs := #[.int .i64 0, .int .i64 0, .int .i64 0, .int .i64 0, .int .i64 0, .int .i64 0]) (t := 25) ?hr ?_; (case hd | hg => rfl); (case hr => first | (go_simp; done) | (go_simp; rfl)); intro gb420 hg w49 hbox hb; have BK420 := am hbox; have GW420 := sG HB hg; have GE420 := sG HB hg; replace HB := bS HB hb; have NB393_420 := nL BK393 hg; have NB420_393 := nG BK393 hg; replace BK393 := bB BK393 hb; have NB394_420 := nL BK394 hg; have NB420_394 := nG BK394 hg; replace BK394 := bB BK394 hb; have NB395_420 := nL BK395 hg; have NB420_395 := nG BK395 hg; replace BK395 := bB BK395 hb; have NB404_420 := nL BK404 hg; have NB420_404 := nG BK404 hg; replace BK404 := bB BK404 hb; have NB412_420 := nL BK412 hg; have NB420_412 := nG BK412 hg; replace BK412 := bB BK412 hb; clear hb hbox hg; have hnb50 := NB420_393.out; have hnc50 := NB393_420.out; have hnb51 := NB420_394.out; have hnc51 := NB394_420.out; have hnb52 := NB420_395.out; have hnc52 := NB395_420.out; have hnb53 := NB420_404.out; have hnc53 := NB404_420.out; have hnb54 := NB420_412.out; have hnc54 := NB412_420.out; obtain ⟨_, _, _, _, _, _, _, _, _, _, _, _⟩ := zC6 BK420; have hnb56 := NB393_394.out; have hnc56 := NB394_393.out; have hnb57 := NB393_412.out; have hnc57 := NB412_393.out; obtain ⟨_, _, _, _, _, _, _, _, _, _, _, _⟩ := zC6 BK393) | ((with_reducible refine gc (f := 16) rfl ?_); refine goesL_ (some 60) rfl rfl Try.func16 (by kernel_rfl) rfl #[.agg #[.int .i64 a0_0, .int .i64 a0_1, .int .i64 a0_2, .int .i64 a0_3, .int .i64 a0_4, .int .i64 a0_5]] rfl (by (try simp only [pml]); first | done | rfl | (simp only [pdt]; rfl)) ?_; (with_reducible refine (box_Volume.calls a0_0 a0_1 a0_2 a0_3 a0_4 a0_5 t421 t422 _ A36.out).mono ?_); rintro e w59 ⟨rfl, hb⟩; refine ⟨_, rfl, ?_⟩; replace BK393 := xC1 (kfC BK393.out) hb; replace BK394 := xC1 (kfC BK394.out) hb; replace BK395 := xC1 (kfC BK395.out) hb; replace BK404 := xC1 (kfC BK404.out) hb; replace BK412 := xC1 (kfC BK412.out) hb; replace BK420 := xC1 (o := .cells #[.int .i64 t413, .int .i64 t414, .int .i64 t415, .int .i64 t416, .int .i64 t417, .int .i64 t418] 25 (0, 0)) (kkC BK420.out) hb; replace HB := bS HB hb; (try clear hb); (try clear hb2); (try clear hk); (try clear hi); obtain ⟨_, _, _, _, _, _, _, _, _, _, _, _⟩ := zC6 BK404) | ((with_reducible refine gc (f := 16) rfl ?_); refine goesL_ (some 65) rfl rfl Try.func16 (by kernel_rfl) rfl #[.agg #[.int .i64 t397, .int .i64 t398, .int .i64 t399, .int .i64 t400, .int .i64 t401, .int .i64 t402]] rfl (by (try simp only [pml]); first | done | rfl | (simp only [pdt]; rfl)) ?_; (with_reducible refine (box_Volume.calls t397 t398 t399 t400 t401 t402 t423 t424 _ A37.out).mono ?_); rintro e w61 ⟨rfl, hb⟩; refine ⟨_, rfl, ?_⟩; replace BK393 := bB BK393 hb; replace BK394 := bB BK394 hb; replace BK395 := bB BK395 hb; replace BK404 := bB BK404 hb; replace BK412 := bB BK412 hb; replace BK420 := bB BK420 hb; replace HB := bS HB hb; (try clear hb); (try clear hb2); (try clear hk); (try clear hi)))
    (try simp only [Act.put, psl])
    go_cut [96] (fun v96 wc => ∃ (kq : Nat) (x96_37 : Bool), v96 = .bool x96_37 ∧ Aside0 (w_BoxMoves.j1 kq x96_37 a0_0 a0_1 a0_2 a0_3 a0_4 a0_5 a1_0 a1_1 a1_2 a1_3 a1_4 a1_5 t397 t398 t399 t400 t401 t402 t405 t406 t407 t408 t409 t410 = some r) ∧ Aside0 (kq ≤ kj7) ∧ Aside0 (wc.heap[gb393]? = some (.cells #[.int .i64 a0_0, .int .i64 a0_1, .int .i64 a0_2, .int .i64 a0_3, .int .i64 a0_4, .int .i64 a0_5] 25 (0, 0))) ∧ Aside0 (wc.heap[gb394]? = some (.cells #[.int .i64 a1_0, .int .i64 a1_1, .int .i64 a1_2, .int .i64 a1_3, .int .i64 a1_4, .int .i64 a1_5] 25 (0, 0))) ∧ Aside0 (wc.heap[gb395]? = some (.cells #[.int .i64 a2_0, .int .i64 a2_1, .int .i64 a2_2] 23 (0, 0))) ∧ Aside0 (wc.heap[gb404]? = some (.cells #[.int .i64 t397, .int .i64 t398, .int .i64 t399, .int .i64 t400, .int .i64 t401, .int .i64 t402] 25 (0, 0))) ∧ Aside0 (wc.heap[gb412]? = some (.cells #[.int .i64 t405, .int .i64 t406, .int .i64 t407, .int .i64 t408, .int .i64 t409, .int .i64 t410] 25 (0, 0))) ∧ Aside0 (wc.heap[gb420]? = some (.cells #[.int .i64 t413, .int .i64 t414, .int .i64 t415, .int .i64 t416, .int .i64 t417, .int .i64 t418] 25 (0, 0))) ∧ Aside0 (Below w.heap.size w wc))
    case first =>
     have H := HC38.out
     clear HC38
     by_cases c62 : t419 = 0
     rotate_left
     ·rw [if_neg c62] at H
      have c62b0 : (t419 == 0) = false := beq_eq_false_iff_ne.mpr c62
      have c62b1 : (t419 != 0) = true := bne_iff_ne.mpr c62
      (first | rw [c62b0] | (simp only [i64_w, i32_w]; rw [c62b0]) | skip)
      have H' := am H
      clear H
      try go_wp2
      have n0_ := am (bd BK393.out)
      have n1_ := am (bd BK394.out)
      have n2_ := am (bd BK395.out)
      have n3_ := am (bd BK404.out)
      have n4_ := am (bd BK412.out)
      have n5_ := am (bd BK420.out)
      have n6_ := am (wd HB.out)
      clear BK393 BK394 BK395 BK404 BK412 BK420 HB
      have BK393 := n0_
      have BK394 := n1_
      have BK395 := n2_
      have BK404 := n3_
      have BK412 := n4_
      have BK420 := n5_
      have HB := n6_
      clear n0_ n1_ n2_ n3_ n4_ n5_ n6_
      refine start_ (n := 29) (S := fun w' => True) (ds := []) #[F,F,F,F,F,F,F,F,F,F,F,F,F,F,F,F,F,F,F,F,F,F,F,F,F,F,F,F,F] (by kernel_rfl) rfl rfl trivial (fun hHeld => ?_); refine with_tabW w_BoxMoves.tab10 w_BoxMoves.bits10 (fun HT_ HW_ => ?_)
      generalize w61.drew = w76 at BK393 BK394 BK395 BK404 BK412 BK420 HB hHeld ⊢
      refine pu (i := 0) (N := some 68) (fl 29 1 []) HT_ ?_
      refine pu (i := 1) (N := some 69) (fl 29 2 []) HT_ ?_
      refine pu (i := 2) (N := some 70) (fl 29 3 []) HT_ ?_
      refine pure_ (i := 3) (N := some 71) (v := undef) (a' := ?_) #[T,T,T,T,F,F,F,F,F,F,F,F,F,F,F,F,F,F,F,F,F,F,F,F,F,F,F,F,F] rfl rfl (any_of HT_.out (by kernel_rfl)) (fun _ _ _ h => h) (Or.inr ⟨by rfl, rfl⟩) ?_ ?_
      rotate_left
      ·simp only [Act.put, psl, i64_w, i32_w]
       rfl
      refine pure_ (i := 4) (N := some 72) (v := undef) (a' := ?_) #[T,T,T,T,T,F,F,F,F,F,F,F,F,F,F,F,F,F,F,F,F,F,F,F,F,F,F,F,F] rfl rfl (any_of HT_.out (by kernel_rfl)) (fun _ _ _ h => h) (Or.inr ⟨by rfl, rfl⟩) ?_ ?_
      rotate_left
      ·simp only [Act.put, psl, i64_w, i32_w]
       rfl
      refine pure_ (i := 5) (N := some 73) (v := undef) (a' := ?_) #[T,T,T,T,T,T,F,F,F,F,F,F,F,F,F,F,F,F,F,F,F,F,F,F,F,F,F,F,F] rfl rfl (any_of HT_.out (by kernel_rfl)) (fun _ _ _ h => h) (Or.inr ⟨by rfl, rfl⟩) ?_ ?_
      rotate_left
      ·simp only [Act.put, psl, i64_w, i32_w]
       rfl
      refine pu (i := 6) (N := some 74) (fl 29 7 []) HT_ ?_
      refine pu (i := 7) (N := some 75) (fl 29 8 []) HT_ ?_
      refine pure_ (i := 8) (N := some 76) (v := undef) (a' := ?_) #[T,T,T,T,T,T,T,T,T,F,F,F,F,F,F,F,F,F,F,F,F,F,F,F,F,F,F,F,F] rfl rfl (any_of HT_.out (by kernel_rfl)) (fun _ _ _ h => h) (Or.inr ⟨by rfl, rfl⟩) ?_ ?_
      rotate_left
      ·simp only [Act.put, psl, i64_w, i32_w]
       rfl
      refine pure_ (i := 9) (N := some 77) (v := undef) (a' := ?_) #[T,T,T,T,T,T,T,T,T,T,F,F,F,F,F,F,F,F,F,F,F,F,F,F,F,F,F,F,F] rfl rfl (any_of HT_.out (by kernel_rfl)) (fun _ _ _ h => h) (Or.inr ⟨by rfl, rfl⟩) ?_ ?_
      rotate_left
      ·simp only [Act.put, psl, i64_w, i32_w]
       rfl
      refine pu (i := 10) (N := some 78) (fl 29 11 []) HT_ ?_
      refine pu (i := 11) (N := some 79) (fl 29 12 []) HT_ ?_
      refine pure_ (i := 12) (N := some 80) (v := undef) (a' := ?_) #[T,T,T,T,T,T,T,T,T,T,T,T,T,F,F,F,F,F,F,F,F,F,F,F,F,F,F,F,F] rfl rfl (any_of HT_.out (by kernel_rfl)) (fun _ _ _ h => h) (Or.inr ⟨by rfl, rfl⟩) ?_ ?_
      rotate_left
      ·simp only [Act.put, psl, i64_w, i32_w]
       rfl
      refine pure_ (i := 13) (N := some 81) (v := undef) (a' := ?_) #[T,T,T,T,T,T,T,T,T,T,T,T,T,T,F,F,F,F,F,F,F,F,F,F,F,F,F,F,F] rfl rfl (any_of HT_.out (by kernel_rfl)) (fun _ _ _ h => h) (Or.inr ⟨by rfl, rfl⟩) ?_ ?_
      rotate_left
      ·simp only [Act.put, psl, i64_w, i32_w]
       rfl
      refine pu (i := 14) (N := some 82) (fl 29 15 []) HT_ ?_
      refine pu (i := 15) (N := some 83) (fl 29 16 []) HT_ ?_
      refine pure_ (i := 16) (N := some 84) (v := undef) (a' := ?_) #[T,T,T,T,T,T,T,T,T,T,T,T,T,T,T,T,T,F,F,F,F,F,F,F,F,F,F,F,F] rfl rfl (any_of HT_.out (by kernel_rfl)) (fun _ _ _ h => h) (Or.inr ⟨by rfl, rfl⟩) ?_ ?_
      rotate_left
      ·simp only [Act.put, psl, i64_w, i32_w]
       rfl
      refine pure_ (i := 17) (N := some 85) (v := undef) (a' := ?_) #[T,T,T,T,T,T,T,T,T,T,T,T,T,T,T,T,T,T,F,F,F,F,F,F,F,F,F,F,F] rfl rfl (any_of HT_.out (by kernel_rfl)) (fun _ _ _ h => h) (Or.inr ⟨by rfl, rfl⟩) ?_ ?_
      rotate_left
      ·simp only [Act.put, psl, i64_w, i32_w]
       rfl
      refine pure_ (i := 18) (N := some 86) (v := undef) (a' := ?_) #[T,T,T,T,T,T,T,T,T,T,T,T,T,T,T,T,T,T,T,F,F,F,F,F,F,F,F,F,F] rfl rfl (any_of HT_.out (by kernel_rfl)) (fun _ _ _ h => h) (Or.inr ⟨by rfl, rfl⟩) ?_ ?_
      rotate_left
      ·simp only [Act.put, psl, i64_w, i32_w]
       rfl
      refine pu (i := 19) (N := some 87) (fl 29 20 []) HT_ ?_
      refine pu (i := 20) (N := some 88) (fl 29 21 []) HT_ ?_
      refine pure_ (i := 21) (N := some 89) (v := undef) (a' := ?_) #[T,T,T,T,T,T,T,T,T,T,T,T,T,T,T,T,T,T,T,T,T,T,F,F,F,F,F,F,F] rfl rfl (any_of HT_.out (by kernel_rfl)) (fun _ _ _ h => h) (Or.inr ⟨by rfl, rfl⟩) ?_ ?_
      rotate_left
      ·simp only [Act.put, psl, i64_w, i32_w]
       rfl
      refine pure_ (i := 22) (N := some 90) (v := undef) (a' := ?_) #[T,T,T,T,T,T,T,T,T,T,T,T,T,T,T,T,T,T,T,T,T,T,T,F,F,F,F,F,F] rfl rfl (any_of HT_.out (by kernel_rfl)) (fun _ _ _ h => h) (Or.inr ⟨by rfl, rfl⟩) ?_ ?_
      rotate_left
      ·simp only [Act.put, psl, i64_w, i32_w]
       rfl
      refine pure_ (i := 23) (N := some 91) (v := undef) (a' := ?_) #[T,T,T,T,T,T,T,T,T,T,T,T,T,T,T,T,T,T,T,T,T,T,T,T,F,F,F,F,F] rfl rfl (any_of HT_.out (by kernel_rfl)) (fun _ _ _ h => h) (Or.inr ⟨by rfl, rfl⟩) ?_ ?_
      rotate_left
      ·simp only [Act.put, psl, i64_w, i32_w]
       rfl
      refine pure_ (i := 24) (N := some 92) (v := undef) (a' := ?_) #[T,T,T,T,T,T,T,T,T,T,T,T,T,T,T,T,T,T,T,T,T,T,T,T,T,F,F,F,F] rfl rfl (any_of HT_.out (by kernel_rfl)) (fun _ _ _ h => h) (Or.inr ⟨by rfl, rfl⟩) ?_ ?_
      rotate_left
      ·simp only [Act.put, psl, i64_w, i32_w]
       rfl
      refine pure_ (i := 25) (N := some 93) (v := undef) (a' := ?_) #[T,T,T,T,T,T,T,T,T,T,T,T,T,T,T,T,T,T,T,T,T,T,T,T,T,T,F,F,F] rfl rfl (any_of HT_.out (by kernel_rfl)) (fun _ _ _ h => h) (Or.inr ⟨by rfl, rfl⟩) ?_ ?_
      rotate_left
      ·simp only [Act.put, psl, i64_w, i32_w]
       rfl
      refine pure_ (i := 26) (N := some 94) (v := undef) (a' := ?_) #[T,T,T,T,T,T,T,T,T,T,T,T,T,T,T,T,T,T,T,T,T,T,T,T,T,T,T,F,F] rfl rfl (any_of HT_.out (by kernel_rfl)) (fun _ _ _ h => h) (Or.inr ⟨by rfl, rfl⟩) ?_ ?_
      rotate_left
      ·simp only [Act.put, psl, i64_w, i32_w]
       rfl
      refine pure_ (i := 27) (N := some 95) (v := undef) (a' := ?_) #[T,T,T,T,T,T,T,T,T,T,T,T,T,T,T,T,T,T,T,T,T,T,T,T,T,T,T,T,F] rfl rfl (any_of HT_.out (by kernel_rfl)) (fun _ _ _ h => h) (Or.inr ⟨by rfl, rfl⟩) ?_ ?_
      rotate_left
      ·simp only [Act.put, psl, i64_w, i32_w]
       rfl
      refine pu (i := 28) (N := some 96) (fl 29 29 []) HT_ ?_
      refine done_ (done_of HT_.out (by kernel_rfl)) ?_
      try go_wp2
      go_meet
      case rel => exact ⟨_, (true), (by first | rfl | (simp; done) | (simp [*]; done)), H', ⟨by have := HJ7.out; first | omega | exact Nat.le_refl _⟩, ⟨by (with_reducible repeat first | apply bN | apply bd | apply ba); exact BK393.out⟩, ⟨by (with_reducible repeat first | apply bN | apply bd | apply ba); exact BK394.out⟩, ⟨by (with_reducible repeat first | apply bN | apply bd | apply ba); exact BK395.out⟩, ⟨by (with_reducible repeat first | apply bN | apply bd | apply ba); exact BK404.out⟩, ⟨by (with_reducible repeat first | apply bN | apply bd | apply ba); exact BK412.out⟩, ⟨by (with_reducible repeat first | apply bN | apply bd | apply ba); exact BK420.out⟩, ⟨by repeat (first | (with_reducible first | exact HB.out | apply wa | apply wN | apply wd | refine ws ?_ GE393.out | refine ws ?_ GE394.out | refine ws ?_ GE395.out | refine ws ?_ GE404.out | refine ws ?_ GE412.out | refine ws ?_ GE420.out) | exact HB.out)⟩⟩
     rw [if_pos c62] at H
     have c62b0 : (t419 == 0) = true := beq_iff_eq.mpr c62
     have c62b1 : (t419 != 0) = false := bne_eq_false_iff_eq.mpr c62
     clear c62
     (first | rw [c62b0] | (simp only [i64_w, i32_w]; rw [c62b0]) | skip)
     by_cases c63 : ((!(t413 == a0_0) || (!(t414 == a0_1) || (!(t415 == a0_2)))) || ((!(t416 == a0_3) || (!(t417 == a0_4) || (!(t418 == a0_5)))))) = true
     ·rw [if_pos c63] at H
      have c63b0 : ((!(t413 == a0_0) || (!(t414 == a0_1) || (!(t415 == a0_2)))) || ((!(t416 == a0_3) || (!(t417 == a0_4) || (!(t418 == a0_5)))))) = true := c63
      clear c63
      have H' := am H
      clear H
      try go_wp2
      have n0_ := am (bd BK393.out)
      have n1_ := am (bd BK394.out)
      have n2_ := am (bd BK395.out)
      have n3_ := am (bd BK404.out)
      have n4_ := am (bd BK412.out)
      have n5_ := am (bd BK420.out)
      have n6_ := am (wd HB.out)
      clear BK393 BK394 BK395 BK404 BK412 BK420 HB
      have BK393 := n0_
      have BK394 := n1_
      have BK395 := n2_
      have BK404 := n3_
      have BK412 := n4_
      have BK420 := n5_
      have HB := n6_
      clear n0_ n1_ n2_ n3_ n4_ n5_ n6_
      refine start_ (n := 29) (S := fun w' => w'.cell? ⟨gb420, 0, none⟩ = some (.int .i64 t413) ∧ w'.cell? ⟨gb420, 1, none⟩ = some (.int .i64 t414) ∧ w'.cell? ⟨gb420, 2, none⟩ = some (.int .i64 t415) ∧ w'.cell? ⟨gb420, 3, none⟩ = some (.int .i64 t416) ∧ w'.cell? ⟨gb420, 4, none⟩ = some (.int .i64 t417) ∧ w'.cell? ⟨gb420, 5, none⟩ = some (.int .i64 t418) ∧ w'.cell? ⟨gb393, 0, none⟩ = some (.int .i64 a0_0) ∧ w'.cell? ⟨gb393, 1, none⟩ = some (.int .i64 a0_1) ∧ w'.cell? ⟨gb393, 2, none⟩ = some (.int .i64 a0_2) ∧ w'.cell? ⟨gb393, 3, none⟩ = some (.int .i64 a0_3) ∧ w'.cell? ⟨gb393, 4, none⟩ = some (.int .i64 a0_4) ∧ w'.cell? ⟨gb393, 5, none⟩ = some (.int .i64 a0_5)) (ds := []) #[F,F,F,F,F,F,F,F,F,F,F,F,F,F,F,F,F,F,F,F,F,F,F,F,F,F,F,F,F] (by kernel_rfl) rfl rfl ⟨(bc BK420.out 0).trans rfl, (bc BK420.out 1).trans rfl, (bc BK420.out 2).trans rfl, (bc BK420.out 3).trans rfl, (bc BK420.out 4).trans rfl, (bc BK420.out 5).trans rfl, (bc BK393.out 0).trans rfl, (bc BK393.out 1).trans rfl, (bc BK393.out 2).trans rfl, (bc BK393.out 3).trans rfl, (bc BK393.out 4).trans rfl, (bc BK393.out 5).trans rfl⟩ (fun hHeld => ?_); refine with_tabW w_BoxMoves.tab10 w_BoxMoves.bits10 (fun HT_ HW_ => ?_)
      generalize w61.drew = w64 at BK393 BK394 BK395 BK404 BK412 BK420 HB hHeld ⊢
      refine pu (i := 0) (N := some 68) (fl 29 1 []) HT_ ?_
      refine pu (i := 1) (N := some 69) (fl 29 2 []) HT_ ?_
      refine pu (i := 2) (N := some 70) (fl 29 3 []) HT_ ?_
      refine tk (i := 3) (N := some 71) (fl 29 4 []) HT_ HW_ hHeld ?_
      refine tk (i := 4) (N := some 72) (fl 29 5 []) HT_ HW_ hHeld ?_
      refine pu (i := 5) (N := some 73) (fl 29 6 []) HT_ ?_
      refine pu (i := 6) (N := some 74) (fl 29 7 []) HT_ ?_
      refine pu (i := 7) (N := some 75) (fl 29 8 []) HT_ ?_
      refine pure_ (i := 8) (N := some 76) (v := undef) (a' := ?_) #[T,T,T,T,T,T,T,T,T,F,F,F,F,F,F,F,F,F,F,F,F,F,F,F,F,F,F,F,F] rfl rfl (any_of HT_.out (by kernel_rfl)) (fun _ _ _ h => h) (Or.inr ⟨by rfl, rfl⟩) ?_ ?_
      rotate_left
      ·simp only [Act.put, psl, i64_w, i32_w]
       rfl
      refine pure_ (i := 9) (N := some 77) (v := undef) (a' := ?_) #[T,T,T,T,T,T,T,T,T,T,F,F,F,F,F,F,F,F,F,F,F,F,F,F,F,F,F,F,F] rfl rfl (any_of HT_.out (by kernel_rfl)) (fun _ _ _ h => h) (Or.inr ⟨by rfl, rfl⟩) ?_ ?_
      rotate_left
      ·simp only [Act.put, psl, i64_w, i32_w]
       rfl
      refine pu (i := 10) (N := some 78) (fl 29 11 []) HT_ ?_
      refine pu (i := 11) (N := some 79) (fl 29 12 []) HT_ ?_
      refine pure_ (i := 12) (N := some 80) (v := undef) (a' := ?_) #[T,T,T,T,T,T,T,T,T,T,T,T,T,F,F,F,F,F,F,F,F,F,F,F,F,F,F,F,F] rfl rfl (any_of HT_.out (by kernel_rfl)) (fun _ _ _ h => h) (Or.inr ⟨by rfl, rfl⟩) ?_ ?_
      rotate_left
      ·simp only [Act.put, psl, i64_w, i32_w]
       rfl
      refine pure_ (i := 13) (N := some 81) (v := undef) (a' := ?_) #[T,T,T,T,T,T,T,T,T,T,T,T,T,T,F,F,F,F,F,F,F,F,F,F,F,F,F,F,F] rfl rfl (any_of HT_.out (by kernel_rfl)) (fun _ _ _ h => h) (Or.inr ⟨by rfl, rfl⟩) ?_ ?_
      rotate_left
      ·simp only [Act.put, psl, i64_w, i32_w]
       rfl
      refine pu (i := 14) (N := some 82) (fl 29 15 []) HT_ ?_
      refine pu (i := 15) (N := some 83) (fl 29 16 []) HT_ ?_
      refine pure_ (i := 16) (N := some 84) (v := undef) (a' := ?_) #[T,T,T,T,T,T,T,T,T,T,T,T,T,T,T,T,T,F,F,F,F,F,F,F,F,F,F,F,F] rfl rfl (any_of HT_.out (by kernel_rfl)) (fun _ _ _ h => h) (Or.inr ⟨by rfl, rfl⟩) ?_ ?_
      rotate_left
      ·simp only [Act.put, psl, i64_w, i32_w]
       rfl
      refine pure_ (i := 17) (N := some 85) (v := undef) (a' := ?_) #[T,T,T,T,T,T,T,T,T,T,T,T,T,T,T,T,T,T,F,F,F,F,F,F,F,F,F,F,F] rfl rfl (any_of HT_.out (by kernel_rfl)) (fun _ _ _ h => h) (Or.inr ⟨by rfl, rfl⟩) ?_ ?_
      rotate_left
      ·simp only [Act.put, psl, i64_w, i32_w]
       rfl
      refine pure_ (i := 18) (N := some 86) (v := undef) (a' := ?_) #[T,T,T,T,T,T,T,T,T,T,T,T,T,T,T,T,T,T,T,F,F,F,F,F,F,F,F,F,F] rfl rfl (any_of HT_.out (by kernel_rfl)) (fun _ _ _ h => h) (Or.inr ⟨by rfl, rfl⟩) ?_ ?_
      rotate_left
      ·simp only [Act.put, psl, i64_w, i32_w]
       rfl
      refine pu (i := 19) (N := some 87) (fl 29 20 []) HT_ ?_
      refine pu (i := 20) (N := some 88) (fl 29 21 []) HT_ ?_
      refine pure_ (i := 21) (N := some 89) (v := undef) (a' := ?_) #[T,T,T,T,T,T,T,T,T,T,T,T,T,T,T,T,T,T,T,T,T,T,F,F,F,F,F,F,F] rfl rfl (any_of HT_.out (by kernel_rfl)) (fun _ _ _ h => h) (Or.inr ⟨by rfl, rfl⟩) ?_ ?_
      rotate_left
      ·simp only [Act.put, psl, i64_w, i32_w]
       rfl
      refine pure_ (i := 22) (N := some 90) (v := undef) (a' := ?_) #[T,T,T,T,T,T,T,T,T,T,T,T,T,T,T,T,T,T,T,T,T,T,T,F,F,F,F,F,F] rfl rfl (any_of HT_.out (by kernel_rfl)) (fun _ _ _ h => h) (Or.inr ⟨by rfl, rfl⟩) ?_ ?_
      rotate_left
      ·simp only [Act.put, psl, i64_w, i32_w]
       rfl
      refine pure_ (i := 23) (N := some 91) (v := undef) (a' := ?_) #[T,T,T,T,T,T,T,T,T,T,T,T,T,T,T,T,T,T,T,T,T,T,T,T,F,F,F,F,F] rfl rfl (any_of HT_.out (by kernel_rfl)) (fun _ _ _ h => h) (Or.inr ⟨by rfl, rfl⟩) ?_ ?_
      rotate_left
      ·simp only [Act.put, psl, i64_w, i32_w]
       rfl
      refine pure_ (i := 24) (N := some 92) (v := undef) (a' := ?_) #[T,T,T,T,T,T,T,T,T,T,T,T,T,T,T,T,T,T,T,T,T,T,T,T,T,F,F,F,F] rfl rfl (any_of HT_.out (by kernel_rfl)) (fun _ _ _ h => h) (Or.inr ⟨by rfl, rfl⟩) ?_ ?_
      rotate_left
      ·simp only [Act.put, psl, i64_w, i32_w]
       rfl
      refine pure_ (i := 25) (N := some 93) (v := undef) (a' := ?_) #[T,T,T,T,T,T,T,T,T,T,T,T,T,T,T,T,T,T,T,T,T,T,T,T,T,T,F,F,F] rfl rfl (any_of HT_.out (by kernel_rfl)) (fun _ _ _ h => h) (Or.inr ⟨by rfl, rfl⟩) ?_ ?_
      rotate_left
      ·simp only [Act.put, psl, i64_w, i32_w]
       rfl
      refine pure_ (i := 26) (N := some 94) (v := undef) (a' := ?_) #[T,T,T,T,T,T,T,T,T,T,T,T,T,T,T,T,T,T,T,T,T,T,T,T,T,T,T,F,F] rfl rfl (any_of HT_.out (by kernel_rfl)) (fun _ _ _ h => h) (Or.inr ⟨by rfl, rfl⟩) ?_ ?_
      rotate_left
      ·simp only [Act.put, psl, i64_w, i32_w]
       rfl
      refine pure_ (i := 27) (N := some 95) (v := undef) (a' := ?_) #[T,T,T,T,T,T,T,T,T,T,T,T,T,T,T,T,T,T,T,T,T,T,T,T,T,T,T,T,F] rfl rfl (any_of HT_.out (by kernel_rfl)) (fun _ _ _ h => h) (Or.inr ⟨by rfl, rfl⟩) ?_ ?_
      rotate_left
      ·simp only [Act.put, psl, i64_w, i32_w]
       rfl
      refine pu (i := 28) (N := some 96) (fl 29 29 []) HT_ ?_
      refine done_ (done_of HT_.out (by kernel_rfl)) ?_
      try go_wp2
      go_meet
      case rel => exact ⟨_, (true), (by first | rfl | (simp; done) | (simp [*]; done)), H', ⟨by have := HJ7.out; first | omega | exact Nat.le_refl _⟩, ⟨by (with_reducible repeat first | apply bN | apply bd | apply ba); exact BK393.out⟩, ⟨by (with_reducible repeat first | apply bN | apply bd | apply ba); exact BK394.out⟩, ⟨by (with_reducible repeat first | apply bN | apply bd | apply ba); exact BK395.out⟩, ⟨by (with_reducible repeat first | apply bN | apply bd | apply ba); exact BK404.out⟩, ⟨by (with_reducible repeat first | apply bN | apply bd | apply ba); exact BK412.out⟩, ⟨by (with_reducible repeat first | apply bN | apply bd | apply ba); exact BK420.out⟩, ⟨by repeat (first | (with_reducible first | exact HB.out | apply wa | apply wN | apply wd | refine ws ?_ GE393.out | refine ws ?_ GE394.out | refine ws ?_ GE395.out | refine ws ?_ GE404.out | refine ws ?_ GE412.out | refine ws ?_ GE420.out) | exact HB.out)⟩⟩
     rw [if_neg c63] at H
     have c63b0 : ((!(t413 == a0_0) || (!(t414 == a0_1) || (!(t415 == a0_2)))) || ((!(t416 == a0_3) || (!(t417 == a0_4) || (!(t418 == a0_5)))))) = false := by simpa using c63
     clear c63
     by_cases c65 : t422 = 0
     rotate_left
     ·rw [if_neg c65] at H
      have c65b0 : (t422 == 0) = false := beq_eq_false_iff_ne.mpr c65
      have c65b1 : (t422 != 0) = true := bne_iff_ne.mpr c65
      have H' := am H
      clear H
      try go_wp2
      have n0_ := am (bd BK393.out)
      have n1_ := am (bd BK394.out)
      have n2_ := am (bd BK395.out)
      have n3_ := am (bd BK404.out)
      have n4_ := am (bd BK412.out)
      have n5_ := am (bd BK420.out)
      have n6_ := am (wd HB.out)
      clear BK393 BK394 BK395 BK404 BK412 BK420 HB
      have BK393 := n0_
      have BK394 := n1_
      have BK395 := n2_
      have BK404 := n3_
      have BK412 := n4_
      have BK420 := n5_
      have HB := n6_
      clear n0_ n1_ n2_ n3_ n4_ n5_ n6_
      refine start_ (n := 29) (S := fun w' => w'.cell? ⟨gb420, 0, none⟩ = some (.int .i64 t413) ∧ w'.cell? ⟨gb420, 1, none⟩ = some (.int .i64 t414) ∧ w'.cell? ⟨gb420, 2, none⟩ = some (.int .i64 t415) ∧ w'.cell? ⟨gb420, 3, none⟩ = some (.int .i64 t416) ∧ w'.cell? ⟨gb420, 4, none⟩ = some (.int .i64 t417) ∧ w'.cell? ⟨gb420, 5, none⟩ = some (.int .i64 t418) ∧ w'.cell? ⟨gb393, 0, none⟩ = some (.int .i64 a0_0) ∧ w'.cell? ⟨gb393, 1, none⟩ = some (.int .i64 a0_1) ∧ w'.cell? ⟨gb393, 2, none⟩ = some (.int .i64 a0_2) ∧ w'.cell? ⟨gb393, 3, none⟩ = some (.int .i64 a0_3) ∧ w'.cell? ⟨gb393, 4, none⟩ = some (.int .i64 a0_4) ∧ w'.cell? ⟨gb393, 5, none⟩ = some (.int .i64 a0_5)) (ds := []) #[F,F,F,F,F,F,F,F,F,F,F,F,F,F,F,F,F,F,F,F,F,F,F,F,F,F,F,F,F] (by kernel_rfl) rfl rfl ⟨(bc BK420.out 0).trans rfl, (bc BK420.out 1).trans rfl, (bc BK420.out 2).trans rfl, (bc BK420.out 3).trans rfl, (bc BK420.out 4).trans rfl, (bc BK420.out 5).trans rfl, (bc BK393.out 0).trans rfl, (bc BK393.out 1).trans rfl, (bc BK393.out 2).trans rfl, (bc BK393.out 3).trans rfl, (bc BK393.out 4).trans rfl, (bc BK393.out 5).trans rfl⟩ (fun hHeld => ?_); refine with_tabW w_BoxMoves.tab10 w_BoxMoves.bits10 (fun HT_ HW_ => ?_)
      generalize w61.drew = w75 at BK393 BK394 BK395 BK404 BK412 BK420 HB hHeld ⊢
      refine pu (i := 0) (N := some 68) (fl 29 1 []) HT_ ?_
      refine pu (i := 1) (N := some 69) (fl 29 2 []) HT_ ?_
      refine pu (i := 2) (N := some 70) (fl 29 3 []) HT_ ?_
      refine tk (i := 3) (N := some 71) (fl 29 4 []) HT_ HW_ hHeld ?_
      refine tk (i := 4) (N := some 72) (fl 29 5 []) HT_ HW_ hHeld ?_
      refine pu (i := 5) (N := some 73) (fl 29 6 []) HT_ ?_
      refine pu (i := 6) (N := some 74) (fl 29 7 []) HT_ ?_
      refine pu (i := 7) (N := some 75) (fl 29 8 []) HT_ ?_
      refine pu (i := 8) (N := some 76) (fl 29 9 []) HT_ ?_
      refine pu (i := 9) (N := some 77) (fl 29 10 []) HT_ ?_
      refine pu (i := 10) (N := some 78) (fl 29 11 []) HT_ ?_
      refine pu (i := 11) (N := some 79) (fl 29 12 []) HT_ ?_
      refine pure_ (i := 12) (N := some 80) (v := undef) (a' := ?_) #[T,T,T,T,T,T,T,T,T,T,T,T,T,F,F,F,F,F,F,F,F,F,F,F,F,F,F,F,F] rfl rfl (any_of HT_.out (by kernel_rfl)) (fun _ _ _ h => h) (Or.inr ⟨by rfl, rfl⟩) ?_ ?_
      rotate_left
      ·simp only [Act.put, psl, i64_w, i32_w]
       rfl
      refine pure_ (i := 13) (N := some 81) (v := undef) (a' := ?_) #[T,T,T,T,T,T,T,T,T,T,T,T,T,T,F,F,F,F,F,F,F,F,F,F,F,F,F,F,F] rfl rfl (any_of HT_.out (by kernel_rfl)) (fun _ _ _ h => h) (Or.inr ⟨by rfl, rfl⟩) ?_ ?_
      rotate_left
      ·simp only [Act.put, psl, i64_w, i32_w]
       rfl
      refine pu (i := 14) (N := some 82) (fl 29 15 []) HT_ ?_
      refine pu (i := 15) (N := some 83) (fl 29 16 []) HT_ ?_
      refine pure_ (i := 16) (N := some 84) (v := undef) (a' := ?_) #[T,T,T,T,T,T,T,T,T,T,T,T,T,T,T,T,T,F,F,F,F,F,F,F,F,F,F,F,F] rfl rfl (any_of HT_.out (by kernel_rfl)) (fun _ _ _ h => h) (Or.inr ⟨by rfl, rfl⟩) ?_ ?_
      rotate_left
      ·simp only [Act.put, psl, i64_w, i32_w]
       rfl
      refine pure_ (i := 17) (N := some 85) (v := undef) (a' := ?_) #[T,T,T,T,T,T,T,T,T,T,T,T,T,T,T,T,T,T,F,F,F,F,F,F,F,F,F,F,F] rfl rfl (any_of HT_.out (by kernel_rfl)) (fun _ _ _ h => h) (Or.inr ⟨by rfl, rfl⟩) ?_ ?_
      rotate_left
      ·simp only [Act.put, psl, i64_w, i32_w]
       rfl
      refine pure_ (i := 18) (N := some 86) (v := undef) (a' := ?_) #[T,T,T,T,T,T,T,T,T,T,T,T,T,T,T,T,T,T,T,F,F,F,F,F,F,F,F,F,F] rfl rfl (any_of HT_.out (by kernel_rfl)) (fun _ _ _ h => h) (Or.inr ⟨by rfl, rfl⟩) ?_ ?_
      rotate_left
      ·simp only [Act.put, psl, i64_w, i32_w]
       rfl
      refine pu (i := 19) (N := some 87) (fl 29 20 []) HT_ ?_
      refine pu (i := 20) (N := some 88) (fl 29 21 []) HT_ ?_
      refine pure_ (i := 21) (N := some 89) (v := undef) (a' := ?_) #[T,T,T,T,T,T,T,T,T,T,T,T,T,T,T,T,T,T,T,T,T,T,F,F,F,F,F,F,F] rfl rfl (any_of HT_.out (by kernel_rfl)) (fun _ _ _ h => h) (Or.inr ⟨by rfl, rfl⟩) ?_ ?_
      rotate_left
      ·simp only [Act.put, psl, i64_w, i32_w]
       rfl
      refine pure_ (i := 22) (N := some 90) (v := undef) (a' := ?_) #[T,T,T,T,T,T,T,T,T,T,T,T,T,T,T,T,T,T,T,T,T,T,T,F,F,F,F,F,F] rfl rfl (any_of HT_.out (by kernel_rfl)) (fun _ _ _ h => h) (Or.inr ⟨by rfl, rfl⟩) ?_ ?_
      rotate_left
      ·simp only [Act.put, psl, i64_w, i32_w]
       rfl
      refine pure_ (i := 23) (N := some 91) (v := undef) (a' := ?_) #[T,T,T,T,T,T,T,T,T,T,T,T,T,T,T,T,T,T,T,T,T,T,T,T,F,F,F,F,F] rfl rfl (any_of HT_.out (by kernel_rfl)) (fun _ _ _ h => h) (Or.inr ⟨by rfl, rfl⟩) ?_ ?_
      rotate_left
      ·simp only [Act.put, psl, i64_w, i32_w]
       rfl
      refine pure_ (i := 24) (N := some 92) (v := undef) (a' := ?_) #[T,T,T,T,T,T,T,T,T,T,T,T,T,T,T,T,T,T,T,T,T,T,T,T,T,F,F,F,F] rfl rfl (any_of HT_.out (by kernel_rfl)) (fun _ _ _ h => h) (Or.inr ⟨by rfl, rfl⟩) ?_ ?_
      rotate_left
      ·simp only [Act.put, psl, i64_w, i32_w]
       rfl
      refine pure_ (i := 25) (N := some 93) (v := undef) (a' := ?_) #[T,T,T,T,T,T,T,T,T,T,T,T,T,T,T,T,T,T,T,T,T,T,T,T,T,T,F,F,F] rfl rfl (any_of HT_.out (by kernel_rfl)) (fun _ _ _ h => h) (Or.inr ⟨by rfl, rfl⟩) ?_ ?_
      rotate_left
      ·simp only [Act.put, psl, i64_w, i32_w]
       rfl
      refine pure_ (i := 26) (N := some 94) (v := undef) (a' := ?_) #[T,T,T,T,T,T,T,T,T,T,T,T,T,T,T,T,T,T,T,T,T,T,T,T,T,T,T,F,F] rfl rfl (any_of HT_.out (by kernel_rfl)) (fun _ _ _ h => h) (Or.inr ⟨by rfl, rfl⟩) ?_ ?_
      rotate_left
      ·simp only [Act.put, psl, i64_w, i32_w]
       rfl
      refine pure_ (i := 27) (N := some 95) (v := undef) (a' := ?_) #[T,T,T,T,T,T,T,T,T,T,T,T,T,T,T,T,T,T,T,T,T,T,T,T,T,T,T,T,F] rfl rfl (any_of HT_.out (by kernel_rfl)) (fun _ _ _ h => h) (Or.inr ⟨by rfl, rfl⟩) ?_ ?_
      rotate_left
      ·simp only [Act.put, psl, i64_w, i32_w]
       rfl
      refine pu (i := 28) (N := some 96) (fl 29 29 []) HT_ ?_
      refine done_ (done_of HT_.out (by kernel_rfl)) ?_
      try go_wp2
      go_meet
      case rel => exact ⟨_, (true), (by first | rfl | (simp; done) | (simp [*]; done)), H', ⟨by have := HJ7.out; first | omega | exact Nat.le_refl _⟩, ⟨by (with_reducible repeat first | apply bN | apply bd | apply ba); exact BK393.out⟩, ⟨by (with_reducible repeat first | apply bN | apply bd | apply ba); exact BK394.out⟩, ⟨by (with_reducible repeat first | apply bN | apply bd | apply ba); exact BK395.out⟩, ⟨by (with_reducible repeat first | apply bN | apply bd | apply ba); exact BK404.out⟩, ⟨by (with_reducible repeat first | apply bN | apply bd | apply ba); exact BK412.out⟩, ⟨by (with_reducible repeat first | apply bN | apply bd | apply ba); exact BK420.out⟩, ⟨by repeat (first | (with_reducible first | exact HB.out | apply wa | apply wN | apply wd | refine ws ?_ GE393.out | refine ws ?_ GE394.out | refine ws ?_ GE395.out | refine ws ?_ GE404.out | refine ws ?_ GE412.out | refine ws ?_ GE420.out) | exact HB.out)⟩⟩
     rw [if_pos c65] at H
     have c65b0 : (t422 == 0) = true := beq_iff_eq.mpr c65
     have c65b1 : (t422 != 0) = false := bne_eq_false_iff_eq.mpr c65
     clear c65
     by_cases c66 : t424 = 0
     rotate_left
     ·rw [if_neg c66] at H
      have c66b0 : (t424 == 0) = false := beq_eq_false_iff_ne.mpr c66
      have c66b1 : (t424 != 0) = true := bne_iff_ne.mpr c66
      have H' := am H
      clear H
      try go_wp2
      have n0_ := am (bd BK393.out)
      have n1_ := am (bd BK394.out)
      have n2_ := am (bd BK395.out)
      have n3_ := am (bd BK404.out)
      have n4_ := am (bd BK412.out)
      have n5_ := am (bd BK420.out)
      have n6_ := am (wd HB.out)
      clear BK393 BK394 BK395 BK404 BK412 BK420 HB
      have BK393 := n0_
      have BK394 := n1_
      have BK395 := n2_
      have BK404 := n3_
      have BK412 := n4_
      have BK420 := n5_
      have HB := n6_
      clear n0_ n1_ n2_ n3_ n4_ n5_ n6_
      refine start_ (n := 29) (S := fun w' => w'.cell? ⟨gb420, 0, none⟩ = some (.int .i64 t413) ∧ w'.cell? ⟨gb420, 1, none⟩ = some (.int .i64 t414) ∧ w'.cell? ⟨gb420, 2, none⟩ = some (.int .i64 t415) ∧ w'.cell? ⟨gb420, 3, none⟩ = some (.int .i64 t416) ∧ w'.cell? ⟨gb420, 4, none⟩ = some (.int .i64 t417) ∧ w'.cell? ⟨gb420, 5, none⟩ = some (.int .i64 t418) ∧ w'.cell? ⟨gb393, 0, none⟩ = some (.int .i64 a0_0) ∧ w'.cell? ⟨gb393, 1, none⟩ = some (.int .i64 a0_1) ∧ w'.cell? ⟨gb393, 2, none⟩ = some (.int .i64 a0_2) ∧ w'.cell? ⟨gb393, 3, none⟩ = some (.int .i64 a0_3) ∧ w'.cell? ⟨gb393, 4, none⟩ = some (.int .i64 a0_4) ∧ w'.cell? ⟨gb393, 5, none⟩ = some (.int .i64 a0_5)) (ds := []) #[F,F,F,F,F,F,F,F,F,F,F,F,F,F,F,F,F,F,F,F,F,F,F,F,F,F,F,F,F] (by kernel_rfl) rfl rfl ⟨(bc BK420.out 0).trans rfl, (bc BK420.out 1).trans rfl, (bc BK420.out 2).trans rfl, (bc BK420.out 3).trans rfl, (bc BK420.out 4).trans rfl, (bc BK420.out 5).trans rfl, (bc BK393.out 0).trans rfl, (bc BK393.out 1).trans rfl, (bc BK393.out 2).trans rfl, (bc BK393.out 3).trans rfl, (bc BK393.out 4).trans rfl, (bc BK393.out 5).trans rfl⟩ (fun hHeld => ?_); refine with_tabW w_BoxMoves.tab10 w_BoxMoves.bits10 (fun HT_ HW_ => ?_)
      generalize w61.drew = w74 at BK393 BK394 BK395 BK404 BK412 BK420 HB hHeld ⊢
      refine pu (i := 0) (N := some 68) (fl 29 1 []) HT_ ?_
      refine pu (i := 1) (N := some 69) (fl 29 2 []) HT_ ?_
      refine pu (i := 2) (N := some 70) (fl 29 3 []) HT_ ?_
      refine tk (i := 3) (N := some 71) (fl 29 4 []) HT_ HW_ hHeld ?_
      refine tk (i := 4) (N := some 72) (fl 29 5 []) HT_ HW_ hHeld ?_
      refine pu (i := 5) (N := some 73) (fl 29 6 []) HT_ ?_
      refine pu (i := 6) (N := some 74) (fl 29 7 []) HT_ ?_
      refine pu (i := 7) (N := some 75) (fl 29 8 []) HT_ ?_
      refine pu (i := 8) (N := some 76) (fl 29 9 []) HT_ ?_
      refine pu (i := 9) (N := some 77) (fl 29 10 []) HT_ ?_
      refine pu (i := 10) (N := some 78) (fl 29 11 []) HT_ ?_
      refine pu (i := 11) (N := some 79) (fl 29 12 []) HT_ ?_
      refine pu (i := 12) (N := some 80) (fl 29 13 []) HT_ ?_
      refine pu (i := 13) (N := some 81) (fl 29 14 []) HT_ ?_
      refine pu (i := 14) (N := some 82) (fl 29 15 []) HT_ ?_
      refine pu (i := 15) (N := some 83) (fl 29 16 []) HT_ ?_
      refine pure_ (i := 16) (N := some 84) (v := undef) (a' := ?_) #[T,T,T,T,T,T,T,T,T,T,T,T,T,T,T,T,T,F,F,F,F,F,F,F,F,F,F,F,F] rfl rfl (any_of HT_.out (by kernel_rfl)) (fun _ _ _ h => h) (Or.inr ⟨by rfl, rfl⟩) ?_ ?_
      rotate_left
      ·simp only [Act.put, psl, i64_w, i32_w]
       rfl
      refine pure_ (i := 17) (N := some 85) (v := undef) (a' := ?_) #[T,T,T,T,T,T,T,T,T,T,T,T,T,T,T,T,T,T,F,F,F,F,F,F,F,F,F,F,F] rfl rfl (any_of HT_.out (by kernel_rfl)) (fun _ _ _ h => h) (Or.inr ⟨by rfl, rfl⟩) ?_ ?_
      rotate_left
      ·simp only [Act.put, psl, i64_w, i32_w]
       rfl
      refine pure_ (i := 18) (N := some 86) (v := undef) (a' := ?_) #[T,T,T,T,T,T,T,T,T,T,T,T,T,T,T,T,T,T,T,F,F,F,F,F,F,F,F,F,F] rfl rfl (any_of HT_.out (by kernel_rfl)) (fun _ _ _ h => h) (Or.inr ⟨by rfl, rfl⟩) ?_ ?_
      rotate_left
      ·simp only [Act.put, psl, i64_w, i32_w]
       rfl
      refine pu (i := 19) (N := some 87) (fl 29 20 []) HT_ ?_
      refine pu (i := 20) (N := some 88) (fl 29 21 []) HT_ ?_
      refine pure_ (i := 21) (N := some 89) (v := undef) (a' := ?_) #[T,T,T,T,T,T,T,T,T,T,T,T,T,T,T,T,T,T,T,T,T,T,F,F,F,F,F,F,F] rfl rfl (any_of HT_.out (by kernel_rfl)) (fun _ _ _ h => h) (Or.inr ⟨by rfl, rfl⟩) ?_ ?_
      rotate_left
      ·simp only [Act.put, psl, i64_w, i32_w]
       rfl
      refine pure_ (i := 22) (N := some 90) (v := undef) (a' := ?_) #[T,T,T,T,T,T,T,T,T,T,T,T,T,T,T,T,T,T,T,T,T,T,T,F,F,F,F,F,F] rfl rfl (any_of HT_.out (by kernel_rfl)) (fun _ _ _ h => h) (Or.inr ⟨by rfl, rfl⟩) ?_ ?_
      rotate_left
      ·simp only [Act.put, psl, i64_w, i32_w]
       rfl
      refine pure_ (i := 23) (N := some 91) (v := undef) (a' := ?_) #[T,T,T,T,T,T,T,T,T,T,T,T,T,T,T,T,T,T,T,T,T,T,T,T,F,F,F,F,F] rfl rfl (any_of HT_.out (by kernel_rfl)) (fun _ _ _ h => h) (Or.inr ⟨by rfl, rfl⟩) ?_ ?_
      rotate_left
      ·simp only [Act.put, psl, i64_w, i32_w]
       rfl
      refine pure_ (i := 24) (N := some 92) (v := undef) (a' := ?_) #[T,T,T,T,T,T,T,T,T,T,T,T,T,T,T,T,T,T,T,T,T,T,T,T,T,F,F,F,F] rfl rfl (any_of HT_.out (by kernel_rfl)) (fun _ _ _ h => h) (Or.inr ⟨by rfl, rfl⟩) ?_ ?_
      rotate_left
      ·simp only [Act.put, psl, i64_w, i32_w]
       rfl
      refine pure_ (i := 25) (N := some 93) (v := undef) (a' := ?_) #[T,T,T,T,T,T,T,T,T,T,T,T,T,T,T,T,T,T,T,T,T,T,T,T,T,T,F,F,F] rfl rfl (any_of HT_.out (by kernel_rfl)) (fun _ _ _ h => h) (Or.inr ⟨by rfl, rfl⟩) ?_ ?_
      rotate_left
      ·simp only [Act.put, psl, i64_w, i32_w]
       rfl
      refine pure_ (i := 26) (N := some 94) (v := undef) (a' := ?_) #[T,T,T,T,T,T,T,T,T,T,T,T,T,T,T,T,T,T,T,T,T,T,T,T,T,T,T,F,F] rfl rfl (any_of HT_.out (by kernel_rfl)) (fun _ _ _ h => h) (Or.inr ⟨by rfl, rfl⟩) ?_ ?_
      rotate_left
      ·simp only [Act.put, psl, i64_w, i32_w]
       rfl
      refine pure_ (i := 27) (N := some 95) (v := undef) (a' := ?_) #[T,T,T,T,T,T,T,T,T,T,T,T,T,T,T,T,T,T,T,T,T,T,T,T,T,T,T,T,F] rfl rfl (any_of HT_.out (by kernel_rfl)) (fun _ _ _ h => h) (Or.inr ⟨by rfl, rfl⟩) ?_ ?_
      rotate_left
      ·simp only [Act.put, psl, i64_w, i32_w]
       rfl
      refine pu (i := 28) (N := some 96) (fl 29 29 []) HT_ ?_
      refine done_ (done_of HT_.out (by kernel_rfl)) ?_
      try go_wp2
      go_meet
      case rel => exact ⟨_, (true), (by first | rfl | (simp; done) | (simp [*]; done)), H', ⟨by have := HJ7.out; first | omega | exact Nat.le_refl _⟩, ⟨by (with_reducible repeat first | apply bN | apply bd | apply ba); exact BK393.out⟩, ⟨by (with_reducible repeat first | apply bN | apply bd | apply ba); exact BK394.out⟩, ⟨by (with_reducible repeat first | apply bN | apply bd | apply ba); exact BK395.out⟩, ⟨by (with_reducible repeat first | apply bN | apply bd | apply ba); exact BK404.out⟩, ⟨by (with_reducible repeat first | apply bN | apply bd | apply ba); exact BK412.out⟩, ⟨by (with_reducible repeat first | apply bN | apply bd | apply ba); exact BK420.out⟩, ⟨by repeat (first | (with_reducible first | exact HB.out | apply wa | apply wN | apply wd | refine ws ?_ GE393.out | refine ws ?_ GE394.out | refine ws ?_ GE395.out | refine ws ?_ GE404.out | refine ws ?_ GE412.out | refine ws ?_ GE420.out) | exact HB.out)⟩⟩
     rw [if_pos c66] at H
     have c66b0 : (t424 == 0) = true := beq_iff_eq.mpr c66
     have c66b1 : (t424 != 0) = false := bne_eq_false_iff_eq.mpr c66
     clear c66
     by_cases c67 : t421 = t423
     rotate_left
     ·rw [if_neg c67] at H
      have c67b0 : (t421 == t423) = false := beq_eq_false_iff_ne.mpr c67
      have c67b1 : (t421 != t423) = true := bne_iff_ne.mpr c67
      have H' := am H
      clear H
      try go_wp2
      have n0_ := am (bd BK393.out)
      have n1_ := am (bd BK394.out)
      have n2_ := am (bd BK395.out)
      have n3_ := am (bd BK404.out)
      have n4_ := am (bd BK412.out)
      have n5_ := am (bd BK420.out)
      have n6_ := am (wd HB.out)
      clear BK393 BK394 BK395 BK404 BK412 BK420 HB
      have BK393 := n0_
      have BK394 := n1_
      have BK395 := n2_
      have BK404 := n3_
      have BK412 := n4_
      have BK420 := n5_
      have HB := n6_
      clear n0_ n1_ n2_ n3_ n4_ n5_ n6_
      refine start_ (n := 29) (S := fun w' => w'.cell? ⟨gb420, 0, none⟩ = some (.int .i64 t413) ∧ w'.cell? ⟨gb420, 1, none⟩ = some (.int .i64 t414) ∧ w'.cell? ⟨gb420, 2, none⟩ = some (.int .i64 t415) ∧ w'.cell? ⟨gb420, 3, none⟩ = some (.int .i64 t416) ∧ w'.cell? ⟨gb420, 4, none⟩ = some (.int .i64 t417) ∧ w'.cell? ⟨gb420, 5, none⟩ = some (.int .i64 t418) ∧ w'.cell? ⟨gb393, 0, none⟩ = some (.int .i64 a0_0) ∧ w'.cell? ⟨gb393, 1, none⟩ = some (.int .i64 a0_1) ∧ w'.cell? ⟨gb393, 2, none⟩ = some (.int .i64 a0_2) ∧ w'.cell? ⟨gb393, 3, none⟩ = some (.int .i64 a0_3) ∧ w'.cell? ⟨gb393, 4, none⟩ = some (.int .i64 a0_4) ∧ w'.cell? ⟨gb393, 5, none⟩ = some (.int .i64 a0_5)) (ds := []) #[F,F,F,F,F,F,F,F,F,F,F,F,F,F,F,F,F,F,F,F,F,F,F,F,F,F,F,F,F] (by kernel_rfl) rfl rfl ⟨(bc BK420.out 0).trans rfl, (bc BK420.out 1).trans rfl, (bc BK420.out 2).trans rfl, (bc BK420.out 3).trans rfl, (bc BK420.out 4).trans rfl, (bc BK420.out 5).trans rfl, (bc BK393.out 0).trans rfl, (bc BK393.out 1).trans rfl, (bc BK393.out 2).trans rfl, (bc BK393.out 3).trans rfl, (bc BK393.out 4).trans rfl, (bc BK393.out 5).trans rfl⟩ (fun hHeld => ?_); refine with_tabW w_BoxMoves.tab10 w_BoxMoves.bits10 (fun HT_ HW_ => ?_)
      generalize w61.drew = w73 at BK393 BK394 BK395 BK404 BK412 BK420 HB hHeld ⊢
      refine pu (i := 0) (N := some 68) (fl 29 1 []) HT_ ?_
      refine pu (i := 1) (N := some 69) (fl 29 2 []) HT_ ?_
      refine pu (i := 2) (N := some 70) (fl 29 3 []) HT_ ?_
      refine tk (i := 3) (N := some 71) (fl 29 4 []) HT_ HW_ hHeld ?_
      refine tk (i := 4) (N := some 72) (fl 29 5 []) HT_ HW_ hHeld ?_
      refine pu (i := 5) (N := some 73) (fl 29 6 []) HT_ ?_
      refine pu (i := 6) (N := some 74) (fl 29 7 []) HT_ ?_
      refine pu (i := 7) (N := some 75) (fl 29 8 []) HT_ ?_
      refine pu (i := 8) (N := some 76) (fl 29 9 []) HT_ ?_
      refine pu (i := 9) (N := some 77) (fl 29 10 []) HT_ ?_
      refine pu (i := 10) (N := some 78) (fl 29 11 []) HT_ ?_
      refine pu (i := 11) (N := some 79) (fl 29 12 []) HT_ ?_
      refine pu (i := 12) (N := some 80) (fl 29 13 []) HT_ ?_
      refine pu (i := 13) (N := some 81) (fl 29 14 []) HT_ ?_
      refine pu (i := 14) (N := some 82) (fl 29 15 []) HT_ ?_
      refine pu (i := 15) (N := some 83) (fl 29 16 []) HT_ ?_
      refine pu (i := 16) (N := some 84) (fl 29 17 []) HT_ ?_
      refine pu (i := 17) (N := some 85) (fl 29 18 []) HT_ ?_
      refine pu (i := 18) (N := some 86) (fl 29 19 []) HT_ ?_
      refine pu (i := 19) (N := some 87) (fl 29 20 []) HT_ ?_
      refine pu (i := 20) (N := some 88) (fl 29 21 []) HT_ ?_
      refine pure_ (i := 21) (N := some 89) (v := undef) (a' := ?_) #[T,T,T,T,T,T,T,T,T,T,T,T,T,T,T,T,T,T,T,T,T,T,F,F,F,F,F,F,F] rfl rfl (any_of HT_.out (by kernel_rfl)) (fun _ _ _ h => h) (Or.inr ⟨by rfl, rfl⟩) ?_ ?_
      rotate_left
      ·simp only [Act.put, psl, i64_w, i32_w]
       rfl
      refine pure_ (i := 22) (N := some 90) (v := undef) (a' := ?_) #[T,T,T,T,T,T,T,T,T,T,T,T,T,T,T,T,T,T,T,T,T,T,T,F,F,F,F,F,F] rfl rfl (any_of HT_.out (by kernel_rfl)) (fun _ _ _ h => h) (Or.inr ⟨by rfl, rfl⟩) ?_ ?_
      rotate_left
      ·simp only [Act.put, psl, i64_w, i32_w]
       rfl
      refine pure_ (i := 23) (N := some 91) (v := undef) (a' := ?_) #[T,T,T,T,T,T,T,T,T,T,T,T,T,T,T,T,T,T,T,T,T,T,T,T,F,F,F,F,F] rfl rfl (any_of HT_.out (by kernel_rfl)) (fun _ _ _ h => h) (Or.inr ⟨by rfl, rfl⟩) ?_ ?_
      rotate_left
      ·simp only [Act.put, psl, i64_w, i32_w]
       rfl
      refine pure_ (i := 24) (N := some 92) (v := undef) (a' := ?_) #[T,T,T,T,T,T,T,T,T,T,T,T,T,T,T,T,T,T,T,T,T,T,T,T,T,F,F,F,F] rfl rfl (any_of HT_.out (by kernel_rfl)) (fun _ _ _ h => h) (Or.inr ⟨by rfl, rfl⟩) ?_ ?_
      rotate_left
      ·simp only [Act.put, psl, i64_w, i32_w]
       rfl
      refine pure_ (i := 25) (N := some 93) (v := undef) (a' := ?_) #[T,T,T,T,T,T,T,T,T,T,T,T,T,T,T,T,T,T,T,T,T,T,T,T,T,T,F,F,F] rfl rfl (any_of HT_.out (by kernel_rfl)) (fun _ _ _ h => h) (Or.inr ⟨by rfl, rfl⟩) ?_ ?_
      rotate_left
      ·simp only [Act.put, psl, i64_w, i32_w]
       rfl
      refine pure_ (i := 26) (N := some 94) (v := undef) (a' := ?_) #[T,T,T,T,T,T,T,T,T,T,T,T,T,T,T,T,T,T,T,T,T,T,T,T,T,T,T,F,F] rfl rfl (any_of HT_.out (by kernel_rfl)) (fun _ _ _ h => h) (Or.inr ⟨by rfl, rfl⟩) ?_ ?_
      rotate_left
      ·simp only [Act.put, psl, i64_w, i32_w]
       rfl
      refine pure_ (i := 27) (N := some 95) (v := undef) (a' := ?_) #[T,T,T,T,T,T,T,T,T,T,T,T,T,T,T,T,T,T,T,T,T,T,T,T,T,T,T,T,F] rfl rfl (any_of HT_.out (by kernel_rfl)) (fun _ _ _ h => h) (Or.inr ⟨by rfl, rfl⟩) ?_ ?_
      rotate_left
      ·simp only [Act.put, psl, i64_w, i32_w]
       rfl
      refine pu (i := 28) (N := some 96) (fl 29 29 []) HT_ ?_
      refine done_ (done_of HT_.out (by kernel_rfl)) ?_
      try go_wp2
      go_meet
      case rel => exact ⟨_, (true), (by first | rfl | (simp; done) | (simp [*]; done)), H', ⟨by have := HJ7.out; first | omega | exact Nat.le_refl _⟩, ⟨by (with_reducible repeat first | apply bN | apply bd | apply ba); exact BK393.out⟩, ⟨by (with_reducible repeat first | apply bN | apply bd | apply ba); exact BK394.out⟩, ⟨by (with_reducible repeat first | apply bN | apply bd | apply ba); exact BK395.out⟩, ⟨by (with_reducible repeat first | apply bN | apply bd | apply ba); exact BK404.out⟩, ⟨by (with_reducible repeat first | apply bN | apply bd | apply ba); exact BK412.out⟩, ⟨by (with_reducible repeat first | apply bN | apply bd | apply ba); exact BK420.out⟩, ⟨by repeat (first | (with_reducible first | exact HB.out | apply wa | apply wN | apply wd | refine ws ?_ GE393.out | refine ws ?_ GE394.out | refine ws ?_ GE395.out | refine ws ?_ GE404.out | refine ws ?_ GE412.out | refine ws ?_ GE420.out) | exact HB.out)⟩⟩
     rw [if_pos c67] at H
     have c67b0 : (t421 == t423) = true := beq_iff_eq.mpr c67
     have c67b1 : (t421 != t423) = false := bne_eq_false_iff_eq.mpr c67
     clear c67
     replace H := Option.bind_eq_some_iff.mp H
     obtain ⟨t425, A680, H⟩ := H
     replace H : ((box_Overlap.f t397 t398 t399 t400 t401 t402 t405 t406 t407 t408 t409 t410).bind fun t426 => (w_BoxMoves.j1 kj7 (t425 != t426) a0_0 a0_1 a0_2 a0_3 a0_4 a0_5 a1_0 a1_1 a1_2 a1_3 a1_4 a1_5 t397 t398 t399 t400 t401 t402 t405 t406 t407 t408 t409 t410)) = some r := H
     have A68 := am A680
     clear A680
     replace H := Option.bind_eq_some_iff.mp H
     obtain ⟨t426, A690, H⟩ := H
     replace H : (w_BoxMoves.j1 kj7 (t425 != t426) a0_0 a0_1 a0_2 a0_3 a0_4 a0_5 a1_0 a1_1 a1_2 a1_3 a1_4 a1_5 t397 t398 t399 t400 t401 t402 t405 t406 t407 t408 t409 t410) = some r := H
     have A69 := am A690
     clear A690
     have H' := am H
     clear H
     try go_wp2
     have n0_ := am (bd BK393.out)
     have n1_ := am (bd BK394.out)
     have n2_ := am (bd BK395.out)
     have n3_ := am (bd BK404.out)
     have n4_ := am (bd BK412.out)
     have n5_ := am (bd BK420.out)
     have n6_ := am (wd HB.out)
     clear BK393 BK394 BK395 BK404 BK412 BK420 HB
     have BK393 := n0_
     have BK394 := n1_
     have BK395 := n2_
     have BK404 := n3_
     have BK412 := n4_
     have BK420 := n5_
     have HB := n6_
     clear n0_ n1_ n2_ n3_ n4_ n5_ n6_
     refine start_ (n := 29) (S := fun w' => w'.cell? ⟨gb420, 0, none⟩ = some (.int .i64 t413) ∧ w'.cell? ⟨gb420, 1, none⟩ = some (.int .i64 t414) ∧ w'.cell? ⟨gb420, 2, none⟩ = some (.int .i64 t415) ∧ w'.cell? ⟨gb420, 3, none⟩ = some (.int .i64 t416) ∧ w'.cell? ⟨gb420, 4, none⟩ = some (.int .i64 t417) ∧ w'.cell? ⟨gb420, 5, none⟩ = some (.int .i64 t418) ∧ w'.cell? ⟨gb393, 0, none⟩ = some (.int .i64 a0_0) ∧ w'.cell? ⟨gb393, 1, none⟩ = some (.int .i64 a0_1) ∧ w'.cell? ⟨gb393, 2, none⟩ = some (.int .i64 a0_2) ∧ w'.cell? ⟨gb393, 3, none⟩ = some (.int .i64 a0_3) ∧ w'.cell? ⟨gb393, 4, none⟩ = some (.int .i64 a0_4) ∧ w'.cell? ⟨gb393, 5, none⟩ = some (.int .i64 a0_5) ∧ w'.cell? ⟨gb394, 0, none⟩ = some (.int .i64 a1_0) ∧ w'.cell? ⟨gb394, 1, none⟩ = some (.int .i64 a1_1) ∧ w'.cell? ⟨gb394, 2, none⟩ = some (.int .i64 a1_2) ∧ w'.cell? ⟨gb394, 3, none⟩ = some (.int .i64 a1_3) ∧ w'.cell? ⟨gb394, 4, none⟩ = some (.int .i64 a1_4) ∧ w'.cell? ⟨gb394, 5, none⟩ = some (.int .i64 a1_5) ∧ w'.cell? ⟨gb404, 0, none⟩ = some (.int .i64 t397) ∧ w'.cell? ⟨gb404, 1, none⟩ = some (.int .i64 t398) ∧ w'.cell? ⟨gb404, 2, none⟩ = some (.int .i64 t399) ∧ w'.cell? ⟨gb404, 3, none⟩ = some (.int .i64 t400) ∧ w'.cell? ⟨gb404, 4, none⟩ = some (.int .i64 t401) ∧ w'.cell? ⟨gb404, 5, none⟩ = some (.int .i64 t402) ∧ w'.cell? ⟨gb412, 0, none⟩ = some (.int .i64 t405) ∧ w'.cell? ⟨gb412, 1, none⟩ = some (.int .i64 t406) ∧ w'.cell? ⟨gb412, 2, none⟩ = some (.int .i64 t407) ∧ w'.cell? ⟨gb412, 3, none⟩ = some (.int .i64 t408) ∧ w'.cell? ⟨gb412, 4, none⟩ = some (.int .i64 t409) ∧ w'.cell? ⟨gb412, 5, none⟩ = some (.int .i64 t410)) (ds := []) #[F,F,F,F,F,F,F,F,F,F,F,F,F,F,F,F,F,F,F,F,F,F,F,F,F,F,F,F,F] (by kernel_rfl) rfl rfl ⟨(bc BK420.out 0).trans rfl, (bc BK420.out 1).trans rfl, (bc BK420.out 2).trans rfl, (bc BK420.out 3).trans rfl, (bc BK420.out 4).trans rfl, (bc BK420.out 5).trans rfl, (bc BK393.out 0).trans rfl, (bc BK393.out 1).trans rfl, (bc BK393.out 2).trans rfl, (bc BK393.out 3).trans rfl, (bc BK393.out 4).trans rfl, (bc BK393.out 5).trans rfl, (bc BK394.out 0).trans rfl, (bc BK394.out 1).trans rfl, (bc BK394.out 2).trans rfl, (bc BK394.out 3).trans rfl, (bc BK394.out 4).trans rfl, (bc BK394.out 5).trans rfl, (bc BK404.out 0).trans rfl, (bc BK404.out 1).trans rfl, (bc BK404.out 2).trans rfl, (bc BK404.out 3).trans rfl, (bc BK404.out 4).trans rfl, (bc BK404.out 5).trans rfl, (bc BK412.out 0).trans rfl, (bc BK412.out 1).trans rfl, (bc BK412.out 2).trans rfl, (bc BK412.out 3).trans rfl, (bc BK412.out 4).trans rfl, (bc BK412.out 5).trans rfl⟩ (fun hHeld => ?_); refine with_tabW w_BoxMoves.tab10 w_BoxMoves.bits10 (fun HT_ HW_ => ?_)
     generalize w61.drew = w70 at BK393 BK394 BK395 BK404 BK412 BK420 HB hHeld ⊢
     refine pu (i := 0) (N := some 68) (fl 29 1 []) HT_ ?_
     refine pu (i := 1) (N := some 69) (fl 29 2 []) HT_ ?_
     refine pu (i := 2) (N := some 70) (fl 29 3 []) HT_ ?_
     refine tk (i := 3) (N := some 71) (fl 29 4 []) HT_ HW_ hHeld ?_
     refine tk (i := 4) (N := some 72) (fl 29 5 []) HT_ HW_ hHeld ?_
     refine pu (i := 5) (N := some 73) (fl 29 6 []) HT_ ?_
     refine pu (i := 6) (N := some 74) (fl 29 7 []) HT_ ?_
     refine pu (i := 7) (N := some 75) (fl 29 8 []) HT_ ?_
     refine pu (i := 8) (N := some 76) (fl 29 9 []) HT_ ?_
     refine pu (i := 9) (N := some 77) (fl 29 10 []) HT_ ?_
     refine pu (i := 10) (N := some 78) (fl 29 11 []) HT_ ?_
     refine pu (i := 11) (N := some 79) (fl 29 12 []) HT_ ?_
     refine pu (i := 12) (N := some 80) (fl 29 13 []) HT_ ?_
     refine pu (i := 13) (N := some 81) (fl 29 14 []) HT_ ?_
     refine pu (i := 14) (N := some 82) (fl 29 15 []) HT_ ?_
     refine pu (i := 15) (N := some 83) (fl 29 16 []) HT_ ?_
     refine pu (i := 16) (N := some 84) (fl 29 17 []) HT_ ?_
     refine pu (i := 17) (N := some 85) (fl 29 18 []) HT_ ?_
     refine pu (i := 18) (N := some 86) (fl 29 19 []) HT_ ?_
     refine pu (i := 19) (N := some 87) (fl 29 20 []) HT_ ?_
     refine pu (i := 20) (N := some 88) (fl 29 21 []) HT_ ?_
     refine tk (i := 21) (N := some 89) (fl 29 22 []) HT_ HW_ hHeld ?_
     refine tk (i := 22) (N := some 90) (fl 29 23 []) HT_ HW_ hHeld ?_
     refine tk (i := 24) (N := some 92) (fl 29 23 [24]) HT_ HW_ hHeld ?_
     refine tk (i := 25) (N := some 93) (fl 29 23 [24, 25]) HT_ HW_ hHeld ?_
     refine one_ (i := 23) (N := some 91) (fl 29 26 []) rfl rfl (one_of HT_.out (by kernel_rfl)) (by decide) (fun K hK => ?_)
     refine goes_ Try.func17 (by kernel_rfl) rfl #[.agg #[.int .i64 a0_0, .int .i64 a0_1, .int .i64 a0_2, .int .i64 a0_3, .int .i64 a0_4, .int .i64 a0_5], .agg #[.int .i64 a1_0, .int .i64 a1_1, .int .i64 a1_2, .int .i64 a1_3, .int .i64 a1_4, .int .i64 a1_5]] (by rfl) rfl rfl (by (try simp only [pml]); first | done | rfl | (simp only [pdt]; rfl)) ?_
     with_reducible refine (box_Overlap.calls a0_0 a0_1 a0_2 a0_3 a0_4 a0_5 a1_0 a1_1 a1_2 a1_3 a1_4 a1_5 t425 _ A68.out).mono ?_
     rintro e w71 ⟨rfl, hb⟩
     refine ⟨_, rfl, ?_⟩
     have n0_ := bB BK393 hb
     have n1_ := bB BK394 hb
     have n2_ := bB BK395 hb
     have n3_ := bB BK404 hb
     have n4_ := bB BK412 hb
     have n5_ := bB BK420 hb
     have n6_ := bS HB hb
     clear BK393 BK394 BK395 BK404 BK412 BK420 HB
     have BK393 := n0_
     have BK394 := n1_
     have BK395 := n2_
     have BK404 := n3_
     have BK412 := n4_
     have BK420 := n5_
     have HB := n6_
     clear n0_ n1_ n2_ n3_ n4_ n5_ n6_
     (try clear hb)
     (try clear hb2)
     (try clear hk)
     (try clear hi)
     refine hK.out _ _ ⟨(bc BK420.out 0).trans rfl, (bc BK420.out 1).trans rfl, (bc BK420.out 2).trans rfl, (bc BK420.out 3).trans rfl, (bc BK420.out 4).trans rfl, (bc BK420.out 5).trans rfl, (bc BK393.out 0).trans rfl, (bc BK393.out 1).trans rfl, (bc BK393.out 2).trans rfl, (bc BK393.out 3).trans rfl, (bc BK393.out 4).trans rfl, (bc BK393.out 5).trans rfl, (bc BK394.out 0).trans rfl, (bc BK394.out 1).trans rfl, (bc BK394.out 2).trans rfl, (bc BK394.out 3).trans rfl, (bc BK394.out 4).trans rfl, (bc BK394.out 5).trans rfl, (bc BK404.out 0).trans rfl, (bc BK404.out 1).trans rfl, (bc BK404.out 2).trans rfl, (bc BK404.out 3).trans rfl, (bc BK404.out 4).trans rfl, (bc BK404.out 5).trans rfl, (bc BK412.out 0).trans rfl, (bc BK412.out 1).trans rfl, (bc BK412.out 2).trans rfl, (bc BK412.out 3).trans rfl, (bc BK412.out 4).trans rfl, (bc BK412.out 5).trans rfl⟩ (fun hHeld => ?_)
     clear hK K
     refine norm_ (a' := ?_) ?_ ?_
     rotate_left
     ·show Act.put _ (some 91) _ = _
      simp only [Act.put, psl, i64_w, i32_w]
      rfl
     refine one_ (i := 26) (N := some 94) (fl 29 27 []) rfl rfl (one_of HT_.out (by kernel_rfl)) (by decide) (fun K hK => ?_)
     refine goes_ Try.func17 (by kernel_rfl) rfl #[.agg #[.int .i64 t397, .int .i64 t398, .int .i64 t399, .int .i64 t400, .int .i64 t401, .int .i64 t402], .agg #[.int .i64 t405, .int .i64 t406, .int .i64 t407, .int .i64 t408, .int .i64 t409, .int .i64 t410]] (by rfl) rfl rfl (by (try simp only [pml]); first | done | rfl | (simp only [pdt]; rfl)) ?_
     with_reducible refine (box_Overlap.calls t397 t398 t399 t400 t401 t402 t405 t406 t407 t408 t409 t410 t426 _ A69.out).mono ?_
     rintro e w72 ⟨rfl, hb⟩
     refine ⟨_, rfl, ?_⟩
     have n0_ := bB BK393 hb
     have n1_ := bB BK394 hb
     have n2_ := bB BK395 hb
     have n3_ := bB BK404 hb
     have n4_ := bB BK412 hb
     have n5_ := bB BK420 hb
     have n6_ := bS HB hb
     clear BK393 BK394 BK395 BK404 BK412 BK420 HB
     have BK393 := n0_
     have BK394 := n1_
     have BK395 := n2_
     have BK404 := n3_
     have BK412 := n4_
     have BK420 := n5_
     have HB := n6_
     clear n0_ n1_ n2_ n3_ n4_ n5_ n6_
     (try clear hb)
     (try clear hb2)
     (try clear hk)
     (try clear hi)
     refine hK.out _ _ ⟨(bc BK420.out 0).trans rfl, (bc BK420.out 1).trans rfl, (bc BK420.out 2).trans rfl, (bc BK420.out 3).trans rfl, (bc BK420.out 4).trans rfl, (bc BK420.out 5).trans rfl, (bc BK393.out 0).trans rfl, (bc BK393.out 1).trans rfl, (bc BK393.out 2).trans rfl, (bc BK393.out 3).trans rfl, (bc BK393.out 4).trans rfl, (bc BK393.out 5).trans rfl, (bc BK394.out 0).trans rfl, (bc BK394.out 1).trans rfl, (bc BK394.out 2).trans rfl, (bc BK394.out 3).trans rfl, (bc BK394.out 4).trans rfl, (bc BK394.out 5).trans rfl, (bc BK404.out 0).trans rfl, (bc BK404.out 1).trans rfl, (bc BK404.out 2).trans rfl, (bc BK404.out 3).trans rfl, (bc BK404.out 4).trans rfl, (bc BK404.out 5).trans rfl, (bc BK412.out 0).trans rfl, (bc BK412.out 1).trans rfl, (bc BK412.out 2).trans rfl, (bc BK412.out 3).trans rfl, (bc BK412.out 4).trans rfl, (bc BK412.out 5).trans rfl⟩ (fun hHeld => ?_)
     clear hK K
     refine norm_ (a' := ?_) ?_ ?_
     rotate_left
     ·show Act.put _ (some 94) _ = _
      simp only [Act.put, psl, i64_w, i32_w]
      rfl
     refine pu (i := 27) (N := some 95) (fl 29 28 []) HT_ ?_
     refine pu (i := 28) (N := some 96) (fl 29 29 []) HT_ ?_
     refine done_ (done_of HT_.out (by kernel_rfl)) ?_
     try go_wp2
     go_meet
     case rel => exact ⟨_, ((t425 != t426)), (by first | rfl | (simp; done) | (simp [*]; done)), H', ⟨by have := HJ7.out; first | omega | exact Nat.le_refl _⟩, ⟨by (with_reducible repeat first | apply bN | apply bd | apply ba); exact BK393.out⟩, ⟨by (with_reducible repeat first | apply bN | apply bd | apply ba); exact BK394.out⟩, ⟨by (with_reducible repeat first | apply bN | apply bd | apply ba); exact BK395.out⟩, ⟨by (with_reducible repeat first | apply bN | apply bd | apply ba); exact BK404.out⟩, ⟨by (with_reducible repeat first | apply bN | apply bd | apply ba); exact BK412.out⟩, ⟨by (with_reducible repeat first | apply bN | apply bd | apply ba); exact BK420.out⟩, ⟨by repeat (first | (with_reducible first | exact HB.out | apply wa | apply wN | apply wd | refine ws ?_ GE393.out | refine ws ?_ GE394.out | refine ws ?_ GE395.out | refine ws ?_ GE404.out | refine ws ?_ GE412.out | refine ws ?_ GE420.out) | exact HB.out)⟩⟩
    case rest =>
     clear HC38
     try clear p2;try clear c6;try clear c62;try clear c62b0;try clear c62b1;try clear c65;try clear c65b0;try clear c65b1
     obtain ⟨kq, x96_37, rfl, HA, HJ37, BK393, BK394, BK395, BK404, BK412, BK420, HB⟩ := hcut
     cases kq with
     | zero => exact absurd HA.out (by simp [w_BoxMoves.j1])
     | succ kj37 =>
      have H := HA.out
      clear HA
      simp only [w_BoxMoves.j1] at H
      by_cases c77 : x96_37 = true
      ·subst c77
       have H1 : (some false) = some r := by rw [if_pos rfl] at H; exact H
       clear H
       have H := H1
       clear H1
       obtain rfl := Option.some.inj H
       go_wp2
       go_ret
       exact ⟨by first | rfl | (simp [errW_none, errW_some] <;> rfl) | (simp [*, errW_none, errW_some] <;> rfl), by repeat (first | (with_reducible first | exact HB.out | apply wa | apply wN | apply wd | refine ws ?_ GE393.out | refine ws ?_ GE394.out | refine ws ?_ GE395.out | refine ws ?_ GE404.out | refine ws ?_ GE412.out | refine ws ?_ GE420.out) | exact HB.out)⟩
      replace c77 := Bool.eq_false_iff.mpr c77
      subst c77
      have H1 : ((box_Touch.f a0_0 a0_1 a0_2 a0_3 a0_4 a0_5 a1_0 a1_1 a1_2 a1_3 a1_4 a1_5).bind fun bt427 => ((box_Touch.f t397 t398 t399 t400 t401 t402 t405 t406 t407 t408 t409 t410).bind fun bt429 => ((box_Touch.f a1_0 a1_1 a1_2 a1_3 a1_4 a1_5 a0_0 a0_1 a0_2 a0_3 a0_4 a0_5).bind fun bt431 => (if bt427.2 = bt429.2 then (if bt427.1 = bt429.1 then (if bt427.2 = bt431.2 then (if bt427.2 = 0 then (if (wrap64 (Int.tdiv bt427.1 2)) = (wrap64 (Int.tdiv bt431.1 2)) then (if bt427.1 = bt431.1 then (w_BoxMoves.j2 kj37 false) else ((box_Overlap.f a0_0 a0_1 a0_2 a0_3 a0_4 a0_5 a1_0 a1_1 a1_2 a1_3 a1_4 a1_5).bind fun t433 => (w_BoxMoves.j2 kj37 (!t433)))) else (w_BoxMoves.j2 kj37 false)) else (w_BoxMoves.j2 kj37 true)) else (w_BoxMoves.j2 kj37 false)) else (w_BoxMoves.j2 kj37 false)) else (w_BoxMoves.j2 kj37 false))))) = some r := by rw [if_neg (show ¬ (false = true) by decide)] at H; exact H
      clear H
      have H := H1
      clear H1
      replace H := Option.bind_eq_some_iff.mp H
      obtain ⟨⟨t427, t428⟩, A780, H⟩ := H
      replace H : ((box_Touch.f t397 t398 t399 t400 t401 t402 t405 t406 t407 t408 t409 t410).bind fun bt429 => ((box_Touch.f a1_0 a1_1 a1_2 a1_3 a1_4 a1_5 a0_0 a0_1 a0_2 a0_3 a0_4 a0_5).bind fun bt431 => (if t428 = bt429.2 then (if t427 = bt429.1 then (if t428 = bt431.2 then (if t428 = 0 then (if (wrap64 (Int.tdiv t427 2)) = (wrap64 (Int.tdiv bt431.1 2)) then (if t427 = bt431.1 then (w_BoxMoves.j2 kj37 false) else ((box_Overlap.f a0_0 a0_1 a0_2 a0_3 a0_4 a0_5 a1_0 a1_1 a1_2 a1_3 a1_4 a1_5).bind fun t433 => (w_BoxMoves.j2 kj37 (!t433)))) else (w_BoxMoves.j2 kj37 false)) else (w_BoxMoves.j2 kj37 true)) else (w_BoxMoves.j2 kj37 false)) else (w_BoxMoves.j2 kj37 false)) else (w_BoxMoves.j2 kj37 false)))) = some r := H
      have A78 := am A780
      clear A780
      replace H := Option.bind_eq_some_iff.mp H
      obtain ⟨⟨t429, t430⟩, A790, H⟩ := H
      replace H : ((box_Touch.f a1_0 a1_1 a1_2 a1_3 a1_4 a1_5 a0_0 a0_1 a0_2 a0_3 a0_4 a0_5).bind fun bt431 => (if t428 = t430 then (if t427 = t429 then (if t428 = bt431.2 then (if t428 = 0 then (if (wrap64 (Int.tdiv t427 2)) = (wrap64 (Int.tdiv bt431.1 2)) then (if t427 = bt431.1 then (w_BoxMoves.j2 kj37 false) else ((box_Overlap.f a0_0 a0_1 a0_2 a0_3 a0_4 a0_5 a1_0 a1_1 a1_2 a1_3 a1_4 a1_5).bind fun t433 => (w_BoxMoves.j2 kj37 (!t433)))) else (w_BoxMoves.j2 kj37 false)) else (w_BoxMoves.j2 kj37 true)) else (w_BoxMoves.j2 kj37 false)) else (w_BoxMoves.j2 kj37 false)) else (w_BoxMoves.j2 kj37 false))) = some r := H
      have A79 := am A790
      clear A790
      replace H := Option.bind_eq_some_iff.mp H
      obtain ⟨⟨t431, t432⟩, A800, H⟩ := H
      replace H : (if t428 = t430 then (if t427 = t429 then (if t428 = t432 then (if t428 = 0 then (if (wrap64 (Int.tdiv t427 2)) = (wrap64 (Int.tdiv t431 2)) then (if t427 = t431 then (w_BoxMoves.j2 kj37 false) else ((box_Overlap.f a0_0 a0_1 a0_2 a0_3 a0_4 a0_5 a1_0 a1_1 a1_2 a1_3 a1_4 a1_5).bind fun t433 => (w_BoxMoves.j2 kj37 (!t433)))) else (w_BoxMoves.j2 kj37 false)) else (w_BoxMoves.j2 kj37 true)) else (w_BoxMoves.j2 kj37 false)) else (w_BoxMoves.j2 kj37 false)) else (w_BoxMoves.j2 kj37 false)) = some r := H
      have A80 := am A800
      clear A800
      have HC81 := am H
      clear H
      have hnb82 := NB393_394.out
      have hnc82 := NB394_393.out
      have hnb83 := NB393_395.out
      have hnc83 := NB395_393.out
      have hnb84 := NB393_404.out
      have hnc84 := NB404_393.out
      have hnb85 := NB393_412.out
      have hnc85 := NB412_393.out
      have hnb86 := NB393_420.out
      have hnc86 := NB420_393.out
      have := yC1 BK393
      have hcz87_1 := kC1 BK393
      have hcz87_2 := kC2 BK393
      have hcz87_3 := kC3 BK393
      have hcz87_4 := kC4 BK393
      have hcz87_5 := kC5 BK393
      have hfz87_0 := bf BK393.out 0
      have hfz87_1 := bf BK393.out 1
      have hfz87_2 := bf BK393.out 2
      have hfz87_3 := bf BK393.out 3
      have hfz87_4 := bf BK393.out 4
      have hfz87_5 := bf BK393.out 5
      have hnb88 := NB394_395.out
      have hnc88 := NB395_394.out
      have hnb89 := NB394_404.out
      have hnc89 := NB404_394.out
      have hnb90 := NB394_412.out
      have hnc90 := NB412_394.out
      have hnb91 := NB394_420.out
      have hnc91 := NB420_394.out
      have := yC1 BK394
      have hcz92_1 := kC1 BK394
      have hcz92_2 := kC2 BK394
      have hcz92_3 := kC3 BK394
      have hcz92_4 := kC4 BK394
      have hcz92_5 := kC5 BK394
      have hfz92_0 := bf BK394.out 0
      have hfz92_1 := bf BK394.out 1
      have hfz92_2 := bf BK394.out 2
      have hfz92_3 := bf BK394.out 3
      have hfz92_4 := bf BK394.out 4
      have hfz92_5 := bf BK394.out 5
      go_upto_region 15 with (first | ((with_reducible refine gc (f := 18) rfl ?_); refine goesL_ (some 100) rfl rfl Try.func18 (by kernel_rfl) rfl #[.agg #[.int .i64 a0_0, .int .i64 a0_1, .int .i64 a0_2, .int .i64 a0_3, .int .i64 a0_4, .int .i64 a0_5], .agg #[.int .i64 a1_0, .int .i64 a1_1, .int .i64 a1_2, .int .i64 a1_3, .int .i64 a1_4, .int .i64 a1_5]] rfl (by (try simp only [pml]); first | done | rfl | (simp only [pdt]; rfl)) ?_; (with_reducible refine (box_Touch.calls a0_0 a0_1 a0_2 a0_3 a0_4 a0_5 a1_0 a1_1 a1_2 a1_3 a1_4 a1_5 t427 t428 _ A78.out).mono ?_); rintro e w93 ⟨rfl, hb⟩; refine ⟨_, rfl, ?_⟩; replace BK393 := bB BK393 hb; replace BK394 := bB BK394 hb; replace BK395 := bB BK395 hb; replace BK404 := bB BK404 hb; replace BK412 := bB BK412 hb; replace BK420 := bB BK420 hb; replace HB := bS HB hb; (try clear hb); (try clear hb2); (try clear hk); (try clear hi); have hnb94 := NB404_395.out; have hnc94 := NB395_404.out; have hnb95 := NB404_412.out; have hnc95 := NB412_404.out; have hnb96 := NB404_420.out; have hnc96 := NB420_404.out; obtain ⟨_, _, _, _, _, _, _, _, _, _, _, _⟩ := zC6 BK404; have hnb98 := NB412_395.out; have hnc98 := NB395_412.out; have hnb99 := NB412_420.out; have hnc99 := NB420_412.out; obtain ⟨_, _, _, _, _, _, _, _, _, _, _, _⟩ := zC6 BK412) | ((with_reducible refine gc (f := 18) rfl ?_); refine goesL_ (some 106) rfl rfl Try.func18 (by kernel_rfl) rfl #[.agg #[.int .i64 t397, .int .i64 t398, .int .i64 t399, .int .i64 t400, .int .i64 t401, .int .i64 t402], .agg #[.int .i64 t405, .int .i64 t406, .int .i64 t407, .int .i64 t408, .int .i64 t409, .int .i64 t410]] rfl (by (try simp only [pml]); first | done | rfl | (simp only [pdt]; rfl)) ?_; (with_reducible refine (box_Touch.calls t397 t398 t399 t400 t401 t402 t405 t406 t407 t408 t409 t410 t429 t430 _ A79.out).mono ?_); rintro e w101 ⟨rfl, hb⟩; refine ⟨_, rfl, ?_⟩; replace BK393 := bB BK393 hb; replace BK394 := bB BK394 hb; replace BK395 := bB BK395 hb; replace BK404 := bB BK404 hb; replace BK412 := bB BK412 hb; replace BK420 := bB BK420 hb; replace HB := bS HB hb; (try clear hb); (try clear hb2); (try clear hk); (try clear hi); obtain ⟨_, _, _, _, _, _, _, _, _, _, _, _⟩ := zC6 BK394; obtain ⟨_, _, _, _, _, _, _, _, _, _, _, _⟩ := zC6 BK393) | ((with_reducible refine gc (f := 18) rfl ?_); refine goesL_ (some 112) rfl rfl Try.func18 (by kernel_rfl) rfl #[.agg #[.int .i64 a1_0, .int .i64 a1_1, .int .i64 a1_2, .int .i64 a1_3, .int .i64 a1_4, .int .i64 a1_5], .agg #[.int .i64 a0_0, .int .i64 a0_1, .int .i64 a0_2, .int .i64 a0_3, .int .i64 a0_4, .int .i64 a0_5]] rfl (by (try simp only [pml]); first | done | rfl | (simp only [pdt]; rfl)) ?_; (with_reducible refine (box_Touch.calls a1_0 a1_1 a1_2 a1_3 a1_4 a1_5 a0_0 a0_1 a0_2 a0_3 a0_4 a0_5 t431 t432 _ A80.out).mono ?_); rintro e w104 ⟨rfl, hb⟩; refine ⟨_, rfl, ?_⟩; replace BK393 := bB BK393 hb; replace BK394 := bB BK394 hb; replace BK395 := bB BK395 hb; replace BK404 := bB BK404 hb; replace BK412 := bB BK412 hb; replace BK420 := bB BK420 hb; replace HB := bS HB hb; (try clear hb); (try clear hb2); (try clear hk); (try clear hi)))
      (try simp only [Act.put, psl])
      go_cut [6] (fun v6 wc => ∃ (kq : Nat) (x6_80 : Bool), v6 = .bool x6_80 ∧ Aside0 (w_BoxMoves.j2 kq x6_80 = some r) ∧ Aside0 (kq ≤ kj37) ∧ Aside0 (wc.heap[gb393]? = some (.cells #[.int .i64 a0_0, .int .i64 a0_1, .int .i64 a0_2, .int .i64 a0_3, .int .i64 a0_4, .int .i64 a0_5] 25 (0, 0))) ∧ Aside0 (wc.heap[gb394]? = some (.cells #[.int .i64 a1_0, .int .i64 a1_1, .int .i64 a1_2, .int .i64 a1_3, .int .i64 a1_4, .int .i64 a1_5] 25 (0, 0))) ∧ Aside0 (wc.heap[gb395]? = some (.cells #[.int .i64 a2_0, .int .i64 a2_1, .int .i64 a2_2] 23 (0, 0))) ∧ Aside0 (wc.heap[gb404]? = some (.cells #[.int .i64 t397, .int .i64 t398, .int .i64 t399, .int .i64 t400, .int .i64 t401, .int .i64 t402] 25 (0, 0))) ∧ Aside0 (wc.heap[gb412]? = some (.cells #[.int .i64 t405, .int .i64 t406, .int .i64 t407, .int .i64 t408, .int .i64 t409, .int .i64 t410] 25 (0, 0))) ∧ Aside0 (wc.heap[gb420]? = some (.cells #[.int .i64 t413, .int .i64 t414, .int .i64 t415, .int .i64 t416, .int .i64 t417, .int .i64 t418] 25 (0, 0))) ∧ Aside0 (Below w.heap.size w wc))
      case first =>
       have H := HC81.out
       clear HC81
       by_cases c105 : t428 = t430
       rotate_left
       ·rw [if_neg c105] at H
        have c105b0 : (t428 == t430) = false := beq_eq_false_iff_ne.mpr c105
        have c105b1 : (t428 != t430) = true := bne_iff_ne.mpr c105
        (first | rw [c105b0] | (simp only [i64_w, i32_w]; rw [c105b0]) | skip)
        have H' := am H
        clear H
        go_wp2
        go_meet
        case rel => exact ⟨_, (false), (by first | rfl | (simp; done) | (simp [*]; done)), H', ⟨by have := HJ7.out; have := HJ37.out; first | omega | exact Nat.le_refl _⟩, ⟨by (with_reducible repeat first | apply bN | apply bd | apply ba); exact BK393.out⟩, ⟨by (with_reducible repeat first | apply bN | apply bd | apply ba); exact BK394.out⟩, ⟨by (with_reducible repeat first | apply bN | apply bd | apply ba); exact BK395.out⟩, ⟨by (with_reducible repeat first | apply bN | apply bd | apply ba); exact BK404.out⟩, ⟨by (with_reducible repeat first | apply bN | apply bd | apply ba); exact BK412.out⟩, ⟨by (with_reducible repeat first | apply bN | apply bd | apply ba); exact BK420.out⟩, ⟨by repeat (first | (with_reducible first | exact HB.out | apply wa | apply wN | apply wd | refine ws ?_ GE393.out | refine ws ?_ GE394.out | refine ws ?_ GE395.out | refine ws ?_ GE404.out | refine ws ?_ GE412.out | refine ws ?_ GE420.out) | exact HB.out)⟩⟩
       rw [if_pos c105] at H
       have c105b0 : (t428 == t430) = true := beq_iff_eq.mpr c105
       have c105b1 : (t428 != t430) = false := bne_eq_false_iff_eq.mpr c105
       clear c105
       (first | rw [c105b0] | (simp only [i64_w, i32_w]; rw [c105b0]) | skip)
       by_cases c106 : t427 = t429
       rotate_left
       ·rw [if_neg c106] at H
        have c106b0 : (t427 == t429) = false := beq_eq_false_iff_ne.mpr c106
        have c106b1 : (t427 != t429) = true := bne_iff_ne.mpr c106
        have H' := am H
        clear H
        go_wp2
        go_meet
        case rel => exact ⟨_, (false), (by first | rfl | (simp; done) | (simp [*]; done)), H', ⟨by have := HJ7.out; have := HJ37.out; first | omega | exact Nat.le_refl _⟩, ⟨by (with_reducible repeat first | apply bN | apply bd | apply ba); exact BK393.out⟩, ⟨by (with_reducible repeat first | apply bN | apply bd | apply ba); exact BK394.out⟩, ⟨by (with_reducible repeat first | apply bN | apply bd | apply ba); exact BK395.out⟩, ⟨by (with_reducible repeat first | apply bN | apply bd | apply ba); exact BK404.out⟩, ⟨by (with_reducible repeat first | apply bN | apply bd | apply ba); exact BK412.out⟩, ⟨by (with_reducible repeat first | apply bN | apply bd | apply ba); exact BK420.out⟩, ⟨by repeat (first | (with_reducible first | exact HB.out | apply wa | apply wN | apply wd | refine ws ?_ GE393.out | refine ws ?_ GE394.out | refine ws ?_ GE395.out | refine ws ?_ GE404.out | refine ws ?_ GE412.out | refine ws ?_ GE420.out) | exact HB.out)⟩⟩
       rw [if_pos c106] at H
       have c106b0 : (t427 == t429) = true := beq_iff_eq.mpr c106
       have c106b1 : (t427 != t429) = false := bne_eq_false_iff_eq.mpr c106
       clear c106
       by_cases c107 : t428 = t432
       rotate_left
       ·rw [if_neg c107] at H
        have c107b0 : (t428 == t432) = false := beq_eq_false_iff_ne.mpr c107
        have c107b1 : (t428 != t432) = true := bne_iff_ne.mpr c107
        have H' := am H
        clear H
        go_wp2
        go_meet
        case rel => exact ⟨_, (false), (by first | rfl | (simp; done) | (simp [*]; done)), H', ⟨by have := HJ7.out; have := HJ37.out; first | omega | exact Nat.le_refl _⟩, ⟨by (with_reducible repeat first | apply bN | apply bd | apply ba); exact BK393.out⟩, ⟨by (with_reducible repeat first | apply bN | apply bd | apply ba); exact BK394.out⟩, ⟨by (with_reducible repeat first | apply bN | apply bd | apply ba); exact BK395.out⟩, ⟨by (with_reducible repeat first | apply bN | apply bd | apply ba); exact BK404.out⟩, ⟨by (with_reducible repeat first | apply bN | apply bd | apply ba); exact BK412.out⟩, ⟨by (with_reducible repeat first | apply bN | apply bd | apply ba); exact BK420.out⟩, ⟨by repeat (first | (with_reducible first | exact HB.out | apply wa | apply wN | apply wd | refine ws ?_ GE393.out | refine ws ?_ GE394.out | refine ws ?_ GE395.out | refine ws ?_ GE404.out | refine ws ?_ GE412.out | refine ws ?_ GE420.out) | exact HB.out)⟩⟩
       rw [if_pos c107] at H
       have c107b0 : (t428 == t432) = true := beq_iff_eq.mpr c107
       have c107b1 : (t428 != t432) = false := bne_eq_false_iff_eq.mpr c107
       clear c107
       by_cases c108 : t428 = 0
       rotate_left
       ·rw [if_neg c108] at H
        have c108b0 : (t428 == 0) = false := beq_eq_false_iff_ne.mpr c108
        have c108b1 : (t428 != 0) = true := bne_iff_ne.mpr c108
        have H' := am H
        clear H
        go_wp2
        go_meet
        case rel => exact ⟨_, (true), (by first | rfl | (simp; done) | (simp [*]; done)), H', ⟨by have := HJ7.out; have := HJ37.out; first | omega | exact Nat.le_refl _⟩, ⟨by (with_reducible repeat first | apply bN | apply bd | apply ba); exact BK393.out⟩, ⟨by (with_reducible repeat first | apply bN | apply bd | apply ba); exact BK394.out⟩, ⟨by (with_reducible repeat first | apply bN | apply bd | apply ba); exact BK395.out⟩, ⟨by (with_reducible repeat first | apply bN | apply bd | apply ba); exact BK404.out⟩, ⟨by (with_reducible repeat first | apply bN | apply bd | apply ba); exact BK412.out⟩, ⟨by (with_reducible repeat first | apply bN | apply bd | apply ba); exact BK420.out⟩, ⟨by repeat (first | (with_reducible first | exact HB.out | apply wa | apply wN | apply wd | refine ws ?_ GE393.out | refine ws ?_ GE394.out | refine ws ?_ GE395.out | refine ws ?_ GE404.out | refine ws ?_ GE412.out | refine ws ?_ GE420.out) | exact HB.out)⟩⟩
       rw [if_pos c108] at H
       have c108b0 : (t428 == 0) = true := beq_iff_eq.mpr c108
       have c108b1 : (t428 != 0) = false := bne_eq_false_iff_eq.mpr c108
       clear c108
       by_cases c109 : (wrap64 (Int.tdiv t427 2)) = (wrap64 (Int.tdiv t431 2))
       rotate_left
       ·rw [if_neg c109] at H
        have c109b0 : ((wrap64 (Int.tdiv t427 2)) == (wrap64 (Int.tdiv t431 2))) = false := beq_eq_false_iff_ne.mpr c109
        have c109b1 : ((wrap64 (Int.tdiv t427 2)) != (wrap64 (Int.tdiv t431 2))) = true := bne_iff_ne.mpr c109
        have H' := am H
        clear H
        go_wp2
        go_meet
        case rel => exact ⟨_, (false), (by first | rfl | (simp; done) | (simp [*]; done)), H', ⟨by have := HJ7.out; have := HJ37.out; first | omega | exact Nat.le_refl _⟩, ⟨by (with_reducible repeat first | apply bN | apply bd | apply ba); exact BK393.out⟩, ⟨by (with_reducible repeat first | apply bN | apply bd | apply ba); exact BK394.out⟩, ⟨by (with_reducible repeat first | apply bN | apply bd | apply ba); exact BK395.out⟩, ⟨by (with_reducible repeat first | apply bN | apply bd | apply ba); exact BK404.out⟩, ⟨by (with_reducible repeat first | apply bN | apply bd | apply ba); exact BK412.out⟩, ⟨by (with_reducible repeat first | apply bN | apply bd | apply ba); exact BK420.out⟩, ⟨by repeat (first | (with_reducible first | exact HB.out | apply wa | apply wN | apply wd | refine ws ?_ GE393.out | refine ws ?_ GE394.out | refine ws ?_ GE395.out | refine ws ?_ GE404.out | refine ws ?_ GE412.out | refine ws ?_ GE420.out) | exact HB.out)⟩⟩
       rw [if_pos c109] at H
       have c109b0 : ((wrap64 (Int.tdiv t427 2)) == (wrap64 (Int.tdiv t431 2))) = true := beq_iff_eq.mpr c109
       have c109b1 : ((wrap64 (Int.tdiv t427 2)) != (wrap64 (Int.tdiv t431 2))) = false := bne_eq_false_iff_eq.mpr c109
       clear c109
       by_cases c110 : t427 = t431
       ·rw [if_pos c110] at H
        have c110b0 : (t427 == t431) = true := beq_iff_eq.mpr c110
        have c110b1 : (t427 != t431) = false := bne_eq_false_iff_eq.mpr c110
        clear c110
        have H' := am H
        clear H
        go_wp2
        go_meet
        case rel => exact ⟨_, (false), (by first | rfl | (simp; done) | (simp [*]; done)), H', ⟨by have := HJ7.out; have := HJ37.out; first | omega | exact Nat.le_refl _⟩, ⟨by (with_reducible repeat first | apply bN | apply bd | apply ba); exact BK393.out⟩, ⟨by (with_reducible repeat first | apply bN | apply bd | apply ba); exact BK394.out⟩, ⟨by (with_reducible repeat first | apply bN | apply bd | apply ba); exact BK395.out⟩, ⟨by (with_reducible repeat first | apply bN | apply bd | apply ba); exact BK404.out⟩, ⟨by (with_reducible repeat first | apply bN | apply bd | apply ba); exact BK412.out⟩, ⟨by (with_reducible repeat first | apply bN | apply bd | apply ba); exact BK420.out⟩, ⟨by repeat (first | (with_reducible first | exact HB.out | apply wa | apply wN | apply wd | refine ws ?_ GE393.out | refine ws ?_ GE394.out | refine ws ?_ GE395.out | refine ws ?_ GE404.out | refine ws ?_ GE412.out | refine ws ?_ GE420.out) | exact HB.out)⟩⟩
       rw [if_neg c110] at H
       have c110b0 : (t427 == t431) = false := beq_eq_false_iff_ne.mpr c110
       have c110b1 : (t427 != t431) = true := bne_iff_ne.mpr c110
       replace H := Option.bind_eq_some_iff.mp H
       obtain ⟨t433, A1110, H⟩ := H
       replace H : (w_BoxMoves.j2 kj37 (!t433)) = some r := H
       have A111 := am A1110
       clear A1110
       have H' := am H
       clear H
       have hnb112 := NB393_394.out
       have hnc112 := NB394_393.out
       have hnb113 := NB393_395.out
       have hnc113 := NB395_393.out
       have hnb114 := NB393_404.out
       have hnc114 := NB404_393.out
       have hnb115 := NB393_412.out
       have hnc115 := NB412_393.out
       have hnb116 := NB393_420.out
       have hnc116 := NB420_393.out
       have := yC1 BK393
       have hcz117_1 := kC1 BK393
       have hcz117_2 := kC2 BK393
       have hcz117_3 := kC3 BK393
       have hcz117_4 := kC4 BK393
       have hcz117_5 := kC5 BK393
       have hfz117_0 := bf BK393.out 0
       have hfz117_1 := bf BK393.out 1
       have hfz117_2 := bf BK393.out 2
       have hfz117_3 := bf BK393.out 3
       have hfz117_4 := bf BK393.out 4
       have hfz117_5 := bf BK393.out 5
       have hnb118 := NB394_395.out
       have hnc118 := NB395_394.out
       have hnb119 := NB394_404.out
       have hnc119 := NB404_394.out
       have hnb120 := NB394_412.out
       have hnc120 := NB412_394.out
       have hnb121 := NB394_420.out
       have hnc121 := NB420_394.out
       have := yC1 BK394
       have hcz122_1 := kC1 BK394
       have hcz122_2 := kC2 BK394
       have hcz122_3 := kC3 BK394
       have hcz122_4 := kC4 BK394
       have hcz122_5 := kC5 BK394
       have hfz122_0 := bf BK394.out 0
       have hfz122_1 := bf BK394.out 1
       have hfz122_2 := bf BK394.out 2
       have hfz122_3 := bf BK394.out 3
       have hfz122_4 := bf BK394.out 4
       have hfz122_5 := bf BK394.out 5
       go_wp2_with (first | (go_at_call 17; (with_reducible refine (box_Overlap.calls a0_0 a0_1 a0_2 a0_3 a0_4 a0_5 a1_0 a1_1 a1_2 a1_3 a1_4 a1_5 t433 _ A111.out).mono ?_); rintro e w123 ⟨rfl, hb⟩; replace BK393 := bB BK393 hb; replace BK394 := bB BK394 hb; replace BK395 := bB BK395 hb; replace BK404 := bB BK404 hb; replace BK412 := bB BK412 hb; replace BK420 := bB BK420 hb; replace HB := bS HB hb; (try clear hb); (try clear hb2); (try clear hk); (try clear hi)))
       go_meet
       case rel => exact ⟨_, (!t433), (by first | rfl | (simp; done) | (simp [*]; done)), H', ⟨by have := HJ7.out; have := HJ37.out; first | omega | exact Nat.le_refl _⟩, ⟨by (with_reducible repeat first | apply bN | apply bd | apply ba); exact BK393.out⟩, ⟨by (with_reducible repeat first | apply bN | apply bd | apply ba); exact BK394.out⟩, ⟨by (with_reducible repeat first | apply bN | apply bd | apply ba); exact BK395.out⟩, ⟨by (with_reducible repeat first | apply bN | apply bd | apply ba); exact BK404.out⟩, ⟨by (with_reducible repeat first | apply bN | apply bd | apply ba); exact BK412.out⟩, ⟨by (with_reducible repeat first | apply bN | apply bd | apply ba); exact BK420.out⟩, ⟨by repeat (first | (with_reducible first | exact HB.out | apply wa | apply wN | apply wd | refine ws ?_ GE393.out | refine ws ?_ GE394.out | refine ws ?_ GE395.out | refine ws ?_ GE404.out | refine ws ?_ GE412.out | refine ws ?_ GE420.out) | exact HB.out)⟩⟩
      case rest =>
       clear HC81
       try clear c1;try clear p2;try clear c6;try clear p6;try clear c7;try clear c8;try clear c9;try clear c10;try clear c11;try clear c12;try clear c18;try clear c62;try clear c62b0;try clear c62b1;try clear p64;try clear c65;try clear c65b0;try clear c65b1;try clear c77;try clear c82;try clear c83;try clear c84;try clear c85;try clear c86;try clear c88;try clear c89;try clear c90;try clear c91;try clear c94;try clear c95;try clear c96;try clear c98;try clear c99;try clear c105;try clear c105b0;try clear c105b1;try clear c106;try clear c106b0;try clear c106b1;try clear c107;try clear c107b0;try clear c107b1;try clear c108;try clear c108b0;try clear c108b1;try clear c109;try clear c109b0;try clear c109b1;try clear c110;try clear c110b0;try clear c110b1;try clear c112;try clear c113;try clear c114;try clear c115;try clear c116;try clear c118;try clear c119;try clear c120;try clear c121;try clear hcz100_0;try clear hcz100_1;try clear hcz100_2;try clear hcz100_3;try clear hcz100_4;try clear hcz100_5;try clear hcz102_0;try clear hcz102_1;try clear hcz102_2;try clear hcz102_3;try clear hcz102_4;try clear hcz102_5;try clear hcz103_0;try clear hcz103_1;try clear hcz103_2;try clear hcz103_3;try clear hcz103_4;try clear hcz103_5;try clear hcz117_0;try clear hcz117_1;try clear hcz117_2;try clear hcz117_3;try clear hcz117_4;try clear hcz117_5;try clear hcz122_0;try clear hcz122_1;try clear hcz122_2;try clear hcz122_3;try clear hcz122_4;try clear hcz122_5;try clear hcz87_0;try clear hcz87_1;try clear hcz87_2;try clear hcz87_3;try clear hcz87_4;try clear hcz87_5;try clear hcz92_0;try clear hcz92_1;try clear hcz92_2;try clear hcz92_3;try clear hcz92_4;try clear hcz92_5;try clear hcz97_0;try clear hcz97_1;try clear hcz97_2;try clear hcz97_3;try clear hcz97_4;try clear hcz97_5;try clear hfz100_0;try clear hfz100_1;try clear hfz100_2;try clear hfz100_3;try clear hfz100_4;try clear hfz100_5;try clear hfz102_0;try clear hfz102_1;try clear hfz102_2;try clear hfz102_3;try clear hfz102_4;try clear hfz102_5;try clear hfz103_0;try clear hfz103_1;try clear hfz103_2;try clear hfz103_3;try clear hfz103_4;try clear hfz103_5;try clear hfz117_0;try clear hfz117_1;try clear hfz117_2;try clear hfz117_3;try clear hfz117_4;try clear hfz117_5;try clear hfz122_0;try clear hfz122_1;try clear hfz122_2;try clear hfz122_3;try clear hfz122_4;try clear hfz122_5;try clear hfz87_0;try clear hfz87_1;try clear hfz87_2;try clear hfz87_3;try clear hfz87_4;try clear hfz87_5;try clear hfz92_0;try clear hfz92_1;try clear hfz92_2;try clear hfz92_3;try clear hfz92_4;try clear hfz92_5;try clear hfz97_0;try clear hfz97_1;try clear hfz97_2;try clear hfz97_3;try clear hfz97_4;try clear hfz97_5;try clear p2
       obtain ⟨kq, x6_80, rfl, HA, HJ80, BK393, BK394, BK395, BK404, BK412, BK420, HB⟩ := hcut
       cases kq with
       | zero => exact absurd HA.out (by simp [w_BoxMoves.j2])
       | succ kj80 =>
        have H := HA.out
        clear HA
        simp only [w_BoxMoves.j2] at H
        obtain rfl := Option.some.inj H
        go_wp2
        go_ret
        exact ⟨by first | rfl | (simp [errW_none, errW_some] <;> rfl) | (simp [*, errW_none, errW_some] <;> rfl), by repeat (first | (with_reducible first | exact HB.out | apply wa | apply wN | apply wd | refine ws ?_ GE393.out | refine ws ?_ GE394.out | refine ws ?_ GE395.out | refine ws ?_ GE404.out | refine ws ?_ GE412.out | refine ws ?_ GE420.out) | exact HB.out)⟩
 ·replace c5 := Bool.eq_false_iff.mpr c5
  subst c5
  have H1 : (some false) = some r := by rw [if_neg (show ¬ (false = true) by decide)] at H; exact H
  clear H
  have H := H1
  clear H1
  obtain rfl := Option.some.inj H
  go_enter Try.func4, Try.ntmps4
  go_wp2_with (first | ((with_reducible refine gate_dst (N := 3) rfl ?_); refine be ?hg (N := 3) ?hd (cs := #[.int .i64 a0_0, .int .i64 a0_1, .int .i64 a0_2, .int .i64 a0_3, .int .i64 a0_4, .int .i64 a0_5]) (t := 25) ?hr ?_; (case hd | hg => rfl); (case hr => first | (go_simp; done) | (go_simp; rfl)); intro gb393 hg w124 hbox hb; have BK393 := am hbox; have GW393 := sG HB hg; have GE393 := sG HB hg; replace HB := bS HB hb; clear hb hbox hg) | ((with_reducible refine gate_dst (N := 4) rfl ?_); refine be ?hg (N := 4) ?hd (cs := #[.int .i64 a1_0, .int .i64 a1_1, .int .i64 a1_2, .int .i64 a1_3, .int .i64 a1_4, .int .i64 a1_5]) (t := 25) ?hr ?_; (case hd | hg => rfl); (case hr => first | (go_simp; done) | (go_simp; rfl)); intro gb394 hg w125 hbox hb; have BK394 := am hbox; have GW394 := sG HB hg; have GE394 := sG HB hg; replace HB := bS HB hb; have NB393_394 := nL BK393 hg; have NB394_393 := nG BK393 hg; replace BK393 := bB BK393 hb; clear hb hbox hg) | ((with_reducible refine gate_dst (N := 5) rfl ?_); refine be ?hg (N := 5) ?hd (cs := #[.int .i64 a2_0, .int .i64 a2_1, .int .i64 a2_2]) (t := 23) ?hr ?_; (case hd | hg => rfl); (case hr => first | (go_simp; done) | (go_simp; rfl)); intro gb395 hg w126 hbox hb; have BK395 := am hbox; have GW395 := sG HB hg; have GE395 := sG HB hg; replace HB := bS HB hb; have NB393_395 := nL BK393 hg; have NB395_393 := nG BK393 hg; replace BK393 := bB BK393 hb; have NB394_395 := nL BK394 hg; have NB395_394 := nG BK394 hg; replace BK394 := bB BK394 hb; clear hb hbox hg) | ((with_reducible refine gc (f := 11) rfl ?_); refine goesL_ (some 23) rfl rfl Try.func11 (by kernel_rfl) rfl #[] rfl (by (try simp only [pml]); first | done | rfl | (simp only [pdt]; rfl)) ?_; (with_reducible refine (w_awake.calls  false _ A4.out).mono ?_); rintro e w127 ⟨rfl, hb⟩; refine ⟨_, rfl, ?_⟩; replace BK393 := bB BK393 hb; replace BK394 := bB BK394 hb; replace BK395 := bB BK395 hb; replace HB := bS HB hb; (try clear hb); (try clear hb2); (try clear hk); (try clear hi)))
  go_ret
  exact ⟨by first | rfl | (simp [errW_none, errW_some] <;> rfl) | (simp [*, errW_none, errW_some] <;> rfl), by repeat (first | (with_reducible first | exact HB.out | apply wa | apply wN | apply wd | refine ws ?_ GE393.out | refine ws ?_ GE394.out | refine ws ?_ GE395.out) | exact HB.out)⟩

def w_BoxMoves.Pure : Prop := ∀ (a0_0 : Int) (a0_1 : Int) (a0_2 : Int) (a0_3 : Int) (a0_4 : Int) (a0_5 : Int) (a1_0 : Int) (a1_1 : Int) (a1_2 : Int) (a1_3 : Int) (a1_4 : Int) (a1_5 : Int) (a2_0 : Int) (a2_1 : Int) (a2_2 : Int), ((Lit.int .i64 a0_0).wf = true) → ((Lit.int .i64 a0_1).wf = true) → ((Lit.int .i64 a0_2).wf = true) → ((Lit.int .i64 a0_3).wf = true) → ((Lit.int .i64 a0_4).wf = true) → ((Lit.int .i64 a0_5).wf = true) → ((Lit.int .i64 a1_0).wf = true) → ((Lit.int .i64 a1_1).wf = true) → ((Lit.int .i64 a1_2).wf = true) → ((Lit.int .i64 a1_3).wf = true) → ((Lit.int .i64 a1_4).wf = true) → ((Lit.int .i64 a1_5).wf = true) → ((Lit.int .i64 a2_0).wf = true) → ((Lit.int .i64 a2_1).wf = true) → ((Lit.int .i64 a2_2).wf = true) → ∃ k, w_BoxMoves.f k a0_0 a0_1 a0_2 a0_3 a0_4 a0_5 a1_0 a1_1 a1_2 a1_3 a1_4 a1_5 a2_0 a2_1 a2_2 = some true
theorem w_BoxMoves.walk (P_ : w_BoxMoves.Pure) (a0_0 : Int) (a0_1 : Int) (a0_2 : Int) (a0_3 : Int) (a0_4 : Int) (a0_5 : Int) (a1_0 : Int) (a1_1 : Int) (a1_2 : Int) (a1_3 : Int) (a1_4 : Int) (a1_5 : Int) (a2_0 : Int) (a2_1 : Int) (a2_2 : Int) (w : World) (o0 : ((Lit.int .i64 a0_0).wf = true)) (o1 : ((Lit.int .i64 a0_1).wf = true)) (o2 : ((Lit.int .i64 a0_2).wf = true)) (o3 : ((Lit.int .i64 a0_3).wf = true)) (o4 : ((Lit.int .i64 a0_4).wf = true)) (o5 : ((Lit.int .i64 a0_5).wf = true)) (o6 : ((Lit.int .i64 a1_0).wf = true)) (o7 : ((Lit.int .i64 a1_1).wf = true)) (o8 : ((Lit.int .i64 a1_2).wf = true)) (o9 : ((Lit.int .i64 a1_3).wf = true)) (o10 : ((Lit.int .i64 a1_4).wf = true)) (o11 : ((Lit.int .i64 a1_5).wf = true)) (o12 : ((Lit.int .i64 a2_0).wf = true)) (o13 : ((Lit.int .i64 a2_1).wf = true)) (o14 : ((Lit.int .i64 a2_2).wf = true)) :
  Calls Try.prog 4 #[.agg #[.int .i64 a0_0, .int .i64 a0_1, .int .i64 a0_2, .int .i64 a0_3, .int .i64 a0_4, .int .i64 a0_5], .agg #[.int .i64 a1_0, .int .i64 a1_1, .int .i64 a1_2, .int .i64 a1_3, .int .i64 a1_4, .int .i64 a1_5], .agg #[.int .i64 a2_0, .int .i64 a2_1, .int .i64 a2_2]] w fun e w' => e = .returned (.bool true) ∧ Below w.heap.size w w' := by
 obtain ⟨k, h⟩ := P_ a0_0 a0_1 a0_2 a0_3 a0_4 a0_5 a1_0 a1_1 a1_2 a1_3 a1_4 a1_5 a2_0 a2_1 a2_2 o0 o1 o2 o3 o4 o5 o6 o7 o8 o9 o10 o11 o12 o13 o14
 refine (w_BoxMoves.calls k a0_0 a0_1 a0_2 a0_3 a0_4 a0_5 a1_0 a1_1 a1_2 a1_3 a1_4 a1_5 a2_0 a2_1 a2_2 true w  h).mono ?_
 rintro e w' ⟨rfl, hd⟩
 exact ⟨rfl, hd⟩

end Go.Proofs.Ytmmdikhmlmoolaa.QA
