import Derived.Test.YtpjgmlnnhcnelaaDXQAx0
import Derived.Test.YtpjgmlnnhcnelaaDXQAx2
import Derived.Test.YtpjgmlnnhcnelaaDXQAx8
import Derived.Test.YtpjgmlnnhcnelaaDXQAx9
import Derived.Test.YtpjgmlnnhcnelaaDXQAx23
import Derived.Test.YtpjgmlnnhcnelaaDXQAx24
import Derived.Test.YtpjgmlnnhcnelaaDXQAx25
namespace Go.Proofs.Ytpjgmlnnhcnelaa.QA
open Go.RowKit Go.Proofs.YtpjgmlnnhcnelaaW.PrintWords Go.Proofs.YtpjgmlnnhcnelaaW.PrintLast Go.Proofs.YtpjgmlnnhcnelaaW.PrintMore
open Go.Proofs.YtpjgmlnnhcnelaaW.PrintWords renaming blk_drewN → bN, blk_drew → bd, blk_alloc → ba, blk_frozen → bf, blk_cell → bc, below_size → wz, cell_far → cf, gate_callee → gc
open Aside0 renaming mk → am
attribute [local go_sem] max2_int min2_int max_two min_two max_three min_three max_four min_four
set_option linter.unusedVariables false
set_option linter.unusedSimpArgs false

mutual
def w_ShiftCommon.j0 : Nat → Bool → List (S54) → List Int → List (S54) → List Int → Option (Bool)
 | 0, _, _, _, _, _ => none
 | k + 1, x19, x505000, x505001, x506000, x506001 => if x19 = true then ((w_awake.f k).bind fun t508 => (some t508)) else ((w_ours.f x505000 x505001).bind fun bt509 => ((w_ours.f x506000 x506001).bind fun bt515 => ((shift_Common.f k bt509.1 bt509.2 bt515.1 bt515.2).bind fun bt521 => ((r_Check.f k x505000 x505001).bind fun t529 => (if t529 = 0 then ((r_Check.f k x506000 x506001).bind fun t530 => (w_ShiftCommon.j1 k bt521.2.2 t530 x505000 x505001 x506000 x506001 bt521.1 bt521.2.1)) else (w_ShiftCommon.j1 k bt521.2.2 t529 x505000 x505001 x506000 x506001 bt521.1 bt521.2.1))))))
def w_ShiftCommon.j1 : Nat → Int → Int → List (S54) → List Int → List (S54) → List Int → List (S54) → List Int → Option (Bool)
 | 0, _, _, _, _, _, _, _, _ => none
 | k + 1, x6, x7, x505000, x505001, x506000, x506001, x529000, x529001 => if x7 = 0 then ((r_Common.f k x505000 x505001 x506000 x506001).bind fun bt533 => ((w_ours.f x506000 x506001).bind fun bt541 => ((w_ours.f x505000 x505001).bind fun bt547 => ((shift_Common.f k bt541.1 bt541.2 bt547.1 bt547.2).bind fun bt553 => ((w_awake.f k).bind fun t561 => (if t561 = true then (if x6 = bt533.2.2 then ((r_Same.f k x529000 x529001 bt533.1 bt533.2.1).bind fun t562 => (if t562 = true then (if bt553.2.2 = bt533.2.2 then ((r_Same.f k bt553.1 bt553.2.1 bt533.1 bt533.2.1).bind fun t563 => (w_ShiftCommon.j3 k t563)) else (w_ShiftCommon.j3 k false)) else (w_ShiftCommon.j3 k false))) else (w_ShiftCommon.j3 k false)) else (w_ShiftCommon.j3 k false))))))) else ((w_awake.f k).bind fun t531 => (if t531 = true then (if x6 = x7 then ((r_Same.f k x529000 x529001 ([] : List (S54)) ([] : List Int)).bind fun t532 => (w_ShiftCommon.j2 k t532)) else (w_ShiftCommon.j2 k false)) else (w_ShiftCommon.j2 k false)))
def w_ShiftCommon.j3 : Nat → Bool → Option (Bool)
 | 0, _ => none
 | k + 1, x4 => some x4
def w_ShiftCommon.j2 : Nat → Bool → Option (Bool)
 | 0, _ => none
 | k + 1, x4 => some x4
end
def w_ShiftCommon.f (k : Nat) (l0_0 : List (S54)) (l0_1 : List Int) (l1_0 : List (S54)) (l1_1 : List Int) : Option (Bool) := (w_few.f l0_0 l0_1).bind fun t506 => (if t506 = true then ((w_few.f l1_0 l1_1).bind fun t507 => (w_ShiftCommon.j0 k (!t507) l0_0 l0_1 l1_0 l1_1)) else (w_ShiftCommon.j0 k true l0_0 l0_1 l1_0 l1_1))
def w_ShiftCommon.T3 : Bool × List (List Nat × List Nat) := (true, [([], []), ([0], [0]), ([], []), ([2, 1], [2]), ([1, 3, 3], [1, 3]), ([4], [4]), ([5], [5]), ([5], [5]), ([], []), ([8, 6, 4, 0, 1, 2, 3, 4, 5, 6, 8], [6, 8]), ([7, 9, 0, 1, 2, 3, 4, 5, 6, 7, 8, 9], [7])])
def w_ShiftCommon.B3 : List Nat := [0, 1, 0, 7, 15, 31, 63, 63, 0, 383, 1023]
theorem w_ShiftCommon.tab3 : rtab .any (opsOf Try.f9 3) = w_ShiftCommon.T3 := by kernel_rfl
theorem w_ShiftCommon.bits3 : waitsOk w_ShiftCommon.T3.2 w_ShiftCommon.B3 = true := by kernel_rfl
def w_ShiftCommon.T10 : Bool × List (List Nat × List Nat) := (true, [([], []), ([0], [0]), ([], []), ([2, 1], [2]), ([1, 3, 3], [1, 3]), ([4], [4]), ([5], [5]), ([5], [5]), ([], []), ([8, 6, 4, 0, 1, 2, 3, 4, 5, 6, 8], [6, 8]), ([7, 9, 0, 1, 2, 3, 4, 5, 6, 7, 8, 9], [7])])
def w_ShiftCommon.B10 : List Nat := [0, 1, 0, 7, 15, 31, 63, 63, 0, 383, 1023]
theorem w_ShiftCommon.tab10 : rtab .any (opsOf Try.f9 10) = w_ShiftCommon.T10 := by kernel_rfl
theorem w_ShiftCommon.bits10 : waitsOk w_ShiftCommon.T10.2 w_ShiftCommon.B10 = true := by kernel_rfl
set_option maxHeartbeats 8000000 in
set_option maxRecDepth 100000 in
theorem w_ShiftCommon.calls (k : Nat) (A0_0 : Option Addr) (c0_0 : Nat) (l0_0 : List (S54)) (A0_1 : Option Addr) (c0_1 : Nat) (l0_1 : List Int) (A1_0 : Option Addr) (c1_0 : Nat) (l1_0 : List (S54)) (A1_1 : Option Addr) (c1_1 : Nat) (l1_1 : List Int) (r : Bool) (w : World) (hr0_0 : Kd.C k54 w A0_0 l0_0.length l0_0) (hc0_0 : l0_0.length ≤ c0_0) (hr0_1 : Kd.C (Kd.int .i64) w A0_1 l0_1.length l0_1) (hc0_1 : l0_1.length ≤ c0_1) (hr1_0 : Kd.C k54 w A1_0 l1_0.length l1_0) (hc1_0 : l1_0.length ≤ c1_0) (hr1_1 : Kd.C (Kd.int .i64) w A1_1 l1_1.length l1_1) (hc1_1 : l1_1.length ≤ c1_1) (h : w_ShiftCommon.f k l0_0 l0_1 l1_0 l1_1 = some r) :
  Calls Try.prog 9 #[.agg #[.slice A0_0 l0_0.length c0_0, .slice A0_1 l0_1.length c0_1], .agg #[.slice A1_0 l1_0.length c1_0, .slice A1_1 l1_1.length c1_1]] w fun e w' => e = .returned (.bool r) ∧ Below w.heap.size w w' := by
 have hu25 := Try.underlying25
 have hu31 := Try.underlying31
 have HR0_0 := am hr0_0
 have HC0_0 := am hc0_0
 clear hr0_0 hc0_0
 have HR0_1 := am hr0_1
 have HC0_1 := am hc0_1
 clear hr0_1 hc0_1
 have HR1_0 := am hr1_0
 have HC1_0 := am hc1_0
 clear hr1_0 hc1_0
 have HR1_1 := am hr1_1
 have HC1_1 := am hc1_1
 clear hr1_1 hc1_1
 have HB := am (Below.refl w.heap.size w)
 have H : ((w_few.f l0_0 l0_1).bind fun t506 => (if t506 = true then ((w_few.f l1_0 l1_1).bind fun t507 => (w_ShiftCommon.j0 k (!t507) l0_0 l0_1 l1_0 l1_1)) else (w_ShiftCommon.j0 k true l0_0 l0_1 l1_0 l1_1))) = some r := h
 clear h
 have HC3 := am H
 clear H
 go_enter Try.func9, Try.ntmps9
 go_upto_region 1 with (first | ((with_reducible refine gate_dst (N := 2) rfl ?_); refine box_event ?hg (N := 2) ?hd (cs := #[.slice A0_0 l0_0.length c0_0, .slice A0_1 l0_1.length c0_1]) (t := 25) ?hr ?_; (case hd | hg => rfl); (case hr => first | (go_simp; done) | (go_simp; rfl)); intro gb504 hg w4 hbox hb; have BK504 := am hbox; have GW504 := sG HB hg; have GE504 := sG HB hg; replace HB := bS HB hb; clear hb hbox hg) | ((with_reducible refine gate_dst (N := 3) rfl ?_); refine box_event ?hg (N := 3) ?hd (cs := #[.slice A1_0 l1_0.length c1_0, .slice A1_1 l1_1.length c1_1]) (t := 25) ?hr ?_; (case hd | hg => rfl); (case hr => first | (go_simp; done) | (go_simp; rfl)); intro gb505 hg w5 hbox hb; have BK505 := am hbox; have GW505 := sG HB hg; have GE505 := sG HB hg; replace HB := bS HB hb; have NB504_505 := nL BK504 hg; have NB505_504 := nG BK504 hg; replace BK504 := bB BK504 hb; clear hb hbox hg))
 (try simp only [Act.put, psl])
 go_cut [19] (fun v19 wc => ∃ (kq : Nat) (x19_2 : Bool), v19 = .bool x19_2 ∧ Aside0 (w_ShiftCommon.j0 kq x19_2 l0_0 l0_1 l1_0 l1_1 = some r) ∧ Aside0 (kq ≤ k) ∧ Aside0 (wc.heap[gb504]? = some (.cells #[(.slice A0_0 l0_0.length c0_0), (.slice A0_1 l0_1.length c0_1)] 25 (0, 0))) ∧ Aside0 (wc.heap[gb505]? = some (.cells #[(.slice A1_0 l1_0.length c1_0), (.slice A1_1 l1_1.length c1_1)] 25 (0, 0))) ∧ Aside0 (Below w.heap.size w wc))
 case first =>
  have H := HC3.out
  clear HC3
  replace H := Option.bind_eq_some_iff.mp H
  obtain ⟨t506, A60, H⟩ := H
  replace H : (if t506 = true then ((w_few.f l1_0 l1_1).bind fun t507 => (w_ShiftCommon.j0 k (!t507) l0_0 l0_1 l1_0 l1_1)) else (w_ShiftCommon.j0 k true l0_0 l0_1 l1_0 l1_1)) = some r := H
  have A6 := am A60
  clear A60
  by_cases c7 : t506 = true
  ·subst c7
   have H1 : ((w_few.f l1_0 l1_1).bind fun t507 => (w_ShiftCommon.j0 k (!t507) l0_0 l0_1 l1_0 l1_1)) = some r := by rw [if_pos rfl] at H; exact H
   clear H
   have H := H1
   clear H1
   replace H := Option.bind_eq_some_iff.mp H
   obtain ⟨t507, A80, H⟩ := H
   replace H : (w_ShiftCommon.j0 k (!t507) l0_0 l0_1 l1_0 l1_1) = some r := H
   have A8 := am A80
   clear A80
   have H' := am H
   clear H
   have hnb9 := NB504_505.out
   have hnc9 := NB505_504.out
   have := yC1 BK504
   have := kC1 BK504
   have := bf BK504.out 0
   have := bf BK504.out 1
   go_wp2_with (first | ((with_reducible refine gc (f := 11) rfl ?_); refine goesL_ (some 13) rfl rfl Try.func11 (by kernel_rfl) rfl #[.agg #[.slice A0_0 l0_0.length c0_0, .slice A0_1 l0_1.length c0_1]] rfl (by (try simp only [pml]); first | done | rfl | (simp only [pdt]; rfl)) ?_; (with_reducible refine (w_few.calls _ _ l0_0 _ _ l0_1 true _ ?side1 ?side2 ?side3 ?side4 A6.out).mono ?_); (case side1 => repeat (first | exact (Kd.C_below HR0_0.out HB.out) | (with_reducible refine Kd.C_alloc ?_ _) | (with_reducible refine Kd.C_drewN ?_ _) | (with_reducible refine Kd.C_drew ?_))); (case side2 => exact HC0_0.out); (case side3 => repeat (first | exact (Kd.C_below HR0_1.out HB.out) | (with_reducible refine Kd.C_alloc ?_ _) | (with_reducible refine Kd.C_drewN ?_ _) | (with_reducible refine Kd.C_drew ?_))); (case side4 => exact HC0_1.out); rintro e w11 ⟨rfl, hb⟩; refine ⟨_, rfl, ?_⟩; replace BK504 := bB BK504 hb; replace BK505 := bB BK505 hb; replace HB := bS HB hb; (try clear hb); (try clear hb2); (try clear hk); (try clear hi); obtain ⟨_, _, _, _⟩ := zC2 BK505) | (go_at_call 11; (with_reducible refine (w_few.calls _ _ l1_0 _ _ l1_1 t507 _ ?side1 ?side2 ?side3 ?side4 A8.out).mono ?_); (case side1 => repeat (first | exact (Kd.C_below HR1_0.out HB.out) | (with_reducible refine Kd.C_alloc ?_ _) | (with_reducible refine Kd.C_drewN ?_ _) | (with_reducible refine Kd.C_drew ?_))); (case side2 => exact HC1_0.out); (case side3 => repeat (first | exact (Kd.C_below HR1_1.out HB.out) | (with_reducible refine Kd.C_alloc ?_ _) | (with_reducible refine Kd.C_drewN ?_ _) | (with_reducible refine Kd.C_drew ?_))); (case side4 => exact HC1_1.out); rintro e w13 ⟨rfl, hb⟩; replace BK504 := bB BK504 hb; replace BK505 := bB BK505 hb; replace HB := bS HB hb; (try clear hb); (try clear hb2); (try clear hk); (try clear hi)))
   go_meet
   case rel => exact ⟨_, (!t507), sqD, H', ⟨by first | omega | exact Nat.le_refl _⟩, ⟨fb BK504.out⟩, ⟨fb BK505.out⟩, ⟨fW HB.out⟩⟩
  replace c7 := Bool.eq_false_iff.mpr c7
  subst c7
  have H1 : (w_ShiftCommon.j0 k true l0_0 l0_1 l1_0 l1_1) = some r := by rw [if_neg (show ¬ (false = true) by decide)] at H; exact H
  clear H
  have H := H1
  clear H1
  have H' := am H
  clear H
  have hnb14 := NB504_505.out
  have hnc14 := NB505_504.out
  have := yC1 BK504
  have := kC1 BK504
  have := bf BK504.out 0
  have := bf BK504.out 1
  go_wp2_with (first | ((with_reducible refine gc (f := 11) rfl ?_); refine goesL_ (some 13) rfl rfl Try.func11 (by kernel_rfl) rfl #[.agg #[.slice A0_0 l0_0.length c0_0, .slice A0_1 l0_1.length c0_1]] rfl (by (try simp only [pml]); first | done | rfl | (simp only [pdt]; rfl)) ?_; (with_reducible refine (w_few.calls _ _ l0_0 _ _ l0_1 false _ ?side1 ?side2 ?side3 ?side4 A6.out).mono ?_); (case side1 => repeat (first | exact (Kd.C_below HR0_0.out HB.out) | (with_reducible refine Kd.C_alloc ?_ _) | (with_reducible refine Kd.C_drewN ?_ _) | (with_reducible refine Kd.C_drew ?_))); (case side2 => exact HC0_0.out); (case side3 => repeat (first | exact (Kd.C_below HR0_1.out HB.out) | (with_reducible refine Kd.C_alloc ?_ _) | (with_reducible refine Kd.C_drewN ?_ _) | (with_reducible refine Kd.C_drew ?_))); (case side4 => exact HC0_1.out); rintro e w16 ⟨rfl, hb⟩; refine ⟨_, rfl, ?_⟩; replace BK504 := bB BK504 hb; replace BK505 := bB BK505 hb; replace HB := bS HB hb; (try clear hb); (try clear hb2); (try clear hk); (try clear hi)))
  go_meet
  case rel => exact ⟨_, (true), sqD, H', ⟨by first | omega | exact Nat.le_refl _⟩, ⟨fb BK504.out⟩, ⟨fb BK505.out⟩, ⟨fW HB.out⟩⟩
 case rest =>
  clear HC3
  try clear c1;try clear p2;try clear c7;try clear c9;try clear c11;try clear c14
  obtain ⟨kq, x19_2, rfl, HA, HJ2, BK504, BK505, HB⟩ := hcut
  cases kq with
  | zero => exact absurd HA.out (by simp [w_ShiftCommon.j0])
  | succ kj2 =>
   have H := HA.out
   clear HA
   simp only [w_ShiftCommon.j0] at H
   by_cases c17 : x19_2 = true
   ·subst c17
    have H1 : ((w_awake.f kj2).bind fun t508 => (some t508)) = some r := by rw [if_pos rfl] at H; exact H
    clear H
    have H := H1
    clear H1
    replace H := Option.bind_eq_some_iff.mp H
    obtain ⟨t508, A180, H⟩ := H
    replace H : (some t508) = some r := H
    have A18 := am A180
    clear A180
    obtain rfl := Option.some.inj H
    go_wp2_with (first | ((with_reducible refine gc (f := 12) rfl ?_); refine goesL_ (some 20) rfl rfl Try.func12 (by kernel_rfl) rfl #[] rfl (by (try simp only [pml]); first | done | rfl | (simp only [pdt]; rfl)) ?_; (with_reducible refine (w_awake.calls kj2  t508 _ A18.out).mono ?_); rintro e w19 ⟨rfl, hb⟩; refine ⟨_, rfl, ?_⟩; replace BK504 := bB BK504 hb; replace BK505 := bB BK505 hb; replace HB := bS HB hb; (try clear hb); (try clear hb2); (try clear hk); (try clear hi)))
    go_ret
    exact ⟨sqE, fW HB.out⟩
   ·replace c17 := Bool.eq_false_iff.mpr c17
    subst c17
    have H1 : ((w_ours.f l0_0 l0_1).bind fun bt509 => ((w_ours.f l1_0 l1_1).bind fun bt515 => ((shift_Common.f kj2 bt509.1 bt509.2 bt515.1 bt515.2).bind fun bt521 => ((r_Check.f kj2 l0_0 l0_1).bind fun t529 => (if t529 = 0 then ((r_Check.f kj2 l1_0 l1_1).bind fun t530 => (w_ShiftCommon.j1 kj2 bt521.2.2 t530 l0_0 l0_1 l1_0 l1_1 bt521.1 bt521.2.1)) else (w_ShiftCommon.j1 kj2 bt521.2.2 t529 l0_0 l0_1 l1_0 l1_1 bt521.1 bt521.2.1)))))) = some r := by rw [if_neg (show ¬ (false = true) by decide)] at H; exact H
    clear H
    have H := H1
    clear H1
    replace H := Option.bind_eq_some_iff.mp H
    obtain ⟨⟨t509, t512⟩, A200, H⟩ := H
    replace H : ((w_ours.f l1_0 l1_1).bind fun bt515 => ((shift_Common.f kj2 t509 t512 bt515.1 bt515.2).bind fun bt521 => ((r_Check.f kj2 l0_0 l0_1).bind fun t529 => (if t529 = 0 then ((r_Check.f kj2 l1_0 l1_1).bind fun t530 => (w_ShiftCommon.j1 kj2 bt521.2.2 t530 l0_0 l0_1 l1_0 l1_1 bt521.1 bt521.2.1)) else (w_ShiftCommon.j1 kj2 bt521.2.2 t529 l0_0 l0_1 l1_0 l1_1 bt521.1 bt521.2.1))))) = some r := H
    have A20 := am A200
    clear A200
    replace H := Option.bind_eq_some_iff.mp H
    obtain ⟨⟨t515, t518⟩, A210, H⟩ := H
    replace H : ((shift_Common.f kj2 t509 t512 t515 t518).bind fun bt521 => ((r_Check.f kj2 l0_0 l0_1).bind fun t529 => (if t529 = 0 then ((r_Check.f kj2 l1_0 l1_1).bind fun t530 => (w_ShiftCommon.j1 kj2 bt521.2.2 t530 l0_0 l0_1 l1_0 l1_1 bt521.1 bt521.2.1)) else (w_ShiftCommon.j1 kj2 bt521.2.2 t529 l0_0 l0_1 l1_0 l1_1 bt521.1 bt521.2.1)))) = some r := H
    have A21 := am A210
    clear A210
    replace H := Option.bind_eq_some_iff.mp H
    obtain ⟨⟨t521, t524, t527⟩, A220, H⟩ := H
    replace H : ((r_Check.f kj2 l0_0 l0_1).bind fun t529 => (if t529 = 0 then ((r_Check.f kj2 l1_0 l1_1).bind fun t530 => (w_ShiftCommon.j1 kj2 t527 t530 l0_0 l0_1 l1_0 l1_1 t521 t524)) else (w_ShiftCommon.j1 kj2 t527 t529 l0_0 l0_1 l1_0 l1_1 t521 t524))) = some r := H
    have A22 := am A220
    clear A220
    replace H := Option.bind_eq_some_iff.mp H
    obtain ⟨t529, A230, H⟩ := H
    replace H : (if t529 = 0 then ((r_Check.f kj2 l1_0 l1_1).bind fun t530 => (w_ShiftCommon.j1 kj2 t527 t530 l0_0 l0_1 l1_0 l1_1 t521 t524)) else (w_ShiftCommon.j1 kj2 t527 t529 l0_0 l0_1 l1_0 l1_1 t521 t524)) = some r := H
    have A23 := am A230
    clear A230
    have HC24 := am H
    clear H
    try go_wp2
    have n0_ := am (bd BK504.out)
    have n1_ := am (bd BK505.out)
    have n2_ := am (below_drew1 HB.out)
    clear BK504 BK505 HB
    have BK504 := n0_
    have BK505 := n1_
    have HB := n2_
    clear n0_ n1_ n2_
    refine start_ (n := 11) (S := fun w' => w'.cell? ⟨gb504, 0, none⟩ = some (.slice A0_0 l0_0.length c0_0) ∧ w'.cell? ⟨gb504, 1, none⟩ = some (.slice A0_1 l0_1.length c0_1) ∧ w'.cell? ⟨gb505, 0, none⟩ = some (.slice A1_0 l1_0.length c1_0) ∧ w'.cell? ⟨gb505, 1, none⟩ = some (.slice A1_1 l1_1.length c1_1)) (ds := []) #[F,F,F,F,F,F,F,F,F,F,F] (by kernel_rfl) rfl rfl ⟨(bc BK504.out 0).trans rfl, (bc BK504.out 1).trans rfl, (bc BK505.out 0).trans rfl, (bc BK505.out 1).trans rfl⟩ (fun hHeld => ?_); refine with_tabW w_ShiftCommon.tab3 w_ShiftCommon.bits3 (fun HT_ HW_ => ?_)
    generalize wc.drew = w25 at BK504 BK505 HB hHeld ⊢
    refine tk (i := 0) (N := some 22) (fl 11 1 []) HT_ HW_ hHeld ?_
    refine tk (i := 2) (N := some 24) (fl 11 1 [2]) HT_ HW_ hHeld ?_
    refine join_ (σ := Value × Value × Value × Value × Value × Value × Nat) 2 #[T,T,T,T,T,T,T,T,T,F,F] (fun s_ => [(23, .agg #[s_.1, s_.2.1]), (25, .agg #[s_.2.2.1, s_.2.2.2.1]), (26, .tuple #[.agg #[s_.2.2.2.2.1, s_.2.2.2.2.2.1], .int .i64 t527]), (5, .pointer (some ⟨s_.2.2.2.2.2.2, 0, none⟩)), (21, .tuple #[.agg #[s_.2.2.2.2.1, s_.2.2.2.2.2.1], .int .i64 t527]), (27, .agg #[s_.2.2.2.2.1, s_.2.2.2.2.2.1]), (28, .int .i64 t527)]) (fun s_ w' => (w'.cell? ⟨gb504, 0, none⟩ = some (.slice A0_0 l0_0.length c0_0) ∧ w'.cell? ⟨gb504, 1, none⟩ = some (.slice A0_1 l0_1.length c0_1) ∧ w'.cell? ⟨gb505, 0, none⟩ = some (.slice A1_0 l1_0.length c1_0) ∧ w'.cell? ⟨gb505, 1, none⟩ = some (.slice A1_1 l1_1.length c1_1)) ∧ (Kd.V k54 54 w' w.heap.size (fun k_ => some k_ ≠ (s_.2.2.2.2.1 : Value).ownBlock ∧ some k_ ≠ (s_.2.2.2.2.2.1 : Value).ownBlock ∧ k_ ≠ gb504 ∧ k_ ≠ gb505 ∧ k_ ≠ s_.2.2.2.2.2.2) s_.1 t509) ∧ (Kd.V (Kd.int .i64) 3 w' w.heap.size (fun k_ => some k_ ≠ (s_.2.2.2.2.1 : Value).ownBlock ∧ some k_ ≠ (s_.2.2.2.2.2.1 : Value).ownBlock ∧ k_ ≠ gb504 ∧ k_ ≠ gb505 ∧ k_ ≠ s_.2.2.2.2.2.2) s_.2.1 t512) ∧ (Kd.V k54 54 w' w.heap.size (fun k_ => some k_ ≠ (s_.2.2.2.2.1 : Value).ownBlock ∧ some k_ ≠ (s_.2.2.2.2.2.1 : Value).ownBlock ∧ k_ ≠ gb504 ∧ k_ ≠ gb505 ∧ k_ ≠ s_.2.2.2.2.2.2) s_.2.2.1 t515) ∧ (Kd.V (Kd.int .i64) 3 w' w.heap.size (fun k_ => some k_ ≠ (s_.2.2.2.2.1 : Value).ownBlock ∧ some k_ ≠ (s_.2.2.2.2.2.1 : Value).ownBlock ∧ k_ ≠ gb504 ∧ k_ ≠ gb505 ∧ k_ ≠ s_.2.2.2.2.2.2) s_.2.2.2.1 t518) ∧ (Kd.R k54 54 w' w.heap.size (fun _ => True) s_.2.2.2.2.1 t521) ∧ (Kd.R (Kd.int .i64) 3 w' w.heap.size (fun _ => True) s_.2.2.2.2.2.1 t524) ∧ (w'.heap[gb504]? = some (.cells #[.slice A0_0 l0_0.length c0_0, .slice A0_1 l0_1.length c0_1] 25 (0, 0))) ∧ (w'.heap[gb505]? = some (.cells #[.slice A1_0 l1_0.length c1_0, .slice A1_1 l1_1.length c1_1] 25 (0, 0))) ∧ (w'.heap[s_.2.2.2.2.2.2]? = some (.cells #[.slice none 0 0, .slice none 0 0] 31 (0, 0))) ∧ (w.heap.size ≤ s_.2.2.2.2.2.2) ∧ (w.heap.size ≤ s_.2.2.2.2.2.2) ∧ (gb504 ≠ s_.2.2.2.2.2.2) ∧ (s_.2.2.2.2.2.2 ≠ gb504) ∧ (gb505 ≠ s_.2.2.2.2.2.2) ∧ (s_.2.2.2.2.2.2 ≠ gb505) ∧ (Below w.heap.size w w')) ?_ ?_
    rotate_left
    ·intro hCont
     refine two_ (i := 1) (j := 8) (Ni := some 23) (Nj := some 5) #[T,T,T,F,F,F,F,F,F,F,F] (fl 11 1 [2, 8]) rfl rfl rfl rfl (two_of HT_.out (by kernel_rfl)) (by decide) (by decide) (fun K hK => ?_) (fun K hK => ?_)
     ·skip
      refine goes_ Try.func14 (by kernel_rfl) rfl #[.agg #[.slice A0_0 l0_0.length c0_0, .slice A0_1 l0_1.length c0_1]] (by rfl) rfl rfl (by (try simp only [pml]); first | done | rfl | (simp only [pdt]; rfl)) ?_
      with_reducible refine (w_ours.calls (fun k_ => k_ < w.heap.size) _ _ l0_0 (fun k_ => k_ < w.heap.size) _ _ l0_1 t509 t512 _ ?side1 ?side2 A20.out).mono ?_
      (case side1 => exact Kd.V_mk HC0_0.out (Kd.F_below (Kd.C_F k54_heap HR0_0.out) (fW HB.out)))
      (case side2 => exact Kd.V_mk HC0_1.out (Kd.F_below (Kd.C_F (Kd.heap_int .i64) HR0_1.out) (fW HB.out)))
      rintro e w26 ⟨v510, v513, rfl, ho0, ho1, hb⟩
      refine ⟨_, rfl, ?_⟩
      have n0_ := am (Kd.V_lower (Kd.V_mono (ok' := fun k_ => k_ ≠ gb504 ∧ k_ ≠ gb505) ho0 (fun k_ hk_ => ⟨Or.elim hk_ (fun hs_ => Or.elim hs_ (fun hs_ => fun e_ => Nat.not_le.2 hs_ (by rw [e_]; exact GW504.out)) (fun hs_ => fun e_ => Nat.not_le.2 hs_ (by rw [e_]; exact GW504.out))) (fun hn_ => (Kd.freshB (g := gb504) (o := .cells #[.slice A0_0 l0_0.length c0_0, .slice A0_1 l0_1.length c0_1] 25 (0, 0)) (fb BK504.out) k_ hn_)), Or.elim hk_ (fun hs_ => Or.elim hs_ (fun hs_ => fun e_ => Nat.not_le.2 hs_ (by rw [e_]; exact GW505.out)) (fun hs_ => fun e_ => Nat.not_le.2 hs_ (by rw [e_]; exact GW505.out))) (fun hn_ => (Kd.freshB (g := gb505) (o := .cells #[.slice A1_0 l1_0.length c1_0, .slice A1_1 l1_1.length c1_1] 25 (0, 0)) (fb BK505.out) k_ hn_))⟩)) (wz (fW HB.out)))
      have n1_ := am (Kd.V_lower (Kd.V_mono (ok' := fun k_ => k_ ≠ gb504 ∧ k_ ≠ gb505) ho1 (fun k_ hk_ => ⟨Or.elim hk_ (fun hs_ => Or.elim hs_ (fun hs_ => fun e_ => Nat.not_le.2 hs_ (by rw [e_]; exact GW504.out)) (fun hs_ => fun e_ => Nat.not_le.2 hs_ (by rw [e_]; exact GW504.out))) (fun hn_ => (Kd.freshB (g := gb504) (o := .cells #[.slice A0_0 l0_0.length c0_0, .slice A0_1 l0_1.length c0_1] 25 (0, 0)) (fb BK504.out) k_ hn_)), Or.elim hk_ (fun hs_ => Or.elim hs_ (fun hs_ => fun e_ => Nat.not_le.2 hs_ (by rw [e_]; exact GW505.out)) (fun hs_ => fun e_ => Nat.not_le.2 hs_ (by rw [e_]; exact GW505.out))) (fun hn_ => (Kd.freshB (g := gb505) (o := .cells #[.slice A1_0 l1_0.length c1_0, .slice A1_1 l1_1.length c1_1] 25 (0, 0)) (fb BK505.out) k_ hn_))⟩)) (wz (fW HB.out)))
      have n2_ := bB BK504 hb
      have n3_ := bB BK505 hb
      have n4_ := bS HB hb
      clear BK504 BK505 HB
      have HO511 := n0_
      have HO514 := n1_
      have BK504 := n2_
      have BK505 := n3_
      have HB := n4_
      clear n0_ n1_ n2_ n3_ n4_
      (try clear hb)
      (try clear hb2)
      (try clear hk)
      (try clear hi)
      (try clear ho0)
      (try clear ho1)
      refine hK.out _ _ ⟨(bc BK504.out 0).trans rfl, (bc BK504.out 1).trans rfl, (bc BK505.out 0).trans rfl, (bc BK505.out 1).trans rfl⟩ (fun hHeld => ?_)
      clear hK K
      refine norm_ (a' := ?_) ?_ ?_
      rotate_left
      ·show Act.put _ (some 23) _ = _
       simp only [Act.put, psl, i64_w, i32_w]
       rfl
      refine two_ (i := 3) (j := 8) (Ni := some 25) (Nj := some 5) #[T,T,T,T,F,F,F,F,F,F,F] (fl 11 3 [8]) rfl rfl rfl rfl (two_of HT_.out (by kernel_rfl)) (by decide) (by decide) (fun K hK => ?_) (fun K hK => ?_)
      ·skip
       refine goes_ Try.func14 (by kernel_rfl) rfl #[.agg #[.slice A1_0 l1_0.length c1_0, .slice A1_1 l1_1.length c1_1]] (by rfl) rfl rfl (by (try simp only [pml]); first | done | rfl | (simp only [pdt]; rfl)) ?_
       with_reducible refine (w_ours.calls (fun k_ => k_ < w.heap.size) _ _ l1_0 (fun k_ => k_ < w.heap.size) _ _ l1_1 t515 t518 _ ?side1 ?side2 A21.out).mono ?_
       (case side1 => exact Kd.V_mk HC1_0.out (Kd.F_below (Kd.C_F k54_heap HR1_0.out) (fW HB.out)))
       (case side2 => exact Kd.V_mk HC1_1.out (Kd.F_below (Kd.C_F (Kd.heap_int .i64) HR1_1.out) (fW HB.out)))
       rintro e w27 ⟨v516, v519, rfl, ho0, ho1, hb⟩
       refine ⟨_, rfl, ?_⟩
       have n0_ := dV HO511 hb
       have n1_ := dV HO514 hb
       have n2_ := am (Kd.V_lower (Kd.V_mono (ok' := fun k_ => k_ ≠ gb504 ∧ k_ ≠ gb505) ho0 (fun k_ hk_ => ⟨Or.elim hk_ (fun hs_ => Or.elim hs_ (fun hs_ => fun e_ => Nat.not_le.2 hs_ (by rw [e_]; exact GW504.out)) (fun hs_ => fun e_ => Nat.not_le.2 hs_ (by rw [e_]; exact GW504.out))) (fun hn_ => (Kd.freshB (g := gb504) (o := .cells #[.slice A0_0 l0_0.length c0_0, .slice A0_1 l0_1.length c0_1] 25 (0, 0)) (fb BK504.out) k_ hn_)), Or.elim hk_ (fun hs_ => Or.elim hs_ (fun hs_ => fun e_ => Nat.not_le.2 hs_ (by rw [e_]; exact GW505.out)) (fun hs_ => fun e_ => Nat.not_le.2 hs_ (by rw [e_]; exact GW505.out))) (fun hn_ => (Kd.freshB (g := gb505) (o := .cells #[.slice A1_0 l1_0.length c1_0, .slice A1_1 l1_1.length c1_1] 25 (0, 0)) (fb BK505.out) k_ hn_))⟩)) (wz (fW HB.out)))
       have n3_ := am (Kd.V_lower (Kd.V_mono (ok' := fun k_ => k_ ≠ gb504 ∧ k_ ≠ gb505) ho1 (fun k_ hk_ => ⟨Or.elim hk_ (fun hs_ => Or.elim hs_ (fun hs_ => fun e_ => Nat.not_le.2 hs_ (by rw [e_]; exact GW504.out)) (fun hs_ => fun e_ => Nat.not_le.2 hs_ (by rw [e_]; exact GW504.out))) (fun hn_ => (Kd.freshB (g := gb504) (o := .cells #[.slice A0_0 l0_0.length c0_0, .slice A0_1 l0_1.length c0_1] 25 (0, 0)) (fb BK504.out) k_ hn_)), Or.elim hk_ (fun hs_ => Or.elim hs_ (fun hs_ => fun e_ => Nat.not_le.2 hs_ (by rw [e_]; exact GW505.out)) (fun hs_ => fun e_ => Nat.not_le.2 hs_ (by rw [e_]; exact GW505.out))) (fun hn_ => (Kd.freshB (g := gb505) (o := .cells #[.slice A1_0 l1_0.length c1_0, .slice A1_1 l1_1.length c1_1] 25 (0, 0)) (fb BK505.out) k_ hn_))⟩)) (wz (fW HB.out)))
       have n4_ := bB BK504 hb
       have n5_ := bB BK505 hb
       have n6_ := bS HB hb
       clear HO511 HO514 BK504 BK505 HB
       have HO511 := n0_
       have HO514 := n1_
       have HO517 := n2_
       have HO520 := n3_
       have BK504 := n4_
       have BK505 := n5_
       have HB := n6_
       clear n0_ n1_ n2_ n3_ n4_ n5_ n6_
       (try clear hb)
       (try clear hb2)
       (try clear hk)
       (try clear hi)
       (try clear ho0)
       (try clear ho1)
       obtain ⟨Ao28, co28, eo28⟩ := Kd.V_slice HO511.out
       (first | subst eo28 | (injection eo28 with f1_ f2_ f3_; have f4_ := f1_.symm; have f5_ := f3_.symm; clear f1_ f2_ f3_; subst f4_; subst f5_))
       obtain ⟨Ao29, co29, eo29⟩ := Kd.V_slice HO514.out
       (first | subst eo29 | (injection eo29 with f1_ f2_ f3_; have f4_ := f1_.symm; have f5_ := f3_.symm; clear f1_ f2_ f3_; subst f4_; subst f5_))
       obtain ⟨Ao30, co30, eo30⟩ := Kd.V_slice HO517.out
       (first | subst eo30 | (injection eo30 with f1_ f2_ f3_; have f4_ := f1_.symm; have f5_ := f3_.symm; clear f1_ f2_ f3_; subst f4_; subst f5_))
       obtain ⟨Ao31, co31, eo31⟩ := Kd.V_slice HO520.out
       (first | subst eo31 | (injection eo31 with f1_ f2_ f3_; have f4_ := f1_.symm; have f5_ := f3_.symm; clear f1_ f2_ f3_; subst f4_; subst f5_))
       refine hK.out _ _ ⟨(bc BK504.out 0).trans rfl, (bc BK504.out 1).trans rfl, (bc BK505.out 0).trans rfl, (bc BK505.out 1).trans rfl⟩ (fun hHeld => ?_)
       clear hK K
       refine norm_ (a' := ?_) ?_ ?_
       rotate_left
       ·show Act.put _ (some 25) _ = _
        simp only [Act.put, psl, i64_w, i32_w]
        rfl
       refine two_ (i := 4) (j := 8) (Ni := some 26) (Nj := some 5) #[T,T,T,T,T,F,F,F,F,F,F] (fl 11 4 [8]) rfl rfl rfl rfl (two_of HT_.out (by kernel_rfl)) (by decide) (by decide) (fun K hK => ?_) (fun K hK => ?_)
       ·skip
        refine goes_ Try.func32 (by kernel_rfl) rfl #[.agg #[.slice Ao28 t509.length co28, .slice Ao29 t512.length co29], .agg #[.slice Ao30 t515.length co30, .slice Ao31 t518.length co31]] (by rfl) rfl rfl (by (try simp only [pml]); first | done | rfl | (simp only [pdt]; rfl)) ?_
        with_reducible refine (shift_Common.calls kj2 (fun k_ => (k_ ≠ gb504 ∧ k_ ≠ gb505)) _ _ t509 (fun k_ => (k_ ≠ gb504 ∧ k_ ≠ gb505)) _ _ t512 (fun k_ => (k_ ≠ gb504 ∧ k_ ≠ gb505)) _ _ t515 (fun k_ => (k_ ≠ gb504 ∧ k_ ≠ gb505)) _ _ t518 t521 t524 t527 _ ?side1 ?side2 ?side3 ?side4 A22.out).mono ?_
        (case side1 => exact HO511.out)
        (case side2 => exact HO514.out)
        (case side3 => exact HO517.out)
        (case side4 => exact HO520.out)
        rintro e w32 ⟨v522, v525, rfl, ho0, ho1, hb⟩
        refine ⟨_, rfl, ?_⟩
        have n0_ := am (Kd.V_mono (Kd.V_told (Kd.V_told (Kd.V_old (fV HO511.out) hb) (Kd.R_base ho0)) (Kd.R_base ho1)) (fun _ h_ => h_.1))
        have n1_ := am (Kd.V_mono (Kd.V_told (Kd.V_told (Kd.V_old (fV HO514.out) hb) (Kd.R_base ho0)) (Kd.R_base ho1)) (fun _ h_ => h_.1))
        have n2_ := am (Kd.V_mono (Kd.V_told (Kd.V_told (Kd.V_old (fV HO517.out) hb) (Kd.R_base ho0)) (Kd.R_base ho1)) (fun _ h_ => h_.1))
        have n3_ := am (Kd.V_mono (Kd.V_told (Kd.V_told (Kd.V_old (fV HO520.out) hb) (Kd.R_base ho0)) (Kd.R_base ho1)) (fun _ h_ => h_.1))
        have n4_ := am (Kd.R_lower (Kd.R_mono (ok' := fun k_ => True) ho0 (fun _ hk_ => trivial)) (wz (fW HB.out)))
        have n5_ := am (Kd.R_lower (Kd.R_mono (ok' := fun k_ => True) ho1 (fun _ hk_ => trivial)) (wz (fW HB.out)))
        have n6_ := bB BK504 hb
        have n7_ := bB BK505 hb
        have n8_ := bS HB hb
        clear HO511 HO514 HO517 HO520 BK504 BK505 HB
        have HO511 := n0_
        have HO514 := n1_
        have HO517 := n2_
        have HO520 := n3_
        have HO523 := n4_
        have HO526 := n5_
        have BK504 := n6_
        have BK505 := n7_
        have HB := n8_
        clear n0_ n1_ n2_ n3_ n4_ n5_ n6_ n7_ n8_
        (try clear hb)
        (try clear hb2)
        (try clear hk)
        (try clear hi)
        (try clear ho0)
        (try clear ho1)
        refine hK.out _ _ ⟨(bc BK504.out 0).trans rfl, (bc BK504.out 1).trans rfl, (bc BK505.out 0).trans rfl, (bc BK505.out 1).trans rfl⟩ (fun hHeld => ?_)
        clear hK K
        refine norm_ (a' := ?_) ?_ ?_
        rotate_left
        ·show Act.put _ (some 26) _ = _
         simp only [Act.put, psl, i64_w, i32_w]
         rfl
        refine pu (i := 5) (N := some 21) (fl 11 6 []) HT_ ?_
        refine pu (i := 6) (N := some 27) (fl 11 7 []) HT_ ?_
        refine pu (i := 7) (N := some 28) (fl 11 8 []) HT_ ?_
        refine one_ (i := 8) (N := some 5) (fl 11 9 []) rfl rfl (one_of HT_.out (by kernel_rfl)) (by decide) (fun K hK => ?_)
        refine box_step ?hg (N := 5) ?hd (cs := #[.slice none 0 0, .slice none 0 0]) (t := 31) ?hr ?_; (case hd | hg => rfl); (case hr => first | (go_simp; done) | (go_simp; rfl))
        intro gb528 hg w33 hbox hb
        have n0_ := eV HO511 hg hb
        have n1_ := eV HO514 hg hb
        have n2_ := eV HO517 hg hb
        have n3_ := eV HO520 hg hb
        have n4_ := dR HO523 hb
        have n5_ := dR HO526 hb
        have n6_ := bB BK504 hb
        have n7_ := bB BK505 hb
        have n8_ := bS HB hb
        have n9_ := am hbox
        have n10_ := sG HB hg
        have n11_ := sG HB hg
        have n12_ := nL BK504 hg
        have n13_ := nG BK504 hg
        have n14_ := nL BK505 hg
        have n15_ := nG BK505 hg
        clear HO511 HO514 HO517 HO520 HO523 HO526 BK504 BK505 HB
        have HO511 := n0_
        have HO514 := n1_
        have HO517 := n2_
        have HO520 := n3_
        have HO523 := n4_
        have HO526 := n5_
        have BK504 := n6_
        have BK505 := n7_
        have HB := n8_
        have BK528 := n9_
        have GW528 := n10_
        have GE528 := n11_
        have NB504_528 := n12_
        have NB528_504 := n13_
        have NB505_528 := n14_
        have NB528_505 := n15_
        clear n0_ n1_ n2_ n3_ n4_ n5_ n6_ n7_ n8_ n9_ n10_ n11_ n12_ n13_ n14_ n15_ hb hbox hg
        refine hK.out _ _ ⟨(bc BK504.out 0).trans rfl, (bc BK504.out 1).trans rfl, (bc BK505.out 0).trans rfl, (bc BK505.out 1).trans rfl⟩ (fun hHeld => ?_)
        clear hK K
        refine norm_ (a' := ?_) ?_ ?_
        rotate_left
        ·show Act.put _ (some 5) _ = _
         simp only [Act.put, psl, i64_w, i32_w]
         rfl
        exact norm_ (by simp only [putAll, Act.put, psl]) (hCont (.slice Ao28 t509.length co28, .slice Ao29 t512.length co29, .slice Ao30 t515.length co30, .slice Ao31 t518.length co31, v522, v525, gb528) _ ⟨hHeld, (by (with_reducible repeat (first | apply Kd.V_alloc | apply Kd.V_drewN | apply Kd.V_drew)); exact Kd.V_mono HO511.out (fun _ hk => ⟨hk.1.1.2, ⟨hk.1.2, ⟨hk.1.1.1.1, ⟨hk.1.1.1.2, hk.2⟩⟩⟩⟩)), (by (with_reducible repeat (first | apply Kd.V_alloc | apply Kd.V_drewN | apply Kd.V_drew)); exact Kd.V_mono HO514.out (fun _ hk => ⟨hk.1.1.2, ⟨hk.1.2, ⟨hk.1.1.1.1, ⟨hk.1.1.1.2, hk.2⟩⟩⟩⟩)), (by (with_reducible repeat (first | apply Kd.V_alloc | apply Kd.V_drewN | apply Kd.V_drew)); exact Kd.V_mono HO517.out (fun _ hk => ⟨hk.1.1.2, ⟨hk.1.2, ⟨hk.1.1.1.1, ⟨hk.1.1.1.2, hk.2⟩⟩⟩⟩)), (by (with_reducible repeat (first | apply Kd.V_alloc | apply Kd.V_drewN | apply Kd.V_drew)); exact Kd.V_mono HO520.out (fun _ hk => ⟨hk.1.1.2, ⟨hk.1.2, ⟨hk.1.1.1.1, ⟨hk.1.1.1.2, hk.2⟩⟩⟩⟩)), (fR HO523.out), (fR HO526.out), (fb BK504.out), (fb BK505.out), (fb BK528.out), GW528.out, GE528.out, NB504_528.out, NB528_504.out, NB505_528.out, NB528_505.out, (fW HB.out)⟩)
       skip
       refine box_step ?hg (N := 5) ?hd (cs := #[.slice none 0 0, .slice none 0 0]) (t := 31) ?hr ?_; (case hd | hg => rfl); (case hr => first | (go_simp; done) | (go_simp; rfl))
       intro gb528 hg w28 hbox hb
       have n0_ := eV HO511 hg hb
       have n1_ := eV HO514 hg hb
       have n2_ := eV HO517 hg hb
       have n3_ := eV HO520 hg hb
       have n4_ := bB BK504 hb
       have n5_ := bB BK505 hb
       have n6_ := bS HB hb
       have n7_ := am hbox
       have n8_ := sG HB hg
       have n9_ := sG HB hg
       have n10_ := nL BK504 hg
       have n11_ := nG BK504 hg
       have n12_ := nL BK505 hg
       have n13_ := nG BK505 hg
       clear HO511 HO514 HO517 HO520 BK504 BK505 HB
       have HO511 := n0_
       have HO514 := n1_
       have HO517 := n2_
       have HO520 := n3_
       have BK504 := n4_
       have BK505 := n5_
       have HB := n6_
       have BK528 := n7_
       have GW528 := n8_
       have GE528 := n9_
       have NB504_528 := n10_
       have NB528_504 := n11_
       have NB505_528 := n12_
       have NB528_505 := n13_
       clear n0_ n1_ n2_ n3_ n4_ n5_ n6_ n7_ n8_ n9_ n10_ n11_ n12_ n13_ hb hbox hg
       obtain ⟨Ao29, co29, eo29⟩ := Kd.V_slice HO511.out
       (first | subst eo29 | (injection eo29 with f1_ f2_ f3_; have f4_ := f1_.symm; have f5_ := f3_.symm; clear f1_ f2_ f3_; subst f4_; subst f5_))
       obtain ⟨Ao30, co30, eo30⟩ := Kd.V_slice HO514.out
       (first | subst eo30 | (injection eo30 with f1_ f2_ f3_; have f4_ := f1_.symm; have f5_ := f3_.symm; clear f1_ f2_ f3_; subst f4_; subst f5_))
       obtain ⟨Ao31, co31, eo31⟩ := Kd.V_slice HO517.out
       (first | subst eo31 | (injection eo31 with f1_ f2_ f3_; have f4_ := f1_.symm; have f5_ := f3_.symm; clear f1_ f2_ f3_; subst f4_; subst f5_))
       obtain ⟨Ao32, co32, eo32⟩ := Kd.V_slice HO520.out
       (first | subst eo32 | (injection eo32 with f1_ f2_ f3_; have f4_ := f1_.symm; have f5_ := f3_.symm; clear f1_ f2_ f3_; subst f4_; subst f5_))
       refine hK.out _ _ ⟨(bc BK504.out 0).trans rfl, (bc BK504.out 1).trans rfl, (bc BK505.out 0).trans rfl, (bc BK505.out 1).trans rfl⟩ (fun hHeld => ?_)
       clear hK K
       refine norm_ (a' := ?_) ?_ ?_
       rotate_left
       ·show Act.put _ (some 5) _ = _
        simp only [Act.put, psl, i64_w, i32_w]
        rfl
       refine one_ (i := 4) (N := some 26) (fl 11 5 [8]) rfl rfl (one_of HT_.out (by kernel_rfl)) (by decide) (fun K hK => ?_)
       refine goes_ Try.func32 (by kernel_rfl) rfl #[.agg #[.slice Ao29 t509.length co29, .slice Ao30 t512.length co30], .agg #[.slice Ao31 t515.length co31, .slice Ao32 t518.length co32]] (by rfl) rfl rfl (by (try simp only [pml]); first | done | rfl | (simp only [pdt]; rfl)) ?_
       with_reducible refine (shift_Common.calls kj2 (fun k_ => ((k_ ≠ gb504 ∧ k_ ≠ gb505) ∧ k_ ≠ gb528)) _ _ t509 (fun k_ => ((k_ ≠ gb504 ∧ k_ ≠ gb505) ∧ k_ ≠ gb528)) _ _ t512 (fun k_ => ((k_ ≠ gb504 ∧ k_ ≠ gb505) ∧ k_ ≠ gb528)) _ _ t515 (fun k_ => ((k_ ≠ gb504 ∧ k_ ≠ gb505) ∧ k_ ≠ gb528)) _ _ t518 t521 t524 t527 _ ?side1 ?side2 ?side3 ?side4 A22.out).mono ?_
       (case side1 => exact HO511.out)
       (case side2 => exact HO514.out)
       (case side3 => exact HO517.out)
       (case side4 => exact HO520.out)
       rintro e w33 ⟨v522, v525, rfl, ho0, ho1, hb⟩
       refine ⟨_, rfl, ?_⟩
       have n0_ := am (Kd.V_mono (Kd.V_told (Kd.V_told (Kd.V_old (fV HO511.out) hb) (Kd.R_base ho0)) (Kd.R_base ho1)) (fun _ h_ => h_.1))
       have n1_ := am (Kd.V_mono (Kd.V_told (Kd.V_told (Kd.V_old (fV HO514.out) hb) (Kd.R_base ho0)) (Kd.R_base ho1)) (fun _ h_ => h_.1))
       have n2_ := am (Kd.V_mono (Kd.V_told (Kd.V_told (Kd.V_old (fV HO517.out) hb) (Kd.R_base ho0)) (Kd.R_base ho1)) (fun _ h_ => h_.1))
       have n3_ := am (Kd.V_mono (Kd.V_told (Kd.V_told (Kd.V_old (fV HO520.out) hb) (Kd.R_base ho0)) (Kd.R_base ho1)) (fun _ h_ => h_.1))
       have n4_ := am (Kd.R_lower (Kd.R_mono (ok' := fun k_ => True) ho0 (fun _ hk_ => trivial)) (wz (fW HB.out)))
       have n5_ := am (Kd.R_lower (Kd.R_mono (ok' := fun k_ => True) ho1 (fun _ hk_ => trivial)) (wz (fW HB.out)))
       have n6_ := bB BK504 hb
       have n7_ := bB BK505 hb
       have n8_ := bB BK528 hb
       have n9_ := bS HB hb
       clear HO511 HO514 HO517 HO520 BK504 BK505 BK528 HB
       have HO511 := n0_
       have HO514 := n1_
       have HO517 := n2_
       have HO520 := n3_
       have HO523 := n4_
       have HO526 := n5_
       have BK504 := n6_
       have BK505 := n7_
       have BK528 := n8_
       have HB := n9_
       clear n0_ n1_ n2_ n3_ n4_ n5_ n6_ n7_ n8_ n9_
       (try clear hb)
       (try clear hb2)
       (try clear hk)
       (try clear hi)
       (try clear ho0)
       (try clear ho1)
       refine hK.out _ _ ⟨(bc BK504.out 0).trans rfl, (bc BK504.out 1).trans rfl, (bc BK505.out 0).trans rfl, (bc BK505.out 1).trans rfl⟩ (fun hHeld => ?_)
       clear hK K
       refine norm_ (a' := ?_) ?_ ?_
       rotate_left
       ·show Act.put _ (some 26) _ = _
        simp only [Act.put, psl, i64_w, i32_w]
        rfl
       refine pu (i := 5) (N := some 21) (fl 11 6 [8]) HT_ ?_
       refine pu (i := 6) (N := some 27) (fl 11 7 [8]) HT_ ?_
       refine pu (i := 7) (N := some 28) (fl 11 9 []) HT_ ?_
       exact norm_ (by simp only [putAll, Act.put, psl]) (hCont (.slice Ao29 t509.length co29, .slice Ao30 t512.length co30, .slice Ao31 t515.length co31, .slice Ao32 t518.length co32, v522, v525, gb528) _ ⟨hHeld, (by (with_reducible repeat (first | apply Kd.V_alloc | apply Kd.V_drewN | apply Kd.V_drew)); exact Kd.V_mono HO511.out (fun _ hk => ⟨hk.1.2, ⟨hk.2, ⟨hk.1.1.1.1, ⟨hk.1.1.1.2, hk.1.1.2⟩⟩⟩⟩)), (by (with_reducible repeat (first | apply Kd.V_alloc | apply Kd.V_drewN | apply Kd.V_drew)); exact Kd.V_mono HO514.out (fun _ hk => ⟨hk.1.2, ⟨hk.2, ⟨hk.1.1.1.1, ⟨hk.1.1.1.2, hk.1.1.2⟩⟩⟩⟩)), (by (with_reducible repeat (first | apply Kd.V_alloc | apply Kd.V_drewN | apply Kd.V_drew)); exact Kd.V_mono HO517.out (fun _ hk => ⟨hk.1.2, ⟨hk.2, ⟨hk.1.1.1.1, ⟨hk.1.1.1.2, hk.1.1.2⟩⟩⟩⟩)), (by (with_reducible repeat (first | apply Kd.V_alloc | apply Kd.V_drewN | apply Kd.V_drew)); exact Kd.V_mono HO520.out (fun _ hk => ⟨hk.1.2, ⟨hk.2, ⟨hk.1.1.1.1, ⟨hk.1.1.1.2, hk.1.1.2⟩⟩⟩⟩)), (fR HO523.out), (fR HO526.out), (fb BK504.out), (fb BK505.out), (fb BK528.out), GW528.out, GE528.out, NB504_528.out, NB528_504.out, NB505_528.out, NB528_505.out, (fW HB.out)⟩)
      skip
      refine box_step ?hg (N := 5) ?hd (cs := #[.slice none 0 0, .slice none 0 0]) (t := 31) ?hr ?_; (case hd | hg => rfl); (case hr => first | (go_simp; done) | (go_simp; rfl))
      intro gb528 hg w27 hbox hb
      have n0_ := eV HO511 hg hb
      have n1_ := eV HO514 hg hb
      have n2_ := bB BK504 hb
      have n3_ := bB BK505 hb
      have n4_ := bS HB hb
      have n5_ := am hbox
      have n6_ := sG HB hg
      have n7_ := sG HB hg
      have n8_ := nL BK504 hg
      have n9_ := nG BK504 hg
      have n10_ := nL BK505 hg
      have n11_ := nG BK505 hg
      clear HO511 HO514 BK504 BK505 HB
      have HO511 := n0_
      have HO514 := n1_
      have BK504 := n2_
      have BK505 := n3_
      have HB := n4_
      have BK528 := n5_
      have GW528 := n6_
      have GE528 := n7_
      have NB504_528 := n8_
      have NB528_504 := n9_
      have NB505_528 := n10_
      have NB528_505 := n11_
      clear n0_ n1_ n2_ n3_ n4_ n5_ n6_ n7_ n8_ n9_ n10_ n11_ hb hbox hg
      refine hK.out _ _ ⟨(bc BK504.out 0).trans rfl, (bc BK504.out 1).trans rfl, (bc BK505.out 0).trans rfl, (bc BK505.out 1).trans rfl⟩ (fun hHeld => ?_)
      clear hK K
      refine norm_ (a' := ?_) ?_ ?_
      rotate_left
      ·show Act.put _ (some 5) _ = _
       simp only [Act.put, psl, i64_w, i32_w]
       rfl
      refine one_ (i := 3) (N := some 25) (fl 11 4 [8]) rfl rfl (one_of HT_.out (by kernel_rfl)) (by decide) (fun K hK => ?_)
      refine goes_ Try.func14 (by kernel_rfl) rfl #[.agg #[.slice A1_0 l1_0.length c1_0, .slice A1_1 l1_1.length c1_1]] (by rfl) rfl rfl (by (try simp only [pml]); first | done | rfl | (simp only [pdt]; rfl)) ?_
      with_reducible refine (w_ours.calls (fun k_ => k_ < w.heap.size) _ _ l1_0 (fun k_ => k_ < w.heap.size) _ _ l1_1 t515 t518 _ ?side1 ?side2 A21.out).mono ?_
      (case side1 => exact Kd.V_mk HC1_0.out (Kd.F_below (Kd.C_F k54_heap HR1_0.out) (fW HB.out)))
      (case side2 => exact Kd.V_mk HC1_1.out (Kd.F_below (Kd.C_F (Kd.heap_int .i64) HR1_1.out) (fW HB.out)))
      rintro e w28 ⟨v516, v519, rfl, ho0, ho1, hb⟩
      refine ⟨_, rfl, ?_⟩
      have n0_ := dV HO511 hb
      have n1_ := dV HO514 hb
      have n2_ := am (Kd.V_lower (Kd.V_mono (ok' := fun k_ => k_ ≠ gb504 ∧ k_ ≠ gb505 ∧ k_ ≠ gb528) ho0 (fun k_ hk_ => ⟨Or.elim hk_ (fun hs_ => Or.elim hs_ (fun hs_ => fun e_ => Nat.not_le.2 hs_ (by rw [e_]; exact GW504.out)) (fun hs_ => fun e_ => Nat.not_le.2 hs_ (by rw [e_]; exact GW504.out))) (fun hn_ => (Kd.freshB (g := gb504) (o := .cells #[.slice A0_0 l0_0.length c0_0, .slice A0_1 l0_1.length c0_1] 25 (0, 0)) (fb BK504.out) k_ hn_)), Or.elim hk_ (fun hs_ => Or.elim hs_ (fun hs_ => fun e_ => Nat.not_le.2 hs_ (by rw [e_]; exact GW505.out)) (fun hs_ => fun e_ => Nat.not_le.2 hs_ (by rw [e_]; exact GW505.out))) (fun hn_ => (Kd.freshB (g := gb505) (o := .cells #[.slice A1_0 l1_0.length c1_0, .slice A1_1 l1_1.length c1_1] 25 (0, 0)) (fb BK505.out) k_ hn_)), Or.elim hk_ (fun hs_ => Or.elim hs_ (fun hs_ => fun e_ => Nat.not_le.2 hs_ (by rw [e_]; exact GW528.out)) (fun hs_ => fun e_ => Nat.not_le.2 hs_ (by rw [e_]; exact GW528.out))) (fun hn_ => (Kd.freshB (g := gb528) (o := .cells #[.slice none 0 0, .slice none 0 0] 31 (0, 0)) (fb BK528.out) k_ hn_))⟩)) (wz (fW HB.out)))
      have n3_ := am (Kd.V_lower (Kd.V_mono (ok' := fun k_ => k_ ≠ gb504 ∧ k_ ≠ gb505 ∧ k_ ≠ gb528) ho1 (fun k_ hk_ => ⟨Or.elim hk_ (fun hs_ => Or.elim hs_ (fun hs_ => fun e_ => Nat.not_le.2 hs_ (by rw [e_]; exact GW504.out)) (fun hs_ => fun e_ => Nat.not_le.2 hs_ (by rw [e_]; exact GW504.out))) (fun hn_ => (Kd.freshB (g := gb504) (o := .cells #[.slice A0_0 l0_0.length c0_0, .slice A0_1 l0_1.length c0_1] 25 (0, 0)) (fb BK504.out) k_ hn_)), Or.elim hk_ (fun hs_ => Or.elim hs_ (fun hs_ => fun e_ => Nat.not_le.2 hs_ (by rw [e_]; exact GW505.out)) (fun hs_ => fun e_ => Nat.not_le.2 hs_ (by rw [e_]; exact GW505.out))) (fun hn_ => (Kd.freshB (g := gb505) (o := .cells #[.slice A1_0 l1_0.length c1_0, .slice A1_1 l1_1.length c1_1] 25 (0, 0)) (fb BK505.out) k_ hn_)), Or.elim hk_ (fun hs_ => Or.elim hs_ (fun hs_ => fun e_ => Nat.not_le.2 hs_ (by rw [e_]; exact GW528.out)) (fun hs_ => fun e_ => Nat.not_le.2 hs_ (by rw [e_]; exact GW528.out))) (fun hn_ => (Kd.freshB (g := gb528) (o := .cells #[.slice none 0 0, .slice none 0 0] 31 (0, 0)) (fb BK528.out) k_ hn_))⟩)) (wz (fW HB.out)))
      have n4_ := bB BK504 hb
      have n5_ := bB BK505 hb
      have n6_ := bB BK528 hb
      have n7_ := bS HB hb
      clear HO511 HO514 BK504 BK505 BK528 HB
      have HO511 := n0_
      have HO514 := n1_
      have HO517 := n2_
      have HO520 := n3_
      have BK504 := n4_
      have BK505 := n5_
      have BK528 := n6_
      have HB := n7_
      clear n0_ n1_ n2_ n3_ n4_ n5_ n6_ n7_
      (try clear hb)
      (try clear hb2)
      (try clear hk)
      (try clear hi)
      (try clear ho0)
      (try clear ho1)
      obtain ⟨Ao29, co29, eo29⟩ := Kd.V_slice HO511.out
      (first | subst eo29 | (injection eo29 with f1_ f2_ f3_; have f4_ := f1_.symm; have f5_ := f3_.symm; clear f1_ f2_ f3_; subst f4_; subst f5_))
      obtain ⟨Ao30, co30, eo30⟩ := Kd.V_slice HO514.out
      (first | subst eo30 | (injection eo30 with f1_ f2_ f3_; have f4_ := f1_.symm; have f5_ := f3_.symm; clear f1_ f2_ f3_; subst f4_; subst f5_))
      obtain ⟨Ao31, co31, eo31⟩ := Kd.V_slice HO517.out
      (first | subst eo31 | (injection eo31 with f1_ f2_ f3_; have f4_ := f1_.symm; have f5_ := f3_.symm; clear f1_ f2_ f3_; subst f4_; subst f5_))
      obtain ⟨Ao32, co32, eo32⟩ := Kd.V_slice HO520.out
      (first | subst eo32 | (injection eo32 with f1_ f2_ f3_; have f4_ := f1_.symm; have f5_ := f3_.symm; clear f1_ f2_ f3_; subst f4_; subst f5_))
      refine hK.out _ _ ⟨(bc BK504.out 0).trans rfl, (bc BK504.out 1).trans rfl, (bc BK505.out 0).trans rfl, (bc BK505.out 1).trans rfl⟩ (fun hHeld => ?_)
      clear hK K
      refine norm_ (a' := ?_) ?_ ?_
      rotate_left
      ·show Act.put _ (some 25) _ = _
       simp only [Act.put, psl, i64_w, i32_w]
       rfl
      refine one_ (i := 4) (N := some 26) (fl 11 5 [8]) rfl rfl (one_of HT_.out (by kernel_rfl)) (by decide) (fun K hK => ?_)
      refine goes_ Try.func32 (by kernel_rfl) rfl #[.agg #[.slice Ao29 t509.length co29, .slice Ao30 t512.length co30], .agg #[.slice Ao31 t515.length co31, .slice Ao32 t518.length co32]] (by rfl) rfl rfl (by (try simp only [pml]); first | done | rfl | (simp only [pdt]; rfl)) ?_
      with_reducible refine (shift_Common.calls kj2 (fun k_ => ((k_ ≠ gb504 ∧ k_ ≠ gb505) ∧ k_ ≠ gb528)) _ _ t509 (fun k_ => ((k_ ≠ gb504 ∧ k_ ≠ gb505) ∧ k_ ≠ gb528)) _ _ t512 (fun k_ => (k_ ≠ gb504 ∧ (k_ ≠ gb505 ∧ k_ ≠ gb528))) _ _ t515 (fun k_ => (k_ ≠ gb504 ∧ (k_ ≠ gb505 ∧ k_ ≠ gb528))) _ _ t518 t521 t524 t527 _ ?side1 ?side2 ?side3 ?side4 A22.out).mono ?_
      (case side1 => exact HO511.out)
      (case side2 => exact HO514.out)
      (case side3 => exact HO517.out)
      (case side4 => exact HO520.out)
      rintro e w33 ⟨v522, v525, rfl, ho0, ho1, hb⟩
      refine ⟨_, rfl, ?_⟩
      have n0_ := am (Kd.V_mono (Kd.V_told (Kd.V_told (Kd.V_old (fV HO511.out) hb) (Kd.R_base ho0)) (Kd.R_base ho1)) (fun _ h_ => h_.1))
      have n1_ := am (Kd.V_mono (Kd.V_told (Kd.V_told (Kd.V_old (fV HO514.out) hb) (Kd.R_base ho0)) (Kd.R_base ho1)) (fun _ h_ => h_.1))
      have n2_ := am (Kd.V_mono (Kd.V_told (Kd.V_told (Kd.V_old (fV HO517.out) hb) (Kd.R_base ho0)) (Kd.R_base ho1)) (fun _ h_ => h_.1))
      have n3_ := am (Kd.V_mono (Kd.V_told (Kd.V_told (Kd.V_old (fV HO520.out) hb) (Kd.R_base ho0)) (Kd.R_base ho1)) (fun _ h_ => h_.1))
      have n4_ := am (Kd.R_lower (Kd.R_mono (ok' := fun k_ => True) ho0 (fun _ hk_ => trivial)) (wz (fW HB.out)))
      have n5_ := am (Kd.R_lower (Kd.R_mono (ok' := fun k_ => True) ho1 (fun _ hk_ => trivial)) (wz (fW HB.out)))
      have n6_ := bB BK504 hb
      have n7_ := bB BK505 hb
      have n8_ := bB BK528 hb
      have n9_ := bS HB hb
      clear HO511 HO514 HO517 HO520 BK504 BK505 BK528 HB
      have HO511 := n0_
      have HO514 := n1_
      have HO517 := n2_
      have HO520 := n3_
      have HO523 := n4_
      have HO526 := n5_
      have BK504 := n6_
      have BK505 := n7_
      have BK528 := n8_
      have HB := n9_
      clear n0_ n1_ n2_ n3_ n4_ n5_ n6_ n7_ n8_ n9_
      (try clear hb)
      (try clear hb2)
      (try clear hk)
      (try clear hi)
      (try clear ho0)
      (try clear ho1)
      refine hK.out _ _ ⟨(bc BK504.out 0).trans rfl, (bc BK504.out 1).trans rfl, (bc BK505.out 0).trans rfl, (bc BK505.out 1).trans rfl⟩ (fun hHeld => ?_)
      clear hK K
      refine norm_ (a' := ?_) ?_ ?_
      rotate_left
      ·show Act.put _ (some 26) _ = _
       simp only [Act.put, psl, i64_w, i32_w]
       rfl
      refine pu (i := 5) (N := some 21) (fl 11 6 [8]) HT_ ?_
      refine pu (i := 6) (N := some 27) (fl 11 7 [8]) HT_ ?_
      refine pu (i := 7) (N := some 28) (fl 11 9 []) HT_ ?_
      exact norm_ (by simp only [putAll, Act.put, psl]) (hCont (.slice Ao29 t509.length co29, .slice Ao30 t512.length co30, .slice Ao31 t515.length co31, .slice Ao32 t518.length co32, v522, v525, gb528) _ ⟨hHeld, (by (with_reducible repeat (first | apply Kd.V_alloc | apply Kd.V_drewN | apply Kd.V_drew)); exact Kd.V_mono HO511.out (fun _ hk => ⟨hk.1.2, ⟨hk.2, ⟨hk.1.1.1.1, ⟨hk.1.1.1.2, hk.1.1.2⟩⟩⟩⟩)), (by (with_reducible repeat (first | apply Kd.V_alloc | apply Kd.V_drewN | apply Kd.V_drew)); exact Kd.V_mono HO514.out (fun _ hk => ⟨hk.1.2, ⟨hk.2, ⟨hk.1.1.1.1, ⟨hk.1.1.1.2, hk.1.1.2⟩⟩⟩⟩)), (by (with_reducible repeat (first | apply Kd.V_alloc | apply Kd.V_drewN | apply Kd.V_drew)); exact Kd.V_mono HO517.out (fun _ hk => ⟨hk.1.2, ⟨hk.2, ⟨hk.1.1.1, ⟨hk.1.1.2.1, hk.1.1.2.2⟩⟩⟩⟩)), (by (with_reducible repeat (first | apply Kd.V_alloc | apply Kd.V_drewN | apply Kd.V_drew)); exact Kd.V_mono HO520.out (fun _ hk => ⟨hk.1.2, ⟨hk.2, ⟨hk.1.1.1, ⟨hk.1.1.2.1, hk.1.1.2.2⟩⟩⟩⟩)), (fR HO523.out), (fR HO526.out), (fb BK504.out), (fb BK505.out), (fb BK528.out), GW528.out, GE528.out, NB504_528.out, NB528_504.out, NB505_528.out, NB528_505.out, (fW HB.out)⟩)
     skip
     refine box_step ?hg (N := 5) ?hd (cs := #[.slice none 0 0, .slice none 0 0]) (t := 31) ?hr ?_; (case hd | hg => rfl); (case hr => first | (go_simp; done) | (go_simp; rfl))
     intro gb528 hg w26 hbox hb
     have n0_ := bB BK504 hb
     have n1_ := bB BK505 hb
     have n2_ := bS HB hb
     have n3_ := am hbox
     have n4_ := sG HB hg
     have n5_ := sG HB hg
     have n6_ := nL BK504 hg
     have n7_ := nG BK504 hg
     have n8_ := nL BK505 hg
     have n9_ := nG BK505 hg
     clear BK504 BK505 HB
     have BK504 := n0_
     have BK505 := n1_
     have HB := n2_
     have BK528 := n3_
     have GW528 := n4_
     have GE528 := n5_
     have NB504_528 := n6_
     have NB528_504 := n7_
     have NB505_528 := n8_
     have NB528_505 := n9_
     clear n0_ n1_ n2_ n3_ n4_ n5_ n6_ n7_ n8_ n9_ hb hbox hg
     refine hK.out _ _ ⟨(bc BK504.out 0).trans rfl, (bc BK504.out 1).trans rfl, (bc BK505.out 0).trans rfl, (bc BK505.out 1).trans rfl⟩ (fun hHeld => ?_)
     clear hK K
     refine norm_ (a' := ?_) ?_ ?_
     rotate_left
     ·show Act.put _ (some 5) _ = _
      simp only [Act.put, psl, i64_w, i32_w]
      rfl
     refine one_ (i := 1) (N := some 23) (fl 11 3 [8]) rfl rfl (one_of HT_.out (by kernel_rfl)) (by decide) (fun K hK => ?_)
     refine goes_ Try.func14 (by kernel_rfl) rfl #[.agg #[.slice A0_0 l0_0.length c0_0, .slice A0_1 l0_1.length c0_1]] (by rfl) rfl rfl (by (try simp only [pml]); first | done | rfl | (simp only [pdt]; rfl)) ?_
     with_reducible refine (w_ours.calls (fun k_ => k_ < w.heap.size) _ _ l0_0 (fun k_ => k_ < w.heap.size) _ _ l0_1 t509 t512 _ ?side1 ?side2 A20.out).mono ?_
     (case side1 => exact Kd.V_mk HC0_0.out (Kd.F_below (Kd.C_F k54_heap HR0_0.out) (fW HB.out)))
     (case side2 => exact Kd.V_mk HC0_1.out (Kd.F_below (Kd.C_F (Kd.heap_int .i64) HR0_1.out) (fW HB.out)))
     rintro e w27 ⟨v510, v513, rfl, ho0, ho1, hb⟩
     refine ⟨_, rfl, ?_⟩
     have n0_ := am (Kd.V_lower (Kd.V_mono (ok' := fun k_ => k_ ≠ gb504 ∧ k_ ≠ gb505 ∧ k_ ≠ gb528) ho0 (fun k_ hk_ => ⟨Or.elim hk_ (fun hs_ => Or.elim hs_ (fun hs_ => fun e_ => Nat.not_le.2 hs_ (by rw [e_]; exact GW504.out)) (fun hs_ => fun e_ => Nat.not_le.2 hs_ (by rw [e_]; exact GW504.out))) (fun hn_ => (Kd.freshB (g := gb504) (o := .cells #[.slice A0_0 l0_0.length c0_0, .slice A0_1 l0_1.length c0_1] 25 (0, 0)) (fb BK504.out) k_ hn_)), Or.elim hk_ (fun hs_ => Or.elim hs_ (fun hs_ => fun e_ => Nat.not_le.2 hs_ (by rw [e_]; exact GW505.out)) (fun hs_ => fun e_ => Nat.not_le.2 hs_ (by rw [e_]; exact GW505.out))) (fun hn_ => (Kd.freshB (g := gb505) (o := .cells #[.slice A1_0 l1_0.length c1_0, .slice A1_1 l1_1.length c1_1] 25 (0, 0)) (fb BK505.out) k_ hn_)), Or.elim hk_ (fun hs_ => Or.elim hs_ (fun hs_ => fun e_ => Nat.not_le.2 hs_ (by rw [e_]; exact GW528.out)) (fun hs_ => fun e_ => Nat.not_le.2 hs_ (by rw [e_]; exact GW528.out))) (fun hn_ => (Kd.freshB (g := gb528) (o := .cells #[.slice none 0 0, .slice none 0 0] 31 (0, 0)) (fb BK528.out) k_ hn_))⟩)) (wz (fW HB.out)))
     have n1_ := am (Kd.V_lower (Kd.V_mono (ok' := fun k_ => k_ ≠ gb504 ∧ k_ ≠ gb505 ∧ k_ ≠ gb528) ho1 (fun k_ hk_ => ⟨Or.elim hk_ (fun hs_ => Or.elim hs_ (fun hs_ => fun e_ => Nat.not_le.2 hs_ (by rw [e_]; exact GW504.out)) (fun hs_ => fun e_ => Nat.not_le.2 hs_ (by rw [e_]; exact GW504.out))) (fun hn_ => (Kd.freshB (g := gb504) (o := .cells #[.slice A0_0 l0_0.length c0_0, .slice A0_1 l0_1.length c0_1] 25 (0, 0)) (fb BK504.out) k_ hn_)), Or.elim hk_ (fun hs_ => Or.elim hs_ (fun hs_ => fun e_ => Nat.not_le.2 hs_ (by rw [e_]; exact GW505.out)) (fun hs_ => fun e_ => Nat.not_le.2 hs_ (by rw [e_]; exact GW505.out))) (fun hn_ => (Kd.freshB (g := gb505) (o := .cells #[.slice A1_0 l1_0.length c1_0, .slice A1_1 l1_1.length c1_1] 25 (0, 0)) (fb BK505.out) k_ hn_)), Or.elim hk_ (fun hs_ => Or.elim hs_ (fun hs_ => fun e_ => Nat.not_le.2 hs_ (by rw [e_]; exact GW528.out)) (fun hs_ => fun e_ => Nat.not_le.2 hs_ (by rw [e_]; exact GW528.out))) (fun hn_ => (Kd.freshB (g := gb528) (o := .cells #[.slice none 0 0, .slice none 0 0] 31 (0, 0)) (fb BK528.out) k_ hn_))⟩)) (wz (fW HB.out)))
     have n2_ := bB BK504 hb
     have n3_ := bB BK505 hb
     have n4_ := bB BK528 hb
     have n5_ := bS HB hb
     clear BK504 BK505 BK528 HB
     have HO511 := n0_
     have HO514 := n1_
     have BK504 := n2_
     have BK505 := n3_
     have BK528 := n4_
     have HB := n5_
     clear n0_ n1_ n2_ n3_ n4_ n5_
     (try clear hb)
     (try clear hb2)
     (try clear hk)
     (try clear hi)
     (try clear ho0)
     (try clear ho1)
     refine hK.out _ _ ⟨(bc BK504.out 0).trans rfl, (bc BK504.out 1).trans rfl, (bc BK505.out 0).trans rfl, (bc BK505.out 1).trans rfl⟩ (fun hHeld => ?_)
     clear hK K
     refine norm_ (a' := ?_) ?_ ?_
     rotate_left
     ·show Act.put _ (some 23) _ = _
      simp only [Act.put, psl, i64_w, i32_w]
      rfl
     refine one_ (i := 3) (N := some 25) (fl 11 4 [8]) rfl rfl (one_of HT_.out (by kernel_rfl)) (by decide) (fun K hK => ?_)
     refine goes_ Try.func14 (by kernel_rfl) rfl #[.agg #[.slice A1_0 l1_0.length c1_0, .slice A1_1 l1_1.length c1_1]] (by rfl) rfl rfl (by (try simp only [pml]); first | done | rfl | (simp only [pdt]; rfl)) ?_
     with_reducible refine (w_ours.calls (fun k_ => k_ < w.heap.size) _ _ l1_0 (fun k_ => k_ < w.heap.size) _ _ l1_1 t515 t518 _ ?side1 ?side2 A21.out).mono ?_
     (case side1 => exact Kd.V_mk HC1_0.out (Kd.F_below (Kd.C_F k54_heap HR1_0.out) (fW HB.out)))
     (case side2 => exact Kd.V_mk HC1_1.out (Kd.F_below (Kd.C_F (Kd.heap_int .i64) HR1_1.out) (fW HB.out)))
     rintro e w28 ⟨v516, v519, rfl, ho0, ho1, hb⟩
     refine ⟨_, rfl, ?_⟩
     have n0_ := dV HO511 hb
     have n1_ := dV HO514 hb
     have n2_ := am (Kd.V_lower (Kd.V_mono (ok' := fun k_ => k_ ≠ gb504 ∧ k_ ≠ gb505 ∧ k_ ≠ gb528) ho0 (fun k_ hk_ => ⟨Or.elim hk_ (fun hs_ => Or.elim hs_ (fun hs_ => fun e_ => Nat.not_le.2 hs_ (by rw [e_]; exact GW504.out)) (fun hs_ => fun e_ => Nat.not_le.2 hs_ (by rw [e_]; exact GW504.out))) (fun hn_ => (Kd.freshB (g := gb504) (o := .cells #[.slice A0_0 l0_0.length c0_0, .slice A0_1 l0_1.length c0_1] 25 (0, 0)) (fb BK504.out) k_ hn_)), Or.elim hk_ (fun hs_ => Or.elim hs_ (fun hs_ => fun e_ => Nat.not_le.2 hs_ (by rw [e_]; exact GW505.out)) (fun hs_ => fun e_ => Nat.not_le.2 hs_ (by rw [e_]; exact GW505.out))) (fun hn_ => (Kd.freshB (g := gb505) (o := .cells #[.slice A1_0 l1_0.length c1_0, .slice A1_1 l1_1.length c1_1] 25 (0, 0)) (fb BK505.out) k_ hn_)), Or.elim hk_ (fun hs_ => Or.elim hs_ (fun hs_ => fun e_ => Nat.not_le.2 hs_ (by rw [e_]; exact GW528.out)) (fun hs_ => fun e_ => Nat.not_le.2 hs_ (by rw [e_]; exact GW528.out))) (fun hn_ => (Kd.freshB (g := gb528) (o := .cells #[.slice none 0 0, .slice none 0 0] 31 (0, 0)) (fb BK528.out) k_ hn_))⟩)) (wz (fW HB.out)))
     have n3_ := am (Kd.V_lower (Kd.V_mono (ok' := fun k_ => k_ ≠ gb504 ∧ k_ ≠ gb505 ∧ k_ ≠ gb528) ho1 (fun k_ hk_ => ⟨Or.elim hk_ (fun hs_ => Or.elim hs_ (fun hs_ => fun e_ => Nat.not_le.2 hs_ (by rw [e_]; exact GW504.out)) (fun hs_ => fun e_ => Nat.not_le.2 hs_ (by rw [e_]; exact GW504.out))) (fun hn_ => (Kd.freshB (g := gb504) (o := .cells #[.slice A0_0 l0_0.length c0_0, .slice A0_1 l0_1.length c0_1] 25 (0, 0)) (fb BK504.out) k_ hn_)), Or.elim hk_ (fun hs_ => Or.elim hs_ (fun hs_ => fun e_ => Nat.not_le.2 hs_ (by rw [e_]; exact GW505.out)) (fun hs_ => fun e_ => Nat.not_le.2 hs_ (by rw [e_]; exact GW505.out))) (fun hn_ => (Kd.freshB (g := gb505) (o := .cells #[.slice A1_0 l1_0.length c1_0, .slice A1_1 l1_1.length c1_1] 25 (0, 0)) (fb BK505.out) k_ hn_)), Or.elim hk_ (fun hs_ => Or.elim hs_ (fun hs_ => fun e_ => Nat.not_le.2 hs_ (by rw [e_]; exact GW528.out)) (fun hs_ => fun e_ => Nat.not_le.2 hs_ (by rw [e_]; exact GW528.out))) (fun hn_ => (Kd.freshB (g := gb528) (o := .cells #[.slice none 0 0, .slice none 0 0] 31 (0, 0)) (fb BK528.out) k_ hn_))⟩)) (wz (fW HB.out)))
     have n4_ := bB BK504 hb
     have n5_ := bB BK505 hb
     have n6_ := bB BK528 hb
     have n7_ := bS HB hb
     clear HO511 HO514 BK504 BK505 BK528 HB
     have HO511 := n0_
     have HO514 := n1_
     have HO517 := n2_
     have HO520 := n3_
     have BK504 := n4_
     have BK505 := n5_
     have BK528 := n6_
     have HB := n7_
     clear n0_ n1_ n2_ n3_ n4_ n5_ n6_ n7_
     (try clear hb)
     (try clear hb2)
     (try clear hk)
     (try clear hi)
     (try clear ho0)
     (try clear ho1)
     obtain ⟨Ao29, co29, eo29⟩ := Kd.V_slice HO511.out
     (first | subst eo29 | (injection eo29 with f1_ f2_ f3_; have f4_ := f1_.symm; have f5_ := f3_.symm; clear f1_ f2_ f3_; subst f4_; subst f5_))
     obtain ⟨Ao30, co30, eo30⟩ := Kd.V_slice HO514.out
     (first | subst eo30 | (injection eo30 with f1_ f2_ f3_; have f4_ := f1_.symm; have f5_ := f3_.symm; clear f1_ f2_ f3_; subst f4_; subst f5_))
     obtain ⟨Ao31, co31, eo31⟩ := Kd.V_slice HO517.out
     (first | subst eo31 | (injection eo31 with f1_ f2_ f3_; have f4_ := f1_.symm; have f5_ := f3_.symm; clear f1_ f2_ f3_; subst f4_; subst f5_))
     obtain ⟨Ao32, co32, eo32⟩ := Kd.V_slice HO520.out
     (first | subst eo32 | (injection eo32 with f1_ f2_ f3_; have f4_ := f1_.symm; have f5_ := f3_.symm; clear f1_ f2_ f3_; subst f4_; subst f5_))
     refine hK.out _ _ ⟨(bc BK504.out 0).trans rfl, (bc BK504.out 1).trans rfl, (bc BK505.out 0).trans rfl, (bc BK505.out 1).trans rfl⟩ (fun hHeld => ?_)
     clear hK K
     refine norm_ (a' := ?_) ?_ ?_
     rotate_left
     ·show Act.put _ (some 25) _ = _
      simp only [Act.put, psl, i64_w, i32_w]
      rfl
     refine one_ (i := 4) (N := some 26) (fl 11 5 [8]) rfl rfl (one_of HT_.out (by kernel_rfl)) (by decide) (fun K hK => ?_)
     refine goes_ Try.func32 (by kernel_rfl) rfl #[.agg #[.slice Ao29 t509.length co29, .slice Ao30 t512.length co30], .agg #[.slice Ao31 t515.length co31, .slice Ao32 t518.length co32]] (by rfl) rfl rfl (by (try simp only [pml]); first | done | rfl | (simp only [pdt]; rfl)) ?_
     with_reducible refine (shift_Common.calls kj2 (fun k_ => (k_ ≠ gb504 ∧ (k_ ≠ gb505 ∧ k_ ≠ gb528))) _ _ t509 (fun k_ => (k_ ≠ gb504 ∧ (k_ ≠ gb505 ∧ k_ ≠ gb528))) _ _ t512 (fun k_ => (k_ ≠ gb504 ∧ (k_ ≠ gb505 ∧ k_ ≠ gb528))) _ _ t515 (fun k_ => (k_ ≠ gb504 ∧ (k_ ≠ gb505 ∧ k_ ≠ gb528))) _ _ t518 t521 t524 t527 _ ?side1 ?side2 ?side3 ?side4 A22.out).mono ?_
     (case side1 => exact HO511.out)
     (case side2 => exact HO514.out)
     (case side3 => exact HO517.out)
     (case side4 => exact HO520.out)
     rintro e w33 ⟨v522, v525, rfl, ho0, ho1, hb⟩
     refine ⟨_, rfl, ?_⟩
     have n0_ := am (Kd.V_mono (Kd.V_told (Kd.V_told (Kd.V_old (fV HO511.out) hb) (Kd.R_base ho0)) (Kd.R_base ho1)) (fun _ h_ => h_.1))
     have n1_ := am (Kd.V_mono (Kd.V_told (Kd.V_told (Kd.V_old (fV HO514.out) hb) (Kd.R_base ho0)) (Kd.R_base ho1)) (fun _ h_ => h_.1))
     have n2_ := am (Kd.V_mono (Kd.V_told (Kd.V_told (Kd.V_old (fV HO517.out) hb) (Kd.R_base ho0)) (Kd.R_base ho1)) (fun _ h_ => h_.1))
     have n3_ := am (Kd.V_mono (Kd.V_told (Kd.V_told (Kd.V_old (fV HO520.out) hb) (Kd.R_base ho0)) (Kd.R_base ho1)) (fun _ h_ => h_.1))
     have n4_ := am (Kd.R_lower (Kd.R_mono (ok' := fun k_ => True) ho0 (fun _ hk_ => trivial)) (wz (fW HB.out)))
     have n5_ := am (Kd.R_lower (Kd.R_mono (ok' := fun k_ => True) ho1 (fun _ hk_ => trivial)) (wz (fW HB.out)))
     have n6_ := bB BK504 hb
     have n7_ := bB BK505 hb
     have n8_ := bB BK528 hb
     have n9_ := bS HB hb
     clear HO511 HO514 HO517 HO520 BK504 BK505 BK528 HB
     have HO511 := n0_
     have HO514 := n1_
     have HO517 := n2_
     have HO520 := n3_
     have HO523 := n4_
     have HO526 := n5_
     have BK504 := n6_
     have BK505 := n7_
     have BK528 := n8_
     have HB := n9_
     clear n0_ n1_ n2_ n3_ n4_ n5_ n6_ n7_ n8_ n9_
     (try clear hb)
     (try clear hb2)
     (try clear hk)
     (try clear hi)
     (try clear ho0)
     (try clear ho1)
     refine hK.out _ _ ⟨(bc BK504.out 0).trans rfl, (bc BK504.out 1).trans rfl, (bc BK505.out 0).trans rfl, (bc BK505.out 1).trans rfl⟩ (fun hHeld => ?_)
     clear hK K
     refine norm_ (a' := ?_) ?_ ?_
     rotate_left
     ·show Act.put _ (some 26) _ = _
      simp only [Act.put, psl, i64_w, i32_w]
      rfl
     refine pu (i := 5) (N := some 21) (fl 11 6 [8]) HT_ ?_
     refine pu (i := 6) (N := some 27) (fl 11 7 [8]) HT_ ?_
     refine pu (i := 7) (N := some 28) (fl 11 9 []) HT_ ?_
     exact norm_ (by simp only [putAll, Act.put, psl]) (hCont (.slice Ao29 t509.length co29, .slice Ao30 t512.length co30, .slice Ao31 t515.length co31, .slice Ao32 t518.length co32, v522, v525, gb528) _ ⟨hHeld, (by (with_reducible repeat (first | apply Kd.V_alloc | apply Kd.V_drewN | apply Kd.V_drew)); exact Kd.V_mono HO511.out (fun _ hk => ⟨hk.1.2, ⟨hk.2, ⟨hk.1.1.1, ⟨hk.1.1.2.1, hk.1.1.2.2⟩⟩⟩⟩)), (by (with_reducible repeat (first | apply Kd.V_alloc | apply Kd.V_drewN | apply Kd.V_drew)); exact Kd.V_mono HO514.out (fun _ hk => ⟨hk.1.2, ⟨hk.2, ⟨hk.1.1.1, ⟨hk.1.1.2.1, hk.1.1.2.2⟩⟩⟩⟩)), (by (with_reducible repeat (first | apply Kd.V_alloc | apply Kd.V_drewN | apply Kd.V_drew)); exact Kd.V_mono HO517.out (fun _ hk => ⟨hk.1.2, ⟨hk.2, ⟨hk.1.1.1, ⟨hk.1.1.2.1, hk.1.1.2.2⟩⟩⟩⟩)), (by (with_reducible repeat (first | apply Kd.V_alloc | apply Kd.V_drewN | apply Kd.V_drew)); exact Kd.V_mono HO520.out (fun _ hk => ⟨hk.1.2, ⟨hk.2, ⟨hk.1.1.1, ⟨hk.1.1.2.1, hk.1.1.2.2⟩⟩⟩⟩)), (fR HO523.out), (fR HO526.out), (fb BK504.out), (fb BK505.out), (fb BK528.out), GW528.out, GE528.out, NB504_528.out, NB528_504.out, NB505_528.out, NB528_505.out, (fW HB.out)⟩)
    rintro ⟨v510, v513, v516, v519, v522, v525, gb528⟩ w34 ⟨hS_, h0_, h1_, h2_, h3_, h4_, h5_, h6_, h7_, h8_, h9_, h10_, h11_, h12_, h13_, h14_, h15_⟩
    have n0_ : Aside0 (Kd.V k54 54 w34 w.heap.size (fun k_ => some k_ ≠ (v522 : Value).ownBlock ∧ some k_ ≠ (v525 : Value).ownBlock ∧ k_ ≠ gb504 ∧ k_ ≠ gb505 ∧ k_ ≠ gb528) v510 t509) := ⟨h0_⟩
    have n1_ : Aside0 (Kd.V (Kd.int .i64) 3 w34 w.heap.size (fun k_ => some k_ ≠ (v522 : Value).ownBlock ∧ some k_ ≠ (v525 : Value).ownBlock ∧ k_ ≠ gb504 ∧ k_ ≠ gb505 ∧ k_ ≠ gb528) v513 t512) := ⟨h1_⟩
    have n2_ : Aside0 (Kd.V k54 54 w34 w.heap.size (fun k_ => some k_ ≠ (v522 : Value).ownBlock ∧ some k_ ≠ (v525 : Value).ownBlock ∧ k_ ≠ gb504 ∧ k_ ≠ gb505 ∧ k_ ≠ gb528) v516 t515) := ⟨h2_⟩
    have n3_ : Aside0 (Kd.V (Kd.int .i64) 3 w34 w.heap.size (fun k_ => some k_ ≠ (v522 : Value).ownBlock ∧ some k_ ≠ (v525 : Value).ownBlock ∧ k_ ≠ gb504 ∧ k_ ≠ gb505 ∧ k_ ≠ gb528) v519 t518) := ⟨h3_⟩
    have n4_ : Aside0 (Kd.R k54 54 w34 w.heap.size (fun _ => True) v522 t521) := ⟨h4_⟩
    have n5_ : Aside0 (Kd.R (Kd.int .i64) 3 w34 w.heap.size (fun _ => True) v525 t524) := ⟨h5_⟩
    have n6_ : Aside0 (w34.heap[gb504]? = some (.cells #[.slice A0_0 l0_0.length c0_0, .slice A0_1 l0_1.length c0_1] 25 (0, 0))) := ⟨h6_⟩
    have n7_ : Aside0 (w34.heap[gb505]? = some (.cells #[.slice A1_0 l1_0.length c1_0, .slice A1_1 l1_1.length c1_1] 25 (0, 0))) := ⟨h7_⟩
    have n8_ : Aside0 (w34.heap[gb528]? = some (.cells #[.slice none 0 0, .slice none 0 0] 31 (0, 0))) := ⟨h8_⟩
    have n9_ : Aside0 (w.heap.size ≤ gb528) := ⟨h9_⟩
    have n10_ : Aside0 (w.heap.size ≤ gb528) := ⟨h10_⟩
    have n11_ : Aside0 (gb504 ≠ gb528) := ⟨h11_⟩
    have n12_ : Aside0 (gb528 ≠ gb504) := ⟨h12_⟩
    have n13_ : Aside0 (gb505 ≠ gb528) := ⟨h13_⟩
    have n14_ : Aside0 (gb528 ≠ gb505) := ⟨h14_⟩
    have n15_ : Aside0 (Below w.heap.size w w34) := ⟨h15_⟩
    clear BK504 BK505 HB h0_ h1_ h2_ h3_ h4_ h5_ h6_ h7_ h8_ h9_ h10_ h11_ h12_ h13_ h14_ h15_
    have HO511 := n0_
    have HO514 := n1_
    have HO517 := n2_
    have HO520 := n3_
    have HO523 := n4_
    have HO526 := n5_
    have BK504 := n6_
    have BK505 := n7_
    have BK528 := n8_
    have GW528 := n9_
    have GE528 := n10_
    have NB504_528 := n11_
    have NB528_504 := n12_
    have NB505_528 := n13_
    have NB528_505 := n14_
    have HB := n15_
    clear n0_ n1_ n2_ n3_ n4_ n5_ n6_ n7_ n8_ n9_ n10_ n11_ n12_ n13_ n14_ n15_
    have hHeld : w34.cell? ⟨gb504, 0, none⟩ = some (.slice A0_0 l0_0.length c0_0) ∧ w34.cell? ⟨gb504, 1, none⟩ = some (.slice A0_1 l0_1.length c0_1) ∧ w34.cell? ⟨gb505, 0, none⟩ = some (.slice A1_0 l1_0.length c1_0) ∧ w34.cell? ⟨gb505, 1, none⟩ = some (.slice A1_1 l1_1.length c1_1) := hS_
    obtain ⟨Ao35, co35, eo35⟩ := Kd.R_slice HO523.out
    (first | subst eo35 | (injection eo35 with f1_ f2_ f3_; have f4_ := f1_.symm; have f5_ := f3_.symm; clear f1_ f2_ f3_; subst f4_; subst f5_))
    obtain ⟨Ao37, co37, eo37⟩ := Kd.R_slice HO526.out
    (first | subst eo37 | (injection eo37 with f1_ f2_ f3_; have f4_ := f1_.symm; have f5_ := f3_.symm; clear f1_ f2_ f3_; subst f4_; subst f5_))
    refine norm_ (a' := ?_) ?_ ?_
    rotate_left
    ·simp only [putAll, Act.put, psl]
     rfl
    refine one_ (i := 9) (N := none) (fl 11 10 []) rfl rfl (one_of HT_.out (by kernel_rfl)) (by decide) (fun K hK => ?_)
    have hs36 : w34.cell? ⟨gb528, 0, none⟩ = some (.slice none 0 0) := (bc BK528.out 0).trans rfl
    have hfs36 := bf BK528.out 0
    have hns36_0 := NB504_528.out
    have hns36_1 := NB505_528.out
    have hms36_0 := NB528_504.out
    have hms36_1 := NB528_505.out
    have hs38 : w34.cell? ⟨gb528, 1, none⟩ = some (.slice none 0 0) := (bc BK528.out 1).trans rfl
    have hfs38 := bf BK528.out 1
    have hns38_0 := NB504_528.out
    have hns38_1 := NB505_528.out
    have hms38_0 := NB528_504.out
    have hms38_1 := NB528_505.out
    refine skip_ (w1 := ?_) (by rfl) rfl ?_ ?_
    rotate_left
    ·go_simp
     rfl
    refine hK.out _ _ ⟨((cf (p := ⟨gb528, _, none⟩) NB504_528.out _).trans (((cf (p := ⟨gb528, _, none⟩) NB504_528.out _).trans (hHeld.1)))), ((cf (p := ⟨gb528, _, none⟩) NB504_528.out _).trans (((cf (p := ⟨gb528, _, none⟩) NB504_528.out _).trans (hHeld.2.1)))), ((cf (p := ⟨gb528, _, none⟩) NB505_528.out _).trans (((cf (p := ⟨gb528, _, none⟩) NB505_528.out _).trans (hHeld.2.2.1)))), ((cf (p := ⟨gb528, _, none⟩) NB505_528.out _).trans (((cf (p := ⟨gb528, _, none⟩) NB505_528.out _).trans (hHeld.2.2.2))))⟩ (fun hHeld => ?_)
    clear hK K
    refine pu (i := 10) (N := some 6) (fl 11 11 []) HT_ ?_
    refine done_ (done_of HT_.out (by kernel_rfl)) ?_
    have hnb39 := NB504_505.out
    have hnc39 := NB505_504.out
    have hnb40 := NB504_528.out
    have hnc40 := NB528_504.out
    have := yC1 BK504
    have := kC1 BK504
    have := bf BK504.out 0
    have := bf BK504.out 1
    go_upto_if 32 with (first | ((with_reducible refine gc (f := 16) rfl ?_); refine goesL_ (some 30) rfl rfl Try.func16 (by kernel_rfl) rfl #[.agg #[.slice A0_0 l0_0.length c0_0, .slice A0_1 l0_1.length c0_1]] rfl (by (try simp only [pml]); first | done | rfl | (simp only [pdt]; rfl)) ?_; (with_reducible refine (r_Check.calls kj2 _ _ l0_0 _ _ l0_1 t529 _ ?side1 ?side2 ?side3 ?side4 A23.out).mono ?_); (case side1 => exact Kd.C_below HR0_0.out (fW HB.out)); (case side2 => exact HC0_0.out); (case side3 => exact Kd.C_below HR0_1.out (fW HB.out)); (case side4 => exact HC0_1.out); rintro e w42 ⟨rfl, hb⟩; refine ⟨_, rfl, ?_⟩; replace HO511 := am (Kd.V_below (by (with_reducible repeat (first | apply Kd.V_alloc | apply Kd.V_drewN | apply Kd.V_drew)); exact (Kd.V_mono (Kd.V_far (p := ⟨gb528, 1, none⟩) (Kd.V_far (p := ⟨gb528, 0, none⟩) (Kd.V_mono HO511.out (fun k_ hk => (⟨hk, hk.2.2.2.2⟩ : _ ∧ k_ ≠ gb528))) (fun _ hk => hk.2) (.slice Ao35 t521.length co35)) (fun _ hk => hk.2) (.slice Ao37 t524.length co37)) (fun _ h_ => h_.1))) hb); replace HO514 := am (Kd.V_below (by (with_reducible repeat (first | apply Kd.V_alloc | apply Kd.V_drewN | apply Kd.V_drew)); exact (Kd.V_mono (Kd.V_far (p := ⟨gb528, 1, none⟩) (Kd.V_far (p := ⟨gb528, 0, none⟩) (Kd.V_mono HO514.out (fun k_ hk => (⟨hk, hk.2.2.2.2⟩ : _ ∧ k_ ≠ gb528))) (fun _ hk => hk.2) (.slice Ao35 t521.length co35)) (fun _ hk => hk.2) (.slice Ao37 t524.length co37)) (fun _ h_ => h_.1))) hb); replace HO517 := am (Kd.V_below (by (with_reducible repeat (first | apply Kd.V_alloc | apply Kd.V_drewN | apply Kd.V_drew)); exact (Kd.V_mono (Kd.V_far (p := ⟨gb528, 1, none⟩) (Kd.V_far (p := ⟨gb528, 0, none⟩) (Kd.V_mono HO517.out (fun k_ hk => (⟨hk, hk.2.2.2.2⟩ : _ ∧ k_ ≠ gb528))) (fun _ hk => hk.2) (.slice Ao35 t521.length co35)) (fun _ hk => hk.2) (.slice Ao37 t524.length co37)) (fun _ h_ => h_.1))) hb); replace HO520 := am (Kd.V_below (by (with_reducible repeat (first | apply Kd.V_alloc | apply Kd.V_drewN | apply Kd.V_drew)); exact (Kd.V_mono (Kd.V_far (p := ⟨gb528, 1, none⟩) (Kd.V_far (p := ⟨gb528, 0, none⟩) (Kd.V_mono HO520.out (fun k_ hk => (⟨hk, hk.2.2.2.2⟩ : _ ∧ k_ ≠ gb528))) (fun _ hk => hk.2) (.slice Ao35 t521.length co35)) (fun _ hk => hk.2) (.slice Ao37 t524.length co37)) (fun _ h_ => h_.1))) hb); replace HO523 := am (Kd.R_below (by (with_reducible repeat (first | apply Kd.R_alloc | apply Kd.R_drewN | apply Kd.R_drew)); exact (Kd.R_mono (Kd.R_far (p := ⟨gb528, 1, none⟩) (Kd.R_far (p := ⟨gb528, 0, none⟩) (Kd.R_types HO523.out BK528.out (by decide)) (fun _ hk => hk.2) (.slice Ao35 t521.length co35)) (fun _ hk => hk.2) (.slice Ao37 t524.length co37)) (fun _ h_ => h_.1))) hb); replace HO526 := am (Kd.R_below (by (with_reducible repeat (first | apply Kd.R_alloc | apply Kd.R_drewN | apply Kd.R_drew)); exact (Kd.R_mono (Kd.R_far (p := ⟨gb528, 1, none⟩) (Kd.R_far (p := ⟨gb528, 0, none⟩) (Kd.R_types HO526.out BK528.out (by decide)) (fun _ hk => hk.2) (.slice Ao35 t521.length co35)) (fun _ hk => hk.2) (.slice Ao37 t524.length co37)) (fun _ h_ => h_.1))) hb); replace BK504 := xC1 (kfC BK504.out) hb; replace BK505 := xC1 (kfC BK505.out) hb; replace BK528 := xC1 (o := .cells #[.slice Ao35 t521.length co35, .slice Ao37 t524.length co37] 31 (0, 0)) (kkC BK528.out) hb; replace HB := bS HB hb; (try clear hb); (try clear hb2); (try clear hk); (try clear hi)))
    (try simp only [Act.put, psl])
    go_cut [7] (fun v7 wc => ∃ (kq : Nat) (x7_23 : Int), v7 = .int .i64 x7_23 ∧ Aside0 (w_ShiftCommon.j1 kq t527 x7_23 l0_0 l0_1 l1_0 l1_1 t521 t524 = some r) ∧ Aside0 (kq ≤ kj2) ∧ Aside0 (Kd.R k54 54 wc w.heap.size (fun _ => True) (.slice Ao35 t521.length co35) t521) ∧ Aside0 (Kd.R (Kd.int .i64) 3 wc w.heap.size (fun _ => True) (.slice Ao37 t524.length co37) t524) ∧ Aside0 (wc.heap[gb504]? = some (.cells #[(.slice A0_0 l0_0.length c0_0), (.slice A0_1 l0_1.length c0_1)] 25 (0, 0))) ∧ Aside0 (wc.heap[gb505]? = some (.cells #[(.slice A1_0 l1_0.length c1_0), (.slice A1_1 l1_1.length c1_1)] 25 (0, 0))) ∧ Aside0 (wc.heap[gb528]? = some (.cells #[(.slice Ao35 t521.length co35), (.slice Ao37 t524.length co37)] 31 (0, 0))) ∧ Aside0 (Below w.heap.size w wc))
    case first =>
     have H := HC24.out
     clear HC24
     by_cases c43 : t529 = 0
     rotate_left
     ·rw [if_neg c43] at H
      have c43b0 : (t529 == 0) = false := beq_eq_false_iff_ne.mpr c43
      have c43b1 : (t529 != 0) = true := bne_iff_ne.mpr c43
      (first | rw [c43b0] | (simp only [i64_w, i32_w]; rw [c43b0]) | skip)
      have H' := am H
      clear H
      go_wp2
      go_meet
      case rel => exact ⟨_, (t529), sqD, H', ⟨by have := HJ2.out; first | omega | exact Nat.le_refl _⟩, ⟨fR HO523.out⟩, ⟨fR HO526.out⟩, ⟨fb BK504.out⟩, ⟨fb BK505.out⟩, ⟨fb BK528.out⟩, ⟨fW HB.out⟩⟩
     rw [if_pos c43] at H
     have c43b0 : (t529 == 0) = true := beq_iff_eq.mpr c43
     have c43b1 : (t529 != 0) = false := bne_eq_false_iff_eq.mpr c43
     clear c43
     (first | rw [c43b0] | (simp only [i64_w, i32_w]; rw [c43b0]) | skip)
     replace H := Option.bind_eq_some_iff.mp H
     obtain ⟨t530, A440, H⟩ := H
     replace H : (w_ShiftCommon.j1 kj2 t527 t530 l0_0 l0_1 l1_0 l1_1 t521 t524) = some r := H
     have A44 := am A440
     clear A440
     have H' := am H
     clear H
     have hnb45 := NB505_504.out
     have hnc45 := NB504_505.out
     have hnb46 := NB505_528.out
     have hnc46 := NB528_505.out
     have := yC1 BK505
     have := kC1 BK505
     have := bf BK505.out 0
     have := bf BK505.out 1
     go_wp2_with (first | ((with_reducible refine gc (f := 16) rfl ?_); refine goesL_ (some 34) rfl rfl Try.func16 (by kernel_rfl) rfl #[.agg #[.slice A1_0 l1_0.length c1_0, .slice A1_1 l1_1.length c1_1]] rfl (by (try simp only [pml]); first | done | rfl | (simp only [pdt]; rfl)) ?_; (with_reducible refine (r_Check.calls kj2 _ _ l1_0 _ _ l1_1 t530 _ ?side1 ?side2 ?side3 ?side4 A44.out).mono ?_); (case side1 => repeat (first | exact (Kd.C_below HR1_0.out HB.out) | (with_reducible refine Kd.C_alloc ?_ _) | (with_reducible refine Kd.C_drewN ?_ _) | (with_reducible refine Kd.C_drew ?_))); (case side2 => exact HC1_0.out); (case side3 => repeat (first | exact (Kd.C_below HR1_1.out HB.out) | (with_reducible refine Kd.C_alloc ?_ _) | (with_reducible refine Kd.C_drewN ?_ _) | (with_reducible refine Kd.C_drew ?_))); (case side4 => exact HC1_1.out); rintro e w48 ⟨rfl, hb⟩; refine ⟨_, rfl, ?_⟩; replace HO511 := dV HO511 hb; replace HO514 := dV HO514 hb; replace HO517 := dV HO517 hb; replace HO520 := dV HO520 hb; replace HO523 := dR HO523 hb; replace HO526 := dR HO526 hb; replace BK504 := bB BK504 hb; replace BK505 := bB BK505 hb; replace BK528 := bB BK528 hb; replace HB := bS HB hb; (try clear hb); (try clear hb2); (try clear hk); (try clear hi)))
     go_meet
     case rel => exact ⟨_, (t530), sqD, H', ⟨by have := HJ2.out; first | omega | exact Nat.le_refl _⟩, ⟨fR HO523.out⟩, ⟨fR HO526.out⟩, ⟨fb BK504.out⟩, ⟨fb BK505.out⟩, ⟨fb BK528.out⟩, ⟨fW HB.out⟩⟩
    case rest =>
     clear HC24
     try clear c1;try clear p2;try clear c3;try clear c4;try clear c14;try clear c16;try clear c32;try clear c39;try clear c40;try clear c43;try clear c43b0;try clear c43b1;try clear c45;try clear c46
     obtain ⟨kq, x7_23, rfl, HA, HJ23, HO_529000, HO_529001, BK504, BK505, BK528, HB⟩ := hcut
     cases kq with
     | zero => exact absurd HA.out (by simp [w_ShiftCommon.j1])
     | succ kj23 =>
      have H := HA.out
      clear HA
      simp only [w_ShiftCommon.j1] at H
      by_cases c49 : x7_23 = 0
      ·rw [if_pos c49] at H
       have c49b0 : (x7_23 == 0) = true := beq_iff_eq.mpr c49
       have c49b1 : (x7_23 != 0) = false := bne_eq_false_iff_eq.mpr c49
       clear c49
       replace H := Option.bind_eq_some_iff.mp H
       obtain ⟨⟨t533, t536, t539⟩, A500, H⟩ := H
       replace H : ((w_ours.f l1_0 l1_1).bind fun bt541 => ((w_ours.f l0_0 l0_1).bind fun bt547 => ((shift_Common.f kj23 bt541.1 bt541.2 bt547.1 bt547.2).bind fun bt553 => ((w_awake.f kj23).bind fun t561 => (if t561 = true then (if t527 = t539 then ((r_Same.f kj23 t521 t524 t533 t536).bind fun t562 => (if t562 = true then (if bt553.2.2 = t539 then ((r_Same.f kj23 bt553.1 bt553.2.1 t533 t536).bind fun t563 => (w_ShiftCommon.j3 kj23 t563)) else (w_ShiftCommon.j3 kj23 false)) else (w_ShiftCommon.j3 kj23 false))) else (w_ShiftCommon.j3 kj23 false)) else (w_ShiftCommon.j3 kj23 false)))))) = some r := H
       have A50 := am A500
       clear A500
       replace H := Option.bind_eq_some_iff.mp H
       obtain ⟨⟨t541, t544⟩, A510, H⟩ := H
       replace H : ((w_ours.f l0_0 l0_1).bind fun bt547 => ((shift_Common.f kj23 t541 t544 bt547.1 bt547.2).bind fun bt553 => ((w_awake.f kj23).bind fun t561 => (if t561 = true then (if t527 = t539 then ((r_Same.f kj23 t521 t524 t533 t536).bind fun t562 => (if t562 = true then (if bt553.2.2 = t539 then ((r_Same.f kj23 bt553.1 bt553.2.1 t533 t536).bind fun t563 => (w_ShiftCommon.j3 kj23 t563)) else (w_ShiftCommon.j3 kj23 false)) else (w_ShiftCommon.j3 kj23 false))) else (w_ShiftCommon.j3 kj23 false)) else (w_ShiftCommon.j3 kj23 false))))) = some r := H
       have A51 := am A510
       clear A510
       replace H := Option.bind_eq_some_iff.mp H
       obtain ⟨⟨t547, t550⟩, A520, H⟩ := H
       replace H : ((shift_Common.f kj23 t541 t544 t547 t550).bind fun bt553 => ((w_awake.f kj23).bind fun t561 => (if t561 = true then (if t527 = t539 then ((r_Same.f kj23 t521 t524 t533 t536).bind fun t562 => (if t562 = true then (if bt553.2.2 = t539 then ((r_Same.f kj23 bt553.1 bt553.2.1 t533 t536).bind fun t563 => (w_ShiftCommon.j3 kj23 t563)) else (w_ShiftCommon.j3 kj23 false)) else (w_ShiftCommon.j3 kj23 false))) else (w_ShiftCommon.j3 kj23 false)) else (w_ShiftCommon.j3 kj23 false)))) = some r := H
       have A52 := am A520
       clear A520
       replace H := Option.bind_eq_some_iff.mp H
       obtain ⟨⟨t553, t556, t559⟩, A530, H⟩ := H
       replace H : ((w_awake.f kj23).bind fun t561 => (if t561 = true then (if t527 = t539 then ((r_Same.f kj23 t521 t524 t533 t536).bind fun t562 => (if t562 = true then (if t559 = t539 then ((r_Same.f kj23 t553 t556 t533 t536).bind fun t563 => (w_ShiftCommon.j3 kj23 t563)) else (w_ShiftCommon.j3 kj23 false)) else (w_ShiftCommon.j3 kj23 false))) else (w_ShiftCommon.j3 kj23 false)) else (w_ShiftCommon.j3 kj23 false))) = some r := H
       have A53 := am A530
       clear A530
       have HC54 := am H
       clear H
       have hnb55 := NB504_505.out
       have hnc55 := NB505_504.out
       have hnb56 := NB504_528.out
       have hnc56 := NB528_504.out
       have := yC1 BK504
       have := kC1 BK504
       have := bf BK504.out 0
       have := bf BK504.out 1
       have hnb58 := NB505_528.out
       have hnc58 := NB528_505.out
       have := yC1 BK505
       have := kC1 BK505
       have := bf BK505.out 0
       have := bf BK505.out 1
       try go_wp2_with (first | ((with_reducible refine gc (f := 34) rfl ?_); refine goesL_ (some 51) rfl rfl Try.func34 (by kernel_rfl) rfl #[.agg #[.slice A0_0 l0_0.length c0_0, .slice A0_1 l0_1.length c0_1], .agg #[.slice A1_0 l1_0.length c1_0, .slice A1_1 l1_1.length c1_1]] rfl (by (try simp only [pml]); first | done | rfl | (simp only [pdt]; rfl)) ?_; (with_reducible refine (r_Common.calls kj23 _ _ l0_0 _ _ l0_1 _ _ l1_0 _ _ l1_1 t533 t536 t539 _ ?side1 ?side2 ?side3 ?side4 ?side5 ?side6 ?side7 ?side8 A50.out).mono ?_); (case side1 => repeat (first | exact (Kd.C_below HR0_0.out HB.out) | (with_reducible refine Kd.C_alloc ?_ _) | (with_reducible refine Kd.C_drewN ?_ _) | (with_reducible refine Kd.C_drew ?_))); (case side2 => exact HC0_0.out); (case side3 => repeat (first | exact (Kd.C_below HR0_1.out HB.out) | (with_reducible refine Kd.C_alloc ?_ _) | (with_reducible refine Kd.C_drewN ?_ _) | (with_reducible refine Kd.C_drew ?_))); (case side4 => exact HC0_1.out); (case side5 => repeat (first | exact (Kd.C_below HR1_0.out HB.out) | (with_reducible refine Kd.C_alloc ?_ _) | (with_reducible refine Kd.C_drewN ?_ _) | (with_reducible refine Kd.C_drew ?_))); (case side6 => exact HC1_0.out); (case side7 => repeat (first | exact (Kd.C_below HR1_1.out HB.out) | (with_reducible refine Kd.C_alloc ?_ _) | (with_reducible refine Kd.C_drewN ?_ _) | (with_reducible refine Kd.C_drew ?_))); (case side8 => exact HC1_1.out); rintro e w60 ⟨v534, v537, rfl, ho0, ho1, hb⟩; refine ⟨_, rfl, ?_⟩; have HO535 := am (Kd.R_lower (Kd.R_new' ho0 (Kd.R_lt (fR HO_529000.out))) (wz (fW HB.out))); replace HO_529000 := am (Kd.R_elder' (fR HO_529000.out) (Kd.R_base ho0) hb); have HO538 := am (Kd.R_lower (Kd.R_new' ho1 (Kd.R_lt (fR HO_529001.out))) (wz (fW HB.out))); replace HO_529001 := am (Kd.R_elder' (fR HO_529001.out) (Kd.R_base ho1) hb); replace BK504 := bB BK504 hb; replace BK505 := bB BK505 hb; replace BK528 := bB BK528 hb; replace HB := bS HB hb; (try clear hb); (try clear hb2); (try clear hk); (try clear hi); (try clear ho0); (try clear ho1)) | ((with_reducible refine gate_dst (N := 8) rfl ?_); refine box_event ?hg (N := 8) ?hd (cs := #[.slice none 0 0, .slice none 0 0]) (t := 25) ?hr ?_; (case hd | hg => rfl); (case hr => first | (go_simp; done) | (go_simp; rfl)); intro gb540 hg w61 hbox hb; replace HO_529000 := dR HO_529000 hb; replace HO_529001 := dR HO_529001 hb; replace HO535 := dR HO535 hb; replace HO538 := dR HO538 hb; have BK540 := am hbox; have GW540 := sG HB hg; have GE540 := sG HB hg; replace HB := bS HB hb; have NB504_540 := nL BK504 hg; have NB540_504 := nG BK504 hg; replace BK504 := bB BK504 hb; have NB505_540 := nL BK505 hg; have NB540_505 := nG BK505 hg; replace BK505 := bB BK505 hb; have NB528_540 := nL BK528 hg; have NB540_528 := nG BK528 hg; replace BK528 := bB BK528 hb; clear hb hbox hg; obtain ⟨Ao62, co62, eo62⟩ := Kd.R_slice HO535.out; subst eo62; have hnb63 := NB540_504.out; have hnc63 := NB504_540.out; have hnb64 := NB540_505.out; have hnc64 := NB505_540.out; have hnb65 := NB540_528.out; have hnc65 := NB528_540.out; obtain ⟨_, _, _, _⟩ := zC2 BK540; obtain ⟨Ao67, co67, eo67⟩ := Kd.R_slice HO538.out; subst eo67))
       have n0_ : Aside0 (Kd.R k54 54 ((w61.setCell ⟨gb540, 0, none⟩ (.slice Ao62 t533.length co62)).setCell ⟨gb540, 1, none⟩ (.slice Ao67 t536.length co67)) w.heap.size (fun k_ => some k_ ≠ (.slice Ao62 t533.length co62 : Value).ownBlock) (.slice Ao35 t521.length co35) t521) := ⟨by (with_reducible repeat (first | apply Kd.R_alloc | apply Kd.R_drewN | apply Kd.R_drew)); exact Kd.R_mono (Kd.R_far (p := ⟨gb540, 1, none⟩) (Kd.R_far (p := ⟨gb540, 0, none⟩) (Kd.R_types HO_529000.out BK540.out (by decide)) (fun _ hk => hk.2) (.slice Ao62 t533.length co62)) (fun _ hk => hk.2) (.slice Ao67 t536.length co67)) (fun _ hk => hk.1.2)⟩
       have n1_ : Aside0 (Kd.R (Kd.int .i64) 3 ((w61.setCell ⟨gb540, 0, none⟩ (.slice Ao62 t533.length co62)).setCell ⟨gb540, 1, none⟩ (.slice Ao67 t536.length co67)) w.heap.size (fun k_ => some k_ ≠ (.slice Ao67 t536.length co67 : Value).ownBlock) (.slice Ao37 t524.length co37) t524) := ⟨by (with_reducible repeat (first | apply Kd.R_alloc | apply Kd.R_drewN | apply Kd.R_drew)); exact Kd.R_mono (Kd.R_far (p := ⟨gb540, 1, none⟩) (Kd.R_far (p := ⟨gb540, 0, none⟩) (Kd.R_types HO_529001.out BK540.out (by decide)) (fun _ hk => hk.2) (.slice Ao62 t533.length co62)) (fun _ hk => hk.2) (.slice Ao67 t536.length co67)) (fun _ hk => hk.1.2)⟩
       have n2_ : Aside0 (Kd.R k54 54 ((w61.setCell ⟨gb540, 0, none⟩ (.slice Ao62 t533.length co62)).setCell ⟨gb540, 1, none⟩ (.slice Ao67 t536.length co67)) w.heap.size (fun k_ => some k_ ≠ (.slice Ao35 t521.length co35 : Value).ownBlock) (.slice Ao62 t533.length co62) t533) := ⟨by (with_reducible repeat (first | apply Kd.R_alloc | apply Kd.R_drewN | apply Kd.R_drew)); exact Kd.R_mono (Kd.R_far (p := ⟨gb540, 1, none⟩) (Kd.R_far (p := ⟨gb540, 0, none⟩) (Kd.R_types HO535.out BK540.out (by decide)) (fun _ hk => hk.2) (.slice Ao62 t533.length co62)) (fun _ hk => hk.2) (.slice Ao67 t536.length co67)) (fun _ hk => hk.1.2)⟩
       have n3_ : Aside0 (Kd.R (Kd.int .i64) 3 ((w61.setCell ⟨gb540, 0, none⟩ (.slice Ao62 t533.length co62)).setCell ⟨gb540, 1, none⟩ (.slice Ao67 t536.length co67)) w.heap.size (fun k_ => some k_ ≠ (.slice Ao37 t524.length co37 : Value).ownBlock) (.slice Ao67 t536.length co67) t536) := ⟨by (with_reducible repeat (first | apply Kd.R_alloc | apply Kd.R_drewN | apply Kd.R_drew)); exact Kd.R_mono (Kd.R_far (p := ⟨gb540, 1, none⟩) (Kd.R_far (p := ⟨gb540, 0, none⟩) (Kd.R_types HO538.out BK540.out (by decide)) (fun _ hk => hk.2) (.slice Ao62 t533.length co62)) (fun _ hk => hk.2) (.slice Ao67 t536.length co67)) (fun _ hk => hk.1.2)⟩
       have n4_ : Aside0 (((w61.setCell ⟨gb540, 0, none⟩ (.slice Ao62 t533.length co62)).setCell ⟨gb540, 1, none⟩ (.slice Ao67 t536.length co67)).heap[gb504]? = some (.cells #[.slice A0_0 l0_0.length c0_0, .slice A0_1 l0_1.length c0_1] 25 (0, 0))) := ⟨by (with_reducible repeat first | apply bN | apply bd | apply ba); refine blk_far ?_ NB504_540.out _; (with_reducible repeat first | apply bN | apply bd | apply ba); refine blk_far ?_ NB504_540.out _; (with_reducible repeat first | apply bN | apply bd | apply ba); exact BK504.out⟩
       have n5_ : Aside0 (((w61.setCell ⟨gb540, 0, none⟩ (.slice Ao62 t533.length co62)).setCell ⟨gb540, 1, none⟩ (.slice Ao67 t536.length co67)).heap[gb505]? = some (.cells #[.slice A1_0 l1_0.length c1_0, .slice A1_1 l1_1.length c1_1] 25 (0, 0))) := ⟨by (with_reducible repeat first | apply bN | apply bd | apply ba); refine blk_far ?_ NB505_540.out _; (with_reducible repeat first | apply bN | apply bd | apply ba); refine blk_far ?_ NB505_540.out _; (with_reducible repeat first | apply bN | apply bd | apply ba); exact BK505.out⟩
       have n6_ : Aside0 (((w61.setCell ⟨gb540, 0, none⟩ (.slice Ao62 t533.length co62)).setCell ⟨gb540, 1, none⟩ (.slice Ao67 t536.length co67)).heap[gb528]? = some (.cells #[.slice Ao35 t521.length co35, .slice Ao37 t524.length co37] 31 (0, 0))) := ⟨by (with_reducible repeat first | apply bN | apply bd | apply ba); refine blk_far ?_ NB528_540.out _; (with_reducible repeat first | apply bN | apply bd | apply ba); refine blk_far ?_ NB528_540.out _; (with_reducible repeat first | apply bN | apply bd | apply ba); exact BK528.out⟩
       have n7_ : Aside0 (((w61.setCell ⟨gb540, 0, none⟩ (.slice Ao62 t533.length co62)).setCell ⟨gb540, 1, none⟩ (.slice Ao67 t536.length co67)).heap[gb540]? = some (.cells #[.slice Ao62 t533.length co62, .slice Ao67 t536.length co67] 25 (0, 0))) := ⟨by (with_reducible repeat first | apply bN | apply bd | apply ba); refine blk_put (cs := #[.slice Ao62 t533.length co62, .slice none 0 0]) ?_ 1 _ rfl; (with_reducible repeat first | apply bN | apply bd | apply ba); refine blk_put (cs := #[.slice none 0 0, .slice none 0 0]) ?_ 0 _ rfl; (with_reducible repeat first | apply bN | apply bd | apply ba); exact BK540.out⟩
       have n8_ : Aside0 (Below w.heap.size w ((w61.setCell ⟨gb540, 0, none⟩ (.slice Ao62 t533.length co62)).setCell ⟨gb540, 1, none⟩ (.slice Ao67 t536.length co67))) := ⟨fW HB.out⟩
       (try clear HO_529000)
       (try clear HO_529001)
       (try clear HO535)
       (try clear HO538)
       (try clear BK504)
       (try clear BK505)
       (try clear BK528)
       (try clear BK540)
       (try clear HB)
       generalize ((w61.setCell ⟨gb540, 0, none⟩ (.slice Ao62 t533.length co62)).setCell ⟨gb540, 1, none⟩ (.slice Ao67 t536.length co67)) = w68 at n0_ n1_ n2_ n3_ n4_ n5_ n6_ n7_ n8_ ⊢
       have HO_529000 := n0_
       have HO_529001 := n1_
       have HO535 := n2_
       have HO538 := n3_
       have BK504 := n4_
       have BK505 := n5_
       have BK528 := n6_
       have BK540 := n7_
       have HB := n8_
       clear n0_ n1_ n2_ n3_ n4_ n5_ n6_ n7_ n8_
       have n0_ := am (Kd.R_drew HO_529000.out)
       have n1_ := am (Kd.R_drew HO_529001.out)
       have n2_ := am (Kd.R_drew HO535.out)
       have n3_ := am (Kd.R_drew HO538.out)
       have n4_ := am (bd BK504.out)
       have n5_ := am (bd BK505.out)
       have n6_ := am (bd BK528.out)
       have n7_ := am (bd BK540.out)
       have n8_ := am (below_drew1 HB.out)
       clear HO_529000 HO_529001 HO535 HO538 BK504 BK505 BK528 BK540 HB
       have HO_529000 := n0_
       have HO_529001 := n1_
       have HO535 := n2_
       have HO538 := n3_
       have BK504 := n4_
       have BK505 := n5_
       have BK528 := n6_
       have BK540 := n7_
       have HB := n8_
       clear n0_ n1_ n2_ n3_ n4_ n5_ n6_ n7_ n8_
       refine start_ (n := 11) (S := fun w' => w'.cell? ⟨gb505, 0, none⟩ = some (.slice A1_0 l1_0.length c1_0) ∧ w'.cell? ⟨gb505, 1, none⟩ = some (.slice A1_1 l1_1.length c1_1) ∧ w'.cell? ⟨gb504, 0, none⟩ = some (.slice A0_0 l0_0.length c0_0) ∧ w'.cell? ⟨gb504, 1, none⟩ = some (.slice A0_1 l0_1.length c0_1)) (ds := []) #[F,F,F,F,F,F,F,F,F,F,F] (by kernel_rfl) rfl rfl ⟨(bc BK505.out 0).trans rfl, (bc BK505.out 1).trans rfl, (bc BK504.out 0).trans rfl, (bc BK504.out 1).trans rfl⟩ (fun hHeld => ?_); refine with_tabW w_ShiftCommon.tab10 w_ShiftCommon.bits10 (fun HT_ HW_ => ?_)
       generalize w68.drew = w69 at HO_529000 HO_529001 HO535 HO538 BK504 BK505 BK528 BK540 HB hHeld ⊢
       refine tk (i := 0) (N := some 55) (fl 11 1 []) HT_ HW_ hHeld ?_
       refine tk (i := 2) (N := some 57) (fl 11 1 [2]) HT_ HW_ hHeld ?_
       refine join_ (σ := Value × Value × Value × Value × Value × Value × Nat) 2 #[T,T,T,T,T,T,T,T,T,F,F] (fun s_ => [(56, .agg #[s_.1, s_.2.1]), (58, .agg #[s_.2.2.1, s_.2.2.2.1]), (59, .tuple #[.agg #[s_.2.2.2.2.1, s_.2.2.2.2.2.1], .int .i64 t559]), (10, .pointer (some ⟨s_.2.2.2.2.2.2, 0, none⟩)), (54, .tuple #[.agg #[s_.2.2.2.2.1, s_.2.2.2.2.2.1], .int .i64 t559]), (60, .agg #[s_.2.2.2.2.1, s_.2.2.2.2.2.1]), (61, .int .i64 t559)]) (fun s_ w' => (w'.cell? ⟨gb505, 0, none⟩ = some (.slice A1_0 l1_0.length c1_0) ∧ w'.cell? ⟨gb505, 1, none⟩ = some (.slice A1_1 l1_1.length c1_1) ∧ w'.cell? ⟨gb504, 0, none⟩ = some (.slice A0_0 l0_0.length c0_0) ∧ w'.cell? ⟨gb504, 1, none⟩ = some (.slice A0_1 l0_1.length c0_1)) ∧ (Kd.R k54 54 w' w.heap.size (fun k_ => some k_ ≠ (s_.2.2.2.2.1 : Value).ownBlock ∧ some k_ ≠ (.slice Ao35 t521.length co35 : Value).ownBlock) (.slice Ao62 t533.length co62) t533) ∧ (Kd.R (Kd.int .i64) 3 w' w.heap.size (fun k_ => some k_ ≠ (s_.2.2.2.2.2.1 : Value).ownBlock ∧ some k_ ≠ (.slice Ao37 t524.length co37 : Value).ownBlock) (.slice Ao67 t536.length co67) t536) ∧ (Kd.V k54 54 w' w.heap.size (fun k_ => some k_ ≠ (.slice Ao62 t533.length co62 : Value).ownBlock ∧ some k_ ≠ (.slice Ao67 t536.length co67 : Value).ownBlock ∧ some k_ ≠ (s_.2.2.2.2.1 : Value).ownBlock ∧ some k_ ≠ (s_.2.2.2.2.2.1 : Value).ownBlock ∧ some k_ ≠ (.slice Ao35 t521.length co35 : Value).ownBlock ∧ some k_ ≠ (.slice Ao37 t524.length co37 : Value).ownBlock ∧ k_ ≠ gb504 ∧ k_ ≠ gb505 ∧ k_ ≠ gb528 ∧ k_ ≠ gb540 ∧ k_ ≠ s_.2.2.2.2.2.2) s_.1 t541) ∧ (Kd.V (Kd.int .i64) 3 w' w.heap.size (fun k_ => some k_ ≠ (.slice Ao62 t533.length co62 : Value).ownBlock ∧ some k_ ≠ (.slice Ao67 t536.length co67 : Value).ownBlock ∧ some k_ ≠ (s_.2.2.2.2.1 : Value).ownBlock ∧ some k_ ≠ (s_.2.2.2.2.2.1 : Value).ownBlock ∧ some k_ ≠ (.slice Ao35 t521.length co35 : Value).ownBlock ∧ some k_ ≠ (.slice Ao37 t524.length co37 : Value).ownBlock ∧ k_ ≠ gb504 ∧ k_ ≠ gb505 ∧ k_ ≠ gb528 ∧ k_ ≠ gb540 ∧ k_ ≠ s_.2.2.2.2.2.2) s_.2.1 t544) ∧ (Kd.V k54 54 w' w.heap.size (fun k_ => some k_ ≠ (.slice Ao62 t533.length co62 : Value).ownBlock ∧ some k_ ≠ (.slice Ao67 t536.length co67 : Value).ownBlock ∧ some k_ ≠ (s_.2.2.2.2.1 : Value).ownBlock ∧ some k_ ≠ (s_.2.2.2.2.2.1 : Value).ownBlock ∧ some k_ ≠ (.slice Ao35 t521.length co35 : Value).ownBlock ∧ some k_ ≠ (.slice Ao37 t524.length co37 : Value).ownBlock ∧ k_ ≠ gb504 ∧ k_ ≠ gb505 ∧ k_ ≠ gb528 ∧ k_ ≠ gb540 ∧ k_ ≠ s_.2.2.2.2.2.2) s_.2.2.1 t547) ∧ (Kd.V (Kd.int .i64) 3 w' w.heap.size (fun k_ => some k_ ≠ (.slice Ao62 t533.length co62 : Value).ownBlock ∧ some k_ ≠ (.slice Ao67 t536.length co67 : Value).ownBlock ∧ some k_ ≠ (s_.2.2.2.2.1 : Value).ownBlock ∧ some k_ ≠ (s_.2.2.2.2.2.1 : Value).ownBlock ∧ some k_ ≠ (.slice Ao35 t521.length co35 : Value).ownBlock ∧ some k_ ≠ (.slice Ao37 t524.length co37 : Value).ownBlock ∧ k_ ≠ gb504 ∧ k_ ≠ gb505 ∧ k_ ≠ gb528 ∧ k_ ≠ gb540 ∧ k_ ≠ s_.2.2.2.2.2.2) s_.2.2.2.1 t550) ∧ (Kd.R k54 54 w' w.heap.size (fun k_ => some k_ ≠ (.slice Ao62 t533.length co62 : Value).ownBlock ∧ some k_ ≠ (.slice Ao35 t521.length co35 : Value).ownBlock) s_.2.2.2.2.1 t553) ∧ (Kd.R (Kd.int .i64) 3 w' w.heap.size (fun k_ => some k_ ≠ (.slice Ao67 t536.length co67 : Value).ownBlock ∧ some k_ ≠ (.slice Ao37 t524.length co37 : Value).ownBlock) s_.2.2.2.2.2.1 t556) ∧ (Kd.R k54 54 w' w.heap.size (fun k_ => some k_ ≠ (.slice Ao62 t533.length co62 : Value).ownBlock ∧ some k_ ≠ (s_.2.2.2.2.1 : Value).ownBlock) (.slice Ao35 t521.length co35) t521) ∧ (Kd.R (Kd.int .i64) 3 w' w.heap.size (fun k_ => some k_ ≠ (.slice Ao67 t536.length co67 : Value).ownBlock ∧ some k_ ≠ (s_.2.2.2.2.2.1 : Value).ownBlock) (.slice Ao37 t524.length co37) t524) ∧ (w'.heap[gb504]? = some (.cells #[.slice A0_0 l0_0.length c0_0, .slice A0_1 l0_1.length c0_1] 25 (0, 0))) ∧ (w'.heap[gb505]? = some (.cells #[.slice A1_0 l1_0.length c1_0, .slice A1_1 l1_1.length c1_1] 25 (0, 0))) ∧ (w'.heap[gb528]? = some (.cells #[.slice Ao35 t521.length co35, .slice Ao37 t524.length co37] 31 (0, 0))) ∧ (w'.heap[gb540]? = some (.cells #[.slice Ao62 t533.length co62, .slice Ao67 t536.length co67] 25 (0, 0))) ∧ (w'.heap[s_.2.2.2.2.2.2]? = some (.cells #[.slice none 0 0, .slice none 0 0] 31 (0, 0))) ∧ (w.heap.size ≤ s_.2.2.2.2.2.2) ∧ (w.heap.size ≤ s_.2.2.2.2.2.2) ∧ (gb504 ≠ s_.2.2.2.2.2.2) ∧ (s_.2.2.2.2.2.2 ≠ gb504) ∧ (gb505 ≠ s_.2.2.2.2.2.2) ∧ (s_.2.2.2.2.2.2 ≠ gb505) ∧ (gb528 ≠ s_.2.2.2.2.2.2) ∧ (s_.2.2.2.2.2.2 ≠ gb528) ∧ (gb540 ≠ s_.2.2.2.2.2.2) ∧ (s_.2.2.2.2.2.2 ≠ gb540) ∧ (Below w.heap.size w w')) ?_ ?_
       rotate_left
       ·intro hCont
        refine two_ (i := 1) (j := 8) (Ni := some 56) (Nj := some 10) #[T,T,T,F,F,F,F,F,F,F,F] (fl 11 1 [2, 8]) rfl rfl rfl rfl (two_of HT_.out (by kernel_rfl)) (by decide) (by decide) (fun K hK => ?_) (fun K hK => ?_)
        ·skip
         refine goes_ Try.func14 (by kernel_rfl) rfl #[.agg #[.slice A1_0 l1_0.length c1_0, .slice A1_1 l1_1.length c1_1]] (by rfl) rfl rfl (by (try simp only [pml]); first | done | rfl | (simp only [pdt]; rfl)) ?_
         with_reducible refine (w_ours.calls (fun k_ => k_ < w.heap.size) _ _ l1_0 (fun k_ => k_ < w.heap.size) _ _ l1_1 t541 t544 _ ?side1 ?side2 A51.out).mono ?_
         (case side1 => exact Kd.V_mk HC1_0.out (Kd.F_below (Kd.C_F k54_heap HR1_0.out) (fW HB.out)))
         (case side2 => exact Kd.V_mk HC1_1.out (Kd.F_below (Kd.C_F (Kd.heap_int .i64) HR1_1.out) (fW HB.out)))
         rintro e w70 ⟨v542, v545, rfl, ho0, ho1, hb⟩
         refine ⟨_, rfl, ?_⟩
         have n0_ := dR HO_529000 hb
         have n1_ := dR HO_529001 hb
         have n2_ := dR HO535 hb
         have n3_ := dR HO538 hb
         have n4_ := am (Kd.V_lower (Kd.V_mono (ok' := fun k_ => some k_ ≠ (.slice Ao35 t521.length co35 : Value).ownBlock ∧ some k_ ≠ (.slice Ao37 t524.length co37 : Value).ownBlock ∧ some k_ ≠ (.slice Ao62 t533.length co62 : Value).ownBlock ∧ some k_ ≠ (.slice Ao67 t536.length co67 : Value).ownBlock ∧ k_ ≠ gb504 ∧ k_ ≠ gb505 ∧ k_ ≠ gb528 ∧ k_ ≠ gb540) ho0 (fun k_ hk_ => ⟨Or.elim hk_ (fun hs_ => Or.elim hs_ (fun hs_ => fun e_ => Nat.not_le.2 hs_ (Kd.R_base HO_529000.out k_ e_.symm)) (fun hs_ => fun e_ => Nat.not_le.2 hs_ (Kd.R_base HO_529000.out k_ e_.symm))) (fun hn_ => (Kd.fresh' (Kd.R_lt (fR HO_529000.out)) k_ hn_)), Or.elim hk_ (fun hs_ => Or.elim hs_ (fun hs_ => fun e_ => Nat.not_le.2 hs_ (Kd.R_base HO_529001.out k_ e_.symm)) (fun hs_ => fun e_ => Nat.not_le.2 hs_ (Kd.R_base HO_529001.out k_ e_.symm))) (fun hn_ => (Kd.fresh' (Kd.R_lt (fR HO_529001.out)) k_ hn_)), Or.elim hk_ (fun hs_ => Or.elim hs_ (fun hs_ => fun e_ => Nat.not_le.2 hs_ (Kd.R_base HO535.out k_ e_.symm)) (fun hs_ => fun e_ => Nat.not_le.2 hs_ (Kd.R_base HO535.out k_ e_.symm))) (fun hn_ => (Kd.fresh' (Kd.R_lt (fR HO535.out)) k_ hn_)), Or.elim hk_ (fun hs_ => Or.elim hs_ (fun hs_ => fun e_ => Nat.not_le.2 hs_ (Kd.R_base HO538.out k_ e_.symm)) (fun hs_ => fun e_ => Nat.not_le.2 hs_ (Kd.R_base HO538.out k_ e_.symm))) (fun hn_ => (Kd.fresh' (Kd.R_lt (fR HO538.out)) k_ hn_)), Or.elim hk_ (fun hs_ => Or.elim hs_ (fun hs_ => fun e_ => Nat.not_le.2 hs_ (by rw [e_]; exact GW504.out)) (fun hs_ => fun e_ => Nat.not_le.2 hs_ (by rw [e_]; exact GW504.out))) (fun hn_ => (Kd.freshB (g := gb504) (o := .cells #[.slice A0_0 l0_0.length c0_0, .slice A0_1 l0_1.length c0_1] 25 (0, 0)) (fb BK504.out) k_ hn_)), Or.elim hk_ (fun hs_ => Or.elim hs_ (fun hs_ => fun e_ => Nat.not_le.2 hs_ (by rw [e_]; exact GW505.out)) (fun hs_ => fun e_ => Nat.not_le.2 hs_ (by rw [e_]; exact GW505.out))) (fun hn_ => (Kd.freshB (g := gb505) (o := .cells #[.slice A1_0 l1_0.length c1_0, .slice A1_1 l1_1.length c1_1] 25 (0, 0)) (fb BK505.out) k_ hn_)), Or.elim hk_ (fun hs_ => Or.elim hs_ (fun hs_ => fun e_ => Nat.not_le.2 hs_ (by rw [e_]; exact GW528.out)) (fun hs_ => fun e_ => Nat.not_le.2 hs_ (by rw [e_]; exact GW528.out))) (fun hn_ => (Kd.freshB (g := gb528) (o := .cells #[.slice Ao35 t521.length co35, .slice Ao37 t524.length co37] 31 (0, 0)) (fb BK528.out) k_ hn_)), Or.elim hk_ (fun hs_ => Or.elim hs_ (fun hs_ => fun e_ => Nat.not_le.2 hs_ (by rw [e_]; exact GW540.out)) (fun hs_ => fun e_ => Nat.not_le.2 hs_ (by rw [e_]; exact GW540.out))) (fun hn_ => (Kd.freshB (g := gb540) (o := .cells #[.slice Ao62 t533.length co62, .slice Ao67 t536.length co67] 25 (0, 0)) (fb BK540.out) k_ hn_))⟩)) (wz (fW HB.out)))
         have n5_ := am (Kd.V_lower (Kd.V_mono (ok' := fun k_ => some k_ ≠ (.slice Ao35 t521.length co35 : Value).ownBlock ∧ some k_ ≠ (.slice Ao37 t524.length co37 : Value).ownBlock ∧ some k_ ≠ (.slice Ao62 t533.length co62 : Value).ownBlock ∧ some k_ ≠ (.slice Ao67 t536.length co67 : Value).ownBlock ∧ k_ ≠ gb504 ∧ k_ ≠ gb505 ∧ k_ ≠ gb528 ∧ k_ ≠ gb540) ho1 (fun k_ hk_ => ⟨Or.elim hk_ (fun hs_ => Or.elim hs_ (fun hs_ => fun e_ => Nat.not_le.2 hs_ (Kd.R_base HO_529000.out k_ e_.symm)) (fun hs_ => fun e_ => Nat.not_le.2 hs_ (Kd.R_base HO_529000.out k_ e_.symm))) (fun hn_ => (Kd.fresh' (Kd.R_lt (fR HO_529000.out)) k_ hn_)), Or.elim hk_ (fun hs_ => Or.elim hs_ (fun hs_ => fun e_ => Nat.not_le.2 hs_ (Kd.R_base HO_529001.out k_ e_.symm)) (fun hs_ => fun e_ => Nat.not_le.2 hs_ (Kd.R_base HO_529001.out k_ e_.symm))) (fun hn_ => (Kd.fresh' (Kd.R_lt (fR HO_529001.out)) k_ hn_)), Or.elim hk_ (fun hs_ => Or.elim hs_ (fun hs_ => fun e_ => Nat.not_le.2 hs_ (Kd.R_base HO535.out k_ e_.symm)) (fun hs_ => fun e_ => Nat.not_le.2 hs_ (Kd.R_base HO535.out k_ e_.symm))) (fun hn_ => (Kd.fresh' (Kd.R_lt (fR HO535.out)) k_ hn_)), Or.elim hk_ (fun hs_ => Or.elim hs_ (fun hs_ => fun e_ => Nat.not_le.2 hs_ (Kd.R_base HO538.out k_ e_.symm)) (fun hs_ => fun e_ => Nat.not_le.2 hs_ (Kd.R_base HO538.out k_ e_.symm))) (fun hn_ => (Kd.fresh' (Kd.R_lt (fR HO538.out)) k_ hn_)), Or.elim hk_ (fun hs_ => Or.elim hs_ (fun hs_ => fun e_ => Nat.not_le.2 hs_ (by rw [e_]; exact GW504.out)) (fun hs_ => fun e_ => Nat.not_le.2 hs_ (by rw [e_]; exact GW504.out))) (fun hn_ => (Kd.freshB (g := gb504) (o := .cells #[.slice A0_0 l0_0.length c0_0, .slice A0_1 l0_1.length c0_1] 25 (0, 0)) (fb BK504.out) k_ hn_)), Or.elim hk_ (fun hs_ => Or.elim hs_ (fun hs_ => fun e_ => Nat.not_le.2 hs_ (by rw [e_]; exact GW505.out)) (fun hs_ => fun e_ => Nat.not_le.2 hs_ (by rw [e_]; exact GW505.out))) (fun hn_ => (Kd.freshB (g := gb505) (o := .cells #[.slice A1_0 l1_0.length c1_0, .slice A1_1 l1_1.length c1_1] 25 (0, 0)) (fb BK505.out) k_ hn_)), Or.elim hk_ (fun hs_ => Or.elim hs_ (fun hs_ => fun e_ => Nat.not_le.2 hs_ (by rw [e_]; exact GW528.out)) (fun hs_ => fun e_ => Nat.not_le.2 hs_ (by rw [e_]; exact GW528.out))) (fun hn_ => (Kd.freshB (g := gb528) (o := .cells #[.slice Ao35 t521.length co35, .slice Ao37 t524.length co37] 31 (0, 0)) (fb BK528.out) k_ hn_)), Or.elim hk_ (fun hs_ => Or.elim hs_ (fun hs_ => fun e_ => Nat.not_le.2 hs_ (by rw [e_]; exact GW540.out)) (fun hs_ => fun e_ => Nat.not_le.2 hs_ (by rw [e_]; exact GW540.out))) (fun hn_ => (Kd.freshB (g := gb540) (o := .cells #[.slice Ao62 t533.length co62, .slice Ao67 t536.length co67] 25 (0, 0)) (fb BK540.out) k_ hn_))⟩)) (wz (fW HB.out)))
         have n6_ := bB BK504 hb
         have n7_ := bB BK505 hb
         have n8_ := bB BK528 hb
         have n9_ := bB BK540 hb
         have n10_ := bS HB hb
         clear HO_529000 HO_529001 HO535 HO538 BK504 BK505 BK528 BK540 HB
         have HO_529000 := n0_
         have HO_529001 := n1_
         have HO535 := n2_
         have HO538 := n3_
         have HO543 := n4_
         have HO546 := n5_
         have BK504 := n6_
         have BK505 := n7_
         have BK528 := n8_
         have BK540 := n9_
         have HB := n10_
         clear n0_ n1_ n2_ n3_ n4_ n5_ n6_ n7_ n8_ n9_ n10_
         (try clear hb)
         (try clear hb2)
         (try clear hk)
         (try clear hi)
         (try clear ho0)
         (try clear ho1)
         refine hK.out _ _ ⟨(bc BK505.out 0).trans rfl, (bc BK505.out 1).trans rfl, (bc BK504.out 0).trans rfl, (bc BK504.out 1).trans rfl⟩ (fun hHeld => ?_)
         clear hK K
         refine norm_ (a' := ?_) ?_ ?_
         rotate_left
         ·show Act.put _ (some 56) _ = _
          simp only [Act.put, psl, i64_w, i32_w]
          rfl
         refine two_ (i := 3) (j := 8) (Ni := some 58) (Nj := some 10) #[T,T,T,T,F,F,F,F,F,F,F] (fl 11 3 [8]) rfl rfl rfl rfl (two_of HT_.out (by kernel_rfl)) (by decide) (by decide) (fun K hK => ?_) (fun K hK => ?_)
         ·skip
          refine goes_ Try.func14 (by kernel_rfl) rfl #[.agg #[.slice A0_0 l0_0.length c0_0, .slice A0_1 l0_1.length c0_1]] (by rfl) rfl rfl (by (try simp only [pml]); first | done | rfl | (simp only [pdt]; rfl)) ?_
          with_reducible refine (w_ours.calls (fun k_ => k_ < w.heap.size) _ _ l0_0 (fun k_ => k_ < w.heap.size) _ _ l0_1 t547 t550 _ ?side1 ?side2 A52.out).mono ?_
          (case side1 => exact Kd.V_mk HC0_0.out (Kd.F_below (Kd.C_F k54_heap HR0_0.out) (fW HB.out)))
          (case side2 => exact Kd.V_mk HC0_1.out (Kd.F_below (Kd.C_F (Kd.heap_int .i64) HR0_1.out) (fW HB.out)))
          rintro e w71 ⟨v548, v551, rfl, ho0, ho1, hb⟩
          refine ⟨_, rfl, ?_⟩
          have n0_ := dR HO_529000 hb
          have n1_ := dR HO_529001 hb
          have n2_ := dR HO535 hb
          have n3_ := dR HO538 hb
          have n4_ := dV HO543 hb
          have n5_ := dV HO546 hb
          have n6_ := am (Kd.V_lower (Kd.V_mono (ok' := fun k_ => some k_ ≠ (.slice Ao35 t521.length co35 : Value).ownBlock ∧ some k_ ≠ (.slice Ao37 t524.length co37 : Value).ownBlock ∧ some k_ ≠ (.slice Ao62 t533.length co62 : Value).ownBlock ∧ some k_ ≠ (.slice Ao67 t536.length co67 : Value).ownBlock ∧ k_ ≠ gb504 ∧ k_ ≠ gb505 ∧ k_ ≠ gb528 ∧ k_ ≠ gb540) ho0 (fun k_ hk_ => ⟨Or.elim hk_ (fun hs_ => Or.elim hs_ (fun hs_ => fun e_ => Nat.not_le.2 hs_ (Kd.R_base HO_529000.out k_ e_.symm)) (fun hs_ => fun e_ => Nat.not_le.2 hs_ (Kd.R_base HO_529000.out k_ e_.symm))) (fun hn_ => (Kd.fresh' (Kd.R_lt (fR HO_529000.out)) k_ hn_)), Or.elim hk_ (fun hs_ => Or.elim hs_ (fun hs_ => fun e_ => Nat.not_le.2 hs_ (Kd.R_base HO_529001.out k_ e_.symm)) (fun hs_ => fun e_ => Nat.not_le.2 hs_ (Kd.R_base HO_529001.out k_ e_.symm))) (fun hn_ => (Kd.fresh' (Kd.R_lt (fR HO_529001.out)) k_ hn_)), Or.elim hk_ (fun hs_ => Or.elim hs_ (fun hs_ => fun e_ => Nat.not_le.2 hs_ (Kd.R_base HO535.out k_ e_.symm)) (fun hs_ => fun e_ => Nat.not_le.2 hs_ (Kd.R_base HO535.out k_ e_.symm))) (fun hn_ => (Kd.fresh' (Kd.R_lt (fR HO535.out)) k_ hn_)), Or.elim hk_ (fun hs_ => Or.elim hs_ (fun hs_ => fun e_ => Nat.not_le.2 hs_ (Kd.R_base HO538.out k_ e_.symm)) (fun hs_ => fun e_ => Nat.not_le.2 hs_ (Kd.R_base HO538.out k_ e_.symm))) (fun hn_ => (Kd.fresh' (Kd.R_lt (fR HO538.out)) k_ hn_)), Or.elim hk_ (fun hs_ => Or.elim hs_ (fun hs_ => fun e_ => Nat.not_le.2 hs_ (by rw [e_]; exact GW504.out)) (fun hs_ => fun e_ => Nat.not_le.2 hs_ (by rw [e_]; exact GW504.out))) (fun hn_ => (Kd.freshB (g := gb504) (o := .cells #[.slice A0_0 l0_0.length c0_0, .slice A0_1 l0_1.length c0_1] 25 (0, 0)) (fb BK504.out) k_ hn_)), Or.elim hk_ (fun hs_ => Or.elim hs_ (fun hs_ => fun e_ => Nat.not_le.2 hs_ (by rw [e_]; exact GW505.out)) (fun hs_ => fun e_ => Nat.not_le.2 hs_ (by rw [e_]; exact GW505.out))) (fun hn_ => (Kd.freshB (g := gb505) (o := .cells #[.slice A1_0 l1_0.length c1_0, .slice A1_1 l1_1.length c1_1] 25 (0, 0)) (fb BK505.out) k_ hn_)), Or.elim hk_ (fun hs_ => Or.elim hs_ (fun hs_ => fun e_ => Nat.not_le.2 hs_ (by rw [e_]; exact GW528.out)) (fun hs_ => fun e_ => Nat.not_le.2 hs_ (by rw [e_]; exact GW528.out))) (fun hn_ => (Kd.freshB (g := gb528) (o := .cells #[.slice Ao35 t521.length co35, .slice Ao37 t524.length co37] 31 (0, 0)) (fb BK528.out) k_ hn_)), Or.elim hk_ (fun hs_ => Or.elim hs_ (fun hs_ => fun e_ => Nat.not_le.2 hs_ (by rw [e_]; exact GW540.out)) (fun hs_ => fun e_ => Nat.not_le.2 hs_ (by rw [e_]; exact GW540.out))) (fun hn_ => (Kd.freshB (g := gb540) (o := .cells #[.slice Ao62 t533.length co62, .slice Ao67 t536.length co67] 25 (0, 0)) (fb BK540.out) k_ hn_))⟩)) (wz (fW HB.out)))
          have n7_ := am (Kd.V_lower (Kd.V_mono (ok' := fun k_ => some k_ ≠ (.slice Ao35 t521.length co35 : Value).ownBlock ∧ some k_ ≠ (.slice Ao37 t524.length co37 : Value).ownBlock ∧ some k_ ≠ (.slice Ao62 t533.length co62 : Value).ownBlock ∧ some k_ ≠ (.slice Ao67 t536.length co67 : Value).ownBlock ∧ k_ ≠ gb504 ∧ k_ ≠ gb505 ∧ k_ ≠ gb528 ∧ k_ ≠ gb540) ho1 (fun k_ hk_ => ⟨Or.elim hk_ (fun hs_ => Or.elim hs_ (fun hs_ => fun e_ => Nat.not_le.2 hs_ (Kd.R_base HO_529000.out k_ e_.symm)) (fun hs_ => fun e_ => Nat.not_le.2 hs_ (Kd.R_base HO_529000.out k_ e_.symm))) (fun hn_ => (Kd.fresh' (Kd.R_lt (fR HO_529000.out)) k_ hn_)), Or.elim hk_ (fun hs_ => Or.elim hs_ (fun hs_ => fun e_ => Nat.not_le.2 hs_ (Kd.R_base HO_529001.out k_ e_.symm)) (fun hs_ => fun e_ => Nat.not_le.2 hs_ (Kd.R_base HO_529001.out k_ e_.symm))) (fun hn_ => (Kd.fresh' (Kd.R_lt (fR HO_529001.out)) k_ hn_)), Or.elim hk_ (fun hs_ => Or.elim hs_ (fun hs_ => fun e_ => Nat.not_le.2 hs_ (Kd.R_base HO535.out k_ e_.symm)) (fun hs_ => fun e_ => Nat.not_le.2 hs_ (Kd.R_base HO535.out k_ e_.symm))) (fun hn_ => (Kd.fresh' (Kd.R_lt (fR HO535.out)) k_ hn_)), Or.elim hk_ (fun hs_ => Or.elim hs_ (fun hs_ => fun e_ => Nat.not_le.2 hs_ (Kd.R_base HO538.out k_ e_.symm)) (fun hs_ => fun e_ => Nat.not_le.2 hs_ (Kd.R_base HO538.out k_ e_.symm))) (fun hn_ => (Kd.fresh' (Kd.R_lt (fR HO538.out)) k_ hn_)), Or.elim hk_ (fun hs_ => Or.elim hs_ (fun hs_ => fun e_ => Nat.not_le.2 hs_ (by rw [e_]; exact GW504.out)) (fun hs_ => fun e_ => Nat.not_le.2 hs_ (by rw [e_]; exact GW504.out))) (fun hn_ => (Kd.freshB (g := gb504) (o := .cells #[.slice A0_0 l0_0.length c0_0, .slice A0_1 l0_1.length c0_1] 25 (0, 0)) (fb BK504.out) k_ hn_)), Or.elim hk_ (fun hs_ => Or.elim hs_ (fun hs_ => fun e_ => Nat.not_le.2 hs_ (by rw [e_]; exact GW505.out)) (fun hs_ => fun e_ => Nat.not_le.2 hs_ (by rw [e_]; exact GW505.out))) (fun hn_ => (Kd.freshB (g := gb505) (o := .cells #[.slice A1_0 l1_0.length c1_0, .slice A1_1 l1_1.length c1_1] 25 (0, 0)) (fb BK505.out) k_ hn_)), Or.elim hk_ (fun hs_ => Or.elim hs_ (fun hs_ => fun e_ => Nat.not_le.2 hs_ (by rw [e_]; exact GW528.out)) (fun hs_ => fun e_ => Nat.not_le.2 hs_ (by rw [e_]; exact GW528.out))) (fun hn_ => (Kd.freshB (g := gb528) (o := .cells #[.slice Ao35 t521.length co35, .slice Ao37 t524.length co37] 31 (0, 0)) (fb BK528.out) k_ hn_)), Or.elim hk_ (fun hs_ => Or.elim hs_ (fun hs_ => fun e_ => Nat.not_le.2 hs_ (by rw [e_]; exact GW540.out)) (fun hs_ => fun e_ => Nat.not_le.2 hs_ (by rw [e_]; exact GW540.out))) (fun hn_ => (Kd.freshB (g := gb540) (o := .cells #[.slice Ao62 t533.length co62, .slice Ao67 t536.length co67] 25 (0, 0)) (fb BK540.out) k_ hn_))⟩)) (wz (fW HB.out)))
          have n8_ := bB BK504 hb
          have n9_ := bB BK505 hb
          have n10_ := bB BK528 hb
          have n11_ := bB BK540 hb
          have n12_ := bS HB hb
          clear HO_529000 HO_529001 HO535 HO538 HO543 HO546 BK504 BK505 BK528 BK540 HB
          have HO_529000 := n0_
          have HO_529001 := n1_
          have HO535 := n2_
          have HO538 := n3_
          have HO543 := n4_
          have HO546 := n5_
          have HO549 := n6_
          have HO552 := n7_
          have BK504 := n8_
          have BK505 := n9_
          have BK528 := n10_
          have BK540 := n11_
          have HB := n12_
          clear n0_ n1_ n2_ n3_ n4_ n5_ n6_ n7_ n8_ n9_ n10_ n11_ n12_
          (try clear hb)
          (try clear hb2)
          (try clear hk)
          (try clear hi)
          (try clear ho0)
          (try clear ho1)
          obtain ⟨Ao72, co72, eo72⟩ := Kd.V_slice HO543.out
          (first | subst eo72 | (injection eo72 with f1_ f2_ f3_; have f4_ := f1_.symm; have f5_ := f3_.symm; clear f1_ f2_ f3_; subst f4_; subst f5_))
          obtain ⟨Ao73, co73, eo73⟩ := Kd.V_slice HO546.out
          (first | subst eo73 | (injection eo73 with f1_ f2_ f3_; have f4_ := f1_.symm; have f5_ := f3_.symm; clear f1_ f2_ f3_; subst f4_; subst f5_))
          obtain ⟨Ao74, co74, eo74⟩ := Kd.V_slice HO549.out
          (first | subst eo74 | (injection eo74 with f1_ f2_ f3_; have f4_ := f1_.symm; have f5_ := f3_.symm; clear f1_ f2_ f3_; subst f4_; subst f5_))
          obtain ⟨Ao75, co75, eo75⟩ := Kd.V_slice HO552.out
          (first | subst eo75 | (injection eo75 with f1_ f2_ f3_; have f4_ := f1_.symm; have f5_ := f3_.symm; clear f1_ f2_ f3_; subst f4_; subst f5_))
          refine hK.out _ _ ⟨(bc BK505.out 0).trans rfl, (bc BK505.out 1).trans rfl, (bc BK504.out 0).trans rfl, (bc BK504.out 1).trans rfl⟩ (fun hHeld => ?_)
          clear hK K
          refine norm_ (a' := ?_) ?_ ?_
          rotate_left
          ·show Act.put _ (some 58) _ = _
           simp only [Act.put, psl, i64_w, i32_w]
           rfl
          refine two_ (i := 4) (j := 8) (Ni := some 59) (Nj := some 10) #[T,T,T,T,T,F,F,F,F,F,F] (fl 11 4 [8]) rfl rfl rfl rfl (two_of HT_.out (by kernel_rfl)) (by decide) (by decide) (fun K hK => ?_) (fun K hK => ?_)
          ·skip
           refine goes_ Try.func32 (by kernel_rfl) rfl #[.agg #[.slice Ao72 t541.length co72, .slice Ao73 t544.length co73], .agg #[.slice Ao74 t547.length co74, .slice Ao75 t550.length co75]] (by rfl) rfl rfl (by (try simp only [pml]); first | done | rfl | (simp only [pdt]; rfl)) ?_
           with_reducible refine (shift_Common.calls kj23 (fun k_ => (some k_ ≠ (.slice Ao35 t521.length co35 : Value).ownBlock ∧ (some k_ ≠ (.slice Ao37 t524.length co37 : Value).ownBlock ∧ (some k_ ≠ (.slice Ao62 t533.length co62 : Value).ownBlock ∧ (some k_ ≠ (.slice Ao67 t536.length co67 : Value).ownBlock ∧ (k_ ≠ gb504 ∧ (k_ ≠ gb505 ∧ (k_ ≠ gb528 ∧ k_ ≠ gb540)))))))) _ _ t541 (fun k_ => (some k_ ≠ (.slice Ao35 t521.length co35 : Value).ownBlock ∧ (some k_ ≠ (.slice Ao37 t524.length co37 : Value).ownBlock ∧ (some k_ ≠ (.slice Ao62 t533.length co62 : Value).ownBlock ∧ (some k_ ≠ (.slice Ao67 t536.length co67 : Value).ownBlock ∧ (k_ ≠ gb504 ∧ (k_ ≠ gb505 ∧ (k_ ≠ gb528 ∧ k_ ≠ gb540)))))))) _ _ t544 (fun k_ => (some k_ ≠ (.slice Ao35 t521.length co35 : Value).ownBlock ∧ (some k_ ≠ (.slice Ao37 t524.length co37 : Value).ownBlock ∧ (some k_ ≠ (.slice Ao62 t533.length co62 : Value).ownBlock ∧ (some k_ ≠ (.slice Ao67 t536.length co67 : Value).ownBlock ∧ (k_ ≠ gb504 ∧ (k_ ≠ gb505 ∧ (k_ ≠ gb528 ∧ k_ ≠ gb540)))))))) _ _ t547 (fun k_ => (some k_ ≠ (.slice Ao35 t521.length co35 : Value).ownBlock ∧ (some k_ ≠ (.slice Ao37 t524.length co37 : Value).ownBlock ∧ (some k_ ≠ (.slice Ao62 t533.length co62 : Value).ownBlock ∧ (some k_ ≠ (.slice Ao67 t536.length co67 : Value).ownBlock ∧ (k_ ≠ gb504 ∧ (k_ ≠ gb505 ∧ (k_ ≠ gb528 ∧ k_ ≠ gb540)))))))) _ _ t550 t553 t556 t559 _ ?side1 ?side2 ?side3 ?side4 A53.out).mono ?_
           (case side1 => exact HO543.out)
           (case side2 => exact HO546.out)
           (case side3 => exact HO549.out)
           (case side4 => exact HO552.out)
           rintro e w76 ⟨v554, v557, rfl, ho0, ho1, hb⟩
           refine ⟨_, rfl, ?_⟩
           have n0_ := am (Kd.R_elder' (fR HO_529000.out) (Kd.R_base ho0) hb)
           have n1_ := am (Kd.R_elder' (fR HO_529001.out) (Kd.R_base ho1) hb)
           have n2_ := am (Kd.R_elder' (fR HO535.out) (Kd.R_base ho0) hb)
           have n3_ := am (Kd.R_elder' (fR HO538.out) (Kd.R_base ho1) hb)
           have n4_ := am (Kd.V_mono (Kd.V_told (Kd.V_told (Kd.V_old (fV HO543.out) hb) (Kd.R_base ho0)) (Kd.R_base ho1)) (fun _ h_ => h_.1))
           have n5_ := am (Kd.V_mono (Kd.V_told (Kd.V_told (Kd.V_old (fV HO546.out) hb) (Kd.R_base ho0)) (Kd.R_base ho1)) (fun _ h_ => h_.1))
           have n6_ := am (Kd.V_mono (Kd.V_told (Kd.V_told (Kd.V_old (fV HO549.out) hb) (Kd.R_base ho0)) (Kd.R_base ho1)) (fun _ h_ => h_.1))
           have n7_ := am (Kd.V_mono (Kd.V_told (Kd.V_told (Kd.V_old (fV HO552.out) hb) (Kd.R_base ho0)) (Kd.R_base ho1)) (fun _ h_ => h_.1))
           have n8_ := am (Kd.R_lower (Kd.R_new' (Kd.R_new' (Kd.R_mono (ok' := fun k_ => True) ho0 (fun _ hk_ => trivial)) (Kd.R_lt (fR HO_529000.out))) (Kd.R_lt (fR HO535.out))) (wz (fW HB.out)))
           have n9_ := am (Kd.R_lower (Kd.R_new' (Kd.R_new' (Kd.R_mono (ok' := fun k_ => True) ho1 (fun _ hk_ => trivial)) (Kd.R_lt (fR HO_529001.out))) (Kd.R_lt (fR HO538.out))) (wz (fW HB.out)))
           have n10_ := bB BK504 hb
           have n11_ := bB BK505 hb
           have n12_ := bB BK528 hb
           have n13_ := bB BK540 hb
           have n14_ := bS HB hb
           clear HO_529000 HO_529001 HO535 HO538 HO543 HO546 HO549 HO552 BK504 BK505 BK528 BK540 HB
           have HO_529000 := n0_
           have HO_529001 := n1_
           have HO535 := n2_
           have HO538 := n3_
           have HO543 := n4_
           have HO546 := n5_
           have HO549 := n6_
           have HO552 := n7_
           have HO555 := n8_
           have HO558 := n9_
           have BK504 := n10_
           have BK505 := n11_
           have BK528 := n12_
           have BK540 := n13_
           have HB := n14_
           clear n0_ n1_ n2_ n3_ n4_ n5_ n6_ n7_ n8_ n9_ n10_ n11_ n12_ n13_ n14_
           (try clear hb)
           (try clear hb2)
           (try clear hk)
           (try clear hi)
           (try clear ho0)
           (try clear ho1)
           refine hK.out _ _ ⟨(bc BK505.out 0).trans rfl, (bc BK505.out 1).trans rfl, (bc BK504.out 0).trans rfl, (bc BK504.out 1).trans rfl⟩ (fun hHeld => ?_)
           clear hK K
           refine norm_ (a' := ?_) ?_ ?_
           rotate_left
           ·show Act.put _ (some 59) _ = _
            simp only [Act.put, psl, i64_w, i32_w]
            rfl
           refine pu (i := 5) (N := some 54) (fl 11 6 []) HT_ ?_
           refine pu (i := 6) (N := some 60) (fl 11 7 []) HT_ ?_
           refine pu (i := 7) (N := some 61) (fl 11 8 []) HT_ ?_
           refine one_ (i := 8) (N := some 10) (fl 11 9 []) rfl rfl (one_of HT_.out (by kernel_rfl)) (by decide) (fun K hK => ?_)
           refine box_step ?hg (N := 10) ?hd (cs := #[.slice none 0 0, .slice none 0 0]) (t := 31) ?hr ?_; (case hd | hg => rfl); (case hr => first | (go_simp; done) | (go_simp; rfl))
           intro gb560 hg w77 hbox hb
           have n0_ := dR HO_529000 hb
           have n1_ := dR HO_529001 hb
           have n2_ := dR HO535 hb
           have n3_ := dR HO538 hb
           have n4_ := eV HO543 hg hb
           have n5_ := eV HO546 hg hb
           have n6_ := eV HO549 hg hb
           have n7_ := eV HO552 hg hb
           have n8_ := dR HO555 hb
           have n9_ := dR HO558 hb
           have n10_ := bB BK504 hb
           have n11_ := bB BK505 hb
           have n12_ := bB BK528 hb
           have n13_ := bB BK540 hb
           have n14_ := bS HB hb
           have n15_ := am hbox
           have n16_ := sG HB hg
           have n17_ := sG HB hg
           have n18_ := nL BK504 hg
           have n19_ := nG BK504 hg
           have n20_ := nL BK505 hg
           have n21_ := nG BK505 hg
           have n22_ := nL BK528 hg
           have n23_ := nG BK528 hg
           have n24_ := nL BK540 hg
           have n25_ := nG BK540 hg
           clear HO_529000 HO_529001 HO535 HO538 HO543 HO546 HO549 HO552 HO555 HO558 BK504 BK505 BK528 BK540 HB
           have HO_529000 := n0_
           have HO_529001 := n1_
           have HO535 := n2_
           have HO538 := n3_
           have HO543 := n4_
           have HO546 := n5_
           have HO549 := n6_
           have HO552 := n7_
           have HO555 := n8_
           have HO558 := n9_
           have BK504 := n10_
           have BK505 := n11_
           have BK528 := n12_
           have BK540 := n13_
           have HB := n14_
           have BK560 := n15_
           have GW560 := n16_
           have GE560 := n17_
           have NB504_560 := n18_
           have NB560_504 := n19_
           have NB505_560 := n20_
           have NB560_505 := n21_
           have NB528_560 := n22_
           have NB560_528 := n23_
           have NB540_560 := n24_
           have NB560_540 := n25_
           clear n0_ n1_ n2_ n3_ n4_ n5_ n6_ n7_ n8_ n9_ n10_ n11_ n12_ n13_ n14_ n15_ n16_ n17_ n18_ n19_ n20_ n21_ n22_ n23_ n24_ n25_ hb hbox hg
           refine hK.out _ _ ⟨(bc BK505.out 0).trans rfl, (bc BK505.out 1).trans rfl, (bc BK504.out 0).trans rfl, (bc BK504.out 1).trans rfl⟩ (fun hHeld => ?_)
           clear hK K
           refine norm_ (a' := ?_) ?_ ?_
           rotate_left
           ·show Act.put _ (some 10) _ = _
            simp only [Act.put, psl, i64_w, i32_w]
            rfl
           exact norm_ (by simp only [putAll, Act.put, psl]) (hCont (.slice Ao72 t541.length co72, .slice Ao73 t544.length co73, .slice Ao74 t547.length co74, .slice Ao75 t550.length co75, v554, v557, gb560) _ ⟨hHeld, (by (with_reducible repeat (first | apply Kd.R_alloc | apply Kd.R_drewN | apply Kd.R_drew)); exact Kd.R_mono HO535.out (fun _ hk => ⟨hk.2, hk.1⟩)), (by (with_reducible repeat (first | apply Kd.R_alloc | apply Kd.R_drewN | apply Kd.R_drew)); exact Kd.R_mono HO538.out (fun _ hk => ⟨hk.2, hk.1⟩)), (by (with_reducible repeat (first | apply Kd.V_alloc | apply Kd.V_drewN | apply Kd.V_drew)); exact Kd.V_mono HO543.out (fun _ hk => ⟨hk.1.1.1.2.2.1, ⟨hk.1.1.1.2.2.2.1, ⟨hk.1.1.2, ⟨hk.1.2, ⟨hk.1.1.1.1, ⟨hk.1.1.1.2.1, ⟨hk.1.1.1.2.2.2.2.1, ⟨hk.1.1.1.2.2.2.2.2.1, ⟨hk.1.1.1.2.2.2.2.2.2.1, ⟨hk.1.1.1.2.2.2.2.2.2.2, hk.2⟩⟩⟩⟩⟩⟩⟩⟩⟩⟩)), (by (with_reducible repeat (first | apply Kd.V_alloc | apply Kd.V_drewN | apply Kd.V_drew)); exact Kd.V_mono HO546.out (fun _ hk => ⟨hk.1.1.1.2.2.1, ⟨hk.1.1.1.2.2.2.1, ⟨hk.1.1.2, ⟨hk.1.2, ⟨hk.1.1.1.1, ⟨hk.1.1.1.2.1, ⟨hk.1.1.1.2.2.2.2.1, ⟨hk.1.1.1.2.2.2.2.2.1, ⟨hk.1.1.1.2.2.2.2.2.2.1, ⟨hk.1.1.1.2.2.2.2.2.2.2, hk.2⟩⟩⟩⟩⟩⟩⟩⟩⟩⟩)), (by (with_reducible repeat (first | apply Kd.V_alloc | apply Kd.V_drewN | apply Kd.V_drew)); exact Kd.V_mono HO549.out (fun _ hk => ⟨hk.1.1.1.2.2.1, ⟨hk.1.1.1.2.2.2.1, ⟨hk.1.1.2, ⟨hk.1.2, ⟨hk.1.1.1.1, ⟨hk.1.1.1.2.1, ⟨hk.1.1.1.2.2.2.2.1, ⟨hk.1.1.1.2.2.2.2.2.1, ⟨hk.1.1.1.2.2.2.2.2.2.1, ⟨hk.1.1.1.2.2.2.2.2.2.2, hk.2⟩⟩⟩⟩⟩⟩⟩⟩⟩⟩)), (by (with_reducible repeat (first | apply Kd.V_alloc | apply Kd.V_drewN | apply Kd.V_drew)); exact Kd.V_mono HO552.out (fun _ hk => ⟨hk.1.1.1.2.2.1, ⟨hk.1.1.1.2.2.2.1, ⟨hk.1.1.2, ⟨hk.1.2, ⟨hk.1.1.1.1, ⟨hk.1.1.1.2.1, ⟨hk.1.1.1.2.2.2.2.1, ⟨hk.1.1.1.2.2.2.2.2.1, ⟨hk.1.1.1.2.2.2.2.2.2.1, ⟨hk.1.1.1.2.2.2.2.2.2.2, hk.2⟩⟩⟩⟩⟩⟩⟩⟩⟩⟩)), (by (with_reducible repeat (first | apply Kd.R_alloc | apply Kd.R_drewN | apply Kd.R_drew)); exact Kd.R_mono HO555.out (fun _ hk => ⟨hk.2, hk.1.2⟩)), (by (with_reducible repeat (first | apply Kd.R_alloc | apply Kd.R_drewN | apply Kd.R_drew)); exact Kd.R_mono HO558.out (fun _ hk => ⟨hk.2, hk.1.2⟩)), (fR HO_529000.out), (fR HO_529001.out), (fb BK504.out), (fb BK505.out), (fb BK528.out), (fb BK540.out), (fb BK560.out), GW560.out, GE560.out, NB504_560.out, NB560_504.out, NB505_560.out, NB560_505.out, NB528_560.out, NB560_528.out, NB540_560.out, NB560_540.out, (fW HB.out)⟩)
          skip
          refine box_step ?hg (N := 10) ?hd (cs := #[.slice none 0 0, .slice none 0 0]) (t := 31) ?hr ?_; (case hd | hg => rfl); (case hr => first | (go_simp; done) | (go_simp; rfl))
          intro gb560 hg w72 hbox hb
          have n0_ := dR HO_529000 hb
          have n1_ := dR HO_529001 hb
          have n2_ := dR HO535 hb
          have n3_ := dR HO538 hb
          have n4_ := eV HO543 hg hb
          have n5_ := eV HO546 hg hb
          have n6_ := eV HO549 hg hb
          have n7_ := eV HO552 hg hb
          have n8_ := bB BK504 hb
          have n9_ := bB BK505 hb
          have n10_ := bB BK528 hb
          have n11_ := bB BK540 hb
          have n12_ := bS HB hb
          have n13_ := am hbox
          have n14_ := sG HB hg
          have n15_ := sG HB hg
          have n16_ := nL BK504 hg
          have n17_ := nG BK504 hg
          have n18_ := nL BK505 hg
          have n19_ := nG BK505 hg
          have n20_ := nL BK528 hg
          have n21_ := nG BK528 hg
          have n22_ := nL BK540 hg
          have n23_ := nG BK540 hg
          clear HO_529000 HO_529001 HO535 HO538 HO543 HO546 HO549 HO552 BK504 BK505 BK528 BK540 HB
          have HO_529000 := n0_
          have HO_529001 := n1_
          have HO535 := n2_
          have HO538 := n3_
          have HO543 := n4_
          have HO546 := n5_
          have HO549 := n6_
          have HO552 := n7_
          have BK504 := n8_
          have BK505 := n9_
          have BK528 := n10_
          have BK540 := n11_
          have HB := n12_
          have BK560 := n13_
          have GW560 := n14_
          have GE560 := n15_
          have NB504_560 := n16_
          have NB560_504 := n17_
          have NB505_560 := n18_
          have NB560_505 := n19_
          have NB528_560 := n20_
          have NB560_528 := n21_
          have NB540_560 := n22_
          have NB560_540 := n23_
          clear n0_ n1_ n2_ n3_ n4_ n5_ n6_ n7_ n8_ n9_ n10_ n11_ n12_ n13_ n14_ n15_ n16_ n17_ n18_ n19_ n20_ n21_ n22_ n23_ hb hbox hg
          obtain ⟨Ao73, co73, eo73⟩ := Kd.V_slice HO543.out
          (first | subst eo73 | (injection eo73 with f1_ f2_ f3_; have f4_ := f1_.symm; have f5_ := f3_.symm; clear f1_ f2_ f3_; subst f4_; subst f5_))
          obtain ⟨Ao74, co74, eo74⟩ := Kd.V_slice HO546.out
          (first | subst eo74 | (injection eo74 with f1_ f2_ f3_; have f4_ := f1_.symm; have f5_ := f3_.symm; clear f1_ f2_ f3_; subst f4_; subst f5_))
          obtain ⟨Ao75, co75, eo75⟩ := Kd.V_slice HO549.out
          (first | subst eo75 | (injection eo75 with f1_ f2_ f3_; have f4_ := f1_.symm; have f5_ := f3_.symm; clear f1_ f2_ f3_; subst f4_; subst f5_))
          obtain ⟨Ao76, co76, eo76⟩ := Kd.V_slice HO552.out
          (first | subst eo76 | (injection eo76 with f1_ f2_ f3_; have f4_ := f1_.symm; have f5_ := f3_.symm; clear f1_ f2_ f3_; subst f4_; subst f5_))
          refine hK.out _ _ ⟨(bc BK505.out 0).trans rfl, (bc BK505.out 1).trans rfl, (bc BK504.out 0).trans rfl, (bc BK504.out 1).trans rfl⟩ (fun hHeld => ?_)
          clear hK K
          refine norm_ (a' := ?_) ?_ ?_
          rotate_left
          ·show Act.put _ (some 10) _ = _
           simp only [Act.put, psl, i64_w, i32_w]
           rfl
          refine one_ (i := 4) (N := some 59) (fl 11 5 [8]) rfl rfl (one_of HT_.out (by kernel_rfl)) (by decide) (fun K hK => ?_)
          refine goes_ Try.func32 (by kernel_rfl) rfl #[.agg #[.slice Ao73 t541.length co73, .slice Ao74 t544.length co74], .agg #[.slice Ao75 t547.length co75, .slice Ao76 t550.length co76]] (by rfl) rfl rfl (by (try simp only [pml]); first | done | rfl | (simp only [pdt]; rfl)) ?_
          with_reducible refine (shift_Common.calls kj23 (fun k_ => ((some k_ ≠ (.slice Ao35 t521.length co35 : Value).ownBlock ∧ (some k_ ≠ (.slice Ao37 t524.length co37 : Value).ownBlock ∧ (some k_ ≠ (.slice Ao62 t533.length co62 : Value).ownBlock ∧ (some k_ ≠ (.slice Ao67 t536.length co67 : Value).ownBlock ∧ (k_ ≠ gb504 ∧ (k_ ≠ gb505 ∧ (k_ ≠ gb528 ∧ k_ ≠ gb540))))))) ∧ k_ ≠ gb560)) _ _ t541 (fun k_ => ((some k_ ≠ (.slice Ao35 t521.length co35 : Value).ownBlock ∧ (some k_ ≠ (.slice Ao37 t524.length co37 : Value).ownBlock ∧ (some k_ ≠ (.slice Ao62 t533.length co62 : Value).ownBlock ∧ (some k_ ≠ (.slice Ao67 t536.length co67 : Value).ownBlock ∧ (k_ ≠ gb504 ∧ (k_ ≠ gb505 ∧ (k_ ≠ gb528 ∧ k_ ≠ gb540))))))) ∧ k_ ≠ gb560)) _ _ t544 (fun k_ => ((some k_ ≠ (.slice Ao35 t521.length co35 : Value).ownBlock ∧ (some k_ ≠ (.slice Ao37 t524.length co37 : Value).ownBlock ∧ (some k_ ≠ (.slice Ao62 t533.length co62 : Value).ownBlock ∧ (some k_ ≠ (.slice Ao67 t536.length co67 : Value).ownBlock ∧ (k_ ≠ gb504 ∧ (k_ ≠ gb505 ∧ (k_ ≠ gb528 ∧ k_ ≠ gb540))))))) ∧ k_ ≠ gb560)) _ _ t547 (fun k_ => ((some k_ ≠ (.slice Ao35 t521.length co35 : Value).ownBlock ∧ (some k_ ≠ (.slice Ao37 t524.length co37 : Value).ownBlock ∧ (some k_ ≠ (.slice Ao62 t533.length co62 : Value).ownBlock ∧ (some k_ ≠ (.slice Ao67 t536.length co67 : Value).ownBlock ∧ (k_ ≠ gb504 ∧ (k_ ≠ gb505 ∧ (k_ ≠ gb528 ∧ k_ ≠ gb540))))))) ∧ k_ ≠ gb560)) _ _ t550 t553 t556 t559 _ ?side1 ?side2 ?side3 ?side4 A53.out).mono ?_
          (case side1 => exact HO543.out)
          (case side2 => exact HO546.out)
          (case side3 => exact HO549.out)
          (case side4 => exact HO552.out)
          rintro e w77 ⟨v554, v557, rfl, ho0, ho1, hb⟩
          refine ⟨_, rfl, ?_⟩
          have n0_ := am (Kd.R_elder' (fR HO_529000.out) (Kd.R_base ho0) hb)
          have n1_ := am (Kd.R_elder' (fR HO_529001.out) (Kd.R_base ho1) hb)
          have n2_ := am (Kd.R_elder' (fR HO535.out) (Kd.R_base ho0) hb)
          have n3_ := am (Kd.R_elder' (fR HO538.out) (Kd.R_base ho1) hb)
          have n4_ := am (Kd.V_mono (Kd.V_told (Kd.V_told (Kd.V_old (fV HO543.out) hb) (Kd.R_base ho0)) (Kd.R_base ho1)) (fun _ h_ => h_.1))
          have n5_ := am (Kd.V_mono (Kd.V_told (Kd.V_told (Kd.V_old (fV HO546.out) hb) (Kd.R_base ho0)) (Kd.R_base ho1)) (fun _ h_ => h_.1))
          have n6_ := am (Kd.V_mono (Kd.V_told (Kd.V_told (Kd.V_old (fV HO549.out) hb) (Kd.R_base ho0)) (Kd.R_base ho1)) (fun _ h_ => h_.1))
          have n7_ := am (Kd.V_mono (Kd.V_told (Kd.V_told (Kd.V_old (fV HO552.out) hb) (Kd.R_base ho0)) (Kd.R_base ho1)) (fun _ h_ => h_.1))
          have n8_ := am (Kd.R_lower (Kd.R_new' (Kd.R_new' (Kd.R_mono (ok' := fun k_ => True) ho0 (fun _ hk_ => trivial)) (Kd.R_lt (fR HO_529000.out))) (Kd.R_lt (fR HO535.out))) (wz (fW HB.out)))
          have n9_ := am (Kd.R_lower (Kd.R_new' (Kd.R_new' (Kd.R_mono (ok' := fun k_ => True) ho1 (fun _ hk_ => trivial)) (Kd.R_lt (fR HO_529001.out))) (Kd.R_lt (fR HO538.out))) (wz (fW HB.out)))
          have n10_ := bB BK504 hb
          have n11_ := bB BK505 hb
          have n12_ := bB BK528 hb
          have n13_ := bB BK540 hb
          have n14_ := bB BK560 hb
          have n15_ := bS HB hb
          clear HO_529000 HO_529001 HO535 HO538 HO543 HO546 HO549 HO552 BK504 BK505 BK528 BK540 BK560 HB
          have HO_529000 := n0_
          have HO_529001 := n1_
          have HO535 := n2_
          have HO538 := n3_
          have HO543 := n4_
          have HO546 := n5_
          have HO549 := n6_
          have HO552 := n7_
          have HO555 := n8_
          have HO558 := n9_
          have BK504 := n10_
          have BK505 := n11_
          have BK528 := n12_
          have BK540 := n13_
          have BK560 := n14_
          have HB := n15_
          clear n0_ n1_ n2_ n3_ n4_ n5_ n6_ n7_ n8_ n9_ n10_ n11_ n12_ n13_ n14_ n15_
          (try clear hb)
          (try clear hb2)
          (try clear hk)
          (try clear hi)
          (try clear ho0)
          (try clear ho1)
          refine hK.out _ _ ⟨(bc BK505.out 0).trans rfl, (bc BK505.out 1).trans rfl, (bc BK504.out 0).trans rfl, (bc BK504.out 1).trans rfl⟩ (fun hHeld => ?_)
          clear hK K
          refine norm_ (a' := ?_) ?_ ?_
          rotate_left
          ·show Act.put _ (some 59) _ = _
           simp only [Act.put, psl, i64_w, i32_w]
           rfl
          refine pu (i := 5) (N := some 54) (fl 11 6 [8]) HT_ ?_
          refine pu (i := 6) (N := some 60) (fl 11 7 [8]) HT_ ?_
          refine pu (i := 7) (N := some 61) (fl 11 9 []) HT_ ?_
          exact norm_ (by simp only [putAll, Act.put, psl]) (hCont (.slice Ao73 t541.length co73, .slice Ao74 t544.length co74, .slice Ao75 t547.length co75, .slice Ao76 t550.length co76, v554, v557, gb560) _ ⟨hHeld, (by (with_reducible repeat (first | apply Kd.R_alloc | apply Kd.R_drewN | apply Kd.R_drew)); exact Kd.R_mono HO535.out (fun _ hk => ⟨hk.2, hk.1⟩)), (by (with_reducible repeat (first | apply Kd.R_alloc | apply Kd.R_drewN | apply Kd.R_drew)); exact Kd.R_mono HO538.out (fun _ hk => ⟨hk.2, hk.1⟩)), (by (with_reducible repeat (first | apply Kd.V_alloc | apply Kd.V_drewN | apply Kd.V_drew)); exact Kd.V_mono HO543.out (fun _ hk => ⟨hk.1.1.1.2.2.1, ⟨hk.1.1.1.2.2.2.1, ⟨hk.1.2, ⟨hk.2, ⟨hk.1.1.1.1, ⟨hk.1.1.1.2.1, ⟨hk.1.1.1.2.2.2.2.1, ⟨hk.1.1.1.2.2.2.2.2.1, ⟨hk.1.1.1.2.2.2.2.2.2.1, ⟨hk.1.1.1.2.2.2.2.2.2.2, hk.1.1.2⟩⟩⟩⟩⟩⟩⟩⟩⟩⟩)), (by (with_reducible repeat (first | apply Kd.V_alloc | apply Kd.V_drewN | apply Kd.V_drew)); exact Kd.V_mono HO546.out (fun _ hk => ⟨hk.1.1.1.2.2.1, ⟨hk.1.1.1.2.2.2.1, ⟨hk.1.2, ⟨hk.2, ⟨hk.1.1.1.1, ⟨hk.1.1.1.2.1, ⟨hk.1.1.1.2.2.2.2.1, ⟨hk.1.1.1.2.2.2.2.2.1, ⟨hk.1.1.1.2.2.2.2.2.2.1, ⟨hk.1.1.1.2.2.2.2.2.2.2, hk.1.1.2⟩⟩⟩⟩⟩⟩⟩⟩⟩⟩)), (by (with_reducible repeat (first | apply Kd.V_alloc | apply Kd.V_drewN | apply Kd.V_drew)); exact Kd.V_mono HO549.out (fun _ hk => ⟨hk.1.1.1.2.2.1, ⟨hk.1.1.1.2.2.2.1, ⟨hk.1.2, ⟨hk.2, ⟨hk.1.1.1.1, ⟨hk.1.1.1.2.1, ⟨hk.1.1.1.2.2.2.2.1, ⟨hk.1.1.1.2.2.2.2.2.1, ⟨hk.1.1.1.2.2.2.2.2.2.1, ⟨hk.1.1.1.2.2.2.2.2.2.2, hk.1.1.2⟩⟩⟩⟩⟩⟩⟩⟩⟩⟩)), (by (with_reducible repeat (first | apply Kd.V_alloc | apply Kd.V_drewN | apply Kd.V_drew)); exact Kd.V_mono HO552.out (fun _ hk => ⟨hk.1.1.1.2.2.1, ⟨hk.1.1.1.2.2.2.1, ⟨hk.1.2, ⟨hk.2, ⟨hk.1.1.1.1, ⟨hk.1.1.1.2.1, ⟨hk.1.1.1.2.2.2.2.1, ⟨hk.1.1.1.2.2.2.2.2.1, ⟨hk.1.1.1.2.2.2.2.2.2.1, ⟨hk.1.1.1.2.2.2.2.2.2.2, hk.1.1.2⟩⟩⟩⟩⟩⟩⟩⟩⟩⟩)), (by (with_reducible repeat (first | apply Kd.R_alloc | apply Kd.R_drewN | apply Kd.R_drew)); exact Kd.R_mono HO555.out (fun _ hk => ⟨hk.2, hk.1.2⟩)), (by (with_reducible repeat (first | apply Kd.R_alloc | apply Kd.R_drewN | apply Kd.R_drew)); exact Kd.R_mono HO558.out (fun _ hk => ⟨hk.2, hk.1.2⟩)), (fR HO_529000.out), (fR HO_529001.out), (fb BK504.out), (fb BK505.out), (fb BK528.out), (fb BK540.out), (fb BK560.out), GW560.out, GE560.out, NB504_560.out, NB560_504.out, NB505_560.out, NB560_505.out, NB528_560.out, NB560_528.out, NB540_560.out, NB560_540.out, (fW HB.out)⟩)
         skip
         refine box_step ?hg (N := 10) ?hd (cs := #[.slice none 0 0, .slice none 0 0]) (t := 31) ?hr ?_; (case hd | hg => rfl); (case hr => first | (go_simp; done) | (go_simp; rfl))
         intro gb560 hg w71 hbox hb
         have n0_ := dR HO_529000 hb
         have n1_ := dR HO_529001 hb
         have n2_ := dR HO535 hb
         have n3_ := dR HO538 hb
         have n4_ := eV HO543 hg hb
         have n5_ := eV HO546 hg hb
         have n6_ := bB BK504 hb
         have n7_ := bB BK505 hb
         have n8_ := bB BK528 hb
         have n9_ := bB BK540 hb
         have n10_ := bS HB hb
         have n11_ := am hbox
         have n12_ := sG HB hg
         have n13_ := sG HB hg
         have n14_ := nL BK504 hg
         have n15_ := nG BK504 hg
         have n16_ := nL BK505 hg
         have n17_ := nG BK505 hg
         have n18_ := nL BK528 hg
         have n19_ := nG BK528 hg
         have n20_ := nL BK540 hg
         have n21_ := nG BK540 hg
         clear HO_529000 HO_529001 HO535 HO538 HO543 HO546 BK504 BK505 BK528 BK540 HB
         have HO_529000 := n0_
         have HO_529001 := n1_
         have HO535 := n2_
         have HO538 := n3_
         have HO543 := n4_
         have HO546 := n5_
         have BK504 := n6_
         have BK505 := n7_
         have BK528 := n8_
         have BK540 := n9_
         have HB := n10_
         have BK560 := n11_
         have GW560 := n12_
         have GE560 := n13_
         have NB504_560 := n14_
         have NB560_504 := n15_
         have NB505_560 := n16_
         have NB560_505 := n17_
         have NB528_560 := n18_
         have NB560_528 := n19_
         have NB540_560 := n20_
         have NB560_540 := n21_
         clear n0_ n1_ n2_ n3_ n4_ n5_ n6_ n7_ n8_ n9_ n10_ n11_ n12_ n13_ n14_ n15_ n16_ n17_ n18_ n19_ n20_ n21_ hb hbox hg
         refine hK.out _ _ ⟨(bc BK505.out 0).trans rfl, (bc BK505.out 1).trans rfl, (bc BK504.out 0).trans rfl, (bc BK504.out 1).trans rfl⟩ (fun hHeld => ?_)
         clear hK K
         refine norm_ (a' := ?_) ?_ ?_
         rotate_left
         ·show Act.put _ (some 10) _ = _
          simp only [Act.put, psl, i64_w, i32_w]
          rfl
         refine one_ (i := 3) (N := some 58) (fl 11 4 [8]) rfl rfl (one_of HT_.out (by kernel_rfl)) (by decide) (fun K hK => ?_)
         refine goes_ Try.func14 (by kernel_rfl) rfl #[.agg #[.slice A0_0 l0_0.length c0_0, .slice A0_1 l0_1.length c0_1]] (by rfl) rfl rfl (by (try simp only [pml]); first | done | rfl | (simp only [pdt]; rfl)) ?_
         with_reducible refine (w_ours.calls (fun k_ => k_ < w.heap.size) _ _ l0_0 (fun k_ => k_ < w.heap.size) _ _ l0_1 t547 t550 _ ?side1 ?side2 A52.out).mono ?_
         (case side1 => exact Kd.V_mk HC0_0.out (Kd.F_below (Kd.C_F k54_heap HR0_0.out) (fW HB.out)))
         (case side2 => exact Kd.V_mk HC0_1.out (Kd.F_below (Kd.C_F (Kd.heap_int .i64) HR0_1.out) (fW HB.out)))
         rintro e w72 ⟨v548, v551, rfl, ho0, ho1, hb⟩
         refine ⟨_, rfl, ?_⟩
         have n0_ := dR HO_529000 hb
         have n1_ := dR HO_529001 hb
         have n2_ := dR HO535 hb
         have n3_ := dR HO538 hb
         have n4_ := dV HO543 hb
         have n5_ := dV HO546 hb
         have n6_ := am (Kd.V_lower (Kd.V_mono (ok' := fun k_ => some k_ ≠ (.slice Ao35 t521.length co35 : Value).ownBlock ∧ some k_ ≠ (.slice Ao37 t524.length co37 : Value).ownBlock ∧ some k_ ≠ (.slice Ao62 t533.length co62 : Value).ownBlock ∧ some k_ ≠ (.slice Ao67 t536.length co67 : Value).ownBlock ∧ k_ ≠ gb504 ∧ k_ ≠ gb505 ∧ k_ ≠ gb528 ∧ k_ ≠ gb540 ∧ k_ ≠ gb560) ho0 (fun k_ hk_ => ⟨Or.elim hk_ (fun hs_ => Or.elim hs_ (fun hs_ => fun e_ => Nat.not_le.2 hs_ (Kd.R_base HO_529000.out k_ e_.symm)) (fun hs_ => fun e_ => Nat.not_le.2 hs_ (Kd.R_base HO_529000.out k_ e_.symm))) (fun hn_ => (Kd.fresh' (Kd.R_lt (fR HO_529000.out)) k_ hn_)), Or.elim hk_ (fun hs_ => Or.elim hs_ (fun hs_ => fun e_ => Nat.not_le.2 hs_ (Kd.R_base HO_529001.out k_ e_.symm)) (fun hs_ => fun e_ => Nat.not_le.2 hs_ (Kd.R_base HO_529001.out k_ e_.symm))) (fun hn_ => (Kd.fresh' (Kd.R_lt (fR HO_529001.out)) k_ hn_)), Or.elim hk_ (fun hs_ => Or.elim hs_ (fun hs_ => fun e_ => Nat.not_le.2 hs_ (Kd.R_base HO535.out k_ e_.symm)) (fun hs_ => fun e_ => Nat.not_le.2 hs_ (Kd.R_base HO535.out k_ e_.symm))) (fun hn_ => (Kd.fresh' (Kd.R_lt (fR HO535.out)) k_ hn_)), Or.elim hk_ (fun hs_ => Or.elim hs_ (fun hs_ => fun e_ => Nat.not_le.2 hs_ (Kd.R_base HO538.out k_ e_.symm)) (fun hs_ => fun e_ => Nat.not_le.2 hs_ (Kd.R_base HO538.out k_ e_.symm))) (fun hn_ => (Kd.fresh' (Kd.R_lt (fR HO538.out)) k_ hn_)), Or.elim hk_ (fun hs_ => Or.elim hs_ (fun hs_ => fun e_ => Nat.not_le.2 hs_ (by rw [e_]; exact GW504.out)) (fun hs_ => fun e_ => Nat.not_le.2 hs_ (by rw [e_]; exact GW504.out))) (fun hn_ => (Kd.freshB (g := gb504) (o := .cells #[.slice A0_0 l0_0.length c0_0, .slice A0_1 l0_1.length c0_1] 25 (0, 0)) (fb BK504.out) k_ hn_)), Or.elim hk_ (fun hs_ => Or.elim hs_ (fun hs_ => fun e_ => Nat.not_le.2 hs_ (by rw [e_]; exact GW505.out)) (fun hs_ => fun e_ => Nat.not_le.2 hs_ (by rw [e_]; exact GW505.out))) (fun hn_ => (Kd.freshB (g := gb505) (o := .cells #[.slice A1_0 l1_0.length c1_0, .slice A1_1 l1_1.length c1_1] 25 (0, 0)) (fb BK505.out) k_ hn_)), Or.elim hk_ (fun hs_ => Or.elim hs_ (fun hs_ => fun e_ => Nat.not_le.2 hs_ (by rw [e_]; exact GW528.out)) (fun hs_ => fun e_ => Nat.not_le.2 hs_ (by rw [e_]; exact GW528.out))) (fun hn_ => (Kd.freshB (g := gb528) (o := .cells #[.slice Ao35 t521.length co35, .slice Ao37 t524.length co37] 31 (0, 0)) (fb BK528.out) k_ hn_)), Or.elim hk_ (fun hs_ => Or.elim hs_ (fun hs_ => fun e_ => Nat.not_le.2 hs_ (by rw [e_]; exact GW540.out)) (fun hs_ => fun e_ => Nat.not_le.2 hs_ (by rw [e_]; exact GW540.out))) (fun hn_ => (Kd.freshB (g := gb540) (o := .cells #[.slice Ao62 t533.length co62, .slice Ao67 t536.length co67] 25 (0, 0)) (fb BK540.out) k_ hn_)), Or.elim hk_ (fun hs_ => Or.elim hs_ (fun hs_ => fun e_ => Nat.not_le.2 hs_ (by rw [e_]; exact GW560.out)) (fun hs_ => fun e_ => Nat.not_le.2 hs_ (by rw [e_]; exact GW560.out))) (fun hn_ => (Kd.freshB (g := gb560) (o := .cells #[.slice none 0 0, .slice none 0 0] 31 (0, 0)) (fb BK560.out) k_ hn_))⟩)) (wz (fW HB.out)))
         have n7_ := am (Kd.V_lower (Kd.V_mono (ok' := fun k_ => some k_ ≠ (.slice Ao35 t521.length co35 : Value).ownBlock ∧ some k_ ≠ (.slice Ao37 t524.length co37 : Value).ownBlock ∧ some k_ ≠ (.slice Ao62 t533.length co62 : Value).ownBlock ∧ some k_ ≠ (.slice Ao67 t536.length co67 : Value).ownBlock ∧ k_ ≠ gb504 ∧ k_ ≠ gb505 ∧ k_ ≠ gb528 ∧ k_ ≠ gb540 ∧ k_ ≠ gb560) ho1 (fun k_ hk_ => ⟨Or.elim hk_ (fun hs_ => Or.elim hs_ (fun hs_ => fun e_ => Nat.not_le.2 hs_ (Kd.R_base HO_529000.out k_ e_.symm)) (fun hs_ => fun e_ => Nat.not_le.2 hs_ (Kd.R_base HO_529000.out k_ e_.symm))) (fun hn_ => (Kd.fresh' (Kd.R_lt (fR HO_529000.out)) k_ hn_)), Or.elim hk_ (fun hs_ => Or.elim hs_ (fun hs_ => fun e_ => Nat.not_le.2 hs_ (Kd.R_base HO_529001.out k_ e_.symm)) (fun hs_ => fun e_ => Nat.not_le.2 hs_ (Kd.R_base HO_529001.out k_ e_.symm))) (fun hn_ => (Kd.fresh' (Kd.R_lt (fR HO_529001.out)) k_ hn_)), Or.elim hk_ (fun hs_ => Or.elim hs_ (fun hs_ => fun e_ => Nat.not_le.2 hs_ (Kd.R_base HO535.out k_ e_.symm)) (fun hs_ => fun e_ => Nat.not_le.2 hs_ (Kd.R_base HO535.out k_ e_.symm))) (fun hn_ => (Kd.fresh' (Kd.R_lt (fR HO535.out)) k_ hn_)), Or.elim hk_ (fun hs_ => Or.elim hs_ (fun hs_ => fun e_ => Nat.not_le.2 hs_ (Kd.R_base HO538.out k_ e_.symm)) (fun hs_ => fun e_ => Nat.not_le.2 hs_ (Kd.R_base HO538.out k_ e_.symm))) (fun hn_ => (Kd.fresh' (Kd.R_lt (fR HO538.out)) k_ hn_)), Or.elim hk_ (fun hs_ => Or.elim hs_ (fun hs_ => fun e_ => Nat.not_le.2 hs_ (by rw [e_]; exact GW504.out)) (fun hs_ => fun e_ => Nat.not_le.2 hs_ (by rw [e_]; exact GW504.out))) (fun hn_ => (Kd.freshB (g := gb504) (o := .cells #[.slice A0_0 l0_0.length c0_0, .slice A0_1 l0_1.length c0_1] 25 (0, 0)) (fb BK504.out) k_ hn_)), Or.elim hk_ (fun hs_ => Or.elim hs_ (fun hs_ => fun e_ => Nat.not_le.2 hs_ (by rw [e_]; exact GW505.out)) (fun hs_ => fun e_ => Nat.not_le.2 hs_ (by rw [e_]; exact GW505.out))) (fun hn_ => (Kd.freshB (g := gb505) (o := .cells #[.slice A1_0 l1_0.length c1_0, .slice A1_1 l1_1.length c1_1] 25 (0, 0)) (fb BK505.out) k_ hn_)), Or.elim hk_ (fun hs_ => Or.elim hs_ (fun hs_ => fun e_ => Nat.not_le.2 hs_ (by rw [e_]; exact GW528.out)) (fun hs_ => fun e_ => Nat.not_le.2 hs_ (by rw [e_]; exact GW528.out))) (fun hn_ => (Kd.freshB (g := gb528) (o := .cells #[.slice Ao35 t521.length co35, .slice Ao37 t524.length co37] 31 (0, 0)) (fb BK528.out) k_ hn_)), Or.elim hk_ (fun hs_ => Or.elim hs_ (fun hs_ => fun e_ => Nat.not_le.2 hs_ (by rw [e_]; exact GW540.out)) (fun hs_ => fun e_ => Nat.not_le.2 hs_ (by rw [e_]; exact GW540.out))) (fun hn_ => (Kd.freshB (g := gb540) (o := .cells #[.slice Ao62 t533.length co62, .slice Ao67 t536.length co67] 25 (0, 0)) (fb BK540.out) k_ hn_)), Or.elim hk_ (fun hs_ => Or.elim hs_ (fun hs_ => fun e_ => Nat.not_le.2 hs_ (by rw [e_]; exact GW560.out)) (fun hs_ => fun e_ => Nat.not_le.2 hs_ (by rw [e_]; exact GW560.out))) (fun hn_ => (Kd.freshB (g := gb560) (o := .cells #[.slice none 0 0, .slice none 0 0] 31 (0, 0)) (fb BK560.out) k_ hn_))⟩)) (wz (fW HB.out)))
         have n8_ := bB BK504 hb
         have n9_ := bB BK505 hb
         have n10_ := bB BK528 hb
         have n11_ := bB BK540 hb
         have n12_ := bB BK560 hb
         have n13_ := bS HB hb
         clear HO_529000 HO_529001 HO535 HO538 HO543 HO546 BK504 BK505 BK528 BK540 BK560 HB
         have HO_529000 := n0_
         have HO_529001 := n1_
         have HO535 := n2_
         have HO538 := n3_
         have HO543 := n4_
         have HO546 := n5_
         have HO549 := n6_
         have HO552 := n7_
         have BK504 := n8_
         have BK505 := n9_
         have BK528 := n10_
         have BK540 := n11_
         have BK560 := n12_
         have HB := n13_
         clear n0_ n1_ n2_ n3_ n4_ n5_ n6_ n7_ n8_ n9_ n10_ n11_ n12_ n13_
         (try clear hb)
         (try clear hb2)
         (try clear hk)
         (try clear hi)
         (try clear ho0)
         (try clear ho1)
         obtain ⟨Ao73, co73, eo73⟩ := Kd.V_slice HO543.out
         (first | subst eo73 | (injection eo73 with f1_ f2_ f3_; have f4_ := f1_.symm; have f5_ := f3_.symm; clear f1_ f2_ f3_; subst f4_; subst f5_))
         obtain ⟨Ao74, co74, eo74⟩ := Kd.V_slice HO546.out
         (first | subst eo74 | (injection eo74 with f1_ f2_ f3_; have f4_ := f1_.symm; have f5_ := f3_.symm; clear f1_ f2_ f3_; subst f4_; subst f5_))
         obtain ⟨Ao75, co75, eo75⟩ := Kd.V_slice HO549.out
         (first | subst eo75 | (injection eo75 with f1_ f2_ f3_; have f4_ := f1_.symm; have f5_ := f3_.symm; clear f1_ f2_ f3_; subst f4_; subst f5_))
         obtain ⟨Ao76, co76, eo76⟩ := Kd.V_slice HO552.out
         (first | subst eo76 | (injection eo76 with f1_ f2_ f3_; have f4_ := f1_.symm; have f5_ := f3_.symm; clear f1_ f2_ f3_; subst f4_; subst f5_))
         refine hK.out _ _ ⟨(bc BK505.out 0).trans rfl, (bc BK505.out 1).trans rfl, (bc BK504.out 0).trans rfl, (bc BK504.out 1).trans rfl⟩ (fun hHeld => ?_)
         clear hK K
         refine norm_ (a' := ?_) ?_ ?_
         rotate_left
         ·show Act.put _ (some 58) _ = _
          simp only [Act.put, psl, i64_w, i32_w]
          rfl
         refine one_ (i := 4) (N := some 59) (fl 11 5 [8]) rfl rfl (one_of HT_.out (by kernel_rfl)) (by decide) (fun K hK => ?_)
         refine goes_ Try.func32 (by kernel_rfl) rfl #[.agg #[.slice Ao73 t541.length co73, .slice Ao74 t544.length co74], .agg #[.slice Ao75 t547.length co75, .slice Ao76 t550.length co76]] (by rfl) rfl rfl (by (try simp only [pml]); first | done | rfl | (simp only [pdt]; rfl)) ?_
         with_reducible refine (shift_Common.calls kj23 (fun k_ => ((some k_ ≠ (.slice Ao35 t521.length co35 : Value).ownBlock ∧ (some k_ ≠ (.slice Ao37 t524.length co37 : Value).ownBlock ∧ (some k_ ≠ (.slice Ao62 t533.length co62 : Value).ownBlock ∧ (some k_ ≠ (.slice Ao67 t536.length co67 : Value).ownBlock ∧ (k_ ≠ gb504 ∧ (k_ ≠ gb505 ∧ (k_ ≠ gb528 ∧ k_ ≠ gb540))))))) ∧ k_ ≠ gb560)) _ _ t541 (fun k_ => ((some k_ ≠ (.slice Ao35 t521.length co35 : Value).ownBlock ∧ (some k_ ≠ (.slice Ao37 t524.length co37 : Value).ownBlock ∧ (some k_ ≠ (.slice Ao62 t533.length co62 : Value).ownBlock ∧ (some k_ ≠ (.slice Ao67 t536.length co67 : Value).ownBlock ∧ (k_ ≠ gb504 ∧ (k_ ≠ gb505 ∧ (k_ ≠ gb528 ∧ k_ ≠ gb540))))))) ∧ k_ ≠ gb560)) _ _ t544 (fun k_ => (some k_ ≠ (.slice Ao35 t521.length co35 : Value).ownBlock ∧ (some k_ ≠ (.slice Ao37 t524.length co37 : Value).ownBlock ∧ (some k_ ≠ (.slice Ao62 t533.length co62 : Value).ownBlock ∧ (some k_ ≠ (.slice Ao67 t536.length co67 : Value).ownBlock ∧ (k_ ≠ gb504 ∧ (k_ ≠ gb505 ∧ (k_ ≠ gb528 ∧ (k_ ≠ gb540 ∧ k_ ≠ gb560))))))))) _ _ t547 (fun k_ => (some k_ ≠ (.slice Ao35 t521.length co35 : Value).ownBlock ∧ (some k_ ≠ (.slice Ao37 t524.length co37 : Value).ownBlock ∧ (some k_ ≠ (.slice Ao62 t533.length co62 : Value).ownBlock ∧ (some k_ ≠ (.slice Ao67 t536.length co67 : Value).ownBlock ∧ (k_ ≠ gb504 ∧ (k_ ≠ gb505 ∧ (k_ ≠ gb528 ∧ (k_ ≠ gb540 ∧ k_ ≠ gb560))))))))) _ _ t550 t553 t556 t559 _ ?side1 ?side2 ?side3 ?side4 A53.out).mono ?_
         (case side1 => exact HO543.out)
         (case side2 => exact HO546.out)
         (case side3 => exact HO549.out)
         (case side4 => exact HO552.out)
         rintro e w77 ⟨v554, v557, rfl, ho0, ho1, hb⟩
         refine ⟨_, rfl, ?_⟩
         have n0_ := am (Kd.R_elder' (fR HO_529000.out) (Kd.R_base ho0) hb)
         have n1_ := am (Kd.R_elder' (fR HO_529001.out) (Kd.R_base ho1) hb)
         have n2_ := am (Kd.R_elder' (fR HO535.out) (Kd.R_base ho0) hb)
         have n3_ := am (Kd.R_elder' (fR HO538.out) (Kd.R_base ho1) hb)
         have n4_ := am (Kd.V_mono (Kd.V_told (Kd.V_told (Kd.V_old (fV HO543.out) hb) (Kd.R_base ho0)) (Kd.R_base ho1)) (fun _ h_ => h_.1))
         have n5_ := am (Kd.V_mono (Kd.V_told (Kd.V_told (Kd.V_old (fV HO546.out) hb) (Kd.R_base ho0)) (Kd.R_base ho1)) (fun _ h_ => h_.1))
         have n6_ := am (Kd.V_mono (Kd.V_told (Kd.V_told (Kd.V_old (fV HO549.out) hb) (Kd.R_base ho0)) (Kd.R_base ho1)) (fun _ h_ => h_.1))
         have n7_ := am (Kd.V_mono (Kd.V_told (Kd.V_told (Kd.V_old (fV HO552.out) hb) (Kd.R_base ho0)) (Kd.R_base ho1)) (fun _ h_ => h_.1))
         have n8_ := am (Kd.R_lower (Kd.R_new' (Kd.R_new' (Kd.R_mono (ok' := fun k_ => True) ho0 (fun _ hk_ => trivial)) (Kd.R_lt (fR HO_529000.out))) (Kd.R_lt (fR HO535.out))) (wz (fW HB.out)))
         have n9_ := am (Kd.R_lower (Kd.R_new' (Kd.R_new' (Kd.R_mono (ok' := fun k_ => True) ho1 (fun _ hk_ => trivial)) (Kd.R_lt (fR HO_529001.out))) (Kd.R_lt (fR HO538.out))) (wz (fW HB.out)))
         have n10_ := bB BK504 hb
         have n11_ := bB BK505 hb
         have n12_ := bB BK528 hb
         have n13_ := bB BK540 hb
         have n14_ := bB BK560 hb
         have n15_ := bS HB hb
         clear HO_529000 HO_529001 HO535 HO538 HO543 HO546 HO549 HO552 BK504 BK505 BK528 BK540 BK560 HB
         have HO_529000 := n0_
         have HO_529001 := n1_
         have HO535 := n2_
         have HO538 := n3_
         have HO543 := n4_
         have HO546 := n5_
         have HO549 := n6_
         have HO552 := n7_
         have HO555 := n8_
         have HO558 := n9_
         have BK504 := n10_
         have BK505 := n11_
         have BK528 := n12_
         have BK540 := n13_
         have BK560 := n14_
         have HB := n15_
         clear n0_ n1_ n2_ n3_ n4_ n5_ n6_ n7_ n8_ n9_ n10_ n11_ n12_ n13_ n14_ n15_
         (try clear hb)
         (try clear hb2)
         (try clear hk)
         (try clear hi)
         (try clear ho0)
         (try clear ho1)
         refine hK.out _ _ ⟨(bc BK505.out 0).trans rfl, (bc BK505.out 1).trans rfl, (bc BK504.out 0).trans rfl, (bc BK504.out 1).trans rfl⟩ (fun hHeld => ?_)
         clear hK K
         refine norm_ (a' := ?_) ?_ ?_
         rotate_left
         ·show Act.put _ (some 59) _ = _
          simp only [Act.put, psl, i64_w, i32_w]
          rfl
         refine pu (i := 5) (N := some 54) (fl 11 6 [8]) HT_ ?_
         refine pu (i := 6) (N := some 60) (fl 11 7 [8]) HT_ ?_
         refine pu (i := 7) (N := some 61) (fl 11 9 []) HT_ ?_
         exact norm_ (by simp only [putAll, Act.put, psl]) (hCont (.slice Ao73 t541.length co73, .slice Ao74 t544.length co74, .slice Ao75 t547.length co75, .slice Ao76 t550.length co76, v554, v557, gb560) _ ⟨hHeld, (by (with_reducible repeat (first | apply Kd.R_alloc | apply Kd.R_drewN | apply Kd.R_drew)); exact Kd.R_mono HO535.out (fun _ hk => ⟨hk.2, hk.1⟩)), (by (with_reducible repeat (first | apply Kd.R_alloc | apply Kd.R_drewN | apply Kd.R_drew)); exact Kd.R_mono HO538.out (fun _ hk => ⟨hk.2, hk.1⟩)), (by (with_reducible repeat (first | apply Kd.V_alloc | apply Kd.V_drewN | apply Kd.V_drew)); exact Kd.V_mono HO543.out (fun _ hk => ⟨hk.1.1.1.2.2.1, ⟨hk.1.1.1.2.2.2.1, ⟨hk.1.2, ⟨hk.2, ⟨hk.1.1.1.1, ⟨hk.1.1.1.2.1, ⟨hk.1.1.1.2.2.2.2.1, ⟨hk.1.1.1.2.2.2.2.2.1, ⟨hk.1.1.1.2.2.2.2.2.2.1, ⟨hk.1.1.1.2.2.2.2.2.2.2, hk.1.1.2⟩⟩⟩⟩⟩⟩⟩⟩⟩⟩)), (by (with_reducible repeat (first | apply Kd.V_alloc | apply Kd.V_drewN | apply Kd.V_drew)); exact Kd.V_mono HO546.out (fun _ hk => ⟨hk.1.1.1.2.2.1, ⟨hk.1.1.1.2.2.2.1, ⟨hk.1.2, ⟨hk.2, ⟨hk.1.1.1.1, ⟨hk.1.1.1.2.1, ⟨hk.1.1.1.2.2.2.2.1, ⟨hk.1.1.1.2.2.2.2.2.1, ⟨hk.1.1.1.2.2.2.2.2.2.1, ⟨hk.1.1.1.2.2.2.2.2.2.2, hk.1.1.2⟩⟩⟩⟩⟩⟩⟩⟩⟩⟩)), (by (with_reducible repeat (first | apply Kd.V_alloc | apply Kd.V_drewN | apply Kd.V_drew)); exact Kd.V_mono HO549.out (fun _ hk => ⟨hk.1.1.2.2.1, ⟨hk.1.1.2.2.2.1, ⟨hk.1.2, ⟨hk.2, ⟨hk.1.1.1, ⟨hk.1.1.2.1, ⟨hk.1.1.2.2.2.2.1, ⟨hk.1.1.2.2.2.2.2.1, ⟨hk.1.1.2.2.2.2.2.2.1, ⟨hk.1.1.2.2.2.2.2.2.2.1, hk.1.1.2.2.2.2.2.2.2.2⟩⟩⟩⟩⟩⟩⟩⟩⟩⟩)), (by (with_reducible repeat (first | apply Kd.V_alloc | apply Kd.V_drewN | apply Kd.V_drew)); exact Kd.V_mono HO552.out (fun _ hk => ⟨hk.1.1.2.2.1, ⟨hk.1.1.2.2.2.1, ⟨hk.1.2, ⟨hk.2, ⟨hk.1.1.1, ⟨hk.1.1.2.1, ⟨hk.1.1.2.2.2.2.1, ⟨hk.1.1.2.2.2.2.2.1, ⟨hk.1.1.2.2.2.2.2.2.1, ⟨hk.1.1.2.2.2.2.2.2.2.1, hk.1.1.2.2.2.2.2.2.2.2⟩⟩⟩⟩⟩⟩⟩⟩⟩⟩)), (by (with_reducible repeat (first | apply Kd.R_alloc | apply Kd.R_drewN | apply Kd.R_drew)); exact Kd.R_mono HO555.out (fun _ hk => ⟨hk.2, hk.1.2⟩)), (by (with_reducible repeat (first | apply Kd.R_alloc | apply Kd.R_drewN | apply Kd.R_drew)); exact Kd.R_mono HO558.out (fun _ hk => ⟨hk.2, hk.1.2⟩)), (fR HO_529000.out), (fR HO_529001.out), (fb BK504.out), (fb BK505.out), (fb BK528.out), (fb BK540.out), (fb BK560.out), GW560.out, GE560.out, NB504_560.out, NB560_504.out, NB505_560.out, NB560_505.out, NB528_560.out, NB560_528.out, NB540_560.out, NB560_540.out, (fW HB.out)⟩)
        skip
        refine box_step ?hg (N := 10) ?hd (cs := #[.slice none 0 0, .slice none 0 0]) (t := 31) ?hr ?_; (case hd | hg => rfl); (case hr => first | (go_simp; done) | (go_simp; rfl))
        intro gb560 hg w70 hbox hb
        have n0_ := dR HO_529000 hb
        have n1_ := dR HO_529001 hb
        have n2_ := dR HO535 hb
        have n3_ := dR HO538 hb
        have n4_ := bB BK504 hb
        have n5_ := bB BK505 hb
        have n6_ := bB BK528 hb
        have n7_ := bB BK540 hb
        have n8_ := bS HB hb
        have n9_ := am hbox
        have n10_ := sG HB hg
        have n11_ := sG HB hg
        have n12_ := nL BK504 hg
        have n13_ := nG BK504 hg
        have n14_ := nL BK505 hg
        have n15_ := nG BK505 hg
        have n16_ := nL BK528 hg
        have n17_ := nG BK528 hg
        have n18_ := nL BK540 hg
        have n19_ := nG BK540 hg
        clear HO_529000 HO_529001 HO535 HO538 BK504 BK505 BK528 BK540 HB
        have HO_529000 := n0_
        have HO_529001 := n1_
        have HO535 := n2_
        have HO538 := n3_
        have BK504 := n4_
        have BK505 := n5_
        have BK528 := n6_
        have BK540 := n7_
        have HB := n8_
        have BK560 := n9_
        have GW560 := n10_
        have GE560 := n11_
        have NB504_560 := n12_
        have NB560_504 := n13_
        have NB505_560 := n14_
        have NB560_505 := n15_
        have NB528_560 := n16_
        have NB560_528 := n17_
        have NB540_560 := n18_
        have NB560_540 := n19_
        clear n0_ n1_ n2_ n3_ n4_ n5_ n6_ n7_ n8_ n9_ n10_ n11_ n12_ n13_ n14_ n15_ n16_ n17_ n18_ n19_ hb hbox hg
        refine hK.out _ _ ⟨(bc BK505.out 0).trans rfl, (bc BK505.out 1).trans rfl, (bc BK504.out 0).trans rfl, (bc BK504.out 1).trans rfl⟩ (fun hHeld => ?_)
        clear hK K
        refine norm_ (a' := ?_) ?_ ?_
        rotate_left
        ·show Act.put _ (some 10) _ = _
         simp only [Act.put, psl, i64_w, i32_w]
         rfl
        refine one_ (i := 1) (N := some 56) (fl 11 3 [8]) rfl rfl (one_of HT_.out (by kernel_rfl)) (by decide) (fun K hK => ?_)
        refine goes_ Try.func14 (by kernel_rfl) rfl #[.agg #[.slice A1_0 l1_0.length c1_0, .slice A1_1 l1_1.length c1_1]] (by rfl) rfl rfl (by (try simp only [pml]); first | done | rfl | (simp only [pdt]; rfl)) ?_
        with_reducible refine (w_ours.calls (fun k_ => k_ < w.heap.size) _ _ l1_0 (fun k_ => k_ < w.heap.size) _ _ l1_1 t541 t544 _ ?side1 ?side2 A51.out).mono ?_
        (case side1 => exact Kd.V_mk HC1_0.out (Kd.F_below (Kd.C_F k54_heap HR1_0.out) (fW HB.out)))
        (case side2 => exact Kd.V_mk HC1_1.out (Kd.F_below (Kd.C_F (Kd.heap_int .i64) HR1_1.out) (fW HB.out)))
        rintro e w71 ⟨v542, v545, rfl, ho0, ho1, hb⟩
        refine ⟨_, rfl, ?_⟩
        have n0_ := dR HO_529000 hb
        have n1_ := dR HO_529001 hb
        have n2_ := dR HO535 hb
        have n3_ := dR HO538 hb
        have n4_ := am (Kd.V_lower (Kd.V_mono (ok' := fun k_ => some k_ ≠ (.slice Ao35 t521.length co35 : Value).ownBlock ∧ some k_ ≠ (.slice Ao37 t524.length co37 : Value).ownBlock ∧ some k_ ≠ (.slice Ao62 t533.length co62 : Value).ownBlock ∧ some k_ ≠ (.slice Ao67 t536.length co67 : Value).ownBlock ∧ k_ ≠ gb504 ∧ k_ ≠ gb505 ∧ k_ ≠ gb528 ∧ k_ ≠ gb540 ∧ k_ ≠ gb560) ho0 (fun k_ hk_ => ⟨Or.elim hk_ (fun hs_ => Or.elim hs_ (fun hs_ => fun e_ => Nat.not_le.2 hs_ (Kd.R_base HO_529000.out k_ e_.symm)) (fun hs_ => fun e_ => Nat.not_le.2 hs_ (Kd.R_base HO_529000.out k_ e_.symm))) (fun hn_ => (Kd.fresh' (Kd.R_lt (fR HO_529000.out)) k_ hn_)), Or.elim hk_ (fun hs_ => Or.elim hs_ (fun hs_ => fun e_ => Nat.not_le.2 hs_ (Kd.R_base HO_529001.out k_ e_.symm)) (fun hs_ => fun e_ => Nat.not_le.2 hs_ (Kd.R_base HO_529001.out k_ e_.symm))) (fun hn_ => (Kd.fresh' (Kd.R_lt (fR HO_529001.out)) k_ hn_)), Or.elim hk_ (fun hs_ => Or.elim hs_ (fun hs_ => fun e_ => Nat.not_le.2 hs_ (Kd.R_base HO535.out k_ e_.symm)) (fun hs_ => fun e_ => Nat.not_le.2 hs_ (Kd.R_base HO535.out k_ e_.symm))) (fun hn_ => (Kd.fresh' (Kd.R_lt (fR HO535.out)) k_ hn_)), Or.elim hk_ (fun hs_ => Or.elim hs_ (fun hs_ => fun e_ => Nat.not_le.2 hs_ (Kd.R_base HO538.out k_ e_.symm)) (fun hs_ => fun e_ => Nat.not_le.2 hs_ (Kd.R_base HO538.out k_ e_.symm))) (fun hn_ => (Kd.fresh' (Kd.R_lt (fR HO538.out)) k_ hn_)), Or.elim hk_ (fun hs_ => Or.elim hs_ (fun hs_ => fun e_ => Nat.not_le.2 hs_ (by rw [e_]; exact GW504.out)) (fun hs_ => fun e_ => Nat.not_le.2 hs_ (by rw [e_]; exact GW504.out))) (fun hn_ => (Kd.freshB (g := gb504) (o := .cells #[.slice A0_0 l0_0.length c0_0, .slice A0_1 l0_1.length c0_1] 25 (0, 0)) (fb BK504.out) k_ hn_)), Or.elim hk_ (fun hs_ => Or.elim hs_ (fun hs_ => fun e_ => Nat.not_le.2 hs_ (by rw [e_]; exact GW505.out)) (fun hs_ => fun e_ => Nat.not_le.2 hs_ (by rw [e_]; exact GW505.out))) (fun hn_ => (Kd.freshB (g := gb505) (o := .cells #[.slice A1_0 l1_0.length c1_0, .slice A1_1 l1_1.length c1_1] 25 (0, 0)) (fb BK505.out) k_ hn_)), Or.elim hk_ (fun hs_ => Or.elim hs_ (fun hs_ => fun e_ => Nat.not_le.2 hs_ (by rw [e_]; exact GW528.out)) (fun hs_ => fun e_ => Nat.not_le.2 hs_ (by rw [e_]; exact GW528.out))) (fun hn_ => (Kd.freshB (g := gb528) (o := .cells #[.slice Ao35 t521.length co35, .slice Ao37 t524.length co37] 31 (0, 0)) (fb BK528.out) k_ hn_)), Or.elim hk_ (fun hs_ => Or.elim hs_ (fun hs_ => fun e_ => Nat.not_le.2 hs_ (by rw [e_]; exact GW540.out)) (fun hs_ => fun e_ => Nat.not_le.2 hs_ (by rw [e_]; exact GW540.out))) (fun hn_ => (Kd.freshB (g := gb540) (o := .cells #[.slice Ao62 t533.length co62, .slice Ao67 t536.length co67] 25 (0, 0)) (fb BK540.out) k_ hn_)), Or.elim hk_ (fun hs_ => Or.elim hs_ (fun hs_ => fun e_ => Nat.not_le.2 hs_ (by rw [e_]; exact GW560.out)) (fun hs_ => fun e_ => Nat.not_le.2 hs_ (by rw [e_]; exact GW560.out))) (fun hn_ => (Kd.freshB (g := gb560) (o := .cells #[.slice none 0 0, .slice none 0 0] 31 (0, 0)) (fb BK560.out) k_ hn_))⟩)) (wz (fW HB.out)))
        have n5_ := am (Kd.V_lower (Kd.V_mono (ok' := fun k_ => some k_ ≠ (.slice Ao35 t521.length co35 : Value).ownBlock ∧ some k_ ≠ (.slice Ao37 t524.length co37 : Value).ownBlock ∧ some k_ ≠ (.slice Ao62 t533.length co62 : Value).ownBlock ∧ some k_ ≠ (.slice Ao67 t536.length co67 : Value).ownBlock ∧ k_ ≠ gb504 ∧ k_ ≠ gb505 ∧ k_ ≠ gb528 ∧ k_ ≠ gb540 ∧ k_ ≠ gb560) ho1 (fun k_ hk_ => ⟨Or.elim hk_ (fun hs_ => Or.elim hs_ (fun hs_ => fun e_ => Nat.not_le.2 hs_ (Kd.R_base HO_529000.out k_ e_.symm)) (fun hs_ => fun e_ => Nat.not_le.2 hs_ (Kd.R_base HO_529000.out k_ e_.symm))) (fun hn_ => (Kd.fresh' (Kd.R_lt (fR HO_529000.out)) k_ hn_)), Or.elim hk_ (fun hs_ => Or.elim hs_ (fun hs_ => fun e_ => Nat.not_le.2 hs_ (Kd.R_base HO_529001.out k_ e_.symm)) (fun hs_ => fun e_ => Nat.not_le.2 hs_ (Kd.R_base HO_529001.out k_ e_.symm))) (fun hn_ => (Kd.fresh' (Kd.R_lt (fR HO_529001.out)) k_ hn_)), Or.elim hk_ (fun hs_ => Or.elim hs_ (fun hs_ => fun e_ => Nat.not_le.2 hs_ (Kd.R_base HO535.out k_ e_.symm)) (fun hs_ => fun e_ => Nat.not_le.2 hs_ (Kd.R_base HO535.out k_ e_.symm))) (fun hn_ => (Kd.fresh' (Kd.R_lt (fR HO535.out)) k_ hn_)), Or.elim hk_ (fun hs_ => Or.elim hs_ (fun hs_ => fun e_ => Nat.not_le.2 hs_ (Kd.R_base HO538.out k_ e_.symm)) (fun hs_ => fun e_ => Nat.not_le.2 hs_ (Kd.R_base HO538.out k_ e_.symm))) (fun hn_ => (Kd.fresh' (Kd.R_lt (fR HO538.out)) k_ hn_)), Or.elim hk_ (fun hs_ => Or.elim hs_ (fun hs_ => fun e_ => Nat.not_le.2 hs_ (by rw [e_]; exact GW504.out)) (fun hs_ => fun e_ => Nat.not_le.2 hs_ (by rw [e_]; exact GW504.out))) (fun hn_ => (Kd.freshB (g := gb504) (o := .cells #[.slice A0_0 l0_0.length c0_0, .slice A0_1 l0_1.length c0_1] 25 (0, 0)) (fb BK504.out) k_ hn_)), Or.elim hk_ (fun hs_ => Or.elim hs_ (fun hs_ => fun e_ => Nat.not_le.2 hs_ (by rw [e_]; exact GW505.out)) (fun hs_ => fun e_ => Nat.not_le.2 hs_ (by rw [e_]; exact GW505.out))) (fun hn_ => (Kd.freshB (g := gb505) (o := .cells #[.slice A1_0 l1_0.length c1_0, .slice A1_1 l1_1.length c1_1] 25 (0, 0)) (fb BK505.out) k_ hn_)), Or.elim hk_ (fun hs_ => Or.elim hs_ (fun hs_ => fun e_ => Nat.not_le.2 hs_ (by rw [e_]; exact GW528.out)) (fun hs_ => fun e_ => Nat.not_le.2 hs_ (by rw [e_]; exact GW528.out))) (fun hn_ => (Kd.freshB (g := gb528) (o := .cells #[.slice Ao35 t521.length co35, .slice Ao37 t524.length co37] 31 (0, 0)) (fb BK528.out) k_ hn_)), Or.elim hk_ (fun hs_ => Or.elim hs_ (fun hs_ => fun e_ => Nat.not_le.2 hs_ (by rw [e_]; exact GW540.out)) (fun hs_ => fun e_ => Nat.not_le.2 hs_ (by rw [e_]; exact GW540.out))) (fun hn_ => (Kd.freshB (g := gb540) (o := .cells #[.slice Ao62 t533.length co62, .slice Ao67 t536.length co67] 25 (0, 0)) (fb BK540.out) k_ hn_)), Or.elim hk_ (fun hs_ => Or.elim hs_ (fun hs_ => fun e_ => Nat.not_le.2 hs_ (by rw [e_]; exact GW560.out)) (fun hs_ => fun e_ => Nat.not_le.2 hs_ (by rw [e_]; exact GW560.out))) (fun hn_ => (Kd.freshB (g := gb560) (o := .cells #[.slice none 0 0, .slice none 0 0] 31 (0, 0)) (fb BK560.out) k_ hn_))⟩)) (wz (fW HB.out)))
        have n6_ := bB BK504 hb
        have n7_ := bB BK505 hb
        have n8_ := bB BK528 hb
        have n9_ := bB BK540 hb
        have n10_ := bB BK560 hb
        have n11_ := bS HB hb
        clear HO_529000 HO_529001 HO535 HO538 BK504 BK505 BK528 BK540 BK560 HB
        have HO_529000 := n0_
        have HO_529001 := n1_
        have HO535 := n2_
        have HO538 := n3_
        have HO543 := n4_
        have HO546 := n5_
        have BK504 := n6_
        have BK505 := n7_
        have BK528 := n8_
        have BK540 := n9_
        have BK560 := n10_
        have HB := n11_
        clear n0_ n1_ n2_ n3_ n4_ n5_ n6_ n7_ n8_ n9_ n10_ n11_
        (try clear hb)
        (try clear hb2)
        (try clear hk)
        (try clear hi)
        (try clear ho0)
        (try clear ho1)
        refine hK.out _ _ ⟨(bc BK505.out 0).trans rfl, (bc BK505.out 1).trans rfl, (bc BK504.out 0).trans rfl, (bc BK504.out 1).trans rfl⟩ (fun hHeld => ?_)
        clear hK K
        refine norm_ (a' := ?_) ?_ ?_
        rotate_left
        ·show Act.put _ (some 56) _ = _
         simp only [Act.put, psl, i64_w, i32_w]
         rfl
        refine one_ (i := 3) (N := some 58) (fl 11 4 [8]) rfl rfl (one_of HT_.out (by kernel_rfl)) (by decide) (fun K hK => ?_)
        refine goes_ Try.func14 (by kernel_rfl) rfl #[.agg #[.slice A0_0 l0_0.length c0_0, .slice A0_1 l0_1.length c0_1]] (by rfl) rfl rfl (by (try simp only [pml]); first | done | rfl | (simp only [pdt]; rfl)) ?_
        with_reducible refine (w_ours.calls (fun k_ => k_ < w.heap.size) _ _ l0_0 (fun k_ => k_ < w.heap.size) _ _ l0_1 t547 t550 _ ?side1 ?side2 A52.out).mono ?_
        (case side1 => exact Kd.V_mk HC0_0.out (Kd.F_below (Kd.C_F k54_heap HR0_0.out) (fW HB.out)))
        (case side2 => exact Kd.V_mk HC0_1.out (Kd.F_below (Kd.C_F (Kd.heap_int .i64) HR0_1.out) (fW HB.out)))
        rintro e w72 ⟨v548, v551, rfl, ho0, ho1, hb⟩
        refine ⟨_, rfl, ?_⟩
        have n0_ := dR HO_529000 hb
        have n1_ := dR HO_529001 hb
        have n2_ := dR HO535 hb
        have n3_ := dR HO538 hb
        have n4_ := dV HO543 hb
        have n5_ := dV HO546 hb
        have n6_ := am (Kd.V_lower (Kd.V_mono (ok' := fun k_ => some k_ ≠ (.slice Ao35 t521.length co35 : Value).ownBlock ∧ some k_ ≠ (.slice Ao37 t524.length co37 : Value).ownBlock ∧ some k_ ≠ (.slice Ao62 t533.length co62 : Value).ownBlock ∧ some k_ ≠ (.slice Ao67 t536.length co67 : Value).ownBlock ∧ k_ ≠ gb504 ∧ k_ ≠ gb505 ∧ k_ ≠ gb528 ∧ k_ ≠ gb540 ∧ k_ ≠ gb560) ho0 (fun k_ hk_ => ⟨Or.elim hk_ (fun hs_ => Or.elim hs_ (fun hs_ => fun e_ => Nat.not_le.2 hs_ (Kd.R_base HO_529000.out k_ e_.symm)) (fun hs_ => fun e_ => Nat.not_le.2 hs_ (Kd.R_base HO_529000.out k_ e_.symm))) (fun hn_ => (Kd.fresh' (Kd.R_lt (fR HO_529000.out)) k_ hn_)), Or.elim hk_ (fun hs_ => Or.elim hs_ (fun hs_ => fun e_ => Nat.not_le.2 hs_ (Kd.R_base HO_529001.out k_ e_.symm)) (fun hs_ => fun e_ => Nat.not_le.2 hs_ (Kd.R_base HO_529001.out k_ e_.symm))) (fun hn_ => (Kd.fresh' (Kd.R_lt (fR HO_529001.out)) k_ hn_)), Or.elim hk_ (fun hs_ => Or.elim hs_ (fun hs_ => fun e_ => Nat.not_le.2 hs_ (Kd.R_base HO535.out k_ e_.symm)) (fun hs_ => fun e_ => Nat.not_le.2 hs_ (Kd.R_base HO535.out k_ e_.symm))) (fun hn_ => (Kd.fresh' (Kd.R_lt (fR HO535.out)) k_ hn_)), Or.elim hk_ (fun hs_ => Or.elim hs_ (fun hs_ => fun e_ => Nat.not_le.2 hs_ (Kd.R_base HO538.out k_ e_.symm)) (fun hs_ => fun e_ => Nat.not_le.2 hs_ (Kd.R_base HO538.out k_ e_.symm))) (fun hn_ => (Kd.fresh' (Kd.R_lt (fR HO538.out)) k_ hn_)), Or.elim hk_ (fun hs_ => Or.elim hs_ (fun hs_ => fun e_ => Nat.not_le.2 hs_ (by rw [e_]; exact GW504.out)) (fun hs_ => fun e_ => Nat.not_le.2 hs_ (by rw [e_]; exact GW504.out))) (fun hn_ => (Kd.freshB (g := gb504) (o := .cells #[.slice A0_0 l0_0.length c0_0, .slice A0_1 l0_1.length c0_1] 25 (0, 0)) (fb BK504.out) k_ hn_)), Or.elim hk_ (fun hs_ => Or.elim hs_ (fun hs_ => fun e_ => Nat.not_le.2 hs_ (by rw [e_]; exact GW505.out)) (fun hs_ => fun e_ => Nat.not_le.2 hs_ (by rw [e_]; exact GW505.out))) (fun hn_ => (Kd.freshB (g := gb505) (o := .cells #[.slice A1_0 l1_0.length c1_0, .slice A1_1 l1_1.length c1_1] 25 (0, 0)) (fb BK505.out) k_ hn_)), Or.elim hk_ (fun hs_ => Or.elim hs_ (fun hs_ => fun e_ => Nat.not_le.2 hs_ (by rw [e_]; exact GW528.out)) (fun hs_ => fun e_ => Nat.not_le.2 hs_ (by rw [e_]; exact GW528.out))) (fun hn_ => (Kd.freshB (g := gb528) (o := .cells #[.slice Ao35 t521.length co35, .slice Ao37 t524.length co37] 31 (0, 0)) (fb BK528.out) k_ hn_)), Or.elim hk_ (fun hs_ => Or.elim hs_ (fun hs_ => fun e_ => Nat.not_le.2 hs_ (by rw [e_]; exact GW540.out)) (fun hs_ => fun e_ => Nat.not_le.2 hs_ (by rw [e_]; exact GW540.out))) (fun hn_ => (Kd.freshB (g := gb540) (o := .cells #[.slice Ao62 t533.length co62, .slice Ao67 t536.length co67] 25 (0, 0)) (fb BK540.out) k_ hn_)), Or.elim hk_ (fun hs_ => Or.elim hs_ (fun hs_ => fun e_ => Nat.not_le.2 hs_ (by rw [e_]; exact GW560.out)) (fun hs_ => fun e_ => Nat.not_le.2 hs_ (by rw [e_]; exact GW560.out))) (fun hn_ => (Kd.freshB (g := gb560) (o := .cells #[.slice none 0 0, .slice none 0 0] 31 (0, 0)) (fb BK560.out) k_ hn_))⟩)) (wz (fW HB.out)))
        have n7_ := am (Kd.V_lower (Kd.V_mono (ok' := fun k_ => some k_ ≠ (.slice Ao35 t521.length co35 : Value).ownBlock ∧ some k_ ≠ (.slice Ao37 t524.length co37 : Value).ownBlock ∧ some k_ ≠ (.slice Ao62 t533.length co62 : Value).ownBlock ∧ some k_ ≠ (.slice Ao67 t536.length co67 : Value).ownBlock ∧ k_ ≠ gb504 ∧ k_ ≠ gb505 ∧ k_ ≠ gb528 ∧ k_ ≠ gb540 ∧ k_ ≠ gb560) ho1 (fun k_ hk_ => ⟨Or.elim hk_ (fun hs_ => Or.elim hs_ (fun hs_ => fun e_ => Nat.not_le.2 hs_ (Kd.R_base HO_529000.out k_ e_.symm)) (fun hs_ => fun e_ => Nat.not_le.2 hs_ (Kd.R_base HO_529000.out k_ e_.symm))) (fun hn_ => (Kd.fresh' (Kd.R_lt (fR HO_529000.out)) k_ hn_)), Or.elim hk_ (fun hs_ => Or.elim hs_ (fun hs_ => fun e_ => Nat.not_le.2 hs_ (Kd.R_base HO_529001.out k_ e_.symm)) (fun hs_ => fun e_ => Nat.not_le.2 hs_ (Kd.R_base HO_529001.out k_ e_.symm))) (fun hn_ => (Kd.fresh' (Kd.R_lt (fR HO_529001.out)) k_ hn_)), Or.elim hk_ (fun hs_ => Or.elim hs_ (fun hs_ => fun e_ => Nat.not_le.2 hs_ (Kd.R_base HO535.out k_ e_.symm)) (fun hs_ => fun e_ => Nat.not_le.2 hs_ (Kd.R_base HO535.out k_ e_.symm))) (fun hn_ => (Kd.fresh' (Kd.R_lt (fR HO535.out)) k_ hn_)), Or.elim hk_ (fun hs_ => Or.elim hs_ (fun hs_ => fun e_ => Nat.not_le.2 hs_ (Kd.R_base HO538.out k_ e_.symm)) (fun hs_ => fun e_ => Nat.not_le.2 hs_ (Kd.R_base HO538.out k_ e_.symm))) (fun hn_ => (Kd.fresh' (Kd.R_lt (fR HO538.out)) k_ hn_)), Or.elim hk_ (fun hs_ => Or.elim hs_ (fun hs_ => fun e_ => Nat.not_le.2 hs_ (by rw [e_]; exact GW504.out)) (fun hs_ => fun e_ => Nat.not_le.2 hs_ (by rw [e_]; exact GW504.out))) (fun hn_ => (Kd.freshB (g := gb504) (o := .cells #[.slice A0_0 l0_0.length c0_0, .slice A0_1 l0_1.length c0_1] 25 (0, 0)) (fb BK504.out) k_ hn_)), Or.elim hk_ (fun hs_ => Or.elim hs_ (fun hs_ => fun e_ => Nat.not_le.2 hs_ (by rw [e_]; exact GW505.out)) (fun hs_ => fun e_ => Nat.not_le.2 hs_ (by rw [e_]; exact GW505.out))) (fun hn_ => (Kd.freshB (g := gb505) (o := .cells #[.slice A1_0 l1_0.length c1_0, .slice A1_1 l1_1.length c1_1] 25 (0, 0)) (fb BK505.out) k_ hn_)), Or.elim hk_ (fun hs_ => Or.elim hs_ (fun hs_ => fun e_ => Nat.not_le.2 hs_ (by rw [e_]; exact GW528.out)) (fun hs_ => fun e_ => Nat.not_le.2 hs_ (by rw [e_]; exact GW528.out))) (fun hn_ => (Kd.freshB (g := gb528) (o := .cells #[.slice Ao35 t521.length co35, .slice Ao37 t524.length co37] 31 (0, 0)) (fb BK528.out) k_ hn_)), Or.elim hk_ (fun hs_ => Or.elim hs_ (fun hs_ => fun e_ => Nat.not_le.2 hs_ (by rw [e_]; exact GW540.out)) (fun hs_ => fun e_ => Nat.not_le.2 hs_ (by rw [e_]; exact GW540.out))) (fun hn_ => (Kd.freshB (g := gb540) (o := .cells #[.slice Ao62 t533.length co62, .slice Ao67 t536.length co67] 25 (0, 0)) (fb BK540.out) k_ hn_)), Or.elim hk_ (fun hs_ => Or.elim hs_ (fun hs_ => fun e_ => Nat.not_le.2 hs_ (by rw [e_]; exact GW560.out)) (fun hs_ => fun e_ => Nat.not_le.2 hs_ (by rw [e_]; exact GW560.out))) (fun hn_ => (Kd.freshB (g := gb560) (o := .cells #[.slice none 0 0, .slice none 0 0] 31 (0, 0)) (fb BK560.out) k_ hn_))⟩)) (wz (fW HB.out)))
        have n8_ := bB BK504 hb
        have n9_ := bB BK505 hb
        have n10_ := bB BK528 hb
        have n11_ := bB BK540 hb
        have n12_ := bB BK560 hb
        have n13_ := bS HB hb
        clear HO_529000 HO_529001 HO535 HO538 HO543 HO546 BK504 BK505 BK528 BK540 BK560 HB
        have HO_529000 := n0_
        have HO_529001 := n1_
        have HO535 := n2_
        have HO538 := n3_
        have HO543 := n4_
        have HO546 := n5_
        have HO549 := n6_
        have HO552 := n7_
        have BK504 := n8_
        have BK505 := n9_
        have BK528 := n10_
        have BK540 := n11_
        have BK560 := n12_
        have HB := n13_
        clear n0_ n1_ n2_ n3_ n4_ n5_ n6_ n7_ n8_ n9_ n10_ n11_ n12_ n13_
        (try clear hb)
        (try clear hb2)
        (try clear hk)
        (try clear hi)
        (try clear ho0)
        (try clear ho1)
        obtain ⟨Ao73, co73, eo73⟩ := Kd.V_slice HO543.out
        (first | subst eo73 | (injection eo73 with f1_ f2_ f3_; have f4_ := f1_.symm; have f5_ := f3_.symm; clear f1_ f2_ f3_; subst f4_; subst f5_))
        obtain ⟨Ao74, co74, eo74⟩ := Kd.V_slice HO546.out
        (first | subst eo74 | (injection eo74 with f1_ f2_ f3_; have f4_ := f1_.symm; have f5_ := f3_.symm; clear f1_ f2_ f3_; subst f4_; subst f5_))
        obtain ⟨Ao75, co75, eo75⟩ := Kd.V_slice HO549.out
        (first | subst eo75 | (injection eo75 with f1_ f2_ f3_; have f4_ := f1_.symm; have f5_ := f3_.symm; clear f1_ f2_ f3_; subst f4_; subst f5_))
        obtain ⟨Ao76, co76, eo76⟩ := Kd.V_slice HO552.out
        (first | subst eo76 | (injection eo76 with f1_ f2_ f3_; have f4_ := f1_.symm; have f5_ := f3_.symm; clear f1_ f2_ f3_; subst f4_; subst f5_))
        refine hK.out _ _ ⟨(bc BK505.out 0).trans rfl, (bc BK505.out 1).trans rfl, (bc BK504.out 0).trans rfl, (bc BK504.out 1).trans rfl⟩ (fun hHeld => ?_)
        clear hK K
        refine norm_ (a' := ?_) ?_ ?_
        rotate_left
        ·show Act.put _ (some 58) _ = _
         simp only [Act.put, psl, i64_w, i32_w]
         rfl
        refine one_ (i := 4) (N := some 59) (fl 11 5 [8]) rfl rfl (one_of HT_.out (by kernel_rfl)) (by decide) (fun K hK => ?_)
        refine goes_ Try.func32 (by kernel_rfl) rfl #[.agg #[.slice Ao73 t541.length co73, .slice Ao74 t544.length co74], .agg #[.slice Ao75 t547.length co75, .slice Ao76 t550.length co76]] (by rfl) rfl rfl (by (try simp only [pml]); first | done | rfl | (simp only [pdt]; rfl)) ?_
        with_reducible refine (shift_Common.calls kj23 (fun k_ => (some k_ ≠ (.slice Ao35 t521.length co35 : Value).ownBlock ∧ (some k_ ≠ (.slice Ao37 t524.length co37 : Value).ownBlock ∧ (some k_ ≠ (.slice Ao62 t533.length co62 : Value).ownBlock ∧ (some k_ ≠ (.slice Ao67 t536.length co67 : Value).ownBlock ∧ (k_ ≠ gb504 ∧ (k_ ≠ gb505 ∧ (k_ ≠ gb528 ∧ (k_ ≠ gb540 ∧ k_ ≠ gb560))))))))) _ _ t541 (fun k_ => (some k_ ≠ (.slice Ao35 t521.length co35 : Value).ownBlock ∧ (some k_ ≠ (.slice Ao37 t524.length co37 : Value).ownBlock ∧ (some k_ ≠ (.slice Ao62 t533.length co62 : Value).ownBlock ∧ (some k_ ≠ (.slice Ao67 t536.length co67 : Value).ownBlock ∧ (k_ ≠ gb504 ∧ (k_ ≠ gb505 ∧ (k_ ≠ gb528 ∧ (k_ ≠ gb540 ∧ k_ ≠ gb560))))))))) _ _ t544 (fun k_ => (some k_ ≠ (.slice Ao35 t521.length co35 : Value).ownBlock ∧ (some k_ ≠ (.slice Ao37 t524.length co37 : Value).ownBlock ∧ (some k_ ≠ (.slice Ao62 t533.length co62 : Value).ownBlock ∧ (some k_ ≠ (.slice Ao67 t536.length co67 : Value).ownBlock ∧ (k_ ≠ gb504 ∧ (k_ ≠ gb505 ∧ (k_ ≠ gb528 ∧ (k_ ≠ gb540 ∧ k_ ≠ gb560))))))))) _ _ t547 (fun k_ => (some k_ ≠ (.slice Ao35 t521.length co35 : Value).ownBlock ∧ (some k_ ≠ (.slice Ao37 t524.length co37 : Value).ownBlock ∧ (some k_ ≠ (.slice Ao62 t533.length co62 : Value).ownBlock ∧ (some k_ ≠ (.slice Ao67 t536.length co67 : Value).ownBlock ∧ (k_ ≠ gb504 ∧ (k_ ≠ gb505 ∧ (k_ ≠ gb528 ∧ (k_ ≠ gb540 ∧ k_ ≠ gb560))))))))) _ _ t550 t553 t556 t559 _ ?side1 ?side2 ?side3 ?side4 A53.out).mono ?_
        (case side1 => exact HO543.out)
        (case side2 => exact HO546.out)
        (case side3 => exact HO549.out)
        (case side4 => exact HO552.out)
        rintro e w77 ⟨v554, v557, rfl, ho0, ho1, hb⟩
        refine ⟨_, rfl, ?_⟩
        have n0_ := am (Kd.R_elder' (fR HO_529000.out) (Kd.R_base ho0) hb)
        have n1_ := am (Kd.R_elder' (fR HO_529001.out) (Kd.R_base ho1) hb)
        have n2_ := am (Kd.R_elder' (fR HO535.out) (Kd.R_base ho0) hb)
        have n3_ := am (Kd.R_elder' (fR HO538.out) (Kd.R_base ho1) hb)
        have n4_ := am (Kd.V_mono (Kd.V_told (Kd.V_told (Kd.V_old (fV HO543.out) hb) (Kd.R_base ho0)) (Kd.R_base ho1)) (fun _ h_ => h_.1))
        have n5_ := am (Kd.V_mono (Kd.V_told (Kd.V_told (Kd.V_old (fV HO546.out) hb) (Kd.R_base ho0)) (Kd.R_base ho1)) (fun _ h_ => h_.1))
        have n6_ := am (Kd.V_mono (Kd.V_told (Kd.V_told (Kd.V_old (fV HO549.out) hb) (Kd.R_base ho0)) (Kd.R_base ho1)) (fun _ h_ => h_.1))
        have n7_ := am (Kd.V_mono (Kd.V_told (Kd.V_told (Kd.V_old (fV HO552.out) hb) (Kd.R_base ho0)) (Kd.R_base ho1)) (fun _ h_ => h_.1))
        have n8_ := am (Kd.R_lower (Kd.R_new' (Kd.R_new' (Kd.R_mono (ok' := fun k_ => True) ho0 (fun _ hk_ => trivial)) (Kd.R_lt (fR HO_529000.out))) (Kd.R_lt (fR HO535.out))) (wz (fW HB.out)))
        have n9_ := am (Kd.R_lower (Kd.R_new' (Kd.R_new' (Kd.R_mono (ok' := fun k_ => True) ho1 (fun _ hk_ => trivial)) (Kd.R_lt (fR HO_529001.out))) (Kd.R_lt (fR HO538.out))) (wz (fW HB.out)))
        have n10_ := bB BK504 hb
        have n11_ := bB BK505 hb
        have n12_ := bB BK528 hb
        have n13_ := bB BK540 hb
        have n14_ := bB BK560 hb
        have n15_ := bS HB hb
        clear HO_529000 HO_529001 HO535 HO538 HO543 HO546 HO549 HO552 BK504 BK505 BK528 BK540 BK560 HB
        have HO_529000 := n0_
        have HO_529001 := n1_
        have HO535 := n2_
        have HO538 := n3_
        have HO543 := n4_
        have HO546 := n5_
        have HO549 := n6_
        have HO552 := n7_
        have HO555 := n8_
        have HO558 := n9_
        have BK504 := n10_
        have BK505 := n11_
        have BK528 := n12_
        have BK540 := n13_
        have BK560 := n14_
        have HB := n15_
        clear n0_ n1_ n2_ n3_ n4_ n5_ n6_ n7_ n8_ n9_ n10_ n11_ n12_ n13_ n14_ n15_
        (try clear hb)
        (try clear hb2)
        (try clear hk)
        (try clear hi)
        (try clear ho0)
        (try clear ho1)
        refine hK.out _ _ ⟨(bc BK505.out 0).trans rfl, (bc BK505.out 1).trans rfl, (bc BK504.out 0).trans rfl, (bc BK504.out 1).trans rfl⟩ (fun hHeld => ?_)
        clear hK K
        refine norm_ (a' := ?_) ?_ ?_
        rotate_left
        ·show Act.put _ (some 59) _ = _
         simp only [Act.put, psl, i64_w, i32_w]
         rfl
        refine pu (i := 5) (N := some 54) (fl 11 6 [8]) HT_ ?_
        refine pu (i := 6) (N := some 60) (fl 11 7 [8]) HT_ ?_
        refine pu (i := 7) (N := some 61) (fl 11 9 []) HT_ ?_
        exact norm_ (by simp only [putAll, Act.put, psl]) (hCont (.slice Ao73 t541.length co73, .slice Ao74 t544.length co74, .slice Ao75 t547.length co75, .slice Ao76 t550.length co76, v554, v557, gb560) _ ⟨hHeld, (by (with_reducible repeat (first | apply Kd.R_alloc | apply Kd.R_drewN | apply Kd.R_drew)); exact Kd.R_mono HO535.out (fun _ hk => ⟨hk.2, hk.1⟩)), (by (with_reducible repeat (first | apply Kd.R_alloc | apply Kd.R_drewN | apply Kd.R_drew)); exact Kd.R_mono HO538.out (fun _ hk => ⟨hk.2, hk.1⟩)), (by (with_reducible repeat (first | apply Kd.V_alloc | apply Kd.V_drewN | apply Kd.V_drew)); exact Kd.V_mono HO543.out (fun _ hk => ⟨hk.1.1.2.2.1, ⟨hk.1.1.2.2.2.1, ⟨hk.1.2, ⟨hk.2, ⟨hk.1.1.1, ⟨hk.1.1.2.1, ⟨hk.1.1.2.2.2.2.1, ⟨hk.1.1.2.2.2.2.2.1, ⟨hk.1.1.2.2.2.2.2.2.1, ⟨hk.1.1.2.2.2.2.2.2.2.1, hk.1.1.2.2.2.2.2.2.2.2⟩⟩⟩⟩⟩⟩⟩⟩⟩⟩)), (by (with_reducible repeat (first | apply Kd.V_alloc | apply Kd.V_drewN | apply Kd.V_drew)); exact Kd.V_mono HO546.out (fun _ hk => ⟨hk.1.1.2.2.1, ⟨hk.1.1.2.2.2.1, ⟨hk.1.2, ⟨hk.2, ⟨hk.1.1.1, ⟨hk.1.1.2.1, ⟨hk.1.1.2.2.2.2.1, ⟨hk.1.1.2.2.2.2.2.1, ⟨hk.1.1.2.2.2.2.2.2.1, ⟨hk.1.1.2.2.2.2.2.2.2.1, hk.1.1.2.2.2.2.2.2.2.2⟩⟩⟩⟩⟩⟩⟩⟩⟩⟩)), (by (with_reducible repeat (first | apply Kd.V_alloc | apply Kd.V_drewN | apply Kd.V_drew)); exact Kd.V_mono HO549.out (fun _ hk => ⟨hk.1.1.2.2.1, ⟨hk.1.1.2.2.2.1, ⟨hk.1.2, ⟨hk.2, ⟨hk.1.1.1, ⟨hk.1.1.2.1, ⟨hk.1.1.2.2.2.2.1, ⟨hk.1.1.2.2.2.2.2.1, ⟨hk.1.1.2.2.2.2.2.2.1, ⟨hk.1.1.2.2.2.2.2.2.2.1, hk.1.1.2.2.2.2.2.2.2.2⟩⟩⟩⟩⟩⟩⟩⟩⟩⟩)), (by (with_reducible repeat (first | apply Kd.V_alloc | apply Kd.V_drewN | apply Kd.V_drew)); exact Kd.V_mono HO552.out (fun _ hk => ⟨hk.1.1.2.2.1, ⟨hk.1.1.2.2.2.1, ⟨hk.1.2, ⟨hk.2, ⟨hk.1.1.1, ⟨hk.1.1.2.1, ⟨hk.1.1.2.2.2.2.1, ⟨hk.1.1.2.2.2.2.2.1, ⟨hk.1.1.2.2.2.2.2.2.1, ⟨hk.1.1.2.2.2.2.2.2.2.1, hk.1.1.2.2.2.2.2.2.2.2⟩⟩⟩⟩⟩⟩⟩⟩⟩⟩)), (by (with_reducible repeat (first | apply Kd.R_alloc | apply Kd.R_drewN | apply Kd.R_drew)); exact Kd.R_mono HO555.out (fun _ hk => ⟨hk.2, hk.1.2⟩)), (by (with_reducible repeat (first | apply Kd.R_alloc | apply Kd.R_drewN | apply Kd.R_drew)); exact Kd.R_mono HO558.out (fun _ hk => ⟨hk.2, hk.1.2⟩)), (fR HO_529000.out), (fR HO_529001.out), (fb BK504.out), (fb BK505.out), (fb BK528.out), (fb BK540.out), (fb BK560.out), GW560.out, GE560.out, NB504_560.out, NB560_504.out, NB505_560.out, NB560_505.out, NB528_560.out, NB560_528.out, NB540_560.out, NB560_540.out, (fW HB.out)⟩)
       rintro ⟨v542, v545, v548, v551, v554, v557, gb560⟩ w78 ⟨hS_, h0_, h1_, h2_, h3_, h4_, h5_, h6_, h7_, h8_, h9_, h10_, h11_, h12_, h13_, h14_, h15_, h16_, h17_, h18_, h19_, h20_, h21_, h22_, h23_, h24_, h25_⟩
       have n0_ : Aside0 (Kd.R k54 54 w78 w.heap.size (fun k_ => some k_ ≠ (v554 : Value).ownBlock ∧ some k_ ≠ (.slice Ao35 t521.length co35 : Value).ownBlock) (.slice Ao62 t533.length co62) t533) := ⟨h0_⟩
       have n1_ : Aside0 (Kd.R (Kd.int .i64) 3 w78 w.heap.size (fun k_ => some k_ ≠ (v557 : Value).ownBlock ∧ some k_ ≠ (.slice Ao37 t524.length co37 : Value).ownBlock) (.slice Ao67 t536.length co67) t536) := ⟨h1_⟩
       have n2_ : Aside0 (Kd.V k54 54 w78 w.heap.size (fun k_ => some k_ ≠ (.slice Ao62 t533.length co62 : Value).ownBlock ∧ some k_ ≠ (.slice Ao67 t536.length co67 : Value).ownBlock ∧ some k_ ≠ (v554 : Value).ownBlock ∧ some k_ ≠ (v557 : Value).ownBlock ∧ some k_ ≠ (.slice Ao35 t521.length co35 : Value).ownBlock ∧ some k_ ≠ (.slice Ao37 t524.length co37 : Value).ownBlock ∧ k_ ≠ gb504 ∧ k_ ≠ gb505 ∧ k_ ≠ gb528 ∧ k_ ≠ gb540 ∧ k_ ≠ gb560) v542 t541) := ⟨h2_⟩
       have n3_ : Aside0 (Kd.V (Kd.int .i64) 3 w78 w.heap.size (fun k_ => some k_ ≠ (.slice Ao62 t533.length co62 : Value).ownBlock ∧ some k_ ≠ (.slice Ao67 t536.length co67 : Value).ownBlock ∧ some k_ ≠ (v554 : Value).ownBlock ∧ some k_ ≠ (v557 : Value).ownBlock ∧ some k_ ≠ (.slice Ao35 t521.length co35 : Value).ownBlock ∧ some k_ ≠ (.slice Ao37 t524.length co37 : Value).ownBlock ∧ k_ ≠ gb504 ∧ k_ ≠ gb505 ∧ k_ ≠ gb528 ∧ k_ ≠ gb540 ∧ k_ ≠ gb560) v545 t544) := ⟨h3_⟩
       have n4_ : Aside0 (Kd.V k54 54 w78 w.heap.size (fun k_ => some k_ ≠ (.slice Ao62 t533.length co62 : Value).ownBlock ∧ some k_ ≠ (.slice Ao67 t536.length co67 : Value).ownBlock ∧ some k_ ≠ (v554 : Value).ownBlock ∧ some k_ ≠ (v557 : Value).ownBlock ∧ some k_ ≠ (.slice Ao35 t521.length co35 : Value).ownBlock ∧ some k_ ≠ (.slice Ao37 t524.length co37 : Value).ownBlock ∧ k_ ≠ gb504 ∧ k_ ≠ gb505 ∧ k_ ≠ gb528 ∧ k_ ≠ gb540 ∧ k_ ≠ gb560) v548 t547) := ⟨h4_⟩
       have n5_ : Aside0 (Kd.V (Kd.int .i64) 3 w78 w.heap.size (fun k_ => some k_ ≠ (.slice Ao62 t533.length co62 : Value).ownBlock ∧ some k_ ≠ (.slice Ao67 t536.length co67 : Value).ownBlock ∧ some k_ ≠ (v554 : Value).ownBlock ∧ some k_ ≠ (v557 : Value).ownBlock ∧ some k_ ≠ (.slice Ao35 t521.length co35 : Value).ownBlock ∧ some k_ ≠ (.slice Ao37 t524.length co37 : Value).ownBlock ∧ k_ ≠ gb504 ∧ k_ ≠ gb505 ∧ k_ ≠ gb528 ∧ k_ ≠ gb540 ∧ k_ ≠ gb560) v551 t550) := ⟨h5_⟩
       have n6_ : Aside0 (Kd.R k54 54 w78 w.heap.size (fun k_ => some k_ ≠ (.slice Ao62 t533.length co62 : Value).ownBlock ∧ some k_ ≠ (.slice Ao35 t521.length co35 : Value).ownBlock) v554 t553) := ⟨h6_⟩
       have n7_ : Aside0 (Kd.R (Kd.int .i64) 3 w78 w.heap.size (fun k_ => some k_ ≠ (.slice Ao67 t536.length co67 : Value).ownBlock ∧ some k_ ≠ (.slice Ao37 t524.length co37 : Value).ownBlock) v557 t556) := ⟨h7_⟩
       have n8_ : Aside0 (Kd.R k54 54 w78 w.heap.size (fun k_ => some k_ ≠ (.slice Ao62 t533.length co62 : Value).ownBlock ∧ some k_ ≠ (v554 : Value).ownBlock) (.slice Ao35 t521.length co35) t521) := ⟨h8_⟩
       have n9_ : Aside0 (Kd.R (Kd.int .i64) 3 w78 w.heap.size (fun k_ => some k_ ≠ (.slice Ao67 t536.length co67 : Value).ownBlock ∧ some k_ ≠ (v557 : Value).ownBlock) (.slice Ao37 t524.length co37) t524) := ⟨h9_⟩
       have n10_ : Aside0 (w78.heap[gb504]? = some (.cells #[.slice A0_0 l0_0.length c0_0, .slice A0_1 l0_1.length c0_1] 25 (0, 0))) := ⟨h10_⟩
       have n11_ : Aside0 (w78.heap[gb505]? = some (.cells #[.slice A1_0 l1_0.length c1_0, .slice A1_1 l1_1.length c1_1] 25 (0, 0))) := ⟨h11_⟩
       have n12_ : Aside0 (w78.heap[gb528]? = some (.cells #[.slice Ao35 t521.length co35, .slice Ao37 t524.length co37] 31 (0, 0))) := ⟨h12_⟩
       have n13_ : Aside0 (w78.heap[gb540]? = some (.cells #[.slice Ao62 t533.length co62, .slice Ao67 t536.length co67] 25 (0, 0))) := ⟨h13_⟩
       have n14_ : Aside0 (w78.heap[gb560]? = some (.cells #[.slice none 0 0, .slice none 0 0] 31 (0, 0))) := ⟨h14_⟩
       have n15_ : Aside0 (w.heap.size ≤ gb560) := ⟨h15_⟩
       have n16_ : Aside0 (w.heap.size ≤ gb560) := ⟨h16_⟩
       have n17_ : Aside0 (gb504 ≠ gb560) := ⟨h17_⟩
       have n18_ : Aside0 (gb560 ≠ gb504) := ⟨h18_⟩
       have n19_ : Aside0 (gb505 ≠ gb560) := ⟨h19_⟩
       have n20_ : Aside0 (gb560 ≠ gb505) := ⟨h20_⟩
       have n21_ : Aside0 (gb528 ≠ gb560) := ⟨h21_⟩
       have n22_ : Aside0 (gb560 ≠ gb528) := ⟨h22_⟩
       have n23_ : Aside0 (gb540 ≠ gb560) := ⟨h23_⟩
       have n24_ : Aside0 (gb560 ≠ gb540) := ⟨h24_⟩
       have n25_ : Aside0 (Below w.heap.size w w78) := ⟨h25_⟩
       clear HO_529000 HO_529001 HO535 HO538 BK504 BK505 BK528 BK540 HB h0_ h1_ h2_ h3_ h4_ h5_ h6_ h7_ h8_ h9_ h10_ h11_ h12_ h13_ h14_ h15_ h16_ h17_ h18_ h19_ h20_ h21_ h22_ h23_ h24_ h25_
       have HO535 := n0_
       have HO538 := n1_
       have HO543 := n2_
       have HO546 := n3_
       have HO549 := n4_
       have HO552 := n5_
       have HO555 := n6_
       have HO558 := n7_
       have HO_529000 := n8_
       have HO_529001 := n9_
       have BK504 := n10_
       have BK505 := n11_
       have BK528 := n12_
       have BK540 := n13_
       have BK560 := n14_
       have GW560 := n15_
       have GE560 := n16_
       have NB504_560 := n17_
       have NB560_504 := n18_
       have NB505_560 := n19_
       have NB560_505 := n20_
       have NB528_560 := n21_
       have NB560_528 := n22_
       have NB540_560 := n23_
       have NB560_540 := n24_
       have HB := n25_
       clear n0_ n1_ n2_ n3_ n4_ n5_ n6_ n7_ n8_ n9_ n10_ n11_ n12_ n13_ n14_ n15_ n16_ n17_ n18_ n19_ n20_ n21_ n22_ n23_ n24_ n25_
       have hHeld : w78.cell? ⟨gb505, 0, none⟩ = some (.slice A1_0 l1_0.length c1_0) ∧ w78.cell? ⟨gb505, 1, none⟩ = some (.slice A1_1 l1_1.length c1_1) ∧ w78.cell? ⟨gb504, 0, none⟩ = some (.slice A0_0 l0_0.length c0_0) ∧ w78.cell? ⟨gb504, 1, none⟩ = some (.slice A0_1 l0_1.length c0_1) := hS_
       obtain ⟨Ao79, co79, eo79⟩ := Kd.R_slice HO555.out
       (first | subst eo79 | (injection eo79 with f1_ f2_ f3_; have f4_ := f1_.symm; have f5_ := f3_.symm; clear f1_ f2_ f3_; subst f4_; subst f5_))
       obtain ⟨Ao81, co81, eo81⟩ := Kd.R_slice HO558.out
       (first | subst eo81 | (injection eo81 with f1_ f2_ f3_; have f4_ := f1_.symm; have f5_ := f3_.symm; clear f1_ f2_ f3_; subst f4_; subst f5_))
       refine norm_ (a' := ?_) ?_ ?_
       rotate_left
       ·simp only [putAll, Act.put, psl]
        rfl
       refine one_ (i := 9) (N := none) (fl 11 10 []) rfl rfl (one_of HT_.out (by kernel_rfl)) (by decide) (fun K hK => ?_)
       have hs80 : w78.cell? ⟨gb560, 0, none⟩ = some (.slice none 0 0) := (bc BK560.out 0).trans rfl
       have hfs80 := bf BK560.out 0
       have hns80_0 := NB504_560.out
       have hns80_1 := NB505_560.out
       have hns80_2 := NB528_560.out
       have hns80_3 := NB540_560.out
       have hms80_0 := NB560_504.out
       have hms80_1 := NB560_505.out
       have hms80_2 := NB560_528.out
       have hms80_3 := NB560_540.out
       have hs82 : w78.cell? ⟨gb560, 1, none⟩ = some (.slice none 0 0) := (bc BK560.out 1).trans rfl
       have hfs82 := bf BK560.out 1
       have hns82_0 := NB504_560.out
       have hns82_1 := NB505_560.out
       have hns82_2 := NB528_560.out
       have hns82_3 := NB540_560.out
       have hms82_0 := NB560_504.out
       have hms82_1 := NB560_505.out
       have hms82_2 := NB560_528.out
       have hms82_3 := NB560_540.out
       refine skip_ (w1 := ?_) (by rfl) rfl ?_ ?_
       rotate_left
       ·go_simp
        rfl
       refine hK.out _ _ ⟨((cf (p := ⟨gb560, _, none⟩) NB505_560.out _).trans (((cf (p := ⟨gb560, _, none⟩) NB505_560.out _).trans (hHeld.1)))), ((cf (p := ⟨gb560, _, none⟩) NB505_560.out _).trans (((cf (p := ⟨gb560, _, none⟩) NB505_560.out _).trans (hHeld.2.1)))), ((cf (p := ⟨gb560, _, none⟩) NB504_560.out _).trans (((cf (p := ⟨gb560, _, none⟩) NB504_560.out _).trans (hHeld.2.2.1)))), ((cf (p := ⟨gb560, _, none⟩) NB504_560.out _).trans (((cf (p := ⟨gb560, _, none⟩) NB504_560.out _).trans (hHeld.2.2.2))))⟩ (fun hHeld => ?_)
       clear hK K
       refine pu (i := 10) (N := some 11) (fl 11 11 []) HT_ ?_
       refine done_ (done_of HT_.out (by kernel_rfl)) ?_
       go_upto_region 11 with (fail)
       go_cut [4] (fun v4 wc => ∃ (kq : Nat) (x4_53 : Bool), v4 = .bool x4_53 ∧ Aside0 (w_ShiftCommon.j3 kq x4_53 = some r) ∧ Aside0 (kq ≤ kj23) ∧ Aside0 (Kd.R k54 54 wc w.heap.size (fun k_ => some k_ ≠ ((.slice Ao62 t533.length co62) : Value).ownBlock ∧ some k_ ≠ ((.slice Ao79 t553.length co79) : Value).ownBlock) (.slice Ao35 t521.length co35) t521) ∧ Aside0 (Kd.R (Kd.int .i64) 3 wc w.heap.size (fun k_ => some k_ ≠ ((.slice Ao67 t536.length co67) : Value).ownBlock ∧ some k_ ≠ ((.slice Ao81 t556.length co81) : Value).ownBlock) (.slice Ao37 t524.length co37) t524) ∧ Aside0 (Kd.R k54 54 wc w.heap.size (fun k_ => some k_ ≠ ((.slice Ao35 t521.length co35) : Value).ownBlock ∧ some k_ ≠ ((.slice Ao79 t553.length co79) : Value).ownBlock) (.slice Ao62 t533.length co62) t533) ∧ Aside0 (Kd.R (Kd.int .i64) 3 wc w.heap.size (fun k_ => some k_ ≠ ((.slice Ao37 t524.length co37) : Value).ownBlock ∧ some k_ ≠ ((.slice Ao81 t556.length co81) : Value).ownBlock) (.slice Ao67 t536.length co67) t536) ∧ Aside0 (Kd.R k54 54 wc w.heap.size (fun k_ => some k_ ≠ ((.slice Ao35 t521.length co35) : Value).ownBlock ∧ some k_ ≠ ((.slice Ao62 t533.length co62) : Value).ownBlock) (.slice Ao79 t553.length co79) t553) ∧ Aside0 (Kd.R (Kd.int .i64) 3 wc w.heap.size (fun k_ => some k_ ≠ ((.slice Ao37 t524.length co37) : Value).ownBlock ∧ some k_ ≠ ((.slice Ao67 t536.length co67) : Value).ownBlock) (.slice Ao81 t556.length co81) t556) ∧ Aside0 (wc.heap[gb504]? = some (.cells #[(.slice A0_0 l0_0.length c0_0), (.slice A0_1 l0_1.length c0_1)] 25 (0, 0))) ∧ Aside0 (wc.heap[gb505]? = some (.cells #[(.slice A1_0 l1_0.length c1_0), (.slice A1_1 l1_1.length c1_1)] 25 (0, 0))) ∧ Aside0 (wc.heap[gb528]? = some (.cells #[(.slice Ao35 t521.length co35), (.slice Ao37 t524.length co37)] 31 (0, 0))) ∧ Aside0 (wc.heap[gb540]? = some (.cells #[(.slice Ao62 t533.length co62), (.slice Ao67 t536.length co67)] 25 (0, 0))) ∧ Aside0 (wc.heap[gb560]? = some (.cells #[(.slice Ao79 t553.length co79), (.slice Ao81 t556.length co81)] 31 (0, 0))) ∧ Aside0 (Below w.heap.size w wc))
       case first =>
        have H := HC54.out
        clear HC54
        replace H := Option.bind_eq_some_iff.mp H
        obtain ⟨t561, A830, H⟩ := H
        replace H : (if t561 = true then (if t527 = t539 then ((r_Same.f kj23 t521 t524 t533 t536).bind fun t562 => (if t562 = true then (if t559 = t539 then ((r_Same.f kj23 t553 t556 t533 t536).bind fun t563 => (w_ShiftCommon.j3 kj23 t563)) else (w_ShiftCommon.j3 kj23 false)) else (w_ShiftCommon.j3 kj23 false))) else (w_ShiftCommon.j3 kj23 false)) else (w_ShiftCommon.j3 kj23 false)) = some r := H
        have A83 := am A830
        clear A830
        by_cases c84 : t561 = true
        rotate_left
        ·replace c84 := Bool.eq_false_iff.mpr c84
         subst c84
         have H1 : (w_ShiftCommon.j3 kj23 false) = some r := by rw [if_neg (show ¬ (false = true) by decide)] at H; exact H
         clear H
         have H := H1
         clear H1
         have H' := am H
         clear H
         go_wp2_with (first | ((with_reducible refine gc (f := 12) rfl ?_); refine goesL_ (some 62) rfl rfl Try.func12 (by kernel_rfl) rfl #[] rfl (by (try simp only [pml]); first | done | rfl | (simp only [pdt]; rfl)) ?_; (with_reducible refine (w_awake.calls kj23  false _ A83.out).mono ?_); rintro e w129 ⟨rfl, hb⟩; refine ⟨_, rfl, ?_⟩; replace HO_529000 := am (Kd.R_below (by (with_reducible repeat (first | apply Kd.R_alloc | apply Kd.R_drewN | apply Kd.R_drew)); exact (Kd.R_mono (Kd.R_far (p := ⟨gb560, 1, none⟩) (Kd.R_far (p := ⟨gb560, 0, none⟩) (Kd.R_types HO_529000.out BK560.out (by decide)) (fun _ hk => hk.2) (.slice Ao79 t553.length co79)) (fun _ hk => hk.2) (.slice Ao81 t556.length co81)) (fun _ h_ => h_.1))) hb); replace HO_529001 := am (Kd.R_below (by (with_reducible repeat (first | apply Kd.R_alloc | apply Kd.R_drewN | apply Kd.R_drew)); exact (Kd.R_mono (Kd.R_far (p := ⟨gb560, 1, none⟩) (Kd.R_far (p := ⟨gb560, 0, none⟩) (Kd.R_types HO_529001.out BK560.out (by decide)) (fun _ hk => hk.2) (.slice Ao79 t553.length co79)) (fun _ hk => hk.2) (.slice Ao81 t556.length co81)) (fun _ h_ => h_.1))) hb); replace HO535 := am (Kd.R_below (by (with_reducible repeat (first | apply Kd.R_alloc | apply Kd.R_drewN | apply Kd.R_drew)); exact (Kd.R_mono (Kd.R_far (p := ⟨gb560, 1, none⟩) (Kd.R_far (p := ⟨gb560, 0, none⟩) (Kd.R_types HO535.out BK560.out (by decide)) (fun _ hk => hk.2) (.slice Ao79 t553.length co79)) (fun _ hk => hk.2) (.slice Ao81 t556.length co81)) (fun _ h_ => h_.1))) hb); replace HO538 := am (Kd.R_below (by (with_reducible repeat (first | apply Kd.R_alloc | apply Kd.R_drewN | apply Kd.R_drew)); exact (Kd.R_mono (Kd.R_far (p := ⟨gb560, 1, none⟩) (Kd.R_far (p := ⟨gb560, 0, none⟩) (Kd.R_types HO538.out BK560.out (by decide)) (fun _ hk => hk.2) (.slice Ao79 t553.length co79)) (fun _ hk => hk.2) (.slice Ao81 t556.length co81)) (fun _ h_ => h_.1))) hb); replace HO543 := am (Kd.V_below (by (with_reducible repeat (first | apply Kd.V_alloc | apply Kd.V_drewN | apply Kd.V_drew)); exact (Kd.V_mono (Kd.V_far (p := ⟨gb560, 1, none⟩) (Kd.V_far (p := ⟨gb560, 0, none⟩) (Kd.V_mono HO543.out (fun k_ hk => (⟨hk, hk.2.2.2.2.2.2.2.2.2.2⟩ : _ ∧ k_ ≠ gb560))) (fun _ hk => hk.2) (.slice Ao79 t553.length co79)) (fun _ hk => hk.2) (.slice Ao81 t556.length co81)) (fun _ h_ => h_.1))) hb); replace HO546 := am (Kd.V_below (by (with_reducible repeat (first | apply Kd.V_alloc | apply Kd.V_drewN | apply Kd.V_drew)); exact (Kd.V_mono (Kd.V_far (p := ⟨gb560, 1, none⟩) (Kd.V_far (p := ⟨gb560, 0, none⟩) (Kd.V_mono HO546.out (fun k_ hk => (⟨hk, hk.2.2.2.2.2.2.2.2.2.2⟩ : _ ∧ k_ ≠ gb560))) (fun _ hk => hk.2) (.slice Ao79 t553.length co79)) (fun _ hk => hk.2) (.slice Ao81 t556.length co81)) (fun _ h_ => h_.1))) hb); replace HO549 := am (Kd.V_below (by (with_reducible repeat (first | apply Kd.V_alloc | apply Kd.V_drewN | apply Kd.V_drew)); exact (Kd.V_mono (Kd.V_far (p := ⟨gb560, 1, none⟩) (Kd.V_far (p := ⟨gb560, 0, none⟩) (Kd.V_mono HO549.out (fun k_ hk => (⟨hk, hk.2.2.2.2.2.2.2.2.2.2⟩ : _ ∧ k_ ≠ gb560))) (fun _ hk => hk.2) (.slice Ao79 t553.length co79)) (fun _ hk => hk.2) (.slice Ao81 t556.length co81)) (fun _ h_ => h_.1))) hb); replace HO552 := am (Kd.V_below (by (with_reducible repeat (first | apply Kd.V_alloc | apply Kd.V_drewN | apply Kd.V_drew)); exact (Kd.V_mono (Kd.V_far (p := ⟨gb560, 1, none⟩) (Kd.V_far (p := ⟨gb560, 0, none⟩) (Kd.V_mono HO552.out (fun k_ hk => (⟨hk, hk.2.2.2.2.2.2.2.2.2.2⟩ : _ ∧ k_ ≠ gb560))) (fun _ hk => hk.2) (.slice Ao79 t553.length co79)) (fun _ hk => hk.2) (.slice Ao81 t556.length co81)) (fun _ h_ => h_.1))) hb); replace HO555 := am (Kd.R_below (by (with_reducible repeat (first | apply Kd.R_alloc | apply Kd.R_drewN | apply Kd.R_drew)); exact (Kd.R_mono (Kd.R_far (p := ⟨gb560, 1, none⟩) (Kd.R_far (p := ⟨gb560, 0, none⟩) (Kd.R_types HO555.out BK560.out (by decide)) (fun _ hk => hk.2) (.slice Ao79 t553.length co79)) (fun _ hk => hk.2) (.slice Ao81 t556.length co81)) (fun _ h_ => h_.1))) hb); replace HO558 := am (Kd.R_below (by (with_reducible repeat (first | apply Kd.R_alloc | apply Kd.R_drewN | apply Kd.R_drew)); exact (Kd.R_mono (Kd.R_far (p := ⟨gb560, 1, none⟩) (Kd.R_far (p := ⟨gb560, 0, none⟩) (Kd.R_types HO558.out BK560.out (by decide)) (fun _ hk => hk.2) (.slice Ao79 t553.length co79)) (fun _ hk => hk.2) (.slice Ao81 t556.length co81)) (fun _ h_ => h_.1))) hb); replace BK504 := xC1 (kfC BK504.out) hb; replace BK505 := xC1 (kfC BK505.out) hb; replace BK528 := xC1 (kfC BK528.out) hb; replace BK540 := xC1 (kfC BK540.out) hb; replace BK560 := xC1 (o := .cells #[.slice Ao79 t553.length co79, .slice Ao81 t556.length co81] 31 (0, 0)) (kkC BK560.out) hb; replace HB := bS HB hb; (try clear hb); (try clear hb2); (try clear hk); (try clear hi)))
         go_meet
         case rel => exact ⟨_, (false), sqD, H', ⟨by have := HJ2.out; have := HJ23.out; first | omega | exact Nat.le_refl _⟩, ⟨fR HO_529000.out⟩, ⟨fR HO_529001.out⟩, ⟨by (with_reducible repeat (first | apply Kd.R_alloc | apply Kd.R_drewN | apply Kd.R_drew)); exact Kd.R_mono HO535.out (fun _ hk => ⟨hk.2, hk.1⟩)⟩, ⟨by (with_reducible repeat (first | apply Kd.R_alloc | apply Kd.R_drewN | apply Kd.R_drew)); exact Kd.R_mono HO538.out (fun _ hk => ⟨hk.2, hk.1⟩)⟩, ⟨by (with_reducible repeat (first | apply Kd.R_alloc | apply Kd.R_drewN | apply Kd.R_drew)); exact Kd.R_mono HO555.out (fun _ hk => ⟨hk.2, hk.1⟩)⟩, ⟨by (with_reducible repeat (first | apply Kd.R_alloc | apply Kd.R_drewN | apply Kd.R_drew)); exact Kd.R_mono HO558.out (fun _ hk => ⟨hk.2, hk.1⟩)⟩, ⟨fb BK504.out⟩, ⟨fb BK505.out⟩, ⟨fb BK528.out⟩, ⟨fb BK540.out⟩, ⟨fb BK560.out⟩, ⟨fW HB.out⟩⟩
        subst c84
        have H1 : (if t527 = t539 then ((r_Same.f kj23 t521 t524 t533 t536).bind fun t562 => (if t562 = true then (if t559 = t539 then ((r_Same.f kj23 t553 t556 t533 t536).bind fun t563 => (w_ShiftCommon.j3 kj23 t563)) else (w_ShiftCommon.j3 kj23 false)) else (w_ShiftCommon.j3 kj23 false))) else (w_ShiftCommon.j3 kj23 false)) = some r := by rw [if_pos rfl] at H; exact H
        clear H
        have H := H1
        clear H1
        by_cases c85 : t527 = t539
        rotate_left
        ·rw [if_neg c85] at H
         have c85b0 : (t527 == t539) = false := beq_eq_false_iff_ne.mpr c85
         have c85b1 : (t527 != t539) = true := bne_iff_ne.mpr c85
         (first | rw [c85b0] | (simp only [i64_w, i32_w]; rw [c85b0]) | skip)
         have H' := am H
         clear H
         go_wp2_with (first | ((with_reducible refine gc (f := 12) rfl ?_); refine goesL_ (some 62) rfl rfl Try.func12 (by kernel_rfl) rfl #[] rfl (by (try simp only [pml]); first | done | rfl | (simp only [pdt]; rfl)) ?_; (with_reducible refine (w_awake.calls kj23  true _ A83.out).mono ?_); rintro e w128 ⟨rfl, hb⟩; refine ⟨_, rfl, ?_⟩; replace HO_529000 := am (Kd.R_below (by (with_reducible repeat (first | apply Kd.R_alloc | apply Kd.R_drewN | apply Kd.R_drew)); exact (Kd.R_mono (Kd.R_far (p := ⟨gb560, 1, none⟩) (Kd.R_far (p := ⟨gb560, 0, none⟩) (Kd.R_types HO_529000.out BK560.out (by decide)) (fun _ hk => hk.2) (.slice Ao79 t553.length co79)) (fun _ hk => hk.2) (.slice Ao81 t556.length co81)) (fun _ h_ => h_.1))) hb); replace HO_529001 := am (Kd.R_below (by (with_reducible repeat (first | apply Kd.R_alloc | apply Kd.R_drewN | apply Kd.R_drew)); exact (Kd.R_mono (Kd.R_far (p := ⟨gb560, 1, none⟩) (Kd.R_far (p := ⟨gb560, 0, none⟩) (Kd.R_types HO_529001.out BK560.out (by decide)) (fun _ hk => hk.2) (.slice Ao79 t553.length co79)) (fun _ hk => hk.2) (.slice Ao81 t556.length co81)) (fun _ h_ => h_.1))) hb); replace HO535 := am (Kd.R_below (by (with_reducible repeat (first | apply Kd.R_alloc | apply Kd.R_drewN | apply Kd.R_drew)); exact (Kd.R_mono (Kd.R_far (p := ⟨gb560, 1, none⟩) (Kd.R_far (p := ⟨gb560, 0, none⟩) (Kd.R_types HO535.out BK560.out (by decide)) (fun _ hk => hk.2) (.slice Ao79 t553.length co79)) (fun _ hk => hk.2) (.slice Ao81 t556.length co81)) (fun _ h_ => h_.1))) hb); replace HO538 := am (Kd.R_below (by (with_reducible repeat (first | apply Kd.R_alloc | apply Kd.R_drewN | apply Kd.R_drew)); exact (Kd.R_mono (Kd.R_far (p := ⟨gb560, 1, none⟩) (Kd.R_far (p := ⟨gb560, 0, none⟩) (Kd.R_types HO538.out BK560.out (by decide)) (fun _ hk => hk.2) (.slice Ao79 t553.length co79)) (fun _ hk => hk.2) (.slice Ao81 t556.length co81)) (fun _ h_ => h_.1))) hb); replace HO543 := am (Kd.V_below (by (with_reducible repeat (first | apply Kd.V_alloc | apply Kd.V_drewN | apply Kd.V_drew)); exact (Kd.V_mono (Kd.V_far (p := ⟨gb560, 1, none⟩) (Kd.V_far (p := ⟨gb560, 0, none⟩) (Kd.V_mono HO543.out (fun k_ hk => (⟨hk, hk.2.2.2.2.2.2.2.2.2.2⟩ : _ ∧ k_ ≠ gb560))) (fun _ hk => hk.2) (.slice Ao79 t553.length co79)) (fun _ hk => hk.2) (.slice Ao81 t556.length co81)) (fun _ h_ => h_.1))) hb); replace HO546 := am (Kd.V_below (by (with_reducible repeat (first | apply Kd.V_alloc | apply Kd.V_drewN | apply Kd.V_drew)); exact (Kd.V_mono (Kd.V_far (p := ⟨gb560, 1, none⟩) (Kd.V_far (p := ⟨gb560, 0, none⟩) (Kd.V_mono HO546.out (fun k_ hk => (⟨hk, hk.2.2.2.2.2.2.2.2.2.2⟩ : _ ∧ k_ ≠ gb560))) (fun _ hk => hk.2) (.slice Ao79 t553.length co79)) (fun _ hk => hk.2) (.slice Ao81 t556.length co81)) (fun _ h_ => h_.1))) hb); replace HO549 := am (Kd.V_below (by (with_reducible repeat (first | apply Kd.V_alloc | apply Kd.V_drewN | apply Kd.V_drew)); exact (Kd.V_mono (Kd.V_far (p := ⟨gb560, 1, none⟩) (Kd.V_far (p := ⟨gb560, 0, none⟩) (Kd.V_mono HO549.out (fun k_ hk => (⟨hk, hk.2.2.2.2.2.2.2.2.2.2⟩ : _ ∧ k_ ≠ gb560))) (fun _ hk => hk.2) (.slice Ao79 t553.length co79)) (fun _ hk => hk.2) (.slice Ao81 t556.length co81)) (fun _ h_ => h_.1))) hb); replace HO552 := am (Kd.V_below (by (with_reducible repeat (first | apply Kd.V_alloc | apply Kd.V_drewN | apply Kd.V_drew)); exact (Kd.V_mono (Kd.V_far (p := ⟨gb560, 1, none⟩) (Kd.V_far (p := ⟨gb560, 0, none⟩) (Kd.V_mono HO552.out (fun k_ hk => (⟨hk, hk.2.2.2.2.2.2.2.2.2.2⟩ : _ ∧ k_ ≠ gb560))) (fun _ hk => hk.2) (.slice Ao79 t553.length co79)) (fun _ hk => hk.2) (.slice Ao81 t556.length co81)) (fun _ h_ => h_.1))) hb); replace HO555 := am (Kd.R_below (by (with_reducible repeat (first | apply Kd.R_alloc | apply Kd.R_drewN | apply Kd.R_drew)); exact (Kd.R_mono (Kd.R_far (p := ⟨gb560, 1, none⟩) (Kd.R_far (p := ⟨gb560, 0, none⟩) (Kd.R_types HO555.out BK560.out (by decide)) (fun _ hk => hk.2) (.slice Ao79 t553.length co79)) (fun _ hk => hk.2) (.slice Ao81 t556.length co81)) (fun _ h_ => h_.1))) hb); replace HO558 := am (Kd.R_below (by (with_reducible repeat (first | apply Kd.R_alloc | apply Kd.R_drewN | apply Kd.R_drew)); exact (Kd.R_mono (Kd.R_far (p := ⟨gb560, 1, none⟩) (Kd.R_far (p := ⟨gb560, 0, none⟩) (Kd.R_types HO558.out BK560.out (by decide)) (fun _ hk => hk.2) (.slice Ao79 t553.length co79)) (fun _ hk => hk.2) (.slice Ao81 t556.length co81)) (fun _ h_ => h_.1))) hb); replace BK504 := xC1 (kfC BK504.out) hb; replace BK505 := xC1 (kfC BK505.out) hb; replace BK528 := xC1 (kfC BK528.out) hb; replace BK540 := xC1 (kfC BK540.out) hb; replace BK560 := xC1 (o := .cells #[.slice Ao79 t553.length co79, .slice Ao81 t556.length co81] 31 (0, 0)) (kkC BK560.out) hb; replace HB := bS HB hb; (try clear hb); (try clear hb2); (try clear hk); (try clear hi)))
         go_meet
         case rel => exact ⟨_, (false), sqD, H', ⟨by have := HJ2.out; have := HJ23.out; first | omega | exact Nat.le_refl _⟩, ⟨fR HO_529000.out⟩, ⟨fR HO_529001.out⟩, ⟨by (with_reducible repeat (first | apply Kd.R_alloc | apply Kd.R_drewN | apply Kd.R_drew)); exact Kd.R_mono HO535.out (fun _ hk => ⟨hk.2, hk.1⟩)⟩, ⟨by (with_reducible repeat (first | apply Kd.R_alloc | apply Kd.R_drewN | apply Kd.R_drew)); exact Kd.R_mono HO538.out (fun _ hk => ⟨hk.2, hk.1⟩)⟩, ⟨by (with_reducible repeat (first | apply Kd.R_alloc | apply Kd.R_drewN | apply Kd.R_drew)); exact Kd.R_mono HO555.out (fun _ hk => ⟨hk.2, hk.1⟩)⟩, ⟨by (with_reducible repeat (first | apply Kd.R_alloc | apply Kd.R_drewN | apply Kd.R_drew)); exact Kd.R_mono HO558.out (fun _ hk => ⟨hk.2, hk.1⟩)⟩, ⟨fb BK504.out⟩, ⟨fb BK505.out⟩, ⟨fb BK528.out⟩, ⟨fb BK540.out⟩, ⟨fb BK560.out⟩, ⟨fW HB.out⟩⟩
        rw [if_pos c85] at H
        have c85b0 : (t527 == t539) = true := beq_iff_eq.mpr c85
        have c85b1 : (t527 != t539) = false := bne_eq_false_iff_eq.mpr c85
        clear c85
        (first | rw [c85b0] | (simp only [i64_w, i32_w]; rw [c85b0]) | skip)
        replace H := Option.bind_eq_some_iff.mp H
        obtain ⟨t562, A860, H⟩ := H
        replace H : (if t562 = true then (if t559 = t539 then ((r_Same.f kj23 t553 t556 t533 t536).bind fun t563 => (w_ShiftCommon.j3 kj23 t563)) else (w_ShiftCommon.j3 kj23 false)) else (w_ShiftCommon.j3 kj23 false)) = some r := H
        have A86 := am A860
        clear A860
        by_cases c87 : t562 = true
        rotate_left
        ·replace c87 := Bool.eq_false_iff.mpr c87
         subst c87
         have H1 : (w_ShiftCommon.j3 kj23 false) = some r := by rw [if_neg (show ¬ (false = true) by decide)] at H; exact H
         clear H
         have H := H1
         clear H1
         have H' := am H
         clear H
         go_wp2_with (first | ((with_reducible refine gc (f := 12) rfl ?_); refine goesL_ (some 62) rfl rfl Try.func12 (by kernel_rfl) rfl #[] rfl (by (try simp only [pml]); first | done | rfl | (simp only [pdt]; rfl)) ?_; (with_reducible refine (w_awake.calls kj23  true _ A83.out).mono ?_); rintro e w117 ⟨rfl, hb⟩; refine ⟨_, rfl, ?_⟩; replace HO_529000 := am (Kd.R_below (by (with_reducible repeat (first | apply Kd.R_alloc | apply Kd.R_drewN | apply Kd.R_drew)); exact (Kd.R_mono (Kd.R_far (p := ⟨gb560, 1, none⟩) (Kd.R_far (p := ⟨gb560, 0, none⟩) (Kd.R_types HO_529000.out BK560.out (by decide)) (fun _ hk => hk.2) (.slice Ao79 t553.length co79)) (fun _ hk => hk.2) (.slice Ao81 t556.length co81)) (fun _ h_ => h_.1))) hb); replace HO_529001 := am (Kd.R_below (by (with_reducible repeat (first | apply Kd.R_alloc | apply Kd.R_drewN | apply Kd.R_drew)); exact (Kd.R_mono (Kd.R_far (p := ⟨gb560, 1, none⟩) (Kd.R_far (p := ⟨gb560, 0, none⟩) (Kd.R_types HO_529001.out BK560.out (by decide)) (fun _ hk => hk.2) (.slice Ao79 t553.length co79)) (fun _ hk => hk.2) (.slice Ao81 t556.length co81)) (fun _ h_ => h_.1))) hb); replace HO535 := am (Kd.R_below (by (with_reducible repeat (first | apply Kd.R_alloc | apply Kd.R_drewN | apply Kd.R_drew)); exact (Kd.R_mono (Kd.R_far (p := ⟨gb560, 1, none⟩) (Kd.R_far (p := ⟨gb560, 0, none⟩) (Kd.R_types HO535.out BK560.out (by decide)) (fun _ hk => hk.2) (.slice Ao79 t553.length co79)) (fun _ hk => hk.2) (.slice Ao81 t556.length co81)) (fun _ h_ => h_.1))) hb); replace HO538 := am (Kd.R_below (by (with_reducible repeat (first | apply Kd.R_alloc | apply Kd.R_drewN | apply Kd.R_drew)); exact (Kd.R_mono (Kd.R_far (p := ⟨gb560, 1, none⟩) (Kd.R_far (p := ⟨gb560, 0, none⟩) (Kd.R_types HO538.out BK560.out (by decide)) (fun _ hk => hk.2) (.slice Ao79 t553.length co79)) (fun _ hk => hk.2) (.slice Ao81 t556.length co81)) (fun _ h_ => h_.1))) hb); replace HO543 := am (Kd.V_below (by (with_reducible repeat (first | apply Kd.V_alloc | apply Kd.V_drewN | apply Kd.V_drew)); exact (Kd.V_mono (Kd.V_far (p := ⟨gb560, 1, none⟩) (Kd.V_far (p := ⟨gb560, 0, none⟩) (Kd.V_mono HO543.out (fun k_ hk => (⟨hk, hk.2.2.2.2.2.2.2.2.2.2⟩ : _ ∧ k_ ≠ gb560))) (fun _ hk => hk.2) (.slice Ao79 t553.length co79)) (fun _ hk => hk.2) (.slice Ao81 t556.length co81)) (fun _ h_ => h_.1))) hb); replace HO546 := am (Kd.V_below (by (with_reducible repeat (first | apply Kd.V_alloc | apply Kd.V_drewN | apply Kd.V_drew)); exact (Kd.V_mono (Kd.V_far (p := ⟨gb560, 1, none⟩) (Kd.V_far (p := ⟨gb560, 0, none⟩) (Kd.V_mono HO546.out (fun k_ hk => (⟨hk, hk.2.2.2.2.2.2.2.2.2.2⟩ : _ ∧ k_ ≠ gb560))) (fun _ hk => hk.2) (.slice Ao79 t553.length co79)) (fun _ hk => hk.2) (.slice Ao81 t556.length co81)) (fun _ h_ => h_.1))) hb); replace HO549 := am (Kd.V_below (by (with_reducible repeat (first | apply Kd.V_alloc | apply Kd.V_drewN | apply Kd.V_drew)); exact (Kd.V_mono (Kd.V_far (p := ⟨gb560, 1, none⟩) (Kd.V_far (p := ⟨gb560, 0, none⟩) (Kd.V_mono HO549.out (fun k_ hk => (⟨hk, hk.2.2.2.2.2.2.2.2.2.2⟩ : _ ∧ k_ ≠ gb560))) (fun _ hk => hk.2) (.slice Ao79 t553.length co79)) (fun _ hk => hk.2) (.slice Ao81 t556.length co81)) (fun _ h_ => h_.1))) hb); replace HO552 := am (Kd.V_below (by (with_reducible repeat (first | apply Kd.V_alloc | apply Kd.V_drewN | apply Kd.V_drew)); exact (Kd.V_mono (Kd.V_far (p := ⟨gb560, 1, none⟩) (Kd.V_far (p := ⟨gb560, 0, none⟩) (Kd.V_mono HO552.out (fun k_ hk => (⟨hk, hk.2.2.2.2.2.2.2.2.2.2⟩ : _ ∧ k_ ≠ gb560))) (fun _ hk => hk.2) (.slice Ao79 t553.length co79)) (fun _ hk => hk.2) (.slice Ao81 t556.length co81)) (fun _ h_ => h_.1))) hb); replace HO555 := am (Kd.R_below (by (with_reducible repeat (first | apply Kd.R_alloc | apply Kd.R_drewN | apply Kd.R_drew)); exact (Kd.R_mono (Kd.R_far (p := ⟨gb560, 1, none⟩) (Kd.R_far (p := ⟨gb560, 0, none⟩) (Kd.R_types HO555.out BK560.out (by decide)) (fun _ hk => hk.2) (.slice Ao79 t553.length co79)) (fun _ hk => hk.2) (.slice Ao81 t556.length co81)) (fun _ h_ => h_.1))) hb); replace HO558 := am (Kd.R_below (by (with_reducible repeat (first | apply Kd.R_alloc | apply Kd.R_drewN | apply Kd.R_drew)); exact (Kd.R_mono (Kd.R_far (p := ⟨gb560, 1, none⟩) (Kd.R_far (p := ⟨gb560, 0, none⟩) (Kd.R_types HO558.out BK560.out (by decide)) (fun _ hk => hk.2) (.slice Ao79 t553.length co79)) (fun _ hk => hk.2) (.slice Ao81 t556.length co81)) (fun _ h_ => h_.1))) hb); replace BK504 := xC1 (kfC BK504.out) hb; replace BK505 := xC1 (kfC BK505.out) hb; replace BK528 := xC1 (kfC BK528.out) hb; replace BK540 := xC1 (kfC BK540.out) hb; replace BK560 := xC1 (o := .cells #[.slice Ao79 t553.length co79, .slice Ao81 t556.length co81] 31 (0, 0)) (kkC BK560.out) hb; replace HB := bS HB hb; (try clear hb); (try clear hb2); (try clear hk); (try clear hi); have hnb118 := NB528_504.out; have hnc118 := NB504_528.out; have hnb119 := NB528_505.out; have hnc119 := NB505_528.out; have hnb120 := NB528_540.out; have hnc120 := NB540_528.out; have hnb121 := NB528_560.out; have hnc121 := NB560_528.out; obtain ⟨_, _, _, _⟩ := zC2 BK528; have hnb123 := NB540_504.out; have hnc123 := NB504_540.out; have hnb124 := NB540_505.out; have hnc124 := NB505_540.out; have hnb125 := NB540_560.out; have hnc125 := NB560_540.out; obtain ⟨_, _, _, _⟩ := zC2 BK540) | (go_at_call 33; (with_reducible refine (r_Same.calls kj23 _ _ t521 _ _ t524 _ _ t533 _ _ t536 false _ ?side1 ?side2 ?side3 ?side4 ?side5 ?side6 ?side7 ?side8 A86.out).mono ?_); (case side1 => repeat (first | exact (Kd.R_reads' HO_529000.out).2.2 | (with_reducible refine Kd.C_alloc ?_ _) | (with_reducible refine Kd.C_drewN ?_ _) | (with_reducible refine Kd.C_drew ?_))); (case side2 => exact (Kd.R_reads' HO_529000.out).2.1); (case side3 => repeat (first | exact (Kd.R_reads' HO_529001.out).2.2 | (with_reducible refine Kd.C_alloc ?_ _) | (with_reducible refine Kd.C_drewN ?_ _) | (with_reducible refine Kd.C_drew ?_))); (case side4 => exact (Kd.R_reads' HO_529001.out).2.1); (case side5 => repeat (first | exact (Kd.R_reads' HO535.out).2.2 | (with_reducible refine Kd.C_alloc ?_ _) | (with_reducible refine Kd.C_drewN ?_ _) | (with_reducible refine Kd.C_drew ?_))); (case side6 => exact (Kd.R_reads' HO535.out).2.1); (case side7 => repeat (first | exact (Kd.R_reads' HO538.out).2.2 | (with_reducible refine Kd.C_alloc ?_ _) | (with_reducible refine Kd.C_drewN ?_ _) | (with_reducible refine Kd.C_drew ?_))); (case side8 => exact (Kd.R_reads' HO538.out).2.1); rintro e w127 ⟨rfl, hb⟩; replace HO_529000 := dR HO_529000 hb; replace HO_529001 := dR HO_529001 hb; replace HO535 := dR HO535 hb; replace HO538 := dR HO538 hb; replace HO543 := dV HO543 hb; replace HO546 := dV HO546 hb; replace HO549 := dV HO549 hb; replace HO552 := dV HO552 hb; replace HO555 := dR HO555 hb; replace HO558 := dR HO558 hb; replace BK504 := bB BK504 hb; replace BK505 := bB BK505 hb; replace BK528 := bB BK528 hb; replace BK540 := bB BK540 hb; replace BK560 := bB BK560 hb; replace HB := bS HB hb; (try clear hb); (try clear hb2); (try clear hk); (try clear hi)))
         go_meet
         case rel => exact ⟨_, (false), sqD, H', ⟨by have := HJ2.out; have := HJ23.out; first | omega | exact Nat.le_refl _⟩, ⟨fR HO_529000.out⟩, ⟨fR HO_529001.out⟩, ⟨by (with_reducible repeat (first | apply Kd.R_alloc | apply Kd.R_drewN | apply Kd.R_drew)); exact Kd.R_mono HO535.out (fun _ hk => ⟨hk.2, hk.1⟩)⟩, ⟨by (with_reducible repeat (first | apply Kd.R_alloc | apply Kd.R_drewN | apply Kd.R_drew)); exact Kd.R_mono HO538.out (fun _ hk => ⟨hk.2, hk.1⟩)⟩, ⟨by (with_reducible repeat (first | apply Kd.R_alloc | apply Kd.R_drewN | apply Kd.R_drew)); exact Kd.R_mono HO555.out (fun _ hk => ⟨hk.2, hk.1⟩)⟩, ⟨by (with_reducible repeat (first | apply Kd.R_alloc | apply Kd.R_drewN | apply Kd.R_drew)); exact Kd.R_mono HO558.out (fun _ hk => ⟨hk.2, hk.1⟩)⟩, ⟨fb BK504.out⟩, ⟨fb BK505.out⟩, ⟨fb BK528.out⟩, ⟨fb BK540.out⟩, ⟨fb BK560.out⟩, ⟨fW HB.out⟩⟩
        subst c87
        have H1 : (if t559 = t539 then ((r_Same.f kj23 t553 t556 t533 t536).bind fun t563 => (w_ShiftCommon.j3 kj23 t563)) else (w_ShiftCommon.j3 kj23 false)) = some r := by rw [if_pos rfl] at H; exact H
        clear H
        have H := H1
        clear H1
        by_cases c88 : t559 = t539
        ·rw [if_pos c88] at H
         have c88b0 : (t559 == t539) = true := beq_iff_eq.mpr c88
         have c88b1 : (t559 != t539) = false := bne_eq_false_iff_eq.mpr c88
         clear c88
         replace H := Option.bind_eq_some_iff.mp H
         obtain ⟨t563, A890, H⟩ := H
         replace H : (w_ShiftCommon.j3 kj23 t563) = some r := H
         have A89 := am A890
         clear A890
         have H' := am H
         clear H
         go_wp2_with (first | ((with_reducible refine gc (f := 12) rfl ?_); refine goesL_ (some 62) rfl rfl Try.func12 (by kernel_rfl) rfl #[] rfl (by (try simp only [pml]); first | done | rfl | (simp only [pdt]; rfl)) ?_; (with_reducible refine (w_awake.calls kj23  true _ A83.out).mono ?_); rintro e w90 ⟨rfl, hb⟩; refine ⟨_, rfl, ?_⟩; replace HO_529000 := am (Kd.R_below (by (with_reducible repeat (first | apply Kd.R_alloc | apply Kd.R_drewN | apply Kd.R_drew)); exact (Kd.R_mono (Kd.R_far (p := ⟨gb560, 1, none⟩) (Kd.R_far (p := ⟨gb560, 0, none⟩) (Kd.R_types HO_529000.out BK560.out (by decide)) (fun _ hk => hk.2) (.slice Ao79 t553.length co79)) (fun _ hk => hk.2) (.slice Ao81 t556.length co81)) (fun _ h_ => h_.1))) hb); replace HO_529001 := am (Kd.R_below (by (with_reducible repeat (first | apply Kd.R_alloc | apply Kd.R_drewN | apply Kd.R_drew)); exact (Kd.R_mono (Kd.R_far (p := ⟨gb560, 1, none⟩) (Kd.R_far (p := ⟨gb560, 0, none⟩) (Kd.R_types HO_529001.out BK560.out (by decide)) (fun _ hk => hk.2) (.slice Ao79 t553.length co79)) (fun _ hk => hk.2) (.slice Ao81 t556.length co81)) (fun _ h_ => h_.1))) hb); replace HO535 := am (Kd.R_below (by (with_reducible repeat (first | apply Kd.R_alloc | apply Kd.R_drewN | apply Kd.R_drew)); exact (Kd.R_mono (Kd.R_far (p := ⟨gb560, 1, none⟩) (Kd.R_far (p := ⟨gb560, 0, none⟩) (Kd.R_types HO535.out BK560.out (by decide)) (fun _ hk => hk.2) (.slice Ao79 t553.length co79)) (fun _ hk => hk.2) (.slice Ao81 t556.length co81)) (fun _ h_ => h_.1))) hb); replace HO538 := am (Kd.R_below (by (with_reducible repeat (first | apply Kd.R_alloc | apply Kd.R_drewN | apply Kd.R_drew)); exact (Kd.R_mono (Kd.R_far (p := ⟨gb560, 1, none⟩) (Kd.R_far (p := ⟨gb560, 0, none⟩) (Kd.R_types HO538.out BK560.out (by decide)) (fun _ hk => hk.2) (.slice Ao79 t553.length co79)) (fun _ hk => hk.2) (.slice Ao81 t556.length co81)) (fun _ h_ => h_.1))) hb); replace HO543 := am (Kd.V_below (by (with_reducible repeat (first | apply Kd.V_alloc | apply Kd.V_drewN | apply Kd.V_drew)); exact (Kd.V_mono (Kd.V_far (p := ⟨gb560, 1, none⟩) (Kd.V_far (p := ⟨gb560, 0, none⟩) (Kd.V_mono HO543.out (fun k_ hk => (⟨hk, hk.2.2.2.2.2.2.2.2.2.2⟩ : _ ∧ k_ ≠ gb560))) (fun _ hk => hk.2) (.slice Ao79 t553.length co79)) (fun _ hk => hk.2) (.slice Ao81 t556.length co81)) (fun _ h_ => h_.1))) hb); replace HO546 := am (Kd.V_below (by (with_reducible repeat (first | apply Kd.V_alloc | apply Kd.V_drewN | apply Kd.V_drew)); exact (Kd.V_mono (Kd.V_far (p := ⟨gb560, 1, none⟩) (Kd.V_far (p := ⟨gb560, 0, none⟩) (Kd.V_mono HO546.out (fun k_ hk => (⟨hk, hk.2.2.2.2.2.2.2.2.2.2⟩ : _ ∧ k_ ≠ gb560))) (fun _ hk => hk.2) (.slice Ao79 t553.length co79)) (fun _ hk => hk.2) (.slice Ao81 t556.length co81)) (fun _ h_ => h_.1))) hb); replace HO549 := am (Kd.V_below (by (with_reducible repeat (first | apply Kd.V_alloc | apply Kd.V_drewN | apply Kd.V_drew)); exact (Kd.V_mono (Kd.V_far (p := ⟨gb560, 1, none⟩) (Kd.V_far (p := ⟨gb560, 0, none⟩) (Kd.V_mono HO549.out (fun k_ hk => (⟨hk, hk.2.2.2.2.2.2.2.2.2.2⟩ : _ ∧ k_ ≠ gb560))) (fun _ hk => hk.2) (.slice Ao79 t553.length co79)) (fun _ hk => hk.2) (.slice Ao81 t556.length co81)) (fun _ h_ => h_.1))) hb); replace HO552 := am (Kd.V_below (by (with_reducible repeat (first | apply Kd.V_alloc | apply Kd.V_drewN | apply Kd.V_drew)); exact (Kd.V_mono (Kd.V_far (p := ⟨gb560, 1, none⟩) (Kd.V_far (p := ⟨gb560, 0, none⟩) (Kd.V_mono HO552.out (fun k_ hk => (⟨hk, hk.2.2.2.2.2.2.2.2.2.2⟩ : _ ∧ k_ ≠ gb560))) (fun _ hk => hk.2) (.slice Ao79 t553.length co79)) (fun _ hk => hk.2) (.slice Ao81 t556.length co81)) (fun _ h_ => h_.1))) hb); replace HO555 := am (Kd.R_below (by (with_reducible repeat (first | apply Kd.R_alloc | apply Kd.R_drewN | apply Kd.R_drew)); exact (Kd.R_mono (Kd.R_far (p := ⟨gb560, 1, none⟩) (Kd.R_far (p := ⟨gb560, 0, none⟩) (Kd.R_types HO555.out BK560.out (by decide)) (fun _ hk => hk.2) (.slice Ao79 t553.length co79)) (fun _ hk => hk.2) (.slice Ao81 t556.length co81)) (fun _ h_ => h_.1))) hb); replace HO558 := am (Kd.R_below (by (with_reducible repeat (first | apply Kd.R_alloc | apply Kd.R_drewN | apply Kd.R_drew)); exact (Kd.R_mono (Kd.R_far (p := ⟨gb560, 1, none⟩) (Kd.R_far (p := ⟨gb560, 0, none⟩) (Kd.R_types HO558.out BK560.out (by decide)) (fun _ hk => hk.2) (.slice Ao79 t553.length co79)) (fun _ hk => hk.2) (.slice Ao81 t556.length co81)) (fun _ h_ => h_.1))) hb); replace BK504 := xC1 (kfC BK504.out) hb; replace BK505 := xC1 (kfC BK505.out) hb; replace BK528 := xC1 (kfC BK528.out) hb; replace BK540 := xC1 (kfC BK540.out) hb; replace BK560 := xC1 (o := .cells #[.slice Ao79 t553.length co79, .slice Ao81 t556.length co81] 31 (0, 0)) (kkC BK560.out) hb; replace HB := bS HB hb; (try clear hb); (try clear hb2); (try clear hk); (try clear hi); have hnb91 := NB528_504.out; have hnc91 := NB504_528.out; have hnb92 := NB528_505.out; have hnc92 := NB505_528.out; have hnb93 := NB528_540.out; have hnc93 := NB540_528.out; have hnb94 := NB528_560.out; have hnc94 := NB560_528.out; obtain ⟨_, _, _, _⟩ := zC2 BK528; have hnb96 := NB540_504.out; have hnc96 := NB504_540.out; have hnb97 := NB540_505.out; have hnc97 := NB505_540.out; have hnb98 := NB540_560.out; have hnc98 := NB560_540.out; obtain ⟨_, _, _, _⟩ := zC2 BK540) | (go_at_call 33; (with_reducible refine (r_Same.calls kj23 _ _ t521 _ _ t524 _ _ t533 _ _ t536 true _ ?side1 ?side2 ?side3 ?side4 ?side5 ?side6 ?side7 ?side8 A86.out).mono ?_); (case side1 => repeat (first | exact (Kd.R_reads' HO_529000.out).2.2 | (with_reducible refine Kd.C_alloc ?_ _) | (with_reducible refine Kd.C_drewN ?_ _) | (with_reducible refine Kd.C_drew ?_))); (case side2 => exact (Kd.R_reads' HO_529000.out).2.1); (case side3 => repeat (first | exact (Kd.R_reads' HO_529001.out).2.2 | (with_reducible refine Kd.C_alloc ?_ _) | (with_reducible refine Kd.C_drewN ?_ _) | (with_reducible refine Kd.C_drew ?_))); (case side4 => exact (Kd.R_reads' HO_529001.out).2.1); (case side5 => repeat (first | exact (Kd.R_reads' HO535.out).2.2 | (with_reducible refine Kd.C_alloc ?_ _) | (with_reducible refine Kd.C_drewN ?_ _) | (with_reducible refine Kd.C_drew ?_))); (case side6 => exact (Kd.R_reads' HO535.out).2.1); (case side7 => repeat (first | exact (Kd.R_reads' HO538.out).2.2 | (with_reducible refine Kd.C_alloc ?_ _) | (with_reducible refine Kd.C_drewN ?_ _) | (with_reducible refine Kd.C_drew ?_))); (case side8 => exact (Kd.R_reads' HO538.out).2.1); rintro e w100 ⟨rfl, hb⟩; replace HO_529000 := dR HO_529000 hb; replace HO_529001 := dR HO_529001 hb; replace HO535 := dR HO535 hb; replace HO538 := dR HO538 hb; replace HO543 := dV HO543 hb; replace HO546 := dV HO546 hb; replace HO549 := dV HO549 hb; replace HO552 := dV HO552 hb; replace HO555 := dR HO555 hb; replace HO558 := dR HO558 hb; replace BK504 := bB BK504 hb; replace BK505 := bB BK505 hb; replace BK528 := bB BK528 hb; replace BK540 := bB BK540 hb; replace BK560 := bB BK560 hb; replace HB := bS HB hb; (try clear hb); (try clear hb2); (try clear hk); (try clear hi); have hnb101 := NB560_504.out; have hnc101 := NB504_560.out; have hnb102 := NB560_505.out; have hnc102 := NB505_560.out; obtain ⟨_, _, _, _⟩ := zC2 BK560; obtain ⟨_, _, _, _⟩ := zC2 BK540) | (go_at_call 33; (with_reducible refine (r_Same.calls kj23 _ _ t553 _ _ t556 _ _ t533 _ _ t536 t563 _ ?side1 ?side2 ?side3 ?side4 ?side5 ?side6 ?side7 ?side8 A89.out).mono ?_); (case side1 => repeat (first | exact (Kd.R_reads' HO555.out).2.2 | (with_reducible refine Kd.C_alloc ?_ _) | (with_reducible refine Kd.C_drewN ?_ _) | (with_reducible refine Kd.C_drew ?_))); (case side2 => exact (Kd.R_reads' HO555.out).2.1); (case side3 => repeat (first | exact (Kd.R_reads' HO558.out).2.2 | (with_reducible refine Kd.C_alloc ?_ _) | (with_reducible refine Kd.C_drewN ?_ _) | (with_reducible refine Kd.C_drew ?_))); (case side4 => exact (Kd.R_reads' HO558.out).2.1); (case side5 => repeat (first | exact (Kd.R_reads' HO535.out).2.2 | (with_reducible refine Kd.C_alloc ?_ _) | (with_reducible refine Kd.C_drewN ?_ _) | (with_reducible refine Kd.C_drew ?_))); (case side6 => exact (Kd.R_reads' HO535.out).2.1); (case side7 => repeat (first | exact (Kd.R_reads' HO538.out).2.2 | (with_reducible refine Kd.C_alloc ?_ _) | (with_reducible refine Kd.C_drewN ?_ _) | (with_reducible refine Kd.C_drew ?_))); (case side8 => exact (Kd.R_reads' HO538.out).2.1); rintro e w105 ⟨rfl, hb⟩; replace HO_529000 := dR HO_529000 hb; replace HO_529001 := dR HO_529001 hb; replace HO535 := dR HO535 hb; replace HO538 := dR HO538 hb; replace HO543 := dV HO543 hb; replace HO546 := dV HO546 hb; replace HO549 := dV HO549 hb; replace HO552 := dV HO552 hb; replace HO555 := dR HO555 hb; replace HO558 := dR HO558 hb; replace BK504 := bB BK504 hb; replace BK505 := bB BK505 hb; replace BK528 := bB BK528 hb; replace BK540 := bB BK540 hb; replace BK560 := bB BK560 hb; replace HB := bS HB hb; (try clear hb); (try clear hb2); (try clear hk); (try clear hi)))
         go_meet
         case rel => exact ⟨_, (t563), sqD, H', ⟨by have := HJ2.out; have := HJ23.out; first | omega | exact Nat.le_refl _⟩, ⟨fR HO_529000.out⟩, ⟨fR HO_529001.out⟩, ⟨by (with_reducible repeat (first | apply Kd.R_alloc | apply Kd.R_drewN | apply Kd.R_drew)); exact Kd.R_mono HO535.out (fun _ hk => ⟨hk.2, hk.1⟩)⟩, ⟨by (with_reducible repeat (first | apply Kd.R_alloc | apply Kd.R_drewN | apply Kd.R_drew)); exact Kd.R_mono HO538.out (fun _ hk => ⟨hk.2, hk.1⟩)⟩, ⟨by (with_reducible repeat (first | apply Kd.R_alloc | apply Kd.R_drewN | apply Kd.R_drew)); exact Kd.R_mono HO555.out (fun _ hk => ⟨hk.2, hk.1⟩)⟩, ⟨by (with_reducible repeat (first | apply Kd.R_alloc | apply Kd.R_drewN | apply Kd.R_drew)); exact Kd.R_mono HO558.out (fun _ hk => ⟨hk.2, hk.1⟩)⟩, ⟨fb BK504.out⟩, ⟨fb BK505.out⟩, ⟨fb BK528.out⟩, ⟨fb BK540.out⟩, ⟨fb BK560.out⟩, ⟨fW HB.out⟩⟩
        rw [if_neg c88] at H
        have c88b0 : (t559 == t539) = false := beq_eq_false_iff_ne.mpr c88
        have c88b1 : (t559 != t539) = true := bne_iff_ne.mpr c88
        have H' := am H
        clear H
        go_wp2_with (first | ((with_reducible refine gc (f := 12) rfl ?_); refine goesL_ (some 62) rfl rfl Try.func12 (by kernel_rfl) rfl #[] rfl (by (try simp only [pml]); first | done | rfl | (simp only [pdt]; rfl)) ?_; (with_reducible refine (w_awake.calls kj23  true _ A83.out).mono ?_); rintro e w106 ⟨rfl, hb⟩; refine ⟨_, rfl, ?_⟩; replace HO_529000 := am (Kd.R_below (by (with_reducible repeat (first | apply Kd.R_alloc | apply Kd.R_drewN | apply Kd.R_drew)); exact (Kd.R_mono (Kd.R_far (p := ⟨gb560, 1, none⟩) (Kd.R_far (p := ⟨gb560, 0, none⟩) (Kd.R_types HO_529000.out BK560.out (by decide)) (fun _ hk => hk.2) (.slice Ao79 t553.length co79)) (fun _ hk => hk.2) (.slice Ao81 t556.length co81)) (fun _ h_ => h_.1))) hb); replace HO_529001 := am (Kd.R_below (by (with_reducible repeat (first | apply Kd.R_alloc | apply Kd.R_drewN | apply Kd.R_drew)); exact (Kd.R_mono (Kd.R_far (p := ⟨gb560, 1, none⟩) (Kd.R_far (p := ⟨gb560, 0, none⟩) (Kd.R_types HO_529001.out BK560.out (by decide)) (fun _ hk => hk.2) (.slice Ao79 t553.length co79)) (fun _ hk => hk.2) (.slice Ao81 t556.length co81)) (fun _ h_ => h_.1))) hb); replace HO535 := am (Kd.R_below (by (with_reducible repeat (first | apply Kd.R_alloc | apply Kd.R_drewN | apply Kd.R_drew)); exact (Kd.R_mono (Kd.R_far (p := ⟨gb560, 1, none⟩) (Kd.R_far (p := ⟨gb560, 0, none⟩) (Kd.R_types HO535.out BK560.out (by decide)) (fun _ hk => hk.2) (.slice Ao79 t553.length co79)) (fun _ hk => hk.2) (.slice Ao81 t556.length co81)) (fun _ h_ => h_.1))) hb); replace HO538 := am (Kd.R_below (by (with_reducible repeat (first | apply Kd.R_alloc | apply Kd.R_drewN | apply Kd.R_drew)); exact (Kd.R_mono (Kd.R_far (p := ⟨gb560, 1, none⟩) (Kd.R_far (p := ⟨gb560, 0, none⟩) (Kd.R_types HO538.out BK560.out (by decide)) (fun _ hk => hk.2) (.slice Ao79 t553.length co79)) (fun _ hk => hk.2) (.slice Ao81 t556.length co81)) (fun _ h_ => h_.1))) hb); replace HO543 := am (Kd.V_below (by (with_reducible repeat (first | apply Kd.V_alloc | apply Kd.V_drewN | apply Kd.V_drew)); exact (Kd.V_mono (Kd.V_far (p := ⟨gb560, 1, none⟩) (Kd.V_far (p := ⟨gb560, 0, none⟩) (Kd.V_mono HO543.out (fun k_ hk => (⟨hk, hk.2.2.2.2.2.2.2.2.2.2⟩ : _ ∧ k_ ≠ gb560))) (fun _ hk => hk.2) (.slice Ao79 t553.length co79)) (fun _ hk => hk.2) (.slice Ao81 t556.length co81)) (fun _ h_ => h_.1))) hb); replace HO546 := am (Kd.V_below (by (with_reducible repeat (first | apply Kd.V_alloc | apply Kd.V_drewN | apply Kd.V_drew)); exact (Kd.V_mono (Kd.V_far (p := ⟨gb560, 1, none⟩) (Kd.V_far (p := ⟨gb560, 0, none⟩) (Kd.V_mono HO546.out (fun k_ hk => (⟨hk, hk.2.2.2.2.2.2.2.2.2.2⟩ : _ ∧ k_ ≠ gb560))) (fun _ hk => hk.2) (.slice Ao79 t553.length co79)) (fun _ hk => hk.2) (.slice Ao81 t556.length co81)) (fun _ h_ => h_.1))) hb); replace HO549 := am (Kd.V_below (by (with_reducible repeat (first | apply Kd.V_alloc | apply Kd.V_drewN | apply Kd.V_drew)); exact (Kd.V_mono (Kd.V_far (p := ⟨gb560, 1, none⟩) (Kd.V_far (p := ⟨gb560, 0, none⟩) (Kd.V_mono HO549.out (fun k_ hk => (⟨hk, hk.2.2.2.2.2.2.2.2.2.2⟩ : _ ∧ k_ ≠ gb560))) (fun _ hk => hk.2) (.slice Ao79 t553.length co79)) (fun _ hk => hk.2) (.slice Ao81 t556.length co81)) (fun _ h_ => h_.1))) hb); replace HO552 := am (Kd.V_below (by (with_reducible repeat (first | apply Kd.V_alloc | apply Kd.V_drewN | apply Kd.V_drew)); exact (Kd.V_mono (Kd.V_far (p := ⟨gb560, 1, none⟩) (Kd.V_far (p := ⟨gb560, 0, none⟩) (Kd.V_mono HO552.out (fun k_ hk => (⟨hk, hk.2.2.2.2.2.2.2.2.2.2⟩ : _ ∧ k_ ≠ gb560))) (fun _ hk => hk.2) (.slice Ao79 t553.length co79)) (fun _ hk => hk.2) (.slice Ao81 t556.length co81)) (fun _ h_ => h_.1))) hb); replace HO555 := am (Kd.R_below (by (with_reducible repeat (first | apply Kd.R_alloc | apply Kd.R_drewN | apply Kd.R_drew)); exact (Kd.R_mono (Kd.R_far (p := ⟨gb560, 1, none⟩) (Kd.R_far (p := ⟨gb560, 0, none⟩) (Kd.R_types HO555.out BK560.out (by decide)) (fun _ hk => hk.2) (.slice Ao79 t553.length co79)) (fun _ hk => hk.2) (.slice Ao81 t556.length co81)) (fun _ h_ => h_.1))) hb); replace HO558 := am (Kd.R_below (by (with_reducible repeat (first | apply Kd.R_alloc | apply Kd.R_drewN | apply Kd.R_drew)); exact (Kd.R_mono (Kd.R_far (p := ⟨gb560, 1, none⟩) (Kd.R_far (p := ⟨gb560, 0, none⟩) (Kd.R_types HO558.out BK560.out (by decide)) (fun _ hk => hk.2) (.slice Ao79 t553.length co79)) (fun _ hk => hk.2) (.slice Ao81 t556.length co81)) (fun _ h_ => h_.1))) hb); replace BK504 := xC1 (kfC BK504.out) hb; replace BK505 := xC1 (kfC BK505.out) hb; replace BK528 := xC1 (kfC BK528.out) hb; replace BK540 := xC1 (kfC BK540.out) hb; replace BK560 := xC1 (o := .cells #[.slice Ao79 t553.length co79, .slice Ao81 t556.length co81] 31 (0, 0)) (kkC BK560.out) hb; replace HB := bS HB hb; (try clear hb); (try clear hb2); (try clear hk); (try clear hi); have hnb107 := NB528_504.out; have hnc107 := NB504_528.out; have hnb108 := NB528_505.out; have hnc108 := NB505_528.out; have hnb109 := NB528_540.out; have hnc109 := NB540_528.out; have hnb110 := NB528_560.out; have hnc110 := NB560_528.out; obtain ⟨_, _, _, _⟩ := zC2 BK528; have hnb112 := NB540_504.out; have hnc112 := NB504_540.out; have hnb113 := NB540_505.out; have hnc113 := NB505_540.out; have hnb114 := NB540_560.out; have hnc114 := NB560_540.out; obtain ⟨_, _, _, _⟩ := zC2 BK540) | (go_at_call 33; (with_reducible refine (r_Same.calls kj23 _ _ t521 _ _ t524 _ _ t533 _ _ t536 true _ ?side1 ?side2 ?side3 ?side4 ?side5 ?side6 ?side7 ?side8 A86.out).mono ?_); (case side1 => repeat (first | exact (Kd.R_reads' HO_529000.out).2.2 | (with_reducible refine Kd.C_alloc ?_ _) | (with_reducible refine Kd.C_drewN ?_ _) | (with_reducible refine Kd.C_drew ?_))); (case side2 => exact (Kd.R_reads' HO_529000.out).2.1); (case side3 => repeat (first | exact (Kd.R_reads' HO_529001.out).2.2 | (with_reducible refine Kd.C_alloc ?_ _) | (with_reducible refine Kd.C_drewN ?_ _) | (with_reducible refine Kd.C_drew ?_))); (case side4 => exact (Kd.R_reads' HO_529001.out).2.1); (case side5 => repeat (first | exact (Kd.R_reads' HO535.out).2.2 | (with_reducible refine Kd.C_alloc ?_ _) | (with_reducible refine Kd.C_drewN ?_ _) | (with_reducible refine Kd.C_drew ?_))); (case side6 => exact (Kd.R_reads' HO535.out).2.1); (case side7 => repeat (first | exact (Kd.R_reads' HO538.out).2.2 | (with_reducible refine Kd.C_alloc ?_ _) | (with_reducible refine Kd.C_drewN ?_ _) | (with_reducible refine Kd.C_drew ?_))); (case side8 => exact (Kd.R_reads' HO538.out).2.1); rintro e w116 ⟨rfl, hb⟩; replace HO_529000 := dR HO_529000 hb; replace HO_529001 := dR HO_529001 hb; replace HO535 := dR HO535 hb; replace HO538 := dR HO538 hb; replace HO543 := dV HO543 hb; replace HO546 := dV HO546 hb; replace HO549 := dV HO549 hb; replace HO552 := dV HO552 hb; replace HO555 := dR HO555 hb; replace HO558 := dR HO558 hb; replace BK504 := bB BK504 hb; replace BK505 := bB BK505 hb; replace BK528 := bB BK528 hb; replace BK540 := bB BK540 hb; replace BK560 := bB BK560 hb; replace HB := bS HB hb; (try clear hb); (try clear hb2); (try clear hk); (try clear hi)))
        go_meet
        case rel => exact ⟨_, (false), sqD, H', ⟨by have := HJ2.out; have := HJ23.out; first | omega | exact Nat.le_refl _⟩, ⟨fR HO_529000.out⟩, ⟨fR HO_529001.out⟩, ⟨by (with_reducible repeat (first | apply Kd.R_alloc | apply Kd.R_drewN | apply Kd.R_drew)); exact Kd.R_mono HO535.out (fun _ hk => ⟨hk.2, hk.1⟩)⟩, ⟨by (with_reducible repeat (first | apply Kd.R_alloc | apply Kd.R_drewN | apply Kd.R_drew)); exact Kd.R_mono HO538.out (fun _ hk => ⟨hk.2, hk.1⟩)⟩, ⟨by (with_reducible repeat (first | apply Kd.R_alloc | apply Kd.R_drewN | apply Kd.R_drew)); exact Kd.R_mono HO555.out (fun _ hk => ⟨hk.2, hk.1⟩)⟩, ⟨by (with_reducible repeat (first | apply Kd.R_alloc | apply Kd.R_drewN | apply Kd.R_drew)); exact Kd.R_mono HO558.out (fun _ hk => ⟨hk.2, hk.1⟩)⟩, ⟨fb BK504.out⟩, ⟨fb BK505.out⟩, ⟨fb BK528.out⟩, ⟨fb BK540.out⟩, ⟨fb BK560.out⟩, ⟨fW HB.out⟩⟩
       case rest =>
        clear HC54
        try clear c1;try clear p2;try clear c3;try clear c8;try clear c9;try clear c10;try clear c11;try clear c12;try clear c14;try clear c32;try clear c84;try clear c85;try clear c85b0;try clear c85b1;try clear c87;try clear c88;try clear c88b0;try clear c88b1;try clear c91;try clear c92;try clear c93;try clear c94;try clear c96;try clear c97;try clear c98;try clear c101;try clear c102;try clear c107;try clear c108;try clear c109;try clear c110;try clear c112;try clear c113;try clear c114;try clear c118;try clear c119;try clear c120;try clear c121;try clear c123;try clear c124;try clear c125
        obtain ⟨kq, x4_53, rfl, HA, HJ53, HO_529000, HO_529001, HO_541000, HO_541001, HO_561000, HO_561001, BK504, BK505, BK528, BK540, BK560, HB⟩ := hcut
        cases kq with
        | zero => exact absurd HA.out (by simp [w_ShiftCommon.j3])
        | succ kj53 =>
         have H := HA.out
         clear HA
         simp only [w_ShiftCommon.j3] at H
         obtain rfl := Option.some.inj H
         go_wp2
         go_ret
         exact ⟨sqE, fW HB.out⟩
      ·rw [if_neg c49] at H
       have c49b0 : (x7_23 == 0) = false := beq_eq_false_iff_ne.mpr c49
       have c49b1 : (x7_23 != 0) = true := bne_iff_ne.mpr c49
       have HC130 := am H
       clear H
       go_upto_region 8 with (fail)
       go_cut [4] (fun v4 wc => ∃ (kq : Nat) (x4_129 : Bool), v4 = .bool x4_129 ∧ Aside0 (w_ShiftCommon.j2 kq x4_129 = some r) ∧ Aside0 (kq ≤ kj23) ∧ Aside0 (Kd.R k54 54 wc w.heap.size (fun _ => True) (.slice Ao35 t521.length co35) t521) ∧ Aside0 (Kd.R (Kd.int .i64) 3 wc w.heap.size (fun _ => True) (.slice Ao37 t524.length co37) t524) ∧ Aside0 (wc.heap[gb504]? = some (.cells #[(.slice A0_0 l0_0.length c0_0), (.slice A0_1 l0_1.length c0_1)] 25 (0, 0))) ∧ Aside0 (wc.heap[gb505]? = some (.cells #[(.slice A1_0 l1_0.length c1_0), (.slice A1_1 l1_1.length c1_1)] 25 (0, 0))) ∧ Aside0 (wc.heap[gb528]? = some (.cells #[(.slice Ao35 t521.length co35), (.slice Ao37 t524.length co37)] 31 (0, 0))) ∧ Aside0 (Below w.heap.size w wc))
       case first =>
        have H := HC130.out
        clear HC130
        replace H := Option.bind_eq_some_iff.mp H
        obtain ⟨t531, A1310, H⟩ := H
        replace H : (if t531 = true then (if t527 = x7_23 then ((r_Same.f kj23 t521 t524 ([] : List (S54)) ([] : List Int)).bind fun t532 => (w_ShiftCommon.j2 kj23 t532)) else (w_ShiftCommon.j2 kj23 false)) else (w_ShiftCommon.j2 kj23 false)) = some r := H
        have A131 := am A1310
        clear A1310
        by_cases c132 : t531 = true
        rotate_left
        ·replace c132 := Bool.eq_false_iff.mpr c132
         subst c132
         have H1 : (w_ShiftCommon.j2 kj23 false) = some r := by rw [if_neg (show ¬ (false = true) by decide)] at H; exact H
         clear H
         have H := H1
         clear H1
         have H' := am H
         clear H
         go_wp2_with (first | ((with_reducible refine gc (f := 12) rfl ?_); refine goesL_ (some 37) rfl rfl Try.func12 (by kernel_rfl) rfl #[] rfl (by (try simp only [pml]); first | done | rfl | (simp only [pdt]; rfl)) ?_; (with_reducible refine (w_awake.calls kj23  false _ A131.out).mono ?_); rintro e w141 ⟨rfl, hb⟩; refine ⟨_, rfl, ?_⟩; replace HO_529000 := dR HO_529000 hb; replace HO_529001 := dR HO_529001 hb; replace BK504 := bB BK504 hb; replace BK505 := bB BK505 hb; replace BK528 := bB BK528 hb; replace HB := bS HB hb; (try clear hb); (try clear hb2); (try clear hk); (try clear hi)))
         go_meet
         case rel => exact ⟨_, (false), sqD, H', ⟨by have := HJ2.out; have := HJ23.out; first | omega | exact Nat.le_refl _⟩, ⟨fR HO_529000.out⟩, ⟨fR HO_529001.out⟩, ⟨fb BK504.out⟩, ⟨fb BK505.out⟩, ⟨fb BK528.out⟩, ⟨fW HB.out⟩⟩
        subst c132
        have H1 : (if t527 = x7_23 then ((r_Same.f kj23 t521 t524 ([] : List (S54)) ([] : List Int)).bind fun t532 => (w_ShiftCommon.j2 kj23 t532)) else (w_ShiftCommon.j2 kj23 false)) = some r := by rw [if_pos rfl] at H; exact H
        clear H
        have H := H1
        clear H1
        by_cases c133 : t527 = x7_23
        ·rw [if_pos c133] at H
         have c133b0 : (t527 == x7_23) = true := beq_iff_eq.mpr c133
         have c133b1 : (t527 != x7_23) = false := bne_eq_false_iff_eq.mpr c133
         clear c133
         (first | rw [c133b0] | (simp only [i64_w, i32_w]; rw [c133b0]) | skip)
         replace H := Option.bind_eq_some_iff.mp H
         obtain ⟨t532, A1340, H⟩ := H
         replace H : (w_ShiftCommon.j2 kj23 t532) = some r := H
         have A134 := am A1340
         clear A1340
         have H' := am H
         clear H
         go_wp2_with (first | ((with_reducible refine gc (f := 12) rfl ?_); refine goesL_ (some 37) rfl rfl Try.func12 (by kernel_rfl) rfl #[] rfl (by (try simp only [pml]); first | done | rfl | (simp only [pdt]; rfl)) ?_; (with_reducible refine (w_awake.calls kj23  true _ A131.out).mono ?_); rintro e w135 ⟨rfl, hb⟩; refine ⟨_, rfl, ?_⟩; replace HO_529000 := dR HO_529000 hb; replace HO_529001 := dR HO_529001 hb; replace BK504 := bB BK504 hb; replace BK505 := bB BK505 hb; replace BK528 := bB BK528 hb; replace HB := bS HB hb; (try clear hb); (try clear hb2); (try clear hk); (try clear hi); have hnb136 := NB528_504.out; have hnc136 := NB504_528.out; have hnb137 := NB528_505.out; have hnc137 := NB505_528.out; obtain ⟨_, _, _, _⟩ := zC2 BK528) | (go_at_call 33; (refine (r_Same.calls kj23 _ _ t521 _ _ t524 _ _ ([] : List (S54)) _ _ ([] : List Int) t532 _ ?side1 ?side2 ?side3 ?side4 ?side5 ?side6 ?side7 ?side8 A134.out).mono ?_); (case side1 => repeat (first | exact (Kd.R_reads' HO_529000.out).2.2 | (with_reducible refine Kd.C_alloc ?_ _) | (with_reducible refine Kd.C_drewN ?_ _) | (with_reducible refine Kd.C_drew ?_))); (case side2 => exact (Kd.R_reads' HO_529000.out).2.1); (case side3 => repeat (first | exact (Kd.R_reads' HO_529001.out).2.2 | (with_reducible refine Kd.C_alloc ?_ _) | (with_reducible refine Kd.C_drewN ?_ _) | (with_reducible refine Kd.C_drew ?_))); (case side4 => exact (Kd.R_reads' HO_529001.out).2.1); (case side5 => exact Kd.C_nil _ _); (case side6 => exact Nat.le_refl _); (case side7 => exact Kd.C_nil _ _); (case side8 => exact Nat.le_refl _); rintro e w139 ⟨rfl, hb⟩; replace HO_529000 := dR HO_529000 hb; replace HO_529001 := dR HO_529001 hb; replace BK504 := bB BK504 hb; replace BK505 := bB BK505 hb; replace BK528 := bB BK528 hb; replace HB := bS HB hb; (try clear hb); (try clear hb2); (try clear hk); (try clear hi)))
         go_meet
         case rel => exact ⟨_, (t532), sqD, H', ⟨by have := HJ2.out; have := HJ23.out; first | omega | exact Nat.le_refl _⟩, ⟨fR HO_529000.out⟩, ⟨fR HO_529001.out⟩, ⟨fb BK504.out⟩, ⟨fb BK505.out⟩, ⟨fb BK528.out⟩, ⟨fW HB.out⟩⟩
        rw [if_neg c133] at H
        have c133b0 : (t527 == x7_23) = false := beq_eq_false_iff_ne.mpr c133
        have c133b1 : (t527 != x7_23) = true := bne_iff_ne.mpr c133
        (first | rw [c133b0] | (simp only [i64_w, i32_w]; rw [c133b0]) | skip)
        have H' := am H
        clear H
        go_wp2_with (first | ((with_reducible refine gc (f := 12) rfl ?_); refine goesL_ (some 37) rfl rfl Try.func12 (by kernel_rfl) rfl #[] rfl (by (try simp only [pml]); first | done | rfl | (simp only [pdt]; rfl)) ?_; (with_reducible refine (w_awake.calls kj23  true _ A131.out).mono ?_); rintro e w140 ⟨rfl, hb⟩; refine ⟨_, rfl, ?_⟩; replace HO_529000 := dR HO_529000 hb; replace HO_529001 := dR HO_529001 hb; replace BK504 := bB BK504 hb; replace BK505 := bB BK505 hb; replace BK528 := bB BK528 hb; replace HB := bS HB hb; (try clear hb); (try clear hb2); (try clear hk); (try clear hi)))
        go_meet
        case rel => exact ⟨_, (false), sqD, H', ⟨by have := HJ2.out; have := HJ23.out; first | omega | exact Nat.le_refl _⟩, ⟨fR HO_529000.out⟩, ⟨fR HO_529001.out⟩, ⟨fb BK504.out⟩, ⟨fb BK505.out⟩, ⟨fb BK528.out⟩, ⟨fW HB.out⟩⟩
       case rest =>
        clear HC130
        try clear c1;try clear p2;try clear c3;try clear c4;try clear c8;try clear c9;try clear c10;try clear c11;try clear c12;try clear c13;try clear c14;try clear c32;try clear c49;try clear c49b0;try clear c49b1;try clear c84;try clear c85;try clear c85b0;try clear c85b1;try clear c87;try clear c88;try clear c88b0;try clear c88b1;try clear c91;try clear c92;try clear c93;try clear c94;try clear c96;try clear c97;try clear c98;try clear c101;try clear c102;try clear c107;try clear c108;try clear c109;try clear c110;try clear c112;try clear c113;try clear c114;try clear c118;try clear c119;try clear c120;try clear c121;try clear c123;try clear c124;try clear c125;try clear c132;try clear c133;try clear c133b0;try clear c133b1;try clear c136;try clear c137;try clear p2
        obtain ⟨kq, x4_129, rfl, HA, HJ129, HO_529000, HO_529001, BK504, BK505, BK528, HB⟩ := hcut
        cases kq with
        | zero => exact absurd HA.out (by simp [w_ShiftCommon.j2])
        | succ kj129 =>
         have H := HA.out
         clear HA
         simp only [w_ShiftCommon.j2] at H
         obtain rfl := Option.some.inj H
         go_wp2
         go_ret
         exact ⟨sqE, fW HB.out⟩

def w_ShiftCommon.Pure : Prop := ∀ (l0_0 : List (S54)) (l0_1 : List Int) (l1_0 : List (S54)) (l1_1 : List Int), (l0_0.length ≤ maxLen ∧ ∀ e13_, e13_ ∈ l0_0 → okS54 e13_) → (l0_1.length ≤ maxLen ∧ ∀ e14_, e14_ ∈ l0_1 → (Lit.int .i64 e14_).wf = true) → (l1_0.length ≤ maxLen ∧ ∀ e15_, e15_ ∈ l1_0 → okS54 e15_) → (l1_1.length ≤ maxLen ∧ ∀ e16_, e16_ ∈ l1_1 → (Lit.int .i64 e16_).wf = true) → ∃ k, w_ShiftCommon.f k l0_0 l0_1 l1_0 l1_1 = some true
theorem w_ShiftCommon.walk (P_ : w_ShiftCommon.Pure) (A0_0 : Option Addr) (c0_0 : Nat) (l0_0 : List (S54)) (A0_1 : Option Addr) (c0_1 : Nat) (l0_1 : List Int) (A1_0 : Option Addr) (c1_0 : Nat) (l1_0 : List (S54)) (A1_1 : Option Addr) (c1_1 : Nat) (l1_1 : List Int) (w : World) (hr0_0 : Kd.C k54 w A0_0 l0_0.length l0_0) (hc0_0 : l0_0.length ≤ c0_0) (hr0_1 : Kd.C (Kd.int .i64) w A0_1 l0_1.length l0_1) (hc0_1 : l0_1.length ≤ c0_1) (hr1_0 : Kd.C k54 w A1_0 l1_0.length l1_0) (hc1_0 : l1_0.length ≤ c1_0) (hr1_1 : Kd.C (Kd.int .i64) w A1_1 l1_1.length l1_1) (hc1_1 : l1_1.length ≤ c1_1) (o0 : (l0_0.length ≤ maxLen ∧ ∀ e13_, e13_ ∈ l0_0 → okS54 e13_)) (o1 : (l0_1.length ≤ maxLen ∧ ∀ e14_, e14_ ∈ l0_1 → (Lit.int .i64 e14_).wf = true)) (o2 : (l1_0.length ≤ maxLen ∧ ∀ e15_, e15_ ∈ l1_0 → okS54 e15_)) (o3 : (l1_1.length ≤ maxLen ∧ ∀ e16_, e16_ ∈ l1_1 → (Lit.int .i64 e16_).wf = true)) :
  Calls Try.prog 9 #[.agg #[.slice A0_0 l0_0.length c0_0, .slice A0_1 l0_1.length c0_1], .agg #[.slice A1_0 l1_0.length c1_0, .slice A1_1 l1_1.length c1_1]] w fun e w' => e = .returned (.bool true) ∧ Below w.heap.size w w' := by
 obtain ⟨k, h⟩ := P_ l0_0 l0_1 l1_0 l1_1 o0 o1 o2 o3
 refine (w_ShiftCommon.calls k A0_0 c0_0 l0_0 A0_1 c0_1 l0_1 A1_0 c1_0 l1_0 A1_1 c1_1 l1_1 true w hr0_0 hc0_0 hr0_1 hc0_1 hr1_0 hc1_0 hr1_1 hc1_1 h).mono ?_
 rintro e w' ⟨rfl, hd⟩
 exact ⟨rfl, hd⟩

end Go.Proofs.Ytpjgmlnnhcnelaa.QA
