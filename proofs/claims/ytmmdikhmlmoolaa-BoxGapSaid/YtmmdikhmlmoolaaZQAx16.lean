import Derived.Test.YtmmdikhmlmoolaaZQAx0
import Derived.Test.YtmmdikhmlmoolaaZQAx8
import Derived.Test.YtmmdikhmlmoolaaZQAx13
import Derived.Test.YtmmdikhmlmoolaaZQAx15
namespace Go.Proofs.Ytmmdikhmlmoolaa.QA
open Go.RowKit Go.Proofs.YtmmdikhmlmoolaaW.PrintWords Go.Proofs.YtmmdikhmlmoolaaW.PrintLast Go.Proofs.YtmmdikhmlmoolaaW.PrintMore
open Go.Proofs.YtmmdikhmlmoolaaW.PrintWords renaming blk_drewN → bN, blk_drew → bd, blk_alloc → ba, below_alloc → wa, pw_below_drewN → wN, below_drew1 → wd, below_set → ws, blk_frozen → bf, blk_cell → bc, gate_dst → gd, gate_callee → gc, box_event → be
open Aside0 renaming mk → am
open World renaming block_lt_of_cell? → bq
attribute [local go_sem] max2_int min2_int max_two min_two max_three min_three max_four min_four
set_option linter.unusedVariables false
set_option linter.unusedSimpArgs false

mutual
def w_BoxGap.l0 : Nat → List (S25) → Int → Bool → Int → Int → Int → Int → Int → Int → Int → Int → Int → Int → Int → Int → Int → Option (Bool)
 | 0, _, _, _, _, _, _, _, _, _, _, _, _, _, _, _, _ => none
 | k + 1, x1, x8, x11, x12, x374000, x374001, x374002, x374003, x374004, x374005, x375000, x375001, x375002, x381000, x381001, x381002 => if x12 < (x1.length : Int) then (if x8 = 0 then (if 0 ≤ x12 then ((box_Has.f k ((rd_T25 x1 x12).f0.f0) ((rd_T25 x1 x12).f0.f1) ((rd_T25 x1 x12).f0.f2) ((rd_T25 x1 x12).f1.f0) ((rd_T25 x1 x12).f1.f1) ((rd_T25 x1 x12).f1.f2) x381000 x381001 x381002).bind fun t387 => (if t387 = true then (some false) else (if x11 = true then ((box_Has.f k ((rd_T25 x1 x12).f0.f0) ((rd_T25 x1 x12).f0.f1) ((rd_T25 x1 x12).f0.f2) ((rd_T25 x1 x12).f1.f0) ((rd_T25 x1 x12).f1.f1) ((rd_T25 x1 x12).f1.f2) x375000 x375001 x375002).bind fun t389 => (w_BoxGap.j1 k x1 x8 (!t389) x12 x374000 x374001 x374002 x374003 x374004 x374005 x375000 x375001 x375002 x381000 x381001 x381002)) else (w_BoxGap.j1 k x1 x8 false x12 x374000 x374001 x374002 x374003 x374004 x374005 x375000 x375001 x375002 x381000 x381001 x381002)))) else (none)) else (if x11 = true then (if 0 ≤ x12 then ((box_Has.f k ((rd_T25 x1 x12).f0.f0) ((rd_T25 x1 x12).f0.f1) ((rd_T25 x1 x12).f0.f2) ((rd_T25 x1 x12).f1.f0) ((rd_T25 x1 x12).f1.f1) ((rd_T25 x1 x12).f1.f2) x375000 x375001 x375002).bind fun t391 => (w_BoxGap.j1 k x1 x8 (!t391) x12 x374000 x374001 x374002 x374003 x374004 x374005 x375000 x375001 x375002 x381000 x381001 x381002)) else (none)) else (w_BoxGap.j1 k x1 x8 false x12 x374000 x374001 x374002 x374003 x374004 x374005 x375000 x375001 x375002 x381000 x381001 x381002))) else (if x8 = 0 then ((box_Has.f k x374000 x374001 x374002 x374003 x374004 x374005 x381000 x381001 x381002).bind fun t392 => (if t392 = true then (if x375002 < x381002 then (w_BoxGap.j2 k x11 true) else (if x375002 = x381002 then (if x375001 < x381001 then (w_BoxGap.j2 k x11 true) else (if x375001 = x381001 then (w_BoxGap.j2 k x11 (decide (x375000 < x381000))) else (w_BoxGap.j2 k x11 false))) else (w_BoxGap.j2 k x11 false))) else (some false))) else (if x8 = 9 then (some (!x11)) else (some false)))
def w_BoxGap.j1 : Nat → List (S25) → Int → Bool → Int → Int → Int → Int → Int → Int → Int → Int → Int → Int → Int → Int → Int → Option (Bool)
 | 0, _, _, _, _, _, _, _, _, _, _, _, _, _, _, _, _ => none
 | k + 1, x1, x8, x11, x12, x374000, x374001, x374002, x374003, x374004, x374005, x375000, x375001, x375002, x381000, x381001, x381002 => w_BoxGap.l0 k x1 x8 x11 (wrap64 (x12 + 1)) x374000 x374001 x374002 x374003 x374004 x374005 x375000 x375001 x375002 x381000 x381001 x381002
def w_BoxGap.j2 : Nat → Bool → Bool → Option (Bool)
 | 0, _, _ => none
 | k + 1, x11, x13 => if x11 = true then (some (!x13)) else (some true)
end
def w_BoxGap.f (k : Nat) (a0_0 : Int) (a0_1 : Int) (a0_2 : Int) (a0_3 : Int) (a0_4 : Int) (a0_5 : Int) (l1 : List (S25)) (a2_0 : Int) (a2_1 : Int) (a2_2 : Int) : Option (Bool) := (w_awake.f).bind fun t375 => (if t375 = true then (if (l1.length : Int) > 6 then (some true) else ((box_Gap.f k a0_0 a0_1 a0_2 a0_3 a0_4 a0_5 l1).bind fun bt376 => ((box_Rest.f k a0_0 a0_1 a0_2 a0_3 a0_4 a0_5 l1).bind fun bt381 => (if bt381.2 = 0 then (if ((bt376.2.2.2 == 9) != ((bt381.1.length : Int) == 0)) = true then (some false) else ((box_Has.f k a0_0 a0_1 a0_2 a0_3 a0_4 a0_5 a2_0 a2_1 a2_2).bind fun t385 => (w_BoxGap.l0 k l1 bt376.2.2.2 t385 0 a0_0 a0_1 a0_2 a0_3 a0_4 a0_5 a2_0 a2_1 a2_2 bt376.1 bt376.2.1 bt376.2.2.1))) else (if bt381.2 = 7 then (some true) else (some (bt376.2.2.2 == bt381.2))))))) else (some false))
def w_BoxGap.T15 : Bool × List (List Nat × List Nat) := (true, [([], []), ([0], [0]), ([1], [1]), ([2], [2]), ([2], [2]), ([3, 4, 2], [2, 3, 4]), ([5, 2], [2, 5]), ([2], [2]), ([6, 7, 2, 2], [2, 6, 7]), ([2, 8], [2, 8])])
def w_BoxGap.B15 : List Nat := [0, 1, 3, 7, 7, 31, 63, 7, 255, 511]
theorem w_BoxGap.tab15 : rtab .any (opsOf Try.f3 15) = w_BoxGap.T15 := by kernel_rfl
theorem w_BoxGap.bits15 : waitsOk w_BoxGap.T15.2 w_BoxGap.B15 = true := by kernel_rfl
def w_BoxGap.T17 : Bool × List (List Nat × List Nat) := (true, [([], []), ([0], [0]), ([1], [1]), ([1], [1]), ([2, 3, 1], [1, 2, 3]), ([4, 1], [1, 4]), ([1], [1]), ([5, 6, 1, 1], [1, 5, 6]), ([7, 1], [1, 7]), ([1, 8], [1, 8]), ([9, 7, 0, 1, 2, 3, 4, 5, 6, 7, 8, 9], [0, 9])])
def w_BoxGap.B17 : List Nat := [0, 1, 3, 3, 15, 31, 3, 127, 255, 511, 1023]
theorem w_BoxGap.tab17 : rtab .any (opsOf Try.f3 17) = w_BoxGap.T17 := by kernel_rfl
theorem w_BoxGap.bits17 : waitsOk w_BoxGap.T17.2 w_BoxGap.B17 = true := by kernel_rfl
set_option maxHeartbeats 8000000 in
set_option maxRecDepth 100000 in
theorem w_BoxGap.calls (k : Nat) (a0_0 : Int) (a0_1 : Int) (a0_2 : Int) (a0_3 : Int) (a0_4 : Int) (a0_5 : Int) (A1 : Option Addr) (c1 : Nat) (l1 : List (S25)) (a2_0 : Int) (a2_1 : Int) (a2_2 : Int) (r : Bool) (w : World) (hr1 : Kd.C k25 w A1 l1.length l1) (hc1 : l1.length ≤ c1) (h : w_BoxGap.f k a0_0 a0_1 a0_2 a0_3 a0_4 a0_5 l1 a2_0 a2_1 a2_2 = some r) :
  Calls Try.prog 3 #[.agg #[.int .i64 a0_0, .int .i64 a0_1, .int .i64 a0_2, .int .i64 a0_3, .int .i64 a0_4, .int .i64 a0_5], .slice A1 l1.length c1, .agg #[.int .i64 a2_0, .int .i64 a2_1, .int .i64 a2_2]] w fun e w' => e = .returned (.bool r) ∧ Below w.heap.size w w' := by
 have hu25 := Try.underlying25
 have hu23 := Try.underlying23
 have HR1 := am hr1
 have HC1 := am hc1
 clear hr1 hc1
 have HB := am (Below.refl w.heap.size w)
 have H : ((w_awake.f).bind fun t375 => (if t375 = true then (if (l1.length : Int) > 6 then (some true) else ((box_Gap.f k a0_0 a0_1 a0_2 a0_3 a0_4 a0_5 l1).bind fun bt376 => ((box_Rest.f k a0_0 a0_1 a0_2 a0_3 a0_4 a0_5 l1).bind fun bt381 => (if bt381.2 = 0 then (if ((bt376.2.2.2 == 9) != ((bt381.1.length : Int) == 0)) = true then (some false) else ((box_Has.f k a0_0 a0_1 a0_2 a0_3 a0_4 a0_5 a2_0 a2_1 a2_2).bind fun t385 => (w_BoxGap.l0 k l1 bt376.2.2.2 t385 0 a0_0 a0_1 a0_2 a0_3 a0_4 a0_5 a2_0 a2_1 a2_2 bt376.1 bt376.2.1 bt376.2.2.1))) else (if bt381.2 = 7 then (some true) else (some (bt376.2.2.2 == bt381.2))))))) else (some false))) = some r := h
 clear h
 replace H := Option.bind_eq_some_iff.mp H
 obtain ⟨t375, A40, H⟩ := H
 replace H : (if t375 = true then (if (l1.length : Int) > 6 then (some true) else ((box_Gap.f k a0_0 a0_1 a0_2 a0_3 a0_4 a0_5 l1).bind fun bt376 => ((box_Rest.f k a0_0 a0_1 a0_2 a0_3 a0_4 a0_5 l1).bind fun bt381 => (if bt381.2 = 0 then (if ((bt376.2.2.2 == 9) != ((bt381.1.length : Int) == 0)) = true then (some false) else ((box_Has.f k a0_0 a0_1 a0_2 a0_3 a0_4 a0_5 a2_0 a2_1 a2_2).bind fun t385 => (w_BoxGap.l0 k l1 bt376.2.2.2 t385 0 a0_0 a0_1 a0_2 a0_3 a0_4 a0_5 a2_0 a2_1 a2_2 bt376.1 bt376.2.1 bt376.2.2.1))) else (if bt381.2 = 7 then (some true) else (some (bt376.2.2.2 == bt381.2))))))) else (some false)) = some r := H
 have A4 := am A40
 clear A40
 by_cases c5 : t375 = true
 ·subst c5
  have H1 : (if (l1.length : Int) > 6 then (some true) else ((box_Gap.f k a0_0 a0_1 a0_2 a0_3 a0_4 a0_5 l1).bind fun bt376 => ((box_Rest.f k a0_0 a0_1 a0_2 a0_3 a0_4 a0_5 l1).bind fun bt381 => (if bt381.2 = 0 then (if ((bt376.2.2.2 == 9) != ((bt381.1.length : Int) == 0)) = true then (some false) else ((box_Has.f k a0_0 a0_1 a0_2 a0_3 a0_4 a0_5 a2_0 a2_1 a2_2).bind fun t385 => (w_BoxGap.l0 k l1 bt376.2.2.2 t385 0 a0_0 a0_1 a0_2 a0_3 a0_4 a0_5 a2_0 a2_1 a2_2 bt376.1 bt376.2.1 bt376.2.2.1))) else (if bt381.2 = 7 then (some true) else (some (bt376.2.2.2 == bt381.2))))))) = some r := by rw [if_pos rfl] at H; exact H
  clear H
  have H := H1
  clear H1
  by_cases c6 : (l1.length : Int) > 6
  ·rw [if_pos c6] at H
   have c6b0 : decide (6 < (l1.length : Int)) = true := decide_eq_true c6
   have c6b1 : decide (6 < l1.length) = true := decide_eq_true (by omega)
   clear c6
   obtain rfl := Option.some.inj H
   go_enter Try.func3, Try.ntmps3
   go_wp2_with (first | ((with_reducible refine gd (N := 3) rfl ?_); refine be ?hg (N := 3) ?hd (cs := #[.int .i64 a0_0, .int .i64 a0_1, .int .i64 a0_2, .int .i64 a0_3, .int .i64 a0_4, .int .i64 a0_5]) (t := 25) ?hr ?_; (case hd | hg => rfl); (case hr => first | (go_simp; done) | (go_simp; rfl)); intro gb373 hg w7 hbox hb; have BK373 := am hbox; have GW373 := sG HB hg; have GE373 := sG HB hg; replace HB := bS HB hb; clear hb hbox hg) | ((with_reducible refine gd (N := 5) rfl ?_); refine be ?hg (N := 5) ?hd (cs := #[.int .i64 a2_0, .int .i64 a2_1, .int .i64 a2_2]) (t := 23) ?hr ?_; (case hd | hg => rfl); (case hr => first | (go_simp; done) | (go_simp; rfl)); intro gb374 hg w8 hbox hb; have BK374 := am hbox; have GW374 := sG HB hg; have GE374 := sG HB hg; replace HB := bS HB hb; have NB373_374 := nL BK373 hg; have NB374_373 := nG BK373 hg; replace BK373 := bB BK373 hb; clear hb hbox hg) | ((with_reducible refine gc (f := 11) rfl ?_); refine goesL_ (some 14) rfl rfl Try.func11 (by kernel_rfl) rfl #[] rfl (by (try simp only [pml]); first | done | rfl | (simp only [pdt]; rfl)) ?_; (with_reducible refine (w_awake.calls  true _ A4.out).mono ?_); rintro e w9 ⟨rfl, hb⟩; refine ⟨_, rfl, ?_⟩; replace BK373 := bB BK373 hb; replace BK374 := bB BK374 hb; replace HB := bS HB hb; (try clear hb); (try clear hb2); (try clear hk); (try clear hi)))
   go_ret
   exact ⟨by first | rfl | (simp [errW_none, errW_some] <;> rfl) | (simp [*, errW_none, errW_some] <;> rfl), by repeat (first | (with_reducible first | exact HB.out | apply wa | apply wN | apply wd | refine ws ?_ GE373.out | refine ws ?_ GE374.out) | exact HB.out)⟩
  rw [if_neg c6] at H
  have c6b0 : decide (6 < (l1.length : Int)) = false := decide_eq_false c6
  have c6b1 : decide (6 < l1.length) = false := decide_eq_false (by omega)
  clear c6
  replace H := Option.bind_eq_some_iff.mp H
  obtain ⟨⟨t376, t377, t378, t379⟩, A100, H⟩ := H
  replace H : ((box_Rest.f k a0_0 a0_1 a0_2 a0_3 a0_4 a0_5 l1).bind fun bt381 => (if bt381.2 = 0 then (if ((t379 == 9) != ((bt381.1.length : Int) == 0)) = true then (some false) else ((box_Has.f k a0_0 a0_1 a0_2 a0_3 a0_4 a0_5 a2_0 a2_1 a2_2).bind fun t385 => (w_BoxGap.l0 k l1 t379 t385 0 a0_0 a0_1 a0_2 a0_3 a0_4 a0_5 a2_0 a2_1 a2_2 t376 t377 t378))) else (if bt381.2 = 7 then (some true) else (some (t379 == bt381.2))))) = some r := H
  have A10 := am A100
  clear A100
  replace H := Option.bind_eq_some_iff.mp H
  obtain ⟨⟨t381, t384⟩, A110, H⟩ := H
  replace H : (if t384 = 0 then (if ((t379 == 9) != ((t381.length : Int) == 0)) = true then (some false) else ((box_Has.f k a0_0 a0_1 a0_2 a0_3 a0_4 a0_5 a2_0 a2_1 a2_2).bind fun t385 => (w_BoxGap.l0 k l1 t379 t385 0 a0_0 a0_1 a0_2 a0_3 a0_4 a0_5 a2_0 a2_1 a2_2 t376 t377 t378))) else (if t384 = 7 then (some true) else (some (t379 == t384)))) = some r := H
  have A11 := am A110
  clear A110
  by_cases c12 : t384 = 0
  rotate_left
  ·rw [if_neg c12] at H
   have c12b0 : (t384 == 0) = false := beq_eq_false_iff_ne.mpr c12
   have c12b1 : (t384 != 0) = true := bne_iff_ne.mpr c12
   by_cases c116 : t384 = 7
   ·rw [if_pos c116] at H
    have c116b0 : (t384 == 7) = true := beq_iff_eq.mpr c116
    have c116b1 : (t384 != 7) = false := bne_eq_false_iff_eq.mpr c116
    clear c116
    obtain rfl := Option.some.inj H
    go_enter Try.func3, Try.ntmps3
    go_wp2_with (first | ((with_reducible refine gd (N := 3) rfl ?_); refine be ?hg (N := 3) ?hd (cs := #[.int .i64 a0_0, .int .i64 a0_1, .int .i64 a0_2, .int .i64 a0_3, .int .i64 a0_4, .int .i64 a0_5]) (t := 25) ?hr ?_; (case hd | hg => rfl); (case hr => first | (go_simp; done) | (go_simp; rfl)); intro gb373 hg w117 hbox hb; have BK373 := am hbox; have GW373 := sG HB hg; have GE373 := sG HB hg; replace HB := bS HB hb; clear hb hbox hg) | ((with_reducible refine gd (N := 5) rfl ?_); refine be ?hg (N := 5) ?hd (cs := #[.int .i64 a2_0, .int .i64 a2_1, .int .i64 a2_2]) (t := 23) ?hr ?_; (case hd | hg => rfl); (case hr => first | (go_simp; done) | (go_simp; rfl)); intro gb374 hg w118 hbox hb; have BK374 := am hbox; have GW374 := sG HB hg; have GE374 := sG HB hg; replace HB := bS HB hb; have NB373_374 := nL BK373 hg; have NB374_373 := nG BK373 hg; replace BK373 := bB BK373 hb; clear hb hbox hg) | ((with_reducible refine gc (f := 11) rfl ?_); refine goesL_ (some 14) rfl rfl Try.func11 (by kernel_rfl) rfl #[] rfl (by (try simp only [pml]); first | done | rfl | (simp only [pdt]; rfl)) ?_; (with_reducible refine (w_awake.calls  true _ A4.out).mono ?_); rintro e w119 ⟨rfl, hb⟩; refine ⟨_, rfl, ?_⟩; replace BK373 := bB BK373 hb; replace BK374 := bB BK374 hb; replace HB := bS HB hb; (try clear hb); (try clear hb2); (try clear hk); (try clear hi); have hnb120 := NB373_374.out; have hnc120 := NB374_373.out; obtain ⟨_, _, _, _, _, _, _, _, _, _, _, _⟩ := zC6 BK373) | ((with_reducible refine gc (f := 12) rfl ?_); refine goesL_ (some 22) rfl rfl Try.func12 (by kernel_rfl) rfl #[.agg #[.int .i64 a0_0, .int .i64 a0_1, .int .i64 a0_2, .int .i64 a0_3, .int .i64 a0_4, .int .i64 a0_5], .slice A1 l1.length c1] rfl (by (try simp only [pml]); first | done | rfl | (simp only [pdt]; rfl)) ?_; (with_reducible refine (box_Gap.calls k a0_0 a0_1 a0_2 a0_3 a0_4 a0_5 _ _ l1 t376 t377 t378 t379 _ ?side1 ?side2 A10.out).mono ?_); (case side1 => repeat (first | exact (Kd.C_below HR1.out HB.out) | (with_reducible refine Kd.C_alloc ?_ _) | (with_reducible refine Kd.C_drewN ?_ _) | (with_reducible refine Kd.C_drew ?_))); (case side2 => exact HC1.out); rintro e w122 ⟨rfl, hb⟩; refine ⟨_, rfl, ?_⟩; replace BK373 := bB BK373 hb; replace BK374 := bB BK374 hb; replace HB := bS HB hb; (try clear hb); (try clear hb2); (try clear hk); (try clear hi)) | ((with_reducible refine gd (N := 7) rfl ?_); refine be ?hg (N := 7) ?hd (cs := #[.int .i64 0, .int .i64 0, .int .i64 0]) (t := 23) ?hr ?_; (case hd | hg => rfl); (case hr => first | (go_simp; done) | (go_simp; rfl)); intro gb380 hg w123 hbox hb; have BK380 := am hbox; have GW380 := sG HB hg; have GE380 := sG HB hg; replace HB := bS HB hb; have NB373_380 := nL BK373 hg; have NB380_373 := nG BK373 hg; replace BK373 := bB BK373 hb; have NB374_380 := nL BK374 hg; have NB380_374 := nG BK374 hg; replace BK374 := bB BK374 hb; clear hb hbox hg; have hnb124 := NB380_373.out; have hnc124 := NB373_380.out; have hnb125 := NB380_374.out; have hnc125 := NB374_380.out; obtain ⟨_, _, _, _, _, _⟩ := zC3 BK380; obtain ⟨_, _, _, _, _, _, _, _, _, _, _, _⟩ := zC6 BK373) | ((with_reducible refine gc (f := 13) rfl ?_); refine goesL_ (some 28) rfl rfl Try.func13 (by kernel_rfl) rfl #[.agg #[.int .i64 a0_0, .int .i64 a0_1, .int .i64 a0_2, .int .i64 a0_3, .int .i64 a0_4, .int .i64 a0_5], .slice A1 l1.length c1] rfl (by (try simp only [pml]); first | done | rfl | (simp only [pdt]; rfl)) ?_; (with_reducible refine (box_Rest.calls k a0_0 a0_1 a0_2 a0_3 a0_4 a0_5 _ _ l1 t381 t384 _ ?side1 ?side2 A11.out).mono ?_); (case side1 => exact Kd.C_below HR1.out (fW HB.out)); (case side2 => exact HC1.out); rintro e w128 ⟨v382, rfl, ho0, hb⟩; refine ⟨_, rfl, ?_⟩; have HO383 := am (Kd.R_lower (Kd.R_newB ho0 (g := gb373) (o := .cells #[.int .i64 a0_0, .int .i64 a0_1, .int .i64 a0_2, .int .i64 a0_3, .int .i64 a0_4, .int .i64 a0_5] 25 (0, 0)) (kfC BK373.out)) (below_size (fW HB.out))); replace BK373 := xC1 (kfC BK373.out) hb; replace BK374 := xC1 (kfC BK374.out) hb; replace BK380 := xC1 (o := .cells #[.int .i64 t376, .int .i64 t377, .int .i64 t378] 23 (0, 0)) (kkC BK380.out) hb; replace HB := bS HB hb; (try clear hb); (try clear hb2); (try clear hk); (try clear hi); (try clear ho0)))
    go_ret
    exact ⟨by first | rfl | (simp [errW_none, errW_some] <;> rfl) | (simp [*, errW_none, errW_some] <;> rfl), by repeat (first | (with_reducible first | exact HB.out | apply wa | apply wN | apply wd | refine ws ?_ GE373.out | refine ws ?_ GE374.out | refine ws ?_ GE380.out) | exact HB.out)⟩
   rw [if_neg c116] at H
   have c116b0 : (t384 == 7) = false := beq_eq_false_iff_ne.mpr c116
   have c116b1 : (t384 != 7) = true := bne_iff_ne.mpr c116
   obtain rfl := Option.some.inj H
   go_enter Try.func3, Try.ntmps3
   go_wp2_with (first | ((with_reducible refine gd (N := 3) rfl ?_); refine be ?hg (N := 3) ?hd (cs := #[.int .i64 a0_0, .int .i64 a0_1, .int .i64 a0_2, .int .i64 a0_3, .int .i64 a0_4, .int .i64 a0_5]) (t := 25) ?hr ?_; (case hd | hg => rfl); (case hr => first | (go_simp; done) | (go_simp; rfl)); intro gb373 hg w129 hbox hb; have BK373 := am hbox; have GW373 := sG HB hg; have GE373 := sG HB hg; replace HB := bS HB hb; clear hb hbox hg) | ((with_reducible refine gd (N := 5) rfl ?_); refine be ?hg (N := 5) ?hd (cs := #[.int .i64 a2_0, .int .i64 a2_1, .int .i64 a2_2]) (t := 23) ?hr ?_; (case hd | hg => rfl); (case hr => first | (go_simp; done) | (go_simp; rfl)); intro gb374 hg w130 hbox hb; have BK374 := am hbox; have GW374 := sG HB hg; have GE374 := sG HB hg; replace HB := bS HB hb; have NB373_374 := nL BK373 hg; have NB374_373 := nG BK373 hg; replace BK373 := bB BK373 hb; clear hb hbox hg) | ((with_reducible refine gc (f := 11) rfl ?_); refine goesL_ (some 14) rfl rfl Try.func11 (by kernel_rfl) rfl #[] rfl (by (try simp only [pml]); first | done | rfl | (simp only [pdt]; rfl)) ?_; (with_reducible refine (w_awake.calls  true _ A4.out).mono ?_); rintro e w131 ⟨rfl, hb⟩; refine ⟨_, rfl, ?_⟩; replace BK373 := bB BK373 hb; replace BK374 := bB BK374 hb; replace HB := bS HB hb; (try clear hb); (try clear hb2); (try clear hk); (try clear hi); have hnb132 := NB373_374.out; have hnc132 := NB374_373.out; obtain ⟨_, _, _, _, _, _, _, _, _, _, _, _⟩ := zC6 BK373) | ((with_reducible refine gc (f := 12) rfl ?_); refine goesL_ (some 22) rfl rfl Try.func12 (by kernel_rfl) rfl #[.agg #[.int .i64 a0_0, .int .i64 a0_1, .int .i64 a0_2, .int .i64 a0_3, .int .i64 a0_4, .int .i64 a0_5], .slice A1 l1.length c1] rfl (by (try simp only [pml]); first | done | rfl | (simp only [pdt]; rfl)) ?_; (with_reducible refine (box_Gap.calls k a0_0 a0_1 a0_2 a0_3 a0_4 a0_5 _ _ l1 t376 t377 t378 t379 _ ?side1 ?side2 A10.out).mono ?_); (case side1 => repeat (first | exact (Kd.C_below HR1.out HB.out) | (with_reducible refine Kd.C_alloc ?_ _) | (with_reducible refine Kd.C_drewN ?_ _) | (with_reducible refine Kd.C_drew ?_))); (case side2 => exact HC1.out); rintro e w134 ⟨rfl, hb⟩; refine ⟨_, rfl, ?_⟩; replace BK373 := bB BK373 hb; replace BK374 := bB BK374 hb; replace HB := bS HB hb; (try clear hb); (try clear hb2); (try clear hk); (try clear hi)) | ((with_reducible refine gd (N := 7) rfl ?_); refine be ?hg (N := 7) ?hd (cs := #[.int .i64 0, .int .i64 0, .int .i64 0]) (t := 23) ?hr ?_; (case hd | hg => rfl); (case hr => first | (go_simp; done) | (go_simp; rfl)); intro gb380 hg w135 hbox hb; have BK380 := am hbox; have GW380 := sG HB hg; have GE380 := sG HB hg; replace HB := bS HB hb; have NB373_380 := nL BK373 hg; have NB380_373 := nG BK373 hg; replace BK373 := bB BK373 hb; have NB374_380 := nL BK374 hg; have NB380_374 := nG BK374 hg; replace BK374 := bB BK374 hb; clear hb hbox hg; have hnb136 := NB380_373.out; have hnc136 := NB373_380.out; have hnb137 := NB380_374.out; have hnc137 := NB374_380.out; obtain ⟨_, _, _, _, _, _⟩ := zC3 BK380; obtain ⟨_, _, _, _, _, _, _, _, _, _, _, _⟩ := zC6 BK373) | ((with_reducible refine gc (f := 13) rfl ?_); refine goesL_ (some 28) rfl rfl Try.func13 (by kernel_rfl) rfl #[.agg #[.int .i64 a0_0, .int .i64 a0_1, .int .i64 a0_2, .int .i64 a0_3, .int .i64 a0_4, .int .i64 a0_5], .slice A1 l1.length c1] rfl (by (try simp only [pml]); first | done | rfl | (simp only [pdt]; rfl)) ?_; (with_reducible refine (box_Rest.calls k a0_0 a0_1 a0_2 a0_3 a0_4 a0_5 _ _ l1 t381 t384 _ ?side1 ?side2 A11.out).mono ?_); (case side1 => exact Kd.C_below HR1.out (fW HB.out)); (case side2 => exact HC1.out); rintro e w140 ⟨v382, rfl, ho0, hb⟩; refine ⟨_, rfl, ?_⟩; have HO383 := am (Kd.R_lower (Kd.R_newB ho0 (g := gb373) (o := .cells #[.int .i64 a0_0, .int .i64 a0_1, .int .i64 a0_2, .int .i64 a0_3, .int .i64 a0_4, .int .i64 a0_5] 25 (0, 0)) (kfC BK373.out)) (below_size (fW HB.out))); replace BK373 := xC1 (kfC BK373.out) hb; replace BK374 := xC1 (kfC BK374.out) hb; replace BK380 := xC1 (o := .cells #[.int .i64 t376, .int .i64 t377, .int .i64 t378] 23 (0, 0)) (kkC BK380.out) hb; replace HB := bS HB hb; (try clear hb); (try clear hb2); (try clear hk); (try clear hi); (try clear ho0)))
   go_ret
   exact ⟨by first | rfl | (simp [errW_none, errW_some] <;> rfl) | (simp [*, errW_none, errW_some] <;> rfl), by repeat (first | (with_reducible first | exact HB.out | apply wa | apply wN | apply wd | refine ws ?_ GE373.out | refine ws ?_ GE374.out | refine ws ?_ GE380.out) | exact HB.out)⟩
  rw [if_pos c12] at H
  have c12b0 : (t384 == 0) = true := beq_iff_eq.mpr c12
  have c12b1 : (t384 != 0) = false := bne_eq_false_iff_eq.mpr c12
  clear c12
  by_cases c13 : ((t379 == 9) != ((t381.length : Int) == 0)) = true
  ·rw [if_pos c13] at H
   have c13b0 : ((t379 == 9) != ((t381.length : Int) == 0)) = true := c13
   (try (have c13b1 : decide ((t379 == 9) = ((t381.length : Int) == 0)) = false := by simpa using c13))
   (try (have c13b2 : ((t379 == 9) == ((t381.length : Int) == 0)) = false := by simpa using c13))
   (try (have c13b3 : ¬ ((t379 == 9) = ((t381.length : Int) == 0)) := by simpa using c13))
   clear c13
   obtain rfl := Option.some.inj H
   go_enter Try.func3, Try.ntmps3
   go_wp2_with (first | ((with_reducible refine gd (N := 3) rfl ?_); refine be ?hg (N := 3) ?hd (cs := #[.int .i64 a0_0, .int .i64 a0_1, .int .i64 a0_2, .int .i64 a0_3, .int .i64 a0_4, .int .i64 a0_5]) (t := 25) ?hr ?_; (case hd | hg => rfl); (case hr => first | (go_simp; done) | (go_simp; rfl)); intro gb373 hg w14 hbox hb; have BK373 := am hbox; have GW373 := sG HB hg; have GE373 := sG HB hg; replace HB := bS HB hb; clear hb hbox hg) | ((with_reducible refine gd (N := 5) rfl ?_); refine be ?hg (N := 5) ?hd (cs := #[.int .i64 a2_0, .int .i64 a2_1, .int .i64 a2_2]) (t := 23) ?hr ?_; (case hd | hg => rfl); (case hr => first | (go_simp; done) | (go_simp; rfl)); intro gb374 hg w15 hbox hb; have BK374 := am hbox; have GW374 := sG HB hg; have GE374 := sG HB hg; replace HB := bS HB hb; have NB373_374 := nL BK373 hg; have NB374_373 := nG BK373 hg; replace BK373 := bB BK373 hb; clear hb hbox hg) | ((with_reducible refine gc (f := 11) rfl ?_); refine goesL_ (some 14) rfl rfl Try.func11 (by kernel_rfl) rfl #[] rfl (by (try simp only [pml]); first | done | rfl | (simp only [pdt]; rfl)) ?_; (with_reducible refine (w_awake.calls  true _ A4.out).mono ?_); rintro e w16 ⟨rfl, hb⟩; refine ⟨_, rfl, ?_⟩; replace BK373 := bB BK373 hb; replace BK374 := bB BK374 hb; replace HB := bS HB hb; (try clear hb); (try clear hb2); (try clear hk); (try clear hi); have hnb17 := NB373_374.out; have hnc17 := NB374_373.out; obtain ⟨_, _, _, _, _, _, _, _, _, _, _, _⟩ := zC6 BK373) | ((with_reducible refine gc (f := 12) rfl ?_); refine goesL_ (some 22) rfl rfl Try.func12 (by kernel_rfl) rfl #[.agg #[.int .i64 a0_0, .int .i64 a0_1, .int .i64 a0_2, .int .i64 a0_3, .int .i64 a0_4, .int .i64 a0_5], .slice A1 l1.length c1] rfl (by (try simp only [pml]); first | done | rfl | (simp only [pdt]; rfl)) ?_; (with_reducible refine (box_Gap.calls k a0_0 a0_1 a0_2 a0_3 a0_4 a0_5 _ _ l1 t376 t377 t378 t379 _ ?side1 ?side2 A10.out).mono ?_); (case side1 => repeat (first | exact (Kd.C_below HR1.out HB.out) | (with_reducible refine Kd.C_alloc ?_ _) | (with_reducible refine Kd.C_drewN ?_ _) | (with_reducible refine Kd.C_drew ?_))); (case side2 => exact HC1.out); rintro e w19 ⟨rfl, hb⟩; refine ⟨_, rfl, ?_⟩; replace BK373 := bB BK373 hb; replace BK374 := bB BK374 hb; replace HB := bS HB hb; (try clear hb); (try clear hb2); (try clear hk); (try clear hi)) | ((with_reducible refine gd (N := 7) rfl ?_); refine be ?hg (N := 7) ?hd (cs := #[.int .i64 0, .int .i64 0, .int .i64 0]) (t := 23) ?hr ?_; (case hd | hg => rfl); (case hr => first | (go_simp; done) | (go_simp; rfl)); intro gb380 hg w20 hbox hb; have BK380 := am hbox; have GW380 := sG HB hg; have GE380 := sG HB hg; replace HB := bS HB hb; have NB373_380 := nL BK373 hg; have NB380_373 := nG BK373 hg; replace BK373 := bB BK373 hb; have NB374_380 := nL BK374 hg; have NB380_374 := nG BK374 hg; replace BK374 := bB BK374 hb; clear hb hbox hg; have hnb21 := NB380_373.out; have hnc21 := NB373_380.out; have hnb22 := NB380_374.out; have hnc22 := NB374_380.out; obtain ⟨_, _, _, _, _, _⟩ := zC3 BK380; obtain ⟨_, _, _, _, _, _, _, _, _, _, _, _⟩ := zC6 BK373) | ((with_reducible refine gc (f := 13) rfl ?_); refine goesL_ (some 28) rfl rfl Try.func13 (by kernel_rfl) rfl #[.agg #[.int .i64 a0_0, .int .i64 a0_1, .int .i64 a0_2, .int .i64 a0_3, .int .i64 a0_4, .int .i64 a0_5], .slice A1 l1.length c1] rfl (by (try simp only [pml]); first | done | rfl | (simp only [pdt]; rfl)) ?_; (with_reducible refine (box_Rest.calls k a0_0 a0_1 a0_2 a0_3 a0_4 a0_5 _ _ l1 t381 t384 _ ?side1 ?side2 A11.out).mono ?_); (case side1 => exact Kd.C_below HR1.out (fW HB.out)); (case side2 => exact HC1.out); rintro e w25 ⟨v382, rfl, ho0, hb⟩; refine ⟨_, rfl, ?_⟩; have HO383 := am (Kd.R_lower (Kd.R_newB ho0 (g := gb373) (o := .cells #[.int .i64 a0_0, .int .i64 a0_1, .int .i64 a0_2, .int .i64 a0_3, .int .i64 a0_4, .int .i64 a0_5] 25 (0, 0)) (kfC BK373.out)) (below_size (fW HB.out))); replace BK373 := xC1 (kfC BK373.out) hb; replace BK374 := xC1 (kfC BK374.out) hb; replace BK380 := xC1 (o := .cells #[.int .i64 t376, .int .i64 t377, .int .i64 t378] 23 (0, 0)) (kkC BK380.out) hb; replace HB := bS HB hb; (try clear hb); (try clear hb2); (try clear hk); (try clear hi); (try clear ho0); obtain ⟨Ao26, co26, eo26⟩ := Kd.R_slice HO383.out; subst eo26))
   go_ret
   exact ⟨by first | rfl | (simp [errW_none, errW_some] <;> rfl) | (simp [*, errW_none, errW_some] <;> rfl), by repeat (first | (with_reducible first | exact HB.out | apply wa | apply wN | apply wd | refine ws ?_ GE373.out | refine ws ?_ GE374.out | refine ws ?_ GE380.out) | exact HB.out)⟩
  rw [if_neg c13] at H
  have c13b0 : ((t379 == 9) != ((t381.length : Int) == 0)) = false := by simpa using c13
  (try (have c13b1 : decide ((t379 == 9) = ((t381.length : Int) == 0)) = true := by simpa using c13))
  (try (have c13b2 : ((t379 == 9) == ((t381.length : Int) == 0)) = true := by simpa using c13))
  clear c13
  replace H := Option.bind_eq_some_iff.mp H
  obtain ⟨t385, A270, H⟩ := H
  replace H : (w_BoxGap.l0 k l1 t379 t385 0 a0_0 a0_1 a0_2 a0_3 a0_4 a0_5 a2_0 a2_1 a2_2 t376 t377 t378) = some r := H
  have A27 := am A270
  clear A270
  have H' := am H
  clear H
  go_enter Try.func3, Try.ntmps3
  go_wp2_with (first | ((with_reducible refine gd (N := 3) rfl ?_); refine be ?hg (N := 3) ?hd (cs := #[.int .i64 a0_0, .int .i64 a0_1, .int .i64 a0_2, .int .i64 a0_3, .int .i64 a0_4, .int .i64 a0_5]) (t := 25) ?hr ?_; (case hd | hg => rfl); (case hr => first | (go_simp; done) | (go_simp; rfl)); intro gb373 hg w28 hbox hb; have BK373 := am hbox; have GW373 := sG HB hg; have GE373 := sG HB hg; replace HB := bS HB hb; clear hb hbox hg) | ((with_reducible refine gd (N := 5) rfl ?_); refine be ?hg (N := 5) ?hd (cs := #[.int .i64 a2_0, .int .i64 a2_1, .int .i64 a2_2]) (t := 23) ?hr ?_; (case hd | hg => rfl); (case hr => first | (go_simp; done) | (go_simp; rfl)); intro gb374 hg w29 hbox hb; have BK374 := am hbox; have GW374 := sG HB hg; have GE374 := sG HB hg; replace HB := bS HB hb; have NB373_374 := nL BK373 hg; have NB374_373 := nG BK373 hg; replace BK373 := bB BK373 hb; clear hb hbox hg) | ((with_reducible refine gc (f := 11) rfl ?_); refine goesL_ (some 14) rfl rfl Try.func11 (by kernel_rfl) rfl #[] rfl (by (try simp only [pml]); first | done | rfl | (simp only [pdt]; rfl)) ?_; (with_reducible refine (w_awake.calls  true _ A4.out).mono ?_); rintro e w30 ⟨rfl, hb⟩; refine ⟨_, rfl, ?_⟩; replace BK373 := bB BK373 hb; replace BK374 := bB BK374 hb; replace HB := bS HB hb; (try clear hb); (try clear hb2); (try clear hk); (try clear hi); have hnb31 := NB373_374.out; have hnc31 := NB374_373.out; obtain ⟨_, _, _, _, _, _, _, _, _, _, _, _⟩ := zC6 BK373) | ((with_reducible refine gc (f := 12) rfl ?_); refine goesL_ (some 22) rfl rfl Try.func12 (by kernel_rfl) rfl #[.agg #[.int .i64 a0_0, .int .i64 a0_1, .int .i64 a0_2, .int .i64 a0_3, .int .i64 a0_4, .int .i64 a0_5], .slice A1 l1.length c1] rfl (by (try simp only [pml]); first | done | rfl | (simp only [pdt]; rfl)) ?_; (with_reducible refine (box_Gap.calls k a0_0 a0_1 a0_2 a0_3 a0_4 a0_5 _ _ l1 t376 t377 t378 t379 _ ?side1 ?side2 A10.out).mono ?_); (case side1 => repeat (first | exact (Kd.C_below HR1.out HB.out) | (with_reducible refine Kd.C_alloc ?_ _) | (with_reducible refine Kd.C_drewN ?_ _) | (with_reducible refine Kd.C_drew ?_))); (case side2 => exact HC1.out); rintro e w33 ⟨rfl, hb⟩; refine ⟨_, rfl, ?_⟩; replace BK373 := bB BK373 hb; replace BK374 := bB BK374 hb; replace HB := bS HB hb; (try clear hb); (try clear hb2); (try clear hk); (try clear hi)) | ((with_reducible refine gd (N := 7) rfl ?_); refine be ?hg (N := 7) ?hd (cs := #[.int .i64 0, .int .i64 0, .int .i64 0]) (t := 23) ?hr ?_; (case hd | hg => rfl); (case hr => first | (go_simp; done) | (go_simp; rfl)); intro gb380 hg w34 hbox hb; have BK380 := am hbox; have GW380 := sG HB hg; have GE380 := sG HB hg; replace HB := bS HB hb; have NB373_380 := nL BK373 hg; have NB380_373 := nG BK373 hg; replace BK373 := bB BK373 hb; have NB374_380 := nL BK374 hg; have NB380_374 := nG BK374 hg; replace BK374 := bB BK374 hb; clear hb hbox hg; have hnb35 := NB380_373.out; have hnc35 := NB373_380.out; have hnb36 := NB380_374.out; have hnc36 := NB374_380.out; obtain ⟨_, _, _, _, _, _⟩ := zC3 BK380; obtain ⟨_, _, _, _, _, _, _, _, _, _, _, _⟩ := zC6 BK373) | ((with_reducible refine gc (f := 13) rfl ?_); refine goesL_ (some 28) rfl rfl Try.func13 (by kernel_rfl) rfl #[.agg #[.int .i64 a0_0, .int .i64 a0_1, .int .i64 a0_2, .int .i64 a0_3, .int .i64 a0_4, .int .i64 a0_5], .slice A1 l1.length c1] rfl (by (try simp only [pml]); first | done | rfl | (simp only [pdt]; rfl)) ?_; (with_reducible refine (box_Rest.calls k a0_0 a0_1 a0_2 a0_3 a0_4 a0_5 _ _ l1 t381 t384 _ ?side1 ?side2 A11.out).mono ?_); (case side1 => exact Kd.C_below HR1.out (fW HB.out)); (case side2 => exact HC1.out); rintro e w39 ⟨v382, rfl, ho0, hb⟩; refine ⟨_, rfl, ?_⟩; have HO383 := am (Kd.R_lower (Kd.R_newB ho0 (g := gb373) (o := .cells #[.int .i64 a0_0, .int .i64 a0_1, .int .i64 a0_2, .int .i64 a0_3, .int .i64 a0_4, .int .i64 a0_5] 25 (0, 0)) (kfC BK373.out)) (below_size (fW HB.out))); replace BK373 := xC1 (kfC BK373.out) hb; replace BK374 := xC1 (kfC BK374.out) hb; replace BK380 := xC1 (o := .cells #[.int .i64 t376, .int .i64 t377, .int .i64 t378] 23 (0, 0)) (kkC BK380.out) hb; replace HB := bS HB hb; (try clear hb); (try clear hb2); (try clear hk); (try clear hi); (try clear ho0); obtain ⟨Ao40, co40, eo40⟩ := Kd.R_slice HO383.out; subst eo40; obtain ⟨_, _, _, _, _, _, _, _, _, _, _, _⟩ := zC6 BK373; obtain ⟨_, _, _, _, _, _⟩ := zC3 BK374) | ((with_reducible refine gc (f := 14) rfl ?_); refine goesL_ (some 48) rfl rfl Try.func14 (by kernel_rfl) rfl #[.agg #[.int .i64 a0_0, .int .i64 a0_1, .int .i64 a0_2, .int .i64 a0_3, .int .i64 a0_4, .int .i64 a0_5], .agg #[.int .i64 a2_0, .int .i64 a2_1, .int .i64 a2_2]] rfl (by (try simp only [pml]); first | done | rfl | (simp only [pdt]; rfl)) ?_; (with_reducible refine (box_Has.calls k a0_0 a0_1 a0_2 a0_3 a0_4 a0_5 a2_0 a2_1 a2_2 t385 _ A27.out).mono ?_); rintro e w43 ⟨rfl, hb⟩; refine ⟨_, rfl, ?_⟩; replace HO383 := dR HO383 hb; replace BK373 := bB BK373 hb; replace BK374 := bB BK374 hb; replace BK380 := bB BK380 hb; replace HB := bS HB hb; (try clear hb); (try clear hb2); (try clear hk); (try clear hi)))
  go_loopg [11, 12] k (fun kq v11 v12 w' => ∃ (x11_1 : Bool) (x12_1 : Int), v11 = .bool x11_1 ∧ v12 = .int .i64 x12_1 ∧ Aside0 (w_BoxGap.l0 kq l1 t379 x11_1 x12_1 a0_0 a0_1 a0_2 a0_3 a0_4 a0_5 a2_0 a2_1 a2_2 t376 t377 t378 = some r) ∧ Aside0 (kq ≤ k) ∧ Aside0 (w'.heap[gb373]? = some (.cells #[.int .i64 a0_0, .int .i64 a0_1, .int .i64 a0_2, .int .i64 a0_3, .int .i64 a0_4, .int .i64 a0_5] 25 (0, 0))) ∧ Aside0 (w'.heap[gb374]? = some (.cells #[.int .i64 a2_0, .int .i64 a2_1, .int .i64 a2_2] 23 (0, 0))) ∧ Aside0 (w'.heap[gb380]? = some (.cells #[.int .i64 t376, .int .i64 t377, .int .i64 t378] 23 (0, 0))) ∧ Aside0 (Below w.heap.size w w'))
  case atStart => exact ⟨(t385), (0), (by first | rfl | (simp; done) | (simp [*]; done)), (by first | rfl | (simp; done) | (simp [*]; done)), H', ⟨Nat.le_refl _⟩, ⟨by (with_reducible repeat first | apply bN | apply bd | apply ba); exact BK373.out⟩, ⟨by (with_reducible repeat first | apply bN | apply bd | apply ba); exact BK374.out⟩, ⟨by (with_reducible repeat first | apply bN | apply bd | apply ba); exact BK380.out⟩, ⟨by repeat (first | (with_reducible first | exact HB.out | apply wa | apply wN | apply wd | refine ws ?_ GE373.out | refine ws ?_ GE374.out | refine ws ?_ GE380.out) | exact HB.out)⟩⟩
  case round =>
   clear H'
   try clear c1;try clear c2;try clear p2;try clear c3;try clear c5;try clear c6;try clear c6b0;try clear c6b1;try clear c11;try clear c12;try clear c12b0;try clear c12b1;try clear c13;try clear c13b0;try clear c13b1;try clear c13b2;try clear c14;try clear c17;try clear c21;try clear c22;try clear c31;try clear c35;try clear c36;try clear hcz18_0;try clear hcz18_1;try clear hcz18_2;try clear hcz18_3;try clear hcz18_4;try clear hcz18_5;try clear hcz23_0;try clear hcz23_1;try clear hcz23_2;try clear hcz24_0;try clear hcz24_1;try clear hcz24_2;try clear hcz24_3;try clear hcz24_4;try clear hcz24_5;try clear hcz32_0;try clear hcz32_1;try clear hcz32_2;try clear hcz32_3;try clear hcz32_4;try clear hcz32_5;try clear hcz37_0;try clear hcz37_1;try clear hcz37_2;try clear hcz38_0;try clear hcz38_1;try clear hcz38_2;try clear hcz38_3;try clear hcz38_4;try clear hcz38_5;try clear hcz41_0;try clear hcz41_1;try clear hcz41_2;try clear hcz41_3;try clear hcz41_4;try clear hcz41_5;try clear hcz42_0;try clear hcz42_1;try clear hcz42_2;try clear hfz18_0;try clear hfz18_1;try clear hfz18_2;try clear hfz18_3;try clear hfz18_4;try clear hfz18_5;try clear hfz23_0;try clear hfz23_1;try clear hfz23_2;try clear hfz24_0;try clear hfz24_1;try clear hfz24_2;try clear hfz24_3;try clear hfz24_4;try clear hfz24_5;try clear hfz32_0;try clear hfz32_1;try clear hfz32_2;try clear hfz32_3;try clear hfz32_4;try clear hfz32_5;try clear hfz37_0;try clear hfz37_1;try clear hfz37_2;try clear hfz38_0;try clear hfz38_1;try clear hfz38_2;try clear hfz38_3;try clear hfz38_4;try clear hfz38_5;try clear hfz41_0;try clear hfz41_1;try clear hfz41_2;try clear hfz41_3;try clear hfz41_4;try clear hfz41_5;try clear hfz42_0;try clear hfz42_1;try clear hfz42_2
   obtain ⟨x11_1, x12_1, rfl, rfl, HA, HK1, BK373, BK374, BK380, HB⟩ := hrel
   cases gk with
   | zero => exact absurd HA.out (by simp [w_BoxGap.l0])
   | succ k1 =>
    have H := HA.out
    clear HA
    simp only [w_BoxGap.l0] at H
    by_cases c44 : x12_1 < (l1.length : Int)
    rotate_left
    ·rw [if_neg c44] at H
     have c44b0 : decide (x12_1 < (l1.length : Int)) = false := decide_eq_false c44
     clear c44
     by_cases c69 : t379 = 0
     rotate_left
     ·rw [if_neg c69] at H
      have c69b0 : (t379 == 0) = false := beq_eq_false_iff_ne.mpr c69
      have c69b1 : (t379 != 0) = true := bne_iff_ne.mpr c69
      by_cases c115 : t379 = 9
      ·rw [if_pos c115] at H
       have c115b0 : (t379 == 9) = true := beq_iff_eq.mpr c115
       have c115b1 : (t379 != 9) = false := bne_eq_false_iff_eq.mpr c115
       clear c115
       obtain rfl := Option.some.inj H
       go_wp2
       go_ret
       exact ⟨by first | rfl | (simp [errW_none, errW_some] <;> rfl) | (simp [*, errW_none, errW_some] <;> rfl), by repeat (first | (with_reducible first | exact HB.out | apply wa | apply wN | apply wd | refine ws ?_ GE373.out | refine ws ?_ GE374.out | refine ws ?_ GE380.out) | exact HB.out)⟩
      rw [if_neg c115] at H
      have c115b0 : (t379 == 9) = false := beq_eq_false_iff_ne.mpr c115
      have c115b1 : (t379 != 9) = true := bne_iff_ne.mpr c115
      obtain rfl := Option.some.inj H
      go_wp2
      go_ret
      exact ⟨by first | rfl | (simp [errW_none, errW_some] <;> rfl) | (simp [*, errW_none, errW_some] <;> rfl), by repeat (first | (with_reducible first | exact HB.out | apply wa | apply wN | apply wd | refine ws ?_ GE373.out | refine ws ?_ GE374.out | refine ws ?_ GE380.out) | exact HB.out)⟩
     rw [if_pos c69] at H
     have c69b0 : (t379 == 0) = true := beq_iff_eq.mpr c69
     have c69b1 : (t379 != 0) = false := bne_eq_false_iff_eq.mpr c69
     clear c69
     replace H := Option.bind_eq_some_iff.mp H
     obtain ⟨t392, A700, H⟩ := H
     replace H : (if t392 = true then (if a2_2 < t378 then (w_BoxGap.j2 k1 x11_1 true) else (if a2_2 = t378 then (if a2_1 < t377 then (w_BoxGap.j2 k1 x11_1 true) else (if a2_1 = t377 then (w_BoxGap.j2 k1 x11_1 (decide (a2_0 < t376))) else (w_BoxGap.j2 k1 x11_1 false))) else (w_BoxGap.j2 k1 x11_1 false))) else (some false)) = some r := H
     have A70 := am A700
     clear A700
     by_cases c71 : t392 = true
     rotate_left
     ·replace c71 := Bool.eq_false_iff.mpr c71
      subst c71
      have H1 : (some false) = some r := by rw [if_neg (show ¬ (false = true) by decide)] at H; exact H
      clear H
      have H := H1
      clear H1
      obtain rfl := Option.some.inj H
      have hnb109 := NB373_374.out
      have hnc109 := NB374_373.out
      have hnb110 := NB373_380.out
      have hnc110 := NB380_373.out
      have := yC1 BK373
      have hcz111_1 := kC1 BK373
      have hcz111_2 := kC2 BK373
      have hcz111_3 := kC3 BK373
      have hcz111_4 := kC4 BK373
      have hcz111_5 := kC5 BK373
      have hfz111_0 := bf BK373.out 0
      have hfz111_1 := bf BK373.out 1
      have hfz111_2 := bf BK373.out 2
      have hfz111_3 := bf BK373.out 3
      have hfz111_4 := bf BK373.out 4
      have hfz111_5 := bf BK373.out 5
      have hnb112 := NB380_374.out
      have hnc112 := NB374_380.out
      have := yC1 BK380
      have hcz113_1 := kC1 BK380
      have hcz113_2 := kC2 BK380
      have hfz113_0 := bf BK380.out 0
      have hfz113_1 := bf BK380.out 1
      have hfz113_2 := bf BK380.out 2
      go_wp2_with (first | ((with_reducible refine gc (f := 14) rfl ?_); refine goesL_ (some 85) rfl rfl Try.func14 (by kernel_rfl) rfl #[.agg #[.int .i64 a0_0, .int .i64 a0_1, .int .i64 a0_2, .int .i64 a0_3, .int .i64 a0_4, .int .i64 a0_5], .agg #[.int .i64 t376, .int .i64 t377, .int .i64 t378]] rfl (by (try simp only [pml]); first | done | rfl | (simp only [pdt]; rfl)) ?_; (with_reducible refine (box_Has.calls k1 a0_0 a0_1 a0_2 a0_3 a0_4 a0_5 t376 t377 t378 false _ A70.out).mono ?_); rintro e w114 ⟨rfl, hb⟩; refine ⟨_, rfl, ?_⟩; replace BK373 := bB BK373 hb; replace BK374 := bB BK374 hb; replace BK380 := bB BK380 hb; replace HB := bS HB hb; (try clear hb); (try clear hb2); (try clear hk); (try clear hi)))
      go_ret
      exact ⟨by first | rfl | (simp [errW_none, errW_some] <;> rfl) | (simp [*, errW_none, errW_some] <;> rfl), by repeat (first | (with_reducible first | exact HB.out | apply wa | apply wN | apply wd | refine ws ?_ GE373.out | refine ws ?_ GE374.out | refine ws ?_ GE380.out) | exact HB.out)⟩
     subst c71
     have H1 : (if a2_2 < t378 then (w_BoxGap.j2 k1 x11_1 true) else (if a2_2 = t378 then (if a2_1 < t377 then (w_BoxGap.j2 k1 x11_1 true) else (if a2_1 = t377 then (w_BoxGap.j2 k1 x11_1 (decide (a2_0 < t376))) else (w_BoxGap.j2 k1 x11_1 false))) else (w_BoxGap.j2 k1 x11_1 false))) = some r := by rw [if_pos rfl] at H; exact H
     clear H
     have H := H1
     clear H1
     have HC72 := am H
     clear H
     have hnb73 := NB373_374.out
     have hnc73 := NB374_373.out
     have hnb74 := NB373_380.out
     have hnc74 := NB380_373.out
     have := yC1 BK373
     have hcz75_1 := kC1 BK373
     have hcz75_2 := kC2 BK373
     have hcz75_3 := kC3 BK373
     have hcz75_4 := kC4 BK373
     have hcz75_5 := kC5 BK373
     have hfz75_0 := bf BK373.out 0
     have hfz75_1 := bf BK373.out 1
     have hfz75_2 := bf BK373.out 2
     have hfz75_3 := bf BK373.out 3
     have hfz75_4 := bf BK373.out 4
     have hfz75_5 := bf BK373.out 5
     have hnb76 := NB380_374.out
     have hnc76 := NB374_380.out
     have := yC1 BK380
     have hcz77_1 := kC1 BK380
     have hcz77_2 := kC2 BK380
     have hfz77_0 := bf BK380.out 0
     have hfz77_1 := bf BK380.out 1
     have hfz77_2 := bf BK380.out 2
     go_upto_region 22 with (first | ((with_reducible refine gc (f := 14) rfl ?_); refine goesL_ (some 85) rfl rfl Try.func14 (by kernel_rfl) rfl #[.agg #[.int .i64 a0_0, .int .i64 a0_1, .int .i64 a0_2, .int .i64 a0_3, .int .i64 a0_4, .int .i64 a0_5], .agg #[.int .i64 t376, .int .i64 t377, .int .i64 t378]] rfl (by (try simp only [pml]); first | done | rfl | (simp only [pdt]; rfl)) ?_; (with_reducible refine (box_Has.calls k1 a0_0 a0_1 a0_2 a0_3 a0_4 a0_5 t376 t377 t378 true _ A70.out).mono ?_); rintro e w78 ⟨rfl, hb⟩; refine ⟨_, rfl, ?_⟩; replace BK373 := bB BK373 hb; replace BK374 := bB BK374 hb; replace BK380 := bB BK380 hb; replace HB := bS HB hb; (try clear hb); (try clear hb2); (try clear hk); (try clear hi)))
     (try simp only [Act.put, psl])
     go_cut [13] (fun v13 wc => ∃ (kq : Nat) (x13_71 : Bool), v13 = .bool x13_71 ∧ Aside0 (w_BoxGap.j2 kq x11_1 x13_71 = some r) ∧ Aside0 (kq ≤ k1) ∧ Aside0 (wc.heap[gb373]? = some (.cells #[.int .i64 a0_0, .int .i64 a0_1, .int .i64 a0_2, .int .i64 a0_3, .int .i64 a0_4, .int .i64 a0_5] 25 (0, 0))) ∧ Aside0 (wc.heap[gb374]? = some (.cells #[.int .i64 a2_0, .int .i64 a2_1, .int .i64 a2_2] 23 (0, 0))) ∧ Aside0 (wc.heap[gb380]? = some (.cells #[.int .i64 t376, .int .i64 t377, .int .i64 t378] 23 (0, 0))) ∧ Aside0 (Below w.heap.size w wc))
     case first =>
      have H := HC72.out
      clear HC72
      by_cases c79 : a2_2 < t378
      ·rw [if_pos c79] at H
       have c79b0 : decide (a2_2 < t378) = true := decide_eq_true c79
       clear c79
       (first | rw [c79b0] | (simp only [i64_w, i32_w]; rw [c79b0]) | skip)
       have H' := am H
       clear H
       have hnb80 := NB374_373.out
       have hnc80 := NB373_374.out
       have hnb81 := NB374_380.out
       have hnc81 := NB380_374.out
       have := yC1 BK374
       have hcz82_1 := kC1 BK374
       have hcz82_2 := kC2 BK374
       have hfz82_0 := bf BK374.out 0
       have hfz82_1 := bf BK374.out 1
       have hfz82_2 := bf BK374.out 2
       have hnb83 := NB380_373.out
       have hnc83 := NB373_380.out
       have := yC1 BK380
       have hcz84_1 := kC1 BK380
       have hcz84_2 := kC2 BK380
       have hfz84_0 := bf BK380.out 0
       have hfz84_1 := bf BK380.out 1
       have hfz84_2 := bf BK380.out 2
       go_wp2
       go_meet
       case rel => exact ⟨_, (true), (by first | rfl | (simp; done) | (simp [*]; done)), H', ⟨by have := HK1.out; first | omega | exact Nat.le_refl _⟩, ⟨by (with_reducible repeat first | apply bN | apply bd | apply ba); exact BK373.out⟩, ⟨by (with_reducible repeat first | apply bN | apply bd | apply ba); exact BK374.out⟩, ⟨by (with_reducible repeat first | apply bN | apply bd | apply ba); exact BK380.out⟩, ⟨by repeat (first | (with_reducible first | exact HB.out | apply wa | apply wN | apply wd | refine ws ?_ GE373.out | refine ws ?_ GE374.out | refine ws ?_ GE380.out) | exact HB.out)⟩⟩
      rw [if_neg c79] at H
      have c79b0 : decide (a2_2 < t378) = false := decide_eq_false c79
      clear c79
      (first | rw [c79b0] | (simp only [i64_w, i32_w]; rw [c79b0]) | skip)
      by_cases c85 : a2_2 = t378
      rotate_left
      ·rw [if_neg c85] at H
       have c85b0 : (a2_2 == t378) = false := beq_eq_false_iff_ne.mpr c85
       have c85b1 : (a2_2 != t378) = true := bne_iff_ne.mpr c85
       have H' := am H
       clear H
       have hnb103 := NB374_373.out
       have hnc103 := NB373_374.out
       have hnb104 := NB374_380.out
       have hnc104 := NB380_374.out
       have := yC1 BK374
       have hcz105_1 := kC1 BK374
       have hcz105_2 := kC2 BK374
       have hfz105_0 := bf BK374.out 0
       have hfz105_1 := bf BK374.out 1
       have hfz105_2 := bf BK374.out 2
       have hnb106 := NB380_373.out
       have hnc106 := NB373_380.out
       have := yC1 BK380
       have hcz107_1 := kC1 BK380
       have hcz107_2 := kC2 BK380
       have hfz107_0 := bf BK380.out 0
       have hfz107_1 := bf BK380.out 1
       have hfz107_2 := bf BK380.out 2
       go_wp2
       go_meet
       case rel => exact ⟨_, (false), (by first | rfl | (simp; done) | (simp [*]; done)), H', ⟨by have := HK1.out; first | omega | exact Nat.le_refl _⟩, ⟨by (with_reducible repeat first | apply bN | apply bd | apply ba); exact BK373.out⟩, ⟨by (with_reducible repeat first | apply bN | apply bd | apply ba); exact BK374.out⟩, ⟨by (with_reducible repeat first | apply bN | apply bd | apply ba); exact BK380.out⟩, ⟨by repeat (first | (with_reducible first | exact HB.out | apply wa | apply wN | apply wd | refine ws ?_ GE373.out | refine ws ?_ GE374.out | refine ws ?_ GE380.out) | exact HB.out)⟩⟩
      rw [if_pos c85] at H
      have c85b0 : (a2_2 == t378) = true := beq_iff_eq.mpr c85
      have c85b1 : (a2_2 != t378) = false := bne_eq_false_iff_eq.mpr c85
      clear c85
      by_cases c86 : a2_1 < t377
      ·rw [if_pos c86] at H
       have c86b0 : decide (a2_1 < t377) = true := decide_eq_true c86
       clear c86
       have H' := am H
       clear H
       have hnb87 := NB374_373.out
       have hnc87 := NB373_374.out
       have hnb88 := NB374_380.out
       have hnc88 := NB380_374.out
       have := yC1 BK374
       have hcz89_1 := kC1 BK374
       have hcz89_2 := kC2 BK374
       have hfz89_0 := bf BK374.out 0
       have hfz89_1 := bf BK374.out 1
       have hfz89_2 := bf BK374.out 2
       have hnb90 := NB380_373.out
       have hnc90 := NB373_380.out
       have := yC1 BK380
       have hcz91_1 := kC1 BK380
       have hcz91_2 := kC2 BK380
       have hfz91_0 := bf BK380.out 0
       have hfz91_1 := bf BK380.out 1
       have hfz91_2 := bf BK380.out 2
       go_wp2
       go_meet
       case rel => exact ⟨_, (true), (by first | rfl | (simp; done) | (simp [*]; done)), H', ⟨by have := HK1.out; first | omega | exact Nat.le_refl _⟩, ⟨by (with_reducible repeat first | apply bN | apply bd | apply ba); exact BK373.out⟩, ⟨by (with_reducible repeat first | apply bN | apply bd | apply ba); exact BK374.out⟩, ⟨by (with_reducible repeat first | apply bN | apply bd | apply ba); exact BK380.out⟩, ⟨by repeat (first | (with_reducible first | exact HB.out | apply wa | apply wN | apply wd | refine ws ?_ GE373.out | refine ws ?_ GE374.out | refine ws ?_ GE380.out) | exact HB.out)⟩⟩
      rw [if_neg c86] at H
      have c86b0 : decide (a2_1 < t377) = false := decide_eq_false c86
      clear c86
      by_cases c92 : a2_1 = t377
      ·rw [if_pos c92] at H
       have c92b0 : (a2_1 == t377) = true := beq_iff_eq.mpr c92
       have c92b1 : (a2_1 != t377) = false := bne_eq_false_iff_eq.mpr c92
       clear c92
       have H' := am H
       clear H
       have hnb93 := NB374_373.out
       have hnc93 := NB373_374.out
       have hnb94 := NB374_380.out
       have hnc94 := NB380_374.out
       have := yC1 BK374
       have hcz95_1 := kC1 BK374
       have hcz95_2 := kC2 BK374
       have hfz95_0 := bf BK374.out 0
       have hfz95_1 := bf BK374.out 1
       have hfz95_2 := bf BK374.out 2
       have hnb96 := NB380_373.out
       have hnc96 := NB373_380.out
       have := yC1 BK380
       have hcz97_1 := kC1 BK380
       have hcz97_2 := kC2 BK380
       have hfz97_0 := bf BK380.out 0
       have hfz97_1 := bf BK380.out 1
       have hfz97_2 := bf BK380.out 2
       go_wp2
       go_meet
       case rel => exact ⟨_, (decide (a2_0 < t376)), (by first | rfl | (simp; done) | (simp [*]; done)), H', ⟨by have := HK1.out; first | omega | exact Nat.le_refl _⟩, ⟨by (with_reducible repeat first | apply bN | apply bd | apply ba); exact BK373.out⟩, ⟨by (with_reducible repeat first | apply bN | apply bd | apply ba); exact BK374.out⟩, ⟨by (with_reducible repeat first | apply bN | apply bd | apply ba); exact BK380.out⟩, ⟨by repeat (first | (with_reducible first | exact HB.out | apply wa | apply wN | apply wd | refine ws ?_ GE373.out | refine ws ?_ GE374.out | refine ws ?_ GE380.out) | exact HB.out)⟩⟩
      rw [if_neg c92] at H
      have c92b0 : (a2_1 == t377) = false := beq_eq_false_iff_ne.mpr c92
      have c92b1 : (a2_1 != t377) = true := bne_iff_ne.mpr c92
      have H' := am H
      clear H
      have hnb98 := NB374_373.out
      have hnc98 := NB373_374.out
      have hnb99 := NB374_380.out
      have hnc99 := NB380_374.out
      have := yC1 BK374
      have hcz100_1 := kC1 BK374
      have hcz100_2 := kC2 BK374
      have hfz100_0 := bf BK374.out 0
      have hfz100_1 := bf BK374.out 1
      have hfz100_2 := bf BK374.out 2
      have hnb101 := NB380_373.out
      have hnc101 := NB373_380.out
      have := yC1 BK380
      have hcz102_1 := kC1 BK380
      have hcz102_2 := kC2 BK380
      have hfz102_0 := bf BK380.out 0
      have hfz102_1 := bf BK380.out 1
      have hfz102_2 := bf BK380.out 2
      go_wp2
      go_meet
      case rel => exact ⟨_, (false), (by first | rfl | (simp; done) | (simp [*]; done)), H', ⟨by have := HK1.out; first | omega | exact Nat.le_refl _⟩, ⟨by (with_reducible repeat first | apply bN | apply bd | apply ba); exact BK373.out⟩, ⟨by (with_reducible repeat first | apply bN | apply bd | apply ba); exact BK374.out⟩, ⟨by (with_reducible repeat first | apply bN | apply bd | apply ba); exact BK380.out⟩, ⟨by repeat (first | (with_reducible first | exact HB.out | apply wa | apply wN | apply wd | refine ws ?_ GE373.out | refine ws ?_ GE374.out | refine ws ?_ GE380.out) | exact HB.out)⟩⟩
     case rest =>
      clear HC72
      try clear c1;try clear p2;try clear p3;try clear q3;try clear hx3;try clear c4;try clear c6;try clear p6;try clear c7;try clear c8;try clear c9;try clear c10;try clear c14;try clear p38;try clear q38;try clear hx38;try clear p39;try clear q39;try clear hx39;try clear c44;try clear c44b0;try clear c46;try clear c46b0;try clear c46b1;try clear c47;try clear c61;try clear c62;try clear c62b0;try clear p64;try clear c69;try clear c69b0;try clear c69b1;try clear c71;try clear c73;try clear c74;try clear c76;try clear c79;try clear c79b0;try clear c80;try clear c81;try clear c83;try clear c85;try clear c85b0;try clear c85b1;try clear c86;try clear c86b0;try clear c87;try clear c88;try clear c90;try clear c92;try clear c92b0;try clear c92b1;try clear c93;try clear c94;try clear c96;try clear c98;try clear c99;try clear c101;try clear c103;try clear c104;try clear c106;try clear hcz100_0;try clear hcz100_1;try clear hcz100_2;try clear hcz102_0;try clear hcz102_1;try clear hcz102_2;try clear hcz105_0;try clear hcz105_1;try clear hcz105_2;try clear hcz107_0;try clear hcz107_1;try clear hcz107_2;try clear hcz75_0;try clear hcz75_1;try clear hcz75_2;try clear hcz75_3;try clear hcz75_4;try clear hcz75_5;try clear hcz77_0;try clear hcz77_1;try clear hcz77_2;try clear hcz82_0;try clear hcz82_1;try clear hcz82_2;try clear hcz84_0;try clear hcz84_1;try clear hcz84_2;try clear hcz89_0;try clear hcz89_1;try clear hcz89_2;try clear hcz91_0;try clear hcz91_1;try clear hcz91_2;try clear hcz95_0;try clear hcz95_1;try clear hcz95_2;try clear hcz97_0;try clear hcz97_1;try clear hcz97_2;try clear hfz100_0;try clear hfz100_1;try clear hfz100_2;try clear hfz102_0;try clear hfz102_1;try clear hfz102_2;try clear hfz105_0;try clear hfz105_1;try clear hfz105_2;try clear hfz107_0;try clear hfz107_1;try clear hfz107_2;try clear hfz75_0;try clear hfz75_1;try clear hfz75_2;try clear hfz75_3;try clear hfz75_4;try clear hfz75_5;try clear hfz77_0;try clear hfz77_1;try clear hfz77_2;try clear hfz82_0;try clear hfz82_1;try clear hfz82_2;try clear hfz84_0;try clear hfz84_1;try clear hfz84_2;try clear hfz89_0;try clear hfz89_1;try clear hfz89_2;try clear hfz91_0;try clear hfz91_1;try clear hfz91_2;try clear hfz95_0;try clear hfz95_1;try clear hfz95_2;try clear hfz97_0;try clear hfz97_1;try clear hfz97_2;try clear hx386_0;try clear hx386_1;try clear hx386_2;try clear hx386_3;try clear hx386_4;try clear hx386_5;try clear hx390_0;try clear hx390_1;try clear hx390_2;try clear hx390_3;try clear hx390_4;try clear hx390_5;try clear p2;try clear p3;try clear p38;try clear p386;try clear p39;try clear p390;try clear q3;try clear q38;try clear q386;try clear q39;try clear q390
      obtain ⟨kq, x13_71, rfl, HA, HJ71, BK373, BK374, BK380, HB⟩ := hcut
      cases kq with
      | zero => exact absurd HA.out (by simp [w_BoxGap.j2])
      | succ kj71 =>
       have H := HA.out
       clear HA
       simp only [w_BoxGap.j2] at H
       by_cases c108 : x11_1 = true
       ·subst c108
        have H1 : (some (!x13_71)) = some r := by rw [if_pos rfl] at H; exact H
        clear H
        have H := H1
        clear H1
        obtain rfl := Option.some.inj H
        go_wp2
        go_ret
        exact ⟨by first | rfl | (simp [errW_none, errW_some] <;> rfl) | (simp [*, errW_none, errW_some] <;> rfl), by repeat (first | (with_reducible first | exact HB.out | apply wa | apply wN | apply wd | refine ws ?_ GE373.out | refine ws ?_ GE374.out | refine ws ?_ GE380.out) | exact HB.out)⟩
       replace c108 := Bool.eq_false_iff.mpr c108
       subst c108
       have H1 : (some true) = some r := by rw [if_neg (show ¬ (false = true) by decide)] at H; exact H
       clear H
       have H := H1
       clear H1
       obtain rfl := Option.some.inj H
       go_wp2
       go_ret
       exact ⟨by first | rfl | (simp [errW_none, errW_some] <;> rfl) | (simp [*, errW_none, errW_some] <;> rfl), by repeat (first | (with_reducible first | exact HB.out | apply wa | apply wN | apply wd | refine ws ?_ GE373.out | refine ws ?_ GE374.out | refine ws ?_ GE380.out) | exact HB.out)⟩
    rw [if_pos c44] at H
    have c44b0 : decide (x12_1 < (l1.length : Int)) = true := decide_eq_true c44
    clear c44
    have HC45 := am H
    clear H
    go_upto_block 1 with (fail)
    go_cut [11] (fun v11 wc => ∃ (kq : Nat) (x11_44 : Bool), v11 = .bool x11_44 ∧ Aside0 (w_BoxGap.j1 kq l1 t379 x11_44 x12_1 a0_0 a0_1 a0_2 a0_3 a0_4 a0_5 a2_0 a2_1 a2_2 t376 t377 t378 = some r) ∧ Aside0 (kq ≤ k1) ∧ Aside0 (wc.heap[gb373]? = some (.cells #[.int .i64 a0_0, .int .i64 a0_1, .int .i64 a0_2, .int .i64 a0_3, .int .i64 a0_4, .int .i64 a0_5] 25 (0, 0))) ∧ Aside0 (wc.heap[gb374]? = some (.cells #[.int .i64 a2_0, .int .i64 a2_1, .int .i64 a2_2] 23 (0, 0))) ∧ Aside0 (wc.heap[gb380]? = some (.cells #[.int .i64 t376, .int .i64 t377, .int .i64 t378] 23 (0, 0))) ∧ Aside0 (Below w.heap.size w wc))
    case first =>
     have H := HC45.out
     clear HC45
     by_cases c46 : t379 = 0
     rotate_left
     ·rw [if_neg c46] at H
      have c46b0 : (t379 == 0) = false := beq_eq_false_iff_ne.mpr c46
      have c46b1 : (t379 != 0) = true := bne_iff_ne.mpr c46
      (first | rw [c46b0] | (simp only [i64_w, i32_w]; rw [c46b0]) | skip)
      by_cases c61 : x11_1 = true
      rotate_left
      ·replace c61 := Bool.eq_false_iff.mpr c61
       subst c61
       have H1 : (w_BoxGap.j1 k1 l1 t379 false x12_1 a0_0 a0_1 a0_2 a0_3 a0_4 a0_5 a2_0 a2_1 a2_2 t376 t377 t378) = some r := by rw [if_neg (show ¬ (false = true) by decide)] at H; exact H
       clear H
       have H := H1
       clear H1
       have H' := am H
       clear H
       try go_wp2
       have n0_ := am (bd BK373.out)
       have n1_ := am (bd BK374.out)
       have n2_ := am (bd BK380.out)
       have n3_ := am (wd HB.out)
       clear BK373 BK374 BK380 HB
       have BK373 := n0_
       have BK374 := n1_
       have BK380 := n2_
       have HB := n3_
       clear n0_ n1_ n2_ n3_
       refine start_ (n := 10) (S := fun w' => True) (ds := []) #[F,F,F,F,F,F,F,F,F,F] (by kernel_rfl) rfl rfl trivial (fun hHeld => ?_); refine with_tabW w_BoxGap.tab15 w_BoxGap.bits15 (fun HT_ HW_ => ?_)
       generalize wr.drew = w67 at BK373 BK374 BK380 HB hHeld ⊢
       refine pu (i := 0) (N := some 55) (fl 10 1 []) HT_ ?_
       refine pu (i := 1) (N := some 56) (fl 10 2 []) HT_ ?_
       refine pu (i := 2) (N := some 57) (fl 10 3 []) HT_ ?_
       refine pure_ (i := 3) (N := some 58) (v := undef) (a' := ?_) #[T,T,T,T,F,F,F,F,F,F] rfl rfl (any_of HT_.out (by kernel_rfl)) (fun _ _ _ h => h) (Or.inr ⟨by rfl, rfl⟩) ?_ ?_
       rotate_left
       ·simp only [Act.put, psl, i64_w, i32_w]
        rfl
       refine pure_ (i := 4) (N := some 59) (v := undef) (a' := ?_) #[T,T,T,T,T,F,F,F,F,F] rfl rfl (any_of HT_.out (by kernel_rfl)) (fun _ _ _ h => h) (Or.inr ⟨by rfl, rfl⟩) ?_ ?_
       rotate_left
       ·simp only [Act.put, psl, i64_w, i32_w]
        rfl
       refine pure_ (i := 5) (N := some 60) (v := undef) (a' := ?_) #[T,T,T,T,T,T,F,F,F,F] rfl rfl (any_of HT_.out (by kernel_rfl)) (fun _ _ _ h => h) (Or.inr ⟨by rfl, rfl⟩) ?_ ?_
       rotate_left
       ·simp only [Act.put, psl, i64_w, i32_w]
        rfl
       refine pure_ (i := 6) (N := some 61) (v := undef) (a' := ?_) #[T,T,T,T,T,T,T,F,F,F] rfl rfl (any_of HT_.out (by kernel_rfl)) (fun _ _ _ h => h) (Or.inr ⟨by rfl, rfl⟩) ?_ ?_
       rotate_left
       ·simp only [Act.put, psl, i64_w, i32_w]
        rfl
       refine pure_ (i := 7) (N := some 62) (v := undef) (a' := ?_) #[T,T,T,T,T,T,T,T,F,F] rfl rfl (any_of HT_.out (by kernel_rfl)) (fun _ _ _ h => h) (Or.inr ⟨by rfl, rfl⟩) ?_ ?_
       rotate_left
       ·simp only [Act.put, psl, i64_w, i32_w]
        rfl
       refine pure_ (i := 8) (N := some 63) (v := undef) (a' := ?_) #[T,T,T,T,T,T,T,T,T,F] rfl rfl (any_of HT_.out (by kernel_rfl)) (fun _ _ _ h => h) (Or.inr ⟨by rfl, rfl⟩) ?_ ?_
       rotate_left
       ·simp only [Act.put, psl, i64_w, i32_w]
        rfl
       refine pu (i := 9) (N := some 64) (fl 10 10 []) HT_ ?_
       refine done_ (done_of HT_.out (by kernel_rfl)) ?_
       try go_wp2
       have n0_ := am (bd BK373.out)
       have n1_ := am (bd BK374.out)
       have n2_ := am (bd BK380.out)
       have n3_ := am (wd HB.out)
       clear BK373 BK374 BK380 HB
       have BK373 := n0_
       have BK374 := n1_
       have BK380 := n2_
       have HB := n3_
       clear n0_ n1_ n2_ n3_
       refine start_ (n := 11) (S := fun w' => True) (ds := []) #[F,F,F,F,F,F,F,F,F,F,F] (by kernel_rfl) rfl rfl trivial (fun hHeld => ?_); refine with_tabW w_BoxGap.tab17 w_BoxGap.bits17 (fun HT_ HW_ => ?_)
       generalize w67.drew = w68 at BK373 BK374 BK380 HB hHeld ⊢
       refine pu (i := 0) (N := some 65) (fl 11 1 []) HT_ ?_
       refine pu (i := 1) (N := some 66) (fl 11 2 []) HT_ ?_
       refine pure_ (i := 2) (N := some 67) (v := undef) (a' := ?_) #[T,T,T,F,F,F,F,F,F,F,F] rfl rfl (any_of HT_.out (by kernel_rfl)) (fun _ _ _ h => h) (Or.inr ⟨by rfl, rfl⟩) ?_ ?_
       rotate_left
       ·simp only [Act.put, psl, i64_w, i32_w]
        rfl
       refine pure_ (i := 3) (N := some 68) (v := undef) (a' := ?_) #[T,T,T,T,F,F,F,F,F,F,F] rfl rfl (any_of HT_.out (by kernel_rfl)) (fun _ _ _ h => h) (Or.inr ⟨by rfl, rfl⟩) ?_ ?_
       rotate_left
       ·simp only [Act.put, psl, i64_w, i32_w]
        rfl
       refine pure_ (i := 4) (N := some 69) (v := undef) (a' := ?_) #[T,T,T,T,T,F,F,F,F,F,F] rfl rfl (any_of HT_.out (by kernel_rfl)) (fun _ _ _ h => h) (Or.inr ⟨by rfl, rfl⟩) ?_ ?_
       rotate_left
       ·simp only [Act.put, psl, i64_w, i32_w]
        rfl
       refine pure_ (i := 5) (N := some 70) (v := undef) (a' := ?_) #[T,T,T,T,T,T,F,F,F,F,F] rfl rfl (any_of HT_.out (by kernel_rfl)) (fun _ _ _ h => h) (Or.inr ⟨by rfl, rfl⟩) ?_ ?_
       rotate_left
       ·simp only [Act.put, psl, i64_w, i32_w]
        rfl
       refine pure_ (i := 6) (N := some 71) (v := undef) (a' := ?_) #[T,T,T,T,T,T,T,F,F,F,F] rfl rfl (any_of HT_.out (by kernel_rfl)) (fun _ _ _ h => h) (Or.inr ⟨by rfl, rfl⟩) ?_ ?_
       rotate_left
       ·simp only [Act.put, psl, i64_w, i32_w]
        rfl
       refine pure_ (i := 7) (N := some 72) (v := undef) (a' := ?_) #[T,T,T,T,T,T,T,T,F,F,F] rfl rfl (any_of HT_.out (by kernel_rfl)) (fun _ _ _ h => h) (Or.inr ⟨by rfl, rfl⟩) ?_ ?_
       rotate_left
       ·simp only [Act.put, psl, i64_w, i32_w]
        rfl
       refine pure_ (i := 8) (N := some 73) (v := undef) (a' := ?_) #[T,T,T,T,T,T,T,T,T,F,F] rfl rfl (any_of HT_.out (by kernel_rfl)) (fun _ _ _ h => h) (Or.inr ⟨by rfl, rfl⟩) ?_ ?_
       rotate_left
       ·simp only [Act.put, psl, i64_w, i32_w]
        rfl
       refine pu (i := 9) (N := some 74) (fl 11 10 []) HT_ ?_
       refine pu (i := 10) (N := some 11) (fl 11 11 []) HT_ ?_
       refine done_ (done_of HT_.out (by kernel_rfl)) ?_
       try go_wp2
       go_meet
       case rel => exact ⟨_, (false), (by first | rfl | (simp; done) | (simp [*]; done)), H', ⟨by have := HK1.out; first | omega | exact Nat.le_refl _⟩, ⟨by (with_reducible repeat first | apply bN | apply bd | apply ba); exact BK373.out⟩, ⟨by (with_reducible repeat first | apply bN | apply bd | apply ba); exact BK374.out⟩, ⟨by (with_reducible repeat first | apply bN | apply bd | apply ba); exact BK380.out⟩, ⟨by repeat (first | (with_reducible first | exact HB.out | apply wa | apply wN | apply wd | refine ws ?_ GE373.out | refine ws ?_ GE374.out | refine ws ?_ GE380.out) | exact HB.out)⟩⟩
      subst c61
      have H1 : (if 0 ≤ x12_1 then ((box_Has.f k1 ((rd_T25 l1 x12_1).f0.f0) ((rd_T25 l1 x12_1).f0.f1) ((rd_T25 l1 x12_1).f0.f2) ((rd_T25 l1 x12_1).f1.f0) ((rd_T25 l1 x12_1).f1.f1) ((rd_T25 l1 x12_1).f1.f2) a2_0 a2_1 a2_2).bind fun t391 => (w_BoxGap.j1 k1 l1 t379 (!t391) x12_1 a0_0 a0_1 a0_2 a0_3 a0_4 a0_5 a2_0 a2_1 a2_2 t376 t377 t378)) else (none)) = some r := by rw [if_pos rfl] at H; exact H
      clear H
      have H := H1
      clear H1
      by_cases c62 : 0 ≤ x12_1
      rotate_left
      ·rw [if_neg c62] at H
       exact absurd H (by simp)
      rw [if_pos c62] at H
      have c62b0 : decide (0 ≤ x12_1) = true := decide_eq_true c62
      clear c62
      replace H := Option.bind_eq_some_iff.mp H
      obtain ⟨t391, A630, H⟩ := H
      replace H : (w_BoxGap.j1 k1 l1 t379 (!t391) x12_1 a0_0 a0_1 a0_2 a0_3 a0_4 a0_5 a2_0 a2_1 a2_2 t376 t377 t378) = some r := H
      have A63 := am A630
      clear A630
      have H' := am H
      clear H
      try go_wp2
      have n0_ := am (bd BK373.out)
      have n1_ := am (bd BK374.out)
      have n2_ := am (bd BK380.out)
      have n3_ := am (wd HB.out)
      clear BK373 BK374 BK380 HB
      have BK373 := n0_
      have BK374 := n1_
      have BK380 := n2_
      have HB := n3_
      clear n0_ n1_ n2_ n3_
      refine start_ (n := 10) (S := fun w' => True) (ds := []) #[F,F,F,F,F,F,F,F,F,F] (by kernel_rfl) rfl rfl trivial (fun hHeld => ?_); refine with_tabW w_BoxGap.tab15 w_BoxGap.bits15 (fun HT_ HW_ => ?_)
      generalize wr.drew = w64 at BK373 BK374 BK380 HB hHeld ⊢
      refine pu (i := 0) (N := some 55) (fl 10 1 []) HT_ ?_
      refine pu (i := 1) (N := some 56) (fl 10 2 []) HT_ ?_
      refine pu (i := 2) (N := some 57) (fl 10 3 []) HT_ ?_
      refine pure_ (i := 3) (N := some 58) (v := undef) (a' := ?_) #[T,T,T,T,F,F,F,F,F,F] rfl rfl (any_of HT_.out (by kernel_rfl)) (fun _ _ _ h => h) (Or.inr ⟨by rfl, rfl⟩) ?_ ?_
      rotate_left
      ·simp only [Act.put, psl, i64_w, i32_w]
       rfl
      refine pure_ (i := 4) (N := some 59) (v := undef) (a' := ?_) #[T,T,T,T,T,F,F,F,F,F] rfl rfl (any_of HT_.out (by kernel_rfl)) (fun _ _ _ h => h) (Or.inr ⟨by rfl, rfl⟩) ?_ ?_
      rotate_left
      ·simp only [Act.put, psl, i64_w, i32_w]
       rfl
      refine pure_ (i := 5) (N := some 60) (v := undef) (a' := ?_) #[T,T,T,T,T,T,F,F,F,F] rfl rfl (any_of HT_.out (by kernel_rfl)) (fun _ _ _ h => h) (Or.inr ⟨by rfl, rfl⟩) ?_ ?_
      rotate_left
      ·simp only [Act.put, psl, i64_w, i32_w]
       rfl
      refine pure_ (i := 6) (N := some 61) (v := undef) (a' := ?_) #[T,T,T,T,T,T,T,F,F,F] rfl rfl (any_of HT_.out (by kernel_rfl)) (fun _ _ _ h => h) (Or.inr ⟨by rfl, rfl⟩) ?_ ?_
      rotate_left
      ·simp only [Act.put, psl, i64_w, i32_w]
       rfl
      refine pure_ (i := 7) (N := some 62) (v := undef) (a' := ?_) #[T,T,T,T,T,T,T,T,F,F] rfl rfl (any_of HT_.out (by kernel_rfl)) (fun _ _ _ h => h) (Or.inr ⟨by rfl, rfl⟩) ?_ ?_
      rotate_left
      ·simp only [Act.put, psl, i64_w, i32_w]
       rfl
      refine pure_ (i := 8) (N := some 63) (v := undef) (a' := ?_) #[T,T,T,T,T,T,T,T,T,F] rfl rfl (any_of HT_.out (by kernel_rfl)) (fun _ _ _ h => h) (Or.inr ⟨by rfl, rfl⟩) ?_ ?_
      rotate_left
      ·simp only [Act.put, psl, i64_w, i32_w]
       rfl
      refine pu (i := 9) (N := some 64) (fl 10 10 []) HT_ ?_
      refine done_ (done_of HT_.out (by kernel_rfl)) ?_
      try go_wp2
      have n0_ := am (bd BK373.out)
      have n1_ := am (bd BK374.out)
      have n2_ := am (bd BK380.out)
      have n3_ := am (wd HB.out)
      clear BK373 BK374 BK380 HB
      have BK373 := n0_
      have BK374 := n1_
      have BK380 := n2_
      have HB := n3_
      clear n0_ n1_ n2_ n3_
      have p390 : 0 ≤ (x12_1 : Int) := of_decide_eq_true (by assumption)
      have q390 : x12_1 < (l1.length : Int) := of_decide_eq_true (by assumption)
      obtain ⟨ad390, e390, hx390_0, hx390_1, hx390_2, hx390_3, hx390_4, hx390_5⟩ := at_T25 HR1.out x12_1 p390 q390
      have hw390_5 := hx390_5
      have hw390_4 := hx390_4
      have hw390_3 := hx390_3
      have hw390_2 := hx390_2
      have hw390_1 := hx390_1
      have hw390_0 := hx390_0
      cases e390
      replace hx390_0 := cl HB hx390_0
      replace hx390_1 := cl HB hx390_1
      replace hx390_2 := cl HB hx390_2
      replace hx390_3 := cl HB hx390_3
      replace hx390_4 := cl HB hx390_4
      replace hx390_5 := cl HB hx390_5
      replace p390 := eq_true p390
      replace q390 := eq_true q390
      refine start_ (n := 11) (S := fun w' => w'.cell? ⟨gb374, 0, none⟩ = some (.int .i64 a2_0) ∧ w'.cell? ⟨gb374, 1, none⟩ = some (.int .i64 a2_1) ∧ w'.cell? ⟨gb374, 2, none⟩ = some (.int .i64 a2_2) ∧ w'.cell? (ad390.add ((x12_1).toNat * 6)) = some (.int .i64 ((rd_T25 l1 x12_1).f0.f0)) ∧ w'.cell? ⟨(ad390.add ((x12_1).toNat * 6)).block, (ad390.add ((x12_1).toNat * 6)).off + 1, none⟩ = some (.int .i64 ((rd_T25 l1 x12_1).f0.f1)) ∧ w'.cell? ⟨(ad390.add ((x12_1).toNat * 6)).block, (ad390.add ((x12_1).toNat * 6)).off + 2, none⟩ = some (.int .i64 ((rd_T25 l1 x12_1).f0.f2)) ∧ w'.cell? ⟨(ad390.add ((x12_1).toNat * 6)).block, (ad390.add ((x12_1).toNat * 6)).off + 3, none⟩ = some (.int .i64 ((rd_T25 l1 x12_1).f1.f0)) ∧ w'.cell? ⟨(ad390.add ((x12_1).toNat * 6)).block, (ad390.add ((x12_1).toNat * 6)).off + 4, none⟩ = some (.int .i64 ((rd_T25 l1 x12_1).f1.f1)) ∧ w'.cell? ⟨(ad390.add ((x12_1).toNat * 6)).block, (ad390.add ((x12_1).toNat * 6)).off + 5, none⟩ = some (.int .i64 ((rd_T25 l1 x12_1).f1.f2))) (ds := []) #[F,F,F,F,F,F,F,F,F,F,F] (by kernel_rfl) rfl rfl ⟨(bc BK374.out 0).trans rfl, (bc BK374.out 1).trans rfl, (bc BK374.out 2).trans rfl, ((HB.out.cell (bq w _ hw390_0)).trans hw390_0), ((HB.out.cell (bq w _ hw390_1)).trans hw390_1), ((HB.out.cell (bq w _ hw390_2)).trans hw390_2), ((HB.out.cell (bq w _ hw390_3)).trans hw390_3), ((HB.out.cell (bq w _ hw390_4)).trans hw390_4), ((HB.out.cell (bq w _ hw390_5)).trans hw390_5)⟩ (fun hHeld => ?_); refine with_tabW w_BoxGap.tab17 w_BoxGap.bits17 (fun HT_ HW_ => ?_)
      generalize w64.drew = w65 at BK373 BK374 BK380 HB hx390_0 hx390_1 hx390_2 hx390_3 hx390_4 hx390_5 hHeld ⊢
      refine pu (i := 0) (N := some 65) (fl 11 1 []) HT_ ?_
      refine pu (i := 1) (N := some 66) (fl 11 2 []) HT_ ?_
      refine pu (i := 2) (N := some 67) (fl 11 3 []) HT_ ?_
      refine pu (i := 3) (N := some 68) (fl 11 4 []) HT_ ?_
      refine pu (i := 4) (N := some 69) (fl 11 5 []) HT_ ?_
      refine tk (i := 5) (N := some 70) (fl 11 6 []) HT_ HW_ hHeld ?_
      refine tk (i := 6) (N := some 71) (fl 11 7 []) HT_ HW_ hHeld ?_
      refine one_ (i := 7) (N := some 72) (fl 11 8 []) rfl rfl (one_of HT_.out (by kernel_rfl)) (by decide) (fun K hK => ?_)
      refine goes_ Try.func14 (by kernel_rfl) rfl #[.agg #[.int .i64 ((rd_T25 l1 x12_1).f0.f0), .int .i64 ((rd_T25 l1 x12_1).f0.f1), .int .i64 ((rd_T25 l1 x12_1).f0.f2), .int .i64 ((rd_T25 l1 x12_1).f1.f0), .int .i64 ((rd_T25 l1 x12_1).f1.f1), .int .i64 ((rd_T25 l1 x12_1).f1.f2)], .agg #[.int .i64 a2_0, .int .i64 a2_1, .int .i64 a2_2]] (by rfl) rfl rfl (by (try simp only [pml]); first | done | rfl | (simp only [pdt]; rfl)) ?_
      with_reducible refine (box_Has.calls k1 ((rd_T25 l1 x12_1).f0.f0) ((rd_T25 l1 x12_1).f0.f1) ((rd_T25 l1 x12_1).f0.f2) ((rd_T25 l1 x12_1).f1.f0) ((rd_T25 l1 x12_1).f1.f1) ((rd_T25 l1 x12_1).f1.f2) a2_0 a2_1 a2_2 t391 _ A63.out).mono ?_
      rintro e w66 ⟨rfl, hb⟩
      refine ⟨_, rfl, ?_⟩
      have n0_ := bB BK373 hb
      have n1_ := bB BK374 hb
      have n2_ := bB BK380 hb
      have n3_ := bS HB hb
      clear BK373 BK374 BK380 HB
      have BK373 := n0_
      have BK374 := n1_
      have BK380 := n2_
      have HB := n3_
      clear n0_ n1_ n2_ n3_
      (try clear hb)
      (try clear hb2)
      (try clear hk)
      (try clear hi)
      refine hK.out _ _ ⟨(bc BK374.out 0).trans rfl, (bc BK374.out 1).trans rfl, (bc BK374.out 2).trans rfl, ((HB.out.cell (bq w _ hw390_0)).trans hw390_0), ((HB.out.cell (bq w _ hw390_1)).trans hw390_1), ((HB.out.cell (bq w _ hw390_2)).trans hw390_2), ((HB.out.cell (bq w _ hw390_3)).trans hw390_3), ((HB.out.cell (bq w _ hw390_4)).trans hw390_4), ((HB.out.cell (bq w _ hw390_5)).trans hw390_5)⟩ (fun hHeld => ?_)
      clear hK K
      refine norm_ (a' := ?_) ?_ ?_
      rotate_left
      ·show Act.put _ (some 72) _ = _
       simp only [Act.put, psl, i64_w, i32_w]
       rfl
      refine pu (i := 8) (N := some 73) (fl 11 9 []) HT_ ?_
      refine pu (i := 9) (N := some 74) (fl 11 10 []) HT_ ?_
      refine pu (i := 10) (N := some 11) (fl 11 11 []) HT_ ?_
      refine done_ (done_of HT_.out (by kernel_rfl)) ?_
      try go_wp2
      go_meet
      case rel => exact ⟨_, (!t391), (by first | rfl | (simp; done) | (simp [*]; done)), H', ⟨by have := HK1.out; first | omega | exact Nat.le_refl _⟩, ⟨by (with_reducible repeat first | apply bN | apply bd | apply ba); exact BK373.out⟩, ⟨by (with_reducible repeat first | apply bN | apply bd | apply ba); exact BK374.out⟩, ⟨by (with_reducible repeat first | apply bN | apply bd | apply ba); exact BK380.out⟩, ⟨by repeat (first | (with_reducible first | exact HB.out | apply wa | apply wN | apply wd | refine ws ?_ GE373.out | refine ws ?_ GE374.out | refine ws ?_ GE380.out) | exact HB.out)⟩⟩
     rw [if_pos c46] at H
     have c46b0 : (t379 == 0) = true := beq_iff_eq.mpr c46
     have c46b1 : (t379 != 0) = false := bne_eq_false_iff_eq.mpr c46
     clear c46
     (first | rw [c46b0] | (simp only [i64_w, i32_w]; rw [c46b0]) | skip)
     by_cases c47 : 0 ≤ x12_1
     rotate_left
     ·rw [if_neg c47] at H
      exact absurd H (by simp)
     rw [if_pos c47] at H
     have c47b0 : decide (0 ≤ x12_1) = true := decide_eq_true c47
     clear c47
     replace H := Option.bind_eq_some_iff.mp H
     obtain ⟨t387, A480, H⟩ := H
     replace H : (if t387 = true then (some false) else (if x11_1 = true then ((box_Has.f k1 ((rd_T25 l1 x12_1).f0.f0) ((rd_T25 l1 x12_1).f0.f1) ((rd_T25 l1 x12_1).f0.f2) ((rd_T25 l1 x12_1).f1.f0) ((rd_T25 l1 x12_1).f1.f1) ((rd_T25 l1 x12_1).f1.f2) a2_0 a2_1 a2_2).bind fun t389 => (w_BoxGap.j1 k1 l1 t379 (!t389) x12_1 a0_0 a0_1 a0_2 a0_3 a0_4 a0_5 a2_0 a2_1 a2_2 t376 t377 t378)) else (w_BoxGap.j1 k1 l1 t379 false x12_1 a0_0 a0_1 a0_2 a0_3 a0_4 a0_5 a2_0 a2_1 a2_2 t376 t377 t378))) = some r := H
     have A48 := am A480
     clear A480
     by_cases c49 : t387 = true
     ·subst c49
      have H1 : (some false) = some r := by rw [if_pos rfl] at H; exact H
      clear H
      have H := H1
      clear H1
      obtain rfl := Option.some.inj H
      try go_wp2
      have n0_ := am (bd BK373.out)
      have n1_ := am (bd BK374.out)
      have n2_ := am (bd BK380.out)
      have n3_ := am (wd HB.out)
      clear BK373 BK374 BK380 HB
      have BK373 := n0_
      have BK374 := n1_
      have BK380 := n2_
      have HB := n3_
      clear n0_ n1_ n2_ n3_
      have p386 : 0 ≤ (x12_1 : Int) := of_decide_eq_true (by assumption)
      have q386 : x12_1 < (l1.length : Int) := of_decide_eq_true (by assumption)
      obtain ⟨ad386, e386, hx386_0, hx386_1, hx386_2, hx386_3, hx386_4, hx386_5⟩ := at_T25 HR1.out x12_1 p386 q386
      have hw386_5 := hx386_5
      have hw386_4 := hx386_4
      have hw386_3 := hx386_3
      have hw386_2 := hx386_2
      have hw386_1 := hx386_1
      have hw386_0 := hx386_0
      cases e386
      replace hx386_0 := cl HB hx386_0
      replace hx386_1 := cl HB hx386_1
      replace hx386_2 := cl HB hx386_2
      replace hx386_3 := cl HB hx386_3
      replace hx386_4 := cl HB hx386_4
      replace hx386_5 := cl HB hx386_5
      replace p386 := eq_true p386
      replace q386 := eq_true q386
      refine start_ (n := 10) (S := fun w' => w'.cell? ⟨gb380, 0, none⟩ = some (.int .i64 t376) ∧ w'.cell? ⟨gb380, 1, none⟩ = some (.int .i64 t377) ∧ w'.cell? ⟨gb380, 2, none⟩ = some (.int .i64 t378) ∧ w'.cell? (ad386.add ((x12_1).toNat * 6)) = some (.int .i64 ((rd_T25 l1 x12_1).f0.f0)) ∧ w'.cell? ⟨(ad386.add ((x12_1).toNat * 6)).block, (ad386.add ((x12_1).toNat * 6)).off + 1, none⟩ = some (.int .i64 ((rd_T25 l1 x12_1).f0.f1)) ∧ w'.cell? ⟨(ad386.add ((x12_1).toNat * 6)).block, (ad386.add ((x12_1).toNat * 6)).off + 2, none⟩ = some (.int .i64 ((rd_T25 l1 x12_1).f0.f2)) ∧ w'.cell? ⟨(ad386.add ((x12_1).toNat * 6)).block, (ad386.add ((x12_1).toNat * 6)).off + 3, none⟩ = some (.int .i64 ((rd_T25 l1 x12_1).f1.f0)) ∧ w'.cell? ⟨(ad386.add ((x12_1).toNat * 6)).block, (ad386.add ((x12_1).toNat * 6)).off + 4, none⟩ = some (.int .i64 ((rd_T25 l1 x12_1).f1.f1)) ∧ w'.cell? ⟨(ad386.add ((x12_1).toNat * 6)).block, (ad386.add ((x12_1).toNat * 6)).off + 5, none⟩ = some (.int .i64 ((rd_T25 l1 x12_1).f1.f2))) (ds := []) #[F,F,F,F,F,F,F,F,F,F] (by kernel_rfl) rfl rfl ⟨(bc BK380.out 0).trans rfl, (bc BK380.out 1).trans rfl, (bc BK380.out 2).trans rfl, ((HB.out.cell (bq w _ hw386_0)).trans hw386_0), ((HB.out.cell (bq w _ hw386_1)).trans hw386_1), ((HB.out.cell (bq w _ hw386_2)).trans hw386_2), ((HB.out.cell (bq w _ hw386_3)).trans hw386_3), ((HB.out.cell (bq w _ hw386_4)).trans hw386_4), ((HB.out.cell (bq w _ hw386_5)).trans hw386_5)⟩ (fun hHeld => ?_); refine with_tabW w_BoxGap.tab15 w_BoxGap.bits15 (fun HT_ HW_ => ?_)
      generalize wr.drew = w50 at BK373 BK374 BK380 HB hx386_0 hx386_1 hx386_2 hx386_3 hx386_4 hx386_5 hHeld ⊢
      refine pu (i := 0) (N := some 55) (fl 10 1 []) HT_ ?_
      refine pu (i := 1) (N := some 56) (fl 10 2 []) HT_ ?_
      refine pu (i := 2) (N := some 57) (fl 10 3 []) HT_ ?_
      refine pu (i := 3) (N := some 58) (fl 10 4 []) HT_ ?_
      refine pu (i := 4) (N := some 59) (fl 10 5 []) HT_ ?_
      refine pu (i := 5) (N := some 60) (fl 10 6 []) HT_ ?_
      refine tk (i := 6) (N := some 61) (fl 10 7 []) HT_ HW_ hHeld ?_
      refine tk (i := 7) (N := some 62) (fl 10 8 []) HT_ HW_ hHeld ?_
      refine one_ (i := 8) (N := some 63) (fl 10 9 []) rfl rfl (one_of HT_.out (by kernel_rfl)) (by decide) (fun K hK => ?_)
      refine goes_ Try.func14 (by kernel_rfl) rfl #[.agg #[.int .i64 ((rd_T25 l1 x12_1).f0.f0), .int .i64 ((rd_T25 l1 x12_1).f0.f1), .int .i64 ((rd_T25 l1 x12_1).f0.f2), .int .i64 ((rd_T25 l1 x12_1).f1.f0), .int .i64 ((rd_T25 l1 x12_1).f1.f1), .int .i64 ((rd_T25 l1 x12_1).f1.f2)], .agg #[.int .i64 t376, .int .i64 t377, .int .i64 t378]] (by rfl) rfl rfl (by (try simp only [pml]); first | done | rfl | (simp only [pdt]; rfl)) ?_
      with_reducible refine (box_Has.calls k1 ((rd_T25 l1 x12_1).f0.f0) ((rd_T25 l1 x12_1).f0.f1) ((rd_T25 l1 x12_1).f0.f2) ((rd_T25 l1 x12_1).f1.f0) ((rd_T25 l1 x12_1).f1.f1) ((rd_T25 l1 x12_1).f1.f2) t376 t377 t378 true _ A48.out).mono ?_
      rintro e w51 ⟨rfl, hb⟩
      refine ⟨_, rfl, ?_⟩
      have n0_ := bB BK373 hb
      have n1_ := bB BK374 hb
      have n2_ := bB BK380 hb
      have n3_ := bS HB hb
      clear BK373 BK374 BK380 HB
      have BK373 := n0_
      have BK374 := n1_
      have BK380 := n2_
      have HB := n3_
      clear n0_ n1_ n2_ n3_
      (try clear hb)
      (try clear hb2)
      (try clear hk)
      (try clear hi)
      refine hK.out _ _ ⟨(bc BK380.out 0).trans rfl, (bc BK380.out 1).trans rfl, (bc BK380.out 2).trans rfl, ((HB.out.cell (bq w _ hw386_0)).trans hw386_0), ((HB.out.cell (bq w _ hw386_1)).trans hw386_1), ((HB.out.cell (bq w _ hw386_2)).trans hw386_2), ((HB.out.cell (bq w _ hw386_3)).trans hw386_3), ((HB.out.cell (bq w _ hw386_4)).trans hw386_4), ((HB.out.cell (bq w _ hw386_5)).trans hw386_5)⟩ (fun hHeld => ?_)
      clear hK K
      refine norm_ (a' := ?_) ?_ ?_
      rotate_left
      ·show Act.put _ (some 63) _ = _
       simp only [Act.put, psl, i64_w, i32_w]
       rfl
      refine pu (i := 9) (N := some 64) (fl 10 10 []) HT_ ?_
      refine done_ (done_of HT_.out (by kernel_rfl)) ?_
      try go_wp2
      go_ret
      exact ⟨by first | rfl | (simp [errW_none, errW_some] <;> rfl) | (simp [*, errW_none, errW_some] <;> rfl), by repeat (first | (with_reducible first | exact HB.out | apply wa | apply wN | apply wd | refine ws ?_ GE373.out | refine ws ?_ GE374.out | refine ws ?_ GE380.out) | exact HB.out)⟩
     replace c49 := Bool.eq_false_iff.mpr c49
     subst c49
     have H1 : (if x11_1 = true then ((box_Has.f k1 ((rd_T25 l1 x12_1).f0.f0) ((rd_T25 l1 x12_1).f0.f1) ((rd_T25 l1 x12_1).f0.f2) ((rd_T25 l1 x12_1).f1.f0) ((rd_T25 l1 x12_1).f1.f1) ((rd_T25 l1 x12_1).f1.f2) a2_0 a2_1 a2_2).bind fun t389 => (w_BoxGap.j1 k1 l1 t379 (!t389) x12_1 a0_0 a0_1 a0_2 a0_3 a0_4 a0_5 a2_0 a2_1 a2_2 t376 t377 t378)) else (w_BoxGap.j1 k1 l1 t379 false x12_1 a0_0 a0_1 a0_2 a0_3 a0_4 a0_5 a2_0 a2_1 a2_2 t376 t377 t378)) = some r := by rw [if_neg (show ¬ (false = true) by decide)] at H; exact H
     clear H
     have H := H1
     clear H1
     by_cases c52 : x11_1 = true
     rotate_left
     ·replace c52 := Bool.eq_false_iff.mpr c52
      subst c52
      have H1 : (w_BoxGap.j1 k1 l1 t379 false x12_1 a0_0 a0_1 a0_2 a0_3 a0_4 a0_5 a2_0 a2_1 a2_2 t376 t377 t378) = some r := by rw [if_neg (show ¬ (false = true) by decide)] at H; exact H
      clear H
      have H := H1
      clear H1
      have H' := am H
      clear H
      try go_wp2
      have n0_ := am (bd BK373.out)
      have n1_ := am (bd BK374.out)
      have n2_ := am (bd BK380.out)
      have n3_ := am (wd HB.out)
      clear BK373 BK374 BK380 HB
      have BK373 := n0_
      have BK374 := n1_
      have BK380 := n2_
      have HB := n3_
      clear n0_ n1_ n2_ n3_
      have p386 : 0 ≤ (x12_1 : Int) := of_decide_eq_true (by assumption)
      have q386 : x12_1 < (l1.length : Int) := of_decide_eq_true (by assumption)
      obtain ⟨ad386, e386, hx386_0, hx386_1, hx386_2, hx386_3, hx386_4, hx386_5⟩ := at_T25 HR1.out x12_1 p386 q386
      have hw386_5 := hx386_5
      have hw386_4 := hx386_4
      have hw386_3 := hx386_3
      have hw386_2 := hx386_2
      have hw386_1 := hx386_1
      have hw386_0 := hx386_0
      cases e386
      replace hx386_0 := cl HB hx386_0
      replace hx386_1 := cl HB hx386_1
      replace hx386_2 := cl HB hx386_2
      replace hx386_3 := cl HB hx386_3
      replace hx386_4 := cl HB hx386_4
      replace hx386_5 := cl HB hx386_5
      replace p386 := eq_true p386
      replace q386 := eq_true q386
      refine start_ (n := 10) (S := fun w' => w'.cell? ⟨gb380, 0, none⟩ = some (.int .i64 t376) ∧ w'.cell? ⟨gb380, 1, none⟩ = some (.int .i64 t377) ∧ w'.cell? ⟨gb380, 2, none⟩ = some (.int .i64 t378) ∧ w'.cell? (ad386.add ((x12_1).toNat * 6)) = some (.int .i64 ((rd_T25 l1 x12_1).f0.f0)) ∧ w'.cell? ⟨(ad386.add ((x12_1).toNat * 6)).block, (ad386.add ((x12_1).toNat * 6)).off + 1, none⟩ = some (.int .i64 ((rd_T25 l1 x12_1).f0.f1)) ∧ w'.cell? ⟨(ad386.add ((x12_1).toNat * 6)).block, (ad386.add ((x12_1).toNat * 6)).off + 2, none⟩ = some (.int .i64 ((rd_T25 l1 x12_1).f0.f2)) ∧ w'.cell? ⟨(ad386.add ((x12_1).toNat * 6)).block, (ad386.add ((x12_1).toNat * 6)).off + 3, none⟩ = some (.int .i64 ((rd_T25 l1 x12_1).f1.f0)) ∧ w'.cell? ⟨(ad386.add ((x12_1).toNat * 6)).block, (ad386.add ((x12_1).toNat * 6)).off + 4, none⟩ = some (.int .i64 ((rd_T25 l1 x12_1).f1.f1)) ∧ w'.cell? ⟨(ad386.add ((x12_1).toNat * 6)).block, (ad386.add ((x12_1).toNat * 6)).off + 5, none⟩ = some (.int .i64 ((rd_T25 l1 x12_1).f1.f2))) (ds := []) #[F,F,F,F,F,F,F,F,F,F] (by kernel_rfl) rfl rfl ⟨(bc BK380.out 0).trans rfl, (bc BK380.out 1).trans rfl, (bc BK380.out 2).trans rfl, ((HB.out.cell (bq w _ hw386_0)).trans hw386_0), ((HB.out.cell (bq w _ hw386_1)).trans hw386_1), ((HB.out.cell (bq w _ hw386_2)).trans hw386_2), ((HB.out.cell (bq w _ hw386_3)).trans hw386_3), ((HB.out.cell (bq w _ hw386_4)).trans hw386_4), ((HB.out.cell (bq w _ hw386_5)).trans hw386_5)⟩ (fun hHeld => ?_); refine with_tabW w_BoxGap.tab15 w_BoxGap.bits15 (fun HT_ HW_ => ?_)
      generalize wr.drew = w58 at BK373 BK374 BK380 HB hx386_0 hx386_1 hx386_2 hx386_3 hx386_4 hx386_5 hHeld ⊢
      refine pu (i := 0) (N := some 55) (fl 10 1 []) HT_ ?_
      refine pu (i := 1) (N := some 56) (fl 10 2 []) HT_ ?_
      refine pu (i := 2) (N := some 57) (fl 10 3 []) HT_ ?_
      refine pu (i := 3) (N := some 58) (fl 10 4 []) HT_ ?_
      refine pu (i := 4) (N := some 59) (fl 10 5 []) HT_ ?_
      refine pu (i := 5) (N := some 60) (fl 10 6 []) HT_ ?_
      refine tk (i := 6) (N := some 61) (fl 10 7 []) HT_ HW_ hHeld ?_
      refine tk (i := 7) (N := some 62) (fl 10 8 []) HT_ HW_ hHeld ?_
      refine one_ (i := 8) (N := some 63) (fl 10 9 []) rfl rfl (one_of HT_.out (by kernel_rfl)) (by decide) (fun K hK => ?_)
      refine goes_ Try.func14 (by kernel_rfl) rfl #[.agg #[.int .i64 ((rd_T25 l1 x12_1).f0.f0), .int .i64 ((rd_T25 l1 x12_1).f0.f1), .int .i64 ((rd_T25 l1 x12_1).f0.f2), .int .i64 ((rd_T25 l1 x12_1).f1.f0), .int .i64 ((rd_T25 l1 x12_1).f1.f1), .int .i64 ((rd_T25 l1 x12_1).f1.f2)], .agg #[.int .i64 t376, .int .i64 t377, .int .i64 t378]] (by rfl) rfl rfl (by (try simp only [pml]); first | done | rfl | (simp only [pdt]; rfl)) ?_
      with_reducible refine (box_Has.calls k1 ((rd_T25 l1 x12_1).f0.f0) ((rd_T25 l1 x12_1).f0.f1) ((rd_T25 l1 x12_1).f0.f2) ((rd_T25 l1 x12_1).f1.f0) ((rd_T25 l1 x12_1).f1.f1) ((rd_T25 l1 x12_1).f1.f2) t376 t377 t378 false _ A48.out).mono ?_
      rintro e w59 ⟨rfl, hb⟩
      refine ⟨_, rfl, ?_⟩
      have n0_ := bB BK373 hb
      have n1_ := bB BK374 hb
      have n2_ := bB BK380 hb
      have n3_ := bS HB hb
      clear BK373 BK374 BK380 HB
      have BK373 := n0_
      have BK374 := n1_
      have BK380 := n2_
      have HB := n3_
      clear n0_ n1_ n2_ n3_
      (try clear hb)
      (try clear hb2)
      (try clear hk)
      (try clear hi)
      refine hK.out _ _ ⟨(bc BK380.out 0).trans rfl, (bc BK380.out 1).trans rfl, (bc BK380.out 2).trans rfl, ((HB.out.cell (bq w _ hw386_0)).trans hw386_0), ((HB.out.cell (bq w _ hw386_1)).trans hw386_1), ((HB.out.cell (bq w _ hw386_2)).trans hw386_2), ((HB.out.cell (bq w _ hw386_3)).trans hw386_3), ((HB.out.cell (bq w _ hw386_4)).trans hw386_4), ((HB.out.cell (bq w _ hw386_5)).trans hw386_5)⟩ (fun hHeld => ?_)
      clear hK K
      refine norm_ (a' := ?_) ?_ ?_
      rotate_left
      ·show Act.put _ (some 63) _ = _
       simp only [Act.put, psl, i64_w, i32_w]
       rfl
      refine pu (i := 9) (N := some 64) (fl 10 10 []) HT_ ?_
      refine done_ (done_of HT_.out (by kernel_rfl)) ?_
      try go_wp2
      have n0_ := am (bd BK373.out)
      have n1_ := am (bd BK374.out)
      have n2_ := am (bd BK380.out)
      have n3_ := am (wd HB.out)
      clear BK373 BK374 BK380 HB
      have BK373 := n0_
      have BK374 := n1_
      have BK380 := n2_
      have HB := n3_
      clear n0_ n1_ n2_ n3_
      refine start_ (n := 11) (S := fun w' => True) (ds := []) #[F,F,F,F,F,F,F,F,F,F,F] (by kernel_rfl) rfl rfl trivial (fun hHeld => ?_); refine with_tabW w_BoxGap.tab17 w_BoxGap.bits17 (fun HT_ HW_ => ?_)
      generalize w59.drew = w60 at BK373 BK374 BK380 HB hHeld ⊢
      refine pu (i := 0) (N := some 65) (fl 11 1 []) HT_ ?_
      refine pu (i := 1) (N := some 66) (fl 11 2 []) HT_ ?_
      refine pure_ (i := 2) (N := some 67) (v := undef) (a' := ?_) #[T,T,T,F,F,F,F,F,F,F,F] rfl rfl (any_of HT_.out (by kernel_rfl)) (fun _ _ _ h => h) (Or.inr ⟨by rfl, rfl⟩) ?_ ?_
      rotate_left
      ·simp only [Act.put, psl, i64_w, i32_w]
       rfl
      refine pure_ (i := 3) (N := some 68) (v := undef) (a' := ?_) #[T,T,T,T,F,F,F,F,F,F,F] rfl rfl (any_of HT_.out (by kernel_rfl)) (fun _ _ _ h => h) (Or.inr ⟨by rfl, rfl⟩) ?_ ?_
      rotate_left
      ·simp only [Act.put, psl, i64_w, i32_w]
       rfl
      refine pure_ (i := 4) (N := some 69) (v := undef) (a' := ?_) #[T,T,T,T,T,F,F,F,F,F,F] rfl rfl (any_of HT_.out (by kernel_rfl)) (fun _ _ _ h => h) (Or.inr ⟨by rfl, rfl⟩) ?_ ?_
      rotate_left
      ·simp only [Act.put, psl, i64_w, i32_w]
       rfl
      refine pure_ (i := 5) (N := some 70) (v := undef) (a' := ?_) #[T,T,T,T,T,T,F,F,F,F,F] rfl rfl (any_of HT_.out (by kernel_rfl)) (fun _ _ _ h => h) (Or.inr ⟨by rfl, rfl⟩) ?_ ?_
      rotate_left
      ·simp only [Act.put, psl, i64_w, i32_w]
       rfl
      refine pure_ (i := 6) (N := some 71) (v := undef) (a' := ?_) #[T,T,T,T,T,T,T,F,F,F,F] rfl rfl (any_of HT_.out (by kernel_rfl)) (fun _ _ _ h => h) (Or.inr ⟨by rfl, rfl⟩) ?_ ?_
      rotate_left
      ·simp only [Act.put, psl, i64_w, i32_w]
       rfl
      refine pure_ (i := 7) (N := some 72) (v := undef) (a' := ?_) #[T,T,T,T,T,T,T,T,F,F,F] rfl rfl (any_of HT_.out (by kernel_rfl)) (fun _ _ _ h => h) (Or.inr ⟨by rfl, rfl⟩) ?_ ?_
      rotate_left
      ·simp only [Act.put, psl, i64_w, i32_w]
       rfl
      refine pure_ (i := 8) (N := some 73) (v := undef) (a' := ?_) #[T,T,T,T,T,T,T,T,T,F,F] rfl rfl (any_of HT_.out (by kernel_rfl)) (fun _ _ _ h => h) (Or.inr ⟨by rfl, rfl⟩) ?_ ?_
      rotate_left
      ·simp only [Act.put, psl, i64_w, i32_w]
       rfl
      refine pu (i := 9) (N := some 74) (fl 11 10 []) HT_ ?_
      refine pu (i := 10) (N := some 11) (fl 11 11 []) HT_ ?_
      refine done_ (done_of HT_.out (by kernel_rfl)) ?_
      try go_wp2
      go_meet
      case rel => exact ⟨_, (false), (by first | rfl | (simp; done) | (simp [*]; done)), H', ⟨by have := HK1.out; first | omega | exact Nat.le_refl _⟩, ⟨by (with_reducible repeat first | apply bN | apply bd | apply ba); exact BK373.out⟩, ⟨by (with_reducible repeat first | apply bN | apply bd | apply ba); exact BK374.out⟩, ⟨by (with_reducible repeat first | apply bN | apply bd | apply ba); exact BK380.out⟩, ⟨by repeat (first | (with_reducible first | exact HB.out | apply wa | apply wN | apply wd | refine ws ?_ GE373.out | refine ws ?_ GE374.out | refine ws ?_ GE380.out) | exact HB.out)⟩⟩
     subst c52
     have H1 : ((box_Has.f k1 ((rd_T25 l1 x12_1).f0.f0) ((rd_T25 l1 x12_1).f0.f1) ((rd_T25 l1 x12_1).f0.f2) ((rd_T25 l1 x12_1).f1.f0) ((rd_T25 l1 x12_1).f1.f1) ((rd_T25 l1 x12_1).f1.f2) a2_0 a2_1 a2_2).bind fun t389 => (w_BoxGap.j1 k1 l1 t379 (!t389) x12_1 a0_0 a0_1 a0_2 a0_3 a0_4 a0_5 a2_0 a2_1 a2_2 t376 t377 t378)) = some r := by rw [if_pos rfl] at H; exact H
     clear H
     have H := H1
     clear H1
     replace H := Option.bind_eq_some_iff.mp H
     obtain ⟨t389, A530, H⟩ := H
     replace H : (w_BoxGap.j1 k1 l1 t379 (!t389) x12_1 a0_0 a0_1 a0_2 a0_3 a0_4 a0_5 a2_0 a2_1 a2_2 t376 t377 t378) = some r := H
     have A53 := am A530
     clear A530
     have H' := am H
     clear H
     try go_wp2
     have n0_ := am (bd BK373.out)
     have n1_ := am (bd BK374.out)
     have n2_ := am (bd BK380.out)
     have n3_ := am (wd HB.out)
     clear BK373 BK374 BK380 HB
     have BK373 := n0_
     have BK374 := n1_
     have BK380 := n2_
     have HB := n3_
     clear n0_ n1_ n2_ n3_
     have p386 : 0 ≤ (x12_1 : Int) := of_decide_eq_true (by assumption)
     have q386 : x12_1 < (l1.length : Int) := of_decide_eq_true (by assumption)
     obtain ⟨ad386, e386, hx386_0, hx386_1, hx386_2, hx386_3, hx386_4, hx386_5⟩ := at_T25 HR1.out x12_1 p386 q386
     have hw386_5 := hx386_5
     have hw386_4 := hx386_4
     have hw386_3 := hx386_3
     have hw386_2 := hx386_2
     have hw386_1 := hx386_1
     have hw386_0 := hx386_0
     cases e386
     replace hx386_0 := cl HB hx386_0
     replace hx386_1 := cl HB hx386_1
     replace hx386_2 := cl HB hx386_2
     replace hx386_3 := cl HB hx386_3
     replace hx386_4 := cl HB hx386_4
     replace hx386_5 := cl HB hx386_5
     replace p386 := eq_true p386
     replace q386 := eq_true q386
     refine start_ (n := 10) (S := fun w' => w'.cell? ⟨gb380, 0, none⟩ = some (.int .i64 t376) ∧ w'.cell? ⟨gb380, 1, none⟩ = some (.int .i64 t377) ∧ w'.cell? ⟨gb380, 2, none⟩ = some (.int .i64 t378) ∧ w'.cell? (ad386.add ((x12_1).toNat * 6)) = some (.int .i64 ((rd_T25 l1 x12_1).f0.f0)) ∧ w'.cell? ⟨(ad386.add ((x12_1).toNat * 6)).block, (ad386.add ((x12_1).toNat * 6)).off + 1, none⟩ = some (.int .i64 ((rd_T25 l1 x12_1).f0.f1)) ∧ w'.cell? ⟨(ad386.add ((x12_1).toNat * 6)).block, (ad386.add ((x12_1).toNat * 6)).off + 2, none⟩ = some (.int .i64 ((rd_T25 l1 x12_1).f0.f2)) ∧ w'.cell? ⟨(ad386.add ((x12_1).toNat * 6)).block, (ad386.add ((x12_1).toNat * 6)).off + 3, none⟩ = some (.int .i64 ((rd_T25 l1 x12_1).f1.f0)) ∧ w'.cell? ⟨(ad386.add ((x12_1).toNat * 6)).block, (ad386.add ((x12_1).toNat * 6)).off + 4, none⟩ = some (.int .i64 ((rd_T25 l1 x12_1).f1.f1)) ∧ w'.cell? ⟨(ad386.add ((x12_1).toNat * 6)).block, (ad386.add ((x12_1).toNat * 6)).off + 5, none⟩ = some (.int .i64 ((rd_T25 l1 x12_1).f1.f2))) (ds := []) #[F,F,F,F,F,F,F,F,F,F] (by kernel_rfl) rfl rfl ⟨(bc BK380.out 0).trans rfl, (bc BK380.out 1).trans rfl, (bc BK380.out 2).trans rfl, ((HB.out.cell (bq w _ hw386_0)).trans hw386_0), ((HB.out.cell (bq w _ hw386_1)).trans hw386_1), ((HB.out.cell (bq w _ hw386_2)).trans hw386_2), ((HB.out.cell (bq w _ hw386_3)).trans hw386_3), ((HB.out.cell (bq w _ hw386_4)).trans hw386_4), ((HB.out.cell (bq w _ hw386_5)).trans hw386_5)⟩ (fun hHeld => ?_); refine with_tabW w_BoxGap.tab15 w_BoxGap.bits15 (fun HT_ HW_ => ?_)
     generalize wr.drew = w54 at BK373 BK374 BK380 HB hx386_0 hx386_1 hx386_2 hx386_3 hx386_4 hx386_5 hHeld ⊢
     refine pu (i := 0) (N := some 55) (fl 10 1 []) HT_ ?_
     refine pu (i := 1) (N := some 56) (fl 10 2 []) HT_ ?_
     refine pu (i := 2) (N := some 57) (fl 10 3 []) HT_ ?_
     refine pu (i := 3) (N := some 58) (fl 10 4 []) HT_ ?_
     refine pu (i := 4) (N := some 59) (fl 10 5 []) HT_ ?_
     refine pu (i := 5) (N := some 60) (fl 10 6 []) HT_ ?_
     refine tk (i := 6) (N := some 61) (fl 10 7 []) HT_ HW_ hHeld ?_
     refine tk (i := 7) (N := some 62) (fl 10 8 []) HT_ HW_ hHeld ?_
     refine one_ (i := 8) (N := some 63) (fl 10 9 []) rfl rfl (one_of HT_.out (by kernel_rfl)) (by decide) (fun K hK => ?_)
     refine goes_ Try.func14 (by kernel_rfl) rfl #[.agg #[.int .i64 ((rd_T25 l1 x12_1).f0.f0), .int .i64 ((rd_T25 l1 x12_1).f0.f1), .int .i64 ((rd_T25 l1 x12_1).f0.f2), .int .i64 ((rd_T25 l1 x12_1).f1.f0), .int .i64 ((rd_T25 l1 x12_1).f1.f1), .int .i64 ((rd_T25 l1 x12_1).f1.f2)], .agg #[.int .i64 t376, .int .i64 t377, .int .i64 t378]] (by rfl) rfl rfl (by (try simp only [pml]); first | done | rfl | (simp only [pdt]; rfl)) ?_
     with_reducible refine (box_Has.calls k1 ((rd_T25 l1 x12_1).f0.f0) ((rd_T25 l1 x12_1).f0.f1) ((rd_T25 l1 x12_1).f0.f2) ((rd_T25 l1 x12_1).f1.f0) ((rd_T25 l1 x12_1).f1.f1) ((rd_T25 l1 x12_1).f1.f2) t376 t377 t378 false _ A48.out).mono ?_
     rintro e w55 ⟨rfl, hb⟩
     refine ⟨_, rfl, ?_⟩
     have n0_ := bB BK373 hb
     have n1_ := bB BK374 hb
     have n2_ := bB BK380 hb
     have n3_ := bS HB hb
     clear BK373 BK374 BK380 HB
     have BK373 := n0_
     have BK374 := n1_
     have BK380 := n2_
     have HB := n3_
     clear n0_ n1_ n2_ n3_
     (try clear hb)
     (try clear hb2)
     (try clear hk)
     (try clear hi)
     refine hK.out _ _ ⟨(bc BK380.out 0).trans rfl, (bc BK380.out 1).trans rfl, (bc BK380.out 2).trans rfl, ((HB.out.cell (bq w _ hw386_0)).trans hw386_0), ((HB.out.cell (bq w _ hw386_1)).trans hw386_1), ((HB.out.cell (bq w _ hw386_2)).trans hw386_2), ((HB.out.cell (bq w _ hw386_3)).trans hw386_3), ((HB.out.cell (bq w _ hw386_4)).trans hw386_4), ((HB.out.cell (bq w _ hw386_5)).trans hw386_5)⟩ (fun hHeld => ?_)
     clear hK K
     refine norm_ (a' := ?_) ?_ ?_
     rotate_left
     ·show Act.put _ (some 63) _ = _
      simp only [Act.put, psl, i64_w, i32_w]
      rfl
     refine pu (i := 9) (N := some 64) (fl 10 10 []) HT_ ?_
     refine done_ (done_of HT_.out (by kernel_rfl)) ?_
     try go_wp2
     have n0_ := am (bd BK373.out)
     have n1_ := am (bd BK374.out)
     have n2_ := am (bd BK380.out)
     have n3_ := am (wd HB.out)
     clear BK373 BK374 BK380 HB
     have BK373 := n0_
     have BK374 := n1_
     have BK380 := n2_
     have HB := n3_
     clear n0_ n1_ n2_ n3_
     have p388 : 0 ≤ (x12_1 : Int) := of_decide_eq_true (by assumption)
     have q388 : x12_1 < (l1.length : Int) := of_decide_eq_true (by assumption)
     obtain ⟨ad388, e388, hx388_0, hx388_1, hx388_2, hx388_3, hx388_4, hx388_5⟩ := at_T25 HR1.out x12_1 p388 q388
     have hw388_5 := hx388_5
     have hw388_4 := hx388_4
     have hw388_3 := hx388_3
     have hw388_2 := hx388_2
     have hw388_1 := hx388_1
     have hw388_0 := hx388_0
     obtain rfl : ad386 = ad388 := (by injection e388)
     replace hx388_0 := cl HB hx388_0
     replace hx388_1 := cl HB hx388_1
     replace hx388_2 := cl HB hx388_2
     replace hx388_3 := cl HB hx388_3
     replace hx388_4 := cl HB hx388_4
     replace hx388_5 := cl HB hx388_5
     replace p388 := eq_true p388
     replace q388 := eq_true q388
     refine start_ (n := 11) (S := fun w' => w'.cell? ⟨gb374, 0, none⟩ = some (.int .i64 a2_0) ∧ w'.cell? ⟨gb374, 1, none⟩ = some (.int .i64 a2_1) ∧ w'.cell? ⟨gb374, 2, none⟩ = some (.int .i64 a2_2) ∧ w'.cell? (ad386.add ((x12_1).toNat * 6)) = some (.int .i64 ((rd_T25 l1 x12_1).f0.f0)) ∧ w'.cell? ⟨(ad386.add ((x12_1).toNat * 6)).block, (ad386.add ((x12_1).toNat * 6)).off + 1, none⟩ = some (.int .i64 ((rd_T25 l1 x12_1).f0.f1)) ∧ w'.cell? ⟨(ad386.add ((x12_1).toNat * 6)).block, (ad386.add ((x12_1).toNat * 6)).off + 2, none⟩ = some (.int .i64 ((rd_T25 l1 x12_1).f0.f2)) ∧ w'.cell? ⟨(ad386.add ((x12_1).toNat * 6)).block, (ad386.add ((x12_1).toNat * 6)).off + 3, none⟩ = some (.int .i64 ((rd_T25 l1 x12_1).f1.f0)) ∧ w'.cell? ⟨(ad386.add ((x12_1).toNat * 6)).block, (ad386.add ((x12_1).toNat * 6)).off + 4, none⟩ = some (.int .i64 ((rd_T25 l1 x12_1).f1.f1)) ∧ w'.cell? ⟨(ad386.add ((x12_1).toNat * 6)).block, (ad386.add ((x12_1).toNat * 6)).off + 5, none⟩ = some (.int .i64 ((rd_T25 l1 x12_1).f1.f2))) (ds := []) #[F,F,F,F,F,F,F,F,F,F,F] (by kernel_rfl) rfl rfl ⟨(bc BK374.out 0).trans rfl, (bc BK374.out 1).trans rfl, (bc BK374.out 2).trans rfl, ((HB.out.cell (bq w _ hw388_0)).trans hw388_0), ((HB.out.cell (bq w _ hw388_1)).trans hw388_1), ((HB.out.cell (bq w _ hw388_2)).trans hw388_2), ((HB.out.cell (bq w _ hw388_3)).trans hw388_3), ((HB.out.cell (bq w _ hw388_4)).trans hw388_4), ((HB.out.cell (bq w _ hw388_5)).trans hw388_5)⟩ (fun hHeld => ?_); refine with_tabW w_BoxGap.tab17 w_BoxGap.bits17 (fun HT_ HW_ => ?_)
     generalize w55.drew = w56 at BK373 BK374 BK380 HB hx388_0 hx388_1 hx388_2 hx388_3 hx388_4 hx388_5 hHeld ⊢
     refine pu (i := 0) (N := some 65) (fl 11 1 []) HT_ ?_
     refine pu (i := 1) (N := some 66) (fl 11 2 []) HT_ ?_
     refine pu (i := 2) (N := some 67) (fl 11 3 []) HT_ ?_
     refine pu (i := 3) (N := some 68) (fl 11 4 []) HT_ ?_
     refine pu (i := 4) (N := some 69) (fl 11 5 []) HT_ ?_
     refine tk (i := 5) (N := some 70) (fl 11 6 []) HT_ HW_ hHeld ?_
     refine tk (i := 6) (N := some 71) (fl 11 7 []) HT_ HW_ hHeld ?_
     refine one_ (i := 7) (N := some 72) (fl 11 8 []) rfl rfl (one_of HT_.out (by kernel_rfl)) (by decide) (fun K hK => ?_)
     refine goes_ Try.func14 (by kernel_rfl) rfl #[.agg #[.int .i64 ((rd_T25 l1 x12_1).f0.f0), .int .i64 ((rd_T25 l1 x12_1).f0.f1), .int .i64 ((rd_T25 l1 x12_1).f0.f2), .int .i64 ((rd_T25 l1 x12_1).f1.f0), .int .i64 ((rd_T25 l1 x12_1).f1.f1), .int .i64 ((rd_T25 l1 x12_1).f1.f2)], .agg #[.int .i64 a2_0, .int .i64 a2_1, .int .i64 a2_2]] (by rfl) rfl rfl (by (try simp only [pml]); first | done | rfl | (simp only [pdt]; rfl)) ?_
     with_reducible refine (box_Has.calls k1 ((rd_T25 l1 x12_1).f0.f0) ((rd_T25 l1 x12_1).f0.f1) ((rd_T25 l1 x12_1).f0.f2) ((rd_T25 l1 x12_1).f1.f0) ((rd_T25 l1 x12_1).f1.f1) ((rd_T25 l1 x12_1).f1.f2) a2_0 a2_1 a2_2 t389 _ A53.out).mono ?_
     rintro e w57 ⟨rfl, hb⟩
     refine ⟨_, rfl, ?_⟩
     have n0_ := bB BK373 hb
     have n1_ := bB BK374 hb
     have n2_ := bB BK380 hb
     have n3_ := bS HB hb
     clear BK373 BK374 BK380 HB
     have BK373 := n0_
     have BK374 := n1_
     have BK380 := n2_
     have HB := n3_
     clear n0_ n1_ n2_ n3_
     (try clear hb)
     (try clear hb2)
     (try clear hk)
     (try clear hi)
     refine hK.out _ _ ⟨(bc BK374.out 0).trans rfl, (bc BK374.out 1).trans rfl, (bc BK374.out 2).trans rfl, ((HB.out.cell (bq w _ hw388_0)).trans hw388_0), ((HB.out.cell (bq w _ hw388_1)).trans hw388_1), ((HB.out.cell (bq w _ hw388_2)).trans hw388_2), ((HB.out.cell (bq w _ hw388_3)).trans hw388_3), ((HB.out.cell (bq w _ hw388_4)).trans hw388_4), ((HB.out.cell (bq w _ hw388_5)).trans hw388_5)⟩ (fun hHeld => ?_)
     clear hK K
     refine norm_ (a' := ?_) ?_ ?_
     rotate_left
     ·show Act.put _ (some 72) _ = _
      simp only [Act.put, psl, i64_w, i32_w]
      rfl
     refine pu (i := 8) (N := some 73) (fl 11 9 []) HT_ ?_
     refine pu (i := 9) (N := some 74) (fl 11 10 []) HT_ ?_
     refine pu (i := 10) (N := some 11) (fl 11 11 []) HT_ ?_
     refine done_ (done_of HT_.out (by kernel_rfl)) ?_
     try go_wp2
     go_meet
     case rel => exact ⟨_, (!t389), (by first | rfl | (simp; done) | (simp [*]; done)), H', ⟨by have := HK1.out; first | omega | exact Nat.le_refl _⟩, ⟨by (with_reducible repeat first | apply bN | apply bd | apply ba); exact BK373.out⟩, ⟨by (with_reducible repeat first | apply bN | apply bd | apply ba); exact BK374.out⟩, ⟨by (with_reducible repeat first | apply bN | apply bd | apply ba); exact BK380.out⟩, ⟨by repeat (first | (with_reducible first | exact HB.out | apply wa | apply wN | apply wd | refine ws ?_ GE373.out | refine ws ?_ GE374.out | refine ws ?_ GE380.out) | exact HB.out)⟩⟩
    case rest =>
     clear HC45
     try clear c1;try clear p2;try clear p3;try clear q3;try clear hx3;try clear c4;try clear c6;try clear c14;try clear p38;try clear q38;try clear hx38;try clear p39;try clear q39;try clear hx39;try clear c46;try clear c46b0;try clear c46b1;try clear c47;try clear c61;try clear c62;try clear c62b0;try clear hx386_0;try clear hx386_1;try clear hx386_2;try clear hx386_3;try clear hx386_4;try clear hx386_5;try clear hx390_0;try clear hx390_1;try clear hx390_2;try clear hx390_3;try clear hx390_4;try clear hx390_5;try clear p386;try clear p390;try clear q386;try clear q390
     obtain ⟨kq, x11_44, rfl, HA, HJ44, BK373, BK374, BK380, HB⟩ := hcut
     cases kq with
     | zero => exact absurd HA.out (by simp [w_BoxGap.j1])
     | succ kj44 =>
      have H := HA.out
      clear HA
      simp only [w_BoxGap.j1] at H
      have H' := am H
      clear H
      go_wp2
      go_roundg kj44
      case measure => have := HK1.out; have := HJ44.out; omega
      case rel => exact ⟨(x11_44), (wrap64 (x12_1 + 1)), (by first | rfl | (simp; done) | (simp [*]; done)), (by first | rfl | (simp; done) | (simp [*]; done)), H', ⟨by have := HK1.out; have := HJ44.out; omega⟩, ⟨by (with_reducible repeat first | apply bN | apply bd | apply ba); exact BK373.out⟩, ⟨by (with_reducible repeat first | apply bN | apply bd | apply ba); exact BK374.out⟩, ⟨by (with_reducible repeat first | apply bN | apply bd | apply ba); exact BK380.out⟩, ⟨by repeat (first | (with_reducible first | exact HB.out | apply wa | apply wN | apply wd | refine ws ?_ GE373.out | refine ws ?_ GE374.out | refine ws ?_ GE380.out) | exact HB.out)⟩⟩
 ·replace c5 := Bool.eq_false_iff.mpr c5
  subst c5
  have H1 : (some false) = some r := by rw [if_neg (show ¬ (false = true) by decide)] at H; exact H
  clear H
  have H := H1
  clear H1
  obtain rfl := Option.some.inj H
  go_enter Try.func3, Try.ntmps3
  go_wp2_with (first | ((with_reducible refine gd (N := 3) rfl ?_); refine be ?hg (N := 3) ?hd (cs := #[.int .i64 a0_0, .int .i64 a0_1, .int .i64 a0_2, .int .i64 a0_3, .int .i64 a0_4, .int .i64 a0_5]) (t := 25) ?hr ?_; (case hd | hg => rfl); (case hr => first | (go_simp; done) | (go_simp; rfl)); intro gb373 hg w141 hbox hb; have BK373 := am hbox; have GW373 := sG HB hg; have GE373 := sG HB hg; replace HB := bS HB hb; clear hb hbox hg) | ((with_reducible refine gd (N := 5) rfl ?_); refine be ?hg (N := 5) ?hd (cs := #[.int .i64 a2_0, .int .i64 a2_1, .int .i64 a2_2]) (t := 23) ?hr ?_; (case hd | hg => rfl); (case hr => first | (go_simp; done) | (go_simp; rfl)); intro gb374 hg w142 hbox hb; have BK374 := am hbox; have GW374 := sG HB hg; have GE374 := sG HB hg; replace HB := bS HB hb; have NB373_374 := nL BK373 hg; have NB374_373 := nG BK373 hg; replace BK373 := bB BK373 hb; clear hb hbox hg) | ((with_reducible refine gc (f := 11) rfl ?_); refine goesL_ (some 14) rfl rfl Try.func11 (by kernel_rfl) rfl #[] rfl (by (try simp only [pml]); first | done | rfl | (simp only [pdt]; rfl)) ?_; (with_reducible refine (w_awake.calls  false _ A4.out).mono ?_); rintro e w143 ⟨rfl, hb⟩; refine ⟨_, rfl, ?_⟩; replace BK373 := bB BK373 hb; replace BK374 := bB BK374 hb; replace HB := bS HB hb; (try clear hb); (try clear hb2); (try clear hk); (try clear hi)))
  go_ret
  exact ⟨by first | rfl | (simp [errW_none, errW_some] <;> rfl) | (simp [*, errW_none, errW_some] <;> rfl), by repeat (first | (with_reducible first | exact HB.out | apply wa | apply wN | apply wd | refine ws ?_ GE373.out | refine ws ?_ GE374.out) | exact HB.out)⟩

def w_BoxGap.Pure : Prop := ∀ (a0_0 : Int) (a0_1 : Int) (a0_2 : Int) (a0_3 : Int) (a0_4 : Int) (a0_5 : Int) (l1 : List (S25)) (a2_0 : Int) (a2_1 : Int) (a2_2 : Int), ((Lit.int .i64 a0_0).wf = true) → ((Lit.int .i64 a0_1).wf = true) → ((Lit.int .i64 a0_2).wf = true) → ((Lit.int .i64 a0_3).wf = true) → ((Lit.int .i64 a0_4).wf = true) → ((Lit.int .i64 a0_5).wf = true) → (l1.length ≤ maxLen ∧ ∀ e1_, e1_ ∈ l1 → okS25 e1_) → ((Lit.int .i64 a2_0).wf = true) → ((Lit.int .i64 a2_1).wf = true) → ((Lit.int .i64 a2_2).wf = true) → ∃ k, w_BoxGap.f k a0_0 a0_1 a0_2 a0_3 a0_4 a0_5 l1 a2_0 a2_1 a2_2 = some true
theorem w_BoxGap.walk (P_ : w_BoxGap.Pure) (a0_0 : Int) (a0_1 : Int) (a0_2 : Int) (a0_3 : Int) (a0_4 : Int) (a0_5 : Int) (A1 : Option Addr) (c1 : Nat) (l1 : List (S25)) (a2_0 : Int) (a2_1 : Int) (a2_2 : Int) (w : World) (hr1 : Kd.C k25 w A1 l1.length l1) (hc1 : l1.length ≤ c1) (o0 : ((Lit.int .i64 a0_0).wf = true)) (o1 : ((Lit.int .i64 a0_1).wf = true)) (o2 : ((Lit.int .i64 a0_2).wf = true)) (o3 : ((Lit.int .i64 a0_3).wf = true)) (o4 : ((Lit.int .i64 a0_4).wf = true)) (o5 : ((Lit.int .i64 a0_5).wf = true)) (o6 : (l1.length ≤ maxLen ∧ ∀ e1_, e1_ ∈ l1 → okS25 e1_)) (o7 : ((Lit.int .i64 a2_0).wf = true)) (o8 : ((Lit.int .i64 a2_1).wf = true)) (o9 : ((Lit.int .i64 a2_2).wf = true)) :
  Calls Try.prog 3 #[.agg #[.int .i64 a0_0, .int .i64 a0_1, .int .i64 a0_2, .int .i64 a0_3, .int .i64 a0_4, .int .i64 a0_5], .slice A1 l1.length c1, .agg #[.int .i64 a2_0, .int .i64 a2_1, .int .i64 a2_2]] w fun e w' => e = .returned (.bool true) ∧ Below w.heap.size w w' := by
 obtain ⟨k, h⟩ := P_ a0_0 a0_1 a0_2 a0_3 a0_4 a0_5 l1 a2_0 a2_1 a2_2 o0 o1 o2 o3 o4 o5 o6 o7 o8 o9
 refine (w_BoxGap.calls k a0_0 a0_1 a0_2 a0_3 a0_4 a0_5 A1 c1 l1 a2_0 a2_1 a2_2 true w hr1 hc1 h).mono ?_
 rintro e w' ⟨rfl, hd⟩
 exact ⟨rfl, hd⟩

end Go.Proofs.Ytmmdikhmlmoolaa.QA
