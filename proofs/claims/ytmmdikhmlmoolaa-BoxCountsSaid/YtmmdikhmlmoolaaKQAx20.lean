import Derived.Test.YtmmdikhmlmoolaaKQAx0
import Derived.Test.YtmmdikhmlmoolaaKQAx18
namespace Go.Proofs.Ytmmdikhmlmoolaa.QA
open Go.RowKit Go.Proofs.YtmmdikhmlmoolaaW.PrintWords Go.Proofs.YtmmdikhmlmoolaaW.PrintLast Go.Proofs.YtmmdikhmlmoolaaW.PrintMore
open Go.Proofs.YtmmdikhmlmoolaaW.PrintWords renaming blk_frozen → bf, gate_dst → gd, box_event → be
open Aside0 renaming mk → am
attribute [local go_sem] max2_int min2_int max_two min_two max_three min_three max_four min_four
set_option linter.unusedVariables false
set_option linter.unusedSimpArgs false

def r_Volume.f (a0_0 : Int) (a0_1 : Int) (a0_2 : Int) (a0_3 : Int) (a0_4 : Int) (a0_5 : Int) : Option (Int) := (r_Size.f a0_0 a0_1 a0_2 a0_3 a0_4 a0_5).bind fun bt459 => (some (wrap64 ((wrap64 (bt459.1 * bt459.2.1)) * bt459.2.2)))
set_option maxHeartbeats 8000000 in
set_option maxRecDepth 100000 in
theorem r_Volume.calls (a0_0 : Int) (a0_1 : Int) (a0_2 : Int) (a0_3 : Int) (a0_4 : Int) (a0_5 : Int) (r : Int) (w : World) (h : r_Volume.f a0_0 a0_1 a0_2 a0_3 a0_4 a0_5 = some r) :
  Calls Try.prog 24 #[.agg #[.int .i64 a0_0, .int .i64 a0_1, .int .i64 a0_2, .int .i64 a0_3, .int .i64 a0_4, .int .i64 a0_5]] w fun e w' => e = .returned (.int .i64 r) ∧ Below w.heap.size w w' := by
 have hu25 := Try.underlying25
 have hu23 := Try.underlying23
 have HB := am (Below.refl w.heap.size w)
 have H : ((r_Size.f a0_0 a0_1 a0_2 a0_3 a0_4 a0_5).bind fun bt459 => (some (wrap64 ((wrap64 (bt459.1 * bt459.2.1)) * bt459.2.2)))) = some r := h
 clear h
 replace H := Option.bind_eq_some_iff.mp H
 obtain ⟨⟨t459, t460, t461⟩, A20, H⟩ := H
 replace H : (some (wrap64 ((wrap64 (t459 * t460)) * t461))) = some r := H
 have A2 := am A20
 clear A20
 obtain rfl := Option.some.inj H
 go_enter Try.func24, Try.ntmps24
 go_wp2_with (first | ((with_reducible refine gd (N := 1) rfl ?_); refine be ?hg (N := 1) ?hd (cs := #[.int .i64 a0_0, .int .i64 a0_1, .int .i64 a0_2, .int .i64 a0_3, .int .i64 a0_4, .int .i64 a0_5]) (t := 25) ?hr ?_; (case hd | hg => rfl); (case hr => first | (go_simp; done) | (go_simp; rfl)); intro gb458 hg w3 hbox hb; have BK458 := am hbox; have GW458 := sG HB hg; have GE458 := sG HB hg; replace HB := bS HB hb; clear hb hbox hg; obtain ⟨_, _, _, _, _, _, _, _, _, _, _, _⟩ := zC6 BK458) | ((with_reducible refine gate_callee (f := 22) rfl ?_); refine goesL_ (some 5) rfl rfl Try.func22 (by kernel_rfl) rfl #[.agg #[.int .i64 a0_0, .int .i64 a0_1, .int .i64 a0_2, .int .i64 a0_3, .int .i64 a0_4, .int .i64 a0_5]] rfl (by (try simp only [pml]); first | done | rfl | (simp only [pdt]; rfl)) ?_; (with_reducible refine (r_Size.calls a0_0 a0_1 a0_2 a0_3 a0_4 a0_5 t459 t460 t461 _ A2.out).mono ?_); rintro e w5 ⟨rfl, hb⟩; refine ⟨_, rfl, ?_⟩; replace BK458 := bB BK458 hb; replace HB := bS HB hb; (try clear hb); (try clear hb2); (try clear hk); (try clear hi)) | ((with_reducible refine gd (N := 3) rfl ?_); refine be ?hg (N := 3) ?hd (cs := #[.int .i64 0, .int .i64 0, .int .i64 0]) (t := 23) ?hr ?_; (case hd | hg => rfl); (case hr => first | (go_simp; done) | (go_simp; rfl)); intro gb462 hg w6 hbox hb; have BK462 := am hbox; have GW462 := sG HB hg; have GE462 := sG HB hg; replace HB := bS HB hb; have NB458_462 := nL BK458 hg; have NB462_458 := nG BK458 hg; replace BK458 := bB BK458 hb; clear hb hbox hg; have hnb7 := NB462_458.out; have hnc7 := NB458_462.out; obtain ⟨_, _, _, _, _, _⟩ := zC3 BK462))
 go_ret
 exact ⟨sqE, fW HB.out⟩

def r_common.f (a0_0 : Int) (a0_1 : Int) (a0_2 : Int) (a0_3 : Int) (a0_4 : Int) (a0_5 : Int) (a1_0 : Int) (a1_1 : Int) (a1_2 : Int) (a1_3 : Int) (a1_4 : Int) (a1_5 : Int) : Option (Int × Int × Int × Int × Int × Int) := some (mx a0_0 a1_0, mx a0_1 a1_1, mx a0_2 a1_2, mn a0_3 a1_3, mn a0_4 a1_4, mn a0_5 a1_5)
set_option maxHeartbeats 8000000 in
set_option maxRecDepth 100000 in
theorem r_common.calls (a0_0 : Int) (a0_1 : Int) (a0_2 : Int) (a0_3 : Int) (a0_4 : Int) (a0_5 : Int) (a1_0 : Int) (a1_1 : Int) (a1_2 : Int) (a1_3 : Int) (a1_4 : Int) (a1_5 : Int) (r1 : Int) (r2 : Int) (r3 : Int) (r4 : Int) (r5 : Int) (r6 : Int) (w : World) (h : r_common.f a0_0 a0_1 a0_2 a0_3 a0_4 a0_5 a1_0 a1_1 a1_2 a1_3 a1_4 a1_5 = some (r1, r2, r3, r4, r5, r6)) :
  Calls Try.prog 61 #[.agg #[.int .i64 a0_0, .int .i64 a0_1, .int .i64 a0_2, .int .i64 a0_3, .int .i64 a0_4, .int .i64 a0_5], .agg #[.int .i64 a1_0, .int .i64 a1_1, .int .i64 a1_2, .int .i64 a1_3, .int .i64 a1_4, .int .i64 a1_5]] w fun e w' => e = .returned (.agg #[.int .i64 r1, .int .i64 r2, .int .i64 r3, .int .i64 r4, .int .i64 r5, .int .i64 r6]) ∧ Below w.heap.size w w' := by
 have hu25 := Try.underlying25
 have hu23 := Try.underlying23
 have HB := am (Below.refl w.heap.size w)
 have H : (some (mx a0_0 a1_0, mx a0_1 a1_1, mx a0_2 a1_2, mn a0_3 a1_3, mn a0_4 a1_4, mn a0_5 a1_5)) = some (r1, r2, r3, r4, r5, r6) := h
 clear h
 obtain ⟨ji3, hji3⟩ : ∃ j_ : Int, (mx a0_0 a1_0) = j_ := ⟨_, rfl⟩
 replace H : (some (ji3, mx a0_1 a1_1, mx a0_2 a1_2, mn a0_3 a1_3, mn a0_4 a1_4, mn a0_5 a1_5)) = some (r1, r2, r3, r4, r5, r6) := by first | (rw [hji3] at H; exact H) | (simp only [hji3] at H ⊢; exact H)
 have hji3_ : (if a0_0 < a1_0 then a1_0 else a0_0) = ji3 := hji3
 obtain ⟨ji4, hji4⟩ : ∃ j_ : Int, (mx a0_1 a1_1) = j_ := ⟨_, rfl⟩
 replace H : (some (ji3, ji4, mx a0_2 a1_2, mn a0_3 a1_3, mn a0_4 a1_4, mn a0_5 a1_5)) = some (r1, r2, r3, r4, r5, r6) := by first | (rw [hji4] at H; exact H) | (simp only [hji4] at H ⊢; exact H)
 have hji4_ : (if a0_1 < a1_1 then a1_1 else a0_1) = ji4 := hji4
 obtain ⟨ji5, hji5⟩ : ∃ j_ : Int, (mx a0_2 a1_2) = j_ := ⟨_, rfl⟩
 replace H : (some (ji3, ji4, ji5, mn a0_3 a1_3, mn a0_4 a1_4, mn a0_5 a1_5)) = some (r1, r2, r3, r4, r5, r6) := by first | (rw [hji5] at H; exact H) | (simp only [hji5] at H ⊢; exact H)
 have hji5_ : (if a0_2 < a1_2 then a1_2 else a0_2) = ji5 := hji5
 obtain ⟨ji6, hji6⟩ : ∃ j_ : Int, (mn a0_3 a1_3) = j_ := ⟨_, rfl⟩
 replace H : (some (ji3, ji4, ji5, ji6, mn a0_4 a1_4, mn a0_5 a1_5)) = some (r1, r2, r3, r4, r5, r6) := by first | (rw [hji6] at H; exact H) | (simp only [hji6] at H ⊢; exact H)
 have hji6_ : (if a1_3 < a0_3 then a1_3 else a0_3) = ji6 := hji6
 obtain ⟨ji7, hji7⟩ : ∃ j_ : Int, (mn a0_4 a1_4) = j_ := ⟨_, rfl⟩
 replace H : (some (ji3, ji4, ji5, ji6, ji7, mn a0_5 a1_5)) = some (r1, r2, r3, r4, r5, r6) := by first | (rw [hji7] at H; exact H) | (simp only [hji7] at H ⊢; exact H)
 have hji7_ : (if a1_4 < a0_4 then a1_4 else a0_4) = ji7 := hji7
 obtain ⟨ji8, hji8⟩ : ∃ j_ : Int, (mn a0_5 a1_5) = j_ := ⟨_, rfl⟩
 replace H : (some (ji3, ji4, ji5, ji6, ji7, ji8)) = some (r1, r2, r3, r4, r5, r6) := by first | (rw [hji8] at H; exact H) | (simp only [hji8] at H ⊢; exact H)
 have hji8_ : (if a1_5 < a0_5 then a1_5 else a0_5) = ji8 := hji8
 simp only [Option.some.injEq, Prod.mk.injEq] at H
 obtain ⟨rfl, rfl, rfl, rfl, rfl, rfl⟩ := H
 go_enter Try.func61, Try.ntmps61
 go_wp2_with (first | ((with_reducible refine gd (N := 2) rfl ?_); refine be ?hg (N := 2) ?hd (cs := #[.int .i64 a0_0, .int .i64 a0_1, .int .i64 a0_2, .int .i64 a0_3, .int .i64 a0_4, .int .i64 a0_5]) (t := 25) ?hr ?_; (case hd | hg => rfl); (case hr => first | (go_simp; done) | (go_simp; rfl)); intro gb467 hg w9 hbox hb; have BK467 := am hbox; have GW467 := sG HB hg; have GE467 := sG HB hg; replace HB := bS HB hb; clear hb hbox hg) | ((with_reducible refine gd (N := 3) rfl ?_); refine be ?hg (N := 3) ?hd (cs := #[.int .i64 a1_0, .int .i64 a1_1, .int .i64 a1_2, .int .i64 a1_3, .int .i64 a1_4, .int .i64 a1_5]) (t := 25) ?hr ?_; (case hd | hg => rfl); (case hr => first | (go_simp; done) | (go_simp; rfl)); intro gb468 hg w10 hbox hb; have BK468 := am hbox; have GW468 := sG HB hg; have GE468 := sG HB hg; replace HB := bS HB hb; have NB467_468 := nL BK467 hg; have NB468_467 := nG BK467 hg; replace BK467 := bB BK467 hb; clear hb hbox hg) | ((with_reducible refine gd (N := 4) rfl ?_); refine be ?hg (N := 4) ?hd (cs := #[.int .i64 0, .int .i64 0, .int .i64 0, .int .i64 0, .int .i64 0, .int .i64 0]) (t := 25) ?hr ?_; (case hd | hg => rfl); (case hr => first | (go_simp; done) | (go_simp; rfl)); intro gb469 hg w11 hbox hb; have BK469 := am hbox; have GW469 := sG HB hg; have GE469 := sG HB hg; replace HB := bS HB hb; have NB467_469 := nL BK467 hg; have NB469_467 := nG BK467 hg; replace BK467 := bB BK467 hb; have NB468_469 := nL BK468 hg; have NB469_468 := nG BK468 hg; replace BK468 := bB BK468 hb; clear hb hbox hg; have hnb12 := NB467_468.out; have hnc12 := NB468_467.out; have hnb13 := NB467_469.out; have hnc13 := NB469_467.out; obtain ⟨_, _, _, _, _, _, _, _, _, _, _, _⟩ := zC6 BK467; have hnb15 := NB468_469.out; have hnc15 := NB469_468.out; obtain ⟨_, _, _, _, _, _, _, _, _, _, _, _⟩ := zC6 BK468; obtain ⟨_, _, _, _, _, _, _, _, _, _, _, _⟩ := zC6 BK469))
 refine bodyPost_ret (results_cell_row rfl _ _ gb469 25 #[.int .i64 ji3, .int .i64 ji4, .int .i64 ji5, .int .i64 ji6, .int .i64 ji7, .int .i64 ji8] (0, 0) _ rfl (kkC BK469.out) Try.underlying25 rfl (by kernel_rfl)) rfl ?_
 exact ⟨by first | rfl | (simp [errW_none, errW_some] <;> rfl) | (simp only [← hji3, ← hji4, ← hji5, ← hji6, ← hji7, ← hji8]; first | rfl | (simp [errW_none, errW_some] <;> rfl)) | (simp [*, errW_none, errW_some] <;> rfl), fW HB.out⟩

def r_full.j0 : Nat → Bool → Option (Bool)
 | 0, _ => none
 | k + 1, x2 => some x2
def r_full.f (k : Nat) (a0_0 : Int) (a0_1 : Int) (a0_2 : Int) (a0_3 : Int) (a0_4 : Int) (a0_5 : Int) : Option (Bool) := if a0_0 < a0_3 then (if a0_1 < a0_4 then (r_full.j0 k (decide (a0_2 < a0_5))) else (r_full.j0 k false)) else (r_full.j0 k false)
set_option maxHeartbeats 8000000 in
set_option maxRecDepth 100000 in
theorem r_full.calls (k : Nat) (a0_0 : Int) (a0_1 : Int) (a0_2 : Int) (a0_3 : Int) (a0_4 : Int) (a0_5 : Int) (r : Bool) (w : World) (h : r_full.f k a0_0 a0_1 a0_2 a0_3 a0_4 a0_5 = some r) :
  Calls Try.prog 62 #[.agg #[.int .i64 a0_0, .int .i64 a0_1, .int .i64 a0_2, .int .i64 a0_3, .int .i64 a0_4, .int .i64 a0_5]] w fun e w' => e = .returned (.bool r) ∧ Below w.heap.size w w' := by
 have hu25 := Try.underlying25
 have HB := am (Below.refl w.heap.size w)
 have H : (if a0_0 < a0_3 then (if a0_1 < a0_4 then (r_full.j0 k (decide (a0_2 < a0_5))) else (r_full.j0 k false)) else (r_full.j0 k false)) = some r := h
 clear h
 have HC2 := am H
 clear H
 go_enter Try.func62, Try.ntmps62
 go_upto_region 1 with (first | ((with_reducible refine gd (N := 1) rfl ?_); refine be ?hg (N := 1) ?hd (cs := #[.int .i64 a0_0, .int .i64 a0_1, .int .i64 a0_2, .int .i64 a0_3, .int .i64 a0_4, .int .i64 a0_5]) (t := 25) ?hr ?_; (case hd | hg => rfl); (case hr => first | (go_simp; done) | (go_simp; rfl)); intro gb470 hg w3 hbox hb; have BK470 := am hbox; have GW470 := sG HB hg; have GE470 := sG HB hg; replace HB := bS HB hb; clear hb hbox hg))
 (try simp only [Act.put, psl])
 go_cut [2] (fun v2 wc => ∃ (kq : Nat) (x2_1 : Bool), v2 = .bool x2_1 ∧ Aside0 (r_full.j0 kq x2_1 = some r) ∧ Aside0 (kq ≤ k) ∧ Aside0 (wc.heap[gb470]? = some (.cells #[.int .i64 a0_0, .int .i64 a0_1, .int .i64 a0_2, .int .i64 a0_3, .int .i64 a0_4, .int .i64 a0_5] 25 (0, 0))) ∧ Aside0 (Below w.heap.size w wc))
 case first =>
  have H := HC2.out
  clear HC2
  by_cases c4 : a0_0 < a0_3
  rotate_left
  ·rw [if_neg c4] at H
   have c4b0 : decide (a0_0 < a0_3) = false := decide_eq_false c4
   clear c4
   (first | rw [c4b0] | (simp only [i64_w, i32_w]; rw [c4b0]) | skip)
   have H' := am H
   clear H
   have := yC1 BK470
   have := kC1 BK470
   have := kC2 BK470
   have := kC3 BK470
   have := kC4 BK470
   have := kC5 BK470
   have := bf BK470.out 0
   have := bf BK470.out 1
   have := bf BK470.out 2
   have := bf BK470.out 3
   have := bf BK470.out 4
   have := bf BK470.out 5
   go_wp2
   go_meet
   case rel => exact ⟨_, (false), sqD, H', ⟨by first | omega | exact Nat.le_refl _⟩, ⟨fb BK470.out⟩, ⟨fW HB.out⟩⟩
  rw [if_pos c4] at H
  have c4b0 : decide (a0_0 < a0_3) = true := decide_eq_true c4
  clear c4
  (first | rw [c4b0] | (simp only [i64_w, i32_w]; rw [c4b0]) | skip)
  by_cases c5 : a0_1 < a0_4
  ·rw [if_pos c5] at H
   have c5b0 : decide (a0_1 < a0_4) = true := decide_eq_true c5
   clear c5
   have H' := am H
   clear H
   have := yC1 BK470
   have := kC1 BK470
   have := kC2 BK470
   have := kC3 BK470
   have := kC4 BK470
   have := kC5 BK470
   have := bf BK470.out 0
   have := bf BK470.out 1
   have := bf BK470.out 2
   have := bf BK470.out 3
   have := bf BK470.out 4
   have := bf BK470.out 5
   go_wp2
   go_meet
   case rel => exact ⟨_, (decide (a0_2 < a0_5)), sqD, H', ⟨by first | omega | exact Nat.le_refl _⟩, ⟨fb BK470.out⟩, ⟨fW HB.out⟩⟩
  rw [if_neg c5] at H
  have c5b0 : decide (a0_1 < a0_4) = false := decide_eq_false c5
  clear c5
  have H' := am H
  clear H
  have := yC1 BK470
  have := kC1 BK470
  have := kC2 BK470
  have := kC3 BK470
  have := kC4 BK470
  have := kC5 BK470
  have := bf BK470.out 0
  have := bf BK470.out 1
  have := bf BK470.out 2
  have := bf BK470.out 3
  have := bf BK470.out 4
  have := bf BK470.out 5
  go_wp2
  go_meet
  case rel => exact ⟨_, (false), sqD, H', ⟨by first | omega | exact Nat.le_refl _⟩, ⟨fb BK470.out⟩, ⟨fW HB.out⟩⟩
 case rest =>
  clear HC2
  try clear p2;try clear c4;try clear c4b0;try clear c5;try clear c5b0;try clear c6
  obtain ⟨kq, x2_1, rfl, HA, HJ1, BK470, HB⟩ := hcut
  cases kq with
  | zero => exact absurd HA.out (by simp [r_full.j0])
  | succ kj1 =>
   have H := HA.out
   clear HA
   simp only [r_full.j0] at H
   obtain rfl := Option.some.inj H
   go_wp2
   go_ret
   exact ⟨sqE, fW HB.out⟩

def r_Intersect.f (k : Nat) (a0_0 : Int) (a0_1 : Int) (a0_2 : Int) (a0_3 : Int) (a0_4 : Int) (a0_5 : Int) (a1_0 : Int) (a1_1 : Int) (a1_2 : Int) (a1_3 : Int) (a1_4 : Int) (a1_5 : Int) : Option (Int × Int × Int × Int × Int × Int × Bool) := (r_common.f a0_0 a0_1 a0_2 a0_3 a0_4 a0_5 a1_0 a1_1 a1_2 a1_3 a1_4 a1_5).bind fun bt474 => ((r_full.f k bt474.1 bt474.2.1 bt474.2.2.1 bt474.2.2.2.1 bt474.2.2.2.2.1 bt474.2.2.2.2.2).bind fun t481 => (if t481 = true then (some (bt474.1, bt474.2.1, bt474.2.2.1, bt474.2.2.2.1, bt474.2.2.2.2.1, bt474.2.2.2.2.2, true)) else (some (0, 0, 0, 0, 0, 0, false))))
set_option maxHeartbeats 8000000 in
set_option maxRecDepth 100000 in
theorem r_Intersect.calls (k : Nat) (a0_0 : Int) (a0_1 : Int) (a0_2 : Int) (a0_3 : Int) (a0_4 : Int) (a0_5 : Int) (a1_0 : Int) (a1_1 : Int) (a1_2 : Int) (a1_3 : Int) (a1_4 : Int) (a1_5 : Int) (r1 : Int) (r2 : Int) (r3 : Int) (r4 : Int) (r5 : Int) (r6 : Int) (r7 : Bool) (w : World) (h : r_Intersect.f k a0_0 a0_1 a0_2 a0_3 a0_4 a0_5 a1_0 a1_1 a1_2 a1_3 a1_4 a1_5 = some (r1, r2, r3, r4, r5, r6, r7)) :
  Calls Try.prog 28 #[.agg #[.int .i64 a0_0, .int .i64 a0_1, .int .i64 a0_2, .int .i64 a0_3, .int .i64 a0_4, .int .i64 a0_5], .agg #[.int .i64 a1_0, .int .i64 a1_1, .int .i64 a1_2, .int .i64 a1_3, .int .i64 a1_4, .int .i64 a1_5]] w fun e w' => e = .returned (.tuple #[.agg #[.int .i64 r1, .int .i64 r2, .int .i64 r3, .int .i64 r4, .int .i64 r5, .int .i64 r6], .bool r7]) ∧ Below w.heap.size w w' := by
 have hu25 := Try.underlying25
 have HB := am (Below.refl w.heap.size w)
 have H : ((r_common.f a0_0 a0_1 a0_2 a0_3 a0_4 a0_5 a1_0 a1_1 a1_2 a1_3 a1_4 a1_5).bind fun bt474 => ((r_full.f k bt474.1 bt474.2.1 bt474.2.2.1 bt474.2.2.2.1 bt474.2.2.2.2.1 bt474.2.2.2.2.2).bind fun t481 => (if t481 = true then (some (bt474.1, bt474.2.1, bt474.2.2.1, bt474.2.2.2.1, bt474.2.2.2.2.1, bt474.2.2.2.2.2, true)) else (some (0, 0, 0, 0, 0, 0, false))))) = some (r1, r2, r3, r4, r5, r6, r7) := h
 clear h
 replace H := Option.bind_eq_some_iff.mp H
 obtain ⟨⟨t474, t475, t476, t477, t478, t479⟩, A30, H⟩ := H
 replace H : ((r_full.f k t474 t475 t476 t477 t478 t479).bind fun t481 => (if t481 = true then (some (t474, t475, t476, t477, t478, t479, true)) else (some (0, 0, 0, 0, 0, 0, false)))) = some (r1, r2, r3, r4, r5, r6, r7) := H
 have A3 := am A30
 clear A30
 replace H := Option.bind_eq_some_iff.mp H
 obtain ⟨t481, A40, H⟩ := H
 replace H : (if t481 = true then (some (t474, t475, t476, t477, t478, t479, true)) else (some (0, 0, 0, 0, 0, 0, false))) = some (r1, r2, r3, r4, r5, r6, r7) := H
 have A4 := am A40
 clear A40
 by_cases c5 : t481 = true
 ·subst c5
  have H1 : (some (t474, t475, t476, t477, t478, t479, true)) = some (r1, r2, r3, r4, r5, r6, r7) := by rw [if_pos rfl] at H; exact H
  clear H
  have H := H1
  clear H1
  simp only [Option.some.injEq, Prod.mk.injEq] at H
  obtain ⟨rfl, rfl, rfl, rfl, rfl, rfl, rfl⟩ := H
  go_enter Try.func28, Try.ntmps28
  go_wp2_with (first | ((with_reducible refine gd (N := 2) rfl ?_); refine be ?hg (N := 2) ?hd (cs := #[.int .i64 a0_0, .int .i64 a0_1, .int .i64 a0_2, .int .i64 a0_3, .int .i64 a0_4, .int .i64 a0_5]) (t := 25) ?hr ?_; (case hd | hg => rfl); (case hr => first | (go_simp; done) | (go_simp; rfl)); intro gb471 hg w6 hbox hb; have BK471 := am hbox; have GW471 := sG HB hg; have GE471 := sG HB hg; replace HB := bS HB hb; clear hb hbox hg) | ((with_reducible refine gd (N := 3) rfl ?_); refine be ?hg (N := 3) ?hd (cs := #[.int .i64 a1_0, .int .i64 a1_1, .int .i64 a1_2, .int .i64 a1_3, .int .i64 a1_4, .int .i64 a1_5]) (t := 25) ?hr ?_; (case hd | hg => rfl); (case hr => first | (go_simp; done) | (go_simp; rfl)); intro gb472 hg w7 hbox hb; have BK472 := am hbox; have GW472 := sG HB hg; have GE472 := sG HB hg; replace HB := bS HB hb; have NB471_472 := nL BK471 hg; have NB472_471 := nG BK471 hg; replace BK471 := bB BK471 hb; clear hb hbox hg) | ((with_reducible refine gd (N := 4) rfl ?_); refine be ?hg (N := 4) ?hd (cs := #[.int .i64 0, .int .i64 0, .int .i64 0, .int .i64 0, .int .i64 0, .int .i64 0]) (t := 25) ?hr ?_; (case hd | hg => rfl); (case hr => first | (go_simp; done) | (go_simp; rfl)); intro gb473 hg w8 hbox hb; have BK473 := am hbox; have GW473 := sG HB hg; have GE473 := sG HB hg; replace HB := bS HB hb; have NB471_473 := nL BK471 hg; have NB473_471 := nG BK471 hg; replace BK471 := bB BK471 hb; have NB472_473 := nL BK472 hg; have NB473_472 := nG BK472 hg; replace BK472 := bB BK472 hb; clear hb hbox hg; have hnb9 := NB471_472.out; have hnc9 := NB472_471.out; have hnb10 := NB471_473.out; have hnc10 := NB473_471.out; obtain ⟨_, _, _, _, _, _, _, _, _, _, _, _⟩ := zC6 BK471; have hnb12 := NB472_473.out; have hnc12 := NB473_472.out; obtain ⟨_, _, _, _, _, _, _, _, _, _, _, _⟩ := zC6 BK472) | ((with_reducible refine gate_callee (f := 61) rfl ?_); refine goesL_ (some 9) rfl rfl Try.func61 (by kernel_rfl) rfl #[.agg #[.int .i64 a0_0, .int .i64 a0_1, .int .i64 a0_2, .int .i64 a0_3, .int .i64 a0_4, .int .i64 a0_5], .agg #[.int .i64 a1_0, .int .i64 a1_1, .int .i64 a1_2, .int .i64 a1_3, .int .i64 a1_4, .int .i64 a1_5]] rfl (by (try simp only [pml]); first | done | rfl | (simp only [pdt]; rfl)) ?_; (with_reducible refine (r_common.calls a0_0 a0_1 a0_2 a0_3 a0_4 a0_5 a1_0 a1_1 a1_2 a1_3 a1_4 a1_5 t474 t475 t476 t477 t478 t479 _ A3.out).mono ?_); rintro e w14 ⟨rfl, hb⟩; refine ⟨_, rfl, ?_⟩; replace BK471 := bB BK471 hb; replace BK472 := bB BK472 hb; replace BK473 := bB BK473 hb; replace HB := bS HB hb; (try clear hb); (try clear hb2); (try clear hk); (try clear hi)) | ((with_reducible refine gd (N := 6) rfl ?_); refine be ?hg (N := 6) ?hd (cs := #[.int .i64 0, .int .i64 0, .int .i64 0, .int .i64 0, .int .i64 0, .int .i64 0]) (t := 25) ?hr ?_; (case hd | hg => rfl); (case hr => first | (go_simp; done) | (go_simp; rfl)); intro gb480 hg w15 hbox hb; have BK480 := am hbox; have GW480 := sG HB hg; have GE480 := sG HB hg; replace HB := bS HB hb; have NB471_480 := nL BK471 hg; have NB480_471 := nG BK471 hg; replace BK471 := bB BK471 hb; have NB472_480 := nL BK472 hg; have NB480_472 := nG BK472 hg; replace BK472 := bB BK472 hb; have NB473_480 := nL BK473 hg; have NB480_473 := nG BK473 hg; replace BK473 := bB BK473 hb; clear hb hbox hg; have hnb16 := NB480_471.out; have hnc16 := NB471_480.out; have hnb17 := NB480_472.out; have hnc17 := NB472_480.out; have hnb18 := NB480_473.out; have hnc18 := NB473_480.out; obtain ⟨_, _, _, _, _, _, _, _, _, _, _, _⟩ := zC6 BK480) | ((with_reducible refine gate_callee (f := 62) rfl ?_); refine goesL_ (some 11) rfl rfl Try.func62 (by kernel_rfl) rfl #[.agg #[.int .i64 t474, .int .i64 t475, .int .i64 t476, .int .i64 t477, .int .i64 t478, .int .i64 t479]] rfl (by (try simp only [pml]); first | done | rfl | (simp only [pdt]; rfl)) ?_; (with_reducible refine (r_full.calls k t474 t475 t476 t477 t478 t479 true _ A4.out).mono ?_); rintro e w20 ⟨rfl, hb⟩; refine ⟨_, rfl, ?_⟩; replace BK471 := xC1 (kfC BK471.out) hb; replace BK472 := xC1 (kfC BK472.out) hb; replace BK473 := xC1 (kfC BK473.out) hb; replace BK480 := xC1 (o := .cells #[.int .i64 t474, .int .i64 t475, .int .i64 t476, .int .i64 t477, .int .i64 t478, .int .i64 t479] 25 (0, 0)) (kkC BK480.out) hb; replace HB := bS HB hb; (try clear hb); (try clear hb2); (try clear hk); (try clear hi); obtain ⟨_, _, _, _, _, _, _, _, _, _, _, _⟩ := zC6 BK480; obtain ⟨_, _, _, _, _, _, _, _, _, _, _, _⟩ := zC6 BK473))
  refine bodyPost_ret (results_ct rfl _ _ gb473 25 #[.int .i64 t474, .int .i64 t475, .int .i64 t476, .int .i64 t477, .int .i64 t478, .int .i64 t479] (0, 0) _ rfl (kkC BK473.out) Try.underlying25 rfl (by kernel_rfl)) rfl ?_
  exact ⟨sqE, fW HB.out⟩
 ·replace c5 := Bool.eq_false_iff.mpr c5
  subst c5
  have H1 : (some (0, 0, 0, 0, 0, 0, false)) = some (r1, r2, r3, r4, r5, r6, r7) := by rw [if_neg (show ¬ (false = true) by decide)] at H; exact H
  clear H
  have H := H1
  clear H1
  simp only [Option.some.injEq, Prod.mk.injEq] at H
  obtain ⟨rfl, rfl, rfl, rfl, rfl, rfl, rfl⟩ := H
  go_enter Try.func28, Try.ntmps28
  go_wp2_with (first | ((with_reducible refine gd (N := 2) rfl ?_); refine be ?hg (N := 2) ?hd (cs := #[.int .i64 a0_0, .int .i64 a0_1, .int .i64 a0_2, .int .i64 a0_3, .int .i64 a0_4, .int .i64 a0_5]) (t := 25) ?hr ?_; (case hd | hg => rfl); (case hr => first | (go_simp; done) | (go_simp; rfl)); intro gb471 hg w23 hbox hb; have BK471 := am hbox; have GW471 := sG HB hg; have GE471 := sG HB hg; replace HB := bS HB hb; clear hb hbox hg) | ((with_reducible refine gd (N := 3) rfl ?_); refine be ?hg (N := 3) ?hd (cs := #[.int .i64 a1_0, .int .i64 a1_1, .int .i64 a1_2, .int .i64 a1_3, .int .i64 a1_4, .int .i64 a1_5]) (t := 25) ?hr ?_; (case hd | hg => rfl); (case hr => first | (go_simp; done) | (go_simp; rfl)); intro gb472 hg w24 hbox hb; have BK472 := am hbox; have GW472 := sG HB hg; have GE472 := sG HB hg; replace HB := bS HB hb; have NB471_472 := nL BK471 hg; have NB472_471 := nG BK471 hg; replace BK471 := bB BK471 hb; clear hb hbox hg) | ((with_reducible refine gd (N := 4) rfl ?_); refine be ?hg (N := 4) ?hd (cs := #[.int .i64 0, .int .i64 0, .int .i64 0, .int .i64 0, .int .i64 0, .int .i64 0]) (t := 25) ?hr ?_; (case hd | hg => rfl); (case hr => first | (go_simp; done) | (go_simp; rfl)); intro gb473 hg w25 hbox hb; have BK473 := am hbox; have GW473 := sG HB hg; have GE473 := sG HB hg; replace HB := bS HB hb; have NB471_473 := nL BK471 hg; have NB473_471 := nG BK471 hg; replace BK471 := bB BK471 hb; have NB472_473 := nL BK472 hg; have NB473_472 := nG BK472 hg; replace BK472 := bB BK472 hb; clear hb hbox hg; have hnb26 := NB471_472.out; have hnc26 := NB472_471.out; have hnb27 := NB471_473.out; have hnc27 := NB473_471.out; obtain ⟨_, _, _, _, _, _, _, _, _, _, _, _⟩ := zC6 BK471; have hnb29 := NB472_473.out; have hnc29 := NB473_472.out; obtain ⟨_, _, _, _, _, _, _, _, _, _, _, _⟩ := zC6 BK472) | ((with_reducible refine gate_callee (f := 61) rfl ?_); refine goesL_ (some 9) rfl rfl Try.func61 (by kernel_rfl) rfl #[.agg #[.int .i64 a0_0, .int .i64 a0_1, .int .i64 a0_2, .int .i64 a0_3, .int .i64 a0_4, .int .i64 a0_5], .agg #[.int .i64 a1_0, .int .i64 a1_1, .int .i64 a1_2, .int .i64 a1_3, .int .i64 a1_4, .int .i64 a1_5]] rfl (by (try simp only [pml]); first | done | rfl | (simp only [pdt]; rfl)) ?_; (with_reducible refine (r_common.calls a0_0 a0_1 a0_2 a0_3 a0_4 a0_5 a1_0 a1_1 a1_2 a1_3 a1_4 a1_5 t474 t475 t476 t477 t478 t479 _ A3.out).mono ?_); rintro e w31 ⟨rfl, hb⟩; refine ⟨_, rfl, ?_⟩; replace BK471 := bB BK471 hb; replace BK472 := bB BK472 hb; replace BK473 := bB BK473 hb; replace HB := bS HB hb; (try clear hb); (try clear hb2); (try clear hk); (try clear hi)) | ((with_reducible refine gd (N := 6) rfl ?_); refine be ?hg (N := 6) ?hd (cs := #[.int .i64 0, .int .i64 0, .int .i64 0, .int .i64 0, .int .i64 0, .int .i64 0]) (t := 25) ?hr ?_; (case hd | hg => rfl); (case hr => first | (go_simp; done) | (go_simp; rfl)); intro gb480 hg w32 hbox hb; have BK480 := am hbox; have GW480 := sG HB hg; have GE480 := sG HB hg; replace HB := bS HB hb; have NB471_480 := nL BK471 hg; have NB480_471 := nG BK471 hg; replace BK471 := bB BK471 hb; have NB472_480 := nL BK472 hg; have NB480_472 := nG BK472 hg; replace BK472 := bB BK472 hb; have NB473_480 := nL BK473 hg; have NB480_473 := nG BK473 hg; replace BK473 := bB BK473 hb; clear hb hbox hg; have hnb33 := NB480_471.out; have hnc33 := NB471_480.out; have hnb34 := NB480_472.out; have hnc34 := NB472_480.out; have hnb35 := NB480_473.out; have hnc35 := NB473_480.out; obtain ⟨_, _, _, _, _, _, _, _, _, _, _, _⟩ := zC6 BK480) | ((with_reducible refine gate_callee (f := 62) rfl ?_); refine goesL_ (some 11) rfl rfl Try.func62 (by kernel_rfl) rfl #[.agg #[.int .i64 t474, .int .i64 t475, .int .i64 t476, .int .i64 t477, .int .i64 t478, .int .i64 t479]] rfl (by (try simp only [pml]); first | done | rfl | (simp only [pdt]; rfl)) ?_; (with_reducible refine (r_full.calls k t474 t475 t476 t477 t478 t479 false _ A4.out).mono ?_); rintro e w37 ⟨rfl, hb⟩; refine ⟨_, rfl, ?_⟩; replace BK471 := xC1 (kfC BK471.out) hb; replace BK472 := xC1 (kfC BK472.out) hb; replace BK473 := xC1 (kfC BK473.out) hb; replace BK480 := xC1 (o := .cells #[.int .i64 t474, .int .i64 t475, .int .i64 t476, .int .i64 t477, .int .i64 t478, .int .i64 t479] 25 (0, 0)) (kkC BK480.out) hb; replace HB := bS HB hb; (try clear hb); (try clear hb2); (try clear hk); (try clear hi); obtain ⟨_, _, _, _, _, _, _, _, _, _, _, _⟩ := zC6 BK473))
  refine bodyPost_ret (results_ct rfl _ _ gb473 25 #[.int .i64 0, .int .i64 0, .int .i64 0, .int .i64 0, .int .i64 0, .int .i64 0] (0, 0) _ rfl (kkC BK473.out) Try.underlying25 rfl (by kernel_rfl)) rfl ?_
  exact ⟨sqE, fW HB.out⟩

end Go.Proofs.Ytmmdikhmlmoolaa.QA
