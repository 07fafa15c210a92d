import Derived.Test.YtmmdikhmlmoolaaZQAx0
namespace Go.Proofs.Ytmmdikhmlmoolaa.QA
open Go.RowKit Go.Proofs.YtmmdikhmlmoolaaW.PrintWords Go.Proofs.YtmmdikhmlmoolaaW.PrintLast Go.Proofs.YtmmdikhmlmoolaaW.PrintMore
open Go.Proofs.YtmmdikhmlmoolaaW.PrintWords renaming blk_drewN → bN, blk_drew → bd, blk_alloc → ba, below_alloc → wa, pw_below_drewN → wN, below_drew1 → wd, below_set → ws, blk_frozen → bf
open Aside0 renaming mk → am
attribute [local go_sem] max2_int min2_int max_two min_two max_three min_three max_four min_four
set_option linter.unusedVariables false
set_option linter.unusedSimpArgs false

def r_Has.j0 : Nat → Bool → Option (Bool)
 | 0, _ => none
 | k + 1, x4 => some x4
def r_Has.f (k : Nat) (a0_0 : Int) (a0_1 : Int) (a0_2 : Int) (a0_3 : Int) (a0_4 : Int) (a0_5 : Int) (a1_0 : Int) (a1_1 : Int) (a1_2 : Int) : Option (Bool) := if a0_0 ≤ a1_0 then (if a1_0 < a0_3 then (if a0_1 ≤ a1_1 then (if a1_1 < a0_4 then (if a0_2 ≤ a1_2 then (r_Has.j0 k (decide (a1_2 < a0_5))) else (r_Has.j0 k false)) else (r_Has.j0 k false)) else (r_Has.j0 k false)) else (r_Has.j0 k false)) else (r_Has.j0 k false)
set_option maxHeartbeats 8000000 in
set_option maxRecDepth 100000 in
theorem r_Has.calls (k : Nat) (a0_0 : Int) (a0_1 : Int) (a0_2 : Int) (a0_3 : Int) (a0_4 : Int) (a0_5 : Int) (a1_0 : Int) (a1_1 : Int) (a1_2 : Int) (r : Bool) (w : World) (h : r_Has.f k a0_0 a0_1 a0_2 a0_3 a0_4 a0_5 a1_0 a1_1 a1_2 = some r) :
  Calls Try.prog 30 #[.agg #[.int .i64 a0_0, .int .i64 a0_1, .int .i64 a0_2, .int .i64 a0_3, .int .i64 a0_4, .int .i64 a0_5], .agg #[.int .i64 a1_0, .int .i64 a1_1, .int .i64 a1_2]] w fun e w' => e = .returned (.bool r) ∧ Below w.heap.size w w' := by
 have hu25 := Try.underlying25
 have hu23 := Try.underlying23
 have HB := am (Below.refl w.heap.size w)
 have H : (if a0_0 ≤ a1_0 then (if a1_0 < a0_3 then (if a0_1 ≤ a1_1 then (if a1_1 < a0_4 then (if a0_2 ≤ a1_2 then (r_Has.j0 k (decide (a1_2 < a0_5))) else (r_Has.j0 k false)) else (r_Has.j0 k false)) else (r_Has.j0 k false)) else (r_Has.j0 k false)) else (r_Has.j0 k false)) = some r := h
 clear h
 have HC3 := am H
 clear H
 go_enter Try.func30, Try.ntmps30
 go_upto_region 1 with (first | ((with_reducible refine gate_dst (N := 2) rfl ?_); refine box_event ?hg (N := 2) ?hd (cs := #[.int .i64 a0_0, .int .i64 a0_1, .int .i64 a0_2, .int .i64 a0_3, .int .i64 a0_4, .int .i64 a0_5]) (t := 25) ?hr ?_; (case hd | hg => rfl); (case hr => first | (go_simp; done) | (go_simp; rfl)); intro gb553 hg w4 hbox hb; have BK553 := am hbox; have GW553 := sG HB hg; have GE553 := sG HB hg; replace HB := bS HB hb; clear hb hbox hg) | ((with_reducible refine gate_dst (N := 3) rfl ?_); refine box_event ?hg (N := 3) ?hd (cs := #[.int .i64 a1_0, .int .i64 a1_1, .int .i64 a1_2]) (t := 23) ?hr ?_; (case hd | hg => rfl); (case hr => first | (go_simp; done) | (go_simp; rfl)); intro gb554 hg w5 hbox hb; have BK554 := am hbox; have GW554 := sG HB hg; have GE554 := sG HB hg; replace HB := bS HB hb; have NB553_554 := nL BK553 hg; have NB554_553 := nG BK553 hg; replace BK553 := bB BK553 hb; clear hb hbox hg))
 (try simp only [Act.put, psl])
 go_cut [4] (fun v4 wc => ∃ (kq : Nat) (x4_2 : Bool), v4 = .bool x4_2 ∧ Aside0 (r_Has.j0 kq x4_2 = some r) ∧ Aside0 (kq ≤ k) ∧ Aside0 (wc.heap[gb553]? = some (.cells #[.int .i64 a0_0, .int .i64 a0_1, .int .i64 a0_2, .int .i64 a0_3, .int .i64 a0_4, .int .i64 a0_5] 25 (0, 0))) ∧ Aside0 (wc.heap[gb554]? = some (.cells #[.int .i64 a1_0, .int .i64 a1_1, .int .i64 a1_2] 23 (0, 0))) ∧ Aside0 (Below w.heap.size w wc))
 case first =>
  have H := HC3.out
  clear HC3
  by_cases c6 : a0_0 ≤ a1_0
  rotate_left
  ·rw [if_neg c6] at H
   have c6b0 : decide (a0_0 ≤ a1_0) = false := decide_eq_false c6
   clear c6
   (first | rw [c6b0] | (simp only [i64_w, i32_w]; rw [c6b0]) | skip)
   have H' := am H
   clear H
   have hnb26 := NB553_554.out
   have hnc26 := NB554_553.out
   have := yC1 BK553
   have hcz27_1 := kC1 BK553
   have hcz27_2 := kC2 BK553
   have hcz27_3 := kC3 BK553
   have hcz27_4 := kC4 BK553
   have hcz27_5 := kC5 BK553
   have hfz27_0 := bf BK553.out 0
   have hfz27_1 := bf BK553.out 1
   have hfz27_2 := bf BK553.out 2
   have hfz27_3 := bf BK553.out 3
   have hfz27_4 := bf BK553.out 4
   have hfz27_5 := bf BK553.out 5
   have := yC1 BK554
   have hcz28_1 := kC1 BK554
   have hcz28_2 := kC2 BK554
   have hfz28_0 := bf BK554.out 0
   have hfz28_1 := bf BK554.out 1
   have hfz28_2 := bf BK554.out 2
   go_wp2
   go_meet
   case rel => exact ⟨_, (false), (by first | rfl | (simp; done) | (simp [*]; done)), H', ⟨by first | omega | exact Nat.le_refl _⟩, ⟨by (with_reducible repeat first | apply bN | apply bd | apply ba); exact BK553.out⟩, ⟨by (with_reducible repeat first | apply bN | apply bd | apply ba); exact BK554.out⟩, ⟨by repeat (first | (with_reducible first | exact HB.out | apply wa | apply wN | apply wd | refine ws ?_ GE553.out | refine ws ?_ GE554.out) | exact HB.out)⟩⟩
  rw [if_pos c6] at H
  have c6b0 : decide (a0_0 ≤ a1_0) = true := decide_eq_true c6
  clear c6
  (first | rw [c6b0] | (simp only [i64_w, i32_w]; rw [c6b0]) | skip)
  by_cases c7 : a1_0 < a0_3
  rotate_left
  ·rw [if_neg c7] at H
   have c7b0 : decide (a1_0 < a0_3) = false := decide_eq_false c7
   clear c7
   have H' := am H
   clear H
   have hnb23 := NB553_554.out
   have hnc23 := NB554_553.out
   have := yC1 BK553
   have hcz24_1 := kC1 BK553
   have hcz24_2 := kC2 BK553
   have hcz24_3 := kC3 BK553
   have hcz24_4 := kC4 BK553
   have hcz24_5 := kC5 BK553
   have hfz24_0 := bf BK553.out 0
   have hfz24_1 := bf BK553.out 1
   have hfz24_2 := bf BK553.out 2
   have hfz24_3 := bf BK553.out 3
   have hfz24_4 := bf BK553.out 4
   have hfz24_5 := bf BK553.out 5
   have := yC1 BK554
   have hcz25_1 := kC1 BK554
   have hcz25_2 := kC2 BK554
   have hfz25_0 := bf BK554.out 0
   have hfz25_1 := bf BK554.out 1
   have hfz25_2 := bf BK554.out 2
   go_wp2
   go_meet
   case rel => exact ⟨_, (false), (by first | rfl | (simp; done) | (simp [*]; done)), H', ⟨by first | omega | exact Nat.le_refl _⟩, ⟨by (with_reducible repeat first | apply bN | apply bd | apply ba); exact BK553.out⟩, ⟨by (with_reducible repeat first | apply bN | apply bd | apply ba); exact BK554.out⟩, ⟨by repeat (first | (with_reducible first | exact HB.out | apply wa | apply wN | apply wd | refine ws ?_ GE553.out | refine ws ?_ GE554.out) | exact HB.out)⟩⟩
  rw [if_pos c7] at H
  have c7b0 : decide (a1_0 < a0_3) = true := decide_eq_true c7
  clear c7
  by_cases c8 : a0_1 ≤ a1_1
  rotate_left
  ·rw [if_neg c8] at H
   have c8b0 : decide (a0_1 ≤ a1_1) = false := decide_eq_false c8
   clear c8
   have H' := am H
   clear H
   have hnb20 := NB553_554.out
   have hnc20 := NB554_553.out
   have := yC1 BK553
   have hcz21_1 := kC1 BK553
   have hcz21_2 := kC2 BK553
   have hcz21_3 := kC3 BK553
   have hcz21_4 := kC4 BK553
   have hcz21_5 := kC5 BK553
   have hfz21_0 := bf BK553.out 0
   have hfz21_1 := bf BK553.out 1
   have hfz21_2 := bf BK553.out 2
   have hfz21_3 := bf BK553.out 3
   have hfz21_4 := bf BK553.out 4
   have hfz21_5 := bf BK553.out 5
   have := yC1 BK554
   have hcz22_1 := kC1 BK554
   have hcz22_2 := kC2 BK554
   have hfz22_0 := bf BK554.out 0
   have hfz22_1 := bf BK554.out 1
   have hfz22_2 := bf BK554.out 2
   go_wp2
   go_meet
   case rel => exact ⟨_, (false), (by first | rfl | (simp; done) | (simp [*]; done)), H', ⟨by first | omega | exact Nat.le_refl _⟩, ⟨by (with_reducible repeat first | apply bN | apply bd | apply ba); exact BK553.out⟩, ⟨by (with_reducible repeat first | apply bN | apply bd | apply ba); exact BK554.out⟩, ⟨by repeat (first | (with_reducible first | exact HB.out | apply wa | apply wN | apply wd | refine ws ?_ GE553.out | refine ws ?_ GE554.out) | exact HB.out)⟩⟩
  rw [if_pos c8] at H
  have c8b0 : decide (a0_1 ≤ a1_1) = true := decide_eq_true c8
  clear c8
  by_cases c9 : a1_1 < a0_4
  rotate_left
  ·rw [if_neg c9] at H
   have c9b0 : decide (a1_1 < a0_4) = false := decide_eq_false c9
   clear c9
   have H' := am H
   clear H
   have hnb17 := NB553_554.out
   have hnc17 := NB554_553.out
   have := yC1 BK553
   have hcz18_1 := kC1 BK553
   have hcz18_2 := kC2 BK553
   have hcz18_3 := kC3 BK553
   have hcz18_4 := kC4 BK553
   have hcz18_5 := kC5 BK553
   have hfz18_0 := bf BK553.out 0
   have hfz18_1 := bf BK553.out 1
   have hfz18_2 := bf BK553.out 2
   have hfz18_3 := bf BK553.out 3
   have hfz18_4 := bf BK553.out 4
   have hfz18_5 := bf BK553.out 5
   have := yC1 BK554
   have hcz19_1 := kC1 BK554
   have hcz19_2 := kC2 BK554
   have hfz19_0 := bf BK554.out 0
   have hfz19_1 := bf BK554.out 1
   have hfz19_2 := bf BK554.out 2
   go_wp2
   go_meet
   case rel => exact ⟨_, (false), (by first | rfl | (simp; done) | (simp [*]; done)), H', ⟨by first | omega | exact Nat.le_refl _⟩, ⟨by (with_reducible repeat first | apply bN | apply bd | apply ba); exact BK553.out⟩, ⟨by (with_reducible repeat first | apply bN | apply bd | apply ba); exact BK554.out⟩, ⟨by repeat (first | (with_reducible first | exact HB.out | apply wa | apply wN | apply wd | refine ws ?_ GE553.out | refine ws ?_ GE554.out) | exact HB.out)⟩⟩
  rw [if_pos c9] at H
  have c9b0 : decide (a1_1 < a0_4) = true := decide_eq_true c9
  clear c9
  by_cases c10 : a0_2 ≤ a1_2
  ·rw [if_pos c10] at H
   have c10b0 : decide (a0_2 ≤ a1_2) = true := decide_eq_true c10
   clear c10
   have H' := am H
   clear H
   have hnb11 := NB553_554.out
   have hnc11 := NB554_553.out
   have := yC1 BK553
   have hcz12_1 := kC1 BK553
   have hcz12_2 := kC2 BK553
   have hcz12_3 := kC3 BK553
   have hcz12_4 := kC4 BK553
   have hcz12_5 := kC5 BK553
   have hfz12_0 := bf BK553.out 0
   have hfz12_1 := bf BK553.out 1
   have hfz12_2 := bf BK553.out 2
   have hfz12_3 := bf BK553.out 3
   have hfz12_4 := bf BK553.out 4
   have hfz12_5 := bf BK553.out 5
   have := yC1 BK554
   have hcz13_1 := kC1 BK554
   have hcz13_2 := kC2 BK554
   have hfz13_0 := bf BK554.out 0
   have hfz13_1 := bf BK554.out 1
   have hfz13_2 := bf BK554.out 2
   go_wp2
   go_meet
   case rel => exact ⟨_, (decide (a1_2 < a0_5)), (by first | rfl | (simp; done) | (simp [*]; done)), H', ⟨by first | omega | exact Nat.le_refl _⟩, ⟨by (with_reducible repeat first | apply bN | apply bd | apply ba); exact BK553.out⟩, ⟨by (with_reducible repeat first | apply bN | apply bd | apply ba); exact BK554.out⟩, ⟨by repeat (first | (with_reducible first | exact HB.out | apply wa | apply wN | apply wd | refine ws ?_ GE553.out | refine ws ?_ GE554.out) | exact HB.out)⟩⟩
  rw [if_neg c10] at H
  have c10b0 : decide (a0_2 ≤ a1_2) = false := decide_eq_false c10
  clear c10
  have H' := am H
  clear H
  have hnb14 := NB553_554.out
  have hnc14 := NB554_553.out
  have := yC1 BK553
  have hcz15_1 := kC1 BK553
  have hcz15_2 := kC2 BK553
  have hcz15_3 := kC3 BK553
  have hcz15_4 := kC4 BK553
  have hcz15_5 := kC5 BK553
  have hfz15_0 := bf BK553.out 0
  have hfz15_1 := bf BK553.out 1
  have hfz15_2 := bf BK553.out 2
  have hfz15_3 := bf BK553.out 3
  have hfz15_4 := bf BK553.out 4
  have hfz15_5 := bf BK553.out 5
  have := yC1 BK554
  have hcz16_1 := kC1 BK554
  have hcz16_2 := kC2 BK554
  have hfz16_0 := bf BK554.out 0
  have hfz16_1 := bf BK554.out 1
  have hfz16_2 := bf BK554.out 2
  go_wp2
  go_meet
  case rel => exact ⟨_, (false), (by first | rfl | (simp; done) | (simp [*]; done)), H', ⟨by first | omega | exact Nat.le_refl _⟩, ⟨by (with_reducible repeat first | apply bN | apply bd | apply ba); exact BK553.out⟩, ⟨by (with_reducible repeat first | apply bN | apply bd | apply ba); exact BK554.out⟩, ⟨by repeat (first | (with_reducible first | exact HB.out | apply wa | apply wN | apply wd | refine ws ?_ GE553.out | refine ws ?_ GE554.out) | exact HB.out)⟩⟩
 case rest =>
  clear HC3
  try clear c1;try clear c2;try clear p2;try clear c3;try clear c6;try clear c6b0;try clear c7;try clear c7b0;try clear c8;try clear c8b0;try clear c9;try clear c9b0;try clear c10;try clear c10b0;try clear c11;try clear c14;try clear c17;try clear c20;try clear c23;try clear c26;try clear hcz12_0;try clear hcz12_1;try clear hcz12_2;try clear hcz12_3;try clear hcz12_4;try clear hcz12_5;try clear hcz13_0;try clear hcz13_1;try clear hcz13_2;try clear hcz15_0;try clear hcz15_1;try clear hcz15_2;try clear hcz15_3;try clear hcz15_4;try clear hcz15_5;try clear hcz16_0;try clear hcz16_1;try clear hcz16_2;try clear hcz18_0;try clear hcz18_1;try clear hcz18_2;try clear hcz18_3;try clear hcz18_4;try clear hcz18_5;try clear hcz19_0;try clear hcz19_1;try clear hcz19_2;try clear hcz21_0;try clear hcz21_1;try clear hcz21_2;try clear hcz21_3;try clear hcz21_4;try clear hcz21_5;try clear hcz22_0;try clear hcz22_1;try clear hcz22_2;try clear hcz24_0;try clear hcz24_1;try clear hcz24_2;try clear hcz24_3;try clear hcz24_4;try clear hcz24_5;try clear hcz25_0;try clear hcz25_1;try clear hcz25_2;try clear hcz27_0;try clear hcz27_1;try clear hcz27_2;try clear hcz27_3;try clear hcz27_4;try clear hcz27_5;try clear hcz28_0;try clear hcz28_1;try clear hcz28_2;try clear hfz12_0;try clear hfz12_1;try clear hfz12_2;try clear hfz12_3;try clear hfz12_4;try clear hfz12_5;try clear hfz13_0;try clear hfz13_1;try clear hfz13_2;try clear hfz15_0;try clear hfz15_1;try clear hfz15_2;try clear hfz15_3;try clear hfz15_4;try clear hfz15_5;try clear hfz16_0;try clear hfz16_1;try clear hfz16_2;try clear hfz18_0;try clear hfz18_1;try clear hfz18_2;try clear hfz18_3;try clear hfz18_4;try clear hfz18_5;try clear hfz19_0;try clear hfz19_1;try clear hfz19_2;try clear hfz21_0;try clear hfz21_1;try clear hfz21_2;try clear hfz21_3;try clear hfz21_4;try clear hfz21_5;try clear hfz22_0;try clear hfz22_1;try clear hfz22_2;try clear hfz24_0;try clear hfz24_1;try clear hfz24_2;try clear hfz24_3;try clear hfz24_4;try clear hfz24_5;try clear hfz25_0;try clear hfz25_1;try clear hfz25_2;try clear hfz27_0;try clear hfz27_1;try clear hfz27_2;try clear hfz27_3;try clear hfz27_4;try clear hfz27_5;try clear hfz28_0;try clear hfz28_1;try clear hfz28_2
  obtain ⟨kq, x4_2, rfl, HA, HJ2, BK553, BK554, HB⟩ := hcut
  cases kq with
  | zero => exact absurd HA.out (by simp [r_Has.j0])
  | succ kj2 =>
   have H := HA.out
   clear HA
   simp only [r_Has.j0] at H
   obtain rfl := Option.some.inj H
   go_wp2
   go_ret
   exact ⟨by first | rfl | (simp [errW_none, errW_some] <;> rfl) | (simp [*, errW_none, errW_some] <;> rfl), by repeat (first | (with_reducible first | exact HB.out | apply wa | apply wN | apply wd | refine ws ?_ GE553.out | refine ws ?_ GE554.out) | exact HB.out)⟩

end Go.Proofs.Ytmmdikhmlmoolaa.QA
