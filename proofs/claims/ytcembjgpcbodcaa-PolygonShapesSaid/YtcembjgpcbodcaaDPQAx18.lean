import Derived.Test.YtcembjgpcbodcaaDPQAx0
namespace Go.Proofs.Ytcembjgpcbodcaa.QA
open Go.RowKit Go.Proofs.YtcembjgpcbodcaaW.PrintWords Go.Proofs.YtcembjgpcbodcaaW.PrintLast Go.Proofs.YtcembjgpcbodcaaW.PrintMore
open Go.Proofs.YtcembjgpcbodcaaW.PrintWords renaming blk_drewN → bN, blk_alloc → ba, below_alloc → wa, pw_below_drewN → wN, below_drew1 → wd, below_set → ws, blk_frozen → bf, blk_cell → bc
open Aside0 renaming mk → am
attribute [local go_sem] max2_int min2_int max_two min_two max_three min_three max_four min_four
set_option linter.unusedVariables false
set_option linter.unusedSimpArgs false

def r_Less.j0 : Nat → Bool → Option (Bool)
 | 0, _ => none
 | k + 1, x4 => some x4
def r_Less.f (k : Nat) (a0_0 : Int) (a0_1 : Int) (a1_0 : Int) (a1_1 : Int) : Option (Bool) := if a0_0 < a1_0 then (r_Less.j0 k true) else (if a0_0 = a1_0 then (r_Less.j0 k (decide (a0_1 < a1_1))) else (r_Less.j0 k false))
set_option maxHeartbeats 8000000 in
set_option maxRecDepth 100000 in
theorem r_Less.calls (k : Nat) (a0_0 : Int) (a0_1 : Int) (a1_0 : Int) (a1_1 : Int) (r : Bool) (w : World) (h : r_Less.f k a0_0 a0_1 a1_0 a1_1 = some r) :
  Calls Try.prog 54 #[.agg #[.int .i64 a0_0, .int .i64 a0_1], .agg #[.int .i64 a1_0, .int .i64 a1_1]] w fun e w' => e = .returned (.bool r) ∧ Below w.heap.size w w' := by
 have hu23 := Try.underlying23
 have HB := am (Below.refl w.heap.size w)
 have H : (if a0_0 < a1_0 then (r_Less.j0 k true) else (if a0_0 = a1_0 then (r_Less.j0 k (decide (a0_1 < a1_1))) else (r_Less.j0 k false))) = some r := h
 clear h
 have HC3 := am H
 clear H
 go_enter Try.func54, Try.ntmps54
 go_upto_region 1 with (first | ((with_reducible refine gate_dst (N := 2) rfl ?_); refine box_event ?hg (N := 2) ?hd (cs := #[.int .i64 a0_0, .int .i64 a0_1]) (t := 23) ?hr ?_; (case hd | hg => rfl); (case hr => first | (go_simp; done) | (go_simp; rfl)); intro gb343 hg w4 hbox hb; have n0_ := am (below_step (by repeat (first | (with_reducible first | exact HB.out | apply wa | apply wN | apply wd) | exact HB.out)) hb); have n1_ := am (hbox); have n2_ := am ((by rw [hg]; exact (below_size (by repeat (first | (with_reducible first | exact HB.out | apply wa | apply wN | apply wd) | exact HB.out))) : w.heap.size ≤ gb343)); have n3_ := am ((by rw [hg]; exact (below_size (by repeat (first | (with_reducible first | exact HB.out | apply wa | apply wN | apply wd) | exact HB.out))) : w.heap.size ≤ gb343)); clear HB; have HB := n0_; have BK343 := n1_; have GW343 := n2_; have GE343 := n3_; clear n0_ n1_ n2_ n3_ hb hbox hg) | ((with_reducible refine gate_dst (N := 3) rfl ?_); refine box_event ?hg (N := 3) ?hd (cs := #[.int .i64 a1_0, .int .i64 a1_1]) (t := 23) ?hr ?_; (case hd | hg => rfl); (case hr => first | (go_simp; done) | (go_simp; rfl)); intro gb344 hg w5 hbox hb; have n0_ := am (blk_below (g := gb343) (o := .cells #[.int .i64 a0_0, .int .i64 a0_1] 23 (0, 0)) (by (with_reducible repeat first | apply bN | apply blk_drew | apply ba); exact BK343.out) hb); have n1_ := am (below_step (by repeat (first | (with_reducible first | exact HB.out | apply wa | apply wN | apply wd | refine ws ?_ GE343.out) | exact HB.out)) hb); have n2_ := am (hbox); have n3_ := am ((by rw [hg]; exact (below_size (by repeat (first | (with_reducible first | exact HB.out | apply wa | apply wN | apply wd | refine ws ?_ GE343.out) | exact HB.out))) : w.heap.size ≤ gb344)); have n4_ := am ((by rw [hg]; exact (below_size (by repeat (first | (with_reducible first | exact HB.out | apply wa | apply wN | apply wd | refine ws ?_ GE343.out) | exact HB.out))) : w.heap.size ≤ gb344)); have n5_ := am ((by rw [hg]; exact Nat.ne_of_lt (blk_lt (g := gb343) (o := .cells #[.int .i64 a0_0, .int .i64 a0_1] 23 (0, 0)) (by (with_reducible repeat first | apply bN | apply blk_drew | apply ba); exact BK343.out)) : gb343 ≠ gb344)); have n6_ := am ((by rw [hg]; exact Nat.ne_of_gt (blk_lt (g := gb343) (o := .cells #[.int .i64 a0_0, .int .i64 a0_1] 23 (0, 0)) (by (with_reducible repeat first | apply bN | apply blk_drew | apply ba); exact BK343.out)) : gb344 ≠ gb343)); clear BK343 HB; have BK343 := n0_; have HB := n1_; have BK344 := n2_; have GW344 := n3_; have GE344 := n4_; have NB343_344 := n5_; have NB344_343 := n6_; clear n0_ n1_ n2_ n3_ n4_ n5_ n6_ hb hbox hg))
 (try simp only [Act.put, psl])
 go_cut [4] (fun v4 wc => ∃ (kq : Nat) (x4_2 : Bool), v4 = .bool x4_2 ∧ Aside0 (r_Less.j0 kq x4_2 = some r) ∧ Aside0 (kq ≤ k) ∧ Aside0 (wc.heap[gb343]? = some (.cells #[.int .i64 a0_0, .int .i64 a0_1] 23 (0, 0))) ∧ Aside0 (wc.heap[gb344]? = some (.cells #[.int .i64 a1_0, .int .i64 a1_1] 23 (0, 0))) ∧ Aside0 (Below w.heap.size w wc))
 case first =>
  have H := HC3.out
  clear HC3
  by_cases c6 : a0_0 < a1_0
  ·rw [if_pos c6] at H
   have c6b0 : decide (a0_0 < a1_0) = true := decide_eq_true c6
   clear c6
   (first | rw [c6b0] | (simp only [i64_w, i32_w]; rw [c6b0]) | skip)
   have H' := am H
   clear H
   have hnb7 := NB343_344.out
   have hnc7 := NB344_343.out
   have hcz8_0 : w5.cell? ⟨gb343, 0, none⟩ = some (.int .i64 a0_0) := (bc BK343.out 0).trans rfl
   have hcz8_1 : w5.cell? ⟨gb343, 1, none⟩ = some (.int .i64 a0_1) := (bc BK343.out 1).trans rfl
   have hfz8_0 := bf BK343.out 0
   have hfz8_1 := bf BK343.out 1
   have hcz9_0 : w5.cell? ⟨gb344, 0, none⟩ = some (.int .i64 a1_0) := (bc BK344.out 0).trans rfl
   have hcz9_1 : w5.cell? ⟨gb344, 1, none⟩ = some (.int .i64 a1_1) := (bc BK344.out 1).trans rfl
   have hfz9_0 := bf BK344.out 0
   have hfz9_1 := bf BK344.out 1
   go_wp2
   go_meet
   case rel => exact ⟨_, (true), (by first | rfl | (simp; done) | (simp [*]; done)), H', ⟨by first | omega | exact Nat.le_refl _⟩, ⟨by (with_reducible repeat first | apply bN | apply blk_drew | apply ba); exact BK343.out⟩, ⟨by (with_reducible repeat first | apply bN | apply blk_drew | apply ba); exact BK344.out⟩, ⟨by repeat (first | (with_reducible first | exact HB.out | apply wa | apply wN | apply wd | refine ws ?_ GE343.out | refine ws ?_ GE344.out) | exact HB.out)⟩⟩
  rw [if_neg c6] at H
  have c6b0 : decide (a0_0 < a1_0) = false := decide_eq_false c6
  clear c6
  (first | rw [c6b0] | (simp only [i64_w, i32_w]; rw [c6b0]) | skip)
  by_cases c10 : a0_0 = a1_0
  ·rw [if_pos c10] at H
   have c10b0 : (a0_0 == a1_0) = true := beq_iff_eq.mpr c10
   have c10b1 : (a0_0 != a1_0) = false := bne_eq_false_iff_eq.mpr c10
   clear c10
   have H' := am H
   clear H
   have hnb11 := NB343_344.out
   have hnc11 := NB344_343.out
   have hcz12_0 : w5.cell? ⟨gb343, 0, none⟩ = some (.int .i64 a0_0) := (bc BK343.out 0).trans rfl
   have hcz12_1 : w5.cell? ⟨gb343, 1, none⟩ = some (.int .i64 a0_1) := (bc BK343.out 1).trans rfl
   have hfz12_0 := bf BK343.out 0
   have hfz12_1 := bf BK343.out 1
   have hcz13_0 : w5.cell? ⟨gb344, 0, none⟩ = some (.int .i64 a1_0) := (bc BK344.out 0).trans rfl
   have hcz13_1 : w5.cell? ⟨gb344, 1, none⟩ = some (.int .i64 a1_1) := (bc BK344.out 1).trans rfl
   have hfz13_0 := bf BK344.out 0
   have hfz13_1 := bf BK344.out 1
   go_wp2
   go_meet
   case rel => exact ⟨_, (decide (a0_1 < a1_1)), (by first | rfl | (simp; done) | (simp [*]; done)), H', ⟨by first | omega | exact Nat.le_refl _⟩, ⟨by (with_reducible repeat first | apply bN | apply blk_drew | apply ba); exact BK343.out⟩, ⟨by (with_reducible repeat first | apply bN | apply blk_drew | apply ba); exact BK344.out⟩, ⟨by repeat (first | (with_reducible first | exact HB.out | apply wa | apply wN | apply wd | refine ws ?_ GE343.out | refine ws ?_ GE344.out) | exact HB.out)⟩⟩
  rw [if_neg c10] at H
  have c10b0 : (a0_0 == a1_0) = false := beq_eq_false_iff_ne.mpr c10
  have c10b1 : (a0_0 != a1_0) = true := bne_iff_ne.mpr c10
  have H' := am H
  clear H
  have hnb14 := NB343_344.out
  have hnc14 := NB344_343.out
  have hcz15_0 : w5.cell? ⟨gb343, 0, none⟩ = some (.int .i64 a0_0) := (bc BK343.out 0).trans rfl
  have hcz15_1 : w5.cell? ⟨gb343, 1, none⟩ = some (.int .i64 a0_1) := (bc BK343.out 1).trans rfl
  have hfz15_0 := bf BK343.out 0
  have hfz15_1 := bf BK343.out 1
  have hcz16_0 : w5.cell? ⟨gb344, 0, none⟩ = some (.int .i64 a1_0) := (bc BK344.out 0).trans rfl
  have hcz16_1 : w5.cell? ⟨gb344, 1, none⟩ = some (.int .i64 a1_1) := (bc BK344.out 1).trans rfl
  have hfz16_0 := bf BK344.out 0
  have hfz16_1 := bf BK344.out 1
  go_wp2
  go_meet
  case rel => exact ⟨_, (false), (by first | rfl | (simp; done) | (simp [*]; done)), H', ⟨by first | omega | exact Nat.le_refl _⟩, ⟨by (with_reducible repeat first | apply bN | apply blk_drew | apply ba); exact BK343.out⟩, ⟨by (with_reducible repeat first | apply bN | apply blk_drew | apply ba); exact BK344.out⟩, ⟨by repeat (first | (with_reducible first | exact HB.out | apply wa | apply wN | apply wd | refine ws ?_ GE343.out | refine ws ?_ GE344.out) | exact HB.out)⟩⟩
 case rest =>
  clear HC3
  try clear c1;try clear p2;try clear c5;try clear c6;try clear c6b0;try clear c7;try clear c10;try clear c10b0;try clear c10b1;try clear c11;try clear c14;try clear hcz12_0;try clear hcz12_1;try clear hcz13_0;try clear hcz13_1;try clear hcz15_0;try clear hcz15_1;try clear hcz16_0;try clear hcz16_1;try clear hcz8_0;try clear hcz8_1;try clear hcz9_0;try clear hcz9_1;try clear hfz12_0;try clear hfz12_1;try clear hfz13_0;try clear hfz13_1;try clear hfz15_0;try clear hfz15_1;try clear hfz16_0;try clear hfz16_1;try clear hfz8_0;try clear hfz8_1;try clear hfz9_0;try clear hfz9_1
  obtain ⟨kq, x4_2, rfl, HA, HJ2, BK343, BK344, HB⟩ := hcut
  cases kq with
  | zero => exact absurd HA.out (by simp [r_Less.j0])
  | succ kj2 =>
   have H := HA.out
   clear HA
   simp only [r_Less.j0] at H
   obtain rfl := Option.some.inj H
   go_wp2
   go_ret
   exact ⟨by first | rfl | (simp [errW_none, errW_some] <;> rfl) | (simp [*, errW_none, errW_some] <;> rfl), by repeat (first | (with_reducible first | exact HB.out | apply wa | apply wN | apply wd | refine ws ?_ GE343.out | refine ws ?_ GE344.out) | exact HB.out)⟩

end Go.Proofs.Ytcembjgpcbodcaa.QA
