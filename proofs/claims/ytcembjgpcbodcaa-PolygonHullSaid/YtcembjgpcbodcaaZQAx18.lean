import Derived.Test.YtcembjgpcbodcaaZQAx0
namespace Go.Proofs.Ytcembjgpcbodcaa.QA
open Go.RowKit Go.Proofs.YtcembjgpcbodcaaW.PrintWords Go.Proofs.YtcembjgpcbodcaaW.PrintLast Go.Proofs.YtcembjgpcbodcaaW.PrintMore
open Go.Proofs.YtcembjgpcbodcaaW.PrintWords renaming blk_frozen → bf
open Aside0 renaming mk → am
attribute [local go_sem] max2_int min2_int max_two min_two max_three min_three max_four min_four
set_option linter.unusedVariables false
set_option linter.unusedSimpArgs false

def r_Less.j0 : Nat → Bool → Option (Bool)
 | 0, _ => none
 | k + 1, x4 => some x4
def r_Less.f (k : Nat) (a0_0 : Int) (a0_1 : Int) (a1_0 : Int) (a1_1 : Int) : Option (Bool) := if a0_0 < a1_0 then (r_Less.j0 k true) else (if a0_0 = a1_0 then (r_Less.j0 k (decide (a0_1 < a1_1))) else (r_Less.j0 k false))
set_option maxHeartbeats 8000000 in
set_option maxRecDepth 100000 in
theorem r_Less.calls (k : Nat) (a0_0 : Int) (a0_1 : Int) (a1_0 : Int) (a1_1 : Int) (r : Bool) (w : World) (h : r_Less.f k a0_0 a0_1 a1_0 a1_1 = some r) :
  Calls Try.prog 54 #[.agg #[.int .i64 a0_0, .int .i64 a0_1], .agg #[.int .i64 a1_0, .int .i64 a1_1]] w fun e w' => e = .returned (.bool r) ∧ Below w.heap.size w w' := by
 have hu23 := Try.underlying23
 have HB := am (Below.refl w.heap.size w)
 have H : (if a0_0 < a1_0 then (r_Less.j0 k true) else (if a0_0 = a1_0 then (r_Less.j0 k (decide (a0_1 < a1_1))) else (r_Less.j0 k false))) = some r := h
 clear h
 have HC3 := am H
 clear H
 go_enter Try.func54, Try.ntmps54
 go_upto_region 1 with (first | ((with_reducible refine gate_dst (N := 2) rfl ?_); refine box_event ?hg (N := 2) ?hd (cs := #[.int .i64 a0_0, .int .i64 a0_1]) (t := 23) ?hr ?_; (case hd | hg => rfl); (case hr => first | (go_simp; done) | (go_simp; rfl)); intro gb343 hg w4 hbox hb; have BK343 := am hbox; have GW343 := sG HB hg; have GE343 := sG HB hg; replace HB := bS HB hb; clear hb hbox hg) | ((with_reducible refine gate_dst (N := 3) rfl ?_); refine box_event ?hg (N := 3) ?hd (cs := #[.int .i64 a1_0, .int .i64 a1_1]) (t := 23) ?hr ?_; (case hd | hg => rfl); (case hr => first | (go_simp; done) | (go_simp; rfl)); intro gb344 hg w5 hbox hb; have BK344 := am hbox; have GW344 := sG HB hg; have GE344 := sG HB hg; replace HB := bS HB hb; have NB343_344 := nL BK343 hg; have NB344_343 := nG BK343 hg; replace BK343 := bB BK343 hb; clear hb hbox hg))
 (try simp only [Act.put, psl])
 go_cut [4] (fun v4 wc => ∃ (kq : Nat) (x4_2 : Bool), v4 = .bool x4_2 ∧ Aside0 (r_Less.j0 kq x4_2 = some r) ∧ Aside0 (kq ≤ k) ∧ Aside0 (wc.heap[gb343]? = some (.cells #[.int .i64 a0_0, .int .i64 a0_1] 23 (0, 0))) ∧ Aside0 (wc.heap[gb344]? = some (.cells #[.int .i64 a1_0, .int .i64 a1_1] 23 (0, 0))) ∧ Aside0 (Below w.heap.size w wc))
 case first =>
  have H := HC3.out
  clear HC3
  by_cases c6 : a0_0 < a1_0
  ·rw [if_pos c6] at H
   have c6b0 : decide (a0_0 < a1_0) = true := decide_eq_true c6
   clear c6
   (first | rw [c6b0] | (simp only [i64_w, i32_w]; rw [c6b0]) | skip)
   have H' := am H
   clear H
   have hnb7 := NB343_344.out
   have hnc7 := NB344_343.out
   have := yC1 BK343
   have := kC1 BK343
   have := bf BK343.out 0
   have := bf BK343.out 1
   have := yC1 BK344
   have := kC1 BK344
   have := bf BK344.out 0
   have := bf BK344.out 1
   go_wp2
   go_meet
   case rel => exact ⟨_, (true), sqD, H', ⟨by first | omega | exact Nat.le_refl _⟩, ⟨fb BK343.out⟩, ⟨fb BK344.out⟩, ⟨fW HB.out⟩⟩
  rw [if_neg c6] at H
  have c6b0 : decide (a0_0 < a1_0) = false := decide_eq_false c6
  clear c6
  (first | rw [c6b0] | (simp only [i64_w, i32_w]; rw [c6b0]) | skip)
  by_cases c10 : a0_0 = a1_0
  ·rw [if_pos c10] at H
   have c10b0 : (a0_0 == a1_0) = true := beq_iff_eq.mpr c10
   have c10b1 : (a0_0 != a1_0) = false := bne_eq_false_iff_eq.mpr c10
   clear c10
   have H' := am H
   clear H
   have hnb11 := NB343_344.out
   have hnc11 := NB344_343.out
   have := yC1 BK343
   have := kC1 BK343
   have := bf BK343.out 0
   have := bf BK343.out 1
   have := yC1 BK344
   have := kC1 BK344
   have := bf BK344.out 0
   have := bf BK344.out 1
   go_wp2
   go_meet
   case rel => exact ⟨_, (decide (a0_1 < a1_1)), sqD, H', ⟨by first | omega | exact Nat.le_refl _⟩, ⟨fb BK343.out⟩, ⟨fb BK344.out⟩, ⟨fW HB.out⟩⟩
  rw [if_neg c10] at H
  have c10b0 : (a0_0 == a1_0) = false := beq_eq_false_iff_ne.mpr c10
  have c10b1 : (a0_0 != a1_0) = true := bne_iff_ne.mpr c10
  have H' := am H
  clear H
  have hnb14 := NB343_344.out
  have hnc14 := NB344_343.out
  have := yC1 BK343
  have := kC1 BK343
  have := bf BK343.out 0
  have := bf BK343.out 1
  have := yC1 BK344
  have := kC1 BK344
  have := bf BK344.out 0
  have := bf BK344.out 1
  go_wp2
  go_meet
  case rel => exact ⟨_, (false), sqD, H', ⟨by first | omega | exact Nat.le_refl _⟩, ⟨fb BK343.out⟩, ⟨fb BK344.out⟩, ⟨fW HB.out⟩⟩
 case rest =>
  clear HC3
  try clear c1;try clear p2;try clear c5;try clear c6;try clear c6b0;try clear c7;try clear c10;try clear c10b0;try clear c10b1;try clear c11;try clear c14
  obtain ⟨kq, x4_2, rfl, HA, HJ2, BK343, BK344, HB⟩ := hcut
  cases kq with
  | zero => exact absurd HA.out (by simp [r_Less.j0])
  | succ kj2 =>
   have H := HA.out
   clear HA
   simp only [r_Less.j0] at H
   obtain rfl := Option.some.inj H
   go_wp2
   go_ret
   exact ⟨sqE, fW HB.out⟩

def r_far.f (a0_0 : Int) (a0_1 : Int) (a1_0 : Int) (a1_1 : Int) : Option (Int) := some (wrap64 ((wrap64 ((wrap64 (a0_0 - a1_0)) * (wrap64 (a0_0 - a1_0)))) + (wrap64 ((wrap64 (a0_1 - a1_1)) * (wrap64 (a0_1 - a1_1))))))
set_option maxHeartbeats 8000000 in
set_option maxRecDepth 100000 in
theorem r_far.calls (a0_0 : Int) (a0_1 : Int) (a1_0 : Int) (a1_1 : Int) (r : Int) (w : World) (h : r_far.f a0_0 a0_1 a1_0 a1_1 = some r) :
  Calls Try.prog 55 #[.agg #[.int .i64 a0_0, .int .i64 a0_1], .agg #[.int .i64 a1_0, .int .i64 a1_1]] w fun e w' => e = .returned (.int .i64 r) ∧ Below w.heap.size w w' := by
 have hu23 := Try.underlying23
 have HB := am (Below.refl w.heap.size w)
 have H : (some (wrap64 ((wrap64 ((wrap64 (a0_0 - a1_0)) * (wrap64 (a0_0 - a1_0)))) + (wrap64 ((wrap64 (a0_1 - a1_1)) * (wrap64 (a0_1 - a1_1))))))) = some r := h
 clear h
 obtain rfl := Option.some.inj H
 go_enter Try.func55, Try.ntmps55
 go_wp2_with (first | ((with_reducible refine gate_dst (N := 2) rfl ?_); refine box_event ?hg (N := 2) ?hd (cs := #[.int .i64 a0_0, .int .i64 a0_1]) (t := 23) ?hr ?_; (case hd | hg => rfl); (case hr => first | (go_simp; done) | (go_simp; rfl)); intro gb345 hg w3 hbox hb; have BK345 := am hbox; have GW345 := sG HB hg; have GE345 := sG HB hg; replace HB := bS HB hb; clear hb hbox hg) | ((with_reducible refine gate_dst (N := 3) rfl ?_); refine box_event ?hg (N := 3) ?hd (cs := #[.int .i64 a1_0, .int .i64 a1_1]) (t := 23) ?hr ?_; (case hd | hg => rfl); (case hr => first | (go_simp; done) | (go_simp; rfl)); intro gb346 hg w4 hbox hb; have BK346 := am hbox; have GW346 := sG HB hg; have GE346 := sG HB hg; replace HB := bS HB hb; have NB345_346 := nL BK345 hg; have NB346_345 := nG BK345 hg; replace BK345 := bB BK345 hb; clear hb hbox hg; have hnb5 := NB345_346.out; have hnc5 := NB346_345.out; obtain ⟨_, _, _, _⟩ := zC2 BK345; obtain ⟨_, _, _, _⟩ := zC2 BK346))
 go_ret
 exact ⟨sqE, fW HB.out⟩

end Go.Proofs.Ytcembjgpcbodcaa.QA
