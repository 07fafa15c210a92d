import Derived.Test.YtcofgnbopodahaaJQAx0
namespace Go.Proofs.Ytcofgnbopodahaa.QA
open Go.RowKit Go.Proofs.YtcofgnbopodahaaW.PrintWords Go.Proofs.YtcofgnbopodahaaW.PrintLast Go.Proofs.YtcofgnbopodahaaW.PrintMore
open Go.Proofs.YtcofgnbopodahaaW.PrintWords renaming blk_frozen → bf
open Aside0 renaming mk → am
attribute [local go_sem] max2_int min2_int max_two min_two max_three min_three max_four min_four
set_option linter.unusedVariables false
set_option linter.unusedSimpArgs false

def r_has.j0 : Nat → Bool → Option (Bool)
 | 0, _ => none
 | k + 1, x4 => some x4
def r_has.f (k : Nat) (a0_0 : Int) (a0_1 : Int) (a0_2 : Int) (a0_3 : Int) (a0_4 : Int) (a0_5 : Int) (a1_0 : Int) (a1_1 : Int) (a1_2 : Int) : Option (Bool) := if a0_0 ≤ a1_0 then (if a1_0 < a0_3 then (if a0_1 ≤ a1_1 then (if a1_1 < a0_4 then (if a0_2 ≤ a1_2 then (r_has.j0 k (decide (a1_2 < a0_5))) else (r_has.j0 k false)) else (r_has.j0 k false)) else (r_has.j0 k false)) else (r_has.j0 k false)) else (r_has.j0 k false)
set_option maxHeartbeats 8000000 in
set_option maxRecDepth 100000 in
theorem r_has.calls (k : Nat) (a0_0 : Int) (a0_1 : Int) (a0_2 : Int) (a0_3 : Int) (a0_4 : Int) (a0_5 : Int) (a1_0 : Int) (a1_1 : Int) (a1_2 : Int) (r : Bool) (w : World) (h : r_has.f k a0_0 a0_1 a0_2 a0_3 a0_4 a0_5 a1_0 a1_1 a1_2 = some r) :
  Calls Try.prog 45 #[.agg #[.int .i64 a0_0, .int .i64 a0_1, .int .i64 a0_2, .int .i64 a0_3, .int .i64 a0_4, .int .i64 a0_5], .agg #[.int .i64 a1_0, .int .i64 a1_1, .int .i64 a1_2]] w fun e w' => e = .returned (.bool r) ∧ Below w.heap.size w w' := by
 have hu43 := Try.underlying43
 have hu24 := Try.underlying24
 have HB := am (Below.refl w.heap.size w)
 have H : (if a0_0 ≤ a1_0 then (if a1_0 < a0_3 then (if a0_1 ≤ a1_1 then (if a1_1 < a0_4 then (if a0_2 ≤ a1_2 then (r_has.j0 k (decide (a1_2 < a0_5))) else (r_has.j0 k false)) else (r_has.j0 k false)) else (r_has.j0 k false)) else (r_has.j0 k false)) else (r_has.j0 k false)) = some r := h
 clear h
 have HC3 := am H
 clear H
 go_enter Try.func45, Try.ntmps45
 go_upto_region 1 with (first | ((with_reducible refine gate_dst (N := 2) rfl ?_); refine box_event ?hg (N := 2) ?hd (cs := #[.int .i64 a0_0, .int .i64 a0_1, .int .i64 a0_2, .int .i64 a0_3, .int .i64 a0_4, .int .i64 a0_5]) (t := 43) ?hr ?_; (case hd | hg => rfl); (case hr => first | (go_simp; done) | (go_simp; rfl)); intro gb193 hg w4 hbox hb; have BK193 := am hbox; have GW193 := sG HB hg; have GE193 := sG HB hg; replace HB := bS HB hb; clear hb hbox hg) | ((with_reducible refine gate_dst (N := 3) rfl ?_); refine box_event ?hg (N := 3) ?hd (cs := #[.int .i64 a1_0, .int .i64 a1_1, .int .i64 a1_2]) (t := 24) ?hr ?_; (case hd | hg => rfl); (case hr => first | (go_simp; done) | (go_simp; rfl)); intro gb194 hg w5 hbox hb; have BK194 := am hbox; have GW194 := sG HB hg; have GE194 := sG HB hg; replace HB := bS HB hb; have NB193_194 := nL BK193 hg; have NB194_193 := nG BK193 hg; replace BK193 := bB BK193 hb; clear hb hbox hg))
 (try simp only [Act.put, psl])
 go_cut [4] (fun v4 wc => ∃ (kq : Nat) (x4_2 : Bool), v4 = .bool x4_2 ∧ Aside0 (r_has.j0 kq x4_2 = some r) ∧ Aside0 (kq ≤ k) ∧ Aside0 (wc.heap[gb193]? = some (.cells #[.int .i64 a0_0, .int .i64 a0_1, .int .i64 a0_2, .int .i64 a0_3, .int .i64 a0_4, .int .i64 a0_5] 43 (0, 0))) ∧ Aside0 (wc.heap[gb194]? = some (.cells #[.int .i64 a1_0, .int .i64 a1_1, .int .i64 a1_2] 24 (0, 0))) ∧ Aside0 (Below w.heap.size w wc))
 case first =>
  have H := HC3.out
  clear HC3
  by_cases c6 : a0_0 ≤ a1_0
  rotate_left
  ·rw [if_neg c6] at H
   have c6b0 : decide (a0_0 ≤ a1_0) = false := decide_eq_false c6
   clear c6
   (first | rw [c6b0] | (simp only [i64_w, i32_w]; rw [c6b0]) | skip)
   have H' := am H
   clear H
   have hnb26 := NB193_194.out
   have hnc26 := NB194_193.out
   have := yC1 BK193
   have := kC1 BK193
   have := kC2 BK193
   have := kC3 BK193
   have := kC4 BK193
   have := kC5 BK193
   have := bf BK193.out 0
   have := bf BK193.out 1
   have := bf BK193.out 2
   have := bf BK193.out 3
   have := bf BK193.out 4
   have := bf BK193.out 5
   have := yC1 BK194
   have := kC1 BK194
   have := kC2 BK194
   have := bf BK194.out 0
   have := bf BK194.out 1
   have := bf BK194.out 2
   go_wp2
   go_meet
   case rel => exact ⟨_, (false), sqD, H', ⟨by first | omega | exact Nat.le_refl _⟩, ⟨fb BK193.out⟩, ⟨fb BK194.out⟩, ⟨fW HB.out⟩⟩
  rw [if_pos c6] at H
  have c6b0 : decide (a0_0 ≤ a1_0) = true := decide_eq_true c6
  clear c6
  (first | rw [c6b0] | (simp only [i64_w, i32_w]; rw [c6b0]) | skip)
  by_cases c7 : a1_0 < a0_3
  rotate_left
  ·rw [if_neg c7] at H
   have c7b0 : decide (a1_0 < a0_3) = false := decide_eq_false c7
   clear c7
   have H' := am H
   clear H
   have hnb23 := NB193_194.out
   have hnc23 := NB194_193.out
   have := yC1 BK193
   have := kC1 BK193
   have := kC2 BK193
   have := kC3 BK193
   have := kC4 BK193
   have := kC5 BK193
   have := bf BK193.out 0
   have := bf BK193.out 1
   have := bf BK193.out 2
   have := bf BK193.out 3
   have := bf BK193.out 4
   have := bf BK193.out 5
   have := yC1 BK194
   have := kC1 BK194
   have := kC2 BK194
   have := bf BK194.out 0
   have := bf BK194.out 1
   have := bf BK194.out 2
   go_wp2
   go_meet
   case rel => exact ⟨_, (false), sqD, H', ⟨by first | omega | exact Nat.le_refl _⟩, ⟨fb BK193.out⟩, ⟨fb BK194.out⟩, ⟨fW HB.out⟩⟩
  rw [if_pos c7] at H
  have c7b0 : decide (a1_0 < a0_3) = true := decide_eq_true c7
  clear c7
  by_cases c8 : a0_1 ≤ a1_1
  rotate_left
  ·rw [if_neg c8] at H
   have c8b0 : decide (a0_1 ≤ a1_1) = false := decide_eq_false c8
   clear c8
   have H' := am H
   clear H
   have hnb20 := NB193_194.out
   have hnc20 := NB194_193.out
   have := yC1 BK193
   have := kC1 BK193
   have := kC2 BK193
   have := kC3 BK193
   have := kC4 BK193
   have := kC5 BK193
   have := bf BK193.out 0
   have := bf BK193.out 1
   have := bf BK193.out 2
   have := bf BK193.out 3
   have := bf BK193.out 4
   have := bf BK193.out 5
   have := yC1 BK194
   have := kC1 BK194
   have := kC2 BK194
   have := bf BK194.out 0
   have := bf BK194.out 1
   have := bf BK194.out 2
   go_wp2
   go_meet
   case rel => exact ⟨_, (false), sqD, H', ⟨by first | omega | exact Nat.le_refl _⟩, ⟨fb BK193.out⟩, ⟨fb BK194.out⟩, ⟨fW HB.out⟩⟩
  rw [if_pos c8] at H
  have c8b0 : decide (a0_1 ≤ a1_1) = true := decide_eq_true c8
  clear c8
  by_cases c9 : a1_1 < a0_4
  rotate_left
  ·rw [if_neg c9] at H
   have c9b0 : decide (a1_1 < a0_4) = false := decide_eq_false c9
   clear c9
   have H' := am H
   clear H
   have hnb17 := NB193_194.out
   have hnc17 := NB194_193.out
   have := yC1 BK193
   have := kC1 BK193
   have := kC2 BK193
   have := kC3 BK193
   have := kC4 BK193
   have := kC5 BK193
   have := bf BK193.out 0
   have := bf BK193.out 1
   have := bf BK193.out 2
   have := bf BK193.out 3
   have := bf BK193.out 4
   have := bf BK193.out 5
   have := yC1 BK194
   have := kC1 BK194
   have := kC2 BK194
   have := bf BK194.out 0
   have := bf BK194.out 1
   have := bf BK194.out 2
   go_wp2
   go_meet
   case rel => exact ⟨_, (false), sqD, H', ⟨by first | omega | exact Nat.le_refl _⟩, ⟨fb BK193.out⟩, ⟨fb BK194.out⟩, ⟨fW HB.out⟩⟩
  rw [if_pos c9] at H
  have c9b0 : decide (a1_1 < a0_4) = true := decide_eq_true c9
  clear c9
  by_cases c10 : a0_2 ≤ a1_2
  ·rw [if_pos c10] at H
   have c10b0 : decide (a0_2 ≤ a1_2) = true := decide_eq_true c10
   clear c10
   have H' := am H
   clear H
   have hnb11 := NB193_194.out
   have hnc11 := NB194_193.out
   have := yC1 BK193
   have := kC1 BK193
   have := kC2 BK193
   have := kC3 BK193
   have := kC4 BK193
   have := kC5 BK193
   have := bf BK193.out 0
   have := bf BK193.out 1
   have := bf BK193.out 2
   have := bf BK193.out 3
   have := bf BK193.out 4
   have := bf BK193.out 5
   have := yC1 BK194
   have := kC1 BK194
   have := kC2 BK194
   have := bf BK194.out 0
   have := bf BK194.out 1
   have := bf BK194.out 2
   go_wp2
   go_meet
   case rel => exact ⟨_, (decide (a1_2 < a0_5)), sqD, H', ⟨by first | omega | exact Nat.le_refl _⟩, ⟨fb BK193.out⟩, ⟨fb BK194.out⟩, ⟨fW HB.out⟩⟩
  rw [if_neg c10] at H
  have c10b0 : decide (a0_2 ≤ a1_2) = false := decide_eq_false c10
  clear c10
  have H' := am H
  clear H
  have hnb14 := NB193_194.out
  have hnc14 := NB194_193.out
  have := yC1 BK193
  have := kC1 BK193
  have := kC2 BK193
  have := kC3 BK193
  have := kC4 BK193
  have := kC5 BK193
  have := bf BK193.out 0
  have := bf BK193.out 1
  have := bf BK193.out 2
  have := bf BK193.out 3
  have := bf BK193.out 4
  have := bf BK193.out 5
  have := yC1 BK194
  have := kC1 BK194
  have := kC2 BK194
  have := bf BK194.out 0
  have := bf BK194.out 1
  have := bf BK194.out 2
  go_wp2
  go_meet
  case rel => exact ⟨_, (false), sqD, H', ⟨by first | omega | exact Nat.le_refl _⟩, ⟨fb BK193.out⟩, ⟨fb BK194.out⟩, ⟨fW HB.out⟩⟩
 case rest =>
  clear HC3
  try clear c1;try clear c2;try clear p2;try clear c4;try clear c6;try clear c6b0;try clear c7;try clear c7b0;try clear c8;try clear c8b0;try clear c9;try clear c9b0;try clear c10;try clear c10b0;try clear c11;try clear c14;try clear c17;try clear c20;try clear c23;try clear c26
  obtain ⟨kq, x4_2, rfl, HA, HJ2, BK193, BK194, HB⟩ := hcut
  cases kq with
  | zero => exact absurd HA.out (by simp [r_has.j0])
  | succ kj2 =>
   have H := HA.out
   clear HA
   simp only [r_has.j0] at H
   obtain rfl := Option.some.inj H
   go_wp2
   go_ret
   exact ⟨sqE, fW HB.out⟩

end Go.Proofs.Ytcofgnbopodahaa.QA
