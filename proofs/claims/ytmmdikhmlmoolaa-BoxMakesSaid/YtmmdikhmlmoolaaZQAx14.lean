import Derived.Test.YtmmdikhmlmoolaaZQAx0
import Derived.Test.YtmmdikhmlmoolaaZQAx3
import Derived.Test.YtmmdikhmlmoolaaZQAx6
import Derived.Test.YtmmdikhmlmoolaaZQAx10
import Derived.Test.YtmmdikhmlmoolaaZQAx11
import Derived.Test.YtmmdikhmlmoolaaZRegInv
import Derived.LoopN
import Derived.StillTailTactics
namespace Go.Proofs.Ytmmdikhmlmoolaa.QA
open Go.RowKit Go.Proofs.YtmmdikhmlmoolaaW.PrintWords Go.Proofs.YtmmdikhmlmoolaaW.PrintLast Go.Proofs.YtmmdikhmlmoolaaW.PrintMore
open Go.Proofs.YtmmdikhmlmoolaaW.PrintWords renaming below_alloc → wa, pw_below_drewN → wN, below_drew1 → wd, gate_callee → gc
open Aside0 renaming mk → am
attribute [local go_sem] max2_int min2_int max_two min_two max_three min_three max_four min_four
set_option linter.unusedVariables false
set_option linter.unusedSimpArgs false

section
open Go.Proofs.Ytmmdikhmlmoolaa.RegInv
attribute [local go_sem] max2_int min2_int max_two min_two Oper.semAt_some
def box_Inside.f (a0_0 a0_1 a0_2 a0_3 a0_4 a0_5 a1_0 a1_1 a1_2 a1_3 a1_4 a1_5 : Int) : Option Bool := some ((decide (a1_0 ≤ a0_0) && decide (a0_3 ≤ a1_3)) && ((decide (a1_1 ≤ a0_1) && decide (a0_4 ≤ a1_4)) && (decide (a1_2 ≤ a0_2) && decide (a0_5 ≤ a1_5))))
set_option maxHeartbeats 4000000 in
set_option maxRecDepth 100000 in
theorem box_Inside.calls (a0_0 a0_1 a0_2 a0_3 a0_4 a0_5 a1_0 a1_1 a1_2 a1_3 a1_4 a1_5 : Int) (r : Bool) (w : World) (h : box_Inside.f a0_0 a0_1 a0_2 a0_3 a0_4 a0_5 a1_0 a1_1 a1_2 a1_3 a1_4 a1_5 = some r) :
  Calls Try.prog 31 #[.agg #[.int .i64 a0_0, .int .i64 a0_1, .int .i64 a0_2, .int .i64 a0_3, .int .i64 a0_4, .int .i64 a0_5], .agg #[.int .i64 a1_0, .int .i64 a1_1, .int .i64 a1_2, .int .i64 a1_3, .int .i64 a1_4, .int .i64 a1_5]] w fun e w' => e = .returned (.bool r) ∧ Below w.heap.size w w' := by
 obtain rfl := Option.some.inj h
 have hu25 := Try.underlying25
 have hu73 := Try.underlying73
 have hu72 := Try.underlying72
 have HS := am sides_is
 go_enter Try.func31, Try.ntmps31
 go_wp2_with fail
 obtain ⟨W, hW⟩ : ∃ W, W = (w.alloc (.cells #[.int .i64 a0_0, .int .i64 a0_1, .int .i64 a0_2, .int .i64 a0_3, .int .i64 a0_4, .int .i64 a0_5] 25)).alloc (.cells #[.int .i64 a1_0, .int .i64 a1_1, .int .i64 a1_2, .int .i64 a1_3, .int .i64 a1_4, .int .i64 a1_5] 25) := ⟨_, rfl⟩
 have B_0 : W.heap[w.heap.size]? = some (Obj.cells #[.int .i64 a0_0, .int .i64 a0_1, .int .i64 a0_2, .int .i64 a0_3, .int .i64 a0_4, .int .i64 a0_5] 25 (0, 0)) := by
  rw [hW]; have h := blk_new w (.cells #[.int .i64 a0_0, .int .i64 a0_1, .int .i64 a0_2, .int .i64 a0_3, .int .i64 a0_4, .int .i64 a0_5] 25)
  exact blk_alloc (h) _
 have B_1 : W.heap[w.heap.size + 1]? = some (Obj.cells #[.int .i64 a1_0, .int .i64 a1_1, .int .i64 a1_2, .int .i64 a1_3, .int .i64 a1_4, .int .i64 a1_5] 25 (0, 0)) := by
  rw [hW]; have h := blk_new (w.alloc (.cells #[.int .i64 a0_0, .int .i64 a0_1, .int .i64 a0_2, .int .i64 a0_3, .int .i64 a0_4, .int .i64 a0_5] 25)) (.cells #[.int .i64 a1_0, .int .i64 a1_1, .int .i64 a1_2, .int .i64 a1_3, .int .i64 a1_4, .int .i64 a1_5] 25)
  rw [World.size_alloc] at h; exact h
 have hb0 : Below w.heap.size w W := by rw [hW]; exact wa (wa ((Below.refl _ _)) _) _
 rw [← hW]
 clear hW
 have HB := am hb0
 have K0 := am B_0
 have K1 := am B_1
 clear hb0 B_0 B_1
 refine RegInv.region_inv (fun f a W' => ∃ s8 s9 s10 s11 s5 s6 : Value, a = { tmps := #[.agg #[.int .i64 a0_0, .int .i64 a0_1, .int .i64 a0_2, .int .i64 a0_3, .int .i64 a0_4, .int .i64 a0_5], .agg #[.int .i64 a1_0, .int .i64 a1_1, .int .i64 a1_2, .int .i64 a1_3, .int .i64 a1_4, .int .i64 a1_5], .pointer (some ⟨w.heap.size, 0, none⟩), .pointer (some ⟨w.heap.size + 1, 0, none⟩), .bool false, s5, s6, undef, s8, s9, s10, s11, undef, undef, undef, undef, undef, undef, undef, undef, undef, undef, undef, undef, undef, undef, undef, undef, undef, undef, undef, undef, undef, undef, undef, undef], defers := [] } ∧ (f 0 = true → s8 = .agg #[.int .i64 a0_0, .int .i64 a0_1, .int .i64 a0_2, .int .i64 a0_3, .int .i64 a0_4, .int .i64 a0_5]) ∧ (f 1 = true → s9 = .agg #[.int .i64 a0_0, .int .i64 a0_3, .int .i64 a0_1, .int .i64 a0_4, .int .i64 a0_2, .int .i64 a0_5]) ∧ (f 2 = true → s10 = .agg #[.int .i64 a1_0, .int .i64 a1_1, .int .i64 a1_2, .int .i64 a1_3, .int .i64 a1_4, .int .i64 a1_5]) ∧ (f 3 = true → s11 = .agg #[.int .i64 a1_0, .int .i64 a1_3, .int .i64 a1_1, .int .i64 a1_4, .int .i64 a1_2, .int .i64 a1_5]) ∧ (f 4 = true → ∃ g, s5 = .pointer (some ⟨g, 0, none⟩) ∧ w.heap.size + 2 ≤ g ∧ W'.heap[g]? = some (Obj.cells (if f 6 = true then #[.int .i64 a0_0, .int .i64 a0_3, .int .i64 a0_1, .int .i64 a0_4, .int .i64 a0_2, .int .i64 a0_5] else #[.int .i64 0, .int .i64 0, .int .i64 0, .int .i64 0, .int .i64 0, .int .i64 0]) 73 (0, 0))) ∧ (f 5 = true → ∃ g, s6 = .pointer (some ⟨g, 0, none⟩) ∧ w.heap.size + 2 ≤ g ∧ W'.heap[g]? = some (Obj.cells (if f 7 = true then #[.int .i64 a1_0, .int .i64 a1_3, .int .i64 a1_1, .int .i64 a1_4, .int .i64 a1_2, .int .i64 a1_5] else #[.int .i64 0, .int .i64 0, .int .i64 0, .int .i64 0, .int .i64 0, .int .i64 0]) 73 (0, 0))) ∧ (s5 = s6 → f 4 = true → f 5 = true → False) ∧ (f 6 = true → f 4 = true) ∧ (f 7 = true → f 5 = true) ∧ W'.heap[w.heap.size]? = some (Obj.cells #[.int .i64 a0_0, .int .i64 a0_1, .int .i64 a0_2, .int .i64 a0_3, .int .i64 a0_4, .int .i64 a0_5] 25 (0, 0)) ∧ W'.heap[w.heap.size + 1]? = some (Obj.cells #[.int .i64 a1_0, .int .i64 a1_1, .int .i64 a1_2, .int .i64 a1_3, .int .i64 a1_4, .int .i64 a1_5] 25 (0, 0)) ∧ Below w.heap.size w W') (by kernel_rfl) (by kernel_rfl) ?h0 ?hstep ?hend
 case h0 => exact ⟨_, _, _, _, _, _, rfl, nofun, nofun, nofun, nofun, nofun, nofun, nofun, nofun, nofun, blk_drew K0.out, blk_drew K1.out, wd HB.out⟩
 case hstep =>
  clear K0 K1 HB
  intro i o ho f a W' hI hfi hdep K hK
  obtain ⟨s8, s9, s10, s11, s5, s6, rfl, h0, h1, h2, h3, h4, h5, n4_5, d6, d7, k0, k1, hb⟩ := hI
  have HK := am hK
  clear hK
  rcases i with _ | _ | _ | _ | _ | _ | _ | _ | i
  all_goals (first | obtain rfl := Option.some.inj ho | skip)
  all_goals have A := am (And.intro h0 (And.intro h1 (And.intro h2 (And.intro h3 (And.intro h4 (And.intro h5 (And.intro n4_5 (And.intro d6 d7))))))))
  all_goals clear h0 h1 h2 h3 h4 h5 n4_5 d6 d7
  ·clear hdep
   obtain ⟨p0, p1, p2, p3, p4, p5⟩ := RegInv.cells6 k0
   go_wp2_with fail
   obtain ⟨h0, h1, h2, h3, h4, h5, n4_5, d6, d7⟩ := A.out
   exact HK.out _ _ ⟨_, _, _, _, _, _, rfl, (fun _ => rfl), h1, h2, h3, h4, h5, n4_5, d6, d7, k0, k1, hb⟩
  ·obtain ⟨h0, h1, h2, h3, h4, h5, n4_5, d6, d7⟩ := A.out
   obtain rfl := h0 (hdep { on := 0, ground := .data } (by simp) rfl)
   clear hdep h0 h1 h2 h3 h4 h5 n4_5 d6 d7
   go_wp2_with (go_at_call 52; refine (HS.out _ _ _ _ _ _ _).mono ?_; rintro e w2 ⟨rfl, hb2⟩; have HB2 := am hb2; clear hb2)
   obtain ⟨h0, h1, h2, h3, h4, h5, n4_5, d6, d7⟩ := A.out
   have hb2 := HB2.out
   exact HK.out _ _ ⟨_, _, _, _, _, _, rfl, (fun _ => rfl), (fun _ => rfl), h2, h3, (fun h => by obtain ⟨g', f1, f2, f3⟩ := h4 h; exact ⟨g', f1, f2, blk_below f3 hb2⟩), (fun h => by obtain ⟨g', f1, f2, f3⟩ := h5 h; exact ⟨g', f1, f2, blk_below f3 hb2⟩), n4_5, d6, d7, blk_below k0 hb2, blk_below k1 hb2, below_step hb hb2⟩
  ·clear hdep
   obtain ⟨p0, p1, p2, p3, p4, p5⟩ := RegInv.cells6 k1
   go_wp2_with fail
   obtain ⟨h0, h1, h2, h3, h4, h5, n4_5, d6, d7⟩ := A.out
   exact HK.out _ _ ⟨_, _, _, _, _, _, rfl, h0, h1, (fun _ => rfl), h3, h4, h5, n4_5, d6, d7, k0, k1, hb⟩
  ·obtain ⟨h0, h1, h2, h3, h4, h5, n4_5, d6, d7⟩ := A.out
   obtain rfl := h2 (hdep { on := 2, ground := .data } (by simp) rfl)
   clear hdep h0 h1 h2 h3 h4 h5 n4_5 d6 d7
   go_wp2_with (go_at_call 52; refine (HS.out _ _ _ _ _ _ _).mono ?_; rintro e w2 ⟨rfl, hb2⟩; have HB2 := am hb2; clear hb2)
   obtain ⟨h0, h1, h2, h3, h4, h5, n4_5, d6, d7⟩ := A.out
   have hb2 := HB2.out
   exact HK.out _ _ ⟨_, _, _, _, _, _, rfl, h0, h1, (fun _ => rfl), (fun _ => rfl), (fun h => by obtain ⟨g', f1, f2, f3⟩ := h4 h; exact ⟨g', f1, f2, blk_below f3 hb2⟩), (fun h => by obtain ⟨g', f1, f2, f3⟩ := h5 h; exact ⟨g', f1, f2, blk_below f3 hb2⟩), n4_5, d6, d7, blk_below k0 hb2, blk_below k1 hb2, below_step hb hb2⟩
  ·clear hdep
   have sz := blk_lt k1
   go_wp2_with fail
   obtain ⟨h0, h1, h2, h3, h4, h5, n4_5, d6, d7⟩ := A.out
   have hf : ¬ f 6 = true := fun h => by rw [d6 h] at hfi; cases hfi
   refine HK.out _ _ ⟨_, _, _, _, _, _, rfl, h0, h1, h2, h3, (fun _ => ⟨_, rfl, by omega, ?_⟩), (fun h => by obtain ⟨g', f1, f2, f3⟩ := h5 h; exact ⟨g', f1, f2, blk_alloc f3 _⟩), (fun he h1 h2 => by obtain ⟨g, e1, e2, e3⟩ := h5 h2; have := blk_lt e3; rw [e1] at he; cases he; omega), (fun _ => rfl), d7, blk_alloc k0 _, blk_alloc k1 _, wa hb _⟩
   show (W'.alloc _).heap[_]? = some (Obj.cells (if f 6 = true then _ else _) 73 (0, 0))
   rw [if_neg hf]
   exact blk_new W' _
  ·clear hdep
   have sz := blk_lt k1
   go_wp2_with fail
   obtain ⟨h0, h1, h2, h3, h4, h5, n4_5, d6, d7⟩ := A.out
   have hf : ¬ f 7 = true := fun h => by rw [d7 h] at hfi; cases hfi
   refine HK.out _ _ ⟨_, _, _, _, _, _, rfl, h0, h1, h2, h3, (fun h => by obtain ⟨g', f1, f2, f3⟩ := h4 h; exact ⟨g', f1, f2, blk_alloc f3 _⟩), (fun _ => ⟨_, rfl, by omega, ?_⟩), (fun he h1 h2 => by obtain ⟨g, e1, e2, e3⟩ := h4 h1; have := blk_lt e3; rw [e1] at he; cases he; omega), d6, (fun _ => rfl), blk_alloc k0 _, blk_alloc k1 _, wa hb _⟩
   show (W'.alloc _).heap[_]? = some (Obj.cells (if f 7 = true then _ else _) 73 (0, 0))
   rw [if_neg hf]
   exact blk_new W' _
  ·obtain ⟨h0, h1, h2, h3, h4, h5, n4_5, d6, d7⟩ := A.out
   have d0 := hdep { on := 4, ground := .data } (by simp) rfl
   obtain rfl := h1 (hdep { on := 1, ground := .data } (by simp) rfl)
   obtain ⟨g, rfl, e2, e3⟩ := h4 d0
   rw [if_neg (by rw [hfi]; decide)] at e3
   clear hdep h0 h1 h2 h3 h4 h5 n4_5 d6 d7
   have D0 := am d0
   clear d0
   obtain ⟨p0, p1, p2, p3, p4, p5⟩ := RegInv.cells6 e3
   obtain ⟨q0, q1, q2, q3, q4, q5⟩ := RegInv.free6 e3
   go_wp2_with fail
   obtain ⟨h0, h1, h2, h3, h4, h5, n4_5, d6, d7⟩ := A.out
   exact HK.out _ (RegInv.set6 W' g _ _ _ _ _ _) ⟨_, _, _, _, _, _, rfl, h0, (fun _ => rfl), h2, h3, (fun _ => ⟨g, rfl, e2, RegInv.set6_at e3⟩), (fun h => by obtain ⟨g', f1, f2, f3⟩ := h5 h; exact ⟨g', f1, f2, RegInv.set6_far f3 (fun e => n4_5 (by rw [f1, e]) D0.out h)⟩), n4_5, (fun _ => D0.out), d7, RegInv.set6_far k0 (by omega), RegInv.set6_far k1 (by omega), RegInv.set6_below hb (by omega)⟩
  ·obtain ⟨h0, h1, h2, h3, h4, h5, n4_5, d6, d7⟩ := A.out
   have d0 := hdep { on := 5, ground := .data } (by simp) rfl
   obtain rfl := h3 (hdep { on := 3, ground := .data } (by simp) rfl)
   obtain ⟨g, rfl, e2, e3⟩ := h5 d0
   rw [if_neg (by rw [hfi]; decide)] at e3
   clear hdep h0 h1 h2 h3 h4 h5 n4_5 d6 d7
   have D0 := am d0
   clear d0
   obtain ⟨p0, p1, p2, p3, p4, p5⟩ := RegInv.cells6 e3
   obtain ⟨q0, q1, q2, q3, q4, q5⟩ := RegInv.free6 e3
   go_wp2_with fail
   obtain ⟨h0, h1, h2, h3, h4, h5, n4_5, d6, d7⟩ := A.out
   exact HK.out _ (RegInv.set6 W' g _ _ _ _ _ _) ⟨_, _, _, _, _, _, rfl, h0, h1, h2, (fun _ => rfl), (fun h => by obtain ⟨g', f1, f2, f3⟩ := h4 h; exact ⟨g', f1, f2, RegInv.set6_far f3 (fun e => n4_5 (by rw [f1, e]) h D0.out)⟩), (fun _ => ⟨g, rfl, e2, RegInv.set6_at e3⟩), n4_5, d6, (fun _ => D0.out), RegInv.set6_far k0 (by omega), RegInv.set6_far k1 (by omega), RegInv.set6_below hb (by omega)⟩
  simp at ho
 case hend =>
  clear K0 K1 HB
  intro f a W' hI hall
  obtain ⟨s8, s9, s10, s11, s5, s6, rfl, h0, h1, h2, h3, h4, h5, n4_5, d6, d7, k0, k1, hb⟩ := hI
  obtain ⟨g5, rfl, l5, b5⟩ := h4 (hall 4 (by decide))
  rw [if_pos (hall 6 (by decide))] at b5
  obtain ⟨g6, rfl, l6, b6⟩ := h5 (hall 5 (by decide))
  rw [if_pos (hall 7 (by decide))] at b6
  have ne5_6 : g5 ≠ g6 := fun e => n4_5 (by rw [e]) (hall 4 (by decide)) (hall 5 (by decide))
  obtain rfl := h0 (hall 0 (by decide))
  obtain rfl := h1 (hall 1 (by decide))
  obtain rfl := h2 (hall 2 (by decide))
  obtain rfl := h3 (hall 3 (by decide))
  clear h0 h1 h2 h3 h4 h5 n4_5 d6 d7 hall
  dsimp only
  have NE5_6 := am ne5_6
  have B5 := am b5
  have B6 := am b6
  have K0 := am k0
  have K1 := am k1
  have HB := am hb
  clear hb b5 b6 k0 k1 ne5_6
  obtain ⟨p0, p1, p2, p3, p4, p5⟩ := RegInv.cells6 B5.out
  obtain ⟨q0, q1, q2, q3, q4, q5⟩ := RegInv.cells6 B6.out
  go_wp2
  refine wp_loop_rounds 9 ?_
  rw [rounds_succ]
  go_wp2
  by_cases g0 : a0_0 < a1_0
  ·have d0 : decide (a0_0 < a1_0) = true := decide_eq_true g0
   have HD := am (show decide (a1_0 ≤ a0_0) = false from decide_eq_false (by omega))
   clear g0
   go_quiet (fail)
   go_wp2
   go_ret
   exact ⟨by rw [HD.out]; rfl, (by repeat (first | exact HB.out | apply wa | apply wN | apply wd))⟩
  have d0 : decide (a0_0 < a1_0) = false := decide_eq_false g0
  have HD0 := am (show decide (a1_0 ≤ a0_0) = true from decide_eq_true (by omega))
  clear g0
  by_cases g1 : a1_3 < a0_3
  ·have d0 : decide (a1_3 < a0_3) = true := decide_eq_true g1
   have HD := am (show decide (a0_3 ≤ a1_3) = false from decide_eq_false (by omega))
   clear g1
   go_quiet (fail)
   go_wp2
   go_ret
   exact ⟨by rw [HD0.out, HD.out]; rfl, (by repeat (first | exact HB.out | apply wa | apply wN | apply wd))⟩
  have d1 : decide (a1_3 < a0_3) = false := decide_eq_false g1
  have HD1 := am (show decide (a0_3 ≤ a1_3) = true from decide_eq_true (by omega))
  clear g1
  go_quiet (fail)
  go_wp2
  rw [rounds_succ]
  go_wp2
  by_cases g2 : a0_1 < a1_1
  ·have d0 : decide (a0_1 < a1_1) = true := decide_eq_true g2
   have HD := am (show decide (a1_1 ≤ a0_1) = false from decide_eq_false (by omega))
   clear g2
   go_quiet (fail)
   go_wp2
   go_ret
   exact ⟨by rw [HD0.out, HD1.out, HD.out]; rfl, (by repeat (first | exact HB.out | apply wa | apply wN | apply wd))⟩
  have d2 : decide (a0_1 < a1_1) = false := decide_eq_false g2
  have HD2 := am (show decide (a1_1 ≤ a0_1) = true from decide_eq_true (by omega))
  clear g2
  by_cases g3 : a1_4 < a0_4
  ·have d0 : decide (a1_4 < a0_4) = true := decide_eq_true g3
   have HD := am (show decide (a0_4 ≤ a1_4) = false from decide_eq_false (by omega))
   clear g3
   go_quiet (fail)
   go_wp2
   go_ret
   exact ⟨by rw [HD0.out, HD1.out, HD2.out, HD.out]; rfl, (by repeat (first | exact HB.out | apply wa | apply wN | apply wd))⟩
  have d3 : decide (a1_4 < a0_4) = false := decide_eq_false g3
  have HD3 := am (show decide (a0_4 ≤ a1_4) = true from decide_eq_true (by omega))
  clear g3
  go_quiet (fail)
  go_wp2
  rw [rounds_succ]
  go_wp2
  by_cases g4 : a0_2 < a1_2
  ·have d0 : decide (a0_2 < a1_2) = true := decide_eq_true g4
   have HD := am (show decide (a1_2 ≤ a0_2) = false from decide_eq_false (by omega))
   clear g4
   go_quiet (fail)
   go_wp2
   go_ret
   exact ⟨by rw [HD0.out, HD1.out, HD2.out, HD3.out, HD.out]; rfl, (by repeat (first | exact HB.out | apply wa | apply wN | apply wd))⟩
  have d4 : decide (a0_2 < a1_2) = false := decide_eq_false g4
  have HD4 := am (show decide (a1_2 ≤ a0_2) = true from decide_eq_true (by omega))
  clear g4
  by_cases g5 : a1_5 < a0_5
  ·have d0 : decide (a1_5 < a0_5) = true := decide_eq_true g5
   have HD := am (show decide (a0_5 ≤ a1_5) = false from decide_eq_false (by omega))
   clear g5
   go_quiet (fail)
   go_wp2
   go_ret
   exact ⟨by rw [HD0.out, HD1.out, HD2.out, HD3.out, HD4.out, HD.out]; rfl, (by repeat (first | exact HB.out | apply wa | apply wN | apply wd))⟩
  have d5 : decide (a1_5 < a0_5) = false := decide_eq_false g5
  have HD5 := am (show decide (a0_5 ≤ a1_5) = true from decide_eq_true (by omega))
  clear g5
  go_quiet (fail)
  go_wp2
  rw [rounds_succ]
  go_wp2
  go_ret
  exact ⟨by rw [HD0.out, HD1.out, HD2.out, HD3.out, HD4.out, HD5.out]; rfl, (by repeat (first | exact HB.out | apply wa | apply wN | apply wd))⟩
end

mutual
def box_Partition.l0 : Nat → List (S25) → Int → List (S25) → Int → Int → Int → Int → Int → Int → Int → Int → Option (Int)
 | 0, _, _, _, _, _, _, _, _, _, _, _ => none
 | k + 1, x1, x6, x22, x23, x24, x360000, x360001, x360002, x360003, x360004, x360005 => if x24 < x23 then (if 0 ≤ x24 then (if x24 < (x22.length : Int) then ((box_Inside.f ((rd_T25 x22 x24).f0.f0) ((rd_T25 x22 x24).f0.f1) ((rd_T25 x22 x24).f0.f2) ((rd_T25 x22 x24).f1.f0) ((rd_T25 x22 x24).f1.f1) ((rd_T25 x22 x24).f1.f2) x360000 x360001 x360002 x360003 x360004 x360005).bind fun t367 => (if t367 = true then (box_Partition.l0 k x1 x6 x22 x23 (wrap64 (x24 + 1)) x360000 x360001 x360002 x360003 x360004 x360005) else (some 12))) else (none)) else (none)) else ((box_clash.f k x1).bind fun bt368 => (if bt368.1 ≥ 0 then (some 11) else (box_Partition.l1 k x6 x1 (x1.length : Int) 0)))
def box_Partition.l1 : Nat → Int → List (S25) → Int → Int → Option (Int)
 | 0, _, _, _, _ => none
 | k + 1, x6, x40, x41, x42 => if x42 < x41 then (if 0 ≤ x42 then (if x42 < (x40.length : Int) then ((box_volume.f ((rd_T25 x40 x42).f0.f0) ((rd_T25 x40 x42).f0.f1) ((rd_T25 x40 x42).f0.f2) ((rd_T25 x40 x42).f1.f0) ((rd_T25 x40 x42).f1.f1) ((rd_T25 x40 x42).f1.f2)).bind fun t372 => (box_Partition.l1 k (wrap64 (x6 - t372)) x40 x41 (wrap64 (x42 + 1)))) else (none)) else (none)) else (if x6 > 0 then (some 9) else (some 0))
end
def box_Partition.f (k : Nat) (a0_0 : Int) (a0_1 : Int) (a0_2 : Int) (a0_3 : Int) (a0_4 : Int) (a0_5 : Int) (l1 : List (S25)) : Option (Int) := (box_many.f k l1 (([(⟨(⟨a0_0, a0_1, a0_2⟩ : S23), (⟨a0_3, a0_4, a0_5⟩ : S23)⟩ : S25)] : List (S25)))).bind fun t363 => (if t363 = 0 then ((box_volume.f a0_0 a0_1 a0_2 a0_3 a0_4 a0_5).bind fun t364 => (box_Partition.l0 k l1 t364 l1 (l1.length : Int) 0 a0_0 a0_1 a0_2 a0_3 a0_4 a0_5)) else (some t363))
set_option maxHeartbeats 8000000 in
set_option maxRecDepth 100000 in
theorem box_Partition.calls (k : Nat) (a0_0 : Int) (a0_1 : Int) (a0_2 : Int) (a0_3 : Int) (a0_4 : Int) (a0_5 : Int) (A1 : Option Addr) (c1 : Nat) (l1 : List (S25)) (r : Int) (w : World) (hr1 : Kd.C k25 w A1 l1.length l1) (hc1 : l1.length ≤ c1) (h : box_Partition.f k a0_0 a0_1 a0_2 a0_3 a0_4 a0_5 l1 = some r) :
  Calls Try.prog 42 #[.agg #[.int .i64 a0_0, .int .i64 a0_1, .int .i64 a0_2, .int .i64 a0_3, .int .i64 a0_4, .int .i64 a0_5], .slice A1 l1.length c1] w fun e w' => e = .returned (.int .i64 r) ∧ Below w.heap.size w w' := by
 have hu25 := Try.underlying25
 have HR1 := am hr1
 have HC1 := am hc1
 clear hr1 hc1
 have HB := am (Below.refl w.heap.size w)
 have H : ((box_many.f k l1 (([(⟨(⟨a0_0, a0_1, a0_2⟩ : S23), (⟨a0_3, a0_4, a0_5⟩ : S23)⟩ : S25)] : List (S25)))).bind fun t363 => (if t363 = 0 then ((box_volume.f a0_0 a0_1 a0_2 a0_3 a0_4 a0_5).bind fun t364 => (box_Partition.l0 k l1 t364 l1 (l1.length : Int) 0 a0_0 a0_1 a0_2 a0_3 a0_4 a0_5)) else (some t363))) = some r := h
 clear h
 obtain ⟨y360, hy360⟩ : ∃ y_ : List (S25), y_ = (([(⟨(⟨a0_0, a0_1, a0_2⟩ : S23), (⟨a0_3, a0_4, a0_5⟩ : S23)⟩ : S25)] : List (S25))) := ⟨_, rfl⟩
 replace H : ((box_many.f k l1 y360).bind fun t363 => (if t363 = 0 then ((box_volume.f a0_0 a0_1 a0_2 a0_3 a0_4 a0_5).bind fun t364 => (box_Partition.l0 k l1 t364 l1 (l1.length : Int) 0 a0_0 a0_1 a0_2 a0_3 a0_4 a0_5)) else (some t363))) = some r := by first | (rw [hy360]; with_reducible exact H) | (have H2_ := (Option.bind_some _ _).symm.trans H; rw [hy360]; with_reducible exact H2_) | (have H2_ := (Option.bind_some _ _).symm.trans H; with_reducible exact H2_) | with_reducible exact H | (rw [hy360]; exact H) | exact H
 have Ny360 := am hy360
 clear hy360
 replace H := Option.bind_eq_some_iff.mp H
 obtain ⟨t363, A30, H⟩ := H
 replace H : (if t363 = 0 then ((box_volume.f a0_0 a0_1 a0_2 a0_3 a0_4 a0_5).bind fun t364 => (box_Partition.l0 k l1 t364 l1 (l1.length : Int) 0 a0_0 a0_1 a0_2 a0_3 a0_4 a0_5)) else (some t363)) = some r := H
 have A3 := am A30
 clear A30
 by_cases c4 : t363 = 0
 ·rw [if_pos c4] at H
  have c4b0 : (t363 == 0) = true := beq_iff_eq.mpr c4
  have c4b1 : (t363 != 0) = false := bne_eq_false_iff_eq.mpr c4
  clear c4
  replace H := Option.bind_eq_some_iff.mp H
  obtain ⟨t364, A50, H⟩ := H
  replace H : (box_Partition.l0 k l1 t364 l1 (l1.length : Int) 0 a0_0 a0_1 a0_2 a0_3 a0_4 a0_5) = some r := H
  have A5 := am A50
  clear A50
  have H' := am H
  clear H
  go_enter Try.func42, Try.ntmps42
  go_wp2_with (first | ((with_reducible refine gate_dst (N := 2) rfl ?_); refine box_event ?hg (N := 2) ?hd (cs := #[.int .i64 a0_0, .int .i64 a0_1, .int .i64 a0_2, .int .i64 a0_3, .int .i64 a0_4, .int .i64 a0_5]) (t := 25) ?hr ?_; (case hd | hg => rfl); (case hr => first | (go_simp; done) | (go_simp; rfl)); intro gb359 hg w6 hbox hb; have BK359 := am hbox; have GW359 := sG HB hg; have GE359 := sG HB hg; replace HB := bS HB hb; clear hb hbox hg; obtain ⟨_, _, _, _, _, _, _, _, _, _, _, _⟩ := zC6 BK359) | ((with_reducible refine gate_dst (N := 15) rfl ?_); refine Kd.R_lit k25 _ 25 ?hg (N := 15) ?hd (xs := ([(⟨(⟨a0_0, a0_1, a0_2⟩ : S23), (⟨a0_3, a0_4, a0_5⟩ : S23)⟩ : S25)] : List (S25))) (inner := [.int .i64 a0_0, .int .i64 a0_1, .int .i64 a0_2, .int .i64 a0_3, .int .i64 a0_4, .int .i64 a0_5]) (ok := fun _ => True) (okp := fun _ => True) ?hr ?hp (fun _ hk => hk) trivial (Below.refl _ _) (Nat.le_refl _) (by simp) ?_; (case hd | hg => rfl); (case hr => first | (go_simp; done) | (go_simp; rfl)); (case hp => exact (Reps.c6 (show Kd.M k25 _ _ _ (⟨(⟨a0_0, a0_1, a0_2⟩ : S23), (⟨a0_3, a0_4, a0_5⟩ : S23)⟩ : S25) [.int .i64 a0_0, .int .i64 a0_1, .int .i64 a0_2, .int .i64 a0_3, .int .i64 a0_4, .int .i64 a0_5] from (k25_mkM _ _ _ (⟨(⟨a0_0, a0_1, a0_2⟩ : S23), (⟨a0_3, a0_4, a0_5⟩ : S23)⟩ : S25) )) (Reps.none _ _))); intro v361 w8 ho9 hb hg_ hnew_; clear hg_ hnew_; (first | rw [← Ny360.out] at ho9 | (simp only [Int.reduceToNat] at ho9; rw [← Ny360.out] at ho9)); have HO362 := am (Kd.R_lower (Kd.R_newB ho9 (g := gb359) (o := .cells #[.int .i64 a0_0, .int .i64 a0_1, .int .i64 a0_2, .int .i64 a0_3, .int .i64 a0_4, .int .i64 a0_5] 25 (0, 0)) (fb BK359.out)) (below_size (fW HB.out))); replace BK359 := bB BK359 hb; replace HB := bS HB hb; clear hb ho9; obtain ⟨Ao10, co10, eo10⟩ := Kd.R_slice HO362.out; subst eo10) | ((with_reducible refine gc (f := 48) rfl ?_); refine goesL_ (some 16) rfl rfl Try.func48 (by kernel_rfl) rfl #[.slice A1 l1.length c1, .slice Ao10 y360.length co10] rfl (by (try simp only [pml]); first | done | rfl | (simp only [pdt]; rfl)) ?_; (with_reducible refine (box_many.calls k _ _ l1 _ _ y360 t363 _ ?side1 ?side2 ?side3 ?side4 A3.out).mono ?_); (case side1 => repeat (first | exact (Kd.C_below HR1.out HB.out) | (with_reducible refine Kd.C_alloc ?_ _) | (with_reducible refine Kd.C_drewN ?_ _) | (with_reducible refine Kd.C_drew ?_))); (case side2 => exact HC1.out); (case side3 => repeat (first | exact (Kd.R_reads' HO362.out).2.2 | (with_reducible refine Kd.C_alloc ?_ _) | (with_reducible refine Kd.C_drewN ?_ _) | (with_reducible refine Kd.C_drew ?_))); (case side4 => exact (Kd.R_reads' HO362.out).2.1); rintro e w11 ⟨rfl, hb⟩; refine ⟨_, rfl, ?_⟩; replace HO362 := dR HO362 hb; replace BK359 := bB BK359 hb; replace HB := bS HB hb; (try clear hb); (try clear hb2); (try clear hk); (try clear hi); obtain ⟨_, _, _, _, _, _, _, _, _, _, _, _⟩ := zC6 BK359) | ((with_reducible refine gc (f := 55) rfl ?_); refine goesL_ (some 21) rfl rfl Try.func55 (by kernel_rfl) rfl #[.agg #[.int .i64 a0_0, .int .i64 a0_1, .int .i64 a0_2, .int .i64 a0_3, .int .i64 a0_4, .int .i64 a0_5]] rfl (by (try simp only [pml]); first | done | rfl | (simp only [pdt]; rfl)) ?_; (with_reducible refine (box_volume.calls a0_0 a0_1 a0_2 a0_3 a0_4 a0_5 t364 _ A5.out).mono ?_); rintro e w13 ⟨rfl, hb⟩; refine ⟨_, rfl, ?_⟩; replace HO362 := dR HO362 hb; replace BK359 := bB BK359 hb; replace HB := bS HB hb; (try clear hb); (try clear hb2); (try clear hk); (try clear hi)))
  go_loopg [24] k (fun kq v24 w' => ∃ (x24_1 : Int), v24 = .int .i64 x24_1 ∧ Aside0 (box_Partition.l0 kq l1 t364 l1 (l1.length : Int) x24_1 a0_0 a0_1 a0_2 a0_3 a0_4 a0_5 = some r) ∧ Aside0 (kq ≤ k) ∧ Aside0 (w'.heap[gb359]? = some (.cells #[.int .i64 a0_0, .int .i64 a0_1, .int .i64 a0_2, .int .i64 a0_3, .int .i64 a0_4, .int .i64 a0_5] 25 (0, 0))) ∧ Aside0 (Below w.heap.size w w'))
  case atStart => exact ⟨(0), sqD, H', ⟨Nat.le_refl _⟩, ⟨fb BK359.out⟩, ⟨fW HB.out⟩⟩
  case round =>
   clear H'
   try clear c1;try clear p2;try clear c4;try clear c4b0;try clear c4b1;try clear c5;try clear c6
   obtain ⟨x24_1, rfl, HA, HK1, BK359, HB⟩ := hrel
   cases gk with
   | zero => exact absurd HA.out (by simp [box_Partition.l0])
   | succ k1 =>
    have H := HA.out
    clear HA
    simp only [box_Partition.l0] at H
    by_cases c14 : x24_1 < (l1.length : Int)
    ·rw [if_pos c14] at H
     have c14b0 : decide (x24_1 < (l1.length : Int)) = true := decide_eq_true c14
     clear c14
     by_cases c15 : 0 ≤ x24_1
     rotate_left
     ·rw [if_neg c15] at H
      exact absurd H (by simp)
     rw [if_pos c15] at H
     have c15b0 : decide (0 ≤ x24_1) = true := decide_eq_true c15
     clear c15
     by_cases c16 : x24_1 < (l1.length : Int)
     rotate_left
     ·rw [if_neg c16] at H
      exact absurd H (by simp)
     rw [if_pos c16] at H
     have c16b0 : decide (x24_1 < (l1.length : Int)) = true := decide_eq_true c16
     clear c16
     replace H := Option.bind_eq_some_iff.mp H
     obtain ⟨t367, A170, H⟩ := H
     replace H : (if t367 = true then (box_Partition.l0 k1 l1 t364 l1 (l1.length : Int) (wrap64 (x24_1 + 1)) a0_0 a0_1 a0_2 a0_3 a0_4 a0_5) else (some 12)) = some r := H
     have A17 := am A170
     clear A170
     by_cases c18 : t367 = true
     ·subst c18
      have H1 : (box_Partition.l0 k1 l1 t364 l1 (l1.length : Int) (wrap64 (x24_1 + 1)) a0_0 a0_1 a0_2 a0_3 a0_4 a0_5) = some r := by rw [if_pos rfl] at H; exact H
      clear H
      have H := H1
      clear H1
      have H' := am H
      clear H
      have p365 : 0 ≤ (x24_1 : Int) := of_decide_eq_true (by assumption)
      have q365 : x24_1 < (l1.length : Int) := of_decide_eq_true (by assumption)
      obtain ⟨ad365, e365, hx365_0, hx365_1, hx365_2, hx365_3, hx365_4, hx365_5⟩ := at_T25 HR1.out x24_1 p365 q365
      cases e365
      replace hx365_0 := cl HB hx365_0
      replace hx365_1 := cl HB hx365_1
      replace hx365_2 := cl HB hx365_2
      replace hx365_3 := cl HB hx365_3
      replace hx365_4 := cl HB hx365_4
      replace hx365_5 := cl HB hx365_5
      replace p365 := eq_true p365
      replace q365 := eq_true q365
      go_wp2_with (first | ((with_reducible refine gate_dst (N := 8) rfl ?_); refine box_event ?hg (N := 8) ?hd (cs := #[.int .i64 0, .int .i64 0, .int .i64 0, .int .i64 0, .int .i64 0, .int .i64 0]) (t := 25) ?hr ?_; (case hd | hg => rfl); (case hr => first | (go_simp; done) | (go_simp; rfl)); intro gb366 hg w19 hbox hb; have BK366 := am hbox; have GW366 := sG HB hg; have GE366 := sG HB hg; replace HB := bS HB hb; have NB359_366 := nL BK359 hg; have NB366_359 := nG BK359 hg; replace BK359 := bB BK359 hb; clear hb hbox hg; have hnb20 := NB366_359.out; have hnc20 := NB359_366.out; obtain ⟨_, _, _, _, _, _, _, _, _, _, _, _⟩ := zC6 BK366; obtain ⟨_, _, _, _, _, _, _, _, _, _, _, _⟩ := zC6 BK359) | ((with_reducible refine gc (f := 31) rfl ?_); refine goesL_ (some 30) rfl rfl Try.func31 (by kernel_rfl) rfl #[.agg #[.int .i64 ((rd_T25 l1 x24_1).f0.f0), .int .i64 ((rd_T25 l1 x24_1).f0.f1), .int .i64 ((rd_T25 l1 x24_1).f0.f2), .int .i64 ((rd_T25 l1 x24_1).f1.f0), .int .i64 ((rd_T25 l1 x24_1).f1.f1), .int .i64 ((rd_T25 l1 x24_1).f1.f2)], .agg #[.int .i64 a0_0, .int .i64 a0_1, .int .i64 a0_2, .int .i64 a0_3, .int .i64 a0_4, .int .i64 a0_5]] rfl (by (try simp only [pml]); first | done | rfl | (simp only [pdt]; rfl)) ?_; (with_reducible refine (box_Inside.calls ((rd_T25 l1 x24_1).f0.f0) ((rd_T25 l1 x24_1).f0.f1) ((rd_T25 l1 x24_1).f0.f2) ((rd_T25 l1 x24_1).f1.f0) ((rd_T25 l1 x24_1).f1.f1) ((rd_T25 l1 x24_1).f1.f2) a0_0 a0_1 a0_2 a0_3 a0_4 a0_5 true _ A17.out).mono ?_); rintro e w23 ⟨rfl, hb⟩; refine ⟨_, rfl, ?_⟩; replace BK359 := xC1 (kfC BK359.out) hb; replace BK366 := xC1 (o := .cells #[.int .i64 ((rd_T25 l1 x24_1).f0.f0), .int .i64 ((rd_T25 l1 x24_1).f0.f1), .int .i64 ((rd_T25 l1 x24_1).f0.f2), .int .i64 ((rd_T25 l1 x24_1).f1.f0), .int .i64 ((rd_T25 l1 x24_1).f1.f1), .int .i64 ((rd_T25 l1 x24_1).f1.f2)] 25 (0, 0)) (kkC BK366.out) hb; replace HB := bS HB hb; (try clear hb); (try clear hb2); (try clear hk); (try clear hi)))
      go_roundg k1
      case measure => have := HK1.out; omega
      case rel => exact ⟨(wrap64 (x24_1 + 1)), sqD, H', ⟨by have := HK1.out; omega⟩, ⟨fb BK359.out⟩, ⟨fW HB.out⟩⟩
     replace c18 := Bool.eq_false_iff.mpr c18
     subst c18
     have H1 : (some 12) = some r := by rw [if_neg (show ¬ (false = true) by decide)] at H; exact H
     clear H
     have H := H1
     clear H1
     obtain rfl := Option.some.inj H
     have p365 : 0 ≤ (x24_1 : Int) := of_decide_eq_true (by assumption)
     have q365 : x24_1 < (l1.length : Int) := of_decide_eq_true (by assumption)
     obtain ⟨ad365, e365, hx365_0, hx365_1, hx365_2, hx365_3, hx365_4, hx365_5⟩ := at_T25 HR1.out x24_1 p365 q365
     cases e365
     replace hx365_0 := cl HB hx365_0
     replace hx365_1 := cl HB hx365_1
     replace hx365_2 := cl HB hx365_2
     replace hx365_3 := cl HB hx365_3
     replace hx365_4 := cl HB hx365_4
     replace hx365_5 := cl HB hx365_5
     replace p365 := eq_true p365
     replace q365 := eq_true q365
     go_wp2_with (first | ((with_reducible refine gate_dst (N := 8) rfl ?_); refine box_event ?hg (N := 8) ?hd (cs := #[.int .i64 0, .int .i64 0, .int .i64 0, .int .i64 0, .int .i64 0, .int .i64 0]) (t := 25) ?hr ?_; (case hd | hg => rfl); (case hr => first | (go_simp; done) | (go_simp; rfl)); intro gb366 hg w24 hbox hb; have BK366 := am hbox; have GW366 := sG HB hg; have GE366 := sG HB hg; replace HB := bS HB hb; have NB359_366 := nL BK359 hg; have NB366_359 := nG BK359 hg; replace BK359 := bB BK359 hb; clear hb hbox hg; have hnb25 := NB366_359.out; have hnc25 := NB359_366.out; obtain ⟨_, _, _, _, _, _, _, _, _, _, _, _⟩ := zC6 BK366; obtain ⟨_, _, _, _, _, _, _, _, _, _, _, _⟩ := zC6 BK359) | ((with_reducible refine gc (f := 31) rfl ?_); refine goesL_ (some 30) rfl rfl Try.func31 (by kernel_rfl) rfl #[.agg #[.int .i64 ((rd_T25 l1 x24_1).f0.f0), .int .i64 ((rd_T25 l1 x24_1).f0.f1), .int .i64 ((rd_T25 l1 x24_1).f0.f2), .int .i64 ((rd_T25 l1 x24_1).f1.f0), .int .i64 ((rd_T25 l1 x24_1).f1.f1), .int .i64 ((rd_T25 l1 x24_1).f1.f2)], .agg #[.int .i64 a0_0, .int .i64 a0_1, .int .i64 a0_2, .int .i64 a0_3, .int .i64 a0_4, .int .i64 a0_5]] rfl (by (try simp only [pml]); first | done | rfl | (simp only [pdt]; rfl)) ?_; (with_reducible refine (box_Inside.calls ((rd_T25 l1 x24_1).f0.f0) ((rd_T25 l1 x24_1).f0.f1) ((rd_T25 l1 x24_1).f0.f2) ((rd_T25 l1 x24_1).f1.f0) ((rd_T25 l1 x24_1).f1.f1) ((rd_T25 l1 x24_1).f1.f2) a0_0 a0_1 a0_2 a0_3 a0_4 a0_5 false _ A17.out).mono ?_); rintro e w28 ⟨rfl, hb⟩; refine ⟨_, rfl, ?_⟩; replace BK359 := xC1 (kfC BK359.out) hb; replace BK366 := xC1 (o := .cells #[.int .i64 ((rd_T25 l1 x24_1).f0.f0), .int .i64 ((rd_T25 l1 x24_1).f0.f1), .int .i64 ((rd_T25 l1 x24_1).f0.f2), .int .i64 ((rd_T25 l1 x24_1).f1.f0), .int .i64 ((rd_T25 l1 x24_1).f1.f1), .int .i64 ((rd_T25 l1 x24_1).f1.f2)] 25 (0, 0)) (kkC BK366.out) hb; replace HB := bS HB hb; (try clear hb); (try clear hb2); (try clear hk); (try clear hi)))
     go_ret
     exact ⟨sqE, fW HB.out⟩
    rw [if_neg c14] at H
    have c14b0 : decide (x24_1 < (l1.length : Int)) = false := decide_eq_false c14
    clear c14
    replace H := Option.bind_eq_some_iff.mp H
    obtain ⟨⟨t368, t369⟩, A290, H⟩ := H
    replace H : (if t368 ≥ 0 then (some 11) else (box_Partition.l1 k1 t364 l1 (l1.length : Int) 0)) = some r := H
    have A29 := am A290
    clear A290
    by_cases c30 : t368 ≥ 0
    ·rw [if_pos c30] at H
     have c30b0 : decide (0 ≤ t368) = true := decide_eq_true c30
     clear c30
     obtain rfl := Option.some.inj H
     go_wp2_with (first | ((with_reducible refine gc (f := 65) rfl ?_); refine goesL_ (some 35) rfl rfl Try.func65 (by kernel_rfl) rfl #[.slice A1 l1.length c1] rfl (by (try simp only [pml]); first | done | rfl | (simp only [pdt]; rfl)) ?_; (with_reducible refine (box_clash.calls k1 _ _ l1 t368 t369 _ ?side1 ?side2 A29.out).mono ?_); (case side1 => repeat (first | exact (Kd.C_below HR1.out HB.out) | (with_reducible refine Kd.C_alloc ?_ _) | (with_reducible refine Kd.C_drewN ?_ _) | (with_reducible refine Kd.C_drew ?_))); (case side2 => exact HC1.out); rintro e w31 ⟨rfl, hb⟩; refine ⟨_, rfl, ?_⟩; replace BK359 := bB BK359 hb; replace HB := bS HB hb; (try clear hb); (try clear hb2); (try clear hk); (try clear hi)))
     go_ret
     exact ⟨sqE, fW HB.out⟩
    rw [if_neg c30] at H
    have c30b0 : decide (0 ≤ t368) = false := decide_eq_false c30
    clear c30
    have H' := am H
    clear H
    go_wp2_with (first | ((with_reducible refine gc (f := 65) rfl ?_); refine goesL_ (some 35) rfl rfl Try.func65 (by kernel_rfl) rfl #[.slice A1 l1.length c1] rfl (by (try simp only [pml]); first | done | rfl | (simp only [pdt]; rfl)) ?_; (with_reducible refine (box_clash.calls k1 _ _ l1 t368 t369 _ ?side1 ?side2 A29.out).mono ?_); (case side1 => repeat (first | exact (Kd.C_below HR1.out HB.out) | (with_reducible refine Kd.C_alloc ?_ _) | (with_reducible refine Kd.C_drewN ?_ _) | (with_reducible refine Kd.C_drew ?_))); (case side2 => exact HC1.out); rintro e w32 ⟨rfl, hb⟩; refine ⟨_, rfl, ?_⟩; replace BK359 := bB BK359 hb; replace HB := bS HB hb; (try clear hb); (try clear hb2); (try clear hk); (try clear hi)))
    go_loopg [6, 42] k1 (fun kq v6 v42 w' => ∃ (x6_2 : Int) (x42_2 : Int), v6 = .int .i64 x6_2 ∧ v42 = .int .i64 x42_2 ∧ Aside0 (box_Partition.l1 kq x6_2 l1 (l1.length : Int) x42_2 = some r) ∧ Aside0 (kq ≤ k1) ∧ Aside0 (w'.heap[gb359]? = some (.cells #[.int .i64 a0_0, .int .i64 a0_1, .int .i64 a0_2, .int .i64 a0_3, .int .i64 a0_4, .int .i64 a0_5] 25 (0, 0))) ∧ Aside0 (Below w.heap.size w w'))
    case atStart => exact ⟨(t364), (0), sqD, sqD, H', ⟨Nat.le_refl _⟩, ⟨fb BK359.out⟩, ⟨fW HB.out⟩⟩
    case round =>
     clear H'
     try clear c1;try clear c2;try clear p2;try clear c3;try clear p3;try clear q3;try clear hx3;try clear c4;try clear c4b0;try clear c4b1;try clear c5;try clear c6;try clear p6;try clear c14;try clear c14b0;try clear c15;try clear c15b0;try clear c16;try clear c16b0;try clear c18;try clear c20;try clear c25;try clear c30;try clear c30b0;try clear c31;try clear hx365_0;try clear hx365_1;try clear hx365_2;try clear hx365_3;try clear hx365_4;try clear hx365_5;try clear p2;try clear p365;try clear q365
     obtain ⟨x6_2, x42_2, rfl, rfl, HA, HK2, BK359, HB⟩ := hrel
     cases gk with
     | zero => exact absurd HA.out (by simp [box_Partition.l1])
     | succ k2 =>
      have H := HA.out
      clear HA
      simp only [box_Partition.l1] at H
      by_cases c33 : x42_2 < (l1.length : Int)
      rotate_left
      ·rw [if_neg c33] at H
       have c33b0 : decide (x42_2 < (l1.length : Int)) = false := decide_eq_false c33
       clear c33
       by_cases c41 : x6_2 > 0
       ·rw [if_pos c41] at H
        have c41b0 : decide (0 < x6_2) = true := decide_eq_true c41
        clear c41
        obtain rfl := Option.some.inj H
        go_wp2
        go_ret
        exact ⟨sqE, fW HB.out⟩
       rw [if_neg c41] at H
       have c41b0 : decide (0 < x6_2) = false := decide_eq_false c41
       clear c41
       obtain rfl := Option.some.inj H
       go_wp2
       go_ret
       exact ⟨sqE, fW HB.out⟩
      rw [if_pos c33] at H
      have c33b0 : decide (x42_2 < (l1.length : Int)) = true := decide_eq_true c33
      clear c33
      by_cases c34 : 0 ≤ x42_2
      rotate_left
      ·rw [if_neg c34] at H
       exact absurd H (by simp)
      rw [if_pos c34] at H
      have c34b0 : decide (0 ≤ x42_2) = true := decide_eq_true c34
      clear c34
      by_cases c35 : x42_2 < (l1.length : Int)
      rotate_left
      ·rw [if_neg c35] at H
       exact absurd H (by simp)
      rw [if_pos c35] at H
      have c35b0 : decide (x42_2 < (l1.length : Int)) = true := decide_eq_true c35
      clear c35
      replace H := Option.bind_eq_some_iff.mp H
      obtain ⟨t372, A360, H⟩ := H
      replace H : (box_Partition.l1 k2 (wrap64 (x6_2 - t372)) l1 (l1.length : Int) (wrap64 (x42_2 + 1))) = some r := H
      have A36 := am A360
      clear A360
      have H' := am H
      clear H
      have p370 : 0 ≤ (x42_2 : Int) := of_decide_eq_true (by assumption)
      have q370 : x42_2 < (l1.length : Int) := of_decide_eq_true (by assumption)
      obtain ⟨ad370, e370, hx370_0, hx370_1, hx370_2, hx370_3, hx370_4, hx370_5⟩ := at_T25 HR1.out x42_2 p370 q370
      cases e370
      replace hx370_0 := cl HB hx370_0
      replace hx370_1 := cl HB hx370_1
      replace hx370_2 := cl HB hx370_2
      replace hx370_3 := cl HB hx370_3
      replace hx370_4 := cl HB hx370_4
      replace hx370_5 := cl HB hx370_5
      replace p370 := eq_true p370
      replace q370 := eq_true q370
      go_wp2_with (first | ((with_reducible refine gate_dst (N := 12) rfl ?_); refine box_event ?hg (N := 12) ?hd (cs := #[.int .i64 0, .int .i64 0, .int .i64 0, .int .i64 0, .int .i64 0, .int .i64 0]) (t := 25) ?hr ?_; (case hd | hg => rfl); (case hr => first | (go_simp; done) | (go_simp; rfl)); intro gb371 hg w37 hbox hb; have BK371 := am hbox; have GW371 := sG HB hg; have GE371 := sG HB hg; replace HB := bS HB hb; have NB359_371 := nL BK359 hg; have NB371_359 := nG BK359 hg; replace BK359 := bB BK359 hb; clear hb hbox hg; have hnb38 := NB371_359.out; have hnc38 := NB359_371.out; obtain ⟨_, _, _, _, _, _, _, _, _, _, _, _⟩ := zC6 BK371) | ((with_reducible refine gc (f := 55) rfl ?_); refine goesL_ (some 48) rfl rfl Try.func55 (by kernel_rfl) rfl #[.agg #[.int .i64 ((rd_T25 l1 x42_2).f0.f0), .int .i64 ((rd_T25 l1 x42_2).f0.f1), .int .i64 ((rd_T25 l1 x42_2).f0.f2), .int .i64 ((rd_T25 l1 x42_2).f1.f0), .int .i64 ((rd_T25 l1 x42_2).f1.f1), .int .i64 ((rd_T25 l1 x42_2).f1.f2)]] rfl (by (try simp only [pml]); first | done | rfl | (simp only [pdt]; rfl)) ?_; (with_reducible refine (box_volume.calls ((rd_T25 l1 x42_2).f0.f0) ((rd_T25 l1 x42_2).f0.f1) ((rd_T25 l1 x42_2).f0.f2) ((rd_T25 l1 x42_2).f1.f0) ((rd_T25 l1 x42_2).f1.f1) ((rd_T25 l1 x42_2).f1.f2) t372 _ A36.out).mono ?_); rintro e w40 ⟨rfl, hb⟩; refine ⟨_, rfl, ?_⟩; replace BK359 := xC1 (kfC BK359.out) hb; replace BK371 := xC1 (o := .cells #[.int .i64 ((rd_T25 l1 x42_2).f0.f0), .int .i64 ((rd_T25 l1 x42_2).f0.f1), .int .i64 ((rd_T25 l1 x42_2).f0.f2), .int .i64 ((rd_T25 l1 x42_2).f1.f0), .int .i64 ((rd_T25 l1 x42_2).f1.f1), .int .i64 ((rd_T25 l1 x42_2).f1.f2)] 25 (0, 0)) (kkC BK371.out) hb; replace HB := bS HB hb; (try clear hb); (try clear hb2); (try clear hk); (try clear hi)))
      go_roundg k2
      case measure => have := HK1.out; have := HK2.out; omega
      case rel => exact ⟨(wrap64 (x6_2 - t372)), (wrap64 (x42_2 + 1)), sqD, sqD, H', ⟨by have := HK1.out; have := HK2.out; omega⟩, ⟨fb BK359.out⟩, ⟨fW HB.out⟩⟩
 ·rw [if_neg c4] at H
  have c4b0 : (t363 == 0) = false := beq_eq_false_iff_ne.mpr c4
  have c4b1 : (t363 != 0) = true := bne_iff_ne.mpr c4
  obtain rfl := Option.some.inj H
  go_enter Try.func42, Try.ntmps42
  go_wp2_with (first | ((with_reducible refine gate_dst (N := 2) rfl ?_); refine box_event ?hg (N := 2) ?hd (cs := #[.int .i64 a0_0, .int .i64 a0_1, .int .i64 a0_2, .int .i64 a0_3, .int .i64 a0_4, .int .i64 a0_5]) (t := 25) ?hr ?_; (case hd | hg => rfl); (case hr => first | (go_simp; done) | (go_simp; rfl)); intro gb359 hg w42 hbox hb; have BK359 := am hbox; have GW359 := sG HB hg; have GE359 := sG HB hg; replace HB := bS HB hb; clear hb hbox hg; obtain ⟨_, _, _, _, _, _, _, _, _, _, _, _⟩ := zC6 BK359) | ((with_reducible refine gate_dst (N := 15) rfl ?_); refine Kd.R_lit k25 _ 25 ?hg (N := 15) ?hd (xs := ([(⟨(⟨a0_0, a0_1, a0_2⟩ : S23), (⟨a0_3, a0_4, a0_5⟩ : S23)⟩ : S25)] : List (S25))) (inner := [.int .i64 a0_0, .int .i64 a0_1, .int .i64 a0_2, .int .i64 a0_3, .int .i64 a0_4, .int .i64 a0_5]) (ok := fun _ => True) (okp := fun _ => True) ?hr ?hp (fun _ hk => hk) trivial (Below.refl _ _) (Nat.le_refl _) (by simp) ?_; (case hd | hg => rfl); (case hr => first | (go_simp; done) | (go_simp; rfl)); (case hp => exact (Reps.c6 (show Kd.M k25 _ _ _ (⟨(⟨a0_0, a0_1, a0_2⟩ : S23), (⟨a0_3, a0_4, a0_5⟩ : S23)⟩ : S25) [.int .i64 a0_0, .int .i64 a0_1, .int .i64 a0_2, .int .i64 a0_3, .int .i64 a0_4, .int .i64 a0_5] from (k25_mkM _ _ _ (⟨(⟨a0_0, a0_1, a0_2⟩ : S23), (⟨a0_3, a0_4, a0_5⟩ : S23)⟩ : S25) )) (Reps.none _ _))); intro v361 w44 ho45 hb hg_ hnew_; clear hg_ hnew_; (first | rw [← Ny360.out] at ho45 | (simp only [Int.reduceToNat] at ho45; rw [← Ny360.out] at ho45)); have HO362 := am (Kd.R_lower (Kd.R_newB ho45 (g := gb359) (o := .cells #[.int .i64 a0_0, .int .i64 a0_1, .int .i64 a0_2, .int .i64 a0_3, .int .i64 a0_4, .int .i64 a0_5] 25 (0, 0)) (fb BK359.out)) (below_size (fW HB.out))); replace BK359 := bB BK359 hb; replace HB := bS HB hb; clear hb ho45; obtain ⟨Ao46, co46, eo46⟩ := Kd.R_slice HO362.out; subst eo46) | ((with_reducible refine gc (f := 48) rfl ?_); refine goesL_ (some 16) rfl rfl Try.func48 (by kernel_rfl) rfl #[.slice A1 l1.length c1, .slice Ao46 y360.length co46] rfl (by (try simp only [pml]); first | done | rfl | (simp only [pdt]; rfl)) ?_; (with_reducible refine (box_many.calls k _ _ l1 _ _ y360 t363 _ ?side1 ?side2 ?side3 ?side4 A3.out).mono ?_); (case side1 => repeat (first | exact (Kd.C_below HR1.out HB.out) | (with_reducible refine Kd.C_alloc ?_ _) | (with_reducible refine Kd.C_drewN ?_ _) | (with_reducible refine Kd.C_drew ?_))); (case side2 => exact HC1.out); (case side3 => repeat (first | exact (Kd.R_reads' HO362.out).2.2 | (with_reducible refine Kd.C_alloc ?_ _) | (with_reducible refine Kd.C_drewN ?_ _) | (with_reducible refine Kd.C_drew ?_))); (case side4 => exact (Kd.R_reads' HO362.out).2.1); rintro e w47 ⟨rfl, hb⟩; refine ⟨_, rfl, ?_⟩; replace HO362 := dR HO362 hb; replace BK359 := bB BK359 hb; replace HB := bS HB hb; (try clear hb); (try clear hb2); (try clear hk); (try clear hi)))
  go_ret
  exact ⟨sqE, fW HB.out⟩

end Go.Proofs.Ytmmdikhmlmoolaa.QA
