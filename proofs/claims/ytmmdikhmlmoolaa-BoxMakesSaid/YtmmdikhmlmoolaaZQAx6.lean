import Derived.Test.YtmmdikhmlmoolaaZQAx0
import Derived.Test.YtmmdikhmlmoolaaZQAx3
import Derived.Test.YtmmdikhmlmoolaaZQAx4
import Derived.Test.YtmmdikhmlmoolaaLay
import Derived.Test.YtmmdikhmlmoolaaZRegInv
import Derived.Test.YtmmdikhmlmoolaaZRowOne
import Derived.Test.YtmmdikhmlmoolaaZSortRow
import Derived.LoopN
import Derived.Shelf.SlicesE.Compact
import Derived.Shelf.SlicesE.Kit
import Derived.Shelf.SortM.Plain
import Derived.Shelf.SortM.SortNone
import Derived.StillTailTactics
namespace Go.Proofs.Ytmmdikhmlmoolaa.QA
open Go.RowKit Go.Proofs.YtmmdikhmlmoolaaW.PrintWords Go.Proofs.YtmmdikhmlmoolaaW.PrintLast Go.Proofs.YtmmdikhmlmoolaaW.PrintMore
open Go.Proofs.YtmmdikhmlmoolaaW.PrintWords renaming blk_drewN → bN, blk_drew → bd, blk_alloc → ba, below_alloc → wa, pw_below_drewN → wN, below_drew1 → wd, blk_below → bb
open Aside0 renaming mk → am
attribute [local go_sem] max2_int min2_int max_two min_two max_three min_three max_four min_four
set_option linter.unusedVariables false
set_option linter.unusedSimpArgs false

section
open Go.Proofs.Ytmmdikhmlmoolaa.RegInv
attribute [local go_sem] max2_int min2_int max_two min_two Oper.semAt_some
set_option maxHeartbeats 4000000 in
set_option maxRecDepth 100000 in
theorem meet_calls (k : Nat) (hk : k < 3) (g : Nat) (c0 c1 c2 c3 c4 c5 : Int) (W : World) (h : W.heap[g]? = some (Obj.cells #[.int .i64 c0, .int .i64 c1, .int .i64 c2, .int .i64 c3, .int .i64 c4, .int .i64 c5] 73 (0, 0))) :
  Calls Try.prog 58 #[.int .i64 k, .pointer (some ⟨g, 0, none⟩)] W fun e w' => e = .returned (.bool (if k = 0 then decide (c0 < c1) else if k = 1 then decide (c2 < c3) else decide (c4 < c5))) ∧ ∃ n, w' = W.drewN n := by
 have hu73 := Try.underlying73
 have hu72 := Try.underlying72
 obtain ⟨p0, p1, p2, p3, p4, p5⟩ := RegInv.cells6 h
 clear h
 match k, hk with
 | 0, _ =>
  go_enter Try.func58, Try.ntmps58
  go_wp2
  go_quiet (fail)
  go_wp2
  go_ret
  exact ⟨rfl, _, rfl⟩
 | 1, _ =>
  go_enter Try.func58, Try.ntmps58
  go_wp2
  go_quiet (fail)
  go_wp2
  go_ret
  exact ⟨rfl, _, rfl⟩
 | 2, _ =>
  go_enter Try.func58, Try.ntmps58
  go_wp2
  go_quiet (fail)
  go_wp2
  go_ret
  exact ⟨rfl, _, rfl⟩
def tv (b0 b1 b2 q01 q02 q11 q12 q21 q22 : Bool) : Int × Int :=
 if b1 && b2 && q01 then (0, 0) else if b1 && b2 && q02 then (1, 0) else if b2 && b0 && q11 then (2, 0) else if b2 && b0 && q12 then (3, 0) else if b0 && b1 && q21 then (4, 0) else if b0 && b1 && q22 then (5, 0) else (0, 9)
def box_Touch.f (a0_0 a0_1 a0_2 a0_3 a0_4 a0_5 a1_0 a1_1 a1_2 a1_3 a1_4 a1_5 : Int) : Option (Int × Int) := some (if two (⟨⟨a0_0, a0_1, a0_2⟩, ⟨a0_3, a0_4, a0_5⟩⟩ : S25) (⟨⟨a1_0, a1_1, a1_2⟩, ⟨a1_3, a1_4, a1_5⟩⟩ : S25) = 0 then tv (decide ((mx a0_0 a1_0) < (mn a0_3 a1_3))) (decide ((mx a0_1 a1_1) < (mn a0_4 a1_4))) (decide ((mx a0_2 a1_2) < (mn a0_5 a1_5))) (a1_0 == a0_3) (a1_3 == a0_0) (a1_1 == a0_4) (a1_4 == a0_1) (a1_2 == a0_5) (a1_5 == a0_2) else (0, two (⟨⟨a0_0, a0_1, a0_2⟩, ⟨a0_3, a0_4, a0_5⟩⟩ : S25) (⟨⟨a1_0, a1_1, a1_2⟩, ⟨a1_3, a1_4, a1_5⟩⟩ : S25)))
set_option maxHeartbeats 4000000 in
set_option maxRecDepth 100000 in
theorem box_Touch.calls (a0_0 a0_1 a0_2 a0_3 a0_4 a0_5 a1_0 a1_1 a1_2 a1_3 a1_4 a1_5 : Int) (r1 r2 : Int) (w : World) (h : box_Touch.f a0_0 a0_1 a0_2 a0_3 a0_4 a0_5 a1_0 a1_1 a1_2 a1_3 a1_4 a1_5 = some (r1, r2)) :
  Calls Try.prog 18 #[.agg #[.int .i64 a0_0, .int .i64 a0_1, .int .i64 a0_2, .int .i64 a0_3, .int .i64 a0_4, .int .i64 a0_5], .agg #[.int .i64 a1_0, .int .i64 a1_1, .int .i64 a1_2, .int .i64 a1_3, .int .i64 a1_4, .int .i64 a1_5]] w fun e w' => e = .returned (.tuple #[.int .i64 r1, .int .i64 r2]) ∧ Below w.heap.size w w' := by
 have hu25 := Try.underlying25
 have hu73 := Try.underlying73
 have hu72 := Try.underlying72
 have HS := am sides_is
 have HA := am (show ∀ (W : World) (g : Nat), W.heap[g]? = some (Obj.cells #[.int .i64 a0_0, .int .i64 a0_1, .int .i64 a0_2, .int .i64 a0_3, .int .i64 a0_4, .int .i64 a0_5, .int .i64 a1_0, .int .i64 a1_1, .int .i64 a1_2, .int .i64 a1_3, .int .i64 a1_4, .int .i64 a1_5] 25 (0, 0)) → Calls Try.prog 57 #[.slice (some ⟨g, 0, none⟩) 2 2] W fun e w' => e = .returned (.int .i64 (two (⟨⟨a0_0, a0_1, a0_2⟩, ⟨a0_3, a0_4, a0_5⟩⟩ : S25) (⟨⟨a1_0, a1_1, a1_2⟩, ⟨a1_3, a1_4, a1_5⟩⟩ : S25))) ∧ Below W.heap.size W w' from fun W g h => all_calls (⟨⟨a0_0, a0_1, a0_2⟩, ⟨a0_3, a0_4, a0_5⟩⟩ : S25) (⟨⟨a1_0, a1_1, a1_2⟩, ⟨a1_3, a1_4, a1_5⟩⟩ : S25) h)
 unfold box_Touch.f at h
 by_cases he : two (⟨⟨a0_0, a0_1, a0_2⟩, ⟨a0_3, a0_4, a0_5⟩⟩ : S25) (⟨⟨a1_0, a1_1, a1_2⟩, ⟨a1_3, a1_4, a1_5⟩⟩ : S25) = 0
 rotate_left
 ·rw [if_neg he] at h
  obtain ⟨rfl, rfl⟩ := Prod.mk.inj (Option.some.inj h)
  clear h
  obtain ⟨e0, HE⟩ : ∃ e0, two (⟨⟨a0_0, a0_1, a0_2⟩, ⟨a0_3, a0_4, a0_5⟩⟩ : S25) (⟨⟨a1_0, a1_1, a1_2⟩, ⟨a1_3, a1_4, a1_5⟩⟩ : S25) = e0 := ⟨_, rfl⟩
  rw [HE] at he ⊢
  replace HE := am HE
  have d0 : (e0 != 0) = true := bne_iff_ne.2 he
  have d1 : (e0 == 0) = false := beq_eq_false_iff_ne.2 he
  clear he
  go_enter Try.func18, Try.ntmps18
  go_wp2_with fail
  obtain ⟨W, hW⟩ : ∃ W, W = ((w.alloc (.cells #[.int .i64 a0_0, .int .i64 a0_1, .int .i64 a0_2, .int .i64 a0_3, .int .i64 a0_4, .int .i64 a0_5] 25)).alloc (.cells #[.int .i64 a1_0, .int .i64 a1_1, .int .i64 a1_2, .int .i64 a1_3, .int .i64 a1_4, .int .i64 a1_5] 25)).alloc (.cells #[.int .i64 a0_0, .int .i64 a0_1, .int .i64 a0_2, .int .i64 a0_3, .int .i64 a0_4, .int .i64 a0_5, .int .i64 a1_0, .int .i64 a1_1, .int .i64 a1_2, .int .i64 a1_3, .int .i64 a1_4, .int .i64 a1_5] 25) := ⟨_, rfl⟩
  have B_0 : W.heap[w.heap.size]? = some (Obj.cells #[.int .i64 a0_0, .int .i64 a0_1, .int .i64 a0_2, .int .i64 a0_3, .int .i64 a0_4, .int .i64 a0_5] 25 (0, 0)) := by
   rw [hW]; have h := blk_new w (.cells #[.int .i64 a0_0, .int .i64 a0_1, .int .i64 a0_2, .int .i64 a0_3, .int .i64 a0_4, .int .i64 a0_5] 25)
   exact ba (ba (h) _) _
  have B_1 : W.heap[w.heap.size + 1]? = some (Obj.cells #[.int .i64 a1_0, .int .i64 a1_1, .int .i64 a1_2, .int .i64 a1_3, .int .i64 a1_4, .int .i64 a1_5] 25 (0, 0)) := by
   rw [hW]; have h := blk_new (w.alloc (.cells #[.int .i64 a0_0, .int .i64 a0_1, .int .i64 a0_2, .int .i64 a0_3, .int .i64 a0_4, .int .i64 a0_5] 25)) (.cells #[.int .i64 a1_0, .int .i64 a1_1, .int .i64 a1_2, .int .i64 a1_3, .int .i64 a1_4, .int .i64 a1_5] 25)
   rw [World.size_alloc] at h; exact ba (h) _
  have B_2 : W.heap[w.heap.size + 1 + 1]? = some (Obj.cells #[.int .i64 a0_0, .int .i64 a0_1, .int .i64 a0_2, .int .i64 a0_3, .int .i64 a0_4, .int .i64 a0_5, .int .i64 a1_0, .int .i64 a1_1, .int .i64 a1_2, .int .i64 a1_3, .int .i64 a1_4, .int .i64 a1_5] 25 (0, 0)) := by
   rw [hW]; have h := blk_new ((w.alloc (.cells #[.int .i64 a0_0, .int .i64 a0_1, .int .i64 a0_2, .int .i64 a0_3, .int .i64 a0_4, .int .i64 a0_5] 25)).alloc (.cells #[.int .i64 a1_0, .int .i64 a1_1, .int .i64 a1_2, .int .i64 a1_3, .int .i64 a1_4, .int .i64 a1_5] 25)) (.cells #[.int .i64 a0_0, .int .i64 a0_1, .int .i64 a0_2, .int .i64 a0_3, .int .i64 a0_4, .int .i64 a0_5, .int .i64 a1_0, .int .i64 a1_1, .int .i64 a1_2, .int .i64 a1_3, .int .i64 a1_4, .int .i64 a1_5] 25)
   rw [World.size_alloc, World.size_alloc] at h; exact h
  have hb0 : Below w.heap.size w W := by rw [hW]; exact wa (wa (wa ((Below.refl _ _)) _) _) _
  rw [← hW]
  clear hW
  have HB := am hb0
  have K0 := am B_0
  have K1 := am B_1
  have KL := am B_2
  clear hb0 B_0 B_1 B_2
  go_wp2_with (go_at_call 57; refine (HA.out _ _ KL.out).mono ?_; rintro e w2 ⟨rfl, hb⟩; try rw [HE.out]; replace K0 := am (bb K0.out hb); replace K1 := am (bb K1.out hb); replace HB := am (below_step HB.out hb); clear hb KL)
  go_ret2
  exact ⟨rfl, HB.out⟩
 rw [if_pos he] at h
 obtain ⟨c0, hc0⟩ : ∃ c, c = mx a0_0 a1_0 := ⟨_, rfl⟩
 obtain ⟨c1, hc1⟩ : ∃ c, c = mn a0_3 a1_3 := ⟨_, rfl⟩
 obtain ⟨c2, hc2⟩ : ∃ c, c = mx a0_1 a1_1 := ⟨_, rfl⟩
 obtain ⟨c3, hc3⟩ : ∃ c, c = mn a0_4 a1_4 := ⟨_, rfl⟩
 obtain ⟨c4, hc4⟩ : ∃ c, c = mx a0_2 a1_2 := ⟨_, rfl⟩
 obtain ⟨c5, hc5⟩ : ∃ c, c = mn a0_5 a1_5 := ⟨_, rfl⟩
 have HC := am (show ∀ W, Calls Try.prog 56 #[.agg #[.int .i64 a0_0, .int .i64 a0_1, .int .i64 a0_2, .int .i64 a0_3, .int .i64 a0_4, .int .i64 a0_5], .agg #[.int .i64 a1_0, .int .i64 a1_1, .int .i64 a1_2, .int .i64 a1_3, .int .i64 a1_4, .int .i64 a1_5]] W fun e w' => e = .returned (.agg #[.int .i64 c0, .int .i64 c1, .int .i64 c2, .int .i64 c3, .int .i64 c4, .int .i64 c5]) ∧ Below W.heap.size W w' from fun W => by rw [hc0, hc1, hc2, hc3, hc4, hc5]; exact common_is a0_0 a0_1 a0_2 a0_3 a0_4 a0_5 a1_0 a1_1 a1_2 a1_3 a1_4 a1_5 W)
 rw [← hc0, ← hc1, ← hc2, ← hc3, ← hc4, ← hc5] at h
 clear hc0 hc1 hc2 hc3 hc4 hc5
 obtain ⟨b0, hb0⟩ : ∃ b, b = decide (c0 < c1) := ⟨_, rfl⟩
 obtain ⟨b1, hb1⟩ : ∃ b, b = decide (c2 < c3) := ⟨_, rfl⟩
 obtain ⟨b2, hb2⟩ : ∃ b, b = decide (c4 < c5) := ⟨_, rfl⟩
 obtain ⟨q01, hq01⟩ : ∃ b, (a1_0 == a0_3) = b := ⟨_, rfl⟩
 obtain ⟨q02, hq02⟩ : ∃ b, (a1_3 == a0_0) = b := ⟨_, rfl⟩
 obtain ⟨q11, hq11⟩ : ∃ b, (a1_1 == a0_4) = b := ⟨_, rfl⟩
 obtain ⟨q12, hq12⟩ : ∃ b, (a1_4 == a0_1) = b := ⟨_, rfl⟩
 obtain ⟨q21, hq21⟩ : ∃ b, (a1_2 == a0_5) = b := ⟨_, rfl⟩
 obtain ⟨q22, hq22⟩ : ∃ b, (a1_5 == a0_2) = b := ⟨_, rfl⟩
 rw [← hb0, ← hb1, ← hb2, hq01, hq02, hq11, hq12, hq21, hq22] at h
 obtain ⟨h1, h2⟩ := Prod.mk.inj (Option.some.inj h)
 clear h
 have H := am (And.intro h1 h2)
 clear h1 h2
 have HBB := am (And.intro hb0 (And.intro hb1 hb2))
 clear hb0 hb1 hb2
 have HE := am he
 clear he
 go_enter Try.func18, Try.ntmps18
 go_wp2_with fail
 obtain ⟨W, hW⟩ : ∃ W, W = ((w.alloc (.cells #[.int .i64 a0_0, .int .i64 a0_1, .int .i64 a0_2, .int .i64 a0_3, .int .i64 a0_4, .int .i64 a0_5] 25)).alloc (.cells #[.int .i64 a1_0, .int .i64 a1_1, .int .i64 a1_2, .int .i64 a1_3, .int .i64 a1_4, .int .i64 a1_5] 25)).alloc (.cells #[.int .i64 a0_0, .int .i64 a0_1, .int .i64 a0_2, .int .i64 a0_3, .int .i64 a0_4, .int .i64 a0_5, .int .i64 a1_0, .int .i64 a1_1, .int .i64 a1_2, .int .i64 a1_3, .int .i64 a1_4, .int .i64 a1_5] 25) := ⟨_, rfl⟩
 have B_0 : W.heap[w.heap.size]? = some (Obj.cells #[.int .i64 a0_0, .int .i64 a0_1, .int .i64 a0_2, .int .i64 a0_3, .int .i64 a0_4, .int .i64 a0_5] 25 (0, 0)) := by
  rw [hW]; have h := blk_new w (.cells #[.int .i64 a0_0, .int .i64 a0_1, .int .i64 a0_2, .int .i64 a0_3, .int .i64 a0_4, .int .i64 a0_5] 25)
  exact ba (ba (h) _) _
 have B_1 : W.heap[w.heap.size + 1]? = some (Obj.cells #[.int .i64 a1_0, .int .i64 a1_1, .int .i64 a1_2, .int .i64 a1_3, .int .i64 a1_4, .int .i64 a1_5] 25 (0, 0)) := by
  rw [hW]; have h := blk_new (w.alloc (.cells #[.int .i64 a0_0, .int .i64 a0_1, .int .i64 a0_2, .int .i64 a0_3, .int .i64 a0_4, .int .i64 a0_5] 25)) (.cells #[.int .i64 a1_0, .int .i64 a1_1, .int .i64 a1_2, .int .i64 a1_3, .int .i64 a1_4, .int .i64 a1_5] 25)
  rw [World.size_alloc] at h; exact ba (h) _
 have B_2 : W.heap[w.heap.size + 1 + 1]? = some (Obj.cells #[.int .i64 a0_0, .int .i64 a0_1, .int .i64 a0_2, .int .i64 a0_3, .int .i64 a0_4, .int .i64 a0_5, .int .i64 a1_0, .int .i64 a1_1, .int .i64 a1_2, .int .i64 a1_3, .int .i64 a1_4, .int .i64 a1_5] 25 (0, 0)) := by
  rw [hW]; have h := blk_new ((w.alloc (.cells #[.int .i64 a0_0, .int .i64 a0_1, .int .i64 a0_2, .int .i64 a0_3, .int .i64 a0_4, .int .i64 a0_5] 25)).alloc (.cells #[.int .i64 a1_0, .int .i64 a1_1, .int .i64 a1_2, .int .i64 a1_3, .int .i64 a1_4, .int .i64 a1_5] 25)) (.cells #[.int .i64 a0_0, .int .i64 a0_1, .int .i64 a0_2, .int .i64 a0_3, .int .i64 a0_4, .int .i64 a0_5, .int .i64 a1_0, .int .i64 a1_1, .int .i64 a1_2, .int .i64 a1_3, .int .i64 a1_4, .int .i64 a1_5] 25)
  rw [World.size_alloc, World.size_alloc] at h; exact h
 have hb0 : Below w.heap.size w W := by rw [hW]; exact wa (wa (wa ((Below.refl _ _)) _) _) _
 rw [← hW]
 clear hW
 have HB := am hb0
 have K0 := am B_0
 have K1 := am B_1
 have KL := am B_2
 clear hb0 B_0 B_1 B_2
 go_wp2_with (go_at_call 57; refine (HA.out _ _ KL.out).mono ?_; rintro e w2 ⟨rfl, hb⟩; try rw [HE.out]; replace K0 := am (bb K0.out hb); replace K1 := am (bb K1.out hb); replace HB := am (below_step HB.out hb); clear hb KL)
 refine RegInv.region_inv (fun f a W' => ∃ s19 s20 s21 s22 s23 s24 s25 s7 s8 s9 : Value, a = { tmps := #[.agg #[.int .i64 a0_0, .int .i64 a0_1, .int .i64 a0_2, .int .i64 a0_3, .int .i64 a0_4, .int .i64 a0_5], .agg #[.int .i64 a1_0, .int .i64 a1_1, .int .i64 a1_2, .int .i64 a1_3, .int .i64 a1_4, .int .i64 a1_5], .pointer (some ⟨w.heap.size, 0, none⟩), .pointer (some ⟨w.heap.size + 1, 0, none⟩), .int .i64 0, .int .i64 0, .int .i64 0, s7, s8, s9, undef, undef, .agg #[.int .i64 a0_0, .int .i64 a0_1, .int .i64 a0_2, .int .i64 a0_3, .int .i64 a0_4, .int .i64 a0_5], .agg #[.int .i64 a1_0, .int .i64 a1_1, .int .i64 a1_2, .int .i64 a1_3, .int .i64 a1_4, .int .i64 a1_5], .slice (some ⟨w.heap.size + 1 + 1, 0, none⟩) 2 2, .int .i64 0, .int .i64 0, .bool false, undef, s19, s20, s21, s22, s23, s24, s25, undef, undef, undef, undef, undef, undef, undef, undef, undef, undef, undef, undef, undef, undef, undef, undef, undef, undef, undef, undef, undef, undef, undef, undef, undef, undef, undef, undef, undef, undef, undef, undef, undef, undef, undef, undef, undef, undef, undef, undef, undef, undef], defers := [] } ∧ (f 0 = true → s19 = .agg #[.int .i64 a0_0, .int .i64 a0_1, .int .i64 a0_2, .int .i64 a0_3, .int .i64 a0_4, .int .i64 a0_5]) ∧ (f 1 = true → s20 = .agg #[.int .i64 a1_0, .int .i64 a1_1, .int .i64 a1_2, .int .i64 a1_3, .int .i64 a1_4, .int .i64 a1_5]) ∧ (f 2 = true → s21 = .agg #[.int .i64 c0, .int .i64 c1, .int .i64 c2, .int .i64 c3, .int .i64 c4, .int .i64 c5]) ∧ (f 3 = true → s22 = .agg #[.int .i64 a0_0, .int .i64 a0_1, .int .i64 a0_2, .int .i64 a0_3, .int .i64 a0_4, .int .i64 a0_5]) ∧ (f 4 = true → s23 = .agg #[.int .i64 a0_0, .int .i64 a0_3, .int .i64 a0_1, .int .i64 a0_4, .int .i64 a0_2, .int .i64 a0_5]) ∧ (f 5 = true → s24 = .agg #[.int .i64 a1_0, .int .i64 a1_1, .int .i64 a1_2, .int .i64 a1_3, .int .i64 a1_4, .int .i64 a1_5]) ∧ (f 6 = true → s25 = .agg #[.int .i64 a1_0, .int .i64 a1_3, .int .i64 a1_1, .int .i64 a1_4, .int .i64 a1_2, .int .i64 a1_5]) ∧ (f 7 = true → ∃ g, s7 = .pointer (some ⟨g, 0, none⟩) ∧ w.heap.size + 2 ≤ g ∧ W'.heap[g]? = some (Obj.cells (if f 10 = true then #[.int .i64 c0, .int .i64 c1, .int .i64 c2, .int .i64 c3, .int .i64 c4, .int .i64 c5] else #[.int .i64 0, .int .i64 0, .int .i64 0, .int .i64 0, .int .i64 0, .int .i64 0]) 73 (0, 0))) ∧ (f 8 = true → ∃ g, s8 = .pointer (some ⟨g, 0, none⟩) ∧ w.heap.size + 2 ≤ g ∧ W'.heap[g]? = some (Obj.cells (if f 11 = true then #[.int .i64 a0_0, .int .i64 a0_3, .int .i64 a0_1, .int .i64 a0_4, .int .i64 a0_2, .int .i64 a0_5] else #[.int .i64 0, .int .i64 0, .int .i64 0, .int .i64 0, .int .i64 0, .int .i64 0]) 73 (0, 0))) ∧ (f 9 = true → ∃ g, s9 = .pointer (some ⟨g, 0, none⟩) ∧ w.heap.size + 2 ≤ g ∧ W'.heap[g]? = some (Obj.cells (if f 12 = true then #[.int .i64 a1_0, .int .i64 a1_3, .int .i64 a1_1, .int .i64 a1_4, .int .i64 a1_2, .int .i64 a1_5] else #[.int .i64 0, .int .i64 0, .int .i64 0, .int .i64 0, .int .i64 0, .int .i64 0]) 73 (0, 0))) ∧ (s7 = s8 → f 7 = true → f 8 = true → False) ∧ (s7 = s9 → f 7 = true → f 9 = true → False) ∧ (s8 = s9 → f 8 = true → f 9 = true → False) ∧ (f 10 = true → f 7 = true) ∧ (f 11 = true → f 8 = true) ∧ (f 12 = true → f 9 = true) ∧ W'.heap[w.heap.size]? = some (Obj.cells #[.int .i64 a0_0, .int .i64 a0_1, .int .i64 a0_2, .int .i64 a0_3, .int .i64 a0_4, .int .i64 a0_5] 25 (0, 0)) ∧ W'.heap[w.heap.size + 1]? = some (Obj.cells #[.int .i64 a1_0, .int .i64 a1_1, .int .i64 a1_2, .int .i64 a1_3, .int .i64 a1_4, .int .i64 a1_5] 25 (0, 0)) ∧ Below w.heap.size w W') (by kernel_rfl) (by kernel_rfl) ?h0 ?hstep ?hend
 case h0 => exact ⟨_, _, _, _, _, _, _, _, _, _, rfl, nofun, nofun, nofun, nofun, nofun, nofun, nofun, nofun, nofun, nofun, nofun, nofun, nofun, nofun, nofun, nofun, bd K0.out, bd K1.out, wd HB.out⟩
 case hstep =>
  clear K0 K1 HB
  intro i o ho f a W' hI hfi hdep K hK
  obtain ⟨s19, s20, s21, s22, s23, s24, s25, s7, s8, s9, rfl, h0, h1, h2, h3, h4, h5, h6, h7, h8, h9, n7_8, n7_9, n8_9, d10, d11, d12, k0, k1, hb⟩ := hI
  have HK := am hK
  clear hK
  rcases i with _ | _ | _ | _ | _ | _ | _ | _ | _ | _ | _ | _ | _ | i
  all_goals (first | obtain rfl := Option.some.inj ho | skip)
  all_goals have A := am (And.intro h0 (And.intro h1 (And.intro h2 (And.intro h3 (And.intro h4 (And.intro h5 (And.intro h6 (And.intro h7 (And.intro h8 (And.intro h9 (And.intro n7_8 (And.intro n7_9 (And.intro n8_9 (And.intro d10 (And.intro d11 d12)))))))))))))))
  all_goals clear h0 h1 h2 h3 h4 h5 h6 h7 h8 h9 n7_8 n7_9 n8_9 d10 d11 d12
  ·clear hdep
   obtain ⟨p0, p1, p2, p3, p4, p5⟩ := RegInv.cells6 k0
   go_wp2_with fail
   obtain ⟨h0, h1, h2, h3, h4, h5, h6, h7, h8, h9, n7_8, n7_9, n8_9, d10, d11, d12⟩ := A.out
   exact HK.out _ _ ⟨_, _, _, _, _, _, _, _, _, _, rfl, (fun _ => rfl), h1, h2, h3, h4, h5, h6, h7, h8, h9, n7_8, n7_9, n8_9, d10, d11, d12, k0, k1, hb⟩
  ·clear hdep
   obtain ⟨p0, p1, p2, p3, p4, p5⟩ := RegInv.cells6 k1
   go_wp2_with fail
   obtain ⟨h0, h1, h2, h3, h4, h5, h6, h7, h8, h9, n7_8, n7_9, n8_9, d10, d11, d12⟩ := A.out
   exact HK.out _ _ ⟨_, _, _, _, _, _, _, _, _, _, rfl, h0, (fun _ => rfl), h2, h3, h4, h5, h6, h7, h8, h9, n7_8, n7_9, n8_9, d10, d11, d12, k0, k1, hb⟩
  ·obtain ⟨h0, h1, h2, h3, h4, h5, h6, h7, h8, h9, n7_8, n7_9, n8_9, d10, d11, d12⟩ := A.out
   obtain rfl := h0 (hdep { on := 0, ground := .data } (by simp) rfl)
   obtain rfl := h1 (hdep { on := 1, ground := .data } (by simp) rfl)
   clear hdep h0 h1 h2 h3 h4 h5 h6 h7 h8 h9 n7_8 n7_9 n8_9 d10 d11 d12
   go_wp2_with (go_at_call 56; refine (HC.out _).mono ?_; rintro e w2 ⟨rfl, hb2⟩; have HB2 := am hb2; clear hb2)
   obtain ⟨h0, h1, h2, h3, h4, h5, h6, h7, h8, h9, n7_8, n7_9, n8_9, d10, d11, d12⟩ := A.out
   have hb2 := HB2.out
   exact HK.out _ _ ⟨_, _, _, _, _, _, _, _, _, _, rfl, (fun _ => rfl), (fun _ => rfl), (fun _ => rfl), h3, h4, h5, h6, (fun h => by obtain ⟨g', f1, f2, f3⟩ := h7 h; exact ⟨g', f1, f2, bb f3 hb2⟩), (fun h => by obtain ⟨g', f1, f2, f3⟩ := h8 h; exact ⟨g', f1, f2, bb f3 hb2⟩), (fun h => by obtain ⟨g', f1, f2, f3⟩ := h9 h; exact ⟨g', f1, f2, bb f3 hb2⟩), n7_8, n7_9, n8_9, d10, d11, d12, bb k0 hb2, bb k1 hb2, below_step hb hb2⟩
  ·clear hdep
   obtain ⟨p0, p1, p2, p3, p4, p5⟩ := RegInv.cells6 k0
   go_wp2_with fail
   obtain ⟨h0, h1, h2, h3, h4, h5, h6, h7, h8, h9, n7_8, n7_9, n8_9, d10, d11, d12⟩ := A.out
   exact HK.out _ _ ⟨_, _, _, _, _, _, _, _, _, _, rfl, h0, h1, h2, (fun _ => rfl), h4, h5, h6, h7, h8, h9, n7_8, n7_9, n8_9, d10, d11, d12, k0, k1, hb⟩
  ·obtain ⟨h0, h1, h2, h3, h4, h5, h6, h7, h8, h9, n7_8, n7_9, n8_9, d10, d11, d12⟩ := A.out
   obtain rfl := h3 (hdep { on := 3, ground := .data } (by simp) rfl)
   clear hdep h0 h1 h2 h3 h4 h5 h6 h7 h8 h9 n7_8 n7_9 n8_9 d10 d11 d12
   go_wp2_with (go_at_call 52; refine (HS.out _ _ _ _ _ _ _).mono ?_; rintro e w2 ⟨rfl, hb2⟩; have HB2 := am hb2; clear hb2)
   obtain ⟨h0, h1, h2, h3, h4, h5, h6, h7, h8, h9, n7_8, n7_9, n8_9, d10, d11, d12⟩ := A.out
   have hb2 := HB2.out
   exact HK.out _ _ ⟨_, _, _, _, _, _, _, _, _, _, rfl, h0, h1, h2, (fun _ => rfl), (fun _ => rfl), h5, h6, (fun h => by obtain ⟨g', f1, f2, f3⟩ := h7 h; exact ⟨g', f1, f2, bb f3 hb2⟩), (fun h => by obtain ⟨g', f1, f2, f3⟩ := h8 h; exact ⟨g', f1, f2, bb f3 hb2⟩), (fun h => by obtain ⟨g', f1, f2, f3⟩ := h9 h; exact ⟨g', f1, f2, bb f3 hb2⟩), n7_8, n7_9, n8_9, d10, d11, d12, bb k0 hb2, bb k1 hb2, below_step hb hb2⟩
  ·clear hdep
   obtain ⟨p0, p1, p2, p3, p4, p5⟩ := RegInv.cells6 k1
   go_wp2_with fail
   obtain ⟨h0, h1, h2, h3, h4, h5, h6, h7, h8, h9, n7_8, n7_9, n8_9, d10, d11, d12⟩ := A.out
   exact HK.out _ _ ⟨_, _, _, _, _, _, _, _, _, _, rfl, h0, h1, h2, h3, h4, (fun _ => rfl), h6, h7, h8, h9, n7_8, n7_9, n8_9, d10, d11, d12, k0, k1, hb⟩
  ·obtain ⟨h0, h1, h2, h3, h4, h5, h6, h7, h8, h9, n7_8, n7_9, n8_9, d10, d11, d12⟩ := A.out
   obtain rfl := h5 (hdep { on := 5, ground := .data } (by simp) rfl)
   clear hdep h0 h1 h2 h3 h4 h5 h6 h7 h8 h9 n7_8 n7_9 n8_9 d10 d11 d12
   go_wp2_with (go_at_call 52; refine (HS.out _ _ _ _ _ _ _).mono ?_; rintro e w2 ⟨rfl, hb2⟩; have HB2 := am hb2; clear hb2)
   obtain ⟨h0, h1, h2, h3, h4, h5, h6, h7, h8, h9, n7_8, n7_9, n8_9, d10, d11, d12⟩ := A.out
   have hb2 := HB2.out
   exact HK.out _ _ ⟨_, _, _, _, _, _, _, _, _, _, rfl, h0, h1, h2, h3, h4, (fun _ => rfl), (fun _ => rfl), (fun h => by obtain ⟨g', f1, f2, f3⟩ := h7 h; exact ⟨g', f1, f2, bb f3 hb2⟩), (fun h => by obtain ⟨g', f1, f2, f3⟩ := h8 h; exact ⟨g', f1, f2, bb f3 hb2⟩), (fun h => by obtain ⟨g', f1, f2, f3⟩ := h9 h; exact ⟨g', f1, f2, bb f3 hb2⟩), n7_8, n7_9, n8_9, d10, d11, d12, bb k0 hb2, bb k1 hb2, below_step hb hb2⟩
  ·clear hdep
   have sz := blk_lt k1
   go_wp2_with fail
   obtain ⟨h0, h1, h2, h3, h4, h5, h6, h7, h8, h9, n7_8, n7_9, n8_9, d10, d11, d12⟩ := A.out
   have hf : ¬ f 10 = true := fun h => by rw [d10 h] at hfi; cases hfi
   refine HK.out _ _ ⟨_, _, _, _, _, _, _, _, _, _, rfl, h0, h1, h2, h3, h4, h5, h6, (fun _ => ⟨_, rfl, by omega, ?_⟩), (fun h => by obtain ⟨g', f1, f2, f3⟩ := h8 h; exact ⟨g', f1, f2, ba f3 _⟩), (fun h => by obtain ⟨g', f1, f2, f3⟩ := h9 h; exact ⟨g', f1, f2, ba f3 _⟩), (fun he h1 h2 => by obtain ⟨g, e1, e2, e3⟩ := h8 h2; have := blk_lt e3; rw [e1] at he; cases he; omega), (fun he h1 h2 => by obtain ⟨g, e1, e2, e3⟩ := h9 h2; have := blk_lt e3; rw [e1] at he; cases he; omega), n8_9, (fun _ => rfl), d11, d12, ba k0 _, ba k1 _, wa hb _⟩
   show (W'.alloc _).heap[_]? = some (Obj.cells (if f 10 = true then _ else _) 73 (0, 0))
   rw [if_neg hf]
   exact blk_new W' _
  ·clear hdep
   have sz := blk_lt k1
   go_wp2_with fail
   obtain ⟨h0, h1, h2, h3, h4, h5, h6, h7, h8, h9, n7_8, n7_9, n8_9, d10, d11, d12⟩ := A.out
   have hf : ¬ f 11 = true := fun h => by rw [d11 h] at hfi; cases hfi
   refine HK.out _ _ ⟨_, _, _, _, _, _, _, _, _, _, rfl, h0, h1, h2, h3, h4, h5, h6, (fun h => by obtain ⟨g', f1, f2, f3⟩ := h7 h; exact ⟨g', f1, f2, ba f3 _⟩), (fun _ => ⟨_, rfl, by omega, ?_⟩), (fun h => by obtain ⟨g', f1, f2, f3⟩ := h9 h; exact ⟨g', f1, f2, ba f3 _⟩), (fun he h1 h2 => by obtain ⟨g, e1, e2, e3⟩ := h7 h1; have := blk_lt e3; rw [e1] at he; cases he; omega), n7_9, (fun he h1 h2 => by obtain ⟨g, e1, e2, e3⟩ := h9 h2; have := blk_lt e3; rw [e1] at he; cases he; omega), d10, (fun _ => rfl), d12, ba k0 _, ba k1 _, wa hb _⟩
   show (W'.alloc _).heap[_]? = some (Obj.cells (if f 11 = true then _ else _) 73 (0, 0))
   rw [if_neg hf]
   exact blk_new W' _
  ·clear hdep
   have sz := blk_lt k1
   go_wp2_with fail
   obtain ⟨h0, h1, h2, h3, h4, h5, h6, h7, h8, h9, n7_8, n7_9, n8_9, d10, d11, d12⟩ := A.out
   have hf : ¬ f 12 = true := fun h => by rw [d12 h] at hfi; cases hfi
   refine HK.out _ _ ⟨_, _, _, _, _, _, _, _, _, _, rfl, h0, h1, h2, h3, h4, h5, h6, (fun h => by obtain ⟨g', f1, f2, f3⟩ := h7 h; exact ⟨g', f1, f2, ba f3 _⟩), (fun h => by obtain ⟨g', f1, f2, f3⟩ := h8 h; exact ⟨g', f1, f2, ba f3 _⟩), (fun _ => ⟨_, rfl, by omega, ?_⟩), n7_8, (fun he h1 h2 => by obtain ⟨g, e1, e2, e3⟩ := h7 h1; have := blk_lt e3; rw [e1] at he; cases he; omega), (fun he h1 h2 => by obtain ⟨g, e1, e2, e3⟩ := h8 h1; have := blk_lt e3; rw [e1] at he; cases he; omega), d10, d11, (fun _ => rfl), ba k0 _, ba k1 _, wa hb _⟩
   show (W'.alloc _).heap[_]? = some (Obj.cells (if f 12 = true then _ else _) 73 (0, 0))
   rw [if_neg hf]
   exact blk_new W' _
  ·obtain ⟨h0, h1, h2, h3, h4, h5, h6, h7, h8, h9, n7_8, n7_9, n8_9, d10, d11, d12⟩ := A.out
   have d0 := hdep { on := 7, ground := .data } (by simp) rfl
   obtain rfl := h2 (hdep { on := 2, ground := .data } (by simp) rfl)
   obtain ⟨g, rfl, e2, e3⟩ := h7 d0
   rw [if_neg (by rw [hfi]; decide)] at e3
   clear hdep h0 h1 h2 h3 h4 h5 h6 h7 h8 h9 n7_8 n7_9 n8_9 d10 d11 d12
   have D0 := am d0
   clear d0
   obtain ⟨p0, p1, p2, p3, p4, p5⟩ := RegInv.cells6 e3
   obtain ⟨q0, q1, q2, q3, q4, q5⟩ := RegInv.free6 e3
   go_wp2_with fail
   obtain ⟨h0, h1, h2, h3, h4, h5, h6, h7, h8, h9, n7_8, n7_9, n8_9, d10, d11, d12⟩ := A.out
   exact HK.out _ (RegInv.set6 W' g _ _ _ _ _ _) ⟨_, _, _, _, _, _, _, _, _, _, rfl, h0, h1, (fun _ => rfl), h3, h4, h5, h6, (fun _ => ⟨g, rfl, e2, RegInv.set6_at e3⟩), (fun h => by obtain ⟨g', f1, f2, f3⟩ := h8 h; exact ⟨g', f1, f2, RegInv.set6_far f3 (fun e => n7_8 (by rw [f1, e]) D0.out h)⟩), (fun h => by obtain ⟨g', f1, f2, f3⟩ := h9 h; exact ⟨g', f1, f2, RegInv.set6_far f3 (fun e => n7_9 (by rw [f1, e]) D0.out h)⟩), n7_8, n7_9, n8_9, (fun _ => D0.out), d11, d12, RegInv.set6_far k0 (by omega), RegInv.set6_far k1 (by omega), RegInv.set6_below hb (by omega)⟩
  ·obtain ⟨h0, h1, h2, h3, h4, h5, h6, h7, h8, h9, n7_8, n7_9, n8_9, d10, d11, d12⟩ := A.out
   have d0 := hdep { on := 8, ground := .data } (by simp) rfl
   obtain rfl := h4 (hdep { on := 4, ground := .data } (by simp) rfl)
   obtain ⟨g, rfl, e2, e3⟩ := h8 d0
   rw [if_neg (by rw [hfi]; decide)] at e3
   clear hdep h0 h1 h2 h3 h4 h5 h6 h7 h8 h9 n7_8 n7_9 n8_9 d10 d11 d12
   have D0 := am d0
   clear d0
   obtain ⟨p0, p1, p2, p3, p4, p5⟩ := RegInv.cells6 e3
   obtain ⟨q0, q1, q2, q3, q4, q5⟩ := RegInv.free6 e3
   go_wp2_with fail
   obtain ⟨h0, h1, h2, h3, h4, h5, h6, h7, h8, h9, n7_8, n7_9, n8_9, d10, d11, d12⟩ := A.out
   exact HK.out _ (RegInv.set6 W' g _ _ _ _ _ _) ⟨_, _, _, _, _, _, _, _, _, _, rfl, h0, h1, h2, h3, (fun _ => rfl), h5, h6, (fun h => by obtain ⟨g', f1, f2, f3⟩ := h7 h; exact ⟨g', f1, f2, RegInv.set6_far f3 (fun e => n7_8 (by rw [f1, e]) h D0.out)⟩), (fun _ => ⟨g, rfl, e2, RegInv.set6_at e3⟩), (fun h => by obtain ⟨g', f1, f2, f3⟩ := h9 h; exact ⟨g', f1, f2, RegInv.set6_far f3 (fun e => n8_9 (by rw [f1, e]) D0.out h)⟩), n7_8, n7_9, n8_9, d10, (fun _ => D0.out), d12, RegInv.set6_far k0 (by omega), RegInv.set6_far k1 (by omega), RegInv.set6_below hb (by omega)⟩
  ·obtain ⟨h0, h1, h2, h3, h4, h5, h6, h7, h8, h9, n7_8, n7_9, n8_9, d10, d11, d12⟩ := A.out
   have d0 := hdep { on := 9, ground := .data } (by simp) rfl
   obtain rfl := h6 (hdep { on := 6, ground := .data } (by simp) rfl)
   obtain ⟨g, rfl, e2, e3⟩ := h9 d0
   rw [if_neg (by rw [hfi]; decide)] at e3
   clear hdep h0 h1 h2 h3 h4 h5 h6 h7 h8 h9 n7_8 n7_9 n8_9 d10 d11 d12
   have D0 := am d0
   clear d0
   obtain ⟨p0, p1, p2, p3, p4, p5⟩ := RegInv.cells6 e3
   obtain ⟨q0, q1, q2, q3, q4, q5⟩ := RegInv.free6 e3
   go_wp2_with fail
   obtain ⟨h0, h1, h2, h3, h4, h5, h6, h7, h8, h9, n7_8, n7_9, n8_9, d10, d11, d12⟩ := A.out
   exact HK.out _ (RegInv.set6 W' g _ _ _ _ _ _) ⟨_, _, _, _, _, _, _, _, _, _, rfl, h0, h1, h2, h3, h4, h5, (fun _ => rfl), (fun h => by obtain ⟨g', f1, f2, f3⟩ := h7 h; exact ⟨g', f1, f2, RegInv.set6_far f3 (fun e => n7_9 (by rw [f1, e]) h D0.out)⟩), (fun h => by obtain ⟨g', f1, f2, f3⟩ := h8 h; exact ⟨g', f1, f2, RegInv.set6_far f3 (fun e => n8_9 (by rw [f1, e]) h D0.out)⟩), (fun _ => ⟨g, rfl, e2, RegInv.set6_at e3⟩), n7_8, n7_9, n8_9, d10, d11, (fun _ => D0.out), RegInv.set6_far k0 (by omega), RegInv.set6_far k1 (by omega), RegInv.set6_below hb (by omega)⟩
  simp at ho
 case hend =>
  clear K0 K1 HB
  intro f a W' hI hall
  obtain ⟨s19, s20, s21, s22, s23, s24, s25, s7, s8, s9, rfl, h0, h1, h2, h3, h4, h5, h6, h7, h8, h9, n7_8, n7_9, n8_9, d10, d11, d12, k0, k1, hb⟩ := hI
  obtain ⟨g7, rfl, l7, b7⟩ := h7 (hall 7 (by decide))
  rw [if_pos (hall 10 (by decide))] at b7
  obtain ⟨g8, rfl, l8, b8⟩ := h8 (hall 8 (by decide))
  rw [if_pos (hall 11 (by decide))] at b8
  obtain ⟨g9, rfl, l9, b9⟩ := h9 (hall 9 (by decide))
  rw [if_pos (hall 12 (by decide))] at b9
  have ne7_8 : g7 ≠ g8 := fun e => n7_8 (by rw [e]) (hall 7 (by decide)) (hall 8 (by decide))
  have ne7_9 : g7 ≠ g9 := fun e => n7_9 (by rw [e]) (hall 7 (by decide)) (hall 9 (by decide))
  have ne8_9 : g8 ≠ g9 := fun e => n8_9 (by rw [e]) (hall 8 (by decide)) (hall 9 (by decide))
  obtain rfl := h0 (hall 0 (by decide))
  obtain rfl := h1 (hall 1 (by decide))
  obtain rfl := h2 (hall 2 (by decide))
  obtain rfl := h3 (hall 3 (by decide))
  obtain rfl := h4 (hall 4 (by decide))
  obtain rfl := h5 (hall 5 (by decide))
  obtain rfl := h6 (hall 6 (by decide))
  clear h0 h1 h2 h3 h4 h5 h6 h7 h8 h9 n7_8 n7_9 n8_9 d10 d11 d12 hall
  dsimp only
  have NE7_8 := am ne7_8
  have NE7_9 := am ne7_9
  have NE8_9 := am ne8_9
  have B7 := am b7
  have B8 := am b8
  have B9 := am b9
  have K0 := am k0
  have K1 := am k1
  have HB := am hb
  clear hb b7 b8 b9 k0 k1 ne7_8 ne7_9 ne8_9
  obtain ⟨p0, p1, p2, p3, p4, p5⟩ := RegInv.cells6 B8.out
  obtain ⟨s0, s1, s2, s3, s4, s5⟩ := RegInv.cells6 B9.out
  have HM0 := am (show ∀ W : World, W.heap[g7]? = some (Obj.cells #[.int .i64 c0, .int .i64 c1, .int .i64 c2, .int .i64 c3, .int .i64 c4, .int .i64 c5] 73 (0, 0)) → Calls Try.prog 58 #[.int .i64 0, .pointer (some ⟨g7, 0, none⟩)] W fun e w' => e = .returned (.bool b0) ∧ ∃ n, w' = W.drewN n from fun W hW => by rw [HBB.out.1]; exact meet_calls 0 (by decide) g7 _ _ _ _ _ _ W hW)
  have HM1 := am (show ∀ W : World, W.heap[g7]? = some (Obj.cells #[.int .i64 c0, .int .i64 c1, .int .i64 c2, .int .i64 c3, .int .i64 c4, .int .i64 c5] 73 (0, 0)) → Calls Try.prog 58 #[.int .i64 1, .pointer (some ⟨g7, 0, none⟩)] W fun e w' => e = .returned (.bool b1) ∧ ∃ n, w' = W.drewN n from fun W hW => by rw [HBB.out.2.1]; exact meet_calls 1 (by decide) g7 _ _ _ _ _ _ W hW)
  have HM2 := am (show ∀ W : World, W.heap[g7]? = some (Obj.cells #[.int .i64 c0, .int .i64 c1, .int .i64 c2, .int .i64 c3, .int .i64 c4, .int .i64 c5] 73 (0, 0)) → Calls Try.prog 58 #[.int .i64 2, .pointer (some ⟨g7, 0, none⟩)] W fun e w' => e = .returned (.bool b2) ∧ ∃ n, w' = W.drewN n from fun W hW => by rw [HBB.out.2.2]; exact meet_calls 2 (by decide) g7 _ _ _ _ _ _ W hW)
  clear HBB
  go_wp2
  refine wp_loop_rounds 9 ?_
  rw [rounds_succ]
  cases b0 with
  | false =>
   cases b1 with
   | false =>
    cases b2 with
    | false =>
     go_wp2_with (go_at_call 58; refine (HM1.out _ (by repeat (first | exact B7.out | apply bN | apply bd))).mono ?_; rintro e w' ⟨rfl, nd, rfl⟩)
     rw [rounds_succ]
     go_wp2_with (go_at_call 58; refine (HM2.out _ (by repeat (first | exact B7.out | apply bN | apply bd))).mono ?_; rintro e w' ⟨rfl, nd, rfl⟩)
     rw [rounds_succ]
     go_wp2_with (go_at_call 58; refine (HM0.out _ (by repeat (first | exact B7.out | apply bN | apply bd))).mono ?_; rintro e w' ⟨rfl, nd, rfl⟩)
     rw [rounds_succ]
     go_wp2
     go_ret2
     obtain ⟨rfl, rfl⟩ := H.out
     exact ⟨rfl, (by repeat (first | exact HB.out | apply wa | apply wN | apply wd))⟩
    | true =>
     go_wp2_with (go_at_call 58; refine (HM1.out _ (by repeat (first | exact B7.out | apply bN | apply bd))).mono ?_; rintro e w' ⟨rfl, nd, rfl⟩)
     rw [rounds_succ]
     go_wp2_with fail
     refine (HM2.out _ (by repeat (first | exact B7.out | apply bN | apply bd))).mono ?_
     rintro e w' ⟨rfl, nd, rfl⟩
     go_wp2_with (go_at_call 58; refine (HM0.out _ (by repeat (first | exact B7.out | apply bN | apply bd))).mono ?_; rintro e w' ⟨rfl, nd, rfl⟩)
     rw [rounds_succ]
     go_wp2_with (go_at_call 58; refine (HM0.out _ (by repeat (first | exact B7.out | apply bN | apply bd))).mono ?_; rintro e w' ⟨rfl, nd, rfl⟩)
     rw [rounds_succ]
     go_wp2
     go_ret2
     obtain ⟨rfl, rfl⟩ := H.out
     exact ⟨rfl, (by repeat (first | exact HB.out | apply wa | apply wN | apply wd))⟩
   | true =>
    cases b2 with
    | false =>
     go_wp2_with fail
     refine (HM1.out _ (by repeat (first | exact B7.out | apply bN | apply bd))).mono ?_
     rintro e w' ⟨rfl, nd, rfl⟩
     go_wp2_with (go_at_call 58; refine (HM2.out _ (by repeat (first | exact B7.out | apply bN | apply bd))).mono ?_; rintro e w' ⟨rfl, nd, rfl⟩)
     rw [rounds_succ]
     go_wp2_with (go_at_call 58; refine (HM2.out _ (by repeat (first | exact B7.out | apply bN | apply bd))).mono ?_; rintro e w' ⟨rfl, nd, rfl⟩)
     rw [rounds_succ]
     go_wp2_with (go_at_call 58; refine (HM0.out _ (by repeat (first | exact B7.out | apply bN | apply bd))).mono ?_; rintro e w' ⟨rfl, nd, rfl⟩)
     rw [rounds_succ]
     go_wp2
     go_ret2
     obtain ⟨rfl, rfl⟩ := H.out
     exact ⟨rfl, (by repeat (first | exact HB.out | apply wa | apply wN | apply wd))⟩
    | true =>
     go_wp2_with fail
     refine (HM1.out _ (by repeat (first | exact B7.out | apply bN | apply bd))).mono ?_
     rintro e w' ⟨rfl, nd, rfl⟩
     go_wp2_with (go_at_call 58; refine (HM2.out _ (by repeat (first | exact B7.out | apply bN | apply bd))).mono ?_; rintro e w' ⟨rfl, nd, rfl⟩)
     cases q01 with
     | true =>
      go_quiet (fail)
      go_wp2
      go_ret2
      obtain ⟨rfl, rfl⟩ := H.out
      exact ⟨rfl, (by repeat (first | exact HB.out | apply wa | apply wN | apply wd))⟩
     | false =>
      go_quiet (fail)
      go_wp2
      cases q02 with
      | true =>
       go_quiet (fail)
       go_wp2
       go_ret2
       obtain ⟨rfl, rfl⟩ := H.out
       exact ⟨rfl, (by repeat (first | exact HB.out | apply wa | apply wN | apply wd))⟩
      | false =>
       go_quiet (fail)
       go_wp2
       rw [rounds_succ]
       go_wp2_with fail
       refine (HM2.out _ (by repeat (first | exact B7.out | apply bN | apply bd))).mono ?_
       rintro e w' ⟨rfl, nd, rfl⟩
       go_wp2_with (go_at_call 58; refine (HM0.out _ (by repeat (first | exact B7.out | apply bN | apply bd))).mono ?_; rintro e w' ⟨rfl, nd, rfl⟩)
       rw [rounds_succ]
       go_wp2_with (go_at_call 58; refine (HM0.out _ (by repeat (first | exact B7.out | apply bN | apply bd))).mono ?_; rintro e w' ⟨rfl, nd, rfl⟩)
       rw [rounds_succ]
       go_wp2
       go_ret2
       obtain ⟨rfl, rfl⟩ := H.out
       exact ⟨rfl, (by repeat (first | exact HB.out | apply wa | apply wN | apply wd))⟩
  | true =>
   cases b1 with
   | false =>
    cases b2 with
    | false =>
     go_wp2_with (go_at_call 58; refine (HM1.out _ (by repeat (first | exact B7.out | apply bN | apply bd))).mono ?_; rintro e w' ⟨rfl, nd, rfl⟩)
     rw [rounds_succ]
     go_wp2_with (go_at_call 58; refine (HM2.out _ (by repeat (first | exact B7.out | apply bN | apply bd))).mono ?_; rintro e w' ⟨rfl, nd, rfl⟩)
     rw [rounds_succ]
     go_wp2_with fail
     refine (HM0.out _ (by repeat (first | exact B7.out | apply bN | apply bd))).mono ?_
     rintro e w' ⟨rfl, nd, rfl⟩
     go_wp2_with (go_at_call 58; refine (HM1.out _ (by repeat (first | exact B7.out | apply bN | apply bd))).mono ?_; rintro e w' ⟨rfl, nd, rfl⟩)
     rw [rounds_succ]
     go_wp2
     go_ret2
     obtain ⟨rfl, rfl⟩ := H.out
     exact ⟨rfl, (by repeat (first | exact HB.out | apply wa | apply wN | apply wd))⟩
    | true =>
     go_wp2_with (go_at_call 58; refine (HM1.out _ (by repeat (first | exact B7.out | apply bN | apply bd))).mono ?_; rintro e w' ⟨rfl, nd, rfl⟩)
     rw [rounds_succ]
     go_wp2_with fail
     refine (HM2.out _ (by repeat (first | exact B7.out | apply bN | apply bd))).mono ?_
     rintro e w' ⟨rfl, nd, rfl⟩
     go_wp2_with (go_at_call 58; refine (HM0.out _ (by repeat (first | exact B7.out | apply bN | apply bd))).mono ?_; rintro e w' ⟨rfl, nd, rfl⟩)
     cases q11 with
     | true =>
      go_quiet (fail)
      go_wp2
      go_ret2
      obtain ⟨rfl, rfl⟩ := H.out
      exact ⟨rfl, (by repeat (first | exact HB.out | apply wa | apply wN | apply wd))⟩
     | false =>
      go_quiet (fail)
      go_wp2
      cases q12 with
      | true =>
       go_quiet (fail)
       go_wp2
       go_ret2
       obtain ⟨rfl, rfl⟩ := H.out
       exact ⟨rfl, (by repeat (first | exact HB.out | apply wa | apply wN | apply wd))⟩
      | false =>
       go_quiet (fail)
       go_wp2
       rw [rounds_succ]
       go_wp2_with fail
       refine (HM0.out _ (by repeat (first | exact B7.out | apply bN | apply bd))).mono ?_
       rintro e w' ⟨rfl, nd, rfl⟩
       go_wp2_with (go_at_call 58; refine (HM1.out _ (by repeat (first | exact B7.out | apply bN | apply bd))).mono ?_; rintro e w' ⟨rfl, nd, rfl⟩)
       rw [rounds_succ]
       go_wp2
       go_ret2
       obtain ⟨rfl, rfl⟩ := H.out
       exact ⟨rfl, (by repeat (first | exact HB.out | apply wa | apply wN | apply wd))⟩
   | true =>
    cases b2 with
    | false =>
     go_wp2_with fail
     refine (HM1.out _ (by repeat (first | exact B7.out | apply bN | apply bd))).mono ?_
     rintro e w' ⟨rfl, nd, rfl⟩
     go_wp2_with (go_at_call 58; refine (HM2.out _ (by repeat (first | exact B7.out | apply bN | apply bd))).mono ?_; rintro e w' ⟨rfl, nd, rfl⟩)
     rw [rounds_succ]
     go_wp2_with (go_at_call 58; refine (HM2.out _ (by repeat (first | exact B7.out | apply bN | apply bd))).mono ?_; rintro e w' ⟨rfl, nd, rfl⟩)
     rw [rounds_succ]
     go_wp2_with fail
     refine (HM0.out _ (by repeat (first | exact B7.out | apply bN | apply bd))).mono ?_
     rintro e w' ⟨rfl, nd, rfl⟩
     go_wp2_with (go_at_call 58; refine (HM1.out _ (by repeat (first | exact B7.out | apply bN | apply bd))).mono ?_; rintro e w' ⟨rfl, nd, rfl⟩)
     cases q21 with
     | true =>
      go_quiet (fail)
      go_wp2
      go_ret2
      obtain ⟨rfl, rfl⟩ := H.out
      exact ⟨rfl, (by repeat (first | exact HB.out | apply wa | apply wN | apply wd))⟩
     | false =>
      go_quiet (fail)
      go_wp2
      cases q22 with
      | true =>
       go_quiet (fail)
       go_wp2
       go_ret2
       obtain ⟨rfl, rfl⟩ := H.out
       exact ⟨rfl, (by repeat (first | exact HB.out | apply wa | apply wN | apply wd))⟩
      | false =>
       go_quiet (fail)
       go_wp2
       rw [rounds_succ]
       go_wp2
       go_ret2
       obtain ⟨rfl, rfl⟩ := H.out
       exact ⟨rfl, (by repeat (first | exact HB.out | apply wa | apply wN | apply wd))⟩
    | true =>
     go_wp2_with fail
     refine (HM1.out _ (by repeat (first | exact B7.out | apply bN | apply bd))).mono ?_
     rintro e w' ⟨rfl, nd, rfl⟩
     go_wp2_with (go_at_call 58; refine (HM2.out _ (by repeat (first | exact B7.out | apply bN | apply bd))).mono ?_; rintro e w' ⟨rfl, nd, rfl⟩)
     cases q01 with
     | true =>
      go_quiet (fail)
      go_wp2
      go_ret2
      obtain ⟨rfl, rfl⟩ := H.out
      exact ⟨rfl, (by repeat (first | exact HB.out | apply wa | apply wN | apply wd))⟩
     | false =>
      go_quiet (fail)
      go_wp2
      cases q02 with
      | true =>
       go_quiet (fail)
       go_wp2
       go_ret2
       obtain ⟨rfl, rfl⟩ := H.out
       exact ⟨rfl, (by repeat (first | exact HB.out | apply wa | apply wN | apply wd))⟩
      | false =>
       go_quiet (fail)
       go_wp2
       rw [rounds_succ]
       go_wp2_with fail
       refine (HM2.out _ (by repeat (first | exact B7.out | apply bN | apply bd))).mono ?_
       rintro e w' ⟨rfl, nd, rfl⟩
       go_wp2_with (go_at_call 58; refine (HM0.out _ (by repeat (first | exact B7.out | apply bN | apply bd))).mono ?_; rintro e w' ⟨rfl, nd, rfl⟩)
       cases q11 with
       | true =>
        go_quiet (fail)
        go_wp2
        go_ret2
        obtain ⟨rfl, rfl⟩ := H.out
        exact ⟨rfl, (by repeat (first | exact HB.out | apply wa | apply wN | apply wd))⟩
       | false =>
        go_quiet (fail)
        go_wp2
        cases q12 with
        | true =>
         go_quiet (fail)
         go_wp2
         go_ret2
         obtain ⟨rfl, rfl⟩ := H.out
         exact ⟨rfl, (by repeat (first | exact HB.out | apply wa | apply wN | apply wd))⟩
        | false =>
         go_quiet (fail)
         go_wp2
         rw [rounds_succ]
         go_wp2_with fail
         refine (HM0.out _ (by repeat (first | exact B7.out | apply bN | apply bd))).mono ?_
         rintro e w' ⟨rfl, nd, rfl⟩
         go_wp2_with (go_at_call 58; refine (HM1.out _ (by repeat (first | exact B7.out | apply bN | apply bd))).mono ?_; rintro e w' ⟨rfl, nd, rfl⟩)
         cases q21 with
         | true =>
          go_quiet (fail)
          go_wp2
          go_ret2
          obtain ⟨rfl, rfl⟩ := H.out
          exact ⟨rfl, (by repeat (first | exact HB.out | apply wa | apply wN | apply wd))⟩
         | false =>
          go_quiet (fail)
          go_wp2
          cases q22 with
          | true =>
           go_quiet (fail)
           go_wp2
           go_ret2
           obtain ⟨rfl, rfl⟩ := H.out
           exact ⟨rfl, (by repeat (first | exact HB.out | apply wa | apply wN | apply wd))⟩
          | false =>
           go_quiet (fail)
           go_wp2
           rw [rounds_succ]
           go_wp2
           go_ret2
           obtain ⟨rfl, rfl⟩ := H.out
           exact ⟨rfl, (by repeat (first | exact HB.out | apply wa | apply wN | apply wd))⟩
end

def box_many.f (k : Nat) (l0 : List (S25)) (l1 : List (S25)) : Option (Int) := if (l0.length : Int) > 256 then (some 7) else ((box_all.f k l1).bind fun t165 => (if t165 = 0 then ((box_all.f k l0).bind fun t166 => (some t166)) else (some t165)))
set_option maxHeartbeats 8000000 in
set_option maxRecDepth 100000 in
theorem box_many.calls (k : Nat) (A0 : Option Addr) (c0 : Nat) (l0 : List (S25)) (A1 : Option Addr) (c1 : Nat) (l1 : List (S25)) (r : Int) (w : World) (hr0 : Kd.C k25 w A0 l0.length l0) (hc0 : l0.length ≤ c0) (hr1 : Kd.C k25 w A1 l1.length l1) (hc1 : l1.length ≤ c1) (h : box_many.f k l0 l1 = some r) :
  Calls Try.prog 48 #[.slice A0 l0.length c0, .slice A1 l1.length c1] w fun e w' => e = .returned (.int .i64 r) ∧ Below w.heap.size w w' := by
 have HR0 := am hr0
 have HC0 := am hc0
 clear hr0 hc0
 have HR1 := am hr1
 have HC1 := am hc1
 clear hr1 hc1
 have HB := am (Below.refl w.heap.size w)
 have H : (if (l0.length : Int) > 256 then (some 7) else ((box_all.f k l1).bind fun t165 => (if t165 = 0 then ((box_all.f k l0).bind fun t166 => (some t166)) else (some t165)))) = some r := h
 clear h
 by_cases c3 : (l0.length : Int) > 256
 ·rw [if_pos c3] at H
  have c3b0 : decide (256 < (l0.length : Int)) = true := decide_eq_true c3
  have c3b1 : decide (256 < l0.length) = true := decide_eq_true (by omega)
  clear c3
  obtain rfl := Option.some.inj H
  go_enter Try.func48, Try.ntmps48
  go_wp2
  go_ret
  exact ⟨sqE, fW HB.out⟩
 ·rw [if_neg c3] at H
  have c3b0 : decide (256 < (l0.length : Int)) = false := decide_eq_false c3
  have c3b1 : decide (256 < l0.length) = false := decide_eq_false (by omega)
  clear c3
  replace H := Option.bind_eq_some_iff.mp H
  obtain ⟨t165, A40, H⟩ := H
  replace H : (if t165 = 0 then ((box_all.f k l0).bind fun t166 => (some t166)) else (some t165)) = some r := H
  have A4 := am A40
  clear A40
  by_cases c5 : t165 = 0
  ·rw [if_pos c5] at H
   have c5b0 : (t165 == 0) = true := beq_iff_eq.mpr c5
   have c5b1 : (t165 != 0) = false := bne_eq_false_iff_eq.mpr c5
   clear c5
   replace H := Option.bind_eq_some_iff.mp H
   obtain ⟨t166, A60, H⟩ := H
   replace H : (some t166) = some r := H
   have A6 := am A60
   clear A60
   obtain rfl := Option.some.inj H
   go_enter Try.func48, Try.ntmps48
   go_wp2_with (first | ((with_reducible refine gate_callee (f := 57) rfl ?_); refine goesL_ (some 10) rfl rfl Try.func57 (by kernel_rfl) rfl #[.slice A1 l1.length c1] rfl (by (try simp only [pml]); first | done | rfl | (simp only [pdt]; rfl)) ?_; (with_reducible refine (box_all.calls k _ _ l1 t165 _ ?side1 ?side2 A4.out).mono ?_); (case side1 => repeat (first | exact HR1.out | (with_reducible refine Kd.C_alloc ?_ _) | (with_reducible refine Kd.C_drewN ?_ _) | (with_reducible refine Kd.C_drew ?_))); (case side2 => exact HC1.out); rintro e w7 ⟨rfl, hb⟩; refine ⟨_, rfl, ?_⟩; replace HB := bS HB hb; (try clear hb); (try clear hb2); (try clear hk); (try clear hi)) | ((with_reducible refine gate_callee (f := 57) rfl ?_); refine goesL_ (some 15) rfl rfl Try.func57 (by kernel_rfl) rfl #[.slice A0 l0.length c0] rfl (by (try simp only [pml]); first | done | rfl | (simp only [pdt]; rfl)) ?_; (with_reducible refine (box_all.calls k _ _ l0 t166 _ ?side1 ?side2 A6.out).mono ?_); (case side1 => repeat (first | exact (Kd.C_below HR0.out HB.out) | (with_reducible refine Kd.C_alloc ?_ _) | (with_reducible refine Kd.C_drewN ?_ _) | (with_reducible refine Kd.C_drew ?_))); (case side2 => exact HC0.out); rintro e w8 ⟨rfl, hb⟩; refine ⟨_, rfl, ?_⟩; replace HB := bS HB hb; (try clear hb); (try clear hb2); (try clear hk); (try clear hi)))
   go_ret
   exact ⟨sqE, fW HB.out⟩
  ·rw [if_neg c5] at H
   have c5b0 : (t165 == 0) = false := beq_eq_false_iff_ne.mpr c5
   have c5b1 : (t165 != 0) = true := bne_iff_ne.mpr c5
   obtain rfl := Option.some.inj H
   go_enter Try.func48, Try.ntmps48
   go_wp2_with (first | ((with_reducible refine gate_callee (f := 57) rfl ?_); refine goesL_ (some 10) rfl rfl Try.func57 (by kernel_rfl) rfl #[.slice A1 l1.length c1] rfl (by (try simp only [pml]); first | done | rfl | (simp only [pdt]; rfl)) ?_; (with_reducible refine (box_all.calls k _ _ l1 t165 _ ?side1 ?side2 A4.out).mono ?_); (case side1 => repeat (first | exact HR1.out | (with_reducible refine Kd.C_alloc ?_ _) | (with_reducible refine Kd.C_drewN ?_ _) | (with_reducible refine Kd.C_drew ?_))); (case side2 => exact HC1.out); rintro e w9 ⟨rfl, hb⟩; refine ⟨_, rfl, ?_⟩; replace HB := bS HB hb; (try clear hb); (try clear hb2); (try clear hk); (try clear hi)))
   go_ret
   exact ⟨sqE, fW HB.out⟩

def sortI (l : List Int) : List Int := l.mergeSort fun x y => decide (x ≤ y)
theorem sortI_length (l : List Int) : (sortI l).length = l.length := List.length_mergeSort l
def ins (a : Int) : List Int → List Int
 | [] => [a]
 | b :: r => if a ≤ b then a :: b :: r else b :: ins a r
def insL : List Int → List Int
 | [] => []
 | a :: r => ins a (insL r)
theorem ins_perm (a : Int) : ∀ l, (ins a l).Perm (a :: l)
 | [] => List.Perm.refl _
 | b :: r => by
  unfold ins
  split
  ·exact List.Perm.refl _
  exact ((ins_perm a r).cons b).trans (List.Perm.swap a b r)
theorem insL_perm : ∀ l, (insL l).Perm l
 | [] => List.Perm.refl _
 | a :: r => (ins_perm a _).trans ((insL_perm r).cons a)
theorem ins_sorted (a : Int) : ∀ l : List Int, l.Pairwise (fun x y => x ≤ y) → (ins a l).Pairwise (fun x y => x ≤ y)
 | [], _ => by simp [ins]
 | b :: r, h => by
  have hb := List.pairwise_cons.1 h
  unfold ins
  split
  case isTrue hab =>
   refine List.pairwise_cons.2 ⟨fun x hx => ?_, h⟩
   rcases List.mem_cons.1 hx with rfl | hx
   ·exact hab
   exact Int.le_trans hab (hb.1 x hx)
  case isFalse hab =>
   refine List.pairwise_cons.2 ⟨fun x hx => ?_, ins_sorted a r hb.2⟩
   rcases List.mem_cons.1 ((ins_perm a r).mem_iff.1 hx) with rfl | hx
   ·omega
   exact hb.1 x hx
theorem insL_sorted : ∀ l : List Int, (insL l).Pairwise (fun x y => x ≤ y)
 | [] => List.Pairwise.nil
 | a :: r => ins_sorted a _ (insL_sorted r)
theorem insL_eq (l : List Int) : insL l = sortI l := by
 refine List.Perm.eq_of_pairwise (le := fun x y => x ≤ y) (fun a b _ _ h1 h2 => Int.le_antisymm h1 h2) (insL_sorted l) ?_ ((insL_perm l).trans (List.mergeSort_perm l _).symm)
 have h := List.pairwise_mergeSort (le := fun x y : Int => decide (x ≤ y)) (fun a b c h1 h2 => by simp at h1 h2 ⊢; omega) (fun a b => by simp; omega) l
 exact h.imp (fun {a b} h => by simpa using h)
def slices_Sort_int_int.f (l0 : List Int) : Option (List Int) := if l0.length < 1099511627776 then some (insL l0) else none
set_option maxHeartbeats 1000000 in
set_option maxRecDepth 100000 in
theorem slices_Sort_int_int.calls (P0_ : Nat → Prop) (u9000_ : Value) (l0 : List Int) (r : List Int) (w0 w : World) (hB : Below w0.heap.size w0 w) (ho0 : Kd.R (Kd.int .i64) 3 w w0.heap.size P0_ u9000_ l0) (h : slices_Sort_int_int.f l0 = some r) :
  Calls Try.prog 67 #[u9000_] w fun e w' => e = .returned (.tuple #[]) ∧ Kd.R (Kd.int .i64) 3 w' w0.heap.size (fun k_ => (P0_ k_ ∨ w.heap.size ≤ k_)) u9000_ r ∧ Below w0.heap.size w0 w' ∧ Kept w w' (fun k_ => P0_ k_) := by
 unfold slices_Sort_int_int.f at h
 split at h
 case isFalse => exact absurd h (by simp)
 case isTrue hl =>
 rw [insL_eq] at h
 obtain rfl := Option.some.inj h
 clear h
 rcases List.eq_nil_or_concat l0 with rfl | ⟨l', x', hx⟩
 ·obtain ⟨A1, c1, rfl⟩ := Kd.R_slice ho0
  have hcon := Go.Proofs.AnyM.slices_Sort_int_none (P := Try.prog) Lay.sortI A1 c1 w
  refine Calls.mono hcon ?_
  rintro e w' ⟨rfl, rfl⟩
  have e0 : sortI ([] : List Int) = [] := List.eq_nil_of_length_eq_zero (sortI_length [])
  rw [e0]
  exact ⟨rfl, Kd.R_mono ho0 (fun _ hk => .inl hk), hB, Kept.refl _ _⟩
 ·have hne : l0 ≠ [] := by rw [hx]; simp
  obtain ⟨g, cap, rfl, hH, hg, hbg, hP⟩ := SortRow.holds_of_R (RowOne.flatI .i64) ho0 hne
  have hcon := Go.Proofs.AnyM.slices_Sort_int (P := Try.prog) Lay.sortI g 0 cap l0 w (RowOne.holds_one _ hH) hg (by omega)
  refine Calls.mono hcon ?_
  rintro e w' ⟨rfl, n, os, rfl⟩
  have hlen : (sortI l0).length = l0.length := sortI_length l0
  have hR := SortRow.R_of_sorted (RowOne.flatI .i64) (by decide) ho0 (by simp) hlen hne n os
  rw [RowOne.putRow_one]
  exact ⟨rfl, Kd.R_mono hR (fun _ hk => .inl hk), SortRow.below_sorted (d := Kd.int .i64) hB g n _ os hbg, SortRow.kept_sorted (d := Kd.int .i64) w g n _ os _ hP⟩

theorem compactUpTo_length (l : List Int) : (Go.Lib.compactUpTo l.toArray l.length).length ≤ l.length := by
 unfold Go.Lib.compactUpTo
 rw [List.length_map]
 exact Nat.le_trans (List.length_filter_le _ _) (by simp)
theorem compact_nil (A : Option Addr) (c : Nat) (w : World) : Calls Try.prog 68 #[.slice A 0 c] w fun e w' => e = .returned (.slice A 0 c) ∧ w' = w := by
 go_enter Try.func68, Try.ntmps68
 go_wp2
 go_ret
 exact ⟨rfl, rfl⟩
def slices_Compact_int_int.f (l0 : List Int) : Option (List Int) := if l0.length < 1099511627776 then some (Go.Lib.compactUpTo l0.toArray l0.length) else none
set_option maxHeartbeats 1000000 in
set_option maxRecDepth 100000 in
theorem slices_Compact_int_int.calls (P0_ : Nat → Prop) (u9000_ : Value) (l0 : List Int) (r : List Int) (w0 w : World) (hB : Below w0.heap.size w0 w) (ho0 : Kd.R (Kd.int .i64) 3 w w0.heap.size P0_ u9000_ l0) (h : slices_Compact_int_int.f l0 = some r) :
  Calls Try.prog 68 #[u9000_] w fun e w' => ∃ v0_ : Value, e = .returned v0_ ∧ Kd.R (Kd.int .i64) 3 w' w0.heap.size (fun k_ => (P0_ k_ ∨ w.heap.size ≤ k_)) v0_ r ∧ Below w0.heap.size w0 w' ∧ Kept w w' (fun k_ => P0_ k_) := by
 unfold slices_Compact_int_int.f at h
 split at h
 case isFalse => exact absurd h (by simp)
 case isTrue hl =>
 obtain rfl := Option.some.inj h
 clear h
 rcases List.eq_nil_or_concat l0 with rfl | ⟨l', x', hx⟩
 ·obtain ⟨A1, c1, rfl⟩ := Kd.R_slice ho0
  refine Calls.mono (compact_nil A1 c1 w) ?_
  rintro e w' ⟨rfl, rfl⟩
  exact ⟨_, rfl, Kd.R_mono ho0 (fun _ hk => .inl hk), hB, Kept.refl _ _⟩
 ·have hne : l0 ≠ [] := by rw [hx]; simp
  obtain ⟨g, cap, rfl, hH, hg, hbg, hP⟩ := SortRow.holds_of_R (RowOne.flatI .i64) ho0 hne
  have hcap : l0.length ≤ cap ∧ cap ≤ 9223372036854775807 := by
   obtain ⟨_, inner, ho, _⟩ := ho0
   rcases ho.2 with ⟨e, _⟩ | ⟨g', cap', cur, e, _, _, q1, q2, _⟩
   ·cases e
   cases e; exact ⟨q1, by unfold maxLen at q2; omega⟩
  have hcon := Go.Proofs.AnyE.slices_Compact (P := Try.prog) Lay.compI (Value.int .i64) (fun _ => rfl) (EqlAt.intD _ _ _) (NeqAt.intD _ _ _) 0 Try.zeroValue3 g 0 cap l0.toArray w (RowOne.holds_one _ hH) (by simp; omega) (by simpa using hcap.1)
  refine Calls.mono hcon ?_
  rintro e w' ⟨rfl, q, rfl⟩
  have hle := compactUpTo_length l0
  have e1 : l0.toArray.size = l0.length := by simp
  rw [e1] at *
  have hlen : (Go.Lib.compactUpTo l0.toArray l0.length ++ List.replicate (l0.length - (Go.Lib.compactUpTo l0.toArray l0.length).length) 0).length = l0.length := by
   rw [List.length_append, List.length_replicate]; omega
  have hR := SortRow.R_of_sorted (RowOne.flatI .i64) (by decide) ho0 rfl hlen hne q #[]
  have ew : Go.Proofs.sortWorldK (fun x => [Value.int .i64 x]) (Kd.int .i64).sz w g 0 q (Go.Lib.compactUpTo l0.toArray l0.length ++ List.replicate (l0.length - (Go.Lib.compactUpTo l0.toArray l0.length).length) 0).toArray #[] = Go.Sort.putRow (Value.int .i64) (Go.Sort.ahead w q) g 0 (Go.Lib.compactUpTo l0.toArray l0.length ++ List.replicate (l0.length - (Go.Lib.compactUpTo l0.toArray l0.length).length) 0).toArray := by
   rw [RowOne.putRow_one]
   unfold Go.Proofs.sortWorldK
   exact Go.Sort.grow_empty _
  have hb := SortRow.below_sorted (d := Kd.int .i64) (enc := fun x => [Value.int .i64 x]) hB g q (Go.Lib.compactUpTo l0.toArray l0.length ++ List.replicate (l0.length - (Go.Lib.compactUpTo l0.toArray l0.length).length) 0).toArray #[] hbg
  have hk := SortRow.kept_sorted (d := Kd.int .i64) (enc := fun x => [Value.int .i64 x]) w g q (Go.Lib.compactUpTo l0.toArray l0.length ++ List.replicate (l0.length - (Go.Lib.compactUpTo l0.toArray l0.length).length) 0).toArray #[] P0_ hP
  rw [ew] at hR hb hk
  have hT := Kd.R_take (m := (Go.Lib.compactUpTo l0.toArray l0.length).length) hR (by rw [hlen]; exact hle)
  rw [List.take_left] at hT
  exact ⟨_, rfl, Kd.R_mono hT (fun _ hk => .inl hk), hb, hk⟩

end Go.Proofs.Ytmmdikhmlmoolaa.QA
