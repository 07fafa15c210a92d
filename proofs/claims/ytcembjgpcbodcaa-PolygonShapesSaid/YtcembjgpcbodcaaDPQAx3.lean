import Derived.Test.YtcembjgpcbodcaaDPQAx0
import Derived.Test.YtcembjgpcbodcaaDPQAx2
namespace Go.Proofs.Ytcembjgpcbodcaa.QA
open Go.RowKit Go.Proofs.YtcembjgpcbodcaaW.PrintWords Go.Proofs.YtcembjgpcbodcaaW.PrintLast Go.Proofs.YtcembjgpcbodcaaW.PrintMore
open Go.Proofs.YtcembjgpcbodcaaW.PrintWords renaming blk_drewN → bN, blk_drew → bd, blk_alloc → ba, below_alloc → wa, pw_below_drewN → wN, below_drew1 → wd, below_set → ws, blk_frozen → bf, blk_cell → bc, blk_below → bb, below_step → wt
open Aside0 renaming mk → am
attribute [local go_sem] max2_int min2_int max_two min_two max_three min_three max_four min_four
set_option linter.unusedVariables false
set_option linter.unusedSimpArgs false

def p_on.j0 : Nat → Bool → Option (Bool)
 | 0, _ => none
 | k + 1, x6 => some x6
def p_on.f (k : Nat) (a0_0 : Int) (a0_1 : Int) (a1_0 : Int) (a1_1 : Int) (a2_0 : Int) (a2_1 : Int) : Option (Bool) := (p_Orient.f a0_0 a0_1 a1_0 a1_1 a2_0 a2_1).bind fun t122 => (if t122 = 0 then (if (mn a0_0 a1_0) ≤ a2_0 then (if a2_0 ≤ (mx a0_0 a1_0) then (if (mn a0_1 a1_1) ≤ a2_1 then (p_on.j0 k (decide (a2_1 ≤ (mx a0_1 a1_1)))) else (p_on.j0 k false)) else (p_on.j0 k false)) else (p_on.j0 k false)) else (p_on.j0 k false))
theorem p_on.mono_l : ∀ k, (∀ y0, LeO (p_on.j0 k y0) (p_on.j0 (k + 1) y0))
 | 0 => fun _ r h => by simp [p_on.j0] at h
 | k + 1 => by
  have ih0 := p_on.mono_l k
  intro y0
  unfold p_on.j0
  repeat' first
  | (with_reducible exact ih0 _)
  | (with_reducible exact LeO.refl _)
  | (with_reducible exact LeO.none _)
  | (with_reducible refine LeO.ite ?_ ?_)
  | (with_reducible refine LeO.bind ?_ (fun _ => ?_))
  | exact ih0 _
  | exact LeO.none _
  | refine LeO.ite ?_ ?_
  | refine LeO.bind ?_ (fun _ => ?_)
theorem p_on.mono : ∀ a0 a1 a2 a3 a4 a5 k, LeO (p_on.f k a0 a1 a2 a3 a4 a5) (p_on.f (k + 1) a0 a1 a2 a3 a4 a5) := by
 intro a0 a1 a2 a3 a4 a5 k
 have ih0 := p_on.mono_l k
 unfold p_on.f
 repeat' first
   | (with_reducible exact ih0 _)
   | (with_reducible exact LeO.refl _)
   | (with_reducible exact LeO.none _)
   | (with_reducible refine LeO.ite ?_ ?_)
   | (with_reducible refine LeO.bind ?_ (fun _ => ?_))
   | exact ih0 _
   | exact LeO.none _
   | refine LeO.ite ?_ ?_
   | refine LeO.bind ?_ (fun _ => ?_)
set_option maxHeartbeats 8000000 in
set_option maxRecDepth 100000 in
theorem p_on.calls (k : Nat) (a0_0 : Int) (a0_1 : Int) (a1_0 : Int) (a1_1 : Int) (a2_0 : Int) (a2_1 : Int) (r : Bool) (w : World) (h : p_on.f k a0_0 a0_1 a1_0 a1_1 a2_0 a2_1 = some r) :
  Calls Try.prog 41 #[.agg #[.int .i64 a0_0, .int .i64 a0_1], .agg #[.int .i64 a1_0, .int .i64 a1_1], .agg #[.int .i64 a2_0, .int .i64 a2_1]] w fun e w' => e = .returned (.bool r) ∧ Below w.heap.size w w' := by
 have hu23 := Try.underlying23
 have HB := am (Below.refl w.heap.size w)
 have H : ((p_Orient.f a0_0 a0_1 a1_0 a1_1 a2_0 a2_1).bind fun t122 => (if t122 = 0 then (if (mn a0_0 a1_0) ≤ a2_0 then (if a2_0 ≤ (mx a0_0 a1_0) then (if (mn a0_1 a1_1) ≤ a2_1 then (p_on.j0 k (decide (a2_1 ≤ (mx a0_1 a1_1)))) else (p_on.j0 k false)) else (p_on.j0 k false)) else (p_on.j0 k false)) else (p_on.j0 k false))) = some r := h
 clear h
 have HC4 := am H
 clear H
 go_enter Try.func41, Try.ntmps41
 go_upto_region 1 with (first | ((with_reducible refine gate_dst (N := 3) rfl ?_); (try (refine gate_guard (by rfl) ?_; dsimp only)); refine box_event ?hg (N := 3) ?hd (cs := #[.int .i64 a0_0, .int .i64 a0_1]) (t := 23) ?hr ?_; (case hd | hg => rfl); (case hr => first | (go_simp; done) | (go_simp; rfl)); intro gb119 hg w5 hbox hb; have n0_ := am (wt (by repeat (first | (with_reducible first | exact HB.out | apply wa | apply wN | apply wd) | exact HB.out)) hb); have n1_ := am (hbox); have n2_ := am ((by rw [hg]; exact (below_size (by repeat (first | (with_reducible first | exact HB.out | apply wa | apply wN | apply wd) | exact HB.out))) : w.heap.size ≤ gb119)); have n3_ := am ((by rw [hg]; exact (below_size (by repeat (first | (with_reducible first | exact HB.out | apply wa | apply wN | apply wd) | exact HB.out))) : w.heap.size ≤ gb119)); clear HB; have HB := n0_; have BK119 := n1_; have GW119 := n2_; have GE119 := n3_; clear n0_ n1_ n2_ n3_ hb hbox hg) | ((with_reducible refine gate_dst (N := 4) rfl ?_); (try (refine gate_guard (by rfl) ?_; dsimp only)); refine box_event ?hg (N := 4) ?hd (cs := #[.int .i64 a1_0, .int .i64 a1_1]) (t := 23) ?hr ?_; (case hd | hg => rfl); (case hr => first | (go_simp; done) | (go_simp; rfl)); intro gb120 hg w6 hbox hb; have n0_ := am (bb (g := gb119) (o := .cells #[.int .i64 a0_0, .int .i64 a0_1] 23 (0, 0)) (by (with_reducible repeat first | apply bN | apply bd | apply ba); exact BK119.out) hb); have n1_ := am (wt (by repeat (first | (with_reducible first | exact HB.out | apply wa | apply wN | apply wd | refine ws ?_ GE119.out) | exact HB.out)) hb); have n2_ := am (hbox); have n3_ := am ((by rw [hg]; exact (below_size (by repeat (first | (with_reducible first | exact HB.out | apply wa | apply wN | apply wd | refine ws ?_ GE119.out) | exact HB.out))) : w.heap.size ≤ gb120)); have n4_ := am ((by rw [hg]; exact (below_size (by repeat (first | (with_reducible first | exact HB.out | apply wa | apply wN | apply wd | refine ws ?_ GE119.out) | exact HB.out))) : w.heap.size ≤ gb120)); have n5_ := am ((by rw [hg]; exact Nat.ne_of_lt (blk_lt (g := gb119) (o := .cells #[.int .i64 a0_0, .int .i64 a0_1] 23 (0, 0)) (by (with_reducible repeat first | apply bN | apply bd | apply ba); exact BK119.out)) : gb119 ≠ gb120)); have n6_ := am ((by rw [hg]; exact Nat.ne_of_gt (blk_lt (g := gb119) (o := .cells #[.int .i64 a0_0, .int .i64 a0_1] 23 (0, 0)) (by (with_reducible repeat first | apply bN | apply bd | apply ba); exact BK119.out)) : gb120 ≠ gb119)); clear BK119 HB; have BK119 := n0_; have HB := n1_; have BK120 := n2_; have GW120 := n3_; have GE120 := n4_; have NB119_120 := n5_; have NB120_119 := n6_; clear n0_ n1_ n2_ n3_ n4_ n5_ n6_ hb hbox hg) | ((with_reducible refine gate_dst (N := 5) rfl ?_); (try (refine gate_guard (by rfl) ?_; dsimp only)); refine box_event ?hg (N := 5) ?hd (cs := #[.int .i64 a2_0, .int .i64 a2_1]) (t := 23) ?hr ?_; (case hd | hg => rfl); (case hr => first | (go_simp; done) | (go_simp; rfl)); intro gb121 hg w7 hbox hb; have n0_ := am (bb (g := gb119) (o := .cells #[.int .i64 a0_0, .int .i64 a0_1] 23 (0, 0)) (by (with_reducible repeat first | apply bN | apply bd | apply ba); exact BK119.out) hb); have n1_ := am (bb (g := gb120) (o := .cells #[.int .i64 a1_0, .int .i64 a1_1] 23 (0, 0)) (by (with_reducible repeat first | apply bN | apply bd | apply ba); exact BK120.out) hb); have n2_ := am (wt (by repeat (first | (with_reducible first | exact HB.out | apply wa | apply wN | apply wd | refine ws ?_ GE119.out | refine ws ?_ GE120.out) | exact HB.out)) hb); have n3_ := am (hbox); have n4_ := am ((by rw [hg]; exact (below_size (by repeat (first | (with_reducible first | exact HB.out | apply wa | apply wN | apply wd | refine ws ?_ GE119.out | refine ws ?_ GE120.out) | exact HB.out))) : w.heap.size ≤ gb121)); have n5_ := am ((by rw [hg]; exact (below_size (by repeat (first | (with_reducible first | exact HB.out | apply wa | apply wN | apply wd | refine ws ?_ GE119.out | refine ws ?_ GE120.out) | exact HB.out))) : w.heap.size ≤ gb121)); have n6_ := am ((by rw [hg]; exact Nat.ne_of_lt (blk_lt (g := gb119) (o := .cells #[.int .i64 a0_0, .int .i64 a0_1] 23 (0, 0)) (by (with_reducible repeat first | apply bN | apply bd | apply ba); exact BK119.out)) : gb119 ≠ gb121)); have n7_ := am ((by rw [hg]; exact Nat.ne_of_gt (blk_lt (g := gb119) (o := .cells #[.int .i64 a0_0, .int .i64 a0_1] 23 (0, 0)) (by (with_reducible repeat first | apply bN | apply bd | apply ba); exact BK119.out)) : gb121 ≠ gb119)); have n8_ := am ((by rw [hg]; exact Nat.ne_of_lt (blk_lt (g := gb120) (o := .cells #[.int .i64 a1_0, .int .i64 a1_1] 23 (0, 0)) (by (with_reducible repeat first | apply bN | apply bd | apply ba); exact BK120.out)) : gb120 ≠ gb121)); have n9_ := am ((by rw [hg]; exact Nat.ne_of_gt (blk_lt (g := gb120) (o := .cells #[.int .i64 a1_0, .int .i64 a1_1] 23 (0, 0)) (by (with_reducible repeat first | apply bN | apply bd | apply ba); exact BK120.out)) : gb121 ≠ gb120)); clear BK119 BK120 HB; have BK119 := n0_; have BK120 := n1_; have HB := n2_; have BK121 := n3_; have GW121 := n4_; have GE121 := n5_; have NB119_121 := n6_; have NB121_119 := n7_; have NB120_121 := n8_; have NB121_120 := n9_; clear n0_ n1_ n2_ n3_ n4_ n5_ n6_ n7_ n8_ n9_ hb hbox hg))
 (try simp only [Act.put, psl])
 go_cut [6] (fun v6 wc => ∃ (kq : Nat) (x6_3 : Bool), v6 = .bool x6_3 ∧ Aside0 (p_on.j0 kq x6_3 = some r) ∧ Aside0 (kq ≤ k) ∧ Aside0 (wc.heap[gb119]? = some (.cells #[.int .i64 a0_0, .int .i64 a0_1] 23 (0, 0))) ∧ Aside0 (wc.heap[gb120]? = some (.cells #[.int .i64 a1_0, .int .i64 a1_1] 23 (0, 0))) ∧ Aside0 (wc.heap[gb121]? = some (.cells #[.int .i64 a2_0, .int .i64 a2_1] 23 (0, 0))) ∧ Aside0 (Below w.heap.size w wc))
 case first =>
  have H := HC4.out
  clear HC4
  replace H := Option.bind_eq_some_iff.mp H
  obtain ⟨t122, A80, H⟩ := H
  replace H : (if t122 = 0 then (if (mn a0_0 a1_0) ≤ a2_0 then (if a2_0 ≤ (mx a0_0 a1_0) then (if (mn a0_1 a1_1) ≤ a2_1 then (p_on.j0 k (decide (a2_1 ≤ (mx a0_1 a1_1)))) else (p_on.j0 k false)) else (p_on.j0 k false)) else (p_on.j0 k false)) else (p_on.j0 k false)) = some r := H
  have A8 := am A80
  clear A80
  by_cases c9 : t122 = 0
  rotate_left
  ·rw [if_neg c9] at H
   have c9b0 : (t122 == 0) = false := beq_eq_false_iff_ne.mpr c9
   have c9b1 : (t122 != 0) = true := bne_iff_ne.mpr c9
   (first | rw [c9b0] | (simp only [i64_w, i32_w]; rw [c9b0]) | skip)
   have H' := am H
   clear H
   have hnb57 := NB119_120.out
   have hnc57 := NB120_119.out
   have hnb58 := NB119_121.out
   have hnc58 := NB121_119.out
   have hcz59_0 : w7.cell? ⟨gb119, 0, none⟩ = some (.int .i64 a0_0) := (bc BK119.out 0).trans rfl
   have hcz59_1 : w7.cell? ⟨gb119, 1, none⟩ = some (.int .i64 a0_1) := (bc BK119.out 1).trans rfl
   have hfz59_0 := bf BK119.out 0
   have hfz59_1 := bf BK119.out 1
   have hnb60 := NB120_121.out
   have hnc60 := NB121_120.out
   have hcz61_0 : w7.cell? ⟨gb120, 0, none⟩ = some (.int .i64 a1_0) := (bc BK120.out 0).trans rfl
   have hcz61_1 : w7.cell? ⟨gb120, 1, none⟩ = some (.int .i64 a1_1) := (bc BK120.out 1).trans rfl
   have hfz61_0 := bf BK120.out 0
   have hfz61_1 := bf BK120.out 1
   have hcz62_0 : w7.cell? ⟨gb121, 0, none⟩ = some (.int .i64 a2_0) := (bc BK121.out 0).trans rfl
   have hcz62_1 : w7.cell? ⟨gb121, 1, none⟩ = some (.int .i64 a2_1) := (bc BK121.out 1).trans rfl
   have hfz62_0 := bf BK121.out 0
   have hfz62_1 := bf BK121.out 1
   go_wp2_with (first | ((with_reducible refine gate_callee (f := 13) rfl ?_); refine goesL_ (some 10) rfl rfl Try.func13 (by kernel_rfl) rfl #[.agg #[.int .i64 a0_0, .int .i64 a0_1], .agg #[.int .i64 a1_0, .int .i64 a1_1], .agg #[.int .i64 a2_0, .int .i64 a2_1]] rfl (by (try simp only [pml]); first | done | rfl | (simp only [pdt]; rfl)) ?_; (with_reducible refine (p_Orient.calls a0_0 a0_1 a1_0 a1_1 a2_0 a2_1 t122 _ A8.out).mono ?_); rintro e w63 ⟨rfl, hb⟩; refine ⟨_, rfl, ?_⟩; have n0_ := am (bb (g := gb119) (o := .cells #[.int .i64 a0_0, .int .i64 a0_1] 23 (0, 0)) (by (with_reducible repeat first | apply bN | apply bd | apply ba); exact BK119.out) hb); have n1_ := am (bb (g := gb120) (o := .cells #[.int .i64 a1_0, .int .i64 a1_1] 23 (0, 0)) (by (with_reducible repeat first | apply bN | apply bd | apply ba); exact BK120.out) hb); have n2_ := am (bb (g := gb121) (o := .cells #[.int .i64 a2_0, .int .i64 a2_1] 23 (0, 0)) (by (with_reducible repeat first | apply bN | apply bd | apply ba); exact BK121.out) hb); have n3_ := am (wt (by repeat (first | (with_reducible first | exact HB.out | apply wa | apply wN | apply wd | refine ws ?_ GE119.out | refine ws ?_ GE120.out | refine ws ?_ GE121.out) | exact HB.out)) hb); clear BK119 BK120 BK121 HB; have BK119 := n0_; have BK120 := n1_; have BK121 := n2_; have HB := n3_; clear n0_ n1_ n2_ n3_; (try clear hb); (try clear hb2); (try clear hk); (try clear hi)))
   go_meet
   case rel => exact ⟨_, (false), (by first | rfl | (simp; done) | (simp [*]; done)), H', ⟨by first | omega | exact Nat.le_refl _⟩, ⟨by (with_reducible repeat first | apply bN | apply bd | apply ba); exact BK119.out⟩, ⟨by (with_reducible repeat first | apply bN | apply bd | apply ba); exact BK120.out⟩, ⟨by (with_reducible repeat first | apply bN | apply bd | apply ba); exact BK121.out⟩, ⟨by repeat (first | (with_reducible first | exact HB.out | apply wa | apply wN | apply wd | refine ws ?_ GE119.out | refine ws ?_ GE120.out | refine ws ?_ GE121.out) | exact HB.out)⟩⟩
  rw [if_pos c9] at H
  have c9b0 : (t122 == 0) = true := beq_iff_eq.mpr c9
  have c9b1 : (t122 != 0) = false := bne_eq_false_iff_eq.mpr c9
  clear c9
  (first | rw [c9b0] | (simp only [i64_w, i32_w]; rw [c9b0]) | skip)
  obtain ⟨ji10, hji10⟩ : ∃ j_ : Int, (mn a0_0 a1_0) = j_ := ⟨_, rfl⟩
  replace H : (if (ji10) ≤ a2_0 then (if a2_0 ≤ (mx a0_0 a1_0) then (if (mn a0_1 a1_1) ≤ a2_1 then (p_on.j0 k (decide (a2_1 ≤ (mx a0_1 a1_1)))) else (p_on.j0 k false)) else (p_on.j0 k false)) else (p_on.j0 k false)) = some r := by first | (rw [hji10] at H; exact H) | (simp only [hji10] at H ⊢; exact H)
  (try rw [hji10] at A8)
  have hji10_ : (if a1_0 < a0_0 then a1_0 else a0_0) = ji10 := hji10
  by_cases c11 : (ji10) ≤ a2_0
  rotate_left
  ·rw [if_neg c11] at H
   have c11b0 : decide ((ji10) ≤ a2_0) = false := decide_eq_false c11
   clear c11
   have H' := am H
   clear H
   have hnb47 := NB119_120.out
   have hnc47 := NB120_119.out
   have hnb48 := NB119_121.out
   have hnc48 := NB121_119.out
   have hcz49_0 : w7.cell? ⟨gb119, 0, none⟩ = some (.int .i64 a0_0) := (bc BK119.out 0).trans rfl
   have hcz49_1 : w7.cell? ⟨gb119, 1, none⟩ = some (.int .i64 a0_1) := (bc BK119.out 1).trans rfl
   have hfz49_0 := bf BK119.out 0
   have hfz49_1 := bf BK119.out 1
   have hnb50 := NB120_121.out
   have hnc50 := NB121_120.out
   have hcz51_0 : w7.cell? ⟨gb120, 0, none⟩ = some (.int .i64 a1_0) := (bc BK120.out 0).trans rfl
   have hcz51_1 : w7.cell? ⟨gb120, 1, none⟩ = some (.int .i64 a1_1) := (bc BK120.out 1).trans rfl
   have hfz51_0 := bf BK120.out 0
   have hfz51_1 := bf BK120.out 1
   have hcz52_0 : w7.cell? ⟨gb121, 0, none⟩ = some (.int .i64 a2_0) := (bc BK121.out 0).trans rfl
   have hcz52_1 : w7.cell? ⟨gb121, 1, none⟩ = some (.int .i64 a2_1) := (bc BK121.out 1).trans rfl
   have hfz52_0 := bf BK121.out 0
   have hfz52_1 := bf BK121.out 1
   go_wp2_with (first | ((with_reducible refine gate_callee (f := 13) rfl ?_); refine goesL_ (some 10) rfl rfl Try.func13 (by kernel_rfl) rfl #[.agg #[.int .i64 a0_0, .int .i64 a0_1], .agg #[.int .i64 a1_0, .int .i64 a1_1], .agg #[.int .i64 a2_0, .int .i64 a2_1]] rfl (by (try simp only [pml]); first | done | rfl | (simp only [pdt]; rfl)) ?_; (with_reducible refine (p_Orient.calls a0_0 a0_1 a1_0 a1_1 a2_0 a2_1 t122 _ A8.out).mono ?_); rintro e w53 ⟨rfl, hb⟩; refine ⟨_, rfl, ?_⟩; have n0_ := am (bb (g := gb119) (o := .cells #[.int .i64 a0_0, .int .i64 a0_1] 23 (0, 0)) (by (with_reducible repeat first | apply bN | apply bd | apply ba); exact BK119.out) hb); have n1_ := am (bb (g := gb120) (o := .cells #[.int .i64 a1_0, .int .i64 a1_1] 23 (0, 0)) (by (with_reducible repeat first | apply bN | apply bd | apply ba); exact BK120.out) hb); have n2_ := am (bb (g := gb121) (o := .cells #[.int .i64 a2_0, .int .i64 a2_1] 23 (0, 0)) (by (with_reducible repeat first | apply bN | apply bd | apply ba); exact BK121.out) hb); have n3_ := am (wt (by repeat (first | (with_reducible first | exact HB.out | apply wa | apply wN | apply wd | refine ws ?_ GE119.out | refine ws ?_ GE120.out | refine ws ?_ GE121.out) | exact HB.out)) hb); clear BK119 BK120 BK121 HB; have BK119 := n0_; have BK120 := n1_; have BK121 := n2_; have HB := n3_; clear n0_ n1_ n2_ n3_; (try clear hb); (try clear hb2); (try clear hk); (try clear hi); have hcz54_0 : w53.cell? ⟨gb119, 0, none⟩ = some (.int .i64 a0_0) := (bc BK119.out 0).trans rfl; have hcz54_1 : w53.cell? ⟨gb119, 1, none⟩ = some (.int .i64 a0_1) := (bc BK119.out 1).trans rfl; have hfz54_0 := bf BK119.out 0; have hfz54_1 := bf BK119.out 1; have hcz55_0 : w53.cell? ⟨gb120, 0, none⟩ = some (.int .i64 a1_0) := (bc BK120.out 0).trans rfl; have hcz55_1 : w53.cell? ⟨gb120, 1, none⟩ = some (.int .i64 a1_1) := (bc BK120.out 1).trans rfl; have hfz55_0 := bf BK120.out 0; have hfz55_1 := bf BK120.out 1; have hcz56_0 : w53.cell? ⟨gb121, 0, none⟩ = some (.int .i64 a2_0) := (bc BK121.out 0).trans rfl; have hcz56_1 : w53.cell? ⟨gb121, 1, none⟩ = some (.int .i64 a2_1) := (bc BK121.out 1).trans rfl; have hfz56_0 := bf BK121.out 0; have hfz56_1 := bf BK121.out 1))
   go_meet
   case rel => exact ⟨_, (false), (by first | rfl | (simp; done) | (simp [*]; done)), H', ⟨by first | omega | exact Nat.le_refl _⟩, ⟨by (with_reducible repeat first | apply bN | apply bd | apply ba); exact BK119.out⟩, ⟨by (with_reducible repeat first | apply bN | apply bd | apply ba); exact BK120.out⟩, ⟨by (with_reducible repeat first | apply bN | apply bd | apply ba); exact BK121.out⟩, ⟨by repeat (first | (with_reducible first | exact HB.out | apply wa | apply wN | apply wd | refine ws ?_ GE119.out | refine ws ?_ GE120.out | refine ws ?_ GE121.out) | exact HB.out)⟩⟩
  rw [if_pos c11] at H
  have c11b0 : decide ((ji10) ≤ a2_0) = true := decide_eq_true c11
  clear c11
  obtain ⟨ji12, hji12⟩ : ∃ j_ : Int, (mx a0_0 a1_0) = j_ := ⟨_, rfl⟩
  replace H : (if a2_0 ≤ (ji12) then (if (mn a0_1 a1_1) ≤ a2_1 then (p_on.j0 k (decide (a2_1 ≤ (mx a0_1 a1_1)))) else (p_on.j0 k false)) else (p_on.j0 k false)) = some r := by first | (rw [hji12] at H; exact H) | (simp only [hji12] at H ⊢; exact H)
  (try rw [hji12] at A8)
  have hji12_ : (if a0_0 < a1_0 then a1_0 else a0_0) = ji12 := hji12
  by_cases c13 : a2_0 ≤ (ji12)
  rotate_left
  ·rw [if_neg c13] at H
   have c13b0 : decide (a2_0 ≤ (ji12)) = false := decide_eq_false c13
   clear c13
   have H' := am H
   clear H
   have hnb37 := NB119_120.out
   have hnc37 := NB120_119.out
   have hnb38 := NB119_121.out
   have hnc38 := NB121_119.out
   have hcz39_0 : w7.cell? ⟨gb119, 0, none⟩ = some (.int .i64 a0_0) := (bc BK119.out 0).trans rfl
   have hcz39_1 : w7.cell? ⟨gb119, 1, none⟩ = some (.int .i64 a0_1) := (bc BK119.out 1).trans rfl
   have hfz39_0 := bf BK119.out 0
   have hfz39_1 := bf BK119.out 1
   have hnb40 := NB120_121.out
   have hnc40 := NB121_120.out
   have hcz41_0 : w7.cell? ⟨gb120, 0, none⟩ = some (.int .i64 a1_0) := (bc BK120.out 0).trans rfl
   have hcz41_1 : w7.cell? ⟨gb120, 1, none⟩ = some (.int .i64 a1_1) := (bc BK120.out 1).trans rfl
   have hfz41_0 := bf BK120.out 0
   have hfz41_1 := bf BK120.out 1
   have hcz42_0 : w7.cell? ⟨gb121, 0, none⟩ = some (.int .i64 a2_0) := (bc BK121.out 0).trans rfl
   have hcz42_1 : w7.cell? ⟨gb121, 1, none⟩ = some (.int .i64 a2_1) := (bc BK121.out 1).trans rfl
   have hfz42_0 := bf BK121.out 0
   have hfz42_1 := bf BK121.out 1
   go_wp2_with (first | ((with_reducible refine gate_callee (f := 13) rfl ?_); refine goesL_ (some 10) rfl rfl Try.func13 (by kernel_rfl) rfl #[.agg #[.int .i64 a0_0, .int .i64 a0_1], .agg #[.int .i64 a1_0, .int .i64 a1_1], .agg #[.int .i64 a2_0, .int .i64 a2_1]] rfl (by (try simp only [pml]); first | done | rfl | (simp only [pdt]; rfl)) ?_; (with_reducible refine (p_Orient.calls a0_0 a0_1 a1_0 a1_1 a2_0 a2_1 t122 _ A8.out).mono ?_); rintro e w43 ⟨rfl, hb⟩; refine ⟨_, rfl, ?_⟩; have n0_ := am (bb (g := gb119) (o := .cells #[.int .i64 a0_0, .int .i64 a0_1] 23 (0, 0)) (by (with_reducible repeat first | apply bN | apply bd | apply ba); exact BK119.out) hb); have n1_ := am (bb (g := gb120) (o := .cells #[.int .i64 a1_0, .int .i64 a1_1] 23 (0, 0)) (by (with_reducible repeat first | apply bN | apply bd | apply ba); exact BK120.out) hb); have n2_ := am (bb (g := gb121) (o := .cells #[.int .i64 a2_0, .int .i64 a2_1] 23 (0, 0)) (by (with_reducible repeat first | apply bN | apply bd | apply ba); exact BK121.out) hb); have n3_ := am (wt (by repeat (first | (with_reducible first | exact HB.out | apply wa | apply wN | apply wd | refine ws ?_ GE119.out | refine ws ?_ GE120.out | refine ws ?_ GE121.out) | exact HB.out)) hb); clear BK119 BK120 BK121 HB; have BK119 := n0_; have BK120 := n1_; have BK121 := n2_; have HB := n3_; clear n0_ n1_ n2_ n3_; (try clear hb); (try clear hb2); (try clear hk); (try clear hi); have hcz44_0 : w43.cell? ⟨gb119, 0, none⟩ = some (.int .i64 a0_0) := (bc BK119.out 0).trans rfl; have hcz44_1 : w43.cell? ⟨gb119, 1, none⟩ = some (.int .i64 a0_1) := (bc BK119.out 1).trans rfl; have hfz44_0 := bf BK119.out 0; have hfz44_1 := bf BK119.out 1; have hcz45_0 : w43.cell? ⟨gb120, 0, none⟩ = some (.int .i64 a1_0) := (bc BK120.out 0).trans rfl; have hcz45_1 : w43.cell? ⟨gb120, 1, none⟩ = some (.int .i64 a1_1) := (bc BK120.out 1).trans rfl; have hfz45_0 := bf BK120.out 0; have hfz45_1 := bf BK120.out 1; have hcz46_0 : w43.cell? ⟨gb121, 0, none⟩ = some (.int .i64 a2_0) := (bc BK121.out 0).trans rfl; have hcz46_1 : w43.cell? ⟨gb121, 1, none⟩ = some (.int .i64 a2_1) := (bc BK121.out 1).trans rfl; have hfz46_0 := bf BK121.out 0; have hfz46_1 := bf BK121.out 1))
   go_meet
   case rel => exact ⟨_, (false), (by first | rfl | (simp; done) | (simp [*]; done)), H', ⟨by first | omega | exact Nat.le_refl _⟩, ⟨by (with_reducible repeat first | apply bN | apply bd | apply ba); exact BK119.out⟩, ⟨by (with_reducible repeat first | apply bN | apply bd | apply ba); exact BK120.out⟩, ⟨by (with_reducible repeat first | apply bN | apply bd | apply ba); exact BK121.out⟩, ⟨by repeat (first | (with_reducible first | exact HB.out | apply wa | apply wN | apply wd | refine ws ?_ GE119.out | refine ws ?_ GE120.out | refine ws ?_ GE121.out) | exact HB.out)⟩⟩
  rw [if_pos c13] at H
  have c13b0 : decide (a2_0 ≤ (ji12)) = true := decide_eq_true c13
  clear c13
  obtain ⟨ji14, hji14⟩ : ∃ j_ : Int, (mn a0_1 a1_1) = j_ := ⟨_, rfl⟩
  replace H : (if (ji14) ≤ a2_1 then (p_on.j0 k (decide (a2_1 ≤ (mx a0_1 a1_1)))) else (p_on.j0 k false)) = some r := by first | (rw [hji14] at H; exact H) | (simp only [hji14] at H ⊢; exact H)
  (try rw [hji14] at A8)
  have hji14_ : (if a1_1 < a0_1 then a1_1 else a0_1) = ji14 := hji14
  by_cases c15 : (ji14) ≤ a2_1
  ·rw [if_pos c15] at H
   have c15b0 : decide ((ji14) ≤ a2_1) = true := decide_eq_true c15
   clear c15
   obtain ⟨ji16, hji16⟩ : ∃ j_ : Int, (mx a0_1 a1_1) = j_ := ⟨_, rfl⟩
   replace H : (p_on.j0 k (decide (a2_1 ≤ (ji16)))) = some r := by first | (rw [hji16] at H; exact H) | (simp only [hji16] at H ⊢; exact H)
   (try rw [hji16] at A8)
   have hji16_ : (if a0_1 < a1_1 then a1_1 else a0_1) = ji16 := hji16
   have H' := am H
   clear H
   have hnb17 := NB119_120.out
   have hnc17 := NB120_119.out
   have hnb18 := NB119_121.out
   have hnc18 := NB121_119.out
   have hcz19_0 : w7.cell? ⟨gb119, 0, none⟩ = some (.int .i64 a0_0) := (bc BK119.out 0).trans rfl
   have hcz19_1 : w7.cell? ⟨gb119, 1, none⟩ = some (.int .i64 a0_1) := (bc BK119.out 1).trans rfl
   have hfz19_0 := bf BK119.out 0
   have hfz19_1 := bf BK119.out 1
   have hnb20 := NB120_121.out
   have hnc20 := NB121_120.out
   have hcz21_0 : w7.cell? ⟨gb120, 0, none⟩ = some (.int .i64 a1_0) := (bc BK120.out 0).trans rfl
   have hcz21_1 : w7.cell? ⟨gb120, 1, none⟩ = some (.int .i64 a1_1) := (bc BK120.out 1).trans rfl
   have hfz21_0 := bf BK120.out 0
   have hfz21_1 := bf BK120.out 1
   have hcz22_0 : w7.cell? ⟨gb121, 0, none⟩ = some (.int .i64 a2_0) := (bc BK121.out 0).trans rfl
   have hcz22_1 : w7.cell? ⟨gb121, 1, none⟩ = some (.int .i64 a2_1) := (bc BK121.out 1).trans rfl
   have hfz22_0 := bf BK121.out 0
   have hfz22_1 := bf BK121.out 1
   go_wp2_with (first | ((with_reducible refine gate_callee (f := 13) rfl ?_); refine goesL_ (some 10) rfl rfl Try.func13 (by kernel_rfl) rfl #[.agg #[.int .i64 a0_0, .int .i64 a0_1], .agg #[.int .i64 a1_0, .int .i64 a1_1], .agg #[.int .i64 a2_0, .int .i64 a2_1]] rfl (by (try simp only [pml]); first | done | rfl | (simp only [pdt]; rfl)) ?_; (with_reducible refine (p_Orient.calls a0_0 a0_1 a1_0 a1_1 a2_0 a2_1 t122 _ A8.out).mono ?_); rintro e w23 ⟨rfl, hb⟩; refine ⟨_, rfl, ?_⟩; have n0_ := am (bb (g := gb119) (o := .cells #[.int .i64 a0_0, .int .i64 a0_1] 23 (0, 0)) (by (with_reducible repeat first | apply bN | apply bd | apply ba); exact BK119.out) hb); have n1_ := am (bb (g := gb120) (o := .cells #[.int .i64 a1_0, .int .i64 a1_1] 23 (0, 0)) (by (with_reducible repeat first | apply bN | apply bd | apply ba); exact BK120.out) hb); have n2_ := am (bb (g := gb121) (o := .cells #[.int .i64 a2_0, .int .i64 a2_1] 23 (0, 0)) (by (with_reducible repeat first | apply bN | apply bd | apply ba); exact BK121.out) hb); have n3_ := am (wt (by repeat (first | (with_reducible first | exact HB.out | apply wa | apply wN | apply wd | refine ws ?_ GE119.out | refine ws ?_ GE120.out | refine ws ?_ GE121.out) | exact HB.out)) hb); clear BK119 BK120 BK121 HB; have BK119 := n0_; have BK120 := n1_; have BK121 := n2_; have HB := n3_; clear n0_ n1_ n2_ n3_; (try clear hb); (try clear hb2); (try clear hk); (try clear hi); have hcz24_0 : w23.cell? ⟨gb119, 0, none⟩ = some (.int .i64 a0_0) := (bc BK119.out 0).trans rfl; have hcz24_1 : w23.cell? ⟨gb119, 1, none⟩ = some (.int .i64 a0_1) := (bc BK119.out 1).trans rfl; have hfz24_0 := bf BK119.out 0; have hfz24_1 := bf BK119.out 1; have hcz25_0 : w23.cell? ⟨gb120, 0, none⟩ = some (.int .i64 a1_0) := (bc BK120.out 0).trans rfl; have hcz25_1 : w23.cell? ⟨gb120, 1, none⟩ = some (.int .i64 a1_1) := (bc BK120.out 1).trans rfl; have hfz25_0 := bf BK120.out 0; have hfz25_1 := bf BK120.out 1; have hcz26_0 : w23.cell? ⟨gb121, 0, none⟩ = some (.int .i64 a2_0) := (bc BK121.out 0).trans rfl; have hcz26_1 : w23.cell? ⟨gb121, 1, none⟩ = some (.int .i64 a2_1) := (bc BK121.out 1).trans rfl; have hfz26_0 := bf BK121.out 0; have hfz26_1 := bf BK121.out 1))
   go_meet
   case rel => exact ⟨_, (decide (a2_1 ≤ (ji16))), (by first | rfl | (simp; done) | (simp only [← hji16] <;> (first | rfl | simp)) | (simp [*]; done)), H', ⟨by first | omega | exact Nat.le_refl _⟩, ⟨by (with_reducible repeat first | apply bN | apply bd | apply ba); exact BK119.out⟩, ⟨by (with_reducible repeat first | apply bN | apply bd | apply ba); exact BK120.out⟩, ⟨by (with_reducible repeat first | apply bN | apply bd | apply ba); exact BK121.out⟩, ⟨by repeat (first | (with_reducible first | exact HB.out | apply wa | apply wN | apply wd | refine ws ?_ GE119.out | refine ws ?_ GE120.out | refine ws ?_ GE121.out) | exact HB.out)⟩⟩
  rw [if_neg c15] at H
  have c15b0 : decide ((ji14) ≤ a2_1) = false := decide_eq_false c15
  clear c15
  have H' := am H
  clear H
  have hnb27 := NB119_120.out
  have hnc27 := NB120_119.out
  have hnb28 := NB119_121.out
  have hnc28 := NB121_119.out
  have hcz29_0 : w7.cell? ⟨gb119, 0, none⟩ = some (.int .i64 a0_0) := (bc BK119.out 0).trans rfl
  have hcz29_1 : w7.cell? ⟨gb119, 1, none⟩ = some (.int .i64 a0_1) := (bc BK119.out 1).trans rfl
  have hfz29_0 := bf BK119.out 0
  have hfz29_1 := bf BK119.out 1
  have hnb30 := NB120_121.out
  have hnc30 := NB121_120.out
  have hcz31_0 : w7.cell? ⟨gb120, 0, none⟩ = some (.int .i64 a1_0) := (bc BK120.out 0).trans rfl
  have hcz31_1 : w7.cell? ⟨gb120, 1, none⟩ = some (.int .i64 a1_1) := (bc BK120.out 1).trans rfl
  have hfz31_0 := bf BK120.out 0
  have hfz31_1 := bf BK120.out 1
  have hcz32_0 : w7.cell? ⟨gb121, 0, none⟩ = some (.int .i64 a2_0) := (bc BK121.out 0).trans rfl
  have hcz32_1 : w7.cell? ⟨gb121, 1, none⟩ = some (.int .i64 a2_1) := (bc BK121.out 1).trans rfl
  have hfz32_0 := bf BK121.out 0
  have hfz32_1 := bf BK121.out 1
  go_wp2_with (first | ((with_reducible refine gate_callee (f := 13) rfl ?_); refine goesL_ (some 10) rfl rfl Try.func13 (by kernel_rfl) rfl #[.agg #[.int .i64 a0_0, .int .i64 a0_1], .agg #[.int .i64 a1_0, .int .i64 a1_1], .agg #[.int .i64 a2_0, .int .i64 a2_1]] rfl (by (try simp only [pml]); first | done | rfl | (simp only [pdt]; rfl)) ?_; (with_reducible refine (p_Orient.calls a0_0 a0_1 a1_0 a1_1 a2_0 a2_1 t122 _ A8.out).mono ?_); rintro e w33 ⟨rfl, hb⟩; refine ⟨_, rfl, ?_⟩; have n0_ := am (bb (g := gb119) (o := .cells #[.int .i64 a0_0, .int .i64 a0_1] 23 (0, 0)) (by (with_reducible repeat first | apply bN | apply bd | apply ba); exact BK119.out) hb); have n1_ := am (bb (g := gb120) (o := .cells #[.int .i64 a1_0, .int .i64 a1_1] 23 (0, 0)) (by (with_reducible repeat first | apply bN | apply bd | apply ba); exact BK120.out) hb); have n2_ := am (bb (g := gb121) (o := .cells #[.int .i64 a2_0, .int .i64 a2_1] 23 (0, 0)) (by (with_reducible repeat first | apply bN | apply bd | apply ba); exact BK121.out) hb); have n3_ := am (wt (by repeat (first | (with_reducible first | exact HB.out | apply wa | apply wN | apply wd | refine ws ?_ GE119.out | refine ws ?_ GE120.out | refine ws ?_ GE121.out) | exact HB.out)) hb); clear BK119 BK120 BK121 HB; have BK119 := n0_; have BK120 := n1_; have BK121 := n2_; have HB := n3_; clear n0_ n1_ n2_ n3_; (try clear hb); (try clear hb2); (try clear hk); (try clear hi); have hcz34_0 : w33.cell? ⟨gb119, 0, none⟩ = some (.int .i64 a0_0) := (bc BK119.out 0).trans rfl; have hcz34_1 : w33.cell? ⟨gb119, 1, none⟩ = some (.int .i64 a0_1) := (bc BK119.out 1).trans rfl; have hfz34_0 := bf BK119.out 0; have hfz34_1 := bf BK119.out 1; have hcz35_0 : w33.cell? ⟨gb120, 0, none⟩ = some (.int .i64 a1_0) := (bc BK120.out 0).trans rfl; have hcz35_1 : w33.cell? ⟨gb120, 1, none⟩ = some (.int .i64 a1_1) := (bc BK120.out 1).trans rfl; have hfz35_0 := bf BK120.out 0; have hfz35_1 := bf BK120.out 1; have hcz36_0 : w33.cell? ⟨gb121, 0, none⟩ = some (.int .i64 a2_0) := (bc BK121.out 0).trans rfl; have hcz36_1 : w33.cell? ⟨gb121, 1, none⟩ = some (.int .i64 a2_1) := (bc BK121.out 1).trans rfl; have hfz36_0 := bf BK121.out 0; have hfz36_1 := bf BK121.out 1))
  go_meet
  case rel => exact ⟨_, (false), (by first | rfl | (simp; done) | (simp [*]; done)), H', ⟨by first | omega | exact Nat.le_refl _⟩, ⟨by (with_reducible repeat first | apply bN | apply bd | apply ba); exact BK119.out⟩, ⟨by (with_reducible repeat first | apply bN | apply bd | apply ba); exact BK120.out⟩, ⟨by (with_reducible repeat first | apply bN | apply bd | apply ba); exact BK121.out⟩, ⟨by repeat (first | (with_reducible first | exact HB.out | apply wa | apply wN | apply wd | refine ws ?_ GE119.out | refine ws ?_ GE120.out | refine ws ?_ GE121.out) | exact HB.out)⟩⟩
 case rest =>
  clear HC4
  try clear c1;try clear c2;try clear p2;try clear c3;try clear c4;try clear c5;try clear c6;try clear c9;try clear c9b0;try clear c9b1;try clear c11;try clear c11b0;try clear c13;try clear c13b0;try clear c15;try clear c15b0;try clear c17;try clear c18;try clear c20;try clear c27;try clear c28;try clear c30;try clear c37;try clear c38;try clear c40;try clear c41;try clear c47;try clear c48;try clear c50;try clear c57;try clear c58;try clear c60;try clear hcz19_0;try clear hcz19_1;try clear hcz21_0;try clear hcz21_1;try clear hcz22_0;try clear hcz22_1;try clear hcz24_0;try clear hcz24_1;try clear hcz25_0;try clear hcz25_1;try clear hcz26_0;try clear hcz26_1;try clear hcz29_0;try clear hcz29_1;try clear hcz31_0;try clear hcz31_1;try clear hcz32_0;try clear hcz32_1;try clear hcz34_0;try clear hcz34_1;try clear hcz35_0;try clear hcz35_1;try clear hcz36_0;try clear hcz36_1;try clear hcz39_0;try clear hcz39_1;try clear hcz41_0;try clear hcz41_1;try clear hcz42_0;try clear hcz42_1;try clear hcz44_0;try clear hcz44_1;try clear hcz45_0;try clear hcz45_1;try clear hcz46_0;try clear hcz46_1;try clear hcz49_0;try clear hcz49_1;try clear hcz51_0;try clear hcz51_1;try clear hcz52_0;try clear hcz52_1;try clear hcz54_0;try clear hcz54_1;try clear hcz55_0;try clear hcz55_1;try clear hcz56_0;try clear hcz56_1;try clear hcz59_0;try clear hcz59_1;try clear hcz61_0;try clear hcz61_1;try clear hcz62_0;try clear hcz62_1;try clear hfz19_0;try clear hfz19_1;try clear hfz21_0;try clear hfz21_1;try clear hfz22_0;try clear hfz22_1;try clear hfz24_0;try clear hfz24_1;try clear hfz25_0;try clear hfz25_1;try clear hfz26_0;try clear hfz26_1;try clear hfz29_0;try clear hfz29_1;try clear hfz31_0;try clear hfz31_1;try clear hfz32_0;try clear hfz32_1;try clear hfz34_0;try clear hfz34_1;try clear hfz35_0;try clear hfz35_1;try clear hfz36_0;try clear hfz36_1;try clear hfz39_0;try clear hfz39_1;try clear hfz41_0;try clear hfz41_1;try clear hfz42_0;try clear hfz42_1;try clear hfz44_0;try clear hfz44_1;try clear hfz45_0;try clear hfz45_1;try clear hfz46_0;try clear hfz46_1;try clear hfz49_0;try clear hfz49_1;try clear hfz51_0;try clear hfz51_1;try clear hfz52_0;try clear hfz52_1;try clear hfz54_0;try clear hfz54_1;try clear hfz55_0;try clear hfz55_1;try clear hfz56_0;try clear hfz56_1;try clear hfz59_0;try clear hfz59_1;try clear hfz61_0;try clear hfz61_1;try clear hfz62_0;try clear hfz62_1
  obtain ⟨kq, x6_3, rfl, HA, HJ3, BK119, BK120, BK121, HB⟩ := hcut
  cases kq with
  | zero => exact absurd HA.out (by simp [p_on.j0])
  | succ kj3 =>
   have H := HA.out
   clear HA
   simp only [p_on.j0] at H
   obtain rfl := Option.some.inj H
   go_wp2
   go_ret
   exact ⟨by first | rfl | (simp [errW_none, errW_some] <;> rfl) | (simp [*, errW_none, errW_some] <;> rfl), by repeat (first | (with_reducible first | exact HB.out | apply wa | apply wN | apply wd | refine ws ?_ GE119.out | refine ws ?_ GE120.out | refine ws ?_ GE121.out) | exact HB.out)⟩

end Go.Proofs.Ytcembjgpcbodcaa.QA
