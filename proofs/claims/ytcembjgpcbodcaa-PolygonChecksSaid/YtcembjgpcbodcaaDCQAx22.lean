import Derived.Test.YtcembjgpcbodcaaDCQAx0
import Derived.Test.YtcembjgpcbodcaaDCQAx2
import Derived.Test.YtcembjgpcbodcaaDCQAx6
import Derived.Shelf.SlicesQ.Reverse
import Derived.WalkSpells
-- Written by a program of this session (wip/tools) out of the translation; Lean checks it.
namespace Go.Proofs.Ytcembjgpcbodcaa.QA
open Go.RowKit Go.Proofs.YtcembjgpcbodcaaW.PrintWords Go.Proofs.YtcembjgpcbodcaaW.PrintLast Go.Proofs.YtcembjgpcbodcaaW.PrintMore
attribute [local go_sem] max2_int min2_int max_two min_two max_three min_three max_four min_four
set_option linter.unusedVariables false
set_option linter.unusedSimpArgs false

def polygon_Bounds.l0 : Nat → List (S23) → Int → Int → Int → Int → Int → Int → Option (Int × Int × Int × Int × Int)
  | 0, _, _, _, _, _, _, _ => none
  | k + 1, x23, x24, x25, x401000, x401001, x402000, x402001 => if x25 < x24 then (if 0 ≤ x25 then (if x25 < (x23.length : Int) then (polygon_Bounds.l0 k x23 x24 (wrap64 (x25 + 1)) (mn x401000 ((rd_T23 x23 x25).f0)) (mn x401001 ((rd_T23 x23 x25).f1)) (mx x402000 ((rd_T23 x23 x25).f0)) (mx x402001 ((rd_T23 x23 x25).f1))) else (none)) else (none)) else (some (x401000, x401001, x402000, x402001, 0))
def polygon_Bounds.f (k : Nat) (l0 : List (S23)) : Option (Int × Int × Int × Int × Int) := (polygon_check.f k l0 ([] : List (S23))).bind fun t397 => (if t397 = 0 then (if 0 < (l0.length : Int) then (polygon_Bounds.l0 k l0 (l0.length : Int) 0 ((rd_T23 l0 0).f0) ((rd_T23 l0 0).f1) ((rd_T23 l0 0).f0) ((rd_T23 l0 0).f1)) else (none)) else (some (0, 0, 0, 0, t397)))
def polygon_Bounds.T4 : Bool × List (List Nat × List Nat) := (true, [([], []), ([0], [0]), ([1], [1]), ([], []), ([3], [3]), ([4], [4]), ([], []), ([], []), ([6, 2, 0, 1, 2, 6, 7], [2, 6]), ([7, 5, 8, 0, 1, 2, 3, 4, 5, 6, 7, 8], [5, 7])])
def polygon_Bounds.B4 : List Nat := [0, 1, 3, 0, 8, 24, 0, 0, 199, 511]
theorem polygon_Bounds.tab4 : rtab .any (opsOf Try.f26 4) = polygon_Bounds.T4 := by kernel_rfl
theorem polygon_Bounds.bits4 : waitsOk polygon_Bounds.T4.2 polygon_Bounds.B4 = true := by kernel_rfl
set_option maxHeartbeats 8000000 in
set_option maxRecDepth 100000 in
theorem polygon_Bounds.calls (k : Nat) (A0 : Option Addr) (c0 : Nat) (l0 : List (S23)) (r1 : Int) (r2 : Int) (r3 : Int) (r4 : Int) (r5 : Int) (w : World) (hr0 : Kd.C k23 w A0 l0.length l0) (hc0 : l0.length ≤ c0) (h : polygon_Bounds.f k l0 = some (r1, r2, r3, r4, r5)) :
    Calls Try.prog 26 #[.slice A0 l0.length c0] w fun e w' => e = .returned (.tuple #[.agg #[.int .i64 r1, .int .i64 r2], .agg #[.int .i64 r3, .int .i64 r4], .int .i64 r5]) ∧ Below w.heap.size w w' := by
  have hu23 := Try.underlying23
  have HR0 := Aside0.mk hr0
  have HC0 := Aside0.mk hc0
  clear hr0 hc0
  have HB := Aside0.mk (Below.refl w.heap.size w)
  have H : ((polygon_check.f k l0 ([] : List (S23))).bind fun t397 => (if t397 = 0 then (if 0 < (l0.length : Int) then (polygon_Bounds.l0 k l0 (l0.length : Int) 0 ((rd_T23 l0 0).f0) ((rd_T23 l0 0).f1) ((rd_T23 l0 0).f0) ((rd_T23 l0 0).f1)) else (none)) else (some (0, 0, 0, 0, t397)))) = some (r1, r2, r3, r4, r5) := h
  clear h
  replace H := Option.bind_eq_some_iff.mp H
  obtain ⟨t397, A20, H⟩ := H
  replace H : (if t397 = 0 then (if 0 < (l0.length : Int) then (polygon_Bounds.l0 k l0 (l0.length : Int) 0 ((rd_T23 l0 0).f0) ((rd_T23 l0 0).f1) ((rd_T23 l0 0).f0) ((rd_T23 l0 0).f1)) else (none)) else (some (0, 0, 0, 0, t397))) = some (r1, r2, r3, r4, r5) := H
  have A2 := Aside0.mk A20
  clear A20
  by_cases c3 : t397 = 0
  · rw [if_pos c3] at H
    have c3b0 : (t397 == 0) = true := beq_iff_eq.mpr c3
    have c3b1 : (t397 != 0) = false := bne_eq_false_iff_eq.mpr c3
    clear c3
    by_cases c4 : 0 < (l0.length : Int)
    · rw [if_pos c4] at H
      have c4b0 : decide (0 < (l0.length : Int)) = true := decide_eq_true c4
      have c4b1 : decide (0 < l0.length) = true := decide_eq_true (by omega)
      clear c4
      have H' := Aside0.mk H
      clear H
      go_enter Try.func26, Try.ntmps26
      try go_wp2_with (first | ((with_reducible refine gate_dst (N := 2) rfl ?_); refine box_event ?hg (N := 2) ?hd (cs := #[.int .i64 0, .int .i64 0]) (t := 23) ?hr ?_; (case hd => rfl); (case hg => rfl); (case hr => first | (go_simp; done) | (go_simp; rfl)); intro gb395 hg w5 hbox hb; have n0_ := Aside0.mk (below_step (by repeat (first | (with_reducible first | exact HB.out | apply below_alloc | apply pw_below_drewN | apply below_drew1) | exact HB.out)) hb); have n1_ := Aside0.mk (hbox); have n2_ := Aside0.mk ((by rw [hg]; exact (below_size (by repeat (first | (with_reducible first | exact HB.out | apply below_alloc | apply pw_below_drewN | apply below_drew1) | exact HB.out))) : w.heap.size ≤ gb395)); have n3_ := Aside0.mk ((by rw [hg]; exact (below_size (by repeat (first | (with_reducible first | exact HB.out | apply below_alloc | apply pw_below_drewN | apply below_drew1) | exact HB.out))) : w.heap.size ≤ gb395)); clear HB; have HB := n0_; have BK395 := n1_; have GW395 := n2_; have GE395 := n3_; clear n0_ n1_ n2_ n3_; clear hb hbox hg) | ((with_reducible refine gate_dst (N := 3) rfl ?_); refine box_event ?hg (N := 3) ?hd (cs := #[.int .i64 0, .int .i64 0]) (t := 23) ?hr ?_; (case hd => rfl); (case hg => rfl); (case hr => first | (go_simp; done) | (go_simp; rfl)); intro gb396 hg w6 hbox hb; have n0_ := Aside0.mk (blk_below (g := gb395) (o := .cells #[.int .i64 0, .int .i64 0] 23 (0, 0)) (by (with_reducible repeat (first | refine blk_drewN ?_ _ | refine blk_drew ?_ | refine blk_alloc ?_ _)); exact BK395.out) hb); have n1_ := Aside0.mk (below_step (by repeat (first | (with_reducible first | exact HB.out | apply below_alloc | apply pw_below_drewN | apply below_drew1 | refine below_set ?_ GE395.out) | exact HB.out)) hb); have n2_ := Aside0.mk (hbox); have n3_ := Aside0.mk ((by rw [hg]; exact (below_size (by repeat (first | (with_reducible first | exact HB.out | apply below_alloc | apply pw_below_drewN | apply below_drew1 | refine below_set ?_ GE395.out) | exact HB.out))) : w.heap.size ≤ gb396)); have n4_ := Aside0.mk ((by rw [hg]; exact (below_size (by repeat (first | (with_reducible first | exact HB.out | apply below_alloc | apply pw_below_drewN | apply below_drew1 | refine below_set ?_ GE395.out) | exact HB.out))) : w.heap.size ≤ gb396)); have n5_ := Aside0.mk ((by rw [hg]; exact Nat.ne_of_lt (blk_lt (g := gb395) (o := .cells #[.int .i64 0, .int .i64 0] 23 (0, 0)) (by (with_reducible repeat (first | refine blk_drewN ?_ _ | refine blk_drew ?_ | refine blk_alloc ?_ _)); exact BK395.out)) : gb395 ≠ gb396)); have n6_ := Aside0.mk ((by rw [hg]; exact Nat.ne_of_gt (blk_lt (g := gb395) (o := .cells #[.int .i64 0, .int .i64 0] 23 (0, 0)) (by (with_reducible repeat (first | refine blk_drewN ?_ _ | refine blk_drew ?_ | refine blk_alloc ?_ _)); exact BK395.out)) : gb396 ≠ gb395)); clear BK395; clear HB; have BK395 := n0_; have HB := n1_; have BK396 := n2_; have GW396 := n3_; have GE396 := n4_; have NB395_396 := n5_; have NB396_395 := n6_; clear n0_ n1_ n2_ n3_ n4_ n5_ n6_; clear hb hbox hg) | ((with_reducible refine gate_callee (f := 38) rfl ?_); refine goesL_ (some 11) rfl rfl Try.func38 (by kernel_rfl) rfl #[.slice A0 l0.length c0, .slice none 0 0] rfl (by (try simp only [List.map_toArray, List.map_cons, List.map_nil]); first | done | rfl | (simp only [List.length_drop, List.length_take]; rfl)) ?_; (refine (polygon_check.calls k _ _ l0 _ _ ([] : List (S23)) t397 _ ?side1 ?side2 ?side3 ?side4 A2.out).mono ?_); (case side1 => repeat (first | exact (Kd.C_below HR0.out HB.out) | (with_reducible refine Kd.C_alloc ?_ _) | (with_reducible refine Kd.C_drewN ?_ _) | (with_reducible refine Kd.C_drew ?_))); (case side2 => exact HC0.out); (case side3 => exact Kd.C_nil _ _); (case side4 => exact Nat.le_refl _); rintro e w7 ⟨rfl, hb⟩; refine ⟨_, rfl, ?_⟩; have n0_ := Aside0.mk (blk_below (g := gb395) (o := .cells #[.int .i64 0, .int .i64 0] 23 (0, 0)) (by (with_reducible repeat (first | refine blk_drewN ?_ _ | refine blk_drew ?_ | refine blk_alloc ?_ _)); exact BK395.out) hb); have n1_ := Aside0.mk (blk_below (g := gb396) (o := .cells #[.int .i64 0, .int .i64 0] 23 (0, 0)) (by (with_reducible repeat (first | refine blk_drewN ?_ _ | refine blk_drew ?_ | refine blk_alloc ?_ _)); exact BK396.out) hb); have n2_ := Aside0.mk (below_step (by repeat (first | (with_reducible first | exact HB.out | apply below_alloc | apply pw_below_drewN | apply below_drew1 | refine below_set ?_ GE395.out | refine below_set ?_ GE396.out) | exact HB.out)) hb); clear BK395; clear BK396; clear HB; have BK395 := n0_; have BK396 := n1_; have HB := n2_; clear n0_ n1_ n2_; (try clear hb); (try clear hb2); (try clear hk); (try clear hi)))
      have n0_ := Aside0.mk (blk_drew BK395.out)
      have n1_ := Aside0.mk (blk_drew BK396.out)
      have n2_ := Aside0.mk (below_drew1 HB.out)
      clear BK395
      clear BK396
      clear HB
      have BK395 := n0_
      have BK396 := n1_
      have HB := n2_
      clear n0_ n1_ n2_
      have p398 : 0 ≤ (0 : Int) := (by omega)
      have q398 : 0 < (l0.length : Int) := of_decide_eq_true (by first | (with_reducible assumption) | assumption)
      obtain ⟨ad398, e398, hx398_0, hx398_1⟩ := at_T23 HR0.out 0 p398 q398
      have hw398_1 := hx398_1
      (try rw [show ((0 : Int)).toNat = 0 from rfl] at hw398_1)
      (try rw [show 0 * 2 = 0 from rfl] at hw398_1)
      (try rw [Addr.add_zero'] at hw398_1)
      have hw398_0 := hx398_0
      (try rw [show ((0 : Int)).toNat = 0 from rfl] at hw398_0)
      (try rw [show 0 * 2 = 0 from rfl] at hw398_0)
      (try rw [Addr.add_zero'] at hw398_0)
      cases e398
      have qi398 : (0 < l0.length) = True := eq_true (by omega)
      (try rw [show ((0 : Int)).toNat = 0 from rfl] at hx398_0)
      (try rw [show 0 * 2 = 0 from rfl] at hx398_0)
      (try rw [Addr.add_zero'] at hx398_0)
      (try rw [show ((0 : Int)).toNat = 0 from rfl] at hx398_1)
      (try rw [show 0 * 2 = 0 from rfl] at hx398_1)
      (try rw [Addr.add_zero'] at hx398_1)
      replace hx398_0 := (HB.out.cell (World.block_lt_of_cell? w _ hx398_0)).trans hx398_0
      replace hx398_1 := (HB.out.cell (World.block_lt_of_cell? w _ hx398_1)).trans hx398_1
      replace p398 := eq_true p398
      replace q398 := eq_true q398
      have p399 : 0 ≤ (0 : Int) := (by omega)
      have q399 : 0 < (l0.length : Int) := of_decide_eq_true (by first | (with_reducible assumption) | assumption)
      obtain ⟨ad399, e399, hx399_0, hx399_1⟩ := at_T23 HR0.out 0 p399 q399
      have hw399_1 := hx399_1
      (try rw [show ((0 : Int)).toNat = 0 from rfl] at hw399_1)
      (try rw [show 0 * 2 = 0 from rfl] at hw399_1)
      (try rw [Addr.add_zero'] at hw399_1)
      have hw399_0 := hx399_0
      (try rw [show ((0 : Int)).toNat = 0 from rfl] at hw399_0)
      (try rw [show 0 * 2 = 0 from rfl] at hw399_0)
      (try rw [Addr.add_zero'] at hw399_0)
      obtain rfl : ad398 = ad399 := (by injection e399)
      have qi399 : (0 < l0.length) = True := eq_true (by omega)
      (try rw [show ((0 : Int)).toNat = 0 from rfl] at hx399_0)
      (try rw [show 0 * 2 = 0 from rfl] at hx399_0)
      (try rw [Addr.add_zero'] at hx399_0)
      (try rw [show ((0 : Int)).toNat = 0 from rfl] at hx399_1)
      (try rw [show 0 * 2 = 0 from rfl] at hx399_1)
      (try rw [Addr.add_zero'] at hx399_1)
      replace hx399_0 := (HB.out.cell (World.block_lt_of_cell? w _ hx399_0)).trans hx399_0
      replace hx399_1 := (HB.out.cell (World.block_lt_of_cell? w _ hx399_1)).trans hx399_1
      replace p399 := eq_true p399
      replace q399 := eq_true q399
      refine start_ (n := 10) (S := fun w' => w'.cell? ad398 = some (.int .i64 ((rd_T23 l0 0).f0)) ∧ w'.cell? ⟨ad398.block, ad398.off + 1, none⟩ = some (.int .i64 ((rd_T23 l0 0).f1)) ∧ w'.cell? ad398 = some (.int .i64 ((rd_T23 l0 0).f0)) ∧ w'.cell? ⟨ad398.block, ad398.off + 1, none⟩ = some (.int .i64 ((rd_T23 l0 0).f1))) (ds := []) #[false, false, false, false, false, false, false, false, false, false] (by kernel_rfl) rfl rfl ⟨((HB.out.cell (World.block_lt_of_cell? w _ hw398_0)).trans hw398_0), ((HB.out.cell (World.block_lt_of_cell? w _ hw398_1)).trans hw398_1), ((HB.out.cell (World.block_lt_of_cell? w _ hw399_0)).trans hw399_0), ((HB.out.cell (World.block_lt_of_cell? w _ hw399_1)).trans hw399_1)⟩ (fun hHeld => ?_); refine with_tabW polygon_Bounds.tab4 polygon_Bounds.bits4 (fun HT_ HW_ => ?_)
      generalize w7.drew = w8 at BK395 BK396 HB hx398_0 hx398_1 hx399_0 hx399_1 hHeld ⊢
      refine pure_ (i := 0) (N := some 17) (v := ?_) (a' := ?_) #[true, false, false, false, false, false, false, false, false, false] rfl rfl (any_of HT_.out (by kernel_rfl)) (fun _ _ _ h => h) (Or.inl ⟨by rfl, ?_⟩) ?_ ?_
      rotate_left
      · intro w'
        go_simp
        with_reducible rfl
      rotate_left
      · simp only [Act.put, List.setIfInBounds_toArray, List.set_cons_zero, List.set_cons_succ, i64_w, i32_w]
        rfl
      refine pure_ (i := 1) (N := some 18) (v := ?_) (a' := ?_) #[true, true, false, false, false, false, false, false, false, false] rfl rfl (any_of HT_.out (by kernel_rfl)) (fun _ _ _ h => h) (Or.inl ⟨by rfl, ?_⟩) ?_ ?_
      rotate_left
      · intro w'
        go_simp
        with_reducible rfl
      rotate_left
      · simp only [Act.put, List.setIfInBounds_toArray, List.set_cons_zero, List.set_cons_succ, i64_w, i32_w]
        rfl
      refine pure_ (i := 3) (N := some 20) (v := ?_) (a' := ?_) #[true, true, false, true, false, false, false, false, false, false] rfl rfl (any_of HT_.out (by kernel_rfl)) (fun _ _ _ h => h) (Or.inl ⟨by rfl, ?_⟩) ?_ ?_
      rotate_left
      · intro w'
        go_simp
        with_reducible rfl
      rotate_left
      · simp only [Act.put, List.setIfInBounds_toArray, List.set_cons_zero, List.set_cons_succ, i64_w, i32_w]
        rfl
      refine pure_ (i := 4) (N := some 21) (v := ?_) (a' := ?_) #[true, true, false, true, true, false, false, false, false, false] rfl rfl (any_of HT_.out (by kernel_rfl)) (fun _ _ _ h => h) (Or.inl ⟨by rfl, ?_⟩) ?_ ?_
      rotate_left
      · intro w'
        go_simp
        with_reducible rfl
      rotate_left
      · simp only [Act.put, List.setIfInBounds_toArray, List.set_cons_zero, List.set_cons_succ, i64_w, i32_w]
        rfl
      refine take_ (i := 2) (N := some 19) (v := ?_) (a' := ?_) #[true, true, true, true, true, false, false, false, false, false] rfl rfl (take_ofW HT_.out HW_.out (by kernel_rfl)) (fun _ _ _ h => h) (Or.inl ⟨by rfl, ?_⟩) hHeld ?_ ?_
      rotate_left
      · rintro w' ⟨s0, s1, s2, s3⟩
        go_simp
        with_reducible rfl
      rotate_left
      · simp only [Act.put, List.setIfInBounds_toArray, List.set_cons_zero, List.set_cons_succ, i64_w, i32_w]
        rfl
      refine take_ (i := 5) (N := some 22) (v := ?_) (a' := ?_) #[true, true, true, true, true, true, false, false, false, false] rfl rfl (take_ofW HT_.out HW_.out (by kernel_rfl)) (fun _ _ _ h => h) (Or.inl ⟨by rfl, ?_⟩) hHeld ?_ ?_
      rotate_left
      · rintro w' ⟨s0, s1, s2, s3⟩
        go_simp
        with_reducible rfl
      rotate_left
      · simp only [Act.put, List.setIfInBounds_toArray, List.set_cons_zero, List.set_cons_succ, i64_w, i32_w]
        rfl
      refine join_ (σ := Nat × Nat) 2 #[true, true, true, true, true, true, true, true, false, false] (fun s_ => [(6, .pointer (some ⟨s_.1, 0, none⟩)), (7, .pointer (some ⟨s_.2, 0, none⟩))]) (fun s_ w' => (w'.cell? ad398 = some (.int .i64 ((rd_T23 l0 0).f0)) ∧ w'.cell? ⟨ad398.block, ad398.off + 1, none⟩ = some (.int .i64 ((rd_T23 l0 0).f1)) ∧ w'.cell? ad398 = some (.int .i64 ((rd_T23 l0 0).f0)) ∧ w'.cell? ⟨ad398.block, ad398.off + 1, none⟩ = some (.int .i64 ((rd_T23 l0 0).f1))) ∧ (w'.heap[gb395]? = some (.cells #[.int .i64 0, .int .i64 0] 23 (0, 0))) ∧ (w'.heap[gb396]? = some (.cells #[.int .i64 0, .int .i64 0] 23 (0, 0))) ∧ (w'.heap[s_.1]? = some (.cells #[.int .i64 0, .int .i64 0] 23 (0, 0))) ∧ (w'.heap[s_.2]? = some (.cells #[.int .i64 0, .int .i64 0] 23 (0, 0))) ∧ (w.heap.size ≤ s_.1) ∧ (w.heap.size ≤ s_.1) ∧ (gb395 ≠ s_.1) ∧ (s_.1 ≠ gb395) ∧ (gb396 ≠ s_.1) ∧ (s_.1 ≠ gb396) ∧ (s_.2 ≠ s_.1) ∧ (s_.1 ≠ s_.2) ∧ (w.heap.size ≤ s_.2) ∧ (w.heap.size ≤ s_.2) ∧ (gb395 ≠ s_.2) ∧ (s_.2 ≠ gb395) ∧ (gb396 ≠ s_.2) ∧ (s_.2 ≠ gb396) ∧ (Below w.heap.size w w')) ?_ ?_
      rotate_left
      · intro hCont
        refine two_ (i := 6) (j := 7) (Ni := some 6) (Nj := some 7) #[true, true, true, true, true, true, true, false, false, false] #[true, true, true, true, true, true, false, true, false, false] rfl rfl rfl rfl (two_of HT_.out (by kernel_rfl)) (by decide) (by decide) (fun K hK => ?_) (fun K hK => ?_)
        · skip
          refine box_step ?hg (N := 6) ?hd (cs := #[.int .i64 0, .int .i64 0]) (t := 23) ?hr ?_; (case hd => rfl); (case hg => rfl); (case hr => first | (go_simp; done) | (go_simp; rfl))
          intro gb400 hg w9 hbox hb
          have n0_ := Aside0.mk (blk_below (g := gb395) (o := .cells #[.int .i64 0, .int .i64 0] 23 (0, 0)) (by (with_reducible repeat (first | refine blk_drewN ?_ _ | refine blk_drew ?_ | refine blk_alloc ?_ _)); exact BK395.out) hb)
          have n1_ := Aside0.mk (blk_below (g := gb396) (o := .cells #[.int .i64 0, .int .i64 0] 23 (0, 0)) (by (with_reducible repeat (first | refine blk_drewN ?_ _ | refine blk_drew ?_ | refine blk_alloc ?_ _)); exact BK396.out) hb)
          have n2_ := Aside0.mk (below_step (by repeat (first | (with_reducible first | exact HB.out | apply below_alloc | apply pw_below_drewN | apply below_drew1 | refine below_set ?_ GE395.out | refine below_set ?_ GE396.out) | exact HB.out)) hb)
          have n3_ := Aside0.mk (hbox)
          have n4_ := Aside0.mk ((by rw [hg]; exact (below_size (by repeat (first | (with_reducible first | exact HB.out | apply below_alloc | apply pw_below_drewN | apply below_drew1 | refine below_set ?_ GE395.out | refine below_set ?_ GE396.out) | exact HB.out))) : w.heap.size ≤ gb400))
          have n5_ := Aside0.mk ((by rw [hg]; exact (below_size (by repeat (first | (with_reducible first | exact HB.out | apply below_alloc | apply pw_below_drewN | apply below_drew1 | refine below_set ?_ GE395.out | refine below_set ?_ GE396.out) | exact HB.out))) : w.heap.size ≤ gb400))
          have n6_ := Aside0.mk ((by rw [hg]; exact Nat.ne_of_lt (blk_lt (g := gb395) (o := .cells #[.int .i64 0, .int .i64 0] 23 (0, 0)) (by (with_reducible repeat (first | refine blk_drewN ?_ _ | refine blk_drew ?_ | refine blk_alloc ?_ _)); exact BK395.out)) : gb395 ≠ gb400))
          have n7_ := Aside0.mk ((by rw [hg]; exact Nat.ne_of_gt (blk_lt (g := gb395) (o := .cells #[.int .i64 0, .int .i64 0] 23 (0, 0)) (by (with_reducible repeat (first | refine blk_drewN ?_ _ | refine blk_drew ?_ | refine blk_alloc ?_ _)); exact BK395.out)) : gb400 ≠ gb395))
          have n8_ := Aside0.mk ((by rw [hg]; exact Nat.ne_of_lt (blk_lt (g := gb396) (o := .cells #[.int .i64 0, .int .i64 0] 23 (0, 0)) (by (with_reducible repeat (first | refine blk_drewN ?_ _ | refine blk_drew ?_ | refine blk_alloc ?_ _)); exact BK396.out)) : gb396 ≠ gb400))
          have n9_ := Aside0.mk ((by rw [hg]; exact Nat.ne_of_gt (blk_lt (g := gb396) (o := .cells #[.int .i64 0, .int .i64 0] 23 (0, 0)) (by (with_reducible repeat (first | refine blk_drewN ?_ _ | refine blk_drew ?_ | refine blk_alloc ?_ _)); exact BK396.out)) : gb400 ≠ gb396))
          clear BK395
          clear BK396
          clear HB
          have BK395 := n0_
          have BK396 := n1_
          have HB := n2_
          have BK400 := n3_
          have GW400 := n4_
          have GE400 := n5_
          have NB395_400 := n6_
          have NB400_395 := n7_
          have NB396_400 := n8_
          have NB400_396 := n9_
          clear n0_ n1_ n2_ n3_ n4_ n5_ n6_ n7_ n8_ n9_
          clear hb hbox hg
          refine hK.out _ _ ⟨((HB.out.cell (World.block_lt_of_cell? w _ hw398_0)).trans hw398_0), ((HB.out.cell (World.block_lt_of_cell? w _ hw398_1)).trans hw398_1), ((HB.out.cell (World.block_lt_of_cell? w _ hw399_0)).trans hw399_0), ((HB.out.cell (World.block_lt_of_cell? w _ hw399_1)).trans hw399_1)⟩ (fun hHeld => ?_)
          clear hK K
          refine norm_ (a' := ?_) ?_ ?_
          rotate_left
          · show Act.put _ (some 6) _ = _
            simp only [Act.put, List.setIfInBounds_toArray, List.set_cons_zero, List.set_cons_succ, i64_w, i32_w]
            rfl
          refine one_ (i := 7) (N := some 7) #[true, true, true, true, true, true, true, true, false, false] rfl rfl (one_of HT_.out (by kernel_rfl)) (by decide) (fun K hK => ?_)
          refine box_step ?hg (N := 7) ?hd (cs := #[.int .i64 0, .int .i64 0]) (t := 23) ?hr ?_; (case hd => rfl); (case hg => rfl); (case hr => first | (go_simp; done) | (go_simp; rfl))
          intro gb401 hg w10 hbox hb
          have n0_ := Aside0.mk (blk_below (g := gb395) (o := .cells #[.int .i64 0, .int .i64 0] 23 (0, 0)) (by (with_reducible repeat (first | refine blk_drewN ?_ _ | refine blk_drew ?_ | refine blk_alloc ?_ _)); exact BK395.out) hb)
          have n1_ := Aside0.mk (blk_below (g := gb396) (o := .cells #[.int .i64 0, .int .i64 0] 23 (0, 0)) (by (with_reducible repeat (first | refine blk_drewN ?_ _ | refine blk_drew ?_ | refine blk_alloc ?_ _)); exact BK396.out) hb)
          have n2_ := Aside0.mk (blk_below (g := gb400) (o := .cells #[.int .i64 0, .int .i64 0] 23 (0, 0)) (by (with_reducible repeat (first | refine blk_drewN ?_ _ | refine blk_drew ?_ | refine blk_alloc ?_ _)); exact BK400.out) hb)
          have n3_ := Aside0.mk (below_step (by repeat (first | (with_reducible first | exact HB.out | apply below_alloc | apply pw_below_drewN | apply below_drew1 | refine below_set ?_ GE395.out | refine below_set ?_ GE396.out | refine below_set ?_ GE400.out) | exact HB.out)) hb)
          have n4_ := Aside0.mk (hbox)
          have n5_ := Aside0.mk ((by rw [hg]; exact (below_size (by repeat (first | (with_reducible first | exact HB.out | apply below_alloc | apply pw_below_drewN | apply below_drew1 | refine below_set ?_ GE395.out | refine below_set ?_ GE396.out | refine below_set ?_ GE400.out) | exact HB.out))) : w.heap.size ≤ gb401))
          have n6_ := Aside0.mk ((by rw [hg]; exact (below_size (by repeat (first | (with_reducible first | exact HB.out | apply below_alloc | apply pw_below_drewN | apply below_drew1 | refine below_set ?_ GE395.out | refine below_set ?_ GE396.out | refine below_set ?_ GE400.out) | exact HB.out))) : w.heap.size ≤ gb401))
          have n7_ := Aside0.mk ((by rw [hg]; exact Nat.ne_of_lt (blk_lt (g := gb395) (o := .cells #[.int .i64 0, .int .i64 0] 23 (0, 0)) (by (with_reducible repeat (first | refine blk_drewN ?_ _ | refine blk_drew ?_ | refine blk_alloc ?_ _)); exact BK395.out)) : gb395 ≠ gb401))
          have n8_ := Aside0.mk ((by rw [hg]; exact Nat.ne_of_gt (blk_lt (g := gb395) (o := .cells #[.int .i64 0, .int .i64 0] 23 (0, 0)) (by (with_reducible repeat (first | refine blk_drewN ?_ _ | refine blk_drew ?_ | refine blk_alloc ?_ _)); exact BK395.out)) : gb401 ≠ gb395))
          have n9_ := Aside0.mk ((by rw [hg]; exact Nat.ne_of_lt (blk_lt (g := gb396) (o := .cells #[.int .i64 0, .int .i64 0] 23 (0, 0)) (by (with_reducible repeat (first | refine blk_drewN ?_ _ | refine blk_drew ?_ | refine blk_alloc ?_ _)); exact BK396.out)) : gb396 ≠ gb401))
          have n10_ := Aside0.mk ((by rw [hg]; exact Nat.ne_of_gt (blk_lt (g := gb396) (o := .cells #[.int .i64 0, .int .i64 0] 23 (0, 0)) (by (with_reducible repeat (first | refine blk_drewN ?_ _ | refine blk_drew ?_ | refine blk_alloc ?_ _)); exact BK396.out)) : gb401 ≠ gb396))
          have n11_ := Aside0.mk ((by rw [hg]; exact Nat.ne_of_lt (blk_lt (g := gb400) (o := .cells #[.int .i64 0, .int .i64 0] 23 (0, 0)) (by (with_reducible repeat (first | refine blk_drewN ?_ _ | refine blk_drew ?_ | refine blk_alloc ?_ _)); exact BK400.out)) : gb400 ≠ gb401))
          have n12_ := Aside0.mk ((by rw [hg]; exact Nat.ne_of_gt (blk_lt (g := gb400) (o := .cells #[.int .i64 0, .int .i64 0] 23 (0, 0)) (by (with_reducible repeat (first | refine blk_drewN ?_ _ | refine blk_drew ?_ | refine blk_alloc ?_ _)); exact BK400.out)) : gb401 ≠ gb400))
          clear BK395
          clear BK396
          clear BK400
          clear HB
          have BK395 := n0_
          have BK396 := n1_
          have BK400 := n2_
          have HB := n3_
          have BK401 := n4_
          have GW401 := n5_
          have GE401 := n6_
          have NB395_401 := n7_
          have NB401_395 := n8_
          have NB396_401 := n9_
          have NB401_396 := n10_
          have NB400_401 := n11_
          have NB401_400 := n12_
          clear n0_ n1_ n2_ n3_ n4_ n5_ n6_ n7_ n8_ n9_ n10_ n11_ n12_
          clear hb hbox hg
          refine hK.out _ _ ⟨((HB.out.cell (World.block_lt_of_cell? w _ hw398_0)).trans hw398_0), ((HB.out.cell (World.block_lt_of_cell? w _ hw398_1)).trans hw398_1), ((HB.out.cell (World.block_lt_of_cell? w _ hw399_0)).trans hw399_0), ((HB.out.cell (World.block_lt_of_cell? w _ hw399_1)).trans hw399_1)⟩ (fun hHeld => ?_)
          clear hK K
          refine norm_ (a' := ?_) ?_ ?_
          rotate_left
          · show Act.put _ (some 7) _ = _
            simp only [Act.put, List.setIfInBounds_toArray, List.set_cons_zero, List.set_cons_succ, i64_w, i32_w]
            rfl
          exact norm_ (by simp only [putAll, Act.put, List.setIfInBounds_toArray, List.set_cons_zero, List.set_cons_succ]) (hCont (gb400, gb401) _ ⟨hHeld, (by (with_reducible repeat (first | refine blk_drewN ?_ _ | refine blk_drew ?_ | refine blk_alloc ?_ _)); exact BK395.out), (by (with_reducible repeat (first | refine blk_drewN ?_ _ | refine blk_drew ?_ | refine blk_alloc ?_ _)); exact BK396.out), (by (with_reducible repeat (first | refine blk_drewN ?_ _ | refine blk_drew ?_ | refine blk_alloc ?_ _)); exact BK400.out), (by (with_reducible repeat (first | refine blk_drewN ?_ _ | refine blk_drew ?_ | refine blk_alloc ?_ _)); exact BK401.out), GW400.out, GE400.out, NB395_400.out, NB400_395.out, NB396_400.out, NB400_396.out, NB401_400.out, NB400_401.out, GW401.out, GE401.out, NB395_401.out, NB401_395.out, NB396_401.out, NB401_396.out, (by repeat (first | (with_reducible first | exact HB.out | apply below_alloc | apply pw_below_drewN | apply below_drew1 | refine below_set ?_ GE395.out | refine below_set ?_ GE396.out | refine below_set ?_ GE400.out | refine below_set ?_ GE401.out) | exact HB.out))⟩)
        · skip
          refine box_step ?hg (N := 7) ?hd (cs := #[.int .i64 0, .int .i64 0]) (t := 23) ?hr ?_; (case hd => rfl); (case hg => rfl); (case hr => first | (go_simp; done) | (go_simp; rfl))
          intro gb401 hg w9 hbox hb
          have n0_ := Aside0.mk (blk_below (g := gb395) (o := .cells #[.int .i64 0, .int .i64 0] 23 (0, 0)) (by (with_reducible repeat (first | refine blk_drewN ?_ _ | refine blk_drew ?_ | refine blk_alloc ?_ _)); exact BK395.out) hb)
          have n1_ := Aside0.mk (blk_below (g := gb396) (o := .cells #[.int .i64 0, .int .i64 0] 23 (0, 0)) (by (with_reducible repeat (first | refine blk_drewN ?_ _ | refine blk_drew ?_ | refine blk_alloc ?_ _)); exact BK396.out) hb)
          have n2_ := Aside0.mk (below_step (by repeat (first | (with_reducible first | exact HB.out | apply below_alloc | apply pw_below_drewN | apply below_drew1 | refine below_set ?_ GE395.out | refine below_set ?_ GE396.out) | exact HB.out)) hb)
          have n3_ := Aside0.mk (hbox)
          have n4_ := Aside0.mk ((by rw [hg]; exact (below_size (by repeat (first | (with_reducible first | exact HB.out | apply below_alloc | apply pw_below_drewN | apply below_drew1 | refine below_set ?_ GE395.out | refine below_set ?_ GE396.out) | exact HB.out))) : w.heap.size ≤ gb401))
          have n5_ := Aside0.mk ((by rw [hg]; exact (below_size (by repeat (first | (with_reducible first | exact HB.out | apply below_alloc | apply pw_below_drewN | apply below_drew1 | refine below_set ?_ GE395.out | refine below_set ?_ GE396.out) | exact HB.out))) : w.heap.size ≤ gb401))
          have n6_ := Aside0.mk ((by rw [hg]; exact Nat.ne_of_lt (blk_lt (g := gb395) (o := .cells #[.int .i64 0, .int .i64 0] 23 (0, 0)) (by (with_reducible repeat (first | refine blk_drewN ?_ _ | refine blk_drew ?_ | refine blk_alloc ?_ _)); exact BK395.out)) : gb395 ≠ gb401))
          have n7_ := Aside0.mk ((by rw [hg]; exact Nat.ne_of_gt (blk_lt (g := gb395) (o := .cells #[.int .i64 0, .int .i64 0] 23 (0, 0)) (by (with_reducible repeat (first | refine blk_drewN ?_ _ | refine blk_drew ?_ | refine blk_alloc ?_ _)); exact BK395.out)) : gb401 ≠ gb395))
          have n8_ := Aside0.mk ((by rw [hg]; exact Nat.ne_of_lt (blk_lt (g := gb396) (o := .cells #[.int .i64 0, .int .i64 0] 23 (0, 0)) (by (with_reducible repeat (first | refine blk_drewN ?_ _ | refine blk_drew ?_ | refine blk_alloc ?_ _)); exact BK396.out)) : gb396 ≠ gb401))
          have n9_ := Aside0.mk ((by rw [hg]; exact Nat.ne_of_gt (blk_lt (g := gb396) (o := .cells #[.int .i64 0, .int .i64 0] 23 (0, 0)) (by (with_reducible repeat (first | refine blk_drewN ?_ _ | refine blk_drew ?_ | refine blk_alloc ?_ _)); exact BK396.out)) : gb401 ≠ gb396))
          clear BK395
          clear BK396
          clear HB
          have BK395 := n0_
          have BK396 := n1_
          have HB := n2_
          have BK401 := n3_
          have GW401 := n4_
          have GE401 := n5_
          have NB395_401 := n6_
          have NB401_395 := n7_
          have NB396_401 := n8_
          have NB401_396 := n9_
          clear n0_ n1_ n2_ n3_ n4_ n5_ n6_ n7_ n8_ n9_
          clear hb hbox hg
          refine hK.out _ _ ⟨((HB.out.cell (World.block_lt_of_cell? w _ hw398_0)).trans hw398_0), ((HB.out.cell (World.block_lt_of_cell? w _ hw398_1)).trans hw398_1), ((HB.out.cell (World.block_lt_of_cell? w _ hw399_0)).trans hw399_0), ((HB.out.cell (World.block_lt_of_cell? w _ hw399_1)).trans hw399_1)⟩ (fun hHeld => ?_)
          clear hK K
          refine norm_ (a' := ?_) ?_ ?_
          rotate_left
          · show Act.put _ (some 7) _ = _
            simp only [Act.put, List.setIfInBounds_toArray, List.set_cons_zero, List.set_cons_succ, i64_w, i32_w]
            rfl
          refine one_ (i := 6) (N := some 6) #[true, true, true, true, true, true, true, true, false, false] rfl rfl (one_of HT_.out (by kernel_rfl)) (by decide) (fun K hK => ?_)
          refine box_step ?hg (N := 6) ?hd (cs := #[.int .i64 0, .int .i64 0]) (t := 23) ?hr ?_; (case hd => rfl); (case hg => rfl); (case hr => first | (go_simp; done) | (go_simp; rfl))
          intro gb400 hg w10 hbox hb
          have n0_ := Aside0.mk (blk_below (g := gb395) (o := .cells #[.int .i64 0, .int .i64 0] 23 (0, 0)) (by (with_reducible repeat (first | refine blk_drewN ?_ _ | refine blk_drew ?_ | refine blk_alloc ?_ _)); exact BK395.out) hb)
          have n1_ := Aside0.mk (blk_below (g := gb396) (o := .cells #[.int .i64 0, .int .i64 0] 23 (0, 0)) (by (with_reducible repeat (first | refine blk_drewN ?_ _ | refine blk_drew ?_ | refine blk_alloc ?_ _)); exact BK396.out) hb)
          have n2_ := Aside0.mk (blk_below (g := gb401) (o := .cells #[.int .i64 0, .int .i64 0] 23 (0, 0)) (by (with_reducible repeat (first | refine blk_drewN ?_ _ | refine blk_drew ?_ | refine blk_alloc ?_ _)); exact BK401.out) hb)
          have n3_ := Aside0.mk (below_step (by repeat (first | (with_reducible first | exact HB.out | apply below_alloc | apply pw_below_drewN | apply below_drew1 | refine below_set ?_ GE395.out | refine below_set ?_ GE396.out | refine below_set ?_ GE401.out) | exact HB.out)) hb)
          have n4_ := Aside0.mk (hbox)
          have n5_ := Aside0.mk ((by rw [hg]; exact (below_size (by repeat (first | (with_reducible first | exact HB.out | apply below_alloc | apply pw_below_drewN | apply below_drew1 | refine below_set ?_ GE395.out | refine below_set ?_ GE396.out | refine below_set ?_ GE401.out) | exact HB.out))) : w.heap.size ≤ gb400))
          have n6_ := Aside0.mk ((by rw [hg]; exact (below_size (by repeat (first | (with_reducible first | exact HB.out | apply below_alloc | apply pw_below_drewN | apply below_drew1 | refine below_set ?_ GE395.out | refine below_set ?_ GE396.out | refine below_set ?_ GE401.out) | exact HB.out))) : w.heap.size ≤ gb400))
          have n7_ := Aside0.mk ((by rw [hg]; exact Nat.ne_of_lt (blk_lt (g := gb395) (o := .cells #[.int .i64 0, .int .i64 0] 23 (0, 0)) (by (with_reducible repeat (first | refine blk_drewN ?_ _ | refine blk_drew ?_ | refine blk_alloc ?_ _)); exact BK395.out)) : gb395 ≠ gb400))
          have n8_ := Aside0.mk ((by rw [hg]; exact Nat.ne_of_gt (blk_lt (g := gb395) (o := .cells #[.int .i64 0, .int .i64 0] 23 (0, 0)) (by (with_reducible repeat (first | refine blk_drewN ?_ _ | refine blk_drew ?_ | refine blk_alloc ?_ _)); exact BK395.out)) : gb400 ≠ gb395))
          have n9_ := Aside0.mk ((by rw [hg]; exact Nat.ne_of_lt (blk_lt (g := gb396) (o := .cells #[.int .i64 0, .int .i64 0] 23 (0, 0)) (by (with_reducible repeat (first | refine blk_drewN ?_ _ | refine blk_drew ?_ | refine blk_alloc ?_ _)); exact BK396.out)) : gb396 ≠ gb400))
          have n10_ := Aside0.mk ((by rw [hg]; exact Nat.ne_of_gt (blk_lt (g := gb396) (o := .cells #[.int .i64 0, .int .i64 0] 23 (0, 0)) (by (with_reducible repeat (first | refine blk_drewN ?_ _ | refine blk_drew ?_ | refine blk_alloc ?_ _)); exact BK396.out)) : gb400 ≠ gb396))
          have n11_ := Aside0.mk ((by rw [hg]; exact Nat.ne_of_lt (blk_lt (g := gb401) (o := .cells #[.int .i64 0, .int .i64 0] 23 (0, 0)) (by (with_reducible repeat (first | refine blk_drewN ?_ _ | refine blk_drew ?_ | refine blk_alloc ?_ _)); exact BK401.out)) : gb401 ≠ gb400))
          have n12_ := Aside0.mk ((by rw [hg]; exact Nat.ne_of_gt (blk_lt (g := gb401) (o := .cells #[.int .i64 0, .int .i64 0] 23 (0, 0)) (by (with_reducible repeat (first | refine blk_drewN ?_ _ | refine blk_drew ?_ | refine blk_alloc ?_ _)); exact BK401.out)) : gb400 ≠ gb401))
          clear BK395
          clear BK396
          clear BK401
          clear HB
          have BK395 := n0_
          have BK396 := n1_
          have BK401 := n2_
          have HB := n3_
          have BK400 := n4_
          have GW400 := n5_
          have GE400 := n6_
          have NB395_400 := n7_
          have NB400_395 := n8_
          have NB396_400 := n9_
          have NB400_396 := n10_
          have NB401_400 := n11_
          have NB400_401 := n12_
          clear n0_ n1_ n2_ n3_ n4_ n5_ n6_ n7_ n8_ n9_ n10_ n11_ n12_
          clear hb hbox hg
          refine hK.out _ _ ⟨((HB.out.cell (World.block_lt_of_cell? w _ hw398_0)).trans hw398_0), ((HB.out.cell (World.block_lt_of_cell? w _ hw398_1)).trans hw398_1), ((HB.out.cell (World.block_lt_of_cell? w _ hw399_0)).trans hw399_0), ((HB.out.cell (World.block_lt_of_cell? w _ hw399_1)).trans hw399_1)⟩ (fun hHeld => ?_)
          clear hK K
          refine norm_ (a' := ?_) ?_ ?_
          rotate_left
          · show Act.put _ (some 6) _ = _
            simp only [Act.put, List.setIfInBounds_toArray, List.set_cons_zero, List.set_cons_succ, i64_w, i32_w]
            rfl
          exact norm_ (by simp only [putAll, Act.put, List.setIfInBounds_toArray, List.set_cons_zero, List.set_cons_succ]) (hCont (gb400, gb401) _ ⟨hHeld, (by (with_reducible repeat (first | refine blk_drewN ?_ _ | refine blk_drew ?_ | refine blk_alloc ?_ _)); exact BK395.out), (by (with_reducible repeat (first | refine blk_drewN ?_ _ | refine blk_drew ?_ | refine blk_alloc ?_ _)); exact BK396.out), (by (with_reducible repeat (first | refine blk_drewN ?_ _ | refine blk_drew ?_ | refine blk_alloc ?_ _)); exact BK400.out), (by (with_reducible repeat (first | refine blk_drewN ?_ _ | refine blk_drew ?_ | refine blk_alloc ?_ _)); exact BK401.out), GW400.out, GE400.out, NB395_400.out, NB400_395.out, NB396_400.out, NB400_396.out, NB401_400.out, NB400_401.out, GW401.out, GE401.out, NB395_401.out, NB401_395.out, NB396_401.out, NB401_396.out, (by repeat (first | (with_reducible first | exact HB.out | apply below_alloc | apply pw_below_drewN | apply below_drew1 | refine below_set ?_ GE395.out | refine below_set ?_ GE396.out | refine below_set ?_ GE401.out | refine below_set ?_ GE400.out) | exact HB.out))⟩)
      rintro ⟨gb400, gb401⟩ w11 ⟨hS_, h0_, h1_, h2_, h3_, h4_, h5_, h6_, h7_, h8_, h9_, h10_, h11_, h12_, h13_, h14_, h15_, h16_, h17_, h18_⟩
      have n0_ : Aside0 (w11.heap[gb395]? = some (.cells #[.int .i64 0, .int .i64 0] 23 (0, 0))) := ⟨h0_⟩
      have n1_ : Aside0 (w11.heap[gb396]? = some (.cells #[.int .i64 0, .int .i64 0] 23 (0, 0))) := ⟨h1_⟩
      have n2_ : Aside0 (w11.heap[gb400]? = some (.cells #[.int .i64 0, .int .i64 0] 23 (0, 0))) := ⟨h2_⟩
      have n3_ : Aside0 (w11.heap[gb401]? = some (.cells #[.int .i64 0, .int .i64 0] 23 (0, 0))) := ⟨h3_⟩
      have n4_ : Aside0 (w.heap.size ≤ gb400) := ⟨h4_⟩
      have n5_ : Aside0 (w.heap.size ≤ gb400) := ⟨h5_⟩
      have n6_ : Aside0 (gb395 ≠ gb400) := ⟨h6_⟩
      have n7_ : Aside0 (gb400 ≠ gb395) := ⟨h7_⟩
      have n8_ : Aside0 (gb396 ≠ gb400) := ⟨h8_⟩
      have n9_ : Aside0 (gb400 ≠ gb396) := ⟨h9_⟩
      have n10_ : Aside0 (gb401 ≠ gb400) := ⟨h10_⟩
      have n11_ : Aside0 (gb400 ≠ gb401) := ⟨h11_⟩
      have n12_ : Aside0 (w.heap.size ≤ gb401) := ⟨h12_⟩
      have n13_ : Aside0 (w.heap.size ≤ gb401) := ⟨h13_⟩
      have n14_ : Aside0 (gb395 ≠ gb401) := ⟨h14_⟩
      have n15_ : Aside0 (gb401 ≠ gb395) := ⟨h15_⟩
      have n16_ : Aside0 (gb396 ≠ gb401) := ⟨h16_⟩
      have n17_ : Aside0 (gb401 ≠ gb396) := ⟨h17_⟩
      have n18_ : Aside0 (Below w.heap.size w w11) := ⟨h18_⟩
      clear BK395
      clear BK396
      clear HB
      clear h0_ h1_ h2_ h3_ h4_ h5_ h6_ h7_ h8_ h9_ h10_ h11_ h12_ h13_ h14_ h15_ h16_ h17_ h18_
      have BK395 := n0_
      have BK396 := n1_
      have BK400 := n2_
      have BK401 := n3_
      have GW400 := n4_
      have GE400 := n5_
      have NB395_400 := n6_
      have NB400_395 := n7_
      have NB396_400 := n8_
      have NB400_396 := n9_
      have NB401_400 := n10_
      have NB400_401 := n11_
      have GW401 := n12_
      have GE401 := n13_
      have NB395_401 := n14_
      have NB401_395 := n15_
      have NB396_401 := n16_
      have NB401_396 := n17_
      have HB := n18_
      clear n0_ n1_ n2_ n3_ n4_ n5_ n6_ n7_ n8_ n9_ n10_ n11_ n12_ n13_ n14_ n15_ n16_ n17_ n18_
      have hHeld : w11.cell? ad398 = some (.int .i64 ((rd_T23 l0 0).f0)) ∧ w11.cell? ⟨ad398.block, ad398.off + 1, none⟩ = some (.int .i64 ((rd_T23 l0 0).f1)) ∧ w11.cell? ad398 = some (.int .i64 ((rd_T23 l0 0).f0)) ∧ w11.cell? ⟨ad398.block, ad398.off + 1, none⟩ = some (.int .i64 ((rd_T23 l0 0).f1)) := hS_
      refine norm_ (a' := ?_) ?_ ?_
      rotate_left
      · simp only [putAll, Act.put, List.setIfInBounds_toArray, List.set_cons_zero, List.set_cons_succ]
        rfl
      refine one_ (i := 8) (N := none) #[true, true, true, true, true, true, true, true, true, false] rfl rfl (one_of HT_.out (by kernel_rfl)) (by decide) (fun K hK => ?_)
      have hs12 : w11.cell? ⟨gb400, 0, none⟩ = some (.int .i64 0) := (blk_cell BK400.out 0).trans rfl
      have hfs12 := blk_frozen BK400.out 0
      have hns12_0 := NB395_400.out
      have hns12_1 := NB396_400.out
      have hns12_3 := NB401_400.out
      have hms12_0 := NB400_395.out
      have hms12_1 := NB400_396.out
      have hms12_3 := NB400_401.out
      have hs13 : w11.cell? ⟨gb400, 1, none⟩ = some (.int .i64 0) := (blk_cell BK400.out 1).trans rfl
      have hfs13 := blk_frozen BK400.out 1
      have hns13_0 := NB395_400.out
      have hns13_1 := NB396_400.out
      have hns13_3 := NB401_400.out
      have hms13_0 := NB400_395.out
      have hms13_1 := NB400_396.out
      have hms13_3 := NB400_401.out
      refine skip_ (w1 := ?_) (by rfl) rfl ?_ ?_
      rotate_left
      · go_simp
        rfl
      refine hK.out _ _ ⟨((cell_far (p := ⟨gb400, _, none⟩) (by first | exact Nat.ne_of_lt (Nat.lt_of_lt_of_le (by have := World.block_lt_of_cell? _ _ hw398_0; first | rwa [add_block] at this | exact this) GW400.out) | (rw [add_block]; exact Nat.ne_of_lt (Nat.lt_of_lt_of_le (by have := World.block_lt_of_cell? _ _ hw398_0; first | rwa [add_block] at this | exact this) GW400.out)) | (show (Addr.add _ _).block ≠ _; rw [add_block]; exact Nat.ne_of_lt (Nat.lt_of_lt_of_le (by have := World.block_lt_of_cell? _ _ hw398_0; first | rwa [add_block] at this | exact this) GW400.out)) | (dsimp only; exact Nat.ne_of_lt (Nat.lt_of_lt_of_le (by have := World.block_lt_of_cell? _ _ hw398_0; first | rwa [add_block] at this | exact this) GW400.out))) _).trans (((cell_far (p := ⟨gb400, _, none⟩) (by first | exact Nat.ne_of_lt (Nat.lt_of_lt_of_le (by have := World.block_lt_of_cell? _ _ hw398_0; first | rwa [add_block] at this | exact this) GW400.out) | (rw [add_block]; exact Nat.ne_of_lt (Nat.lt_of_lt_of_le (by have := World.block_lt_of_cell? _ _ hw398_0; first | rwa [add_block] at this | exact this) GW400.out)) | (show (Addr.add _ _).block ≠ _; rw [add_block]; exact Nat.ne_of_lt (Nat.lt_of_lt_of_le (by have := World.block_lt_of_cell? _ _ hw398_0; first | rwa [add_block] at this | exact this) GW400.out)) | (dsimp only; exact Nat.ne_of_lt (Nat.lt_of_lt_of_le (by have := World.block_lt_of_cell? _ _ hw398_0; first | rwa [add_block] at this | exact this) GW400.out))) _).trans (hHeld.1)))), ((cell_far (p := ⟨gb400, _, none⟩) (by first | exact Nat.ne_of_lt (Nat.lt_of_lt_of_le (by have := World.block_lt_of_cell? _ _ hw398_1; first | rwa [add_block] at this | exact this) GW400.out) | (rw [add_block]; exact Nat.ne_of_lt (Nat.lt_of_lt_of_le (by have := World.block_lt_of_cell? _ _ hw398_1; first | rwa [add_block] at this | exact this) GW400.out)) | (show (Addr.add _ _).block ≠ _; rw [add_block]; exact Nat.ne_of_lt (Nat.lt_of_lt_of_le (by have := World.block_lt_of_cell? _ _ hw398_1; first | rwa [add_block] at this | exact this) GW400.out)) | (dsimp only; exact Nat.ne_of_lt (Nat.lt_of_lt_of_le (by have := World.block_lt_of_cell? _ _ hw398_1; first | rwa [add_block] at this | exact this) GW400.out))) _).trans (((cell_far (p := ⟨gb400, _, none⟩) (by first | exact Nat.ne_of_lt (Nat.lt_of_lt_of_le (by have := World.block_lt_of_cell? _ _ hw398_1; first | rwa [add_block] at this | exact this) GW400.out) | (rw [add_block]; exact Nat.ne_of_lt (Nat.lt_of_lt_of_le (by have := World.block_lt_of_cell? _ _ hw398_1; first | rwa [add_block] at this | exact this) GW400.out)) | (show (Addr.add _ _).block ≠ _; rw [add_block]; exact Nat.ne_of_lt (Nat.lt_of_lt_of_le (by have := World.block_lt_of_cell? _ _ hw398_1; first | rwa [add_block] at this | exact this) GW400.out)) | (dsimp only; exact Nat.ne_of_lt (Nat.lt_of_lt_of_le (by have := World.block_lt_of_cell? _ _ hw398_1; first | rwa [add_block] at this | exact this) GW400.out))) _).trans (hHeld.2.1)))), ((cell_far (p := ⟨gb400, _, none⟩) (by first | exact Nat.ne_of_lt (Nat.lt_of_lt_of_le (by have := World.block_lt_of_cell? _ _ hw399_0; first | rwa [add_block] at this | exact this) GW400.out) | (rw [add_block]; exact Nat.ne_of_lt (Nat.lt_of_lt_of_le (by have := World.block_lt_of_cell? _ _ hw399_0; first | rwa [add_block] at this | exact this) GW400.out)) | (show (Addr.add _ _).block ≠ _; rw [add_block]; exact Nat.ne_of_lt (Nat.lt_of_lt_of_le (by have := World.block_lt_of_cell? _ _ hw399_0; first | rwa [add_block] at this | exact this) GW400.out)) | (dsimp only; exact Nat.ne_of_lt (Nat.lt_of_lt_of_le (by have := World.block_lt_of_cell? _ _ hw399_0; first | rwa [add_block] at this | exact this) GW400.out))) _).trans (((cell_far (p := ⟨gb400, _, none⟩) (by first | exact Nat.ne_of_lt (Nat.lt_of_lt_of_le (by have := World.block_lt_of_cell? _ _ hw399_0; first | rwa [add_block] at this | exact this) GW400.out) | (rw [add_block]; exact Nat.ne_of_lt (Nat.lt_of_lt_of_le (by have := World.block_lt_of_cell? _ _ hw399_0; first | rwa [add_block] at this | exact this) GW400.out)) | (show (Addr.add _ _).block ≠ _; rw [add_block]; exact Nat.ne_of_lt (Nat.lt_of_lt_of_le (by have := World.block_lt_of_cell? _ _ hw399_0; first | rwa [add_block] at this | exact this) GW400.out)) | (dsimp only; exact Nat.ne_of_lt (Nat.lt_of_lt_of_le (by have := World.block_lt_of_cell? _ _ hw399_0; first | rwa [add_block] at this | exact this) GW400.out))) _).trans (hHeld.2.2.1)))), ((cell_far (p := ⟨gb400, _, none⟩) (by first | exact Nat.ne_of_lt (Nat.lt_of_lt_of_le (by have := World.block_lt_of_cell? _ _ hw399_1; first | rwa [add_block] at this | exact this) GW400.out) | (rw [add_block]; exact Nat.ne_of_lt (Nat.lt_of_lt_of_le (by have := World.block_lt_of_cell? _ _ hw399_1; first | rwa [add_block] at this | exact this) GW400.out)) | (show (Addr.add _ _).block ≠ _; rw [add_block]; exact Nat.ne_of_lt (Nat.lt_of_lt_of_le (by have := World.block_lt_of_cell? _ _ hw399_1; first | rwa [add_block] at this | exact this) GW400.out)) | (dsimp only; exact Nat.ne_of_lt (Nat.lt_of_lt_of_le (by have := World.block_lt_of_cell? _ _ hw399_1; first | rwa [add_block] at this | exact this) GW400.out))) _).trans (((cell_far (p := ⟨gb400, _, none⟩) (by first | exact Nat.ne_of_lt (Nat.lt_of_lt_of_le (by have := World.block_lt_of_cell? _ _ hw399_1; first | rwa [add_block] at this | exact this) GW400.out) | (rw [add_block]; exact Nat.ne_of_lt (Nat.lt_of_lt_of_le (by have := World.block_lt_of_cell? _ _ hw399_1; first | rwa [add_block] at this | exact this) GW400.out)) | (show (Addr.add _ _).block ≠ _; rw [add_block]; exact Nat.ne_of_lt (Nat.lt_of_lt_of_le (by have := World.block_lt_of_cell? _ _ hw399_1; first | rwa [add_block] at this | exact this) GW400.out)) | (dsimp only; exact Nat.ne_of_lt (Nat.lt_of_lt_of_le (by have := World.block_lt_of_cell? _ _ hw399_1; first | rwa [add_block] at this | exact this) GW400.out))) _).trans (hHeld.2.2.2))))⟩ (fun hHeld => ?_)
      clear hK K
      refine one_ (i := 9) (N := none) #[true, true, true, true, true, true, true, true, true, true] rfl rfl (one_of HT_.out (by kernel_rfl)) (by decide) (fun K hK => ?_)
      have hs14 : w11.cell? ⟨gb401, 0, none⟩ = some (.int .i64 0) := (blk_cell BK401.out 0).trans rfl
      have hfs14 := blk_frozen BK401.out 0
      have hns14_0 := NB395_401.out
      have hns14_1 := NB396_401.out
      have hns14_2 := NB400_401.out
      have hms14_0 := NB401_395.out
      have hms14_1 := NB401_396.out
      have hms14_2 := NB401_400.out
      have hs15 : w11.cell? ⟨gb401, 1, none⟩ = some (.int .i64 0) := (blk_cell BK401.out 1).trans rfl
      have hfs15 := blk_frozen BK401.out 1
      have hns15_0 := NB395_401.out
      have hns15_1 := NB396_401.out
      have hns15_2 := NB400_401.out
      have hms15_0 := NB401_395.out
      have hms15_1 := NB401_396.out
      have hms15_2 := NB401_400.out
      refine skip_ (w1 := ?_) (by rfl) rfl ?_ ?_
      rotate_left
      · go_simp
        rfl
      refine hK.out _ _ ⟨((cell_far (p := ⟨gb401, _, none⟩) (by first | exact Nat.ne_of_lt (Nat.lt_of_lt_of_le (by have := World.block_lt_of_cell? _ _ hw398_0; first | rwa [add_block] at this | exact this) GW401.out) | (rw [add_block]; exact Nat.ne_of_lt (Nat.lt_of_lt_of_le (by have := World.block_lt_of_cell? _ _ hw398_0; first | rwa [add_block] at this | exact this) GW401.out)) | (show (Addr.add _ _).block ≠ _; rw [add_block]; exact Nat.ne_of_lt (Nat.lt_of_lt_of_le (by have := World.block_lt_of_cell? _ _ hw398_0; first | rwa [add_block] at this | exact this) GW401.out)) | (dsimp only; exact Nat.ne_of_lt (Nat.lt_of_lt_of_le (by have := World.block_lt_of_cell? _ _ hw398_0; first | rwa [add_block] at this | exact this) GW401.out))) _).trans (((cell_far (p := ⟨gb401, _, none⟩) (by first | exact Nat.ne_of_lt (Nat.lt_of_lt_of_le (by have := World.block_lt_of_cell? _ _ hw398_0; first | rwa [add_block] at this | exact this) GW401.out) | (rw [add_block]; exact Nat.ne_of_lt (Nat.lt_of_lt_of_le (by have := World.block_lt_of_cell? _ _ hw398_0; first | rwa [add_block] at this | exact this) GW401.out)) | (show (Addr.add _ _).block ≠ _; rw [add_block]; exact Nat.ne_of_lt (Nat.lt_of_lt_of_le (by have := World.block_lt_of_cell? _ _ hw398_0; first | rwa [add_block] at this | exact this) GW401.out)) | (dsimp only; exact Nat.ne_of_lt (Nat.lt_of_lt_of_le (by have := World.block_lt_of_cell? _ _ hw398_0; first | rwa [add_block] at this | exact this) GW401.out))) _).trans (hHeld.1)))), ((cell_far (p := ⟨gb401, _, none⟩) (by first | exact Nat.ne_of_lt (Nat.lt_of_lt_of_le (by have := World.block_lt_of_cell? _ _ hw398_1; first | rwa [add_block] at this | exact this) GW401.out) | (rw [add_block]; exact Nat.ne_of_lt (Nat.lt_of_lt_of_le (by have := World.block_lt_of_cell? _ _ hw398_1; first | rwa [add_block] at this | exact this) GW401.out)) | (show (Addr.add _ _).block ≠ _; rw [add_block]; exact Nat.ne_of_lt (Nat.lt_of_lt_of_le (by have := World.block_lt_of_cell? _ _ hw398_1; first | rwa [add_block] at this | exact this) GW401.out)) | (dsimp only; exact Nat.ne_of_lt (Nat.lt_of_lt_of_le (by have := World.block_lt_of_cell? _ _ hw398_1; first | rwa [add_block] at this | exact this) GW401.out))) _).trans (((cell_far (p := ⟨gb401, _, none⟩) (by first | exact Nat.ne_of_lt (Nat.lt_of_lt_of_le (by have := World.block_lt_of_cell? _ _ hw398_1; first | rwa [add_block] at this | exact this) GW401.out) | (rw [add_block]; exact Nat.ne_of_lt (Nat.lt_of_lt_of_le (by have := World.block_lt_of_cell? _ _ hw398_1; first | rwa [add_block] at this | exact this) GW401.out)) | (show (Addr.add _ _).block ≠ _; rw [add_block]; exact Nat.ne_of_lt (Nat.lt_of_lt_of_le (by have := World.block_lt_of_cell? _ _ hw398_1; first | rwa [add_block] at this | exact this) GW401.out)) | (dsimp only; exact Nat.ne_of_lt (Nat.lt_of_lt_of_le (by have := World.block_lt_of_cell? _ _ hw398_1; first | rwa [add_block] at this | exact this) GW401.out))) _).trans (hHeld.2.1)))), ((cell_far (p := ⟨gb401, _, none⟩) (by first | exact Nat.ne_of_lt (Nat.lt_of_lt_of_le (by have := World.block_lt_of_cell? _ _ hw399_0; first | rwa [add_block] at this | exact this) GW401.out) | (rw [add_block]; exact Nat.ne_of_lt (Nat.lt_of_lt_of_le (by have := World.block_lt_of_cell? _ _ hw399_0; first | rwa [add_block] at this | exact this) GW401.out)) | (show (Addr.add _ _).block ≠ _; rw [add_block]; exact Nat.ne_of_lt (Nat.lt_of_lt_of_le (by have := World.block_lt_of_cell? _ _ hw399_0; first | rwa [add_block] at this | exact this) GW401.out)) | (dsimp only; exact Nat.ne_of_lt (Nat.lt_of_lt_of_le (by have := World.block_lt_of_cell? _ _ hw399_0; first | rwa [add_block] at this | exact this) GW401.out))) _).trans (((cell_far (p := ⟨gb401, _, none⟩) (by first | exact Nat.ne_of_lt (Nat.lt_of_lt_of_le (by have := World.block_lt_of_cell? _ _ hw399_0; first | rwa [add_block] at this | exact this) GW401.out) | (rw [add_block]; exact Nat.ne_of_lt (Nat.lt_of_lt_of_le (by have := World.block_lt_of_cell? _ _ hw399_0; first | rwa [add_block] at this | exact this) GW401.out)) | (show (Addr.add _ _).block ≠ _; rw [add_block]; exact Nat.ne_of_lt (Nat.lt_of_lt_of_le (by have := World.block_lt_of_cell? _ _ hw399_0; first | rwa [add_block] at this | exact this) GW401.out)) | (dsimp only; exact Nat.ne_of_lt (Nat.lt_of_lt_of_le (by have := World.block_lt_of_cell? _ _ hw399_0; first | rwa [add_block] at this | exact this) GW401.out))) _).trans (hHeld.2.2.1)))), ((cell_far (p := ⟨gb401, _, none⟩) (by first | exact Nat.ne_of_lt (Nat.lt_of_lt_of_le (by have := World.block_lt_of_cell? _ _ hw399_1; first | rwa [add_block] at this | exact this) GW401.out) | (rw [add_block]; exact Nat.ne_of_lt (Nat.lt_of_lt_of_le (by have := World.block_lt_of_cell? _ _ hw399_1; first | rwa [add_block] at this | exact this) GW401.out)) | (show (Addr.add _ _).block ≠ _; rw [add_block]; exact Nat.ne_of_lt (Nat.lt_of_lt_of_le (by have := World.block_lt_of_cell? _ _ hw399_1; first | rwa [add_block] at this | exact this) GW401.out)) | (dsimp only; exact Nat.ne_of_lt (Nat.lt_of_lt_of_le (by have := World.block_lt_of_cell? _ _ hw399_1; first | rwa [add_block] at this | exact this) GW401.out))) _).trans (((cell_far (p := ⟨gb401, _, none⟩) (by first | exact Nat.ne_of_lt (Nat.lt_of_lt_of_le (by have := World.block_lt_of_cell? _ _ hw399_1; first | rwa [add_block] at this | exact this) GW401.out) | (rw [add_block]; exact Nat.ne_of_lt (Nat.lt_of_lt_of_le (by have := World.block_lt_of_cell? _ _ hw399_1; first | rwa [add_block] at this | exact this) GW401.out)) | (show (Addr.add _ _).block ≠ _; rw [add_block]; exact Nat.ne_of_lt (Nat.lt_of_lt_of_le (by have := World.block_lt_of_cell? _ _ hw399_1; first | rwa [add_block] at this | exact this) GW401.out)) | (dsimp only; exact Nat.ne_of_lt (Nat.lt_of_lt_of_le (by have := World.block_lt_of_cell? _ _ hw399_1; first | rwa [add_block] at this | exact this) GW401.out))) _).trans (hHeld.2.2.2))))⟩ (fun hHeld => ?_)
      clear hK K
      refine done_ (done_of HT_.out (by kernel_rfl)) ?_
      try go_wp2
      go_loopg [25] k (fun kq v25 w' => ∃ (x25_1 : Int) (x401000_1 : Int) (x401001_1 : Int) (x402000_1 : Int) (x402001_1 : Int), v25 = .int .i64 x25_1 ∧ Aside0 (polygon_Bounds.l0 kq l0 (l0.length : Int) x25_1 x401000_1 x401001_1 x402000_1 x402001_1 = some (r1, r2, r3, r4, r5)) ∧ Aside0 (kq ≤ k) ∧ Aside0 (w'.heap[gb395]? = some (.cells #[.int .i64 0, .int .i64 0] 23 (0, 0))) ∧ Aside0 (w'.heap[gb396]? = some (.cells #[.int .i64 0, .int .i64 0] 23 (0, 0))) ∧ Aside0 (w'.heap[gb400]? = some (.cells #[.int .i64 x401000_1, .int .i64 x401001_1] 23 (0, 0))) ∧ Aside0 (w'.heap[gb401]? = some (.cells #[.int .i64 x402000_1, .int .i64 x402001_1] 23 (0, 0))) ∧ Aside0 (Below w.heap.size w w'))
      case atStart => exact ⟨(0), ((rd_T23 l0 0).f0), ((rd_T23 l0 0).f1), ((rd_T23 l0 0).f0), ((rd_T23 l0 0).f1), (by first | rfl | (simp; done) | (simp [*]; done)), H', ⟨Nat.le_refl _⟩, ⟨by (with_reducible repeat (first | refine blk_drewN ?_ _ | refine blk_drew ?_ | refine blk_alloc ?_ _)); refine blk_far ?_ NB395_401.out _; (with_reducible repeat (first | refine blk_drewN ?_ _ | refine blk_drew ?_ | refine blk_alloc ?_ _)); refine blk_far ?_ NB395_401.out _; (with_reducible repeat (first | refine blk_drewN ?_ _ | refine blk_drew ?_ | refine blk_alloc ?_ _)); refine blk_far ?_ NB395_400.out _; (with_reducible repeat (first | refine blk_drewN ?_ _ | refine blk_drew ?_ | refine blk_alloc ?_ _)); refine blk_far ?_ NB395_400.out _; (with_reducible repeat (first | refine blk_drewN ?_ _ | refine blk_drew ?_ | refine blk_alloc ?_ _)); exact BK395.out⟩, ⟨by (with_reducible repeat (first | refine blk_drewN ?_ _ | refine blk_drew ?_ | refine blk_alloc ?_ _)); refine blk_far ?_ NB396_401.out _; (with_reducible repeat (first | refine blk_drewN ?_ _ | refine blk_drew ?_ | refine blk_alloc ?_ _)); refine blk_far ?_ NB396_401.out _; (with_reducible repeat (first | refine blk_drewN ?_ _ | refine blk_drew ?_ | refine blk_alloc ?_ _)); refine blk_far ?_ NB396_400.out _; (with_reducible repeat (first | refine blk_drewN ?_ _ | refine blk_drew ?_ | refine blk_alloc ?_ _)); refine blk_far ?_ NB396_400.out _; (with_reducible repeat (first | refine blk_drewN ?_ _ | refine blk_drew ?_ | refine blk_alloc ?_ _)); exact BK396.out⟩, ⟨by (with_reducible repeat (first | refine blk_drewN ?_ _ | refine blk_drew ?_ | refine blk_alloc ?_ _)); refine blk_far ?_ NB400_401.out _; (with_reducible repeat (first | refine blk_drewN ?_ _ | refine blk_drew ?_ | refine blk_alloc ?_ _)); refine blk_far ?_ NB400_401.out _; (with_reducible repeat (first | refine blk_drewN ?_ _ | refine blk_drew ?_ | refine blk_alloc ?_ _)); refine blk_put (cs := #[.int .i64 ((rd_T23 l0 0).f0), .int .i64 0]) ?_ 1 _ rfl; (with_reducible repeat (first | refine blk_drewN ?_ _ | refine blk_drew ?_ | refine blk_alloc ?_ _)); refine blk_put (cs := #[.int .i64 0, .int .i64 0]) ?_ 0 _ rfl; (with_reducible repeat (first | refine blk_drewN ?_ _ | refine blk_drew ?_ | refine blk_alloc ?_ _)); exact BK400.out⟩, ⟨by (with_reducible repeat (first | refine blk_drewN ?_ _ | refine blk_drew ?_ | refine blk_alloc ?_ _)); refine blk_put (cs := #[.int .i64 ((rd_T23 l0 0).f0), .int .i64 0]) ?_ 1 _ rfl; (with_reducible repeat (first | refine blk_drewN ?_ _ | refine blk_drew ?_ | refine blk_alloc ?_ _)); refine blk_put (cs := #[.int .i64 0, .int .i64 0]) ?_ 0 _ rfl; (with_reducible repeat (first | refine blk_drewN ?_ _ | refine blk_drew ?_ | refine blk_alloc ?_ _)); refine blk_far ?_ NB401_400.out _; (with_reducible repeat (first | refine blk_drewN ?_ _ | refine blk_drew ?_ | refine blk_alloc ?_ _)); refine blk_far ?_ NB401_400.out _; (with_reducible repeat (first | refine blk_drewN ?_ _ | refine blk_drew ?_ | refine blk_alloc ?_ _)); exact BK401.out⟩, ⟨by repeat (first | (with_reducible first | exact HB.out | apply below_alloc | apply pw_below_drewN | apply below_drew1 | refine below_set ?_ GE395.out | refine below_set ?_ GE396.out | refine below_set ?_ GE400.out | refine below_set ?_ GE401.out) | exact HB.out)⟩⟩
      case round =>
        clear H'
        try clear c2
        try clear p2
        try clear c3
        try clear c3b0
        try clear c3b1
        try clear p3
        try clear q3
        try clear hx3
        try clear qi3
        try clear c4
        try clear c4b0
        try clear c4b1
        try clear hx398_0
        try clear hx398_1
        try clear hx399_0
        try clear hx399_1
        try clear p398
        try clear p399
        try clear q398
        try clear q399
        obtain ⟨x25_1, x401000_1, x401001_1, x402000_1, x402001_1, rfl, HA, HK1, BK395, BK396, BK400, BK401, HB⟩ := hrel
        cases gk with
        | zero => exact absurd HA.out (by simp [polygon_Bounds.l0])
        | succ k1 =>
          have H := HA.out
          clear HA
          simp only [polygon_Bounds.l0] at H
          by_cases c16 : x25_1 < (l0.length : Int)
          · rw [if_pos c16] at H
            have c16b0 : decide (x25_1 < (l0.length : Int)) = true := decide_eq_true c16
            clear c16
            by_cases c17 : 0 ≤ x25_1
            · rw [if_pos c17] at H
              have c17b0 : decide (0 ≤ x25_1) = true := decide_eq_true c17
              clear c17
              by_cases c18 : x25_1 < (l0.length : Int)
              · rw [if_pos c18] at H
                have c18b0 : decide (x25_1 < (l0.length : Int)) = true := decide_eq_true c18
                clear c18
                obtain ⟨ji19, hji19⟩ : ∃ j_ : Int, (mn x401000_1 ((rd_T23 l0 x25_1).f0)) = j_ := ⟨_, rfl⟩
                replace H : (polygon_Bounds.l0 k1 l0 (l0.length : Int) (wrap64 (x25_1 + 1)) ji19 (mn x401001_1 ((rd_T23 l0 x25_1).f1)) (mx x402000_1 ((rd_T23 l0 x25_1).f0)) (mx x402001_1 ((rd_T23 l0 x25_1).f1))) = some (r1, r2, r3, r4, r5) := by first | (rw [hji19] at H; exact H) | (simp only [hji19] at H ⊢; exact H)
                have hji19_ : (if ((rd_T23 l0 x25_1).f0) < x401000_1 then ((rd_T23 l0 x25_1).f0) else x401000_1) = ji19 := hji19
                obtain ⟨ji20, hji20⟩ : ∃ j_ : Int, (mn x401001_1 ((rd_T23 l0 x25_1).f1)) = j_ := ⟨_, rfl⟩
                replace H : (polygon_Bounds.l0 k1 l0 (l0.length : Int) (wrap64 (x25_1 + 1)) ji19 ji20 (mx x402000_1 ((rd_T23 l0 x25_1).f0)) (mx x402001_1 ((rd_T23 l0 x25_1).f1))) = some (r1, r2, r3, r4, r5) := by first | (rw [hji20] at H; exact H) | (simp only [hji20] at H ⊢; exact H)
                have hji20_ : (if ((rd_T23 l0 x25_1).f1) < x401001_1 then ((rd_T23 l0 x25_1).f1) else x401001_1) = ji20 := hji20
                obtain ⟨ji21, hji21⟩ : ∃ j_ : Int, (mx x402000_1 ((rd_T23 l0 x25_1).f0)) = j_ := ⟨_, rfl⟩
                replace H : (polygon_Bounds.l0 k1 l0 (l0.length : Int) (wrap64 (x25_1 + 1)) ji19 ji20 ji21 (mx x402001_1 ((rd_T23 l0 x25_1).f1))) = some (r1, r2, r3, r4, r5) := by first | (rw [hji21] at H; exact H) | (simp only [hji21] at H ⊢; exact H)
                have hji21_ : (if x402000_1 < ((rd_T23 l0 x25_1).f0) then ((rd_T23 l0 x25_1).f0) else x402000_1) = ji21 := hji21
                obtain ⟨ji22, hji22⟩ : ∃ j_ : Int, (mx x402001_1 ((rd_T23 l0 x25_1).f1)) = j_ := ⟨_, rfl⟩
                replace H : (polygon_Bounds.l0 k1 l0 (l0.length : Int) (wrap64 (x25_1 + 1)) ji19 ji20 ji21 ji22) = some (r1, r2, r3, r4, r5) := by first | (rw [hji22] at H; exact H) | (simp only [hji22] at H ⊢; exact H)
                have hji22_ : (if x402001_1 < ((rd_T23 l0 x25_1).f1) then ((rd_T23 l0 x25_1).f1) else x402001_1) = ji22 := hji22
                have H' := Aside0.mk H
                clear H
                have p402 : 0 ≤ (x25_1 : Int) := of_decide_eq_true (by first | (with_reducible assumption) | assumption)
                have q402 : x25_1 < (l0.length : Int) := of_decide_eq_true (by first | (with_reducible assumption) | assumption)
                obtain ⟨ad402, e402, hx402_0, hx402_1⟩ := at_T23 HR0.out x25_1 p402 q402
                obtain rfl : ad398 = ad402 := (by injection e402)
                replace hx402_0 := (HB.out.cell (World.block_lt_of_cell? w _ hx402_0)).trans hx402_0
                replace hx402_1 := (HB.out.cell (World.block_lt_of_cell? w _ hx402_1)).trans hx402_1
                replace p402 := eq_true p402
                replace q402 := eq_true q402
                go_wp2_with (first | ((with_reducible refine gate_dst (N := 9) rfl ?_); refine box_event ?hg (N := 9) ?hd (cs := #[.int .i64 0, .int .i64 0]) (t := 23) ?hr ?_; (case hd => rfl); (case hg => rfl); (case hr => first | (go_simp; done) | (go_simp; rfl)); intro gb403 hg w23 hbox hb; have n0_ := Aside0.mk (blk_below (g := gb395) (o := .cells #[.int .i64 0, .int .i64 0] 23 (0, 0)) (by (with_reducible repeat (first | refine blk_drewN ?_ _ | refine blk_drew ?_ | refine blk_alloc ?_ _)); exact BK395.out) hb); have n1_ := Aside0.mk (blk_below (g := gb396) (o := .cells #[.int .i64 0, .int .i64 0] 23 (0, 0)) (by (with_reducible repeat (first | refine blk_drewN ?_ _ | refine blk_drew ?_ | refine blk_alloc ?_ _)); exact BK396.out) hb); have n2_ := Aside0.mk (blk_below (g := gb400) (o := .cells #[.int .i64 x401000_1, .int .i64 x401001_1] 23 (0, 0)) (by (with_reducible repeat (first | refine blk_drewN ?_ _ | refine blk_drew ?_ | refine blk_alloc ?_ _)); exact BK400.out) hb); have n3_ := Aside0.mk (blk_below (g := gb401) (o := .cells #[.int .i64 x402000_1, .int .i64 x402001_1] 23 (0, 0)) (by (with_reducible repeat (first | refine blk_drewN ?_ _ | refine blk_drew ?_ | refine blk_alloc ?_ _)); exact BK401.out) hb); have n4_ := Aside0.mk (below_step (by repeat (first | (with_reducible first | exact HB.out | apply below_alloc | apply pw_below_drewN | apply below_drew1 | refine below_set ?_ GE395.out | refine below_set ?_ GE396.out | refine below_set ?_ GE400.out | refine below_set ?_ GE401.out) | exact HB.out)) hb); have n5_ := Aside0.mk (hbox); have n6_ := Aside0.mk ((by rw [hg]; exact (below_size (by repeat (first | (with_reducible first | exact HB.out | apply below_alloc | apply pw_below_drewN | apply below_drew1 | refine below_set ?_ GE395.out | refine below_set ?_ GE396.out | refine below_set ?_ GE400.out | refine below_set ?_ GE401.out) | exact HB.out))) : w.heap.size ≤ gb403)); have n7_ := Aside0.mk ((by rw [hg]; exact (below_size (by repeat (first | (with_reducible first | exact HB.out | apply below_alloc | apply pw_below_drewN | apply below_drew1 | refine below_set ?_ GE395.out | refine below_set ?_ GE396.out | refine below_set ?_ GE400.out | refine below_set ?_ GE401.out) | exact HB.out))) : w.heap.size ≤ gb403)); have n8_ := Aside0.mk ((by rw [hg]; exact Nat.ne_of_lt (blk_lt (g := gb395) (o := .cells #[.int .i64 0, .int .i64 0] 23 (0, 0)) (by (with_reducible repeat (first | refine blk_drewN ?_ _ | refine blk_drew ?_ | refine blk_alloc ?_ _)); exact BK395.out)) : gb395 ≠ gb403)); have n9_ := Aside0.mk ((by rw [hg]; exact Nat.ne_of_gt (blk_lt (g := gb395) (o := .cells #[.int .i64 0, .int .i64 0] 23 (0, 0)) (by (with_reducible repeat (first | refine blk_drewN ?_ _ | refine blk_drew ?_ | refine blk_alloc ?_ _)); exact BK395.out)) : gb403 ≠ gb395)); have n10_ := Aside0.mk ((by rw [hg]; exact Nat.ne_of_lt (blk_lt (g := gb396) (o := .cells #[.int .i64 0, .int .i64 0] 23 (0, 0)) (by (with_reducible repeat (first | refine blk_drewN ?_ _ | refine blk_drew ?_ | refine blk_alloc ?_ _)); exact BK396.out)) : gb396 ≠ gb403)); have n11_ := Aside0.mk ((by rw [hg]; exact Nat.ne_of_gt (blk_lt (g := gb396) (o := .cells #[.int .i64 0, .int .i64 0] 23 (0, 0)) (by (with_reducible repeat (first | refine blk_drewN ?_ _ | refine blk_drew ?_ | refine blk_alloc ?_ _)); exact BK396.out)) : gb403 ≠ gb396)); have n12_ := Aside0.mk ((by rw [hg]; exact Nat.ne_of_lt (blk_lt (g := gb400) (o := .cells #[.int .i64 x401000_1, .int .i64 x401001_1] 23 (0, 0)) (by (with_reducible repeat (first | refine blk_drewN ?_ _ | refine blk_drew ?_ | refine blk_alloc ?_ _)); exact BK400.out)) : gb400 ≠ gb403)); have n13_ := Aside0.mk ((by rw [hg]; exact Nat.ne_of_gt (blk_lt (g := gb400) (o := .cells #[.int .i64 x401000_1, .int .i64 x401001_1] 23 (0, 0)) (by (with_reducible repeat (first | refine blk_drewN ?_ _ | refine blk_drew ?_ | refine blk_alloc ?_ _)); exact BK400.out)) : gb403 ≠ gb400)); have n14_ := Aside0.mk ((by rw [hg]; exact Nat.ne_of_lt (blk_lt (g := gb401) (o := .cells #[.int .i64 x402000_1, .int .i64 x402001_1] 23 (0, 0)) (by (with_reducible repeat (first | refine blk_drewN ?_ _ | refine blk_drew ?_ | refine blk_alloc ?_ _)); exact BK401.out)) : gb401 ≠ gb403)); have n15_ := Aside0.mk ((by rw [hg]; exact Nat.ne_of_gt (blk_lt (g := gb401) (o := .cells #[.int .i64 x402000_1, .int .i64 x402001_1] 23 (0, 0)) (by (with_reducible repeat (first | refine blk_drewN ?_ _ | refine blk_drew ?_ | refine blk_alloc ?_ _)); exact BK401.out)) : gb403 ≠ gb401)); clear BK395; clear BK396; clear BK400; clear BK401; clear HB; have BK395 := n0_; have BK396 := n1_; have BK400 := n2_; have BK401 := n3_; have HB := n4_; have BK403 := n5_; have GW403 := n6_; have GE403 := n7_; have NB395_403 := n8_; have NB403_395 := n9_; have NB396_403 := n10_; have NB403_396 := n11_; have NB400_403 := n12_; have NB403_400 := n13_; have NB401_403 := n14_; have NB403_401 := n15_; clear n0_ n1_ n2_ n3_ n4_ n5_ n6_ n7_ n8_ n9_ n10_ n11_ n12_ n13_ n14_ n15_; clear hb hbox hg; have hnb24 := NB403_395.out; have hnc24 := NB395_403.out; have hnb25 := NB403_396.out; have hnc25 := NB396_403.out; have hnb26 := NB403_400.out; have hnc26 := NB400_403.out; have hnb27 := NB403_401.out; have hnc27 := NB401_403.out; have hcz28_0 : w23.cell? ⟨gb403, 0, none⟩ = some (.int .i64 0) := (blk_cell BK403.out 0).trans rfl; have hcz28_1 : w23.cell? ⟨gb403, 1, none⟩ = some (.int .i64 0) := (blk_cell BK403.out 1).trans rfl; have hfz28_0 := blk_frozen BK403.out 0; have hfz28_1 := blk_frozen BK403.out 1; have hnb29 := NB400_395.out; have hnc29 := NB395_400.out; have hnb30 := NB400_396.out; have hnc30 := NB396_400.out; have hnb31 := NB400_401.out; have hnc31 := NB401_400.out; have hcz32_0 : w23.cell? ⟨gb400, 0, none⟩ = some (.int .i64 x401000_1) := (blk_cell BK400.out 0).trans rfl; have hcz32_1 : w23.cell? ⟨gb400, 1, none⟩ = some (.int .i64 x401001_1) := (blk_cell BK400.out 1).trans rfl; have hfz32_0 := blk_frozen BK400.out 0; have hfz32_1 := blk_frozen BK400.out 1; have hnb33 := NB401_395.out; have hnc33 := NB395_401.out; have hnb34 := NB401_396.out; have hnc34 := NB396_401.out; have hcz35_0 : w23.cell? ⟨gb401, 0, none⟩ = some (.int .i64 x402000_1) := (blk_cell BK401.out 0).trans rfl; have hcz35_1 : w23.cell? ⟨gb401, 1, none⟩ = some (.int .i64 x402001_1) := (blk_cell BK401.out 1).trans rfl; have hfz35_0 := blk_frozen BK401.out 0; have hfz35_1 := blk_frozen BK401.out 1))
                go_roundg k1
                case measure => have := HK1.out; omega
                case rel => exact ⟨(wrap64 (x25_1 + 1)), (ji19), (ji20), (ji21), (ji22), (by first | rfl | (simp; done) | (simp [*]; done)), H', ⟨by have := HK1.out; omega⟩, ⟨by (with_reducible repeat (first | refine blk_drewN ?_ _ | refine blk_drew ?_ | refine blk_alloc ?_ _)); refine blk_far ?_ NB395_401.out _; (with_reducible repeat (first | refine blk_drewN ?_ _ | refine blk_drew ?_ | refine blk_alloc ?_ _)); refine blk_far ?_ NB395_401.out _; (with_reducible repeat (first | refine blk_drewN ?_ _ | refine blk_drew ?_ | refine blk_alloc ?_ _)); refine blk_far ?_ NB395_400.out _; (with_reducible repeat (first | refine blk_drewN ?_ _ | refine blk_drew ?_ | refine blk_alloc ?_ _)); refine blk_far ?_ NB395_400.out _; (with_reducible repeat (first | refine blk_drewN ?_ _ | refine blk_drew ?_ | refine blk_alloc ?_ _)); refine blk_far ?_ NB395_403.out _; (with_reducible repeat (first | refine blk_drewN ?_ _ | refine blk_drew ?_ | refine blk_alloc ?_ _)); refine blk_far ?_ NB395_403.out _; (with_reducible repeat (first | refine blk_drewN ?_ _ | refine blk_drew ?_ | refine blk_alloc ?_ _)); exact BK395.out⟩, ⟨by (with_reducible repeat (first | refine blk_drewN ?_ _ | refine blk_drew ?_ | refine blk_alloc ?_ _)); refine blk_far ?_ NB396_401.out _; (with_reducible repeat (first | refine blk_drewN ?_ _ | refine blk_drew ?_ | refine blk_alloc ?_ _)); refine blk_far ?_ NB396_401.out _; (with_reducible repeat (first | refine blk_drewN ?_ _ | refine blk_drew ?_ | refine blk_alloc ?_ _)); refine blk_far ?_ NB396_400.out _; (with_reducible repeat (first | refine blk_drewN ?_ _ | refine blk_drew ?_ | refine blk_alloc ?_ _)); refine blk_far ?_ NB396_400.out _; (with_reducible repeat (first | refine blk_drewN ?_ _ | refine blk_drew ?_ | refine blk_alloc ?_ _)); refine blk_far ?_ NB396_403.out _; (with_reducible repeat (first | refine blk_drewN ?_ _ | refine blk_drew ?_ | refine blk_alloc ?_ _)); refine blk_far ?_ NB396_403.out _; (with_reducible repeat (first | refine blk_drewN ?_ _ | refine blk_drew ?_ | refine blk_alloc ?_ _)); exact BK396.out⟩, ⟨by (with_reducible repeat (first | refine blk_drewN ?_ _ | refine blk_drew ?_ | refine blk_alloc ?_ _)); refine blk_far ?_ NB400_401.out _; (with_reducible repeat (first | refine blk_drewN ?_ _ | refine blk_drew ?_ | refine blk_alloc ?_ _)); refine blk_far ?_ NB400_401.out _; (with_reducible repeat (first | refine blk_drewN ?_ _ | refine blk_drew ?_ | refine blk_alloc ?_ _)); refine blk_put (cs := #[.int .i64 ji19, .int .i64 x401001_1]) ?_ 1 _ rfl; (with_reducible repeat (first | refine blk_drewN ?_ _ | refine blk_drew ?_ | refine blk_alloc ?_ _)); refine blk_put (cs := #[.int .i64 x401000_1, .int .i64 x401001_1]) ?_ 0 _ rfl; (with_reducible repeat (first | refine blk_drewN ?_ _ | refine blk_drew ?_ | refine blk_alloc ?_ _)); refine blk_far ?_ NB400_403.out _; (with_reducible repeat (first | refine blk_drewN ?_ _ | refine blk_drew ?_ | refine blk_alloc ?_ _)); refine blk_far ?_ NB400_403.out _; (with_reducible repeat (first | refine blk_drewN ?_ _ | refine blk_drew ?_ | refine blk_alloc ?_ _)); exact BK400.out⟩, ⟨by (with_reducible repeat (first | refine blk_drewN ?_ _ | refine blk_drew ?_ | refine blk_alloc ?_ _)); refine blk_put (cs := #[.int .i64 ji21, .int .i64 x402001_1]) ?_ 1 _ rfl; (with_reducible repeat (first | refine blk_drewN ?_ _ | refine blk_drew ?_ | refine blk_alloc ?_ _)); refine blk_put (cs := #[.int .i64 x402000_1, .int .i64 x402001_1]) ?_ 0 _ rfl; (with_reducible repeat (first | refine blk_drewN ?_ _ | refine blk_drew ?_ | refine blk_alloc ?_ _)); refine blk_far ?_ NB401_400.out _; (with_reducible repeat (first | refine blk_drewN ?_ _ | refine blk_drew ?_ | refine blk_alloc ?_ _)); refine blk_far ?_ NB401_400.out _; (with_reducible repeat (first | refine blk_drewN ?_ _ | refine blk_drew ?_ | refine blk_alloc ?_ _)); refine blk_far ?_ NB401_403.out _; (with_reducible repeat (first | refine blk_drewN ?_ _ | refine blk_drew ?_ | refine blk_alloc ?_ _)); refine blk_far ?_ NB401_403.out _; (with_reducible repeat (first | refine blk_drewN ?_ _ | refine blk_drew ?_ | refine blk_alloc ?_ _)); exact BK401.out⟩, ⟨by repeat (first | (with_reducible first | exact HB.out | apply below_alloc | apply pw_below_drewN | apply below_drew1 | refine below_set ?_ GE395.out | refine below_set ?_ GE396.out | refine below_set ?_ GE400.out | refine below_set ?_ GE401.out | refine below_set ?_ GE403.out) | exact HB.out)⟩⟩
              · rw [if_neg c18] at H
                exact absurd H (by simp)
            · rw [if_neg c17] at H
              exact absurd H (by simp)
          · rw [if_neg c16] at H
            have c16b0 : decide (x25_1 < (l0.length : Int)) = false := decide_eq_false c16
            clear c16
            simp only [Option.some.injEq, Prod.mk.injEq] at H
            obtain ⟨rfl, rfl, rfl, rfl, rfl⟩ := H
            try go_wp2
            have n0_ := Aside0.mk (blk_drew BK395.out)
            have n1_ := Aside0.mk (blk_drew BK396.out)
            have n2_ := Aside0.mk (blk_drew BK400.out)
            have n3_ := Aside0.mk (blk_drew BK401.out)
            have n4_ := Aside0.mk (below_drew1 HB.out)
            clear BK395
            clear BK396
            clear BK400
            clear BK401
            clear HB
            have BK395 := n0_
            have BK396 := n1_
            have BK400 := n2_
            have BK401 := n3_
            have HB := n4_
            clear n0_ n1_ n2_ n3_ n4_
            refine start_ (n := 5) (S := fun w' => w'.cell? ⟨gb400, 0, none⟩ = some (.int .i64 x401000_1) ∧ w'.cell? ⟨gb400, 1, none⟩ = some (.int .i64 x401001_1) ∧ w'.cell? ⟨gb401, 0, none⟩ = some (.int .i64 x402000_1) ∧ w'.cell? ⟨gb401, 1, none⟩ = some (.int .i64 x402001_1)) (ds := []) #[false, false, false, false, false] (by kernel_rfl) rfl rfl ⟨(blk_cell BK400.out 0).trans rfl, (blk_cell BK400.out 1).trans rfl, (blk_cell BK401.out 0).trans rfl, (blk_cell BK401.out 1).trans rfl⟩ (fun hHeld => ?_)
            generalize wr.drew = w36 at BK395 BK396 BK400 BK401 HB hHeld ⊢
            refine take_ (i := 0) (N := some 52) (v := ?_) (a' := ?_) #[true, false, false, false, false] rfl rfl (by kernel_rfl) (fun _ _ _ h => h) (Or.inl ⟨by rfl, ?_⟩) hHeld ?_ ?_
            rotate_left
            · rintro w' ⟨s0, s1, s2, s3⟩
              go_simp
              with_reducible rfl
            rotate_left
            · simp only [Act.put, List.setIfInBounds_toArray, List.set_cons_zero, List.set_cons_succ, i64_w, i32_w]
              rfl
            refine take_ (i := 1) (N := some 53) (v := ?_) (a' := ?_) #[true, true, false, false, false] rfl rfl (by kernel_rfl) (fun _ _ _ h => h) (Or.inl ⟨by rfl, ?_⟩) hHeld ?_ ?_
            rotate_left
            · rintro w' ⟨s0, s1, s2, s3⟩
              go_simp
              with_reducible rfl
            rotate_left
            · simp only [Act.put, List.setIfInBounds_toArray, List.set_cons_zero, List.set_cons_succ, i64_w, i32_w]
              rfl
            refine one_ (i := 2) (N := none) #[true, true, true, false, false] rfl rfl (by kernel_rfl) (by decide) (fun K hK => ?_)
            have hs37 : w36.cell? ⟨gb395, 0, none⟩ = some (.int .i64 0) := (blk_cell BK395.out 0).trans rfl
            have hfs37 := blk_frozen BK395.out 0
            have hns37_1 := NB396_395.out
            have hns37_2 := NB400_395.out
            have hns37_3 := NB401_395.out
            have hms37_1 := NB395_396.out
            have hms37_2 := NB395_400.out
            have hms37_3 := NB395_401.out
            have hs38 : w36.cell? ⟨gb395, 1, none⟩ = some (.int .i64 0) := (blk_cell BK395.out 1).trans rfl
            have hfs38 := blk_frozen BK395.out 1
            have hns38_1 := NB396_395.out
            have hns38_2 := NB400_395.out
            have hns38_3 := NB401_395.out
            have hms38_1 := NB395_396.out
            have hms38_2 := NB395_400.out
            have hms38_3 := NB395_401.out
            refine skip_ (w1 := ?_) (by rfl) rfl ?_ ?_
            rotate_left
            · go_simp
              rfl
            refine hK.out _ _ ⟨((cell_far (p := ⟨gb395, _, none⟩) NB400_395.out _).trans (((cell_far (p := ⟨gb395, _, none⟩) NB400_395.out _).trans (hHeld.1)))), ((cell_far (p := ⟨gb395, _, none⟩) NB400_395.out _).trans (((cell_far (p := ⟨gb395, _, none⟩) NB400_395.out _).trans (hHeld.2.1)))), ((cell_far (p := ⟨gb395, _, none⟩) NB401_395.out _).trans (((cell_far (p := ⟨gb395, _, none⟩) NB401_395.out _).trans (hHeld.2.2.1)))), ((cell_far (p := ⟨gb395, _, none⟩) NB401_395.out _).trans (((cell_far (p := ⟨gb395, _, none⟩) NB401_395.out _).trans (hHeld.2.2.2))))⟩ (fun hHeld => ?_)
            clear hK K
            refine one_ (i := 3) (N := none) #[true, true, true, true, false] rfl rfl (by kernel_rfl) (by decide) (fun K hK => ?_)
            have hs39 : w36.cell? ⟨gb396, 0, none⟩ = some (.int .i64 0) := (blk_cell BK396.out 0).trans rfl
            have hfs39 := blk_frozen BK396.out 0
            have hns39_0 := NB395_396.out
            have hns39_2 := NB400_396.out
            have hns39_3 := NB401_396.out
            have hms39_0 := NB396_395.out
            have hms39_2 := NB396_400.out
            have hms39_3 := NB396_401.out
            have hs40 : w36.cell? ⟨gb396, 1, none⟩ = some (.int .i64 0) := (blk_cell BK396.out 1).trans rfl
            have hfs40 := blk_frozen BK396.out 1
            have hns40_0 := NB395_396.out
            have hns40_2 := NB400_396.out
            have hns40_3 := NB401_396.out
            have hms40_0 := NB396_395.out
            have hms40_2 := NB396_400.out
            have hms40_3 := NB396_401.out
            refine skip_ (w1 := ?_) (by rfl) rfl ?_ ?_
            rotate_left
            · go_simp
              rfl
            refine hK.out _ _ ⟨((cell_far (p := ⟨gb396, _, none⟩) NB400_396.out _).trans (((cell_far (p := ⟨gb396, _, none⟩) NB400_396.out _).trans (hHeld.1)))), ((cell_far (p := ⟨gb396, _, none⟩) NB400_396.out _).trans (((cell_far (p := ⟨gb396, _, none⟩) NB400_396.out _).trans (hHeld.2.1)))), ((cell_far (p := ⟨gb396, _, none⟩) NB401_396.out _).trans (((cell_far (p := ⟨gb396, _, none⟩) NB401_396.out _).trans (hHeld.2.2.1)))), ((cell_far (p := ⟨gb396, _, none⟩) NB401_396.out _).trans (((cell_far (p := ⟨gb396, _, none⟩) NB401_396.out _).trans (hHeld.2.2.2))))⟩ (fun hHeld => ?_)
            clear hK K
            refine pure_ (i := 4) (N := some 4) (v := ?_) (a' := ?_) #[true, true, true, true, true] rfl rfl (by kernel_rfl) (fun _ _ _ h => h) (Or.inl ⟨by rfl, ?_⟩) ?_ ?_
            rotate_left
            · intro w'
              go_simp
              with_reducible rfl
            rotate_left
            · simp only [Act.put, List.setIfInBounds_toArray, List.set_cons_zero, List.set_cons_succ, i64_w, i32_w]
              rfl
            refine done_ (by kernel_rfl) ?_
            try go_wp2
            refine bodyPost_ret (results_list (rs := [.cell 2 23, .cell 3 23, .tmp 4]) rfl (by simp) (.cell gb395 23 #[.int .i64 x401000_1, .int .i64 x401001_1] (0, 0) _ rfl (by (with_reducible repeat (first | refine blk_drewN ?_ _ | refine blk_drew ?_ | refine blk_alloc ?_ _)); refine blk_far ?_ NB395_396.out _; (with_reducible repeat (first | refine blk_drewN ?_ _ | refine blk_drew ?_ | refine blk_alloc ?_ _)); refine blk_far ?_ NB395_396.out _; (with_reducible repeat (first | refine blk_drewN ?_ _ | refine blk_drew ?_ | refine blk_alloc ?_ _)); refine blk_put (cs := #[.int .i64 x401000_1, .int .i64 0]) ?_ 1 _ rfl; (with_reducible repeat (first | refine blk_drewN ?_ _ | refine blk_drew ?_ | refine blk_alloc ?_ _)); refine blk_put (cs := #[.int .i64 0, .int .i64 0]) ?_ 0 _ rfl; (with_reducible repeat (first | refine blk_drewN ?_ _ | refine blk_drew ?_ | refine blk_alloc ?_ _)); exact BK395.out) Try.underlying23 rfl (by kernel_rfl) (.cell gb396 23 #[.int .i64 x402000_1, .int .i64 x402001_1] (0, 0) _ rfl (by (with_reducible repeat (first | refine blk_drewN ?_ _ | refine blk_drew ?_ | refine blk_alloc ?_ _)); refine blk_put (cs := #[.int .i64 x402000_1, .int .i64 0]) ?_ 1 _ rfl; (with_reducible repeat (first | refine blk_drewN ?_ _ | refine blk_drew ?_ | refine blk_alloc ?_ _)); refine blk_put (cs := #[.int .i64 0, .int .i64 0]) ?_ 0 _ rfl; (with_reducible repeat (first | refine blk_drewN ?_ _ | refine blk_drew ?_ | refine blk_alloc ?_ _)); refine blk_far ?_ NB396_395.out _; (with_reducible repeat (first | refine blk_drewN ?_ _ | refine blk_drew ?_ | refine blk_alloc ?_ _)); refine blk_far ?_ NB396_395.out _; (with_reducible repeat (first | refine blk_drewN ?_ _ | refine blk_drew ?_ | refine blk_alloc ?_ _)); exact BK396.out) Try.underlying23 rfl (by kernel_rfl) (.tmp .nil)))) rfl ?_
            exact ⟨by first | rfl | (simp [errW_none, errW_some] <;> rfl) | (simp [*, errW_none, errW_some] <;> rfl), by repeat (first | (with_reducible first | exact HB.out | apply below_alloc | apply pw_below_drewN | apply below_drew1 | refine below_set ?_ GE395.out | refine below_set ?_ GE396.out | refine below_set ?_ GE400.out | refine below_set ?_ GE401.out) | exact HB.out)⟩
    · rw [if_neg c4] at H
      exact absurd H (by simp)
  · rw [if_neg c3] at H
    have c3b0 : (t397 == 0) = false := beq_eq_false_iff_ne.mpr c3
    have c3b1 : (t397 != 0) = true := bne_iff_ne.mpr c3
    simp only [Option.some.injEq, Prod.mk.injEq] at H
    obtain ⟨rfl, rfl, rfl, rfl, rfl⟩ := H
    go_enter Try.func26, Try.ntmps26
    go_wp2_with (first | ((with_reducible refine gate_dst (N := 2) rfl ?_); refine box_event ?hg (N := 2) ?hd (cs := #[.int .i64 0, .int .i64 0]) (t := 23) ?hr ?_; (case hd => rfl); (case hg => rfl); (case hr => first | (go_simp; done) | (go_simp; rfl)); intro gb395 hg w41 hbox hb; have n0_ := Aside0.mk (below_step (by repeat (first | (with_reducible first | exact HB.out | apply below_alloc | apply pw_below_drewN | apply below_drew1) | exact HB.out)) hb); have n1_ := Aside0.mk (hbox); have n2_ := Aside0.mk ((by rw [hg]; exact (below_size (by repeat (first | (with_reducible first | exact HB.out | apply below_alloc | apply pw_below_drewN | apply below_drew1) | exact HB.out))) : w.heap.size ≤ gb395)); have n3_ := Aside0.mk ((by rw [hg]; exact (below_size (by repeat (first | (with_reducible first | exact HB.out | apply below_alloc | apply pw_below_drewN | apply below_drew1) | exact HB.out))) : w.heap.size ≤ gb395)); clear HB; have HB := n0_; have BK395 := n1_; have GW395 := n2_; have GE395 := n3_; clear n0_ n1_ n2_ n3_; clear hb hbox hg) | ((with_reducible refine gate_dst (N := 3) rfl ?_); refine box_event ?hg (N := 3) ?hd (cs := #[.int .i64 0, .int .i64 0]) (t := 23) ?hr ?_; (case hd => rfl); (case hg => rfl); (case hr => first | (go_simp; done) | (go_simp; rfl)); intro gb396 hg w42 hbox hb; have n0_ := Aside0.mk (blk_below (g := gb395) (o := .cells #[.int .i64 0, .int .i64 0] 23 (0, 0)) (by (with_reducible repeat (first | refine blk_drewN ?_ _ | refine blk_drew ?_ | refine blk_alloc ?_ _)); exact BK395.out) hb); have n1_ := Aside0.mk (below_step (by repeat (first | (with_reducible first | exact HB.out | apply below_alloc | apply pw_below_drewN | apply below_drew1 | refine below_set ?_ GE395.out) | exact HB.out)) hb); have n2_ := Aside0.mk (hbox); have n3_ := Aside0.mk ((by rw [hg]; exact (below_size (by repeat (first | (with_reducible first | exact HB.out | apply below_alloc | apply pw_below_drewN | apply below_drew1 | refine below_set ?_ GE395.out) | exact HB.out))) : w.heap.size ≤ gb396)); have n4_ := Aside0.mk ((by rw [hg]; exact (below_size (by repeat (first | (with_reducible first | exact HB.out | apply below_alloc | apply pw_below_drewN | apply below_drew1 | refine below_set ?_ GE395.out) | exact HB.out))) : w.heap.size ≤ gb396)); have n5_ := Aside0.mk ((by rw [hg]; exact Nat.ne_of_lt (blk_lt (g := gb395) (o := .cells #[.int .i64 0, .int .i64 0] 23 (0, 0)) (by (with_reducible repeat (first | refine blk_drewN ?_ _ | refine blk_drew ?_ | refine blk_alloc ?_ _)); exact BK395.out)) : gb395 ≠ gb396)); have n6_ := Aside0.mk ((by rw [hg]; exact Nat.ne_of_gt (blk_lt (g := gb395) (o := .cells #[.int .i64 0, .int .i64 0] 23 (0, 0)) (by (with_reducible repeat (first | refine blk_drewN ?_ _ | refine blk_drew ?_ | refine blk_alloc ?_ _)); exact BK395.out)) : gb396 ≠ gb395)); clear BK395; clear HB; have BK395 := n0_; have HB := n1_; have BK396 := n2_; have GW396 := n3_; have GE396 := n4_; have NB395_396 := n5_; have NB396_395 := n6_; clear n0_ n1_ n2_ n3_ n4_ n5_ n6_; clear hb hbox hg) | ((with_reducible refine gate_callee (f := 38) rfl ?_); refine goesL_ (some 11) rfl rfl Try.func38 (by kernel_rfl) rfl #[.slice A0 l0.length c0, .slice none 0 0] rfl (by (try simp only [List.map_toArray, List.map_cons, List.map_nil]); first | done | rfl | (simp only [List.length_drop, List.length_take]; rfl)) ?_; (refine (polygon_check.calls k _ _ l0 _ _ ([] : List (S23)) t397 _ ?side1 ?side2 ?side3 ?side4 A2.out).mono ?_); (case side1 => repeat (first | exact (Kd.C_below HR0.out HB.out) | (with_reducible refine Kd.C_alloc ?_ _) | (with_reducible refine Kd.C_drewN ?_ _) | (with_reducible refine Kd.C_drew ?_))); (case side2 => exact HC0.out); (case side3 => exact Kd.C_nil _ _); (case side4 => exact Nat.le_refl _); rintro e w43 ⟨rfl, hb⟩; refine ⟨_, rfl, ?_⟩; have n0_ := Aside0.mk (blk_below (g := gb395) (o := .cells #[.int .i64 0, .int .i64 0] 23 (0, 0)) (by (with_reducible repeat (first | refine blk_drewN ?_ _ | refine blk_drew ?_ | refine blk_alloc ?_ _)); exact BK395.out) hb); have n1_ := Aside0.mk (blk_below (g := gb396) (o := .cells #[.int .i64 0, .int .i64 0] 23 (0, 0)) (by (with_reducible repeat (first | refine blk_drewN ?_ _ | refine blk_drew ?_ | refine blk_alloc ?_ _)); exact BK396.out) hb); have n2_ := Aside0.mk (below_step (by repeat (first | (with_reducible first | exact HB.out | apply below_alloc | apply pw_below_drewN | apply below_drew1 | refine below_set ?_ GE395.out | refine below_set ?_ GE396.out) | exact HB.out)) hb); clear BK395; clear BK396; clear HB; have BK395 := n0_; have BK396 := n1_; have HB := n2_; clear n0_ n1_ n2_; (try clear hb); (try clear hb2); (try clear hk); (try clear hi); have hnb44 := NB395_396.out; have hnc44 := NB396_395.out; have hcz45_0 : w43.cell? ⟨gb395, 0, none⟩ = some (.int .i64 0) := (blk_cell BK395.out 0).trans rfl; have hcz45_1 : w43.cell? ⟨gb395, 1, none⟩ = some (.int .i64 0) := (blk_cell BK395.out 1).trans rfl; have hfz45_0 := blk_frozen BK395.out 0; have hfz45_1 := blk_frozen BK395.out 1; have hcz46_0 : w43.cell? ⟨gb396, 0, none⟩ = some (.int .i64 0) := (blk_cell BK396.out 0).trans rfl; have hcz46_1 : w43.cell? ⟨gb396, 1, none⟩ = some (.int .i64 0) := (blk_cell BK396.out 1).trans rfl; have hfz46_0 := blk_frozen BK396.out 0; have hfz46_1 := blk_frozen BK396.out 1))
    refine bodyPost_ret (results_list (rs := [.cell 2 23, .cell 3 23, .tmp 4]) rfl (by simp) (.cell gb395 23 #[.int .i64 0, .int .i64 0] (0, 0) _ rfl (by (with_reducible repeat (first | refine blk_drewN ?_ _ | refine blk_drew ?_ | refine blk_alloc ?_ _)); refine blk_far ?_ NB395_396.out _; (with_reducible repeat (first | refine blk_drewN ?_ _ | refine blk_drew ?_ | refine blk_alloc ?_ _)); refine blk_far ?_ NB395_396.out _; (with_reducible repeat (first | refine blk_drewN ?_ _ | refine blk_drew ?_ | refine blk_alloc ?_ _)); refine blk_put (cs := #[.int .i64 0, .int .i64 0]) ?_ 1 _ rfl; (with_reducible repeat (first | refine blk_drewN ?_ _ | refine blk_drew ?_ | refine blk_alloc ?_ _)); refine blk_put (cs := #[.int .i64 0, .int .i64 0]) ?_ 0 _ rfl; (with_reducible repeat (first | refine blk_drewN ?_ _ | refine blk_drew ?_ | refine blk_alloc ?_ _)); exact BK395.out) Try.underlying23 rfl (by kernel_rfl) (.cell gb396 23 #[.int .i64 0, .int .i64 0] (0, 0) _ rfl (by (with_reducible repeat (first | refine blk_drewN ?_ _ | refine blk_drew ?_ | refine blk_alloc ?_ _)); refine blk_put (cs := #[.int .i64 0, .int .i64 0]) ?_ 1 _ rfl; (with_reducible repeat (first | refine blk_drewN ?_ _ | refine blk_drew ?_ | refine blk_alloc ?_ _)); refine blk_put (cs := #[.int .i64 0, .int .i64 0]) ?_ 0 _ rfl; (with_reducible repeat (first | refine blk_drewN ?_ _ | refine blk_drew ?_ | refine blk_alloc ?_ _)); refine blk_far ?_ NB396_395.out _; (with_reducible repeat (first | refine blk_drewN ?_ _ | refine blk_drew ?_ | refine blk_alloc ?_ _)); refine blk_far ?_ NB396_395.out _; (with_reducible repeat (first | refine blk_drewN ?_ _ | refine blk_drew ?_ | refine blk_alloc ?_ _)); exact BK396.out) Try.underlying23 rfl (by kernel_rfl) (.tmp .nil)))) rfl ?_
    exact ⟨by first | rfl | (simp [errW_none, errW_some] <;> rfl) | (simp [*, errW_none, errW_some] <;> rfl), by repeat (first | (with_reducible first | exact HB.out | apply below_alloc | apply pw_below_drewN | apply below_drew1 | refine below_set ?_ GE395.out | refine below_set ?_ GE396.out) | exact HB.out)⟩

def polygon_Check.f (k : Nat) (l0 : List (S23)) : Option (Int) := (polygon_check.f k l0 ([] : List (S23))).bind fun t404 => (some t404)
set_option maxHeartbeats 8000000 in
set_option maxRecDepth 100000 in
theorem polygon_Check.calls (k : Nat) (A0 : Option Addr) (c0 : Nat) (l0 : List (S23)) (r : Int) (w : World) (hr0 : Kd.C k23 w A0 l0.length l0) (hc0 : l0.length ≤ c0) (h : polygon_Check.f k l0 = some r) :
    Calls Try.prog 27 #[.slice A0 l0.length c0] w fun e w' => e = .returned (.int .i64 r) ∧ Below w.heap.size w w' := by
  have HR0 := Aside0.mk hr0
  have HC0 := Aside0.mk hc0
  clear hr0 hc0
  have HB := Aside0.mk (Below.refl w.heap.size w)
  have H : ((polygon_check.f k l0 ([] : List (S23))).bind fun t404 => (some t404)) = some r := h
  clear h
  replace H := Option.bind_eq_some_iff.mp H
  obtain ⟨t404, A20, H⟩ := H
  replace H : (some t404) = some r := H
  have A2 := Aside0.mk A20
  clear A20
  obtain rfl := Option.some.inj H
  go_enter Try.func27, Try.ntmps27
  go_wp2_with (first | ((with_reducible refine gate_callee (f := 38) rfl ?_); refine goesL_ (some 4) rfl rfl Try.func38 (by kernel_rfl) rfl #[.slice A0 l0.length c0, .slice none 0 0] rfl (by (try simp only [List.map_toArray, List.map_cons, List.map_nil]); first | done | rfl | (simp only [List.length_drop, List.length_take]; rfl)) ?_; (refine (polygon_check.calls k _ _ l0 _ _ ([] : List (S23)) t404 _ ?side1 ?side2 ?side3 ?side4 A2.out).mono ?_); (case side1 => repeat (first | exact HR0.out | (with_reducible refine Kd.C_alloc ?_ _) | (with_reducible refine Kd.C_drewN ?_ _) | (with_reducible refine Kd.C_drew ?_))); (case side2 => exact HC0.out); (case side3 => exact Kd.C_nil _ _); (case side4 => exact Nat.le_refl _); rintro e w3 ⟨rfl, hb⟩; refine ⟨_, rfl, ?_⟩; have n0_ := Aside0.mk (below_step (by repeat (first | (with_reducible first | exact HB.out | apply below_alloc | apply pw_below_drewN | apply below_drew1) | exact HB.out)) hb); clear HB; have HB := n0_; clear n0_; (try clear hb); (try clear hb2); (try clear hk); (try clear hi)))
  go_ret
  exact ⟨by first | rfl | (simp [errW_none, errW_some] <;> rfl) | (simp [*, errW_none, errW_some] <;> rfl), by repeat (first | (with_reducible first | exact HB.out | apply below_alloc | apply pw_below_drewN | apply below_drew1) | exact HB.out)⟩

-- IMPORT Derived.WalkSpells
def api_Point_57.f (l0 : List S23) : Option (List S23) := if l0.length < 1099511627776 then some l0 else none

set_option maxHeartbeats 1000000 in
set_option maxRecDepth 100000 in
theorem api_Point_57.calls (A0 : Option Addr) (c0 : Nat) (l0 : List S23) (r : List S23) (w : World) (hr0 : Kd.C k23 w A0 l0.length l0) (hc0 : l0.length ≤ c0) (h : api_Point_57.f l0 = some r) :
    Calls Try.prog 57 #[.slice A0 l0.length c0] w fun e w' => ∃ v0_ : Value, e = .returned v0_ ∧ Kd.R k23 23 w' w.heap.size (fun _ => True) v0_ r ∧ Below w.heap.size w w' := by
  unfold api_Point_57.f at h
  split at h
  case isFalse => exact absurd h (by simp)
  case isTrue hl =>
  obtain rfl := Option.some.inj h
  clear h
  have HL := Aside0.mk hl
  clear hl
  have HR := Aside0.mk hr0
  clear hr0
  rcases A0 with _ | ad
  · have h0 : l0 = [] := by
      rcases Nat.eq_zero_or_pos l0.length with h | h
      · exact List.eq_nil_of_length_eq_zero h
      · obtain ⟨ad, e, _⟩ := HR.out.2.2 h
        cases e
    subst h0
    have hq := fun W => Lib.run_eql_slice_nil (P := Try.prog) W 29 23 none 0 c0 0 0 Try.underlying29
    go_enter Try.func57, Try.ntmps57
    go_wp2
    go_ret
    exact ⟨_, rfl, Kd.R_nil _ _ _ _ _, Below.refl _ _⟩
  · have hq := fun W => Lib.run_eql_slice_nil (P := Try.prog) W 29 23 (some ad) l0.length c0 0 0 Try.underlying29
    go_enter Try.func57, Try.ntmps57
    go_wp2_with (first | ((with_reducible refine gate_dst (N := 5) rfl ?_); refine Kd.R_lit k23 _ 23 ?hg (N := 5) ?hd (xs := ([] : List (S23))) (inner := []) (ok := fun _ => True) (okp := fun _ => True) ?hr ?hp (fun _ hk => hk) trivial (Below.refl _ _) (Nat.le_refl _) (by simp) ?_; (case hd => rfl); (case hg => rfl); (case hr => first | (go_simp; done) | (go_simp; rfl)); (case hp => exact (Reps.none _ _)); intro v1 w1 ho9 hb hg_ hnew_; clear hg_ hnew_; have HO := Aside0.mk ho9; have HB := Aside0.mk hb; clear ho9 hb) | ((with_reducible refine gate_builtin (b := .append) (xs := #[.tmp 5, .tmp 6]) rfl ?_); at_builtin; refine Kd.R_append_rows k23 (w0 := w) w.heap.size rfl (.tmp 5) (.tmp 6) 29 23 (.agg #[(.int .i64 0), (.int .i64 0)]) 16 rfl Try.underlying29 info23 rfl (by decide) (by omega) _ [] l0 _ _ _ (fun _ => True) (fun _ => False) rfl rfl ?aO ?aR (fun _ _ h => h) (fun _ h => h.elim) ?aF ?aB ?aS ?aL ?_; (case aR => exact Kd.C_below HR.out HB.out); (case aB => exact HB.out); (case aF => exact (fun _ _ => trivial)); (case aO => exact HO.out); (case aS => exact below_size HB.out); (case aL => have := HL.out; simp; omega); intro v2 w2 ho hb hg hat; have HO2 := Aside0.mk ho; have HB2 := Aside0.mk hb; clear ho hb hg hat))
    go_ret
    exact ⟨_, rfl, HO2.out, HB2.out⟩

-- IMPORT Derived.Shelf.SlicesQ.Reverse
def api_Point_58.f (l0 : List S23) : Option (List S23) := if l0.length < 1099511627776 then some l0.reverse else none
set_option maxHeartbeats 1000000 in
set_option maxRecDepth 100000 in
theorem api_Point_58.calls (P0_ : Nat → Prop) (u9000_ : Value) (l0 : List S23) (r : List S23) (w0 w : World) (hB : Below w0.heap.size w0 w) (ho0 : Kd.R k23 23 w w0.heap.size P0_ u9000_ l0) (h : api_Point_58.f l0 = some r) :
    Calls Try.prog 58 #[u9000_] w fun e w' => e = .returned (.tuple #[]) ∧ Kd.R k23 23 w' w0.heap.size (fun k_ => (P0_ k_ ∨ w.heap.size ≤ k_)) u9000_ r ∧ Below w0.heap.size w0 w' ∧ Kept w w' (fun k_ => P0_ k_) := by
  unfold api_Point_58.f at h
  split at h
  case isFalse => exact absurd h (by simp)
  case isTrue hl =>
  obtain rfl := Option.some.inj h
  clear h
  rcases List.eq_nil_or_concat l0 with rfl | ⟨l', x', hx⟩
  · obtain ⟨A1, c1, rfl⟩ := Kd.R_slice ho0
    refine Calls.mono (Go.Proofs.AnyQ.slices_Reverse_empty (P := Try.prog) Lay.rev58 A1 c1 w) ?_
    rintro e w' ⟨rfl, rfl⟩
    exact ⟨rfl, Kd.R_mono ho0 (fun _ hk => .inl hk), hB, Kept.refl _ _⟩
  · have hne : l0 ≠ [] := by rw [hx]; simp
    obtain ⟨g, cap, rfl, hH, hg, hbg, hP⟩ := Go.Proofs.Ytcembjgpcbodcaa.SortRow.holds_of_R flat23 ho0 hne
    have hcon := Go.Proofs.AnyQ.slices_Reverse (P := Try.prog) Lay.rev58 2 Try.isAgg23 Try.sizeOf23 enc23 (fun _ => rfl) (fun x v hv => by simp [enc23] at hv; rcases hv with rfl | rfl <;> rfl) g 0 cap l0.toArray w hH (by simp; omega)
    refine Calls.mono hcon ?_
    rintro e w' ⟨rfl, n, rfl⟩
    have hR := Go.Proofs.Ytcembjgpcbodcaa.SortRow.R_of_sorted (l' := l0.reverse) flat23 (by decide) ho0 rfl (by simp) hne n #[]
    have ew : Go.Proofs.sortWorldK enc23 k23.sz w g 0 n l0.reverse.toArray #[] = Go.Sort.putRowK enc23 2 (Go.Sort.ahead w n) g 0 l0.toArray.reverse := by
      unfold Go.Proofs.sortWorldK
      rw [List.reverse_toArray]
      exact Go.Sort.grow_empty _
    have hb := Go.Proofs.Ytcembjgpcbodcaa.SortRow.below_sorted (d := k23) (enc := enc23) hB g n l0.reverse.toArray #[] hbg
    have hk := Go.Proofs.Ytcembjgpcbodcaa.SortRow.kept_sorted (d := k23) (enc := enc23) w g n l0.reverse.toArray #[] P0_ hP
    rw [ew] at hR hb hk
    exact ⟨rfl, Kd.R_mono hR (fun _ hk => .inl hk), hb, hk⟩

def polygon_Reverse.f (l0 : List (S23)) : Option ((List (S23))) := (api_Point_57.f l0).bind fun t405 => ((api_Point_58.f t405).bind fun t408 => (some t408))
set_option maxHeartbeats 8000000 in
set_option maxRecDepth 100000 in
theorem polygon_Reverse.calls (A0 : Option Addr) (c0 : Nat) (l0 : List (S23)) (r : List (S23)) (w : World) (hr0 : Kd.C k23 w A0 l0.length l0) (hc0 : l0.length ≤ c0) (h : polygon_Reverse.f l0 = some r) :
    Calls Try.prog 28 #[.slice A0 l0.length c0] w fun e w' => ∃ v0_ : Value, e = .returned (v0_) ∧ Kd.R k23 23 w' w.heap.size (fun _ => True) v0_ r ∧ Below w.heap.size w w' := by
  have HR0 := Aside0.mk hr0
  have HC0 := Aside0.mk hc0
  clear hr0 hc0
  have HB := Aside0.mk (Below.refl w.heap.size w)
  have H : ((api_Point_57.f l0).bind fun t405 => ((api_Point_58.f t405).bind fun t408 => (some t408))) = some r := h
  clear h
  replace H := Option.bind_eq_some_iff.mp H
  obtain ⟨t405, A20, H⟩ := H
  replace H : ((api_Point_58.f t405).bind fun t408 => (some t408)) = some r := H
  have A2 := Aside0.mk A20
  clear A20
  replace H := Option.bind_eq_some_iff.mp H
  obtain ⟨t408, A30, H⟩ := H
  replace H : (some t408) = some r := H
  have A3 := Aside0.mk A30
  clear A30
  obtain rfl := Option.some.inj H
  go_enter Try.func28, Try.ntmps28
  go_wp2_with (first | ((with_reducible refine gate_callee (f := 57) rfl ?_); refine goesL_ (some 5) rfl rfl Try.func57 (by kernel_rfl) rfl #[.slice A0 l0.length c0] rfl (by (try simp only [List.map_toArray, List.map_cons, List.map_nil]); first | done | rfl | (simp only [List.length_drop, List.length_take]; rfl)) ?_; (with_reducible refine (api_Point_57.calls _ _ l0 t405 _ ?side1 ?side2 A2.out).mono ?_); (case side1 => repeat (first | exact HR0.out | (with_reducible refine Kd.C_alloc ?_ _) | (with_reducible refine Kd.C_drewN ?_ _) | (with_reducible refine Kd.C_drew ?_))); (case side2 => exact HC0.out); rintro e w4 ⟨v406, rfl, ho0, hb⟩; refine ⟨_, rfl, ?_⟩; have n0_ := Aside0.mk (Kd.R_lower ho0 (below_size (by repeat (first | (with_reducible first | exact HB.out | apply below_alloc | apply pw_below_drewN | apply below_drew1) | exact HB.out)))); have n1_ := Aside0.mk (below_step (by repeat (first | (with_reducible first | exact HB.out | apply below_alloc | apply pw_below_drewN | apply below_drew1) | exact HB.out)) hb); clear HB; have HO407 := n0_; have HB := n1_; clear n0_ n1_; (try clear hb); (try clear hb2); (try clear hk); (try clear hi); (try clear ho0); obtain ⟨Ao5, co5, eo5⟩ := Kd.R_slice HO407.out; subst eo5) | ((with_reducible refine gate_callee (f := 58) rfl ?_); refine goesL_ (some 7) rfl rfl Try.func58 (by kernel_rfl) rfl #[.slice Ao5 t405.length co5] rfl (by (try simp only [List.map_toArray, List.map_cons, List.map_nil]); first | done | rfl | (simp only [List.length_drop, List.length_take]; rfl)) ?_; (with_reducible refine (api_Point_58.calls (fun k_ => some k_ = (.slice Ao5 t405.length co5 : Value).ownBlock) (.slice Ao5 t405.length co5) t405 t408 w _ ?side1 ?side2 A3.out).mono ?_); (case side1 => repeat (first | (with_reducible first | exact HB.out | apply below_alloc | apply pw_below_drewN | apply below_drew1) | exact HB.out)); (case side2 => exact Kd.R_tight rfl HO407.out); rintro e w6 ⟨rfl, hy0, hb, hkp⟩; refine ⟨_, rfl, ?_⟩; have n0_ := Aside0.mk (Kd.R_reok rfl hy0 (fun k_ e_ => HO407.out.1 k_ e_)); have n1_ := Aside0.mk (hb); clear HO407; clear HB; have HO407 := n0_; have HB := n1_; clear n0_ n1_; (try clear hb); (try clear hkp); (try clear hy0)))
  go_ret
  exact ⟨_, by first | rfl | (simp [errW_none, errW_some] <;> rfl) | (simp [*, errW_none, errW_some] <;> rfl), by (with_reducible repeat (first | apply Kd.R_alloc | apply Kd.R_drewN | apply Kd.R_drew)); exact HO407.out, by repeat (first | (with_reducible first | exact HB.out | apply below_alloc | apply pw_below_drewN | apply below_drew1) | exact HB.out)⟩

def gangsawref05_Reverse.l0 : Nat → List (S23) → List (S23) → Int → Option ((List (S23)))
  | 0, _, _, _ => none
  | k + 1, x0, x3, x4 => if x4 ≥ 0 then (if 0 ≤ x4 then (if x4 < (x0.length : Int) then (if x3.length < 8796093022208 then (gangsawref05_Reverse.l0 k x0 (x3 ++ [(⟨(rd_T23 x0 x4).f0, (rd_T23 x0 x4).f1⟩ : S23)]) (wrap64 (x4 - 1))) else (none)) else (none)) else (none)) else (some x3)
def gangsawref05_Reverse.f (k : Nat) (l0 : List (S23)) : Option ((List (S23))) := gangsawref05_Reverse.l0 k l0 (([] : List (S23))) (wrap64 ((l0.length : Int) - 1))
set_option maxHeartbeats 8000000 in
set_option maxRecDepth 100000 in
theorem gangsawref05_Reverse.calls (k : Nat) (A0 : Option Addr) (c0 : Nat) (l0 : List (S23)) (r : List (S23)) (w : World) (hr0 : Kd.C k23 w A0 l0.length l0) (hc0 : l0.length ≤ c0) (h : gangsawref05_Reverse.f k l0 = some r) :
    Calls Try.prog 29 #[.slice A0 l0.length c0] w fun e w' => ∃ v0_ : Value, e = .returned (v0_) ∧ Kd.R k23 23 w' w.heap.size (fun _ => True) v0_ r ∧ Below w.heap.size w w' := by
  have hu23 := Try.underlying23
  have HR0 := Aside0.mk hr0
  have HC0 := Aside0.mk hc0
  clear hr0 hc0
  have HB := Aside0.mk (Below.refl w.heap.size w)
  have H : (gangsawref05_Reverse.l0 k l0 (([] : List (S23))) (wrap64 ((l0.length : Int) - 1))) = some r := h
  clear h
  obtain ⟨y409, hy409⟩ : ∃ y_ : List (S23), y_ = (([] : List (S23))) := ⟨_, rfl⟩
  replace H : (gangsawref05_Reverse.l0 k l0 y409 (wrap64 ((l0.length : Int) - 1))) = some r := by first | (rw [hy409]; with_reducible exact H) | (have H2_ := (Option.bind_some _ _).symm.trans H; rw [hy409]; with_reducible exact H2_) | (have H2_ := (Option.bind_some _ _).symm.trans H; with_reducible exact H2_) | with_reducible exact H | (rw [hy409]; exact H) | exact H
  have Ny409 := Aside0.mk hy409
  clear hy409
  have H' := Aside0.mk H
  clear H
  go_enter Try.func29, Try.ntmps29
  go_wp2_with (first | ((with_reducible refine gate_dst (N := 5) rfl ?_); refine Kd.R_lit k23 _ 23 ?hg (N := 5) ?hd (xs := ([] : List (S23))) (inner := []) (ok := fun _ => True) (okp := fun _ => True) ?hr ?hp (fun _ hk => hk) trivial (Below.refl _ _) (Nat.le_refl _) (by simp) ?_; (case hd => rfl); (case hg => rfl); (case hr => first | (go_simp; done) | (go_simp; rfl)); (case hp => exact (Reps.none _ _)); intro v410 w2 ho3 hb hg_ hnew_; clear hg_ hnew_; (first | rw [← Ny409.out] at ho3 | (simp only [Int.reduceToNat] at ho3; rw [← Ny409.out] at ho3)); have n0_ := Aside0.mk (Kd.R_lower ho3 (below_size (by repeat (first | (with_reducible first | exact HB.out | apply below_alloc | apply pw_below_drewN | apply below_drew1) | exact HB.out)))); have n1_ := Aside0.mk (below_step (by repeat (first | (with_reducible first | exact HB.out | apply below_alloc | apply pw_below_drewN | apply below_drew1) | exact HB.out)) hb); clear HB; have HO411 := n0_; have HB := n1_; clear n0_ n1_; clear hb ho3))
  go_loopg [3, 4] k (fun kq v3 v4 w' => ∃ (x3_1 : List (S23)) (x4_1 : Int), v4 = .int .i64 x4_1 ∧ Aside0 (gangsawref05_Reverse.l0 kq l0 x3_1 x4_1 = some r) ∧ Aside0 (kq ≤ k) ∧ Aside0 (Kd.R k23 23 w' w.heap.size (fun _ => True) v3 x3_1) ∧ Aside0 (Below w.heap.size w w'))
  case atStart => exact ⟨(y409), (wrap64 ((l0.length : Int) - 1)), (by first | rfl | (simp; done) | (simp [*]; done)), H', ⟨Nat.le_refl _⟩, ⟨by (with_reducible repeat (first | apply Kd.R_alloc | apply Kd.R_drewN | apply Kd.R_drew)); exact HO411.out⟩, ⟨by repeat (first | (with_reducible first | exact HB.out | apply below_alloc | apply pw_below_drewN | apply below_drew1) | exact HB.out)⟩⟩
  case round =>
    clear H'
    try clear c2
    try clear p2
    obtain ⟨x3_1, x4_1, rfl, HA, HK1, HO_3, HB⟩ := hrel
    cases gk with
    | zero => exact absurd HA.out (by simp [gangsawref05_Reverse.l0])
    | succ k1 =>
      have H := HA.out
      clear HA
      simp only [gangsawref05_Reverse.l0] at H
      by_cases c4 : x4_1 ≥ 0
      · rw [if_pos c4] at H
        have c4b0 : decide (0 ≤ x4_1) = true := decide_eq_true c4
        clear c4
        by_cases c5 : 0 ≤ x4_1
        · rw [if_pos c5] at H
          have c5b0 : decide (0 ≤ x4_1) = true := decide_eq_true c5
          clear c5
          by_cases c6 : x4_1 < (l0.length : Int)
          · rw [if_pos c6] at H
            have c6b0 : decide (x4_1 < (l0.length : Int)) = true := decide_eq_true c6
            clear c6
            by_cases c7 : x3_1.length < 8796093022208
            · rw [if_pos c7] at H
              have LMc7 := Aside0.mk c7
              clear c7
              obtain ⟨y413, hy413⟩ : ∃ y_ : List (S23), y_ = (x3_1 ++ [(⟨(rd_T23 l0 x4_1).f0, (rd_T23 l0 x4_1).f1⟩ : S23)]) := ⟨_, rfl⟩
              replace H : (gangsawref05_Reverse.l0 k1 l0 y413 (wrap64 (x4_1 - 1))) = some r := by first | (rw [hy413]; with_reducible exact H) | (have H2_ := (Option.bind_some _ _).symm.trans H; rw [hy413]; with_reducible exact H2_) | (have H2_ := (Option.bind_some _ _).symm.trans H; with_reducible exact H2_) | with_reducible exact H | (rw [hy413]; exact H) | exact H
              have Ny413 := Aside0.mk hy413
              clear hy413
              have H' := Aside0.mk H
              clear H
              have p412 : 0 ≤ (x4_1 : Int) := of_decide_eq_true (by first | (with_reducible assumption) | assumption)
              have q412 : x4_1 < (l0.length : Int) := of_decide_eq_true (by first | (with_reducible assumption) | assumption)
              obtain ⟨ad412, e412, hx412_0, hx412_1⟩ := at_T23 HR0.out x4_1 p412 q412
              cases e412
              replace hx412_0 := (HB.out.cell (World.block_lt_of_cell? w _ hx412_0)).trans hx412_0
              replace hx412_1 := (HB.out.cell (World.block_lt_of_cell? w _ hx412_1)).trans hx412_1
              replace p412 := eq_true p412
              replace q412 := eq_true q412
              go_wp2_with (first | ((with_reducible refine gate_builtin (b := .append) (xs := #[.tmp 13, .tmp 18]) rfl ?_); at_builtin; refine Kd.R_append k23 (w0 := w) w.heap.size rfl (.tmp 13) (.tmp 18) 29 23 (.agg #[(.int .i64 0), (.int .i64 0)]) 16 rfl Try.underlying29 info23 rfl (by decide) (by omega) u3 x3_1 (⟨(rd_T23 l0 x4_1).f0, (rd_T23 l0 x4_1).f1⟩ : S23) [.int .i64 ((rd_T23 l0 x4_1).f0), .int .i64 ((rd_T23 l0 x4_1).f1)] (fun _ => True) (fun _ => False) rfl rfl ?aP (fun _ hk => hk.elim) ?aF ?aO ?aB ?aS ?aL ?_; (case aP => exact k23_mkM _ _ _ (⟨(rd_T23 l0 x4_1).f0, (rd_T23 l0 x4_1).f1⟩ : S23)); (case aB => exact (by repeat (first | (with_reducible first | exact HB.out | apply below_alloc | apply pw_below_drewN | apply below_drew1) | exact HB.out))); (case aF => exact (fun _ _ => trivial)); (case aO => exact (by (with_reducible repeat (first | apply Kd.R_alloc | apply Kd.R_drewN | apply Kd.R_drew)); exact HO_3.out)); (case aS => exact (below_size (by repeat (first | (with_reducible first | exact HB.out | apply below_alloc | apply pw_below_drewN | apply below_drew1) | exact HB.out)))); (case aL => have := LMc7.out; omega); intro v414 w8 ho hb hg hat; rw [← Ny413.out] at ho; have n0_ := Aside0.mk (hb); have n1_ := Aside0.mk (ho); clear HB; clear HO_3; have HB := n0_; have HO415 := n1_; clear n0_ n1_; clear ho hb hg hat))
              go_roundg k1
              case measure => have := HK1.out; omega
              case rel => exact ⟨(y413), (wrap64 (x4_1 - 1)), (by first | rfl | (simp; done) | (simp [*]; done)), H', ⟨by have := HK1.out; omega⟩, ⟨by (with_reducible repeat (first | apply Kd.R_alloc | apply Kd.R_drewN | apply Kd.R_drew)); exact HO415.out⟩, ⟨by repeat (first | (with_reducible first | exact HB.out | apply below_alloc | apply pw_below_drewN | apply below_drew1) | exact HB.out)⟩⟩
            · rw [if_neg c7] at H
              exact absurd H (by simp)
          · rw [if_neg c6] at H
            exact absurd H (by simp)
        · rw [if_neg c5] at H
          exact absurd H (by simp)
      · rw [if_neg c4] at H
        have c4b0 : decide (0 ≤ x4_1) = false := decide_eq_false c4
        clear c4
        obtain rfl := Option.some.inj H
        go_wp2
        go_ret
        exact ⟨_, by first | rfl | (simp [errW_none, errW_some] <;> rfl) | (simp [*, errW_none, errW_some] <;> rfl), by (with_reducible repeat (first | apply Kd.R_alloc | apply Kd.R_drewN | apply Kd.R_drew)); exact HO_3.out, by repeat (first | (with_reducible first | exact HB.out | apply below_alloc | apply pw_below_drewN | apply below_drew1) | exact HB.out)⟩

end Go.Proofs.Ytcembjgpcbodcaa.QA
