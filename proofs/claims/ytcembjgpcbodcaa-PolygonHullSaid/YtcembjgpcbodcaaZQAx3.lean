import Derived.Test.YtcembjgpcbodcaaZQAx0
import Derived.Test.YtcembjgpcbodcaaZQAx2
namespace Go.Proofs.Ytcembjgpcbodcaa.QA
open Go.RowKit Go.Proofs.YtcembjgpcbodcaaW.PrintWords Go.Proofs.YtcembjgpcbodcaaW.PrintLast Go.Proofs.YtcembjgpcbodcaaW.PrintMore
open Go.Proofs.YtcembjgpcbodcaaW.PrintWords renaming blk_frozen → bf
open Aside0 renaming mk → am
attribute [local go_sem] max2_int min2_int max_two min_two max_three min_three max_four min_four
set_option linter.unusedVariables false
set_option linter.unusedSimpArgs false

def polygon_on.j0 : Nat → Bool → Option (Bool)
 | 0, _ => none
 | k + 1, x6 => some x6
def polygon_on.f (k : Nat) (a0_0 : Int) (a0_1 : Int) (a1_0 : Int) (a1_1 : Int) (a2_0 : Int) (a2_1 : Int) : Option (Bool) := (polygon_Orient.f a0_0 a0_1 a1_0 a1_1 a2_0 a2_1).bind fun t122 => (if t122 = 0 then (if (mn a0_0 a1_0) ≤ a2_0 then (if a2_0 ≤ (mx a0_0 a1_0) then (if (mn a0_1 a1_1) ≤ a2_1 then (polygon_on.j0 k (decide (a2_1 ≤ (mx a0_1 a1_1)))) else (polygon_on.j0 k false)) else (polygon_on.j0 k false)) else (polygon_on.j0 k false)) else (polygon_on.j0 k false))
theorem polygon_on.mono_l : ∀ k, (∀ y0, LeO (polygon_on.j0 k y0) (polygon_on.j0 (k + 1) y0))
 | 0 => fun _ r h => by simp [polygon_on.j0] at h
 | k + 1 => by
  have ih0 := polygon_on.mono_l k
  intro y0
  unfold polygon_on.j0
  repeat' first
  | (with_reducible exact ih0 _)
  | (with_reducible exact LeO.refl _)
  | (with_reducible exact LeO.none _)
  | (with_reducible refine LeO.ite ?_ ?_)
  | (with_reducible refine LeO.bind ?_ (fun _ => ?_))
  | exact ih0 _
  | exact LeO.none _
  | refine LeO.ite ?_ ?_
  | refine LeO.bind ?_ (fun _ => ?_)
theorem polygon_on.mono : ∀ a0 a1 a2 a3 a4 a5 k, LeO (polygon_on.f k a0 a1 a2 a3 a4 a5) (polygon_on.f (k + 1) a0 a1 a2 a3 a4 a5) := by
 intro a0 a1 a2 a3 a4 a5 k
 have ih0 := polygon_on.mono_l k
 unfold polygon_on.f
 repeat' first
   | (with_reducible exact ih0 _)
   | (with_reducible exact LeO.refl _)
   | (with_reducible exact LeO.none _)
   | (with_reducible refine LeO.ite ?_ ?_)
   | (with_reducible refine LeO.bind ?_ (fun _ => ?_))
   | exact ih0 _
   | exact LeO.none _
   | refine LeO.ite ?_ ?_
   | refine LeO.bind ?_ (fun _ => ?_)
set_option maxHeartbeats 8000000 in
set_option maxRecDepth 100000 in
theorem polygon_on.calls (k : Nat) (a0_0 : Int) (a0_1 : Int) (a1_0 : Int) (a1_1 : Int) (a2_0 : Int) (a2_1 : Int) (r : Bool) (w : World) (h : polygon_on.f k a0_0 a0_1 a1_0 a1_1 a2_0 a2_1 = some r) :
  Calls Try.prog 41 #[.agg #[.int .i64 a0_0, .int .i64 a0_1], .agg #[.int .i64 a1_0, .int .i64 a1_1], .agg #[.int .i64 a2_0, .int .i64 a2_1]] w fun e w' => e = .returned (.bool r) ∧ Below w.heap.size w w' := by
 have hu23 := Try.underlying23
 have HB := am (Below.refl w.heap.size w)
 have H : ((polygon_Orient.f a0_0 a0_1 a1_0 a1_1 a2_0 a2_1).bind fun t122 => (if t122 = 0 then (if (mn a0_0 a1_0) ≤ a2_0 then (if a2_0 ≤ (mx a0_0 a1_0) then (if (mn a0_1 a1_1) ≤ a2_1 then (polygon_on.j0 k (decide (a2_1 ≤ (mx a0_1 a1_1)))) else (polygon_on.j0 k false)) else (polygon_on.j0 k false)) else (polygon_on.j0 k false)) else (polygon_on.j0 k false))) = some r := h
 clear h
 have HC4 := am H
 clear H
 go_enter Try.func41, Try.ntmps41
 go_upto_region 1 with (first | ((with_reducible refine gate_dst (N := 3) rfl ?_); (try (refine gate_guard (by rfl) ?_; dsimp only)); refine box_event ?hg (N := 3) ?hd (cs := #[.int .i64 a0_0, .int .i64 a0_1]) (t := 23) ?hr ?_; (case hd | hg => rfl); (case hr => first | (go_simp; done) | (go_simp; rfl)); intro gb119 hg w5 hbox hb; have BK119 := am hbox; have GW119 := sG HB hg; have GE119 := sG HB hg; replace HB := bS HB hb; clear hb hbox hg) | ((with_reducible refine gate_dst (N := 4) rfl ?_); (try (refine gate_guard (by rfl) ?_; dsimp only)); refine box_event ?hg (N := 4) ?hd (cs := #[.int .i64 a1_0, .int .i64 a1_1]) (t := 23) ?hr ?_; (case hd | hg => rfl); (case hr => first | (go_simp; done) | (go_simp; rfl)); intro gb120 hg w6 hbox hb; have BK120 := am hbox; have GW120 := sG HB hg; have GE120 := sG HB hg; replace HB := bS HB hb; have NB119_120 := nL BK119 hg; have NB120_119 := nG BK119 hg; replace BK119 := bB BK119 hb; clear hb hbox hg) | ((with_reducible refine gate_dst (N := 5) rfl ?_); (try (refine gate_guard (by rfl) ?_; dsimp only)); refine box_event ?hg (N := 5) ?hd (cs := #[.int .i64 a2_0, .int .i64 a2_1]) (t := 23) ?hr ?_; (case hd | hg => rfl); (case hr => first | (go_simp; done) | (go_simp; rfl)); intro gb121 hg w7 hbox hb; have BK121 := am hbox; have GW121 := sG HB hg; have GE121 := sG HB hg; replace HB := bS HB hb; have NB119_121 := nL BK119 hg; have NB121_119 := nG BK119 hg; replace BK119 := bB BK119 hb; have NB120_121 := nL BK120 hg; have NB121_120 := nG BK120 hg; replace BK120 := bB BK120 hb; clear hb hbox hg))
 (try simp only [Act.put, psl])
 go_cut [6] (fun v6 wc => ∃ (kq : Nat) (x6_3 : Bool), v6 = .bool x6_3 ∧ Aside0 (polygon_on.j0 kq x6_3 = some r) ∧ Aside0 (kq ≤ k) ∧ Aside0 (wc.heap[gb119]? = some (.cells #[.int .i64 a0_0, .int .i64 a0_1] 23 (0, 0))) ∧ Aside0 (wc.heap[gb120]? = some (.cells #[.int .i64 a1_0, .int .i64 a1_1] 23 (0, 0))) ∧ Aside0 (wc.heap[gb121]? = some (.cells #[.int .i64 a2_0, .int .i64 a2_1] 23 (0, 0))) ∧ Aside0 (Below w.heap.size w wc))
 case first =>
  have H := HC4.out
  clear HC4
  replace H := Option.bind_eq_some_iff.mp H
  obtain ⟨t122, A80, H⟩ := H
  replace H : (if t122 = 0 then (if (mn a0_0 a1_0) ≤ a2_0 then (if a2_0 ≤ (mx a0_0 a1_0) then (if (mn a0_1 a1_1) ≤ a2_1 then (polygon_on.j0 k (decide (a2_1 ≤ (mx a0_1 a1_1)))) else (polygon_on.j0 k false)) else (polygon_on.j0 k false)) else (polygon_on.j0 k false)) else (polygon_on.j0 k false)) = some r := H
  have A8 := am A80
  clear A80
  by_cases c9 : t122 = 0
  rotate_left
  ·rw [if_neg c9] at H
   have c9b0 : (t122 == 0) = false := beq_eq_false_iff_ne.mpr c9
   have c9b1 : (t122 != 0) = true := bne_iff_ne.mpr c9
   (first | rw [c9b0] | (simp only [i64_w, i32_w]; rw [c9b0]) | skip)
   have H' := am H
   clear H
   have hnb57 := NB119_120.out
   have hnc57 := NB120_119.out
   have hnb58 := NB119_121.out
   have hnc58 := NB121_119.out
   have := yC1 BK119
   have := kC1 BK119
   have := bf BK119.out 0
   have := bf BK119.out 1
   have hnb60 := NB120_121.out
   have hnc60 := NB121_120.out
   have := yC1 BK120
   have := kC1 BK120
   have := bf BK120.out 0
   have := bf BK120.out 1
   have := yC1 BK121
   have := kC1 BK121
   have := bf BK121.out 0
   have := bf BK121.out 1
   go_wp2_with (first | ((with_reducible refine gate_callee (f := 13) rfl ?_); refine goesL_ (some 10) rfl rfl Try.func13 (by kernel_rfl) rfl #[.agg #[.int .i64 a0_0, .int .i64 a0_1], .agg #[.int .i64 a1_0, .int .i64 a1_1], .agg #[.int .i64 a2_0, .int .i64 a2_1]] rfl (by (try simp only [pml]); first | done | rfl | (simp only [pdt]; rfl)) ?_; (with_reducible refine (polygon_Orient.calls a0_0 a0_1 a1_0 a1_1 a2_0 a2_1 t122 _ A8.out).mono ?_); rintro e w63 ⟨rfl, hb⟩; refine ⟨_, rfl, ?_⟩; replace BK119 := bB BK119 hb; replace BK120 := bB BK120 hb; replace BK121 := bB BK121 hb; replace HB := bS HB hb; (try clear hb); (try clear hb2); (try clear hk); (try clear hi)))
   go_meet
   case rel => exact ⟨_, (false), sqD, H', ⟨by first | omega | exact Nat.le_refl _⟩, ⟨fb BK119.out⟩, ⟨fb BK120.out⟩, ⟨fb BK121.out⟩, ⟨fW HB.out⟩⟩
  rw [if_pos c9] at H
  have c9b0 : (t122 == 0) = true := beq_iff_eq.mpr c9
  have c9b1 : (t122 != 0) = false := bne_eq_false_iff_eq.mpr c9
  clear c9
  (first | rw [c9b0] | (simp only [i64_w, i32_w]; rw [c9b0]) | skip)
  obtain ⟨ji10, hji10⟩ : ∃ j_ : Int, (mn a0_0 a1_0) = j_ := ⟨_, rfl⟩
  replace H : (if (ji10) ≤ a2_0 then (if a2_0 ≤ (mx a0_0 a1_0) then (if (mn a0_1 a1_1) ≤ a2_1 then (polygon_on.j0 k (decide (a2_1 ≤ (mx a0_1 a1_1)))) else (polygon_on.j0 k false)) else (polygon_on.j0 k false)) else (polygon_on.j0 k false)) = some r := by first | (rw [hji10] at H; exact H) | (simp only [hji10] at H ⊢; exact H)
  (try rw [hji10] at A8)
  have hji10_ : (if a1_0 < a0_0 then a1_0 else a0_0) = ji10 := hji10
  by_cases c11 : (ji10) ≤ a2_0
  rotate_left
  ·rw [if_neg c11] at H
   have c11b0 : decide ((ji10) ≤ a2_0) = false := decide_eq_false c11
   clear c11
   have H' := am H
   clear H
   have hnb47 := NB119_120.out
   have hnc47 := NB120_119.out
   have hnb48 := NB119_121.out
   have hnc48 := NB121_119.out
   have := yC1 BK119
   have := kC1 BK119
   have := bf BK119.out 0
   have := bf BK119.out 1
   have hnb50 := NB120_121.out
   have hnc50 := NB121_120.out
   have := yC1 BK120
   have := kC1 BK120
   have := bf BK120.out 0
   have := bf BK120.out 1
   have := yC1 BK121
   have := kC1 BK121
   have := bf BK121.out 0
   have := bf BK121.out 1
   go_wp2_with (first | ((with_reducible refine gate_callee (f := 13) rfl ?_); refine goesL_ (some 10) rfl rfl Try.func13 (by kernel_rfl) rfl #[.agg #[.int .i64 a0_0, .int .i64 a0_1], .agg #[.int .i64 a1_0, .int .i64 a1_1], .agg #[.int .i64 a2_0, .int .i64 a2_1]] rfl (by (try simp only [pml]); first | done | rfl | (simp only [pdt]; rfl)) ?_; (with_reducible refine (polygon_Orient.calls a0_0 a0_1 a1_0 a1_1 a2_0 a2_1 t122 _ A8.out).mono ?_); rintro e w53 ⟨rfl, hb⟩; refine ⟨_, rfl, ?_⟩; replace BK119 := bB BK119 hb; replace BK120 := bB BK120 hb; replace BK121 := bB BK121 hb; replace HB := bS HB hb; (try clear hb); (try clear hb2); (try clear hk); (try clear hi); obtain ⟨_, _, _, _⟩ := zC2 BK119; obtain ⟨_, _, _, _⟩ := zC2 BK120; obtain ⟨_, _, _, _⟩ := zC2 BK121))
   go_meet
   case rel => exact ⟨_, (false), sqD, H', ⟨by first | omega | exact Nat.le_refl _⟩, ⟨fb BK119.out⟩, ⟨fb BK120.out⟩, ⟨fb BK121.out⟩, ⟨fW HB.out⟩⟩
  rw [if_pos c11] at H
  have c11b0 : decide ((ji10) ≤ a2_0) = true := decide_eq_true c11
  clear c11
  obtain ⟨ji12, hji12⟩ : ∃ j_ : Int, (mx a0_0 a1_0) = j_ := ⟨_, rfl⟩
  replace H : (if a2_0 ≤ (ji12) then (if (mn a0_1 a1_1) ≤ a2_1 then (polygon_on.j0 k (decide (a2_1 ≤ (mx a0_1 a1_1)))) else (polygon_on.j0 k false)) else (polygon_on.j0 k false)) = some r := by first | (rw [hji12] at H; exact H) | (simp only [hji12] at H ⊢; exact H)
  (try rw [hji12] at A8)
  have hji12_ : (if a0_0 < a1_0 then a1_0 else a0_0) = ji12 := hji12
  by_cases c13 : a2_0 ≤ (ji12)
  rotate_left
  ·rw [if_neg c13] at H
   have c13b0 : decide (a2_0 ≤ (ji12)) = false := decide_eq_false c13
   clear c13
   have H' := am H
   clear H
   have hnb37 := NB119_120.out
   have hnc37 := NB120_119.out
   have hnb38 := NB119_121.out
   have hnc38 := NB121_119.out
   have := yC1 BK119
   have := kC1 BK119
   have := bf BK119.out 0
   have := bf BK119.out 1
   have hnb40 := NB120_121.out
   have hnc40 := NB121_120.out
   have := yC1 BK120
   have := kC1 BK120
   have := bf BK120.out 0
   have := bf BK120.out 1
   have := yC1 BK121
   have := kC1 BK121
   have := bf BK121.out 0
   have := bf BK121.out 1
   go_wp2_with (first | ((with_reducible refine gate_callee (f := 13) rfl ?_); refine goesL_ (some 10) rfl rfl Try.func13 (by kernel_rfl) rfl #[.agg #[.int .i64 a0_0, .int .i64 a0_1], .agg #[.int .i64 a1_0, .int .i64 a1_1], .agg #[.int .i64 a2_0, .int .i64 a2_1]] rfl (by (try simp only [pml]); first | done | rfl | (simp only [pdt]; rfl)) ?_; (with_reducible refine (polygon_Orient.calls a0_0 a0_1 a1_0 a1_1 a2_0 a2_1 t122 _ A8.out).mono ?_); rintro e w43 ⟨rfl, hb⟩; refine ⟨_, rfl, ?_⟩; replace BK119 := bB BK119 hb; replace BK120 := bB BK120 hb; replace BK121 := bB BK121 hb; replace HB := bS HB hb; (try clear hb); (try clear hb2); (try clear hk); (try clear hi); obtain ⟨_, _, _, _⟩ := zC2 BK119; obtain ⟨_, _, _, _⟩ := zC2 BK120; obtain ⟨_, _, _, _⟩ := zC2 BK121))
   go_meet
   case rel => exact ⟨_, (false), sqD, H', ⟨by first | omega | exact Nat.le_refl _⟩, ⟨fb BK119.out⟩, ⟨fb BK120.out⟩, ⟨fb BK121.out⟩, ⟨fW HB.out⟩⟩
  rw [if_pos c13] at H
  have c13b0 : decide (a2_0 ≤ (ji12)) = true := decide_eq_true c13
  clear c13
  obtain ⟨ji14, hji14⟩ : ∃ j_ : Int, (mn a0_1 a1_1) = j_ := ⟨_, rfl⟩
  replace H : (if (ji14) ≤ a2_1 then (polygon_on.j0 k (decide (a2_1 ≤ (mx a0_1 a1_1)))) else (polygon_on.j0 k false)) = some r := by first | (rw [hji14] at H; exact H) | (simp only [hji14] at H ⊢; exact H)
  (try rw [hji14] at A8)
  have hji14_ : (if a1_1 < a0_1 then a1_1 else a0_1) = ji14 := hji14
  by_cases c15 : (ji14) ≤ a2_1
  ·rw [if_pos c15] at H
   have c15b0 : decide ((ji14) ≤ a2_1) = true := decide_eq_true c15
   clear c15
   obtain ⟨ji16, hji16⟩ : ∃ j_ : Int, (mx a0_1 a1_1) = j_ := ⟨_, rfl⟩
   replace H : (polygon_on.j0 k (decide (a2_1 ≤ (ji16)))) = some r := by first | (rw [hji16] at H; exact H) | (simp only [hji16] at H ⊢; exact H)
   (try rw [hji16] at A8)
   have hji16_ : (if a0_1 < a1_1 then a1_1 else a0_1) = ji16 := hji16
   have H' := am H
   clear H
   have hnb17 := NB119_120.out
   have hnc17 := NB120_119.out
   have hnb18 := NB119_121.out
   have hnc18 := NB121_119.out
   have := yC1 BK119
   have := kC1 BK119
   have := bf BK119.out 0
   have := bf BK119.out 1
   have hnb20 := NB120_121.out
   have hnc20 := NB121_120.out
   have := yC1 BK120
   have := kC1 BK120
   have := bf BK120.out 0
   have := bf BK120.out 1
   have := yC1 BK121
   have := kC1 BK121
   have := bf BK121.out 0
   have := bf BK121.out 1
   go_wp2_with (first | ((with_reducible refine gate_callee (f := 13) rfl ?_); refine goesL_ (some 10) rfl rfl Try.func13 (by kernel_rfl) rfl #[.agg #[.int .i64 a0_0, .int .i64 a0_1], .agg #[.int .i64 a1_0, .int .i64 a1_1], .agg #[.int .i64 a2_0, .int .i64 a2_1]] rfl (by (try simp only [pml]); first | done | rfl | (simp only [pdt]; rfl)) ?_; (with_reducible refine (polygon_Orient.calls a0_0 a0_1 a1_0 a1_1 a2_0 a2_1 t122 _ A8.out).mono ?_); rintro e w23 ⟨rfl, hb⟩; refine ⟨_, rfl, ?_⟩; replace BK119 := bB BK119 hb; replace BK120 := bB BK120 hb; replace BK121 := bB BK121 hb; replace HB := bS HB hb; (try clear hb); (try clear hb2); (try clear hk); (try clear hi); obtain ⟨_, _, _, _⟩ := zC2 BK119; obtain ⟨_, _, _, _⟩ := zC2 BK120; obtain ⟨_, _, _, _⟩ := zC2 BK121))
   go_meet
   case rel => exact ⟨_, (decide (a2_1 ≤ (ji16))), (by first | rfl | (simp; done) | (simp only [← hji16] <;> (first | rfl | simp)) | (simp [*]; done)), H', ⟨by first | omega | exact Nat.le_refl _⟩, ⟨fb BK119.out⟩, ⟨fb BK120.out⟩, ⟨fb BK121.out⟩, ⟨fW HB.out⟩⟩
  rw [if_neg c15] at H
  have c15b0 : decide ((ji14) ≤ a2_1) = false := decide_eq_false c15
  clear c15
  have H' := am H
  clear H
  have hnb27 := NB119_120.out
  have hnc27 := NB120_119.out
  have hnb28 := NB119_121.out
  have hnc28 := NB121_119.out
  have := yC1 BK119
  have := kC1 BK119
  have := bf BK119.out 0
  have := bf BK119.out 1
  have hnb30 := NB120_121.out
  have hnc30 := NB121_120.out
  have := yC1 BK120
  have := kC1 BK120
  have := bf BK120.out 0
  have := bf BK120.out 1
  have := yC1 BK121
  have := kC1 BK121
  have := bf BK121.out 0
  have := bf BK121.out 1
  go_wp2_with (first | ((with_reducible refine gate_callee (f := 13) rfl ?_); refine goesL_ (some 10) rfl rfl Try.func13 (by kernel_rfl) rfl #[.agg #[.int .i64 a0_0, .int .i64 a0_1], .agg #[.int .i64 a1_0, .int .i64 a1_1], .agg #[.int .i64 a2_0, .int .i64 a2_1]] rfl (by (try simp only [pml]); first | done | rfl | (simp only [pdt]; rfl)) ?_; (with_reducible refine (polygon_Orient.calls a0_0 a0_1 a1_0 a1_1 a2_0 a2_1 t122 _ A8.out).mono ?_); rintro e w33 ⟨rfl, hb⟩; refine ⟨_, rfl, ?_⟩; replace BK119 := bB BK119 hb; replace BK120 := bB BK120 hb; replace BK121 := bB BK121 hb; replace HB := bS HB hb; (try clear hb); (try clear hb2); (try clear hk); (try clear hi); obtain ⟨_, _, _, _⟩ := zC2 BK119; obtain ⟨_, _, _, _⟩ := zC2 BK120; obtain ⟨_, _, _, _⟩ := zC2 BK121))
  go_meet
  case rel => exact ⟨_, (false), sqD, H', ⟨by first | omega | exact Nat.le_refl _⟩, ⟨fb BK119.out⟩, ⟨fb BK120.out⟩, ⟨fb BK121.out⟩, ⟨fW HB.out⟩⟩
 case rest =>
  clear HC4
  try clear c1;try clear c2;try clear p2;try clear c3;try clear c4;try clear c5;try clear c6;try clear c9;try clear c9b0;try clear c9b1;try clear c11;try clear c11b0;try clear c13;try clear c13b0;try clear c15;try clear c15b0;try clear c17;try clear c18;try clear c20;try clear c27;try clear c28;try clear c30;try clear c37;try clear c38;try clear c40;try clear c41;try clear c47;try clear c48;try clear c50;try clear c57;try clear c58;try clear c60
  obtain ⟨kq, x6_3, rfl, HA, HJ3, BK119, BK120, BK121, HB⟩ := hcut
  cases kq with
  | zero => exact absurd HA.out (by simp [polygon_on.j0])
  | succ kj3 =>
   have H := HA.out
   clear HA
   simp only [polygon_on.j0] at H
   obtain rfl := Option.some.inj H
   go_wp2
   go_ret
   exact ⟨sqE, fW HB.out⟩

end Go.Proofs.Ytcembjgpcbodcaa.QA
