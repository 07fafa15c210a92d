import Derived.Test.YtcembjgpcbodcaaZQAx0
import Derived.Test.YtcembjgpcbodcaaZQAx2
import Derived.Test.YtcembjgpcbodcaaZQAx3
import Derived.Test.YtcembjgpcbodcaaZQAx5
import Derived.Test.YtcembjgpcbodcaaZEvKit
import Derived.Test.YtcembjgpcbodcaaLay
import Derived.Test.YtcembjgpcbodcaaZSortRow
import Derived.Deep.RegionHeld3
import Derived.Shelf.SlSortCmp.NoneTotal
import Derived.WalkSpells
namespace Go.Proofs.Ytcembjgpcbodcaa.QA
open Go.RowKit Go.Proofs.YtcembjgpcbodcaaW.PrintWords Go.Proofs.YtcembjgpcbodcaaW.PrintLast Go.Proofs.YtcembjgpcbodcaaW.PrintMore
open Go.Proofs.YtcembjgpcbodcaaW.PrintWords renaming gate_dst → gd, gate_callee → gc, box_event → be
open Aside0 renaming mk → am
attribute [local go_sem] max2_int min2_int max_two min_two max_three min_three max_four min_four
set_option linter.unusedVariables false
set_option linter.unusedSimpArgs false

def polygon_Side.l0 : Nat → List (S23) → Bool → List (S23) → Int → Int → Int → Int → Option (Int × Int)
 | 0, _, _, _, _, _, _, _ => none
 | k + 1, x0, x7, x21, x22, x23, x149000, x149001 => if x23 < x22 then (if 0 ≤ x23 then (if x23 < (x21.length : Int) then ((polygon_end.f x0 x23).bind fun bt156 => ((polygon_on.f k ((rd_T23 x21 x23).f0) ((rd_T23 x21 x23).f1) bt156.1 bt156.2 x149000 x149001).bind fun t159 => (if t159 = true then (some (0, 0)) else (if ((rd_T23 x21 x23).f1) ≤ x149001 then (if x149001 < bt156.2 then ((polygon_Orient.f ((rd_T23 x21 x23).f0) ((rd_T23 x21 x23).f1) bt156.1 bt156.2 x149000 x149001).bind fun t160 => (if t160 > 0 then (polygon_Side.l0 k x0 (!x7) x21 x22 (wrap64 (x23 + 1)) x149000 x149001) else (if bt156.2 ≤ x149001 then (if x149001 < ((rd_T23 x21 x23).f1) then ((polygon_Orient.f ((rd_T23 x21 x23).f0) ((rd_T23 x21 x23).f1) bt156.1 bt156.2 x149000 x149001).bind fun t161 => (if t161 < 0 then (polygon_Side.l0 k x0 (!x7) x21 x22 (wrap64 (x23 + 1)) x149000 x149001) else (polygon_Side.l0 k x0 x7 x21 x22 (wrap64 (x23 + 1)) x149000 x149001))) else (polygon_Side.l0 k x0 x7 x21 x22 (wrap64 (x23 + 1)) x149000 x149001)) else (polygon_Side.l0 k x0 x7 x21 x22 (wrap64 (x23 + 1)) x149000 x149001)))) else (if bt156.2 ≤ x149001 then (if x149001 < ((rd_T23 x21 x23).f1) then ((polygon_Orient.f ((rd_T23 x21 x23).f0) ((rd_T23 x21 x23).f1) bt156.1 bt156.2 x149000 x149001).bind fun t162 => (if t162 < 0 then (polygon_Side.l0 k x0 (!x7) x21 x22 (wrap64 (x23 + 1)) x149000 x149001) else (polygon_Side.l0 k x0 x7 x21 x22 (wrap64 (x23 + 1)) x149000 x149001))) else (polygon_Side.l0 k x0 x7 x21 x22 (wrap64 (x23 + 1)) x149000 x149001)) else (polygon_Side.l0 k x0 x7 x21 x22 (wrap64 (x23 + 1)) x149000 x149001))) else (if bt156.2 ≤ x149001 then (if x149001 < ((rd_T23 x21 x23).f1) then ((polygon_Orient.f ((rd_T23 x21 x23).f0) ((rd_T23 x21 x23).f1) bt156.1 bt156.2 x149000 x149001).bind fun t163 => (if t163 < 0 then (polygon_Side.l0 k x0 (!x7) x21 x22 (wrap64 (x23 + 1)) x149000 x149001) else (polygon_Side.l0 k x0 x7 x21 x22 (wrap64 (x23 + 1)) x149000 x149001))) else (polygon_Side.l0 k x0 x7 x21 x22 (wrap64 (x23 + 1)) x149000 x149001)) else (polygon_Side.l0 k x0 x7 x21 x22 (wrap64 (x23 + 1)) x149000 x149001)))))) else (none)) else (none)) else (if x7 = true then (some (1, 0)) else (some ((-1), 0)))
def polygon_Side.f (k : Nat) (l0 : List (S23)) (a1_0 : Int) (a1_1 : Int) : Option (Int × Int) := (polygon_check.f k l0 (([(⟨a1_0, a1_1⟩ : S23)] : List (S23)))).bind fun t152 => (if t152 = 0 then ((polygon_simple.f k l0).bind fun t153 => (if t153 = true then (polygon_Side.l0 k l0 false l0 (l0.length : Int) 0 a1_0 a1_1) else (some (0, 10)))) else (some (0, t152)))
theorem polygon_Side.mono_l : ∀ k, (∀ y0 y1 y2 y3 y4 y5 y6, LeO (polygon_Side.l0 k y0 y1 y2 y3 y4 y5 y6) (polygon_Side.l0 (k + 1) y0 y1 y2 y3 y4 y5 y6))
 | 0 => fun _ _ _ _ _ _ _ r h => by simp [polygon_Side.l0] at h
 | k + 1 => by
  have ih0 := polygon_Side.mono_l k
  intro y0 y1 y2 y3 y4 y5 y6
  unfold polygon_Side.l0
  repeat' first
  | (with_reducible exact ih0 _ _ _ _ _ _ _)
  | (with_reducible exact polygon_check.mono _ _ _)
  | (with_reducible exact polygon_on.mono _ _ _ _ _ _ _)
  | (with_reducible exact polygon_simple.mono _ _)
  | (with_reducible exact LeO.refl _)
  | (with_reducible exact LeO.none _)
  | (with_reducible refine LeO.ite ?_ ?_)
  | (with_reducible refine LeO.bind ?_ (fun _ => ?_))
  | exact ih0 _ _ _ _ _ _ _
  | exact polygon_check.mono _ _ _
  | exact polygon_on.mono _ _ _ _ _ _ _
  | exact polygon_simple.mono _ _
  | exact LeO.none _
  | refine LeO.ite ?_ ?_
  | refine LeO.bind ?_ (fun _ => ?_)
theorem polygon_Side.mono : ∀ a0 a1 a2 k, LeO (polygon_Side.f k a0 a1 a2) (polygon_Side.f (k + 1) a0 a1 a2) := by
 intro a0 a1 a2 k
 have ih0 := polygon_Side.mono_l k
 unfold polygon_Side.f
 repeat' first
   | (with_reducible exact ih0 _ _ _ _ _ _ _)
   | (with_reducible exact polygon_check.mono _ _ _)
   | (with_reducible exact polygon_on.mono _ _ _ _ _ _ _)
   | (with_reducible exact polygon_simple.mono _ _)
   | (with_reducible exact LeO.refl _)
   | (with_reducible exact LeO.none _)
   | (with_reducible refine LeO.ite ?_ ?_)
   | (with_reducible refine LeO.bind ?_ (fun _ => ?_))
   | exact ih0 _ _ _ _ _ _ _
   | exact polygon_check.mono _ _ _
   | exact polygon_on.mono _ _ _ _ _ _ _
   | exact polygon_simple.mono _ _
   | exact LeO.none _
   | refine LeO.ite ?_ ?_
   | refine LeO.bind ?_ (fun _ => ?_)
set_option maxHeartbeats 8000000 in
set_option maxRecDepth 100000 in
theorem polygon_Side.calls (k : Nat) (A0 : Option Addr) (c0 : Nat) (l0 : List (S23)) (a1_0 : Int) (a1_1 : Int) (r1 : Int) (r2 : Int) (w : World) (hr0 : Kd.C k23 w A0 l0.length l0) (hc0 : l0.length ≤ c0) (h : polygon_Side.f k l0 a1_0 a1_1 = some (r1, r2)) :
  Calls Try.prog 16 #[.slice A0 l0.length c0, .agg #[.int .i64 a1_0, .int .i64 a1_1]] w fun e w' => e = .returned (.tuple #[.int .i64 r1, .int .i64 r2]) ∧ Below w.heap.size w w' := by
 have hu23 := Try.underlying23
 have HR0 := am hr0
 have HC0 := am hc0
 clear hr0 hc0
 have HB := am (Below.refl w.heap.size w)
 have H : ((polygon_check.f k l0 (([(⟨a1_0, a1_1⟩ : S23)] : List (S23)))).bind fun t152 => (if t152 = 0 then ((polygon_simple.f k l0).bind fun t153 => (if t153 = true then (polygon_Side.l0 k l0 false l0 (l0.length : Int) 0 a1_0 a1_1) else (some (0, 10)))) else (some (0, t152)))) = some (r1, r2) := h
 clear h
 obtain ⟨y149, hy149⟩ : ∃ y_ : List (S23), y_ = (([(⟨a1_0, a1_1⟩ : S23)] : List (S23))) := ⟨_, rfl⟩
 replace H : ((polygon_check.f k l0 y149).bind fun t152 => (if t152 = 0 then ((polygon_simple.f k l0).bind fun t153 => (if t153 = true then (polygon_Side.l0 k l0 false l0 (l0.length : Int) 0 a1_0 a1_1) else (some (0, 10)))) else (some (0, t152)))) = some (r1, r2) := by first | (rw [hy149]; with_reducible exact H) | (have H2_ := (Option.bind_some _ _).symm.trans H; rw [hy149]; with_reducible exact H2_) | (have H2_ := (Option.bind_some _ _).symm.trans H; with_reducible exact H2_) | with_reducible exact H | (rw [hy149]; exact H) | exact H
 have Ny149 := am hy149
 clear hy149
 replace H := Option.bind_eq_some_iff.mp H
 obtain ⟨t152, A30, H⟩ := H
 replace H : (if t152 = 0 then ((polygon_simple.f k l0).bind fun t153 => (if t153 = true then (polygon_Side.l0 k l0 false l0 (l0.length : Int) 0 a1_0 a1_1) else (some (0, 10)))) else (some (0, t152))) = some (r1, r2) := H
 have A3 := am A30
 clear A30
 by_cases c4 : t152 = 0
 ·rw [if_pos c4] at H
  have c4b0 : (t152 == 0) = true := beq_iff_eq.mpr c4
  have c4b1 : (t152 != 0) = false := bne_eq_false_iff_eq.mpr c4
  clear c4
  replace H := Option.bind_eq_some_iff.mp H
  obtain ⟨t153, A50, H⟩ := H
  replace H : (if t153 = true then (polygon_Side.l0 k l0 false l0 (l0.length : Int) 0 a1_0 a1_1) else (some (0, 10))) = some (r1, r2) := H
  have A5 := am A50
  clear A50
  by_cases c6 : t153 = true
  rotate_left
  ·replace c6 := Bool.eq_false_iff.mpr c6
   subst c6
   have H1 : (some (0, 10)) = some (r1, r2) := by rw [if_neg (show ¬ (false = true) by decide)] at H; exact H
   clear H
   have H := H1
   clear H1
   simp only [Option.some.injEq, Prod.mk.injEq] at H
   obtain ⟨rfl, rfl⟩ := H
   go_enter Try.func16, Try.ntmps16
   go_wp2_with (first | ((with_reducible refine gd (N := 3) rfl ?_); refine be ?hg (N := 3) ?hd (cs := #[.int .i64 a1_0, .int .i64 a1_1]) (t := 23) ?hr ?_; (case hd | hg => rfl); (case hr => first | (go_simp; done) | (go_simp; rfl)); intro gb148 hg w252 hbox hb; have BK148 := am hbox; have GW148 := sG HB hg; have GE148 := sG HB hg; replace HB := bS HB hb; clear hb hbox hg; obtain ⟨_, _, _, _⟩ := zC2 BK148) | ((with_reducible refine gd (N := 13) rfl ?_); refine Kd.R_lit k23 _ 23 ?hg (N := 13) ?hd (xs := ([(⟨a1_0, a1_1⟩ : S23)] : List (S23))) (inner := [.int .i64 a1_0, .int .i64 a1_1]) (ok := fun _ => True) (okp := fun _ => True) ?hr ?hp (fun _ hk => hk) trivial (Below.refl _ _) (Nat.le_refl _) (by simp) ?_; (case hd | hg => rfl); (case hr => first | (go_simp; done) | (go_simp; rfl)); (case hp => exact (Reps.c2 (show Kd.M k23 _ _ _ (⟨a1_0, a1_1⟩ : S23) [.int .i64 a1_0, .int .i64 a1_1] from (k23_mkM _ _ _ (⟨a1_0, a1_1⟩ : S23) )) (Reps.none _ _))); intro v150 w254 ho255 hb hg_ hnew_; clear hg_ hnew_; (first | rw [← Ny149.out] at ho255 | (simp only [Int.reduceToNat] at ho255; rw [← Ny149.out] at ho255)); have HO151 := am (Kd.R_lower (Kd.R_newB ho255 (g := gb148) (o := .cells #[.int .i64 a1_0, .int .i64 a1_1] 23 (0, 0)) (fb BK148.out)) (below_size (fW HB.out))); replace BK148 := bB BK148 hb; replace HB := bS HB hb; clear hb ho255; obtain ⟨Ao256, co256, eo256⟩ := Kd.R_slice HO151.out; subst eo256) | ((with_reducible refine gc (f := 38) rfl ?_); refine goesL_ (some 14) rfl rfl Try.func38 (by kernel_rfl) rfl #[.slice A0 l0.length c0, .slice Ao256 y149.length co256] rfl (by (try simp only [pml]); first | done | rfl | (simp only [pdt]; rfl)) ?_; (with_reducible refine (polygon_check.calls k _ _ l0 _ _ y149 t152 _ ?side1 ?side2 ?side3 ?side4 A3.out).mono ?_); (case side1 => repeat (first | exact (Kd.C_below HR0.out HB.out) | (with_reducible refine Kd.C_alloc ?_ _) | (with_reducible refine Kd.C_drewN ?_ _) | (with_reducible refine Kd.C_drew ?_))); (case side2 => exact HC0.out); (case side3 => repeat (first | exact (Kd.R_reads' HO151.out).2.2 | (with_reducible refine Kd.C_alloc ?_ _) | (with_reducible refine Kd.C_drewN ?_ _) | (with_reducible refine Kd.C_drew ?_))); (case side4 => exact (Kd.R_reads' HO151.out).2.1); rintro e w257 ⟨rfl, hb⟩; refine ⟨_, rfl, ?_⟩; replace HO151 := dR HO151 hb; replace BK148 := bB BK148 hb; replace HB := bS HB hb; (try clear hb); (try clear hb2); (try clear hk); (try clear hi)) | ((with_reducible refine gc (f := 39) rfl ?_); refine goesL_ (some 19) rfl rfl Try.func39 (by kernel_rfl) rfl #[.slice A0 l0.length c0] rfl (by (try simp only [pml]); first | done | rfl | (simp only [pdt]; rfl)) ?_; (with_reducible refine (polygon_simple.calls k _ _ l0 false _ ?side1 ?side2 A5.out).mono ?_); (case side1 => repeat (first | exact (Kd.C_below HR0.out HB.out) | (with_reducible refine Kd.C_alloc ?_ _) | (with_reducible refine Kd.C_drewN ?_ _) | (with_reducible refine Kd.C_drew ?_))); (case side2 => exact HC0.out); rintro e w258 ⟨rfl, hb⟩; refine ⟨_, rfl, ?_⟩; replace HO151 := dR HO151 hb; replace BK148 := bB BK148 hb; replace HB := bS HB hb; (try clear hb); (try clear hb2); (try clear hk); (try clear hi)))
   go_ret2
   exact ⟨sqE, fW HB.out⟩
  subst c6
  have H1 : (polygon_Side.l0 k l0 false l0 (l0.length : Int) 0 a1_0 a1_1) = some (r1, r2) := by rw [if_pos rfl] at H; exact H
  clear H
  have H := H1
  clear H1
  have H' := am H
  clear H
  go_enter Try.func16, Try.ntmps16
  go_wp2_with (first | ((with_reducible refine gd (N := 3) rfl ?_); refine be ?hg (N := 3) ?hd (cs := #[.int .i64 a1_0, .int .i64 a1_1]) (t := 23) ?hr ?_; (case hd | hg => rfl); (case hr => first | (go_simp; done) | (go_simp; rfl)); intro gb148 hg w7 hbox hb; have BK148 := am hbox; have GW148 := sG HB hg; have GE148 := sG HB hg; replace HB := bS HB hb; clear hb hbox hg; obtain ⟨_, _, _, _⟩ := zC2 BK148) | ((with_reducible refine gd (N := 13) rfl ?_); refine Kd.R_lit k23 _ 23 ?hg (N := 13) ?hd (xs := ([(⟨a1_0, a1_1⟩ : S23)] : List (S23))) (inner := [.int .i64 a1_0, .int .i64 a1_1]) (ok := fun _ => True) (okp := fun _ => True) ?hr ?hp (fun _ hk => hk) trivial (Below.refl _ _) (Nat.le_refl _) (by simp) ?_; (case hd | hg => rfl); (case hr => first | (go_simp; done) | (go_simp; rfl)); (case hp => exact (Reps.c2 (show Kd.M k23 _ _ _ (⟨a1_0, a1_1⟩ : S23) [.int .i64 a1_0, .int .i64 a1_1] from (k23_mkM _ _ _ (⟨a1_0, a1_1⟩ : S23) )) (Reps.none _ _))); intro v150 w9 ho10 hb hg_ hnew_; clear hg_ hnew_; (first | rw [← Ny149.out] at ho10 | (simp only [Int.reduceToNat] at ho10; rw [← Ny149.out] at ho10)); have HO151 := am (Kd.R_lower (Kd.R_newB ho10 (g := gb148) (o := .cells #[.int .i64 a1_0, .int .i64 a1_1] 23 (0, 0)) (fb BK148.out)) (below_size (fW HB.out))); replace BK148 := bB BK148 hb; replace HB := bS HB hb; clear hb ho10; obtain ⟨Ao11, co11, eo11⟩ := Kd.R_slice HO151.out; subst eo11) | ((with_reducible refine gc (f := 38) rfl ?_); refine goesL_ (some 14) rfl rfl Try.func38 (by kernel_rfl) rfl #[.slice A0 l0.length c0, .slice Ao11 y149.length co11] rfl (by (try simp only [pml]); first | done | rfl | (simp only [pdt]; rfl)) ?_; (with_reducible refine (polygon_check.calls k _ _ l0 _ _ y149 t152 _ ?side1 ?side2 ?side3 ?side4 A3.out).mono ?_); (case side1 => repeat (first | exact (Kd.C_below HR0.out HB.out) | (with_reducible refine Kd.C_alloc ?_ _) | (with_reducible refine Kd.C_drewN ?_ _) | (with_reducible refine Kd.C_drew ?_))); (case side2 => exact HC0.out); (case side3 => repeat (first | exact (Kd.R_reads' HO151.out).2.2 | (with_reducible refine Kd.C_alloc ?_ _) | (with_reducible refine Kd.C_drewN ?_ _) | (with_reducible refine Kd.C_drew ?_))); (case side4 => exact (Kd.R_reads' HO151.out).2.1); rintro e w12 ⟨rfl, hb⟩; refine ⟨_, rfl, ?_⟩; replace HO151 := dR HO151 hb; replace BK148 := bB BK148 hb; replace HB := bS HB hb; (try clear hb); (try clear hb2); (try clear hk); (try clear hi)) | ((with_reducible refine gc (f := 39) rfl ?_); refine goesL_ (some 19) rfl rfl Try.func39 (by kernel_rfl) rfl #[.slice A0 l0.length c0] rfl (by (try simp only [pml]); first | done | rfl | (simp only [pdt]; rfl)) ?_; (with_reducible refine (polygon_simple.calls k _ _ l0 true _ ?side1 ?side2 A5.out).mono ?_); (case side1 => repeat (first | exact (Kd.C_below HR0.out HB.out) | (with_reducible refine Kd.C_alloc ?_ _) | (with_reducible refine Kd.C_drewN ?_ _) | (with_reducible refine Kd.C_drew ?_))); (case side2 => exact HC0.out); rintro e w13 ⟨rfl, hb⟩; refine ⟨_, rfl, ?_⟩; replace HO151 := dR HO151 hb; replace BK148 := bB BK148 hb; replace HB := bS HB hb; (try clear hb); (try clear hb2); (try clear hk); (try clear hi)))
  go_loopg [7, 23] k (fun kq v7 v23 w' => ∃ (x7_1 : Bool) (x23_1 : Int), v7 = .bool x7_1 ∧ v23 = .int .i64 x23_1 ∧ Aside0 (polygon_Side.l0 kq l0 x7_1 l0 (l0.length : Int) x23_1 a1_0 a1_1 = some (r1, r2)) ∧ Aside0 (kq ≤ k) ∧ Aside0 (w'.heap[gb148]? = some (.cells #[.int .i64 a1_0, .int .i64 a1_1] 23 (0, 0))) ∧ Aside0 (Below w.heap.size w w'))
  case atStart => exact ⟨(false), (0), sqD, sqD, H', ⟨Nat.le_refl _⟩, ⟨fb BK148.out⟩, ⟨fW HB.out⟩⟩
  case round =>
   clear H'
   try clear c1;try clear c2;try clear p2;try clear c3;try clear c4;try clear c4b0;try clear c4b1;try clear c6
   obtain ⟨x7_1, x23_1, rfl, rfl, HA, HK1, BK148, HB⟩ := hrel
   cases gk with
   | zero => exact absurd HA.out (by simp [polygon_Side.l0])
   | succ k1 =>
    have H := HA.out
    clear HA
    simp only [polygon_Side.l0] at H
    by_cases c14 : x23_1 < (l0.length : Int)
    rotate_left
    ·rw [if_neg c14] at H
     have c14b0 : decide (x23_1 < (l0.length : Int)) = false := decide_eq_false c14
     clear c14
     by_cases c251 : x7_1 = true
     ·subst c251
      have H1 : (some (1, 0)) = some (r1, r2) := by rw [if_pos rfl] at H; exact H
      clear H
      have H := H1
      clear H1
      simp only [Option.some.injEq, Prod.mk.injEq] at H
      obtain ⟨rfl, rfl⟩ := H
      go_wp2
      go_ret2
      exact ⟨sqE, fW HB.out⟩
     replace c251 := Bool.eq_false_iff.mpr c251
     subst c251
     have H1 : (some ((-1), 0)) = some (r1, r2) := by rw [if_neg (show ¬ (false = true) by decide)] at H; exact H
     clear H
     have H := H1
     clear H1
     simp only [Option.some.injEq, Prod.mk.injEq] at H
     obtain ⟨rfl, rfl⟩ := H
     go_wp2
     go_ret2
     exact ⟨sqE, fW HB.out⟩
    rw [if_pos c14] at H
    have c14b0 : decide (x23_1 < (l0.length : Int)) = true := decide_eq_true c14
    clear c14
    by_cases c15 : 0 ≤ x23_1
    rotate_left
    ·rw [if_neg c15] at H
     exact absurd H (by simp)
    rw [if_pos c15] at H
    have c15b0 : decide (0 ≤ x23_1) = true := decide_eq_true c15
    clear c15
    by_cases c16 : x23_1 < (l0.length : Int)
    rotate_left
    ·rw [if_neg c16] at H
     exact absurd H (by simp)
    rw [if_pos c16] at H
    have c16b0 : decide (x23_1 < (l0.length : Int)) = true := decide_eq_true c16
    clear c16
    replace H := Option.bind_eq_some_iff.mp H
    obtain ⟨⟨t156, t157⟩, A170, H⟩ := H
    replace H : ((polygon_on.f k1 ((rd_T23 l0 x23_1).f0) ((rd_T23 l0 x23_1).f1) t156 t157 a1_0 a1_1).bind fun t159 => (if t159 = true then (some (0, 0)) else (if ((rd_T23 l0 x23_1).f1) ≤ a1_1 then (if a1_1 < t157 then ((polygon_Orient.f ((rd_T23 l0 x23_1).f0) ((rd_T23 l0 x23_1).f1) t156 t157 a1_0 a1_1).bind fun t160 => (if t160 > 0 then (polygon_Side.l0 k1 l0 (!x7_1) l0 (l0.length : Int) (wrap64 (x23_1 + 1)) a1_0 a1_1) else (if t157 ≤ a1_1 then (if a1_1 < ((rd_T23 l0 x23_1).f1) then ((polygon_Orient.f ((rd_T23 l0 x23_1).f0) ((rd_T23 l0 x23_1).f1) t156 t157 a1_0 a1_1).bind fun t161 => (if t161 < 0 then (polygon_Side.l0 k1 l0 (!x7_1) l0 (l0.length : Int) (wrap64 (x23_1 + 1)) a1_0 a1_1) else (polygon_Side.l0 k1 l0 x7_1 l0 (l0.length : Int) (wrap64 (x23_1 + 1)) a1_0 a1_1))) else (polygon_Side.l0 k1 l0 x7_1 l0 (l0.length : Int) (wrap64 (x23_1 + 1)) a1_0 a1_1)) else (polygon_Side.l0 k1 l0 x7_1 l0 (l0.length : Int) (wrap64 (x23_1 + 1)) a1_0 a1_1)))) else (if t157 ≤ a1_1 then (if a1_1 < ((rd_T23 l0 x23_1).f1) then ((polygon_Orient.f ((rd_T23 l0 x23_1).f0) ((rd_T23 l0 x23_1).f1) t156 t157 a1_0 a1_1).bind fun t162 => (if t162 < 0 then (polygon_Side.l0 k1 l0 (!x7_1) l0 (l0.length : Int) (wrap64 (x23_1 + 1)) a1_0 a1_1) else (polygon_Side.l0 k1 l0 x7_1 l0 (l0.length : Int) (wrap64 (x23_1 + 1)) a1_0 a1_1))) else (polygon_Side.l0 k1 l0 x7_1 l0 (l0.length : Int) (wrap64 (x23_1 + 1)) a1_0 a1_1)) else (polygon_Side.l0 k1 l0 x7_1 l0 (l0.length : Int) (wrap64 (x23_1 + 1)) a1_0 a1_1))) else (if t157 ≤ a1_1 then (if a1_1 < ((rd_T23 l0 x23_1).f1) then ((polygon_Orient.f ((rd_T23 l0 x23_1).f0) ((rd_T23 l0 x23_1).f1) t156 t157 a1_0 a1_1).bind fun t163 => (if t163 < 0 then (polygon_Side.l0 k1 l0 (!x7_1) l0 (l0.length : Int) (wrap64 (x23_1 + 1)) a1_0 a1_1) else (polygon_Side.l0 k1 l0 x7_1 l0 (l0.length : Int) (wrap64 (x23_1 + 1)) a1_0 a1_1))) else (polygon_Side.l0 k1 l0 x7_1 l0 (l0.length : Int) (wrap64 (x23_1 + 1)) a1_0 a1_1)) else (polygon_Side.l0 k1 l0 x7_1 l0 (l0.length : Int) (wrap64 (x23_1 + 1)) a1_0 a1_1))))) = some (r1, r2) := H
    have A17 := am A170
    clear A170
    replace H := Option.bind_eq_some_iff.mp H
    obtain ⟨t159, A180, H⟩ := H
    replace H : (if t159 = true then (some (0, 0)) else (if ((rd_T23 l0 x23_1).f1) ≤ a1_1 then (if a1_1 < t157 then ((polygon_Orient.f ((rd_T23 l0 x23_1).f0) ((rd_T23 l0 x23_1).f1) t156 t157 a1_0 a1_1).bind fun t160 => (if t160 > 0 then (polygon_Side.l0 k1 l0 (!x7_1) l0 (l0.length : Int) (wrap64 (x23_1 + 1)) a1_0 a1_1) else (if t157 ≤ a1_1 then (if a1_1 < ((rd_T23 l0 x23_1).f1) then ((polygon_Orient.f ((rd_T23 l0 x23_1).f0) ((rd_T23 l0 x23_1).f1) t156 t157 a1_0 a1_1).bind fun t161 => (if t161 < 0 then (polygon_Side.l0 k1 l0 (!x7_1) l0 (l0.length : Int) (wrap64 (x23_1 + 1)) a1_0 a1_1) else (polygon_Side.l0 k1 l0 x7_1 l0 (l0.length : Int) (wrap64 (x23_1 + 1)) a1_0 a1_1))) else (polygon_Side.l0 k1 l0 x7_1 l0 (l0.length : Int) (wrap64 (x23_1 + 1)) a1_0 a1_1)) else (polygon_Side.l0 k1 l0 x7_1 l0 (l0.length : Int) (wrap64 (x23_1 + 1)) a1_0 a1_1)))) else (if t157 ≤ a1_1 then (if a1_1 < ((rd_T23 l0 x23_1).f1) then ((polygon_Orient.f ((rd_T23 l0 x23_1).f0) ((rd_T23 l0 x23_1).f1) t156 t157 a1_0 a1_1).bind fun t162 => (if t162 < 0 then (polygon_Side.l0 k1 l0 (!x7_1) l0 (l0.length : Int) (wrap64 (x23_1 + 1)) a1_0 a1_1) else (polygon_Side.l0 k1 l0 x7_1 l0 (l0.length : Int) (wrap64 (x23_1 + 1)) a1_0 a1_1))) else (polygon_Side.l0 k1 l0 x7_1 l0 (l0.length : Int) (wrap64 (x23_1 + 1)) a1_0 a1_1)) else (polygon_Side.l0 k1 l0 x7_1 l0 (l0.length : Int) (wrap64 (x23_1 + 1)) a1_0 a1_1))) else (if t157 ≤ a1_1 then (if a1_1 < ((rd_T23 l0 x23_1).f1) then ((polygon_Orient.f ((rd_T23 l0 x23_1).f0) ((rd_T23 l0 x23_1).f1) t156 t157 a1_0 a1_1).bind fun t163 => (if t163 < 0 then (polygon_Side.l0 k1 l0 (!x7_1) l0 (l0.length : Int) (wrap64 (x23_1 + 1)) a1_0 a1_1) else (polygon_Side.l0 k1 l0 x7_1 l0 (l0.length : Int) (wrap64 (x23_1 + 1)) a1_0 a1_1))) else (polygon_Side.l0 k1 l0 x7_1 l0 (l0.length : Int) (wrap64 (x23_1 + 1)) a1_0 a1_1)) else (polygon_Side.l0 k1 l0 x7_1 l0 (l0.length : Int) (wrap64 (x23_1 + 1)) a1_0 a1_1)))) = some (r1, r2) := H
    have A18 := am A180
    clear A180
    by_cases c19 : t159 = true
    ·subst c19
     have H1 : (some (0, 0)) = some (r1, r2) := by rw [if_pos rfl] at H; exact H
     clear H
     have H := H1
     clear H1
     simp only [Option.some.injEq, Prod.mk.injEq] at H
     obtain ⟨rfl, rfl⟩ := H
     have p154 : 0 ≤ (x23_1 : Int) := of_decide_eq_true (by assumption)
     have q154 : x23_1 < (l0.length : Int) := of_decide_eq_true (by assumption)
     obtain ⟨ad154, e154, hx154_0, hx154_1⟩ := at_T23 HR0.out x23_1 p154 q154
     cases e154
     replace hx154_0 := cl HB hx154_0
     replace hx154_1 := cl HB hx154_1
     replace p154 := eq_true p154
     replace q154 := eq_true q154
     go_wp2_with (first | ((with_reducible refine gd (N := 9) rfl ?_); refine be ?hg (N := 9) ?hd (cs := #[.int .i64 0, .int .i64 0]) (t := 23) ?hr ?_; (case hd | hg => rfl); (case hr => first | (go_simp; done) | (go_simp; rfl)); intro gb155 hg w20 hbox hb; have BK155 := am hbox; have GW155 := sG HB hg; have GE155 := sG HB hg; replace HB := bS HB hb; have NB148_155 := nL BK148 hg; have NB155_148 := nG BK148 hg; replace BK148 := bB BK148 hb; clear hb hbox hg; have hnb21 := NB155_148.out; have hnc21 := NB148_155.out; obtain ⟨_, _, _, _⟩ := zC2 BK155) | ((with_reducible refine gc (f := 40) rfl ?_); refine goesL_ (some 30) rfl rfl Try.func40 (by kernel_rfl) rfl #[.slice (some ad154) l0.length c0, .int .i64 x23_1] rfl (by (try simp only [pml]); first | done | rfl | (simp only [pdt]; rfl)) ?_; (with_reducible refine (polygon_end.calls _ _ l0 x23_1 t156 t157 _ ?side1 ?side2 A17.out).mono ?_); (case side1 => exact Kd.C_below HR0.out (fW HB.out)); (case side2 => exact HC0.out); rintro e w23 ⟨rfl, hb⟩; refine ⟨_, rfl, ?_⟩; replace BK148 := xC1 (kfC BK148.out) hb; replace BK155 := xC1 (o := .cells #[.int .i64 ((rd_T23 l0 x23_1).f0), .int .i64 ((rd_T23 l0 x23_1).f1)] 23 (0, 0)) (kkC BK155.out) hb; replace HB := bS HB hb; (try clear hb); (try clear hb2); (try clear hk); (try clear hi)) | ((with_reducible refine gd (N := 10) rfl ?_); refine be ?hg (N := 10) ?hd (cs := #[.int .i64 0, .int .i64 0]) (t := 23) ?hr ?_; (case hd | hg => rfl); (case hr => first | (go_simp; done) | (go_simp; rfl)); intro gb158 hg w24 hbox hb; have BK158 := am hbox; have GW158 := sG HB hg; have GE158 := sG HB hg; replace HB := bS HB hb; have NB148_158 := nL BK148 hg; have NB158_148 := nG BK148 hg; replace BK148 := bB BK148 hb; have NB155_158 := nL BK155 hg; have NB158_155 := nG BK155 hg; replace BK155 := bB BK155 hb; clear hb hbox hg; have hnb25 := NB158_148.out; have hnc25 := NB148_158.out; have hnb26 := NB158_155.out; have hnc26 := NB155_158.out; obtain ⟨_, _, _, _⟩ := zC2 BK158; obtain ⟨_, _, _, _⟩ := zC2 BK155; obtain ⟨_, _, _, _⟩ := zC2 BK148) | ((with_reducible refine gc (f := 41) rfl ?_); refine goesL_ (some 34) rfl rfl Try.func41 (by kernel_rfl) rfl #[.agg #[.int .i64 ((rd_T23 l0 x23_1).f0), .int .i64 ((rd_T23 l0 x23_1).f1)], .agg #[.int .i64 t156, .int .i64 t157], .agg #[.int .i64 a1_0, .int .i64 a1_1]] rfl (by (try simp only [pml]); first | done | rfl | (simp only [pdt]; rfl)) ?_; (with_reducible refine (polygon_on.calls k1 ((rd_T23 l0 x23_1).f0) ((rd_T23 l0 x23_1).f1) t156 t157 a1_0 a1_1 true _ A18.out).mono ?_); rintro e w30 ⟨rfl, hb⟩; refine ⟨_, rfl, ?_⟩; replace BK148 := xC1 (kfC BK148.out) hb; replace BK155 := xC1 (kfC BK155.out) hb; replace BK158 := xC1 (o := .cells #[.int .i64 t156, .int .i64 t157] 23 (0, 0)) (kkC BK158.out) hb; replace HB := bS HB hb; (try clear hb); (try clear hb2); (try clear hk); (try clear hi)))
     go_ret2
     exact ⟨sqE, fW HB.out⟩
    replace c19 := Bool.eq_false_iff.mpr c19
    subst c19
    have H1 : (if ((rd_T23 l0 x23_1).f1) ≤ a1_1 then (if a1_1 < t157 then ((polygon_Orient.f ((rd_T23 l0 x23_1).f0) ((rd_T23 l0 x23_1).f1) t156 t157 a1_0 a1_1).bind fun t160 => (if t160 > 0 then (polygon_Side.l0 k1 l0 (!x7_1) l0 (l0.length : Int) (wrap64 (x23_1 + 1)) a1_0 a1_1) else (if t157 ≤ a1_1 then (if a1_1 < ((rd_T23 l0 x23_1).f1) then ((polygon_Orient.f ((rd_T23 l0 x23_1).f0) ((rd_T23 l0 x23_1).f1) t156 t157 a1_0 a1_1).bind fun t161 => (if t161 < 0 then (polygon_Side.l0 k1 l0 (!x7_1) l0 (l0.length : Int) (wrap64 (x23_1 + 1)) a1_0 a1_1) else (polygon_Side.l0 k1 l0 x7_1 l0 (l0.length : Int) (wrap64 (x23_1 + 1)) a1_0 a1_1))) else (polygon_Side.l0 k1 l0 x7_1 l0 (l0.length : Int) (wrap64 (x23_1 + 1)) a1_0 a1_1)) else (polygon_Side.l0 k1 l0 x7_1 l0 (l0.length : Int) (wrap64 (x23_1 + 1)) a1_0 a1_1)))) else (if t157 ≤ a1_1 then (if a1_1 < ((rd_T23 l0 x23_1).f1) then ((polygon_Orient.f ((rd_T23 l0 x23_1).f0) ((rd_T23 l0 x23_1).f1) t156 t157 a1_0 a1_1).bind fun t162 => (if t162 < 0 then (polygon_Side.l0 k1 l0 (!x7_1) l0 (l0.length : Int) (wrap64 (x23_1 + 1)) a1_0 a1_1) else (polygon_Side.l0 k1 l0 x7_1 l0 (l0.length : Int) (wrap64 (x23_1 + 1)) a1_0 a1_1))) else (polygon_Side.l0 k1 l0 x7_1 l0 (l0.length : Int) (wrap64 (x23_1 + 1)) a1_0 a1_1)) else (polygon_Side.l0 k1 l0 x7_1 l0 (l0.length : Int) (wrap64 (x23_1 + 1)) a1_0 a1_1))) else (if t157 ≤ a1_1 then (if a1_1 < ((rd_T23 l0 x23_1).f1) then ((polygon_Orient.f ((rd_T23 l0 x23_1).f0) ((rd_T23 l0 x23_1).f1) t156 t157 a1_0 a1_1).bind fun t163 => (if t163 < 0 then (polygon_Side.l0 k1 l0 (!x7_1) l0 (l0.length : Int) (wrap64 (x23_1 + 1)) a1_0 a1_1) else (polygon_Side.l0 k1 l0 x7_1 l0 (l0.length : Int) (wrap64 (x23_1 + 1)) a1_0 a1_1))) else (polygon_Side.l0 k1 l0 x7_1 l0 (l0.length : Int) (wrap64 (x23_1 + 1)) a1_0 a1_1)) else (polygon_Side.l0 k1 l0 x7_1 l0 (l0.length : Int) (wrap64 (x23_1 + 1)) a1_0 a1_1))) = some (r1, r2) := by rw [if_neg (show ¬ (false = true) by decide)] at H; exact H
    clear H
    have H := H1
    clear H1
    by_cases c31 : ((rd_T23 l0 x23_1).f1) ≤ a1_1
    rotate_left
    ·rw [if_neg c31] at H
     have c31b0 : decide (((rd_T23 l0 x23_1).f1) ≤ a1_1) = false := decide_eq_false c31
     clear c31
     by_cases c189 : t157 ≤ a1_1
     rotate_left
     ·rw [if_neg c189] at H
      have c189b0 : decide (t157 ≤ a1_1) = false := decide_eq_false c189
      clear c189
      have H' := am H
      clear H
      have p154 : 0 ≤ (x23_1 : Int) := of_decide_eq_true (by assumption)
      have q154 : x23_1 < (l0.length : Int) := of_decide_eq_true (by assumption)
      obtain ⟨ad154, e154, hx154_0, hx154_1⟩ := at_T23 HR0.out x23_1 p154 q154
      cases e154
      replace hx154_0 := cl HB hx154_0
      replace hx154_1 := cl HB hx154_1
      replace p154 := eq_true p154
      replace q154 := eq_true q154
      go_wp2_with (first | ((with_reducible refine gd (N := 9) rfl ?_); refine be ?hg (N := 9) ?hd (cs := #[.int .i64 0, .int .i64 0]) (t := 23) ?hr ?_; (case hd | hg => rfl); (case hr => first | (go_simp; done) | (go_simp; rfl)); intro gb155 hg w237 hbox hb; have BK155 := am hbox; have GW155 := sG HB hg; have GE155 := sG HB hg; replace HB := bS HB hb; have NB148_155 := nL BK148 hg; have NB155_148 := nG BK148 hg; replace BK148 := bB BK148 hb; clear hb hbox hg; have hnb238 := NB155_148.out; have hnc238 := NB148_155.out; obtain ⟨_, _, _, _⟩ := zC2 BK155) | ((with_reducible refine gc (f := 40) rfl ?_); refine goesL_ (some 30) rfl rfl Try.func40 (by kernel_rfl) rfl #[.slice (some ad154) l0.length c0, .int .i64 x23_1] rfl (by (try simp only [pml]); first | done | rfl | (simp only [pdt]; rfl)) ?_; (with_reducible refine (polygon_end.calls _ _ l0 x23_1 t156 t157 _ ?side1 ?side2 A17.out).mono ?_); (case side1 => exact Kd.C_below HR0.out (fW HB.out)); (case side2 => exact HC0.out); rintro e w240 ⟨rfl, hb⟩; refine ⟨_, rfl, ?_⟩; replace BK148 := xC1 (kfC BK148.out) hb; replace BK155 := xC1 (o := .cells #[.int .i64 ((rd_T23 l0 x23_1).f0), .int .i64 ((rd_T23 l0 x23_1).f1)] 23 (0, 0)) (kkC BK155.out) hb; replace HB := bS HB hb; (try clear hb); (try clear hb2); (try clear hk); (try clear hi)) | ((with_reducible refine gd (N := 10) rfl ?_); refine be ?hg (N := 10) ?hd (cs := #[.int .i64 0, .int .i64 0]) (t := 23) ?hr ?_; (case hd | hg => rfl); (case hr => first | (go_simp; done) | (go_simp; rfl)); intro gb158 hg w241 hbox hb; have BK158 := am hbox; have GW158 := sG HB hg; have GE158 := sG HB hg; replace HB := bS HB hb; have NB148_158 := nL BK148 hg; have NB158_148 := nG BK148 hg; replace BK148 := bB BK148 hb; have NB155_158 := nL BK155 hg; have NB158_155 := nG BK155 hg; replace BK155 := bB BK155 hb; clear hb hbox hg; have hnb242 := NB158_148.out; have hnc242 := NB148_158.out; have hnb243 := NB158_155.out; have hnc243 := NB155_158.out; obtain ⟨_, _, _, _⟩ := zC2 BK158; obtain ⟨_, _, _, _⟩ := zC2 BK155; obtain ⟨_, _, _, _⟩ := zC2 BK148) | ((with_reducible refine gc (f := 41) rfl ?_); refine goesL_ (some 34) rfl rfl Try.func41 (by kernel_rfl) rfl #[.agg #[.int .i64 ((rd_T23 l0 x23_1).f0), .int .i64 ((rd_T23 l0 x23_1).f1)], .agg #[.int .i64 t156, .int .i64 t157], .agg #[.int .i64 a1_0, .int .i64 a1_1]] rfl (by (try simp only [pml]); first | done | rfl | (simp only [pdt]; rfl)) ?_; (with_reducible refine (polygon_on.calls k1 ((rd_T23 l0 x23_1).f0) ((rd_T23 l0 x23_1).f1) t156 t157 a1_0 a1_1 false _ A18.out).mono ?_); rintro e w247 ⟨rfl, hb⟩; refine ⟨_, rfl, ?_⟩; replace BK148 := xC1 (kfC BK148.out) hb; replace BK155 := xC1 (kfC BK155.out) hb; replace BK158 := xC1 (o := .cells #[.int .i64 t156, .int .i64 t157] 23 (0, 0)) (kkC BK158.out) hb; replace HB := bS HB hb; (try clear hb); (try clear hb2); (try clear hk); (try clear hi); obtain ⟨_, _, _, _⟩ := zC2 BK155; obtain ⟨_, _, _, _⟩ := zC2 BK148; obtain ⟨_, _, _, _⟩ := zC2 BK158))
      go_roundg k1
      case measure => have := HK1.out; omega
      case rel => exact ⟨(x7_1), (wrap64 (x23_1 + 1)), sqD, sqD, H', ⟨by have := HK1.out; omega⟩, ⟨fb BK148.out⟩, ⟨fW HB.out⟩⟩
     rw [if_pos c189] at H
     have c189b0 : decide (t157 ≤ a1_1) = true := decide_eq_true c189
     clear c189
     by_cases c190 : a1_1 < ((rd_T23 l0 x23_1).f1)
     rotate_left
     ·rw [if_neg c190] at H
      have c190b0 : decide (a1_1 < ((rd_T23 l0 x23_1).f1)) = false := decide_eq_false c190
      clear c190
      have H' := am H
      clear H
      have p154 : 0 ≤ (x23_1 : Int) := of_decide_eq_true (by assumption)
      have q154 : x23_1 < (l0.length : Int) := of_decide_eq_true (by assumption)
      obtain ⟨ad154, e154, hx154_0, hx154_1⟩ := at_T23 HR0.out x23_1 p154 q154
      cases e154
      replace hx154_0 := cl HB hx154_0
      replace hx154_1 := cl HB hx154_1
      replace p154 := eq_true p154
      replace q154 := eq_true q154
      go_wp2_with (first | ((with_reducible refine gd (N := 9) rfl ?_); refine be ?hg (N := 9) ?hd (cs := #[.int .i64 0, .int .i64 0]) (t := 23) ?hr ?_; (case hd | hg => rfl); (case hr => first | (go_simp; done) | (go_simp; rfl)); intro gb155 hg w223 hbox hb; have BK155 := am hbox; have GW155 := sG HB hg; have GE155 := sG HB hg; replace HB := bS HB hb; have NB148_155 := nL BK148 hg; have NB155_148 := nG BK148 hg; replace BK148 := bB BK148 hb; clear hb hbox hg; have hnb224 := NB155_148.out; have hnc224 := NB148_155.out; obtain ⟨_, _, _, _⟩ := zC2 BK155) | ((with_reducible refine gc (f := 40) rfl ?_); refine goesL_ (some 30) rfl rfl Try.func40 (by kernel_rfl) rfl #[.slice (some ad154) l0.length c0, .int .i64 x23_1] rfl (by (try simp only [pml]); first | done | rfl | (simp only [pdt]; rfl)) ?_; (with_reducible refine (polygon_end.calls _ _ l0 x23_1 t156 t157 _ ?side1 ?side2 A17.out).mono ?_); (case side1 => exact Kd.C_below HR0.out (fW HB.out)); (case side2 => exact HC0.out); rintro e w226 ⟨rfl, hb⟩; refine ⟨_, rfl, ?_⟩; replace BK148 := xC1 (kfC BK148.out) hb; replace BK155 := xC1 (o := .cells #[.int .i64 ((rd_T23 l0 x23_1).f0), .int .i64 ((rd_T23 l0 x23_1).f1)] 23 (0, 0)) (kkC BK155.out) hb; replace HB := bS HB hb; (try clear hb); (try clear hb2); (try clear hk); (try clear hi)) | ((with_reducible refine gd (N := 10) rfl ?_); refine be ?hg (N := 10) ?hd (cs := #[.int .i64 0, .int .i64 0]) (t := 23) ?hr ?_; (case hd | hg => rfl); (case hr => first | (go_simp; done) | (go_simp; rfl)); intro gb158 hg w227 hbox hb; have BK158 := am hbox; have GW158 := sG HB hg; have GE158 := sG HB hg; replace HB := bS HB hb; have NB148_158 := nL BK148 hg; have NB158_148 := nG BK148 hg; replace BK148 := bB BK148 hb; have NB155_158 := nL BK155 hg; have NB158_155 := nG BK155 hg; replace BK155 := bB BK155 hb; clear hb hbox hg; have hnb228 := NB158_148.out; have hnc228 := NB148_158.out; have hnb229 := NB158_155.out; have hnc229 := NB155_158.out; obtain ⟨_, _, _, _⟩ := zC2 BK158; obtain ⟨_, _, _, _⟩ := zC2 BK155; obtain ⟨_, _, _, _⟩ := zC2 BK148) | ((with_reducible refine gc (f := 41) rfl ?_); refine goesL_ (some 34) rfl rfl Try.func41 (by kernel_rfl) rfl #[.agg #[.int .i64 ((rd_T23 l0 x23_1).f0), .int .i64 ((rd_T23 l0 x23_1).f1)], .agg #[.int .i64 t156, .int .i64 t157], .agg #[.int .i64 a1_0, .int .i64 a1_1]] rfl (by (try simp only [pml]); first | done | rfl | (simp only [pdt]; rfl)) ?_; (with_reducible refine (polygon_on.calls k1 ((rd_T23 l0 x23_1).f0) ((rd_T23 l0 x23_1).f1) t156 t157 a1_0 a1_1 false _ A18.out).mono ?_); rintro e w233 ⟨rfl, hb⟩; refine ⟨_, rfl, ?_⟩; replace BK148 := xC1 (kfC BK148.out) hb; replace BK155 := xC1 (kfC BK155.out) hb; replace BK158 := xC1 (o := .cells #[.int .i64 t156, .int .i64 t157] 23 (0, 0)) (kkC BK158.out) hb; replace HB := bS HB hb; (try clear hb); (try clear hb2); (try clear hk); (try clear hi); obtain ⟨_, _, _, _⟩ := zC2 BK155; obtain ⟨_, _, _, _⟩ := zC2 BK148; obtain ⟨_, _, _, _⟩ := zC2 BK158))
      go_roundg k1
      case measure => have := HK1.out; omega
      case rel => exact ⟨(x7_1), (wrap64 (x23_1 + 1)), sqD, sqD, H', ⟨by have := HK1.out; omega⟩, ⟨fb BK148.out⟩, ⟨fW HB.out⟩⟩
     rw [if_pos c190] at H
     have c190b0 : decide (a1_1 < ((rd_T23 l0 x23_1).f1)) = true := decide_eq_true c190
     clear c190
     replace H := Option.bind_eq_some_iff.mp H
     obtain ⟨t163, A1910, H⟩ := H
     replace H : (if t163 < 0 then (polygon_Side.l0 k1 l0 (!x7_1) l0 (l0.length : Int) (wrap64 (x23_1 + 1)) a1_0 a1_1) else (polygon_Side.l0 k1 l0 x7_1 l0 (l0.length : Int) (wrap64 (x23_1 + 1)) a1_0 a1_1)) = some (r1, r2) := H
     have A191 := am A1910
     clear A1910
     by_cases c192 : t163 < 0
     ·rw [if_pos c192] at H
      have c192b0 : decide (t163 < 0) = true := decide_eq_true c192
      clear c192
      have H' := am H
      clear H
      have p154 : 0 ≤ (x23_1 : Int) := of_decide_eq_true (by assumption)
      have q154 : x23_1 < (l0.length : Int) := of_decide_eq_true (by assumption)
      obtain ⟨ad154, e154, hx154_0, hx154_1⟩ := at_T23 HR0.out x23_1 p154 q154
      cases e154
      replace hx154_0 := cl HB hx154_0
      replace hx154_1 := cl HB hx154_1
      replace p154 := eq_true p154
      replace q154 := eq_true q154
      go_wp2_with (first | ((with_reducible refine gd (N := 9) rfl ?_); refine be ?hg (N := 9) ?hd (cs := #[.int .i64 0, .int .i64 0]) (t := 23) ?hr ?_; (case hd | hg => rfl); (case hr => first | (go_simp; done) | (go_simp; rfl)); intro gb155 hg w193 hbox hb; have BK155 := am hbox; have GW155 := sG HB hg; have GE155 := sG HB hg; replace HB := bS HB hb; have NB148_155 := nL BK148 hg; have NB155_148 := nG BK148 hg; replace BK148 := bB BK148 hb; clear hb hbox hg; have hnb194 := NB155_148.out; have hnc194 := NB148_155.out; obtain ⟨_, _, _, _⟩ := zC2 BK155) | ((with_reducible refine gc (f := 40) rfl ?_); refine goesL_ (some 30) rfl rfl Try.func40 (by kernel_rfl) rfl #[.slice (some ad154) l0.length c0, .int .i64 x23_1] rfl (by (try simp only [pml]); first | done | rfl | (simp only [pdt]; rfl)) ?_; (with_reducible refine (polygon_end.calls _ _ l0 x23_1 t156 t157 _ ?side1 ?side2 A17.out).mono ?_); (case side1 => exact Kd.C_below HR0.out (fW HB.out)); (case side2 => exact HC0.out); rintro e w196 ⟨rfl, hb⟩; refine ⟨_, rfl, ?_⟩; replace BK148 := xC1 (kfC BK148.out) hb; replace BK155 := xC1 (o := .cells #[.int .i64 ((rd_T23 l0 x23_1).f0), .int .i64 ((rd_T23 l0 x23_1).f1)] 23 (0, 0)) (kkC BK155.out) hb; replace HB := bS HB hb; (try clear hb); (try clear hb2); (try clear hk); (try clear hi)) | ((with_reducible refine gd (N := 10) rfl ?_); refine be ?hg (N := 10) ?hd (cs := #[.int .i64 0, .int .i64 0]) (t := 23) ?hr ?_; (case hd | hg => rfl); (case hr => first | (go_simp; done) | (go_simp; rfl)); intro gb158 hg w197 hbox hb; have BK158 := am hbox; have GW158 := sG HB hg; have GE158 := sG HB hg; replace HB := bS HB hb; have NB148_158 := nL BK148 hg; have NB158_148 := nG BK148 hg; replace BK148 := bB BK148 hb; have NB155_158 := nL BK155 hg; have NB158_155 := nG BK155 hg; replace BK155 := bB BK155 hb; clear hb hbox hg; have hnb198 := NB158_148.out; have hnc198 := NB148_158.out; have hnb199 := NB158_155.out; have hnc199 := NB155_158.out; obtain ⟨_, _, _, _⟩ := zC2 BK158; obtain ⟨_, _, _, _⟩ := zC2 BK155; obtain ⟨_, _, _, _⟩ := zC2 BK148) | ((with_reducible refine gc (f := 41) rfl ?_); refine goesL_ (some 34) rfl rfl Try.func41 (by kernel_rfl) rfl #[.agg #[.int .i64 ((rd_T23 l0 x23_1).f0), .int .i64 ((rd_T23 l0 x23_1).f1)], .agg #[.int .i64 t156, .int .i64 t157], .agg #[.int .i64 a1_0, .int .i64 a1_1]] rfl (by (try simp only [pml]); first | done | rfl | (simp only [pdt]; rfl)) ?_; (with_reducible refine (polygon_on.calls k1 ((rd_T23 l0 x23_1).f0) ((rd_T23 l0 x23_1).f1) t156 t157 a1_0 a1_1 false _ A18.out).mono ?_); rintro e w203 ⟨rfl, hb⟩; refine ⟨_, rfl, ?_⟩; replace BK148 := xC1 (kfC BK148.out) hb; replace BK155 := xC1 (kfC BK155.out) hb; replace BK158 := xC1 (o := .cells #[.int .i64 t156, .int .i64 t157] 23 (0, 0)) (kkC BK158.out) hb; replace HB := bS HB hb; (try clear hb); (try clear hb2); (try clear hk); (try clear hi); obtain ⟨_, _, _, _⟩ := zC2 BK155; obtain ⟨_, _, _, _⟩ := zC2 BK148; obtain ⟨_, _, _, _⟩ := zC2 BK158) | (go_at_call 13; (with_reducible refine (polygon_Orient.calls ((rd_T23 l0 x23_1).f0) ((rd_T23 l0 x23_1).f1) t156 t157 a1_0 a1_1 t163 _ A191.out).mono ?_); rintro e w207 ⟨rfl, hb⟩; replace BK148 := bB BK148 hb; replace BK155 := bB BK155 hb; replace BK158 := bB BK158 hb; replace HB := bS HB hb; (try clear hb); (try clear hb2); (try clear hk); (try clear hi)))
      go_roundg k1
      case measure => have := HK1.out; omega
      case rel => exact ⟨(!x7_1), (wrap64 (x23_1 + 1)), sqD, sqD, H', ⟨by have := HK1.out; omega⟩, ⟨fb BK148.out⟩, ⟨fW HB.out⟩⟩
     rw [if_neg c192] at H
     have c192b0 : decide (t163 < 0) = false := decide_eq_false c192
     clear c192
     have H' := am H
     clear H
     have p154 : 0 ≤ (x23_1 : Int) := of_decide_eq_true (by assumption)
     have q154 : x23_1 < (l0.length : Int) := of_decide_eq_true (by assumption)
     obtain ⟨ad154, e154, hx154_0, hx154_1⟩ := at_T23 HR0.out x23_1 p154 q154
     cases e154
     replace hx154_0 := cl HB hx154_0
     replace hx154_1 := cl HB hx154_1
     replace p154 := eq_true p154
     replace q154 := eq_true q154
     go_wp2_with (first | ((with_reducible refine gd (N := 9) rfl ?_); refine be ?hg (N := 9) ?hd (cs := #[.int .i64 0, .int .i64 0]) (t := 23) ?hr ?_; (case hd | hg => rfl); (case hr => first | (go_simp; done) | (go_simp; rfl)); intro gb155 hg w208 hbox hb; have BK155 := am hbox; have GW155 := sG HB hg; have GE155 := sG HB hg; replace HB := bS HB hb; have NB148_155 := nL BK148 hg; have NB155_148 := nG BK148 hg; replace BK148 := bB BK148 hb; clear hb hbox hg; have hnb209 := NB155_148.out; have hnc209 := NB148_155.out; obtain ⟨_, _, _, _⟩ := zC2 BK155) | ((with_reducible refine gc (f := 40) rfl ?_); refine goesL_ (some 30) rfl rfl Try.func40 (by kernel_rfl) rfl #[.slice (some ad154) l0.length c0, .int .i64 x23_1] rfl (by (try simp only [pml]); first | done | rfl | (simp only [pdt]; rfl)) ?_; (with_reducible refine (polygon_end.calls _ _ l0 x23_1 t156 t157 _ ?side1 ?side2 A17.out).mono ?_); (case side1 => exact Kd.C_below HR0.out (fW HB.out)); (case side2 => exact HC0.out); rintro e w211 ⟨rfl, hb⟩; refine ⟨_, rfl, ?_⟩; replace BK148 := xC1 (kfC BK148.out) hb; replace BK155 := xC1 (o := .cells #[.int .i64 ((rd_T23 l0 x23_1).f0), .int .i64 ((rd_T23 l0 x23_1).f1)] 23 (0, 0)) (kkC BK155.out) hb; replace HB := bS HB hb; (try clear hb); (try clear hb2); (try clear hk); (try clear hi)) | ((with_reducible refine gd (N := 10) rfl ?_); refine be ?hg (N := 10) ?hd (cs := #[.int .i64 0, .int .i64 0]) (t := 23) ?hr ?_; (case hd | hg => rfl); (case hr => first | (go_simp; done) | (go_simp; rfl)); intro gb158 hg w212 hbox hb; have BK158 := am hbox; have GW158 := sG HB hg; have GE158 := sG HB hg; replace HB := bS HB hb; have NB148_158 := nL BK148 hg; have NB158_148 := nG BK148 hg; replace BK148 := bB BK148 hb; have NB155_158 := nL BK155 hg; have NB158_155 := nG BK155 hg; replace BK155 := bB BK155 hb; clear hb hbox hg; have hnb213 := NB158_148.out; have hnc213 := NB148_158.out; have hnb214 := NB158_155.out; have hnc214 := NB155_158.out; obtain ⟨_, _, _, _⟩ := zC2 BK158; obtain ⟨_, _, _, _⟩ := zC2 BK155; obtain ⟨_, _, _, _⟩ := zC2 BK148) | ((with_reducible refine gc (f := 41) rfl ?_); refine goesL_ (some 34) rfl rfl Try.func41 (by kernel_rfl) rfl #[.agg #[.int .i64 ((rd_T23 l0 x23_1).f0), .int .i64 ((rd_T23 l0 x23_1).f1)], .agg #[.int .i64 t156, .int .i64 t157], .agg #[.int .i64 a1_0, .int .i64 a1_1]] rfl (by (try simp only [pml]); first | done | rfl | (simp only [pdt]; rfl)) ?_; (with_reducible refine (polygon_on.calls k1 ((rd_T23 l0 x23_1).f0) ((rd_T23 l0 x23_1).f1) t156 t157 a1_0 a1_1 false _ A18.out).mono ?_); rintro e w218 ⟨rfl, hb⟩; refine ⟨_, rfl, ?_⟩; replace BK148 := xC1 (kfC BK148.out) hb; replace BK155 := xC1 (kfC BK155.out) hb; replace BK158 := xC1 (o := .cells #[.int .i64 t156, .int .i64 t157] 23 (0, 0)) (kkC BK158.out) hb; replace HB := bS HB hb; (try clear hb); (try clear hb2); (try clear hk); (try clear hi); obtain ⟨_, _, _, _⟩ := zC2 BK155; obtain ⟨_, _, _, _⟩ := zC2 BK148; obtain ⟨_, _, _, _⟩ := zC2 BK158) | (go_at_call 13; (with_reducible refine (polygon_Orient.calls ((rd_T23 l0 x23_1).f0) ((rd_T23 l0 x23_1).f1) t156 t157 a1_0 a1_1 t163 _ A191.out).mono ?_); rintro e w222 ⟨rfl, hb⟩; replace BK148 := bB BK148 hb; replace BK155 := bB BK155 hb; replace BK158 := bB BK158 hb; replace HB := bS HB hb; (try clear hb); (try clear hb2); (try clear hk); (try clear hi)))
     go_roundg k1
     case measure => have := HK1.out; omega
     case rel => exact ⟨(x7_1), (wrap64 (x23_1 + 1)), sqD, sqD, H', ⟨by have := HK1.out; omega⟩, ⟨fb BK148.out⟩, ⟨fW HB.out⟩⟩
    rw [if_pos c31] at H
    have c31b0 : decide (((rd_T23 l0 x23_1).f1) ≤ a1_1) = true := decide_eq_true c31
    clear c31
    by_cases c32 : a1_1 < t157
    ·rw [if_pos c32] at H
     have c32b0 : decide (a1_1 < t157) = true := decide_eq_true c32
     clear c32
     replace H := Option.bind_eq_some_iff.mp H
     obtain ⟨t160, A330, H⟩ := H
     replace H : (if t160 > 0 then (polygon_Side.l0 k1 l0 (!x7_1) l0 (l0.length : Int) (wrap64 (x23_1 + 1)) a1_0 a1_1) else (if t157 ≤ a1_1 then (if a1_1 < ((rd_T23 l0 x23_1).f1) then ((polygon_Orient.f ((rd_T23 l0 x23_1).f0) ((rd_T23 l0 x23_1).f1) t156 t157 a1_0 a1_1).bind fun t161 => (if t161 < 0 then (polygon_Side.l0 k1 l0 (!x7_1) l0 (l0.length : Int) (wrap64 (x23_1 + 1)) a1_0 a1_1) else (polygon_Side.l0 k1 l0 x7_1 l0 (l0.length : Int) (wrap64 (x23_1 + 1)) a1_0 a1_1))) else (polygon_Side.l0 k1 l0 x7_1 l0 (l0.length : Int) (wrap64 (x23_1 + 1)) a1_0 a1_1)) else (polygon_Side.l0 k1 l0 x7_1 l0 (l0.length : Int) (wrap64 (x23_1 + 1)) a1_0 a1_1))) = some (r1, r2) := H
     have A33 := am A330
     clear A330
     by_cases c34 : t160 > 0
     ·rw [if_pos c34] at H
      have c34b0 : decide (0 < t160) = true := decide_eq_true c34
      clear c34
      have H' := am H
      clear H
      have p154 : 0 ≤ (x23_1 : Int) := of_decide_eq_true (by assumption)
      have q154 : x23_1 < (l0.length : Int) := of_decide_eq_true (by assumption)
      obtain ⟨ad154, e154, hx154_0, hx154_1⟩ := at_T23 HR0.out x23_1 p154 q154
      cases e154
      replace hx154_0 := cl HB hx154_0
      replace hx154_1 := cl HB hx154_1
      replace p154 := eq_true p154
      replace q154 := eq_true q154
      go_wp2_with (first | ((with_reducible refine gd (N := 9) rfl ?_); refine be ?hg (N := 9) ?hd (cs := #[.int .i64 0, .int .i64 0]) (t := 23) ?hr ?_; (case hd | hg => rfl); (case hr => first | (go_simp; done) | (go_simp; rfl)); intro gb155 hg w35 hbox hb; have BK155 := am hbox; have GW155 := sG HB hg; have GE155 := sG HB hg; replace HB := bS HB hb; have NB148_155 := nL BK148 hg; have NB155_148 := nG BK148 hg; replace BK148 := bB BK148 hb; clear hb hbox hg; have hnb36 := NB155_148.out; have hnc36 := NB148_155.out; obtain ⟨_, _, _, _⟩ := zC2 BK155) | ((with_reducible refine gc (f := 40) rfl ?_); refine goesL_ (some 30) rfl rfl Try.func40 (by kernel_rfl) rfl #[.slice (some ad154) l0.length c0, .int .i64 x23_1] rfl (by (try simp only [pml]); first | done | rfl | (simp only [pdt]; rfl)) ?_; (with_reducible refine (polygon_end.calls _ _ l0 x23_1 t156 t157 _ ?side1 ?side2 A17.out).mono ?_); (case side1 => exact Kd.C_below HR0.out (fW HB.out)); (case side2 => exact HC0.out); rintro e w38 ⟨rfl, hb⟩; refine ⟨_, rfl, ?_⟩; replace BK148 := xC1 (kfC BK148.out) hb; replace BK155 := xC1 (o := .cells #[.int .i64 ((rd_T23 l0 x23_1).f0), .int .i64 ((rd_T23 l0 x23_1).f1)] 23 (0, 0)) (kkC BK155.out) hb; replace HB := bS HB hb; (try clear hb); (try clear hb2); (try clear hk); (try clear hi)) | ((with_reducible refine gd (N := 10) rfl ?_); refine be ?hg (N := 10) ?hd (cs := #[.int .i64 0, .int .i64 0]) (t := 23) ?hr ?_; (case hd | hg => rfl); (case hr => first | (go_simp; done) | (go_simp; rfl)); intro gb158 hg w39 hbox hb; have BK158 := am hbox; have GW158 := sG HB hg; have GE158 := sG HB hg; replace HB := bS HB hb; have NB148_158 := nL BK148 hg; have NB158_148 := nG BK148 hg; replace BK148 := bB BK148 hb; have NB155_158 := nL BK155 hg; have NB158_155 := nG BK155 hg; replace BK155 := bB BK155 hb; clear hb hbox hg; have hnb40 := NB158_148.out; have hnc40 := NB148_158.out; have hnb41 := NB158_155.out; have hnc41 := NB155_158.out; obtain ⟨_, _, _, _⟩ := zC2 BK158; obtain ⟨_, _, _, _⟩ := zC2 BK155; obtain ⟨_, _, _, _⟩ := zC2 BK148) | ((with_reducible refine gc (f := 41) rfl ?_); refine goesL_ (some 34) rfl rfl Try.func41 (by kernel_rfl) rfl #[.agg #[.int .i64 ((rd_T23 l0 x23_1).f0), .int .i64 ((rd_T23 l0 x23_1).f1)], .agg #[.int .i64 t156, .int .i64 t157], .agg #[.int .i64 a1_0, .int .i64 a1_1]] rfl (by (try simp only [pml]); first | done | rfl | (simp only [pdt]; rfl)) ?_; (with_reducible refine (polygon_on.calls k1 ((rd_T23 l0 x23_1).f0) ((rd_T23 l0 x23_1).f1) t156 t157 a1_0 a1_1 false _ A18.out).mono ?_); rintro e w45 ⟨rfl, hb⟩; refine ⟨_, rfl, ?_⟩; replace BK148 := xC1 (kfC BK148.out) hb; replace BK155 := xC1 (kfC BK155.out) hb; replace BK158 := xC1 (o := .cells #[.int .i64 t156, .int .i64 t157] 23 (0, 0)) (kkC BK158.out) hb; replace HB := bS HB hb; (try clear hb); (try clear hb2); (try clear hk); (try clear hi); obtain ⟨_, _, _, _⟩ := zC2 BK155; obtain ⟨_, _, _, _⟩ := zC2 BK148; obtain ⟨_, _, _, _⟩ := zC2 BK158) | (go_at_call 13; (with_reducible refine (polygon_Orient.calls ((rd_T23 l0 x23_1).f0) ((rd_T23 l0 x23_1).f1) t156 t157 a1_0 a1_1 t160 _ A33.out).mono ?_); rintro e w49 ⟨rfl, hb⟩; replace BK148 := bB BK148 hb; replace BK155 := bB BK155 hb; replace BK158 := bB BK158 hb; replace HB := bS HB hb; (try clear hb); (try clear hb2); (try clear hk); (try clear hi)))
      go_roundg k1
      case measure => have := HK1.out; omega
      case rel => exact ⟨(!x7_1), (wrap64 (x23_1 + 1)), sqD, sqD, H', ⟨by have := HK1.out; omega⟩, ⟨fb BK148.out⟩, ⟨fW HB.out⟩⟩
     rw [if_neg c34] at H
     have c34b0 : decide (0 < t160) = false := decide_eq_false c34
     clear c34
     by_cases c50 : t157 ≤ a1_1
     ·exact absurd c50 (by have := of_decide_eq_true c32b0; omega)
     rw [if_neg c50] at H
     have c50b0 : decide (t157 ≤ a1_1) = false := decide_eq_false c50
     clear c50
     have H' := am H
     clear H
     have p154 : 0 ≤ (x23_1 : Int) := of_decide_eq_true (by assumption)
     have q154 : x23_1 < (l0.length : Int) := of_decide_eq_true (by assumption)
     obtain ⟨ad154, e154, hx154_0, hx154_1⟩ := at_T23 HR0.out x23_1 p154 q154
     cases e154
     replace hx154_0 := cl HB hx154_0
     replace hx154_1 := cl HB hx154_1
     replace p154 := eq_true p154
     replace q154 := eq_true q154
     go_wp2_with (first | ((with_reducible refine gd (N := 9) rfl ?_); refine be ?hg (N := 9) ?hd (cs := #[.int .i64 0, .int .i64 0]) (t := 23) ?hr ?_; (case hd | hg => rfl); (case hr => first | (go_simp; done) | (go_simp; rfl)); intro gb155 hg w110 hbox hb; have BK155 := am hbox; have GW155 := sG HB hg; have GE155 := sG HB hg; replace HB := bS HB hb; have NB148_155 := nL BK148 hg; have NB155_148 := nG BK148 hg; replace BK148 := bB BK148 hb; clear hb hbox hg; have hnb111 := NB155_148.out; have hnc111 := NB148_155.out; obtain ⟨_, _, _, _⟩ := zC2 BK155) | ((with_reducible refine gc (f := 40) rfl ?_); refine goesL_ (some 30) rfl rfl Try.func40 (by kernel_rfl) rfl #[.slice (some ad154) l0.length c0, .int .i64 x23_1] rfl (by (try simp only [pml]); first | done | rfl | (simp only [pdt]; rfl)) ?_; (with_reducible refine (polygon_end.calls _ _ l0 x23_1 t156 t157 _ ?side1 ?side2 A17.out).mono ?_); (case side1 => exact Kd.C_below HR0.out (fW HB.out)); (case side2 => exact HC0.out); rintro e w113 ⟨rfl, hb⟩; refine ⟨_, rfl, ?_⟩; replace BK148 := xC1 (kfC BK148.out) hb; replace BK155 := xC1 (o := .cells #[.int .i64 ((rd_T23 l0 x23_1).f0), .int .i64 ((rd_T23 l0 x23_1).f1)] 23 (0, 0)) (kkC BK155.out) hb; replace HB := bS HB hb; (try clear hb); (try clear hb2); (try clear hk); (try clear hi)) | ((with_reducible refine gd (N := 10) rfl ?_); refine be ?hg (N := 10) ?hd (cs := #[.int .i64 0, .int .i64 0]) (t := 23) ?hr ?_; (case hd | hg => rfl); (case hr => first | (go_simp; done) | (go_simp; rfl)); intro gb158 hg w114 hbox hb; have BK158 := am hbox; have GW158 := sG HB hg; have GE158 := sG HB hg; replace HB := bS HB hb; have NB148_158 := nL BK148 hg; have NB158_148 := nG BK148 hg; replace BK148 := bB BK148 hb; have NB155_158 := nL BK155 hg; have NB158_155 := nG BK155 hg; replace BK155 := bB BK155 hb; clear hb hbox hg; have hnb115 := NB158_148.out; have hnc115 := NB148_158.out; have hnb116 := NB158_155.out; have hnc116 := NB155_158.out; obtain ⟨_, _, _, _⟩ := zC2 BK158; obtain ⟨_, _, _, _⟩ := zC2 BK155; obtain ⟨_, _, _, _⟩ := zC2 BK148) | ((with_reducible refine gc (f := 41) rfl ?_); refine goesL_ (some 34) rfl rfl Try.func41 (by kernel_rfl) rfl #[.agg #[.int .i64 ((rd_T23 l0 x23_1).f0), .int .i64 ((rd_T23 l0 x23_1).f1)], .agg #[.int .i64 t156, .int .i64 t157], .agg #[.int .i64 a1_0, .int .i64 a1_1]] rfl (by (try simp only [pml]); first | done | rfl | (simp only [pdt]; rfl)) ?_; (with_reducible refine (polygon_on.calls k1 ((rd_T23 l0 x23_1).f0) ((rd_T23 l0 x23_1).f1) t156 t157 a1_0 a1_1 false _ A18.out).mono ?_); rintro e w120 ⟨rfl, hb⟩; refine ⟨_, rfl, ?_⟩; replace BK148 := xC1 (kfC BK148.out) hb; replace BK155 := xC1 (kfC BK155.out) hb; replace BK158 := xC1 (o := .cells #[.int .i64 t156, .int .i64 t157] 23 (0, 0)) (kkC BK158.out) hb; replace HB := bS HB hb; (try clear hb); (try clear hb2); (try clear hk); (try clear hi); obtain ⟨_, _, _, _⟩ := zC2 BK155; obtain ⟨_, _, _, _⟩ := zC2 BK148; obtain ⟨_, _, _, _⟩ := zC2 BK158) | (go_at_call 13; (with_reducible refine (polygon_Orient.calls ((rd_T23 l0 x23_1).f0) ((rd_T23 l0 x23_1).f1) t156 t157 a1_0 a1_1 t160 _ A33.out).mono ?_); rintro e w124 ⟨rfl, hb⟩; replace BK148 := bB BK148 hb; replace BK155 := bB BK155 hb; replace BK158 := bB BK158 hb; replace HB := bS HB hb; (try clear hb); (try clear hb2); (try clear hk); (try clear hi); obtain ⟨_, _, _, _⟩ := zC2 BK158; obtain ⟨_, _, _, _⟩ := zC2 BK148))
     go_roundg k1
     case measure => have := HK1.out; omega
     case rel => exact ⟨(x7_1), (wrap64 (x23_1 + 1)), sqD, sqD, H', ⟨by have := HK1.out; omega⟩, ⟨fb BK148.out⟩, ⟨fW HB.out⟩⟩
    rw [if_neg c32] at H
    have c32b0 : decide (a1_1 < t157) = false := decide_eq_false c32
    clear c32
    by_cases c127 : t157 ≤ a1_1
    rotate_left
    ·rw [if_neg c127] at H
     have c127b0 : decide (t157 ≤ a1_1) = false := decide_eq_false c127
     clear c127
     have H' := am H
     clear H
     have p154 : 0 ≤ (x23_1 : Int) := of_decide_eq_true (by assumption)
     have q154 : x23_1 < (l0.length : Int) := of_decide_eq_true (by assumption)
     obtain ⟨ad154, e154, hx154_0, hx154_1⟩ := at_T23 HR0.out x23_1 p154 q154
     cases e154
     replace hx154_0 := cl HB hx154_0
     replace hx154_1 := cl HB hx154_1
     replace p154 := eq_true p154
     replace q154 := eq_true q154
     go_wp2_with (first | ((with_reducible refine gd (N := 9) rfl ?_); refine be ?hg (N := 9) ?hd (cs := #[.int .i64 0, .int .i64 0]) (t := 23) ?hr ?_; (case hd | hg => rfl); (case hr => first | (go_simp; done) | (go_simp; rfl)); intro gb155 hg w175 hbox hb; have BK155 := am hbox; have GW155 := sG HB hg; have GE155 := sG HB hg; replace HB := bS HB hb; have NB148_155 := nL BK148 hg; have NB155_148 := nG BK148 hg; replace BK148 := bB BK148 hb; clear hb hbox hg; have hnb176 := NB155_148.out; have hnc176 := NB148_155.out; obtain ⟨_, _, _, _⟩ := zC2 BK155) | ((with_reducible refine gc (f := 40) rfl ?_); refine goesL_ (some 30) rfl rfl Try.func40 (by kernel_rfl) rfl #[.slice (some ad154) l0.length c0, .int .i64 x23_1] rfl (by (try simp only [pml]); first | done | rfl | (simp only [pdt]; rfl)) ?_; (with_reducible refine (polygon_end.calls _ _ l0 x23_1 t156 t157 _ ?side1 ?side2 A17.out).mono ?_); (case side1 => exact Kd.C_below HR0.out (fW HB.out)); (case side2 => exact HC0.out); rintro e w178 ⟨rfl, hb⟩; refine ⟨_, rfl, ?_⟩; replace BK148 := xC1 (kfC BK148.out) hb; replace BK155 := xC1 (o := .cells #[.int .i64 ((rd_T23 l0 x23_1).f0), .int .i64 ((rd_T23 l0 x23_1).f1)] 23 (0, 0)) (kkC BK155.out) hb; replace HB := bS HB hb; (try clear hb); (try clear hb2); (try clear hk); (try clear hi)) | ((with_reducible refine gd (N := 10) rfl ?_); refine be ?hg (N := 10) ?hd (cs := #[.int .i64 0, .int .i64 0]) (t := 23) ?hr ?_; (case hd | hg => rfl); (case hr => first | (go_simp; done) | (go_simp; rfl)); intro gb158 hg w179 hbox hb; have BK158 := am hbox; have GW158 := sG HB hg; have GE158 := sG HB hg; replace HB := bS HB hb; have NB148_158 := nL BK148 hg; have NB158_148 := nG BK148 hg; replace BK148 := bB BK148 hb; have NB155_158 := nL BK155 hg; have NB158_155 := nG BK155 hg; replace BK155 := bB BK155 hb; clear hb hbox hg; have hnb180 := NB158_148.out; have hnc180 := NB148_158.out; have hnb181 := NB158_155.out; have hnc181 := NB155_158.out; obtain ⟨_, _, _, _⟩ := zC2 BK158; obtain ⟨_, _, _, _⟩ := zC2 BK155; obtain ⟨_, _, _, _⟩ := zC2 BK148) | ((with_reducible refine gc (f := 41) rfl ?_); refine goesL_ (some 34) rfl rfl Try.func41 (by kernel_rfl) rfl #[.agg #[.int .i64 ((rd_T23 l0 x23_1).f0), .int .i64 ((rd_T23 l0 x23_1).f1)], .agg #[.int .i64 t156, .int .i64 t157], .agg #[.int .i64 a1_0, .int .i64 a1_1]] rfl (by (try simp only [pml]); first | done | rfl | (simp only [pdt]; rfl)) ?_; (with_reducible refine (polygon_on.calls k1 ((rd_T23 l0 x23_1).f0) ((rd_T23 l0 x23_1).f1) t156 t157 a1_0 a1_1 false _ A18.out).mono ?_); rintro e w185 ⟨rfl, hb⟩; refine ⟨_, rfl, ?_⟩; replace BK148 := xC1 (kfC BK148.out) hb; replace BK155 := xC1 (kfC BK155.out) hb; replace BK158 := xC1 (o := .cells #[.int .i64 t156, .int .i64 t157] 23 (0, 0)) (kkC BK158.out) hb; replace HB := bS HB hb; (try clear hb); (try clear hb2); (try clear hk); (try clear hi); obtain ⟨_, _, _, _⟩ := zC2 BK155; obtain ⟨_, _, _, _⟩ := zC2 BK148; obtain ⟨_, _, _, _⟩ := zC2 BK158))
     go_roundg k1
     case measure => have := HK1.out; omega
     case rel => exact ⟨(x7_1), (wrap64 (x23_1 + 1)), sqD, sqD, H', ⟨by have := HK1.out; omega⟩, ⟨fb BK148.out⟩, ⟨fW HB.out⟩⟩
    rw [if_pos c127] at H
    have c127b0 : decide (t157 ≤ a1_1) = true := decide_eq_true c127
    clear c127
    by_cases c128 : a1_1 < ((rd_T23 l0 x23_1).f1)
    rotate_left
    ·rw [if_neg c128] at H
     have c128b0 : decide (a1_1 < ((rd_T23 l0 x23_1).f1)) = false := decide_eq_false c128
     clear c128
     have H' := am H
     clear H
     have p154 : 0 ≤ (x23_1 : Int) := of_decide_eq_true (by assumption)
     have q154 : x23_1 < (l0.length : Int) := of_decide_eq_true (by assumption)
     obtain ⟨ad154, e154, hx154_0, hx154_1⟩ := at_T23 HR0.out x23_1 p154 q154
     cases e154
     replace hx154_0 := cl HB hx154_0
     replace hx154_1 := cl HB hx154_1
     replace p154 := eq_true p154
     replace q154 := eq_true q154
     go_wp2_with (first | ((with_reducible refine gd (N := 9) rfl ?_); refine be ?hg (N := 9) ?hd (cs := #[.int .i64 0, .int .i64 0]) (t := 23) ?hr ?_; (case hd | hg => rfl); (case hr => first | (go_simp; done) | (go_simp; rfl)); intro gb155 hg w161 hbox hb; have BK155 := am hbox; have GW155 := sG HB hg; have GE155 := sG HB hg; replace HB := bS HB hb; have NB148_155 := nL BK148 hg; have NB155_148 := nG BK148 hg; replace BK148 := bB BK148 hb; clear hb hbox hg; have hnb162 := NB155_148.out; have hnc162 := NB148_155.out; obtain ⟨_, _, _, _⟩ := zC2 BK155) | ((with_reducible refine gc (f := 40) rfl ?_); refine goesL_ (some 30) rfl rfl Try.func40 (by kernel_rfl) rfl #[.slice (some ad154) l0.length c0, .int .i64 x23_1] rfl (by (try simp only [pml]); first | done | rfl | (simp only [pdt]; rfl)) ?_; (with_reducible refine (polygon_end.calls _ _ l0 x23_1 t156 t157 _ ?side1 ?side2 A17.out).mono ?_); (case side1 => exact Kd.C_below HR0.out (fW HB.out)); (case side2 => exact HC0.out); rintro e w164 ⟨rfl, hb⟩; refine ⟨_, rfl, ?_⟩; replace BK148 := xC1 (kfC BK148.out) hb; replace BK155 := xC1 (o := .cells #[.int .i64 ((rd_T23 l0 x23_1).f0), .int .i64 ((rd_T23 l0 x23_1).f1)] 23 (0, 0)) (kkC BK155.out) hb; replace HB := bS HB hb; (try clear hb); (try clear hb2); (try clear hk); (try clear hi)) | ((with_reducible refine gd (N := 10) rfl ?_); refine be ?hg (N := 10) ?hd (cs := #[.int .i64 0, .int .i64 0]) (t := 23) ?hr ?_; (case hd | hg => rfl); (case hr => first | (go_simp; done) | (go_simp; rfl)); intro gb158 hg w165 hbox hb; have BK158 := am hbox; have GW158 := sG HB hg; have GE158 := sG HB hg; replace HB := bS HB hb; have NB148_158 := nL BK148 hg; have NB158_148 := nG BK148 hg; replace BK148 := bB BK148 hb; have NB155_158 := nL BK155 hg; have NB158_155 := nG BK155 hg; replace BK155 := bB BK155 hb; clear hb hbox hg; have hnb166 := NB158_148.out; have hnc166 := NB148_158.out; have hnb167 := NB158_155.out; have hnc167 := NB155_158.out; obtain ⟨_, _, _, _⟩ := zC2 BK158; obtain ⟨_, _, _, _⟩ := zC2 BK155; obtain ⟨_, _, _, _⟩ := zC2 BK148) | ((with_reducible refine gc (f := 41) rfl ?_); refine goesL_ (some 34) rfl rfl Try.func41 (by kernel_rfl) rfl #[.agg #[.int .i64 ((rd_T23 l0 x23_1).f0), .int .i64 ((rd_T23 l0 x23_1).f1)], .agg #[.int .i64 t156, .int .i64 t157], .agg #[.int .i64 a1_0, .int .i64 a1_1]] rfl (by (try simp only [pml]); first | done | rfl | (simp only [pdt]; rfl)) ?_; (with_reducible refine (polygon_on.calls k1 ((rd_T23 l0 x23_1).f0) ((rd_T23 l0 x23_1).f1) t156 t157 a1_0 a1_1 false _ A18.out).mono ?_); rintro e w171 ⟨rfl, hb⟩; refine ⟨_, rfl, ?_⟩; replace BK148 := xC1 (kfC BK148.out) hb; replace BK155 := xC1 (kfC BK155.out) hb; replace BK158 := xC1 (o := .cells #[.int .i64 t156, .int .i64 t157] 23 (0, 0)) (kkC BK158.out) hb; replace HB := bS HB hb; (try clear hb); (try clear hb2); (try clear hk); (try clear hi); obtain ⟨_, _, _, _⟩ := zC2 BK155; obtain ⟨_, _, _, _⟩ := zC2 BK148; obtain ⟨_, _, _, _⟩ := zC2 BK158))
     go_roundg k1
     case measure => have := HK1.out; omega
     case rel => exact ⟨(x7_1), (wrap64 (x23_1 + 1)), sqD, sqD, H', ⟨by have := HK1.out; omega⟩, ⟨fb BK148.out⟩, ⟨fW HB.out⟩⟩
    rw [if_pos c128] at H
    have c128b0 : decide (a1_1 < ((rd_T23 l0 x23_1).f1)) = true := decide_eq_true c128
    clear c128
    replace H := Option.bind_eq_some_iff.mp H
    obtain ⟨t162, A1290, H⟩ := H
    replace H : (if t162 < 0 then (polygon_Side.l0 k1 l0 (!x7_1) l0 (l0.length : Int) (wrap64 (x23_1 + 1)) a1_0 a1_1) else (polygon_Side.l0 k1 l0 x7_1 l0 (l0.length : Int) (wrap64 (x23_1 + 1)) a1_0 a1_1)) = some (r1, r2) := H
    have A129 := am A1290
    clear A1290
    by_cases c130 : t162 < 0
    ·rw [if_pos c130] at H
     have c130b0 : decide (t162 < 0) = true := decide_eq_true c130
     clear c130
     have H' := am H
     clear H
     have p154 : 0 ≤ (x23_1 : Int) := of_decide_eq_true (by assumption)
     have q154 : x23_1 < (l0.length : Int) := of_decide_eq_true (by assumption)
     obtain ⟨ad154, e154, hx154_0, hx154_1⟩ := at_T23 HR0.out x23_1 p154 q154
     cases e154
     replace hx154_0 := cl HB hx154_0
     replace hx154_1 := cl HB hx154_1
     replace p154 := eq_true p154
     replace q154 := eq_true q154
     go_wp2_with (first | ((with_reducible refine gd (N := 9) rfl ?_); refine be ?hg (N := 9) ?hd (cs := #[.int .i64 0, .int .i64 0]) (t := 23) ?hr ?_; (case hd | hg => rfl); (case hr => first | (go_simp; done) | (go_simp; rfl)); intro gb155 hg w131 hbox hb; have BK155 := am hbox; have GW155 := sG HB hg; have GE155 := sG HB hg; replace HB := bS HB hb; have NB148_155 := nL BK148 hg; have NB155_148 := nG BK148 hg; replace BK148 := bB BK148 hb; clear hb hbox hg; have hnb132 := NB155_148.out; have hnc132 := NB148_155.out; obtain ⟨_, _, _, _⟩ := zC2 BK155) | ((with_reducible refine gc (f := 40) rfl ?_); refine goesL_ (some 30) rfl rfl Try.func40 (by kernel_rfl) rfl #[.slice (some ad154) l0.length c0, .int .i64 x23_1] rfl (by (try simp only [pml]); first | done | rfl | (simp only [pdt]; rfl)) ?_; (with_reducible refine (polygon_end.calls _ _ l0 x23_1 t156 t157 _ ?side1 ?side2 A17.out).mono ?_); (case side1 => exact Kd.C_below HR0.out (fW HB.out)); (case side2 => exact HC0.out); rintro e w134 ⟨rfl, hb⟩; refine ⟨_, rfl, ?_⟩; replace BK148 := xC1 (kfC BK148.out) hb; replace BK155 := xC1 (o := .cells #[.int .i64 ((rd_T23 l0 x23_1).f0), .int .i64 ((rd_T23 l0 x23_1).f1)] 23 (0, 0)) (kkC BK155.out) hb; replace HB := bS HB hb; (try clear hb); (try clear hb2); (try clear hk); (try clear hi)) | ((with_reducible refine gd (N := 10) rfl ?_); refine be ?hg (N := 10) ?hd (cs := #[.int .i64 0, .int .i64 0]) (t := 23) ?hr ?_; (case hd | hg => rfl); (case hr => first | (go_simp; done) | (go_simp; rfl)); intro gb158 hg w135 hbox hb; have BK158 := am hbox; have GW158 := sG HB hg; have GE158 := sG HB hg; replace HB := bS HB hb; have NB148_158 := nL BK148 hg; have NB158_148 := nG BK148 hg; replace BK148 := bB BK148 hb; have NB155_158 := nL BK155 hg; have NB158_155 := nG BK155 hg; replace BK155 := bB BK155 hb; clear hb hbox hg; have hnb136 := NB158_148.out; have hnc136 := NB148_158.out; have hnb137 := NB158_155.out; have hnc137 := NB155_158.out; obtain ⟨_, _, _, _⟩ := zC2 BK158; obtain ⟨_, _, _, _⟩ := zC2 BK155; obtain ⟨_, _, _, _⟩ := zC2 BK148) | ((with_reducible refine gc (f := 41) rfl ?_); refine goesL_ (some 34) rfl rfl Try.func41 (by kernel_rfl) rfl #[.agg #[.int .i64 ((rd_T23 l0 x23_1).f0), .int .i64 ((rd_T23 l0 x23_1).f1)], .agg #[.int .i64 t156, .int .i64 t157], .agg #[.int .i64 a1_0, .int .i64 a1_1]] rfl (by (try simp only [pml]); first | done | rfl | (simp only [pdt]; rfl)) ?_; (with_reducible refine (polygon_on.calls k1 ((rd_T23 l0 x23_1).f0) ((rd_T23 l0 x23_1).f1) t156 t157 a1_0 a1_1 false _ A18.out).mono ?_); rintro e w141 ⟨rfl, hb⟩; refine ⟨_, rfl, ?_⟩; replace BK148 := xC1 (kfC BK148.out) hb; replace BK155 := xC1 (kfC BK155.out) hb; replace BK158 := xC1 (o := .cells #[.int .i64 t156, .int .i64 t157] 23 (0, 0)) (kkC BK158.out) hb; replace HB := bS HB hb; (try clear hb); (try clear hb2); (try clear hk); (try clear hi); obtain ⟨_, _, _, _⟩ := zC2 BK155; obtain ⟨_, _, _, _⟩ := zC2 BK148; obtain ⟨_, _, _, _⟩ := zC2 BK158) | (go_at_call 13; (with_reducible refine (polygon_Orient.calls ((rd_T23 l0 x23_1).f0) ((rd_T23 l0 x23_1).f1) t156 t157 a1_0 a1_1 t162 _ A129.out).mono ?_); rintro e w145 ⟨rfl, hb⟩; replace BK148 := bB BK148 hb; replace BK155 := bB BK155 hb; replace BK158 := bB BK158 hb; replace HB := bS HB hb; (try clear hb); (try clear hb2); (try clear hk); (try clear hi)))
     go_roundg k1
     case measure => have := HK1.out; omega
     case rel => exact ⟨(!x7_1), (wrap64 (x23_1 + 1)), sqD, sqD, H', ⟨by have := HK1.out; omega⟩, ⟨fb BK148.out⟩, ⟨fW HB.out⟩⟩
    rw [if_neg c130] at H
    have c130b0 : decide (t162 < 0) = false := decide_eq_false c130
    clear c130
    have H' := am H
    clear H
    have p154 : 0 ≤ (x23_1 : Int) := of_decide_eq_true (by assumption)
    have q154 : x23_1 < (l0.length : Int) := of_decide_eq_true (by assumption)
    obtain ⟨ad154, e154, hx154_0, hx154_1⟩ := at_T23 HR0.out x23_1 p154 q154
    cases e154
    replace hx154_0 := cl HB hx154_0
    replace hx154_1 := cl HB hx154_1
    replace p154 := eq_true p154
    replace q154 := eq_true q154
    go_wp2_with (first | ((with_reducible refine gd (N := 9) rfl ?_); refine be ?hg (N := 9) ?hd (cs := #[.int .i64 0, .int .i64 0]) (t := 23) ?hr ?_; (case hd | hg => rfl); (case hr => first | (go_simp; done) | (go_simp; rfl)); intro gb155 hg w146 hbox hb; have BK155 := am hbox; have GW155 := sG HB hg; have GE155 := sG HB hg; replace HB := bS HB hb; have NB148_155 := nL BK148 hg; have NB155_148 := nG BK148 hg; replace BK148 := bB BK148 hb; clear hb hbox hg; have hnb147 := NB155_148.out; have hnc147 := NB148_155.out; obtain ⟨_, _, _, _⟩ := zC2 BK155) | ((with_reducible refine gc (f := 40) rfl ?_); refine goesL_ (some 30) rfl rfl Try.func40 (by kernel_rfl) rfl #[.slice (some ad154) l0.length c0, .int .i64 x23_1] rfl (by (try simp only [pml]); first | done | rfl | (simp only [pdt]; rfl)) ?_; (with_reducible refine (polygon_end.calls _ _ l0 x23_1 t156 t157 _ ?side1 ?side2 A17.out).mono ?_); (case side1 => exact Kd.C_below HR0.out (fW HB.out)); (case side2 => exact HC0.out); rintro e w149 ⟨rfl, hb⟩; refine ⟨_, rfl, ?_⟩; replace BK148 := xC1 (kfC BK148.out) hb; replace BK155 := xC1 (o := .cells #[.int .i64 ((rd_T23 l0 x23_1).f0), .int .i64 ((rd_T23 l0 x23_1).f1)] 23 (0, 0)) (kkC BK155.out) hb; replace HB := bS HB hb; (try clear hb); (try clear hb2); (try clear hk); (try clear hi)) | ((with_reducible refine gd (N := 10) rfl ?_); refine be ?hg (N := 10) ?hd (cs := #[.int .i64 0, .int .i64 0]) (t := 23) ?hr ?_; (case hd | hg => rfl); (case hr => first | (go_simp; done) | (go_simp; rfl)); intro gb158 hg w150 hbox hb; have BK158 := am hbox; have GW158 := sG HB hg; have GE158 := sG HB hg; replace HB := bS HB hb; have NB148_158 := nL BK148 hg; have NB158_148 := nG BK148 hg; replace BK148 := bB BK148 hb; have NB155_158 := nL BK155 hg; have NB158_155 := nG BK155 hg; replace BK155 := bB BK155 hb; clear hb hbox hg; have hnb151 := NB158_148.out; have hnc151 := NB148_158.out; have hnb152 := NB158_155.out; have hnc152 := NB155_158.out; obtain ⟨_, _, _, _⟩ := zC2 BK158; obtain ⟨_, _, _, _⟩ := zC2 BK155; obtain ⟨_, _, _, _⟩ := zC2 BK148) | ((with_reducible refine gc (f := 41) rfl ?_); refine goesL_ (some 34) rfl rfl Try.func41 (by kernel_rfl) rfl #[.agg #[.int .i64 ((rd_T23 l0 x23_1).f0), .int .i64 ((rd_T23 l0 x23_1).f1)], .agg #[.int .i64 t156, .int .i64 t157], .agg #[.int .i64 a1_0, .int .i64 a1_1]] rfl (by (try simp only [pml]); first | done | rfl | (simp only [pdt]; rfl)) ?_; (with_reducible refine (polygon_on.calls k1 ((rd_T23 l0 x23_1).f0) ((rd_T23 l0 x23_1).f1) t156 t157 a1_0 a1_1 false _ A18.out).mono ?_); rintro e w156 ⟨rfl, hb⟩; refine ⟨_, rfl, ?_⟩; replace BK148 := xC1 (kfC BK148.out) hb; replace BK155 := xC1 (kfC BK155.out) hb; replace BK158 := xC1 (o := .cells #[.int .i64 t156, .int .i64 t157] 23 (0, 0)) (kkC BK158.out) hb; replace HB := bS HB hb; (try clear hb); (try clear hb2); (try clear hk); (try clear hi); obtain ⟨_, _, _, _⟩ := zC2 BK155; obtain ⟨_, _, _, _⟩ := zC2 BK148; obtain ⟨_, _, _, _⟩ := zC2 BK158) | (go_at_call 13; (with_reducible refine (polygon_Orient.calls ((rd_T23 l0 x23_1).f0) ((rd_T23 l0 x23_1).f1) t156 t157 a1_0 a1_1 t162 _ A129.out).mono ?_); rintro e w160 ⟨rfl, hb⟩; replace BK148 := bB BK148 hb; replace BK155 := bB BK155 hb; replace BK158 := bB BK158 hb; replace HB := bS HB hb; (try clear hb); (try clear hb2); (try clear hk); (try clear hi)))
    go_roundg k1
    case measure => have := HK1.out; omega
    case rel => exact ⟨(x7_1), (wrap64 (x23_1 + 1)), sqD, sqD, H', ⟨by have := HK1.out; omega⟩, ⟨fb BK148.out⟩, ⟨fW HB.out⟩⟩
 ·rw [if_neg c4] at H
  have c4b0 : (t152 == 0) = false := beq_eq_false_iff_ne.mpr c4
  have c4b1 : (t152 != 0) = true := bne_iff_ne.mpr c4
  simp only [Option.some.injEq, Prod.mk.injEq] at H
  obtain ⟨rfl, rfl⟩ := H
  go_enter Try.func16, Try.ntmps16
  go_wp2_with (first | ((with_reducible refine gd (N := 3) rfl ?_); refine be ?hg (N := 3) ?hd (cs := #[.int .i64 a1_0, .int .i64 a1_1]) (t := 23) ?hr ?_; (case hd | hg => rfl); (case hr => first | (go_simp; done) | (go_simp; rfl)); intro gb148 hg w259 hbox hb; have BK148 := am hbox; have GW148 := sG HB hg; have GE148 := sG HB hg; replace HB := bS HB hb; clear hb hbox hg; obtain ⟨_, _, _, _⟩ := zC2 BK148) | ((with_reducible refine gd (N := 13) rfl ?_); refine Kd.R_lit k23 _ 23 ?hg (N := 13) ?hd (xs := ([(⟨a1_0, a1_1⟩ : S23)] : List (S23))) (inner := [.int .i64 a1_0, .int .i64 a1_1]) (ok := fun _ => True) (okp := fun _ => True) ?hr ?hp (fun _ hk => hk) trivial (Below.refl _ _) (Nat.le_refl _) (by simp) ?_; (case hd | hg => rfl); (case hr => first | (go_simp; done) | (go_simp; rfl)); (case hp => exact (Reps.c2 (show Kd.M k23 _ _ _ (⟨a1_0, a1_1⟩ : S23) [.int .i64 a1_0, .int .i64 a1_1] from (k23_mkM _ _ _ (⟨a1_0, a1_1⟩ : S23) )) (Reps.none _ _))); intro v150 w261 ho262 hb hg_ hnew_; clear hg_ hnew_; (first | rw [← Ny149.out] at ho262 | (simp only [Int.reduceToNat] at ho262; rw [← Ny149.out] at ho262)); have HO151 := am (Kd.R_lower (Kd.R_newB ho262 (g := gb148) (o := .cells #[.int .i64 a1_0, .int .i64 a1_1] 23 (0, 0)) (fb BK148.out)) (below_size (fW HB.out))); replace BK148 := bB BK148 hb; replace HB := bS HB hb; clear hb ho262; obtain ⟨Ao263, co263, eo263⟩ := Kd.R_slice HO151.out; subst eo263) | ((with_reducible refine gc (f := 38) rfl ?_); refine goesL_ (some 14) rfl rfl Try.func38 (by kernel_rfl) rfl #[.slice A0 l0.length c0, .slice Ao263 y149.length co263] rfl (by (try simp only [pml]); first | done | rfl | (simp only [pdt]; rfl)) ?_; (with_reducible refine (polygon_check.calls k _ _ l0 _ _ y149 t152 _ ?side1 ?side2 ?side3 ?side4 A3.out).mono ?_); (case side1 => repeat (first | exact (Kd.C_below HR0.out HB.out) | (with_reducible refine Kd.C_alloc ?_ _) | (with_reducible refine Kd.C_drewN ?_ _) | (with_reducible refine Kd.C_drew ?_))); (case side2 => exact HC0.out); (case side3 => repeat (first | exact (Kd.R_reads' HO151.out).2.2 | (with_reducible refine Kd.C_alloc ?_ _) | (with_reducible refine Kd.C_drewN ?_ _) | (with_reducible refine Kd.C_drew ?_))); (case side4 => exact (Kd.R_reads' HO151.out).2.1); rintro e w264 ⟨rfl, hb⟩; refine ⟨_, rfl, ?_⟩; replace HO151 := dR HO151 hb; replace BK148 := bB BK148 hb; replace HB := bS HB hb; (try clear hb); (try clear hb2); (try clear hk); (try clear hi)))
  go_ret2
  exact ⟨sqE, fW HB.out⟩

def api_Point_47.f (l0 : List S23) : Option (List S23) := if l0.length < 1099511627776 then some l0 else none

set_option maxHeartbeats 1000000 in
set_option maxRecDepth 100000 in
theorem api_Point_47.calls (A0 : Option Addr) (c0 : Nat) (l0 : List S23) (r : List S23) (w : World) (hr0 : Kd.C k23 w A0 l0.length l0) (hc0 : l0.length ≤ c0) (h : api_Point_47.f l0 = some r) :
  Calls Try.prog 47 #[.slice A0 l0.length c0] w fun e w' => ∃ v0_ : Value, e = .returned v0_ ∧ Kd.R k23 23 w' w.heap.size (fun _ => True) v0_ r ∧ Below w.heap.size w w' := by
 unfold api_Point_47.f at h
 split at h
 case isFalse => exact absurd h (by simp)
 case isTrue hl =>
 obtain rfl := Option.some.inj h
 clear h
 have HL := am hl
 clear hl
 have HR := am hr0
 clear hr0
 rcases A0 with _ | ad
 ·have h0 : l0 = [] := by
   rcases Nat.eq_zero_or_pos l0.length with h | h
   ·exact List.eq_nil_of_length_eq_zero h
   obtain ⟨ad, e, _⟩ := HR.out.2.2 h
   cases e
  subst h0
  have hq := fun W => Lib.run_eql_slice_nil (P := Try.prog) W 28 23 none 0 c0 0 0 Try.underlying28
  go_enter Try.func47, Try.ntmps47
  go_wp2
  go_ret
  exact ⟨_, rfl, Kd.R_nil _ _ _ _ _, Below.refl _ _⟩
 ·have hq := fun W => Lib.run_eql_slice_nil (P := Try.prog) W 28 23 (some ad) l0.length c0 0 0 Try.underlying28
  go_enter Try.func47, Try.ntmps47
  go_wp2_with (first | ((with_reducible refine gd (N := 5) rfl ?_); refine Kd.R_lit k23 _ 23 ?hg (N := 5) ?hd (xs := ([] : List (S23))) (inner := []) (ok := fun _ => True) (okp := fun _ => True) ?hr ?hp (fun _ hk => hk) trivial (Below.refl _ _) (Nat.le_refl _) (by simp) ?_; (case hd | hg => rfl); (case hr => first | (go_simp; done) | (go_simp; rfl)); (case hp => exact (Reps.none _ _)); intro v1 w1 ho9 hb hg_ hnew_; clear hg_ hnew_; have HO := am ho9; have HB := am hb; clear ho9 hb) | ((with_reducible refine gate_builtin (b := .append) (xs := #[.tmp 5, .tmp 6]) rfl ?_); at_builtin; refine Kd.R_append_rows k23 (w0 := w) w.heap.size rfl (.tmp 5) (.tmp 6) 28 23 (.agg #[(.int .i64 0), (.int .i64 0)]) 16 rfl Try.underlying28 info23 rfl (by decide) (by omega) _ [] l0 _ _ _ (fun _ => True) (fun _ => False) rfl rfl ?aO ?aR (fun _ _ h => h) (fun _ h => h.elim) ?aF ?aB ?aS ?aL ?_; (case aR => exact Kd.C_below HR.out HB.out); (case aB => exact HB.out); (case aF => exact (fun _ _ => trivial)); (case aO => exact HO.out); (case aS => exact below_size HB.out); (case aL => have := HL.out; simp; omega); intro v2 w2 ho hb hg hat; have HO2 := am ho; have HB2 := am hb; clear ho hb hg hat))
  go_ret
  exact ⟨_, rfl, HO2.out, HB2.out⟩

def cmp_isNaN_int.f (a0 : Int) : Option (Bool) := some (a0 != a0)
set_option maxHeartbeats 8000000 in
set_option maxRecDepth 100000 in
theorem cmp_isNaN_int.calls (a0 : Int) (r : Bool) (w : World) (h : cmp_isNaN_int.f a0 = some r) :
  Calls Try.prog 80 #[.int .i64 a0] w fun e w' => e = .returned (.bool r) ∧ Drawn0 w w' := by
 have H : (some (a0 != a0)) = some r := h
 clear h
 obtain rfl := Option.some.inj H
 go_enter Try.func80, Try.ntmps80
 go_wp2
 go_ret
 exact ⟨by first | rfl | (simp; done) | (simp [*]; done), by repeat (first | exact Drawn0.refl _ | apply Drawn0.step)⟩

def cmp_Compare_int.f (a0 : Int) (a1 : Int) : Option (Int) := (cmp_isNaN_int.f a0).bind fun t164 => ((cmp_isNaN_int.f a1).bind fun t165 => (if t164 = true then (if t165 = true then (some 0) else (some (-1))) else (if t165 = true then (some 1) else (if a0 < a1 then (some (-1)) else (if a0 > a1 then (some 1) else (some 0))))))
set_option maxHeartbeats 8000000 in
set_option maxRecDepth 100000 in
theorem cmp_Compare_int.calls (a0 : Int) (a1 : Int) (r : Int) (w : World) (h : cmp_Compare_int.f a0 a1 = some r) :
  Calls Try.prog 67 #[.int .i64 a0, .int .i64 a1] w fun e w' => e = .returned (.int .i64 r) ∧ Drawn0 w w' := by
 have H : ((cmp_isNaN_int.f a0).bind fun t164 => ((cmp_isNaN_int.f a1).bind fun t165 => (if t164 = true then (if t165 = true then (some 0) else (some (-1))) else (if t165 = true then (some 1) else (if a0 < a1 then (some (-1)) else (if a0 > a1 then (some 1) else (some 0))))))) = some r := h
 clear h
 replace H := Option.bind_eq_some_iff.mp H
 obtain ⟨t164, A30, H⟩ := H
 replace H : ((cmp_isNaN_int.f a1).bind fun t165 => (if t164 = true then (if t165 = true then (some 0) else (some (-1))) else (if t165 = true then (some 1) else (if a0 < a1 then (some (-1)) else (if a0 > a1 then (some 1) else (some 0)))))) = some r := H
 have A3 := am A30
 clear A30
 replace H := Option.bind_eq_some_iff.mp H
 obtain ⟨t165, A40, H⟩ := H
 replace H : (if t164 = true then (if t165 = true then (some 0) else (some (-1))) else (if t165 = true then (some 1) else (if a0 < a1 then (some (-1)) else (if a0 > a1 then (some 1) else (some 0))))) = some r := H
 have A4 := am A40
 clear A40
 by_cases c5 : t164 = true
 ·subst c5
  have H1 : (if t165 = true then (some 0) else (some (-1))) = some r := by rw [if_pos rfl] at H; exact H
  clear H
  have H := H1
  clear H1
  by_cases c6 : t165 = true
  ·subst c6
   have H1 : (some 0) = some r := by rw [if_pos rfl] at H; exact H
   clear H
   have H := H1
   clear H1
   obtain rfl := Option.some.inj H
   go_enter Try.func67, Try.ntmps67
   go_wp2_with (first | ((with_reducible refine gc (f := 80) rfl ?_); refine goesL_ (some 8) rfl rfl Try.func80 (by kernel_rfl) rfl #[.int .i64 a0] rfl (by (try simp only [pml]); first | done | rfl | (simp only [pdt]; rfl)) ?_; (with_reducible refine (cmp_isNaN_int.calls a0 true _ A3.out).mono ?_); rintro e w' ⟨rfl, ⟨nd, rfl⟩⟩; refine ⟨_, rfl, ?_⟩) | ((with_reducible refine gc (f := 80) rfl ?_); refine goesL_ (some 10) rfl rfl Try.func80 (by kernel_rfl) rfl #[.int .i64 a1] rfl (by (try simp only [pml]); first | done | rfl | (simp only [pdt]; rfl)) ?_; (with_reducible refine (cmp_isNaN_int.calls a1 true _ A4.out).mono ?_); rintro e w' ⟨rfl, ⟨nd, rfl⟩⟩; refine ⟨_, rfl, ?_⟩))
   go_ret
   exact ⟨by first | rfl | (simp; done) | (simp [*]; done), by repeat (first | exact Drawn0.refl _ | apply Drawn0.step)⟩
  replace c6 := Bool.eq_false_iff.mpr c6
  subst c6
  have H1 : (some (-1)) = some r := by rw [if_neg (show ¬ (false = true) by decide)] at H; exact H
  clear H
  have H := H1
  clear H1
  obtain rfl := Option.some.inj H
  go_enter Try.func67, Try.ntmps67
  go_wp2_with (first | ((with_reducible refine gc (f := 80) rfl ?_); refine goesL_ (some 8) rfl rfl Try.func80 (by kernel_rfl) rfl #[.int .i64 a0] rfl (by (try simp only [pml]); first | done | rfl | (simp only [pdt]; rfl)) ?_; (with_reducible refine (cmp_isNaN_int.calls a0 true _ A3.out).mono ?_); rintro e w' ⟨rfl, ⟨nd, rfl⟩⟩; refine ⟨_, rfl, ?_⟩) | ((with_reducible refine gc (f := 80) rfl ?_); refine goesL_ (some 10) rfl rfl Try.func80 (by kernel_rfl) rfl #[.int .i64 a1] rfl (by (try simp only [pml]); first | done | rfl | (simp only [pdt]; rfl)) ?_; (with_reducible refine (cmp_isNaN_int.calls a1 false _ A4.out).mono ?_); rintro e w' ⟨rfl, ⟨nd, rfl⟩⟩; refine ⟨_, rfl, ?_⟩))
  go_ret
  exact ⟨by first | rfl | (simp; done) | (simp [*]; done), by repeat (first | exact Drawn0.refl _ | apply Drawn0.step)⟩
 ·replace c5 := Bool.eq_false_iff.mpr c5
  subst c5
  have H1 : (if t165 = true then (some 1) else (if a0 < a1 then (some (-1)) else (if a0 > a1 then (some 1) else (some 0)))) = some r := by rw [if_neg (show ¬ (false = true) by decide)] at H; exact H
  clear H
  have H := H1
  clear H1
  by_cases c7 : t165 = true
  ·subst c7
   have H1 : (some 1) = some r := by rw [if_pos rfl] at H; exact H
   clear H
   have H := H1
   clear H1
   obtain rfl := Option.some.inj H
   go_enter Try.func67, Try.ntmps67
   go_wp2_with (first | ((with_reducible refine gc (f := 80) rfl ?_); refine goesL_ (some 8) rfl rfl Try.func80 (by kernel_rfl) rfl #[.int .i64 a0] rfl (by (try simp only [pml]); first | done | rfl | (simp only [pdt]; rfl)) ?_; (with_reducible refine (cmp_isNaN_int.calls a0 false _ A3.out).mono ?_); rintro e w' ⟨rfl, ⟨nd, rfl⟩⟩; refine ⟨_, rfl, ?_⟩) | ((with_reducible refine gc (f := 80) rfl ?_); refine goesL_ (some 10) rfl rfl Try.func80 (by kernel_rfl) rfl #[.int .i64 a1] rfl (by (try simp only [pml]); first | done | rfl | (simp only [pdt]; rfl)) ?_; (with_reducible refine (cmp_isNaN_int.calls a1 true _ A4.out).mono ?_); rintro e w' ⟨rfl, ⟨nd, rfl⟩⟩; refine ⟨_, rfl, ?_⟩))
   go_ret
   exact ⟨by first | rfl | (simp; done) | (simp [*]; done), by repeat (first | exact Drawn0.refl _ | apply Drawn0.step)⟩
  ·replace c7 := Bool.eq_false_iff.mpr c7
   subst c7
   have H1 : (if a0 < a1 then (some (-1)) else (if a0 > a1 then (some 1) else (some 0))) = some r := by rw [if_neg (show ¬ (false = true) by decide)] at H; exact H
   clear H
   have H := H1
   clear H1
   by_cases c8 : a0 < a1
   ·rw [if_pos c8] at H
    have c8b0 : decide (a0 < a1) = true := decide_eq_true c8
    clear c8
    obtain rfl := Option.some.inj H
    go_enter Try.func67, Try.ntmps67
    go_wp2_with (first | ((with_reducible refine gc (f := 80) rfl ?_); refine goesL_ (some 8) rfl rfl Try.func80 (by kernel_rfl) rfl #[.int .i64 a0] rfl (by (try simp only [pml]); first | done | rfl | (simp only [pdt]; rfl)) ?_; (with_reducible refine (cmp_isNaN_int.calls a0 false _ A3.out).mono ?_); rintro e w' ⟨rfl, ⟨nd, rfl⟩⟩; refine ⟨_, rfl, ?_⟩) | ((with_reducible refine gc (f := 80) rfl ?_); refine goesL_ (some 10) rfl rfl Try.func80 (by kernel_rfl) rfl #[.int .i64 a1] rfl (by (try simp only [pml]); first | done | rfl | (simp only [pdt]; rfl)) ?_; (with_reducible refine (cmp_isNaN_int.calls a1 false _ A4.out).mono ?_); rintro e w' ⟨rfl, ⟨nd, rfl⟩⟩; refine ⟨_, rfl, ?_⟩))
    go_ret
    exact ⟨by first | rfl | (simp; done) | (simp [*]; done), by repeat (first | exact Drawn0.refl _ | apply Drawn0.step)⟩
   ·rw [if_neg c8] at H
    have c8b0 : decide (a0 < a1) = false := decide_eq_false c8
    clear c8
    by_cases c9 : a0 > a1
    ·rw [if_pos c9] at H
     have c9b0 : decide (a1 < a0) = true := decide_eq_true c9
     clear c9
     obtain rfl := Option.some.inj H
     go_enter Try.func67, Try.ntmps67
     go_wp2_with (first | ((with_reducible refine gc (f := 80) rfl ?_); refine goesL_ (some 8) rfl rfl Try.func80 (by kernel_rfl) rfl #[.int .i64 a0] rfl (by (try simp only [pml]); first | done | rfl | (simp only [pdt]; rfl)) ?_; (with_reducible refine (cmp_isNaN_int.calls a0 false _ A3.out).mono ?_); rintro e w' ⟨rfl, ⟨nd, rfl⟩⟩; refine ⟨_, rfl, ?_⟩) | ((with_reducible refine gc (f := 80) rfl ?_); refine goesL_ (some 10) rfl rfl Try.func80 (by kernel_rfl) rfl #[.int .i64 a1] rfl (by (try simp only [pml]); first | done | rfl | (simp only [pdt]; rfl)) ?_; (with_reducible refine (cmp_isNaN_int.calls a1 false _ A4.out).mono ?_); rintro e w' ⟨rfl, ⟨nd, rfl⟩⟩; refine ⟨_, rfl, ?_⟩))
     go_ret
     exact ⟨by first | rfl | (simp; done) | (simp [*]; done), by repeat (first | exact Drawn0.refl _ | apply Drawn0.step)⟩
    ·rw [if_neg c9] at H
     have c9b0 : decide (a1 < a0) = false := decide_eq_false c9
     clear c9
     obtain rfl := Option.some.inj H
     go_enter Try.func67, Try.ntmps67
     go_wp2_with (first | ((with_reducible refine gc (f := 80) rfl ?_); refine goesL_ (some 8) rfl rfl Try.func80 (by kernel_rfl) rfl #[.int .i64 a0] rfl (by (try simp only [pml]); first | done | rfl | (simp only [pdt]; rfl)) ?_; (with_reducible refine (cmp_isNaN_int.calls a0 false _ A3.out).mono ?_); rintro e w' ⟨rfl, ⟨nd, rfl⟩⟩; refine ⟨_, rfl, ?_⟩) | ((with_reducible refine gc (f := 80) rfl ?_); refine goesL_ (some 10) rfl rfl Try.func80 (by kernel_rfl) rfl #[.int .i64 a1] rfl (by (try simp only [pml]); first | done | rfl | (simp only [pdt]; rfl)) ?_; (with_reducible refine (cmp_isNaN_int.calls a1 false _ A4.out).mono ?_); rintro e w' ⟨rfl, ⟨nd, rfl⟩⟩; refine ⟨_, rfl, ?_⟩))
     go_ret
     exact ⟨by first | rfl | (simp; done) | (simp [*]; done), by repeat (first | exact Drawn0.refl _ | apply Drawn0.step)⟩

def cmp_Or_int.l0 : Nat → Int → List Int → Int → Int → Option (Int)
 | 0, _, _, _, _ => none
 | k + 1, x3, x6, x7, x8 => if x8 < x7 then (if 0 ≤ x8 then (if x8 < (x6.length : Int) then (if (rd x6 x8) = x3 then (cmp_Or_int.l0 k x3 x6 x7 (wrap64 (x8 + 1))) else (some (rd x6 x8))) else (none)) else (none)) else (some x3)
def cmp_Or_int.f (k : Nat) (l0 : List Int) : Option (Int) := cmp_Or_int.l0 k 0 l0 (l0.length : Int) 0
theorem cmp_Or_int.mono_l : ∀ k, (∀ y0 y1 y2 y3, LeO (cmp_Or_int.l0 k y0 y1 y2 y3) (cmp_Or_int.l0 (k + 1) y0 y1 y2 y3))
 | 0 => fun _ _ _ _ r h => by simp [cmp_Or_int.l0] at h
 | k + 1 => by
  have ih0 := cmp_Or_int.mono_l k
  intro y0 y1 y2 y3
  unfold cmp_Or_int.l0
  repeat' first
  | (with_reducible exact ih0 _ _ _ _)
  | (with_reducible exact LeO.refl _)
  | (with_reducible exact LeO.none _)
  | (with_reducible refine LeO.ite ?_ ?_)
  | (with_reducible refine LeO.bind ?_ (fun _ => ?_))
  | exact ih0 _ _ _ _
  | exact LeO.none _
  | refine LeO.ite ?_ ?_
  | refine LeO.bind ?_ (fun _ => ?_)
theorem cmp_Or_int.mono : ∀ a0 k, LeO (cmp_Or_int.f k a0) (cmp_Or_int.f (k + 1) a0) := by
 intro a0 k
 have ih0 := cmp_Or_int.mono_l k
 unfold cmp_Or_int.f
 repeat' first
   | (with_reducible exact ih0 _ _ _ _)
   | (with_reducible exact LeO.refl _)
   | (with_reducible exact LeO.none _)
   | (with_reducible refine LeO.ite ?_ ?_)
   | (with_reducible refine LeO.bind ?_ (fun _ => ?_))
   | exact ih0 _ _ _ _
   | exact LeO.none _
   | refine LeO.ite ?_ ?_
   | refine LeO.bind ?_ (fun _ => ?_)
set_option maxHeartbeats 8000000 in
set_option maxRecDepth 100000 in
theorem cmp_Or_int.calls (k : Nat) (A0 : Option Addr) (c0 : Nat) (l0 : List Int) (r : Int) (w : World) (hr0 : Kd.C (Kd.int .i64) w A0 l0.length l0) (hc0 : l0.length ≤ c0) (h : cmp_Or_int.f k l0 = some r) :
  Calls Try.prog 66 #[.slice A0 l0.length c0] w fun e w' => e = .returned (.int .i64 r) ∧ Drawn0 w w' := by
 have HR0 := am hr0
 have HC0 := am hc0
 clear hr0 hc0
 have H : (cmp_Or_int.l0 k 0 l0 (l0.length : Int) 0) = some r := h
 clear h
 have H' := am H
 clear H
 go_enter Try.func66, Try.ntmps66
 go_wp2
 go_loopg [8] k (fun kq v8 w' => ∃ (x8_1 : Int), v8 = .int .i64 x8_1 ∧ Aside0 (cmp_Or_int.l0 kq 0 l0 (l0.length : Int) x8_1 = some r) ∧ Aside0 (kq ≤ k) ∧ Drawn0 w w')
 case atStart => exact ⟨(0), sqD, H', ⟨Nat.le_refl _⟩, by repeat (first | exact Drawn0.refl _ | apply Drawn0.step)⟩
 case round =>
  clear H'
  obtain ⟨x8_1, rfl, HA, HK1, ⟨m1, rfl⟩⟩ := hrel
  cases gk with
  | zero => exact absurd HA.out (by simp [cmp_Or_int.l0])
  | succ k1 =>
   have H := HA.out
   clear HA
   simp only [cmp_Or_int.l0] at H
   by_cases c2 : x8_1 < (l0.length : Int)
   ·rw [if_pos c2] at H
    have c2b0 : decide (x8_1 < (l0.length : Int)) = true := decide_eq_true c2
    clear c2
    by_cases c3 : 0 ≤ x8_1
    rotate_left
    ·rw [if_neg c3] at H
     exact absurd H (by simp)
    rw [if_pos c3] at H
    have c3b0 : decide (0 ≤ x8_1) = true := decide_eq_true c3
    clear c3
    by_cases c4 : x8_1 < (l0.length : Int)
    rotate_left
    ·rw [if_neg c4] at H
     exact absurd H (by simp)
    rw [if_pos c4] at H
    have c4b0 : decide (x8_1 < (l0.length : Int)) = true := decide_eq_true c4
    clear c4
    by_cases c5 : (rd l0 x8_1) = 0
    ·rw [if_pos c5] at H
     have c5b0 : ((rd l0 x8_1) == 0) = true := beq_iff_eq.mpr c5
     have c5b1 : ((rd l0 x8_1) != 0) = false := bne_eq_false_iff_eq.mpr c5
     clear c5
     have H' := am H
     clear H
     have p166 : 0 ≤ (x8_1 : Int) := of_decide_eq_true (by assumption)
     have q166 : x8_1 < (l0.length : Int) := of_decide_eq_true (by assumption)
     obtain ⟨ad166, e166, hx166_0⟩ := Kd.at_int HR0.out x8_1 p166 q166
     cases e166
     replace p166 := eq_true p166
     replace q166 := eq_true q166
     go_wp2
     go_roundg k1
     case measure => have := HK1.out; omega
     case rel => exact ⟨(wrap64 (x8_1 + 1)), sqD, H', ⟨by have := HK1.out; omega⟩, by repeat (first | exact Drawn0.refl _ | apply Drawn0.step)⟩
    rw [if_neg c5] at H
    have c5b0 : ((rd l0 x8_1) == 0) = false := beq_eq_false_iff_ne.mpr c5
    have c5b1 : ((rd l0 x8_1) != 0) = true := bne_iff_ne.mpr c5
    obtain rfl := Option.some.inj H
    have p166 : 0 ≤ (x8_1 : Int) := of_decide_eq_true (by assumption)
    have q166 : x8_1 < (l0.length : Int) := of_decide_eq_true (by assumption)
    obtain ⟨ad166, e166, hx166_0⟩ := Kd.at_int HR0.out x8_1 p166 q166
    cases e166
    replace p166 := eq_true p166
    replace q166 := eq_true q166
    go_wp2
    go_ret
    exact ⟨by first | rfl | (simp; done) | (simp [*]; done), by repeat (first | exact Drawn0.refl _ | apply Drawn0.step)⟩
   ·rw [if_neg c2] at H
    have c2b0 : decide (x8_1 < (l0.length : Int)) = false := decide_eq_false c2
    clear c2
    obtain rfl := Option.some.inj H
    go_wp2
    go_ret
    exact ⟨by first | rfl | (simp; done) | (simp [*]; done), by repeat (first | exact Drawn0.refl _ | apply Drawn0.step)⟩

instance instInhabitedS23 : Inhabited S23 := ⟨z23⟩
def enc23 (x : S23) : List Value := [.int .i64 x.f0, .int .i64 x.f1]
theorem flat23 : SortRow.Flat k23 enc23 := ⟨fun _ _ _ _ _ h => k23_openM h, fun _ _ _ x => k23_mkM _ _ _ x, fun _ => rfl⟩
def cmpLo (a b : Int) : Int := if a < b then -1 else if a > b then 1 else 0
theorem cmpLo_f (a b : Int) : cmp_Compare_int.f a b = some (cmpLo a b) := by
 unfold cmp_Compare_int.f cmp_isNaN_int.f cmpLo
 simp only [Option.bind_some, bne_self_eq_false, Bool.false_eq_true, if_false]
 split
 ·rfl
 split <;> rfl
theorem ints_C {W : World} {g : Nat} {t : TypeId} {cs : Array Value} (k : IntKind) (l : List Int) (h : W.heap[g]? = some (.cells cs t (0, 0))) (hc : cs.toList = l.map (Value.int k)) (hl : l.length ≤ 9223372036854775807) : (Kd.int k).C W (some ⟨g, 0, none⟩) l.length l := by
 refine ⟨rfl, hl, fun _ => ⟨_, rfl, fun j p hp => ⟨[.int k p], rfl, rfl, fun i u hu => ?_⟩⟩⟩
 cases i with
 | succ i => simp at hu
 | zero =>
  simp at hu
  subst hu
  have e : (⟨g, 0, none⟩ : Addr).add (j * 1 + 0) = ⟨g, j, none⟩ := by
   unfold Addr.add
   by_cases h0 : j = 0 <;> simp [h0]
  show W.cell? ((⟨g, 0, none⟩ : Addr).add (j * 1 + 0)) = _
  rw [e]
  refine (blk_cell h j).trans ?_
  rw [← Array.getElem?_toList, hc, List.getElem?_map, hp]
  rfl
theorem lit_C (W : World) (n : Nat) (u v : Int) : Kd.C (Kd.int .i64) ((W.drewN n).alloc (.cells #[.int .i64 u, .int .i64 v] 3)) (some ⟨W.heap.size, 0, none⟩) 2 [u, v] := ints_C .i64 [u, v] (blk_new (W.drewN n) (.cells #[.int .i64 u, .int .i64 v] 3)) rfl (by simp)
theorem grow_on {W W1 : World} (h : ∃ q os', W1 = Go.Sort.grow (W.drewN q) os') (n m : Nat) (o : Obj) : ∃ q os', (((W1.drewN n).alloc o).drewN m) = Go.Sort.grow (W.drewN q) os' := by
 obtain ⟨q, os', rfl⟩ := h
 refine ⟨q + (n + m), os' ++ #[o], ?_⟩
 rw [Go.Sort.alloc_eq_grow]
 have e : ∀ (X : World) (os : Array Obj) (k : Nat), (Go.Sort.grow X os).drewN k = Go.Sort.grow (X.drewN k) os := fun _ _ _ => rfl
 have e2 : ∀ (X : World) (a b : Nat), (X.drewN a).drewN b = X.drewN (a + b) := fun X a b => by unfold World.drewN; simp [Nat.add_assoc]
 rw [e, e, e, Go.Sort.grow_grow, e2, e2]
def cmpB (x y : S23) : Int := if cmpLo x.f0 y.f0 = 0 then cmpLo x.f1 y.f1 else cmpLo x.f0 y.f0
theorem or_two (a b : Int) : ∃ k, cmp_Or_int.f k [a, b] = some (if a = 0 then b else a) := by
 refine Ev.rounds (g := fun k => cmp_Or_int.f k [a, b]) ?_
 unfold cmp_Or_int.f
 refine Go.Proofs.Ytcembjgpcbodcaa.EvKit.Ev.succ ?_
 simp only [cmp_Or_int.l0]
 refine Go.Proofs.Ytcembjgpcbodcaa.EvKit.Ev.pos (by simp) (Go.Proofs.Ytcembjgpcbodcaa.EvKit.Ev.pos (by omega) (Go.Proofs.Ytcembjgpcbodcaa.EvKit.Ev.pos (by simp) ?_))
 have e1 : wrap64 (0 + 1) = 1 := Go.Proofs.Ytcembjgpcbodcaa.EvKit.w64 (by omega) (by omega)
 have e2 : wrap64 (1 + 1) = 2 := Go.Proofs.Ytcembjgpcbodcaa.EvKit.w64 (by omega) (by omega)
 have r0 : rd [a, b] 0 = a := rfl
 have r1 : rd [a, b] 1 = b := rfl
 rw [r0, e1]
 refine Go.Proofs.Ytcembjgpcbodcaa.EvKit.Ev.ite (fun h => ?_) (fun h => by rw [if_neg h]; exact Ev.now _)
 rw [if_pos h]
 refine Go.Proofs.Ytcembjgpcbodcaa.EvKit.Ev.succ ?_
 simp only [cmp_Or_int.l0]
 refine Go.Proofs.Ytcembjgpcbodcaa.EvKit.Ev.pos (by simp) (Go.Proofs.Ytcembjgpcbodcaa.EvKit.Ev.pos (by omega) (Go.Proofs.Ytcembjgpcbodcaa.EvKit.Ev.pos (by simp) ?_))
 rw [r1, e2]
 refine Go.Proofs.Ytcembjgpcbodcaa.EvKit.Ev.ite (fun h => ?_) (fun h => Ev.now _)
 rw [h]
 refine Go.Proofs.Ytcembjgpcbodcaa.EvKit.Ev.succ ?_
 simp only [cmp_Or_int.l0]
 exact Go.Proofs.Ytcembjgpcbodcaa.EvKit.Ev.neg (by simp) (Ev.now _)
set_option maxHeartbeats 16000000 in
theorem before49 (x y : S23) (W : World) : Calls Try.prog 49 #[.agg #[.int .i64 x.f0, .int .i64 x.f1], .agg #[.int .i64 y.f0, .int .i64 y.f1]] W fun e w' => e = .returned (.int .i64 (cmpB x y)) ∧ ∃ q os', w' = Go.Sort.grow (W.drewN q) os' := by
 have hcon := fun a b W' => cmp_Compare_int.calls a b _ W' (cmpLo_f a b)
 have HCON := am hcon
 clear hcon
 obtain ⟨k, hk⟩ := or_two (cmpLo x.f0 y.f0) (cmpLo x.f1 y.f1)
 have hor := fun A c W' (hr : Kd.C (Kd.int .i64) W' A 2 [cmpLo x.f0 y.f0, cmpLo x.f1 y.f1]) (hc : 2 ≤ c) => cmp_Or_int.calls k A c [cmpLo x.f0 y.f0, cmpLo x.f1 y.f1] _ W' hr hc hk
 have hres : cmpB x y = if cmpLo x.f0 y.f0 = 0 then cmpLo x.f1 y.f1 else cmpLo x.f0 y.f0 := rfl
 rw [← hres] at hor
 generalize cmpB x y = r at hor ⊢
 clear hk hres
 have HOR := am hor
 clear hor
 go_enter Try.func49, Try.ntmps49
 go_wp2
 have c0 : ((W.alloc (Obj.cells #[Value.int IntKind.i64 x.f0, Value.int IntKind.i64 x.f1] 23)).alloc (Obj.cells #[Value.int IntKind.i64 y.f0, Value.int IntKind.i64 y.f1] 23)).heap[W.heap.size]? = some (Obj.cells #[Value.int IntKind.i64 x.f0, Value.int IntKind.i64 x.f1] 23 (0, 0)) := blk_alloc (blk_new W _) _
 have c1 : ((W.alloc (Obj.cells #[Value.int IntKind.i64 x.f0, Value.int IntKind.i64 x.f1] 23)).alloc (Obj.cells #[Value.int IntKind.i64 y.f0, Value.int IntKind.i64 y.f1] 23)).heap[W.heap.size + 1]? = some (Obj.cells #[Value.int IntKind.i64 y.f0, Value.int IntKind.i64 y.f1] 23 (0, 0)) := by
  have h := blk_new (W.alloc (Obj.cells #[Value.int IntKind.i64 x.f0, Value.int IntKind.i64 x.f1] 23)) (Obj.cells #[Value.int IntKind.i64 y.f0, Value.int IntKind.i64 y.f1] 23)
  rw [World.size_alloc] at h
  exact h
 have G0 : ∃ q os', (W.alloc (Obj.cells #[Value.int IntKind.i64 x.f0, Value.int IntKind.i64 x.f1] 23)).alloc (Obj.cells #[Value.int IntKind.i64 y.f0, Value.int IntKind.i64 y.f1] 23) = Go.Sort.grow (W.drewN q) os' := ⟨0, _, by rw [Go.Sort.alloc_eq_grow, Go.Sort.alloc_eq_grow, Go.Sort.grow_grow]; rfl⟩
 generalize (W.alloc (Obj.cells #[Value.int IntKind.i64 x.f0, Value.int IntKind.i64 x.f1] 23)).alloc (Obj.cells #[Value.int IntKind.i64 y.f0, Value.int IntKind.i64 y.f1] 23) = W1 at *
 have k0 : W1.cell? ⟨W.heap.size, 0, none⟩ = some (.int .i64 x.f0) := (blk_cell c0 0).trans rfl
 have k1 : W1.cell? ⟨W.heap.size, 1, none⟩ = some (.int .i64 x.f1) := (blk_cell c0 1).trans rfl
 have k2 : W1.cell? ⟨W.heap.size + 1, 0, none⟩ = some (.int .i64 y.f0) := (blk_cell c1 0).trans rfl
 have k3 : W1.cell? ⟨W.heap.size + 1, 1, none⟩ = some (.int .i64 y.f1) := (blk_cell c1 1).trans rfl
 clear c0 c1
 go_region_held3 (fun w' => w'.cell? ⟨W.heap.size, 0, none⟩ = some (.int .i64 x.f0) ∧ w'.cell? ⟨W.heap.size, 1, none⟩ = some (.int .i64 x.f1) ∧ w'.cell? ⟨W.heap.size + 1, 0, none⟩ = some (.int .i64 y.f0) ∧ w'.cell? ⟨W.heap.size + 1, 1, none⟩ = some (.int .i64 y.f1)) (first | exact ⟨k0, k1, k2, k3⟩ | go_keep) (first | (go_at_call 67; refine (HCON.out _ _ _).mono ?_; rintro e w' ⟨rfl, ⟨nd, rfl⟩⟩) | (go_at_call 66; refine (HOR.out _ 2 _ ?hr ?hc).mono ?_; (case hr => exact lit_C _ _ _ _); (case hc => exact Nat.le_refl _); rintro e w' ⟨rfl, ⟨nd, rfl⟩⟩))
 go_wp2
 go_ret
 exact ⟨rfl, grow_on G0 _ _ _⟩
def ltB (x y : S23) : Bool := decide (x.f0 < y.f0) || (decide (x.f0 = y.f0) && decide (x.f1 < y.f1))
theorem ltB_of : Go.Proofs.ltOf cmpB = ltB := by
 funext x y
 unfold Go.Proofs.ltOf ltB cmpB cmpLo
 by_cases h1 : x.f0 < y.f0
 ·simp [h1]
 by_cases h2 : x.f0 > y.f0
 ·have : ¬ x.f0 = y.f0 := by omega
  simp [h1, h2, this]
 have : x.f0 = y.f0 := by omega
 by_cases h3 : x.f1 < y.f1
 ·simp [h1, h2, this, h3]
 by_cases h4 : x.f1 > y.f1 <;> simp [h1, h2, this, h3, h4]
theorem ltB_is (x y : S23) : ltB x y = true ↔ x.f0 < y.f0 ∨ (x.f0 = y.f0 ∧ x.f1 < y.f1) := by simp [ltB]
theorem swoB : Go.Sort.SWO ltB where
 irrefl x := by simp [ltB]
 trans x y z h1 h2 := by rw [ltB_is] at *; omega
 ntrans x y z h1 h2 := by
  rw [← Bool.not_eq_true, ltB_is] at *
  omega
theorem cmpLays49 (blk off size : Nat) (w : World) : Go.Proofs.CmpLays Try.prog 49 #[] enc23 2 cmpB blk off size w :=
 fun _ _ _ _ x y => before49 x y _
def api_Point_48.f (l0 : List S23) (a1 : Nat) : Option (List S23) := if a1 = 49 ∧ l0.length < 1099511627776 then some (Go.Proofs.Ytcembjgpcbodcaa.SortRow.sortL ltB l0) else none
set_option maxHeartbeats 1000000 in
set_option maxRecDepth 100000 in
theorem api_Point_48.calls (P0_ : Nat → Prop) (u9000_ : Value) (l0 : List S23) (a1 : Nat) (r : List S23) (w0 w : World) (hB : Below w0.heap.size w0 w) (ho0 : Kd.R k23 23 w w0.heap.size P0_ u9000_ l0) (h : api_Point_48.f l0 a1 = some r) :
  Calls Try.prog 48 #[u9000_, .func (.func a1) #[] #[]] w fun e w' => e = .returned (.tuple #[]) ∧ Kd.R k23 23 w' w0.heap.size (fun k_ => (P0_ k_ ∨ w.heap.size ≤ k_)) u9000_ r ∧ Below w0.heap.size w0 w' ∧ Kept w w' (fun k_ => P0_ k_) := by
 unfold api_Point_48.f at h
 split at h
 case isFalse => exact absurd h (by simp)
 case isTrue hl =>
 obtain ⟨rfl, hl⟩ := hl
 obtain rfl := Option.some.inj h
 clear h
 rcases List.eq_nil_or_concat l0 with rfl | ⟨l', x', hx⟩
 ·obtain ⟨A1, c1, rfl⟩ := Kd.R_slice ho0
  have hcon := Go.Proofs.AnyF.slices_SortFunc_none (P := Try.prog) { Lay.sortF with } A1 c1 (.func (.func 49) #[] #[]) w
  refine Calls.mono hcon ?_
  rintro e w' ⟨rfl, rfl⟩
  have e0 : Go.Proofs.Ytcembjgpcbodcaa.SortRow.sortL ltB ([] : List S23) = [] := List.eq_nil_of_length_eq_zero (Go.Proofs.Ytcembjgpcbodcaa.SortRow.sortL_length ltB swoB [])
  rw [e0]
  exact ⟨rfl, Kd.R_mono ho0 (fun _ hk => .inl hk), hB, Kept.refl _ _⟩
 ·have hne : l0 ≠ [] := by rw [hx]; simp
  obtain ⟨g, cap, rfl, hH, hg, hbg, hP⟩ := Go.Proofs.Ytcembjgpcbodcaa.SortRow.holds_of_R flat23 ho0 hne
  have eg : ∀ args w, (callFunc 49 args).run Try.prog w = .ok (.enter 49 args) w := enters_of Try.func49 (by kernel_rfl) rfl
  have hcon := Go.Proofs.AnyQ.slices_SortFunc_eq Lay.sortF 2 Try.isAgg23 Try.sizeOf23 enc23 (fun _ => rfl) (fun x v hv => by simp [enc23] at hv; rcases hv with rfl | rfl <;> rfl) cmpB (by rw [ltB_of]; exact swoB) 49 #[] g 0 cap l0.toArray w eg (cmpLays49 g 0 _ w) hH hg (by simp; omega)
  refine Calls.mono hcon ?_
  rintro e w' ⟨rfl, n, os, rfl⟩
  rw [ltB_of]
  have hlen : (Go.Proofs.Ytcembjgpcbodcaa.SortRow.sortL ltB l0).length = l0.length := Go.Proofs.Ytcembjgpcbodcaa.SortRow.sortL_length ltB swoB l0
  have hR := Go.Proofs.Ytcembjgpcbodcaa.SortRow.R_of_sorted flat23 (by decide) ho0 (by simp) hlen hne n os
  refine ⟨rfl, Kd.R_mono (show Kd.R k23 23 _ w0.heap.size P0_ _ _ from ?_) (fun _ hk => .inl hk), Go.Proofs.Ytcembjgpcbodcaa.SortRow.below_sorted (d := k23) hB g n _ os hbg, Go.Proofs.Ytcembjgpcbodcaa.SortRow.kept_sorted (d := k23) w g n _ os _ hP⟩
  have e : (Go.Proofs.Ytcembjgpcbodcaa.SortRow.sortL ltB l0).toArray = Go.Sort.pdq ltB l0.toArray 0 l0.toArray.size (Lib.bitLen l0.toArray.size) true true := by simp [Go.Proofs.Ytcembjgpcbodcaa.SortRow.sortL]
  rw [e] at hR
  exact hR

end Go.Proofs.Ytcembjgpcbodcaa.QA
