import Derived.Test.YtmmdikhmlmoolaaZQAx0
import Derived.Test.YtmmdikhmlmoolaaZQAx3
import Derived.Test.YtmmdikhmlmoolaaZQAx6
namespace Go.Proofs.Ytmmdikhmlmoolaa.QA
open Go.RowKit Go.Proofs.YtmmdikhmlmoolaaW.PrintWords Go.Proofs.YtmmdikhmlmoolaaW.PrintLast Go.Proofs.YtmmdikhmlmoolaaW.PrintMore
open Go.Proofs.YtmmdikhmlmoolaaW.PrintWords renaming gate_dst → gd, gate_callee → gc, box_event → be
open Aside0 renaming mk → am
attribute [local go_sem] max2_int min2_int max_two min_two max_three min_three max_four min_four
set_option linter.unusedVariables false
set_option linter.unusedSimpArgs false

def box_ends.l0 : Nat → Int → Int → Int → List Int → List (S25) → Int → Int → Option (List Int)
 | 0, _, _, _, _, _, _, _ => none
 | k + 1, x1, x2, x3, x9, x15, x16, x17 => if x17 < x16 then (if 0 ≤ x17 then (if x17 < (x15.length : Int) then ((box_sides.f ((rd_T25 x15 x17).f0.f0) ((rd_T25 x15 x17).f0.f1) ((rd_T25 x15 x17).f0.f2) ((rd_T25 x15 x17).f1.f0) ((rd_T25 x15 x17).f1.f1) ((rd_T25 x15 x17).f1.f2)).bind fun bt172 => (if x1 = 0 then (if bt172.2.1 > x2 then (if bt172.2.1 < x3 then (if x9.length < 17592186044416 then (box_ends.l0 k x1 x2 x3 (x9 ++ [bt172.2.1]) x15 x16 (wrap64 (x17 + 1))) else (none)) else (box_ends.l0 k x1 x2 x3 x9 x15 x16 (wrap64 (x17 + 1)))) else (box_ends.l0 k x1 x2 x3 x9 x15 x16 (wrap64 (x17 + 1)))) else (if x1 = 1 then (if bt172.2.2.2.1 > x2 then (if bt172.2.2.2.1 < x3 then (if x9.length < 17592186044416 then (box_ends.l0 k x1 x2 x3 (x9 ++ [bt172.2.2.2.1]) x15 x16 (wrap64 (x17 + 1))) else (none)) else (box_ends.l0 k x1 x2 x3 x9 x15 x16 (wrap64 (x17 + 1)))) else (box_ends.l0 k x1 x2 x3 x9 x15 x16 (wrap64 (x17 + 1)))) else (if x1 = 2 then (if bt172.2.2.2.2.2 > x2 then (if bt172.2.2.2.2.2 < x3 then (if x9.length < 17592186044416 then (box_ends.l0 k x1 x2 x3 (x9 ++ [bt172.2.2.2.2.2]) x15 x16 (wrap64 (x17 + 1))) else (none)) else (box_ends.l0 k x1 x2 x3 x9 x15 x16 (wrap64 (x17 + 1)))) else (box_ends.l0 k x1 x2 x3 x9 x15 x16 (wrap64 (x17 + 1)))) else (none))))) else (none)) else (none)) else ((slices_Sort_int_int.f x9).bind fun t187 => ((slices_Compact_int_int.f t187).bind fun t188 => (some t188)))
def box_ends.f (k : Nat) (l0 : List (S25)) (a1 : Int) (a2 : Int) (a3 : Int) : Option (List Int) := box_ends.l0 k a1 a2 a3 (([a2] : List Int)) l0 (l0.length : Int) 0
set_option maxHeartbeats 8000000 in
set_option maxRecDepth 100000 in
theorem box_ends.calls (k : Nat) (A0 : Option Addr) (c0 : Nat) (l0 : List (S25)) (a1 : Int) (a2 : Int) (a3 : Int) (r : List Int) (w : World) (hr0 : Kd.C k25 w A0 l0.length l0) (hc0 : l0.length ≤ c0) (h : box_ends.f k l0 a1 a2 a3 = some r) :
  Calls Try.prog 49 #[.slice A0 l0.length c0, .int .i64 a1, .int .i64 a2, .int .i64 a3] w fun e w' => ∃ v0_ : Value, e = .returned (v0_) ∧ Kd.R (Kd.int .i64) 3 w' w.heap.size (fun _ => True) v0_ r ∧ Below w.heap.size w w' := by
 have hu25 := Try.underlying25
 have hu73 := Try.underlying73
 have hu72 := Try.underlying72
 have hix72_0 : ∀ (e0_ e1_ : Value) (W_ : World), Sem.run Try.prog (Instr.index 72 (.agg #[e0_, e1_]) (.int .i64 0)) W_ = .ok e0_ W_ := fun _ _ _  => by kernel_rfl
 have hix72_1 : ∀ (e0_ e1_ : Value) (W_ : World), Sem.run Try.prog (Instr.index 72 (.agg #[e0_, e1_]) (.int .i64 1)) W_ = .ok e1_ W_ := fun _ _ _  => by kernel_rfl
 have hix73_0 : ∀ (e0_ e1_ e2_ e3_ e4_ e5_ : Value) (W_ : World), Sem.run Try.prog (Instr.index 73 (.agg #[e0_, e1_, e2_, e3_, e4_, e5_]) (.int .i64 0)) W_ = .ok (.agg #[e0_, e1_]) W_ := fun _ _ _ _ _ _ _  => by kernel_rfl
 have hix73_1 : ∀ (e0_ e1_ e2_ e3_ e4_ e5_ : Value) (W_ : World), Sem.run Try.prog (Instr.index 73 (.agg #[e0_, e1_, e2_, e3_, e4_, e5_]) (.int .i64 1)) W_ = .ok (.agg #[e2_, e3_]) W_ := fun _ _ _ _ _ _ _  => by kernel_rfl
 have hix73_2 : ∀ (e0_ e1_ e2_ e3_ e4_ e5_ : Value) (W_ : World), Sem.run Try.prog (Instr.index 73 (.agg #[e0_, e1_, e2_, e3_, e4_, e5_]) (.int .i64 2)) W_ = .ok (.agg #[e4_, e5_]) W_ := fun _ _ _ _ _ _ _  => by kernel_rfl
 have HR0 := am hr0
 have HC0 := am hc0
 clear hr0 hc0
 have HB := am (Below.refl w.heap.size w)
 have H : (box_ends.l0 k a1 a2 a3 (([a2] : List Int)) l0 (l0.length : Int) 0) = some r := h
 clear h
 obtain ⟨y167, hy167⟩ : ∃ y_ : List Int, y_ = (([a2] : List Int)) := ⟨_, rfl⟩
 replace H : (box_ends.l0 k a1 a2 a3 y167 l0 (l0.length : Int) 0) = some r := by first | (rw [hy167]; with_reducible exact H) | (have H2_ := (Option.bind_some _ _).symm.trans H; rw [hy167]; with_reducible exact H2_) | (have H2_ := (Option.bind_some _ _).symm.trans H; with_reducible exact H2_) | with_reducible exact H | (rw [hy167]; exact H) | exact H
 have Ny167 := am hy167
 clear hy167
 have H' := am H
 clear H
 go_enter Try.func49, Try.ntmps49
 go_wp2_with (first | ((with_reducible refine gd (N := 14) rfl ?_); refine Kd.R_lit (Kd.int .i64) _ 3 ?hg (N := 14) ?hd (xs := ([a2] : List Int)) (inner := [.int .i64 a2]) (ok := fun _ => True) (okp := fun _ => True) ?hr ?hp (fun _ hk => hk) trivial (Below.refl _ _) (Nat.le_refl _) (by simp) ?_; (case hd | hg => rfl); (case hr => first | (go_simp; done) | (go_simp; rfl)); (case hp => exact (Reps.one (show Kd.M (Kd.int .i64) _ _ _ a2 [.int .i64 a2] from rfl) (Reps.none _ _))); intro v168 w5 ho6 hb hg_ hnew_; clear hg_ hnew_; (first | rw [← Ny167.out] at ho6 | (simp only [Int.reduceToNat] at ho6; rw [← Ny167.out] at ho6)); have HO169 := am (Kd.R_lower ho6 (below_size (fW HB.out))); replace HB := bS HB hb; clear hb ho6))
 go_loopg [9, 17] k (fun kq v9 v17 w' => ∃ (x9_1 : List Int) (x17_1 : Int), v17 = .int .i64 x17_1 ∧ Aside0 (box_ends.l0 kq a1 a2 a3 x9_1 l0 (l0.length : Int) x17_1 = some r) ∧ Aside0 (kq ≤ k) ∧ Aside0 (Kd.R (Kd.int .i64) 3 w' w.heap.size (fun _ => True) v9 x9_1) ∧ Aside0 (Below w.heap.size w w'))
 case atStart => exact ⟨(y167), (0), sqD, H', ⟨Nat.le_refl _⟩, ⟨fR HO169.out⟩, ⟨fW HB.out⟩⟩
 case round =>
  clear H'
  try clear p2;try clear c4
  obtain ⟨x9_1, x17_1, rfl, HA, HK1, HO_9, HB⟩ := hrel
  cases gk with
  | zero => exact absurd HA.out (by simp [box_ends.l0])
  | succ k1 =>
   have H := HA.out
   clear HA
   simp only [box_ends.l0] at H
   by_cases c7 : x17_1 < (l0.length : Int)
   ·rw [if_pos c7] at H
    have c7b0 : decide (x17_1 < (l0.length : Int)) = true := decide_eq_true c7
    clear c7
    by_cases c8 : 0 ≤ x17_1
    rotate_left
    ·rw [if_neg c8] at H
     exact absurd H (by simp)
    rw [if_pos c8] at H
    have c8b0 : decide (0 ≤ x17_1) = true := decide_eq_true c8
    clear c8
    by_cases c9 : x17_1 < (l0.length : Int)
    rotate_left
    ·rw [if_neg c9] at H
     exact absurd H (by simp)
    rw [if_pos c9] at H
    have c9b0 : decide (x17_1 < (l0.length : Int)) = true := decide_eq_true c9
    clear c9
    replace H := Option.bind_eq_some_iff.mp H
    obtain ⟨⟨t172, t173, t174, t175, t176, t177⟩, A100, H⟩ := H
    replace H : (if a1 = 0 then (if t173 > a2 then (if t173 < a3 then (if x9_1.length < 17592186044416 then (box_ends.l0 k1 a1 a2 a3 (x9_1 ++ [t173]) l0 (l0.length : Int) (wrap64 (x17_1 + 1))) else (none)) else (box_ends.l0 k1 a1 a2 a3 x9_1 l0 (l0.length : Int) (wrap64 (x17_1 + 1)))) else (box_ends.l0 k1 a1 a2 a3 x9_1 l0 (l0.length : Int) (wrap64 (x17_1 + 1)))) else (if a1 = 1 then (if t175 > a2 then (if t175 < a3 then (if x9_1.length < 17592186044416 then (box_ends.l0 k1 a1 a2 a3 (x9_1 ++ [t175]) l0 (l0.length : Int) (wrap64 (x17_1 + 1))) else (none)) else (box_ends.l0 k1 a1 a2 a3 x9_1 l0 (l0.length : Int) (wrap64 (x17_1 + 1)))) else (box_ends.l0 k1 a1 a2 a3 x9_1 l0 (l0.length : Int) (wrap64 (x17_1 + 1)))) else (if a1 = 2 then (if t177 > a2 then (if t177 < a3 then (if x9_1.length < 17592186044416 then (box_ends.l0 k1 a1 a2 a3 (x9_1 ++ [t177]) l0 (l0.length : Int) (wrap64 (x17_1 + 1))) else (none)) else (box_ends.l0 k1 a1 a2 a3 x9_1 l0 (l0.length : Int) (wrap64 (x17_1 + 1)))) else (box_ends.l0 k1 a1 a2 a3 x9_1 l0 (l0.length : Int) (wrap64 (x17_1 + 1)))) else (none)))) = some r := H
    have A10 := am A100
    clear A100
    by_cases c11 : a1 = 0
    ·rw [if_pos c11] at H
     have c11b0 : (a1 == 0) = true := beq_iff_eq.mpr c11
     have c11b1 : (a1 != 0) = false := bne_eq_false_iff_eq.mpr c11
     have c11ix : ∀ (T_ : TypeId) (x_ : Value) (W_ : World), Sem.run Try.prog (Instr.index T_ x_ (Value.int IntKind.i64 a1)) W_ = Sem.run Try.prog (Instr.index T_ x_ (Value.int IntKind.i64 0)) W_ := by rw [c11]; intros; rfl
     have c11iy : ∀ (T_ : TypeId) (x_ : Value) (W_ : World), Sem.run Try.prog (Instr.indexAt T_ x_ (Value.int IntKind.i64 a1)) W_ = Sem.run Try.prog (Instr.indexAt T_ x_ (Value.int IntKind.i64 0)) W_ := by rw [c11]; intros; rfl
     clear c11
     by_cases c12 : t173 > a2
     rotate_left
     ·rw [if_neg c12] at H
      have c12b0 : decide (a2 < t173) = false := decide_eq_false c12
      clear c12
      have H' := am H
      clear H
      have p170 : 0 ≤ (x17_1 : Int) := of_decide_eq_true (by assumption)
      have q170 : x17_1 < (l0.length : Int) := of_decide_eq_true (by assumption)
      obtain ⟨ad170, e170, hx170_0, hx170_1, hx170_2, hx170_3, hx170_4, hx170_5⟩ := at_T25 HR0.out x17_1 p170 q170
      cases e170
      replace hx170_0 := cl HB hx170_0
      replace hx170_1 := cl HB hx170_1
      replace hx170_2 := cl HB hx170_2
      replace hx170_3 := cl HB hx170_3
      replace hx170_4 := cl HB hx170_4
      replace hx170_5 := cl HB hx170_5
      replace p170 := eq_true p170
      replace q170 := eq_true q170
      go_wp2_with (first | ((with_reducible refine gd (N := 11) rfl ?_); refine be ?hg (N := 11) ?hd (cs := #[.int .i64 0, .int .i64 0, .int .i64 0, .int .i64 0, .int .i64 0, .int .i64 0]) (t := 25) ?hr ?_; (case hd | hg => rfl); (case hr => first | (go_simp; done) | (go_simp; rfl)); intro gb171 hg w22 hbox hb; replace HO_9 := dR HO_9 hb; have BK171 := am hbox; have GW171 := sG HB hg; have GE171 := sG HB hg; replace HB := bS HB hb; clear hb hbox hg; obtain ⟨_, _, _, _, _, _, _, _, _, _, _, _⟩ := zC6 BK171) | ((with_reducible refine gc (f := 52) rfl ?_); refine goesL_ (some 22) rfl rfl Try.func52 (by kernel_rfl) rfl #[.agg #[.int .i64 ((rd_T25 l0 x17_1).f0.f0), .int .i64 ((rd_T25 l0 x17_1).f0.f1), .int .i64 ((rd_T25 l0 x17_1).f0.f2), .int .i64 ((rd_T25 l0 x17_1).f1.f0), .int .i64 ((rd_T25 l0 x17_1).f1.f1), .int .i64 ((rd_T25 l0 x17_1).f1.f2)]] rfl (by (try simp only [pml]); first | done | rfl | (simp only [pdt]; rfl)) ?_; (with_reducible refine (box_sides.calls ((rd_T25 l0 x17_1).f0.f0) ((rd_T25 l0 x17_1).f0.f1) ((rd_T25 l0 x17_1).f0.f2) ((rd_T25 l0 x17_1).f1.f0) ((rd_T25 l0 x17_1).f1.f1) ((rd_T25 l0 x17_1).f1.f2) t172 t173 t174 t175 t176 t177 _ A10.out).mono ?_); rintro e w24 ⟨rfl, hb⟩; refine ⟨_, rfl, ?_⟩; replace HO_9 := am (Kd.R_below (by (with_reducible repeat (first | apply Kd.R_alloc | apply Kd.R_drewN | apply Kd.R_drew)); exact (Kd.R_mono (Kd.R_far (p := ⟨gb171, 5, none⟩) (Kd.R_far (p := ⟨gb171, 4, none⟩) (Kd.R_far (p := ⟨gb171, 3, none⟩) (Kd.R_far (p := ⟨gb171, 2, none⟩) (Kd.R_far (p := ⟨gb171, 1, none⟩) (Kd.R_far (p := ⟨gb171, 0, none⟩) (Kd.R_types HO_9.out BK171.out (by decide)) (fun _ hk => hk.2) (.int .i64 ((rd_T25 l0 x17_1).f0.f0))) (fun _ hk => hk.2) (.int .i64 ((rd_T25 l0 x17_1).f0.f1))) (fun _ hk => hk.2) (.int .i64 ((rd_T25 l0 x17_1).f0.f2))) (fun _ hk => hk.2) (.int .i64 ((rd_T25 l0 x17_1).f1.f0))) (fun _ hk => hk.2) (.int .i64 ((rd_T25 l0 x17_1).f1.f1))) (fun _ hk => hk.2) (.int .i64 ((rd_T25 l0 x17_1).f1.f2))) (fun _ h_ => h_.1))) hb); replace BK171 := xC1 (o := .cells #[.int .i64 ((rd_T25 l0 x17_1).f0.f0), .int .i64 ((rd_T25 l0 x17_1).f0.f1), .int .i64 ((rd_T25 l0 x17_1).f0.f2), .int .i64 ((rd_T25 l0 x17_1).f1.f0), .int .i64 ((rd_T25 l0 x17_1).f1.f1), .int .i64 ((rd_T25 l0 x17_1).f1.f2)] 25 (0, 0)) (kkC BK171.out) hb; replace HB := bS HB hb; (try clear hb); (try clear hb2); (try clear hk); (try clear hi)))
      go_roundg k1
      case measure => have := HK1.out; omega
      case rel => exact ⟨(x9_1), (wrap64 (x17_1 + 1)), sqD, H', ⟨by have := HK1.out; omega⟩, ⟨fR HO_9.out⟩, ⟨fW HB.out⟩⟩
     rw [if_pos c12] at H
     have c12b0 : decide (a2 < t173) = true := decide_eq_true c12
     clear c12
     by_cases c13 : t173 < a3
     ·rw [if_pos c13] at H
      have c13b0 : decide (t173 < a3) = true := decide_eq_true c13
      clear c13
      by_cases c14 : x9_1.length < 17592186044416
      rotate_left
      ·rw [if_neg c14] at H
       exact absurd H (by simp)
      rw [if_pos c14] at H
      have LMc14 := am c14
      clear c14
      obtain ⟨y178, hy178⟩ : ∃ y_ : List Int, y_ = (x9_1 ++ [t173]) := ⟨_, rfl⟩
      replace H : (box_ends.l0 k1 a1 a2 a3 y178 l0 (l0.length : Int) (wrap64 (x17_1 + 1))) = some r := by first | (rw [hy178]; with_reducible exact H) | (have H2_ := (Option.bind_some _ _).symm.trans H; rw [hy178]; with_reducible exact H2_) | (have H2_ := (Option.bind_some _ _).symm.trans H; with_reducible exact H2_) | with_reducible exact H | (rw [hy178]; exact H) | exact H
      have Ny178 := am hy178
      clear hy178
      have H' := am H
      clear H
      have p170 : 0 ≤ (x17_1 : Int) := of_decide_eq_true (by assumption)
      have q170 : x17_1 < (l0.length : Int) := of_decide_eq_true (by assumption)
      obtain ⟨ad170, e170, hx170_0, hx170_1, hx170_2, hx170_3, hx170_4, hx170_5⟩ := at_T25 HR0.out x17_1 p170 q170
      cases e170
      replace hx170_0 := cl HB hx170_0
      replace hx170_1 := cl HB hx170_1
      replace hx170_2 := cl HB hx170_2
      replace hx170_3 := cl HB hx170_3
      replace hx170_4 := cl HB hx170_4
      replace hx170_5 := cl HB hx170_5
      replace p170 := eq_true p170
      replace q170 := eq_true q170
      go_wp2_with (first | ((with_reducible refine gd (N := 11) rfl ?_); refine be ?hg (N := 11) ?hd (cs := #[.int .i64 0, .int .i64 0, .int .i64 0, .int .i64 0, .int .i64 0, .int .i64 0]) (t := 25) ?hr ?_; (case hd | hg => rfl); (case hr => first | (go_simp; done) | (go_simp; rfl)); intro gb171 hg w15 hbox hb; replace HO_9 := dR HO_9 hb; have BK171 := am hbox; have GW171 := sG HB hg; have GE171 := sG HB hg; replace HB := bS HB hb; clear hb hbox hg; obtain ⟨_, _, _, _, _, _, _, _, _, _, _, _⟩ := zC6 BK171) | ((with_reducible refine gc (f := 52) rfl ?_); refine goesL_ (some 22) rfl rfl Try.func52 (by kernel_rfl) rfl #[.agg #[.int .i64 ((rd_T25 l0 x17_1).f0.f0), .int .i64 ((rd_T25 l0 x17_1).f0.f1), .int .i64 ((rd_T25 l0 x17_1).f0.f2), .int .i64 ((rd_T25 l0 x17_1).f1.f0), .int .i64 ((rd_T25 l0 x17_1).f1.f1), .int .i64 ((rd_T25 l0 x17_1).f1.f2)]] rfl (by (try simp only [pml]); first | done | rfl | (simp only [pdt]; rfl)) ?_; (with_reducible refine (box_sides.calls ((rd_T25 l0 x17_1).f0.f0) ((rd_T25 l0 x17_1).f0.f1) ((rd_T25 l0 x17_1).f0.f2) ((rd_T25 l0 x17_1).f1.f0) ((rd_T25 l0 x17_1).f1.f1) ((rd_T25 l0 x17_1).f1.f2) t172 t173 t174 t175 t176 t177 _ A10.out).mono ?_); rintro e w17 ⟨rfl, hb⟩; refine ⟨_, rfl, ?_⟩; replace HO_9 := am (Kd.R_below (by (with_reducible repeat (first | apply Kd.R_alloc | apply Kd.R_drewN | apply Kd.R_drew)); exact (Kd.R_mono (Kd.R_far (p := ⟨gb171, 5, none⟩) (Kd.R_far (p := ⟨gb171, 4, none⟩) (Kd.R_far (p := ⟨gb171, 3, none⟩) (Kd.R_far (p := ⟨gb171, 2, none⟩) (Kd.R_far (p := ⟨gb171, 1, none⟩) (Kd.R_far (p := ⟨gb171, 0, none⟩) (Kd.R_types HO_9.out BK171.out (by decide)) (fun _ hk => hk.2) (.int .i64 ((rd_T25 l0 x17_1).f0.f0))) (fun _ hk => hk.2) (.int .i64 ((rd_T25 l0 x17_1).f0.f1))) (fun _ hk => hk.2) (.int .i64 ((rd_T25 l0 x17_1).f0.f2))) (fun _ hk => hk.2) (.int .i64 ((rd_T25 l0 x17_1).f1.f0))) (fun _ hk => hk.2) (.int .i64 ((rd_T25 l0 x17_1).f1.f1))) (fun _ hk => hk.2) (.int .i64 ((rd_T25 l0 x17_1).f1.f2))) (fun _ h_ => h_.1))) hb); replace BK171 := xC1 (o := .cells #[.int .i64 ((rd_T25 l0 x17_1).f0.f0), .int .i64 ((rd_T25 l0 x17_1).f0.f1), .int .i64 ((rd_T25 l0 x17_1).f0.f2), .int .i64 ((rd_T25 l0 x17_1).f1.f0), .int .i64 ((rd_T25 l0 x17_1).f1.f1), .int .i64 ((rd_T25 l0 x17_1).f1.f2)] 25 (0, 0)) (kkC BK171.out) hb; replace HB := bS HB hb; (try clear hb); (try clear hb2); (try clear hk); (try clear hi)) | ((with_reducible refine gate_builtin (b := .append) (xs := #[.tmp 34, .tmp 36]) rfl ?_); at_builtin; refine Kd.R_append (Kd.int .i64) (w0 := w) w.heap.size rfl (.tmp 34) (.tmp 36) 69 3 (.int .i64 0) 8 rfl Try.underlying69 info3 rfl (by decide) (by omega) u9 x9_1 t173 [.int .i64 t173] (fun _ => True) (fun _ => False) rfl rfl ?aP (fun _ hk => hk.elim) ?aF ?aO ?aB ?aS ?aL ?_; (case aP => exact rfl); (case aB => exact (fW HB.out)); (case aF => exact (fun _ _ => trivial)); (case aO => exact (fR HO_9.out)); (case aS => exact (below_size (fW HB.out))); (case aL => have := LMc14.out; omega); intro v179 w18 ho hb hg hat; rw [← Ny178.out] at ho; replace BK171 := am (blk_grown (g := gb171) (o := .cells #[.int .i64 ((rd_T25 l0 x17_1).f0.f0), .int .i64 ((rd_T25 l0 x17_1).f0.f1), .int .i64 ((rd_T25 l0 x17_1).f0.f2), .int .i64 ((rd_T25 l0 x17_1).f1.f0), .int .i64 ((rd_T25 l0 x17_1).f1.f1), .int .i64 ((rd_T25 l0 x17_1).f1.f2)] 25 (0, 0)) (fb BK171.out) hg (Kd.R_ne HO_9.out BK171.out (by decide))); replace HB := am (hb); have HO180 := am (ho); clear HO_9 ho hb hg hat))
      go_roundg k1
      case measure => have := HK1.out; omega
      case rel => exact ⟨(y178), (wrap64 (x17_1 + 1)), sqD, H', ⟨by have := HK1.out; omega⟩, ⟨fR HO180.out⟩, ⟨fW HB.out⟩⟩
     rw [if_neg c13] at H
     have c13b0 : decide (t173 < a3) = false := decide_eq_false c13
     clear c13
     have H' := am H
     clear H
     have p170 : 0 ≤ (x17_1 : Int) := of_decide_eq_true (by assumption)
     have q170 : x17_1 < (l0.length : Int) := of_decide_eq_true (by assumption)
     obtain ⟨ad170, e170, hx170_0, hx170_1, hx170_2, hx170_3, hx170_4, hx170_5⟩ := at_T25 HR0.out x17_1 p170 q170
     cases e170
     replace hx170_0 := cl HB hx170_0
     replace hx170_1 := cl HB hx170_1
     replace hx170_2 := cl HB hx170_2
     replace hx170_3 := cl HB hx170_3
     replace hx170_4 := cl HB hx170_4
     replace hx170_5 := cl HB hx170_5
     replace p170 := eq_true p170
     replace q170 := eq_true q170
     go_wp2_with (first | ((with_reducible refine gd (N := 11) rfl ?_); refine be ?hg (N := 11) ?hd (cs := #[.int .i64 0, .int .i64 0, .int .i64 0, .int .i64 0, .int .i64 0, .int .i64 0]) (t := 25) ?hr ?_; (case hd | hg => rfl); (case hr => first | (go_simp; done) | (go_simp; rfl)); intro gb171 hg w19 hbox hb; replace HO_9 := dR HO_9 hb; have BK171 := am hbox; have GW171 := sG HB hg; have GE171 := sG HB hg; replace HB := bS HB hb; clear hb hbox hg; obtain ⟨_, _, _, _, _, _, _, _, _, _, _, _⟩ := zC6 BK171) | ((with_reducible refine gc (f := 52) rfl ?_); refine goesL_ (some 22) rfl rfl Try.func52 (by kernel_rfl) rfl #[.agg #[.int .i64 ((rd_T25 l0 x17_1).f0.f0), .int .i64 ((rd_T25 l0 x17_1).f0.f1), .int .i64 ((rd_T25 l0 x17_1).f0.f2), .int .i64 ((rd_T25 l0 x17_1).f1.f0), .int .i64 ((rd_T25 l0 x17_1).f1.f1), .int .i64 ((rd_T25 l0 x17_1).f1.f2)]] rfl (by (try simp only [pml]); first | done | rfl | (simp only [pdt]; rfl)) ?_; (with_reducible refine (box_sides.calls ((rd_T25 l0 x17_1).f0.f0) ((rd_T25 l0 x17_1).f0.f1) ((rd_T25 l0 x17_1).f0.f2) ((rd_T25 l0 x17_1).f1.f0) ((rd_T25 l0 x17_1).f1.f1) ((rd_T25 l0 x17_1).f1.f2) t172 t173 t174 t175 t176 t177 _ A10.out).mono ?_); rintro e w21 ⟨rfl, hb⟩; refine ⟨_, rfl, ?_⟩; replace HO_9 := am (Kd.R_below (by (with_reducible repeat (first | apply Kd.R_alloc | apply Kd.R_drewN | apply Kd.R_drew)); exact (Kd.R_mono (Kd.R_far (p := ⟨gb171, 5, none⟩) (Kd.R_far (p := ⟨gb171, 4, none⟩) (Kd.R_far (p := ⟨gb171, 3, none⟩) (Kd.R_far (p := ⟨gb171, 2, none⟩) (Kd.R_far (p := ⟨gb171, 1, none⟩) (Kd.R_far (p := ⟨gb171, 0, none⟩) (Kd.R_types HO_9.out BK171.out (by decide)) (fun _ hk => hk.2) (.int .i64 ((rd_T25 l0 x17_1).f0.f0))) (fun _ hk => hk.2) (.int .i64 ((rd_T25 l0 x17_1).f0.f1))) (fun _ hk => hk.2) (.int .i64 ((rd_T25 l0 x17_1).f0.f2))) (fun _ hk => hk.2) (.int .i64 ((rd_T25 l0 x17_1).f1.f0))) (fun _ hk => hk.2) (.int .i64 ((rd_T25 l0 x17_1).f1.f1))) (fun _ hk => hk.2) (.int .i64 ((rd_T25 l0 x17_1).f1.f2))) (fun _ h_ => h_.1))) hb); replace BK171 := xC1 (o := .cells #[.int .i64 ((rd_T25 l0 x17_1).f0.f0), .int .i64 ((rd_T25 l0 x17_1).f0.f1), .int .i64 ((rd_T25 l0 x17_1).f0.f2), .int .i64 ((rd_T25 l0 x17_1).f1.f0), .int .i64 ((rd_T25 l0 x17_1).f1.f1), .int .i64 ((rd_T25 l0 x17_1).f1.f2)] 25 (0, 0)) (kkC BK171.out) hb; replace HB := bS HB hb; (try clear hb); (try clear hb2); (try clear hk); (try clear hi)))
     go_roundg k1
     case measure => have := HK1.out; omega
     case rel => exact ⟨(x9_1), (wrap64 (x17_1 + 1)), sqD, H', ⟨by have := HK1.out; omega⟩, ⟨fR HO_9.out⟩, ⟨fW HB.out⟩⟩
    rw [if_neg c11] at H
    have c11b0 : (a1 == 0) = false := beq_eq_false_iff_ne.mpr c11
    have c11b1 : (a1 != 0) = true := bne_iff_ne.mpr c11
    by_cases c25 : a1 = 1
    ·rw [if_pos c25] at H
     have c25b0 : (a1 == 1) = true := beq_iff_eq.mpr c25
     have c25b1 : (a1 != 1) = false := bne_eq_false_iff_eq.mpr c25
     have c25ix : ∀ (T_ : TypeId) (x_ : Value) (W_ : World), Sem.run Try.prog (Instr.index T_ x_ (Value.int IntKind.i64 a1)) W_ = Sem.run Try.prog (Instr.index T_ x_ (Value.int IntKind.i64 1)) W_ := by rw [c25]; intros; rfl
     have c25iy : ∀ (T_ : TypeId) (x_ : Value) (W_ : World), Sem.run Try.prog (Instr.indexAt T_ x_ (Value.int IntKind.i64 a1)) W_ = Sem.run Try.prog (Instr.indexAt T_ x_ (Value.int IntKind.i64 1)) W_ := by rw [c25]; intros; rfl
     clear c25
     by_cases c26 : t175 > a2
     rotate_left
     ·rw [if_neg c26] at H
      have c26b0 : decide (a2 < t175) = false := decide_eq_false c26
      clear c26
      have H' := am H
      clear H
      have p170 : 0 ≤ (x17_1 : Int) := of_decide_eq_true (by assumption)
      have q170 : x17_1 < (l0.length : Int) := of_decide_eq_true (by assumption)
      obtain ⟨ad170, e170, hx170_0, hx170_1, hx170_2, hx170_3, hx170_4, hx170_5⟩ := at_T25 HR0.out x17_1 p170 q170
      cases e170
      replace hx170_0 := cl HB hx170_0
      replace hx170_1 := cl HB hx170_1
      replace hx170_2 := cl HB hx170_2
      replace hx170_3 := cl HB hx170_3
      replace hx170_4 := cl HB hx170_4
      replace hx170_5 := cl HB hx170_5
      replace p170 := eq_true p170
      replace q170 := eq_true q170
      go_wp2_with (first | ((with_reducible refine gd (N := 11) rfl ?_); refine be ?hg (N := 11) ?hd (cs := #[.int .i64 0, .int .i64 0, .int .i64 0, .int .i64 0, .int .i64 0, .int .i64 0]) (t := 25) ?hr ?_; (case hd | hg => rfl); (case hr => first | (go_simp; done) | (go_simp; rfl)); intro gb171 hg w36 hbox hb; replace HO_9 := dR HO_9 hb; have BK171 := am hbox; have GW171 := sG HB hg; have GE171 := sG HB hg; replace HB := bS HB hb; clear hb hbox hg; obtain ⟨_, _, _, _, _, _, _, _, _, _, _, _⟩ := zC6 BK171) | ((with_reducible refine gc (f := 52) rfl ?_); refine goesL_ (some 22) rfl rfl Try.func52 (by kernel_rfl) rfl #[.agg #[.int .i64 ((rd_T25 l0 x17_1).f0.f0), .int .i64 ((rd_T25 l0 x17_1).f0.f1), .int .i64 ((rd_T25 l0 x17_1).f0.f2), .int .i64 ((rd_T25 l0 x17_1).f1.f0), .int .i64 ((rd_T25 l0 x17_1).f1.f1), .int .i64 ((rd_T25 l0 x17_1).f1.f2)]] rfl (by (try simp only [pml]); first | done | rfl | (simp only [pdt]; rfl)) ?_; (with_reducible refine (box_sides.calls ((rd_T25 l0 x17_1).f0.f0) ((rd_T25 l0 x17_1).f0.f1) ((rd_T25 l0 x17_1).f0.f2) ((rd_T25 l0 x17_1).f1.f0) ((rd_T25 l0 x17_1).f1.f1) ((rd_T25 l0 x17_1).f1.f2) t172 t173 t174 t175 t176 t177 _ A10.out).mono ?_); rintro e w38 ⟨rfl, hb⟩; refine ⟨_, rfl, ?_⟩; replace HO_9 := am (Kd.R_below (by (with_reducible repeat (first | apply Kd.R_alloc | apply Kd.R_drewN | apply Kd.R_drew)); exact (Kd.R_mono (Kd.R_far (p := ⟨gb171, 5, none⟩) (Kd.R_far (p := ⟨gb171, 4, none⟩) (Kd.R_far (p := ⟨gb171, 3, none⟩) (Kd.R_far (p := ⟨gb171, 2, none⟩) (Kd.R_far (p := ⟨gb171, 1, none⟩) (Kd.R_far (p := ⟨gb171, 0, none⟩) (Kd.R_types HO_9.out BK171.out (by decide)) (fun _ hk => hk.2) (.int .i64 ((rd_T25 l0 x17_1).f0.f0))) (fun _ hk => hk.2) (.int .i64 ((rd_T25 l0 x17_1).f0.f1))) (fun _ hk => hk.2) (.int .i64 ((rd_T25 l0 x17_1).f0.f2))) (fun _ hk => hk.2) (.int .i64 ((rd_T25 l0 x17_1).f1.f0))) (fun _ hk => hk.2) (.int .i64 ((rd_T25 l0 x17_1).f1.f1))) (fun _ hk => hk.2) (.int .i64 ((rd_T25 l0 x17_1).f1.f2))) (fun _ h_ => h_.1))) hb); replace BK171 := xC1 (o := .cells #[.int .i64 ((rd_T25 l0 x17_1).f0.f0), .int .i64 ((rd_T25 l0 x17_1).f0.f1), .int .i64 ((rd_T25 l0 x17_1).f0.f2), .int .i64 ((rd_T25 l0 x17_1).f1.f0), .int .i64 ((rd_T25 l0 x17_1).f1.f1), .int .i64 ((rd_T25 l0 x17_1).f1.f2)] 25 (0, 0)) (kkC BK171.out) hb; replace HB := bS HB hb; (try clear hb); (try clear hb2); (try clear hk); (try clear hi)))
      go_roundg k1
      case measure => have := HK1.out; omega
      case rel => exact ⟨(x9_1), (wrap64 (x17_1 + 1)), sqD, H', ⟨by have := HK1.out; omega⟩, ⟨fR HO_9.out⟩, ⟨fW HB.out⟩⟩
     rw [if_pos c26] at H
     have c26b0 : decide (a2 < t175) = true := decide_eq_true c26
     clear c26
     by_cases c27 : t175 < a3
     ·rw [if_pos c27] at H
      have c27b0 : decide (t175 < a3) = true := decide_eq_true c27
      clear c27
      by_cases c28 : x9_1.length < 17592186044416
      rotate_left
      ·rw [if_neg c28] at H
       exact absurd H (by simp)
      rw [if_pos c28] at H
      have LMc28 := am c28
      clear c28
      obtain ⟨y181, hy181⟩ : ∃ y_ : List Int, y_ = (x9_1 ++ [t175]) := ⟨_, rfl⟩
      replace H : (box_ends.l0 k1 a1 a2 a3 y181 l0 (l0.length : Int) (wrap64 (x17_1 + 1))) = some r := by first | (rw [hy181]; with_reducible exact H) | (have H2_ := (Option.bind_some _ _).symm.trans H; rw [hy181]; with_reducible exact H2_) | (have H2_ := (Option.bind_some _ _).symm.trans H; with_reducible exact H2_) | with_reducible exact H | (rw [hy181]; exact H) | exact H
      have Ny181 := am hy181
      clear hy181
      have H' := am H
      clear H
      have p170 : 0 ≤ (x17_1 : Int) := of_decide_eq_true (by assumption)
      have q170 : x17_1 < (l0.length : Int) := of_decide_eq_true (by assumption)
      obtain ⟨ad170, e170, hx170_0, hx170_1, hx170_2, hx170_3, hx170_4, hx170_5⟩ := at_T25 HR0.out x17_1 p170 q170
      cases e170
      replace hx170_0 := cl HB hx170_0
      replace hx170_1 := cl HB hx170_1
      replace hx170_2 := cl HB hx170_2
      replace hx170_3 := cl HB hx170_3
      replace hx170_4 := cl HB hx170_4
      replace hx170_5 := cl HB hx170_5
      replace p170 := eq_true p170
      replace q170 := eq_true q170
      go_wp2_with (first | ((with_reducible refine gd (N := 11) rfl ?_); refine be ?hg (N := 11) ?hd (cs := #[.int .i64 0, .int .i64 0, .int .i64 0, .int .i64 0, .int .i64 0, .int .i64 0]) (t := 25) ?hr ?_; (case hd | hg => rfl); (case hr => first | (go_simp; done) | (go_simp; rfl)); intro gb171 hg w29 hbox hb; replace HO_9 := dR HO_9 hb; have BK171 := am hbox; have GW171 := sG HB hg; have GE171 := sG HB hg; replace HB := bS HB hb; clear hb hbox hg; obtain ⟨_, _, _, _, _, _, _, _, _, _, _, _⟩ := zC6 BK171) | ((with_reducible refine gc (f := 52) rfl ?_); refine goesL_ (some 22) rfl rfl Try.func52 (by kernel_rfl) rfl #[.agg #[.int .i64 ((rd_T25 l0 x17_1).f0.f0), .int .i64 ((rd_T25 l0 x17_1).f0.f1), .int .i64 ((rd_T25 l0 x17_1).f0.f2), .int .i64 ((rd_T25 l0 x17_1).f1.f0), .int .i64 ((rd_T25 l0 x17_1).f1.f1), .int .i64 ((rd_T25 l0 x17_1).f1.f2)]] rfl (by (try simp only [pml]); first | done | rfl | (simp only [pdt]; rfl)) ?_; (with_reducible refine (box_sides.calls ((rd_T25 l0 x17_1).f0.f0) ((rd_T25 l0 x17_1).f0.f1) ((rd_T25 l0 x17_1).f0.f2) ((rd_T25 l0 x17_1).f1.f0) ((rd_T25 l0 x17_1).f1.f1) ((rd_T25 l0 x17_1).f1.f2) t172 t173 t174 t175 t176 t177 _ A10.out).mono ?_); rintro e w31 ⟨rfl, hb⟩; refine ⟨_, rfl, ?_⟩; replace HO_9 := am (Kd.R_below (by (with_reducible repeat (first | apply Kd.R_alloc | apply Kd.R_drewN | apply Kd.R_drew)); exact (Kd.R_mono (Kd.R_far (p := ⟨gb171, 5, none⟩) (Kd.R_far (p := ⟨gb171, 4, none⟩) (Kd.R_far (p := ⟨gb171, 3, none⟩) (Kd.R_far (p := ⟨gb171, 2, none⟩) (Kd.R_far (p := ⟨gb171, 1, none⟩) (Kd.R_far (p := ⟨gb171, 0, none⟩) (Kd.R_types HO_9.out BK171.out (by decide)) (fun _ hk => hk.2) (.int .i64 ((rd_T25 l0 x17_1).f0.f0))) (fun _ hk => hk.2) (.int .i64 ((rd_T25 l0 x17_1).f0.f1))) (fun _ hk => hk.2) (.int .i64 ((rd_T25 l0 x17_1).f0.f2))) (fun _ hk => hk.2) (.int .i64 ((rd_T25 l0 x17_1).f1.f0))) (fun _ hk => hk.2) (.int .i64 ((rd_T25 l0 x17_1).f1.f1))) (fun _ hk => hk.2) (.int .i64 ((rd_T25 l0 x17_1).f1.f2))) (fun _ h_ => h_.1))) hb); replace BK171 := xC1 (o := .cells #[.int .i64 ((rd_T25 l0 x17_1).f0.f0), .int .i64 ((rd_T25 l0 x17_1).f0.f1), .int .i64 ((rd_T25 l0 x17_1).f0.f2), .int .i64 ((rd_T25 l0 x17_1).f1.f0), .int .i64 ((rd_T25 l0 x17_1).f1.f1), .int .i64 ((rd_T25 l0 x17_1).f1.f2)] 25 (0, 0)) (kkC BK171.out) hb; replace HB := bS HB hb; (try clear hb); (try clear hb2); (try clear hk); (try clear hi)) | ((with_reducible refine gate_builtin (b := .append) (xs := #[.tmp 34, .tmp 36]) rfl ?_); at_builtin; refine Kd.R_append (Kd.int .i64) (w0 := w) w.heap.size rfl (.tmp 34) (.tmp 36) 69 3 (.int .i64 0) 8 rfl Try.underlying69 info3 rfl (by decide) (by omega) u9 x9_1 t175 [.int .i64 t175] (fun _ => True) (fun _ => False) rfl rfl ?aP (fun _ hk => hk.elim) ?aF ?aO ?aB ?aS ?aL ?_; (case aP => exact rfl); (case aB => exact (fW HB.out)); (case aF => exact (fun _ _ => trivial)); (case aO => exact (fR HO_9.out)); (case aS => exact (below_size (fW HB.out))); (case aL => have := LMc28.out; omega); intro v182 w32 ho hb hg hat; rw [← Ny181.out] at ho; replace BK171 := am (blk_grown (g := gb171) (o := .cells #[.int .i64 ((rd_T25 l0 x17_1).f0.f0), .int .i64 ((rd_T25 l0 x17_1).f0.f1), .int .i64 ((rd_T25 l0 x17_1).f0.f2), .int .i64 ((rd_T25 l0 x17_1).f1.f0), .int .i64 ((rd_T25 l0 x17_1).f1.f1), .int .i64 ((rd_T25 l0 x17_1).f1.f2)] 25 (0, 0)) (fb BK171.out) hg (Kd.R_ne HO_9.out BK171.out (by decide))); replace HB := am (hb); have HO183 := am (ho); clear HO_9 ho hb hg hat))
      go_roundg k1
      case measure => have := HK1.out; omega
      case rel => exact ⟨(y181), (wrap64 (x17_1 + 1)), sqD, H', ⟨by have := HK1.out; omega⟩, ⟨fR HO183.out⟩, ⟨fW HB.out⟩⟩
     rw [if_neg c27] at H
     have c27b0 : decide (t175 < a3) = false := decide_eq_false c27
     clear c27
     have H' := am H
     clear H
     have p170 : 0 ≤ (x17_1 : Int) := of_decide_eq_true (by assumption)
     have q170 : x17_1 < (l0.length : Int) := of_decide_eq_true (by assumption)
     obtain ⟨ad170, e170, hx170_0, hx170_1, hx170_2, hx170_3, hx170_4, hx170_5⟩ := at_T25 HR0.out x17_1 p170 q170
     cases e170
     replace hx170_0 := cl HB hx170_0
     replace hx170_1 := cl HB hx170_1
     replace hx170_2 := cl HB hx170_2
     replace hx170_3 := cl HB hx170_3
     replace hx170_4 := cl HB hx170_4
     replace hx170_5 := cl HB hx170_5
     replace p170 := eq_true p170
     replace q170 := eq_true q170
     go_wp2_with (first | ((with_reducible refine gd (N := 11) rfl ?_); refine be ?hg (N := 11) ?hd (cs := #[.int .i64 0, .int .i64 0, .int .i64 0, .int .i64 0, .int .i64 0, .int .i64 0]) (t := 25) ?hr ?_; (case hd | hg => rfl); (case hr => first | (go_simp; done) | (go_simp; rfl)); intro gb171 hg w33 hbox hb; replace HO_9 := dR HO_9 hb; have BK171 := am hbox; have GW171 := sG HB hg; have GE171 := sG HB hg; replace HB := bS HB hb; clear hb hbox hg; obtain ⟨_, _, _, _, _, _, _, _, _, _, _, _⟩ := zC6 BK171) | ((with_reducible refine gc (f := 52) rfl ?_); refine goesL_ (some 22) rfl rfl Try.func52 (by kernel_rfl) rfl #[.agg #[.int .i64 ((rd_T25 l0 x17_1).f0.f0), .int .i64 ((rd_T25 l0 x17_1).f0.f1), .int .i64 ((rd_T25 l0 x17_1).f0.f2), .int .i64 ((rd_T25 l0 x17_1).f1.f0), .int .i64 ((rd_T25 l0 x17_1).f1.f1), .int .i64 ((rd_T25 l0 x17_1).f1.f2)]] rfl (by (try simp only [pml]); first | done | rfl | (simp only [pdt]; rfl)) ?_; (with_reducible refine (box_sides.calls ((rd_T25 l0 x17_1).f0.f0) ((rd_T25 l0 x17_1).f0.f1) ((rd_T25 l0 x17_1).f0.f2) ((rd_T25 l0 x17_1).f1.f0) ((rd_T25 l0 x17_1).f1.f1) ((rd_T25 l0 x17_1).f1.f2) t172 t173 t174 t175 t176 t177 _ A10.out).mono ?_); rintro e w35 ⟨rfl, hb⟩; refine ⟨_, rfl, ?_⟩; replace HO_9 := am (Kd.R_below (by (with_reducible repeat (first | apply Kd.R_alloc | apply Kd.R_drewN | apply Kd.R_drew)); exact (Kd.R_mono (Kd.R_far (p := ⟨gb171, 5, none⟩) (Kd.R_far (p := ⟨gb171, 4, none⟩) (Kd.R_far (p := ⟨gb171, 3, none⟩) (Kd.R_far (p := ⟨gb171, 2, none⟩) (Kd.R_far (p := ⟨gb171, 1, none⟩) (Kd.R_far (p := ⟨gb171, 0, none⟩) (Kd.R_types HO_9.out BK171.out (by decide)) (fun _ hk => hk.2) (.int .i64 ((rd_T25 l0 x17_1).f0.f0))) (fun _ hk => hk.2) (.int .i64 ((rd_T25 l0 x17_1).f0.f1))) (fun _ hk => hk.2) (.int .i64 ((rd_T25 l0 x17_1).f0.f2))) (fun _ hk => hk.2) (.int .i64 ((rd_T25 l0 x17_1).f1.f0))) (fun _ hk => hk.2) (.int .i64 ((rd_T25 l0 x17_1).f1.f1))) (fun _ hk => hk.2) (.int .i64 ((rd_T25 l0 x17_1).f1.f2))) (fun _ h_ => h_.1))) hb); replace BK171 := xC1 (o := .cells #[.int .i64 ((rd_T25 l0 x17_1).f0.f0), .int .i64 ((rd_T25 l0 x17_1).f0.f1), .int .i64 ((rd_T25 l0 x17_1).f0.f2), .int .i64 ((rd_T25 l0 x17_1).f1.f0), .int .i64 ((rd_T25 l0 x17_1).f1.f1), .int .i64 ((rd_T25 l0 x17_1).f1.f2)] 25 (0, 0)) (kkC BK171.out) hb; replace HB := bS HB hb; (try clear hb); (try clear hb2); (try clear hk); (try clear hi)))
     go_roundg k1
     case measure => have := HK1.out; omega
     case rel => exact ⟨(x9_1), (wrap64 (x17_1 + 1)), sqD, H', ⟨by have := HK1.out; omega⟩, ⟨fR HO_9.out⟩, ⟨fW HB.out⟩⟩
    rw [if_neg c25] at H
    have c25b0 : (a1 == 1) = false := beq_eq_false_iff_ne.mpr c25
    have c25b1 : (a1 != 1) = true := bne_iff_ne.mpr c25
    by_cases c39 : a1 = 2
    rotate_left
    ·rw [if_neg c39] at H
     exact absurd H (by simp)
    rw [if_pos c39] at H
    have c39b0 : (a1 == 2) = true := beq_iff_eq.mpr c39
    have c39b1 : (a1 != 2) = false := bne_eq_false_iff_eq.mpr c39
    have c39ix : ∀ (T_ : TypeId) (x_ : Value) (W_ : World), Sem.run Try.prog (Instr.index T_ x_ (Value.int IntKind.i64 a1)) W_ = Sem.run Try.prog (Instr.index T_ x_ (Value.int IntKind.i64 2)) W_ := by rw [c39]; intros; rfl
    have c39iy : ∀ (T_ : TypeId) (x_ : Value) (W_ : World), Sem.run Try.prog (Instr.indexAt T_ x_ (Value.int IntKind.i64 a1)) W_ = Sem.run Try.prog (Instr.indexAt T_ x_ (Value.int IntKind.i64 2)) W_ := by rw [c39]; intros; rfl
    clear c39
    by_cases c40 : t177 > a2
    rotate_left
    ·rw [if_neg c40] at H
     have c40b0 : decide (a2 < t177) = false := decide_eq_false c40
     clear c40
     have H' := am H
     clear H
     have p170 : 0 ≤ (x17_1 : Int) := of_decide_eq_true (by assumption)
     have q170 : x17_1 < (l0.length : Int) := of_decide_eq_true (by assumption)
     obtain ⟨ad170, e170, hx170_0, hx170_1, hx170_2, hx170_3, hx170_4, hx170_5⟩ := at_T25 HR0.out x17_1 p170 q170
     cases e170
     replace hx170_0 := cl HB hx170_0
     replace hx170_1 := cl HB hx170_1
     replace hx170_2 := cl HB hx170_2
     replace hx170_3 := cl HB hx170_3
     replace hx170_4 := cl HB hx170_4
     replace hx170_5 := cl HB hx170_5
     replace p170 := eq_true p170
     replace q170 := eq_true q170
     go_wp2_with (first | ((with_reducible refine gd (N := 11) rfl ?_); refine be ?hg (N := 11) ?hd (cs := #[.int .i64 0, .int .i64 0, .int .i64 0, .int .i64 0, .int .i64 0, .int .i64 0]) (t := 25) ?hr ?_; (case hd | hg => rfl); (case hr => first | (go_simp; done) | (go_simp; rfl)); intro gb171 hg w50 hbox hb; replace HO_9 := dR HO_9 hb; have BK171 := am hbox; have GW171 := sG HB hg; have GE171 := sG HB hg; replace HB := bS HB hb; clear hb hbox hg; obtain ⟨_, _, _, _, _, _, _, _, _, _, _, _⟩ := zC6 BK171) | ((with_reducible refine gc (f := 52) rfl ?_); refine goesL_ (some 22) rfl rfl Try.func52 (by kernel_rfl) rfl #[.agg #[.int .i64 ((rd_T25 l0 x17_1).f0.f0), .int .i64 ((rd_T25 l0 x17_1).f0.f1), .int .i64 ((rd_T25 l0 x17_1).f0.f2), .int .i64 ((rd_T25 l0 x17_1).f1.f0), .int .i64 ((rd_T25 l0 x17_1).f1.f1), .int .i64 ((rd_T25 l0 x17_1).f1.f2)]] rfl (by (try simp only [pml]); first | done | rfl | (simp only [pdt]; rfl)) ?_; (with_reducible refine (box_sides.calls ((rd_T25 l0 x17_1).f0.f0) ((rd_T25 l0 x17_1).f0.f1) ((rd_T25 l0 x17_1).f0.f2) ((rd_T25 l0 x17_1).f1.f0) ((rd_T25 l0 x17_1).f1.f1) ((rd_T25 l0 x17_1).f1.f2) t172 t173 t174 t175 t176 t177 _ A10.out).mono ?_); rintro e w52 ⟨rfl, hb⟩; refine ⟨_, rfl, ?_⟩; replace HO_9 := am (Kd.R_below (by (with_reducible repeat (first | apply Kd.R_alloc | apply Kd.R_drewN | apply Kd.R_drew)); exact (Kd.R_mono (Kd.R_far (p := ⟨gb171, 5, none⟩) (Kd.R_far (p := ⟨gb171, 4, none⟩) (Kd.R_far (p := ⟨gb171, 3, none⟩) (Kd.R_far (p := ⟨gb171, 2, none⟩) (Kd.R_far (p := ⟨gb171, 1, none⟩) (Kd.R_far (p := ⟨gb171, 0, none⟩) (Kd.R_types HO_9.out BK171.out (by decide)) (fun _ hk => hk.2) (.int .i64 ((rd_T25 l0 x17_1).f0.f0))) (fun _ hk => hk.2) (.int .i64 ((rd_T25 l0 x17_1).f0.f1))) (fun _ hk => hk.2) (.int .i64 ((rd_T25 l0 x17_1).f0.f2))) (fun _ hk => hk.2) (.int .i64 ((rd_T25 l0 x17_1).f1.f0))) (fun _ hk => hk.2) (.int .i64 ((rd_T25 l0 x17_1).f1.f1))) (fun _ hk => hk.2) (.int .i64 ((rd_T25 l0 x17_1).f1.f2))) (fun _ h_ => h_.1))) hb); replace BK171 := xC1 (o := .cells #[.int .i64 ((rd_T25 l0 x17_1).f0.f0), .int .i64 ((rd_T25 l0 x17_1).f0.f1), .int .i64 ((rd_T25 l0 x17_1).f0.f2), .int .i64 ((rd_T25 l0 x17_1).f1.f0), .int .i64 ((rd_T25 l0 x17_1).f1.f1), .int .i64 ((rd_T25 l0 x17_1).f1.f2)] 25 (0, 0)) (kkC BK171.out) hb; replace HB := bS HB hb; (try clear hb); (try clear hb2); (try clear hk); (try clear hi)))
     go_roundg k1
     case measure => have := HK1.out; omega
     case rel => exact ⟨(x9_1), (wrap64 (x17_1 + 1)), sqD, H', ⟨by have := HK1.out; omega⟩, ⟨fR HO_9.out⟩, ⟨fW HB.out⟩⟩
    rw [if_pos c40] at H
    have c40b0 : decide (a2 < t177) = true := decide_eq_true c40
    clear c40
    by_cases c41 : t177 < a3
    ·rw [if_pos c41] at H
     have c41b0 : decide (t177 < a3) = true := decide_eq_true c41
     clear c41
     by_cases c42 : x9_1.length < 17592186044416
     rotate_left
     ·rw [if_neg c42] at H
      exact absurd H (by simp)
     rw [if_pos c42] at H
     have LMc42 := am c42
     clear c42
     obtain ⟨y184, hy184⟩ : ∃ y_ : List Int, y_ = (x9_1 ++ [t177]) := ⟨_, rfl⟩
     replace H : (box_ends.l0 k1 a1 a2 a3 y184 l0 (l0.length : Int) (wrap64 (x17_1 + 1))) = some r := by first | (rw [hy184]; with_reducible exact H) | (have H2_ := (Option.bind_some _ _).symm.trans H; rw [hy184]; with_reducible exact H2_) | (have H2_ := (Option.bind_some _ _).symm.trans H; with_reducible exact H2_) | with_reducible exact H | (rw [hy184]; exact H) | exact H
     have Ny184 := am hy184
     clear hy184
     have H' := am H
     clear H
     have p170 : 0 ≤ (x17_1 : Int) := of_decide_eq_true (by assumption)
     have q170 : x17_1 < (l0.length : Int) := of_decide_eq_true (by assumption)
     obtain ⟨ad170, e170, hx170_0, hx170_1, hx170_2, hx170_3, hx170_4, hx170_5⟩ := at_T25 HR0.out x17_1 p170 q170
     cases e170
     replace hx170_0 := cl HB hx170_0
     replace hx170_1 := cl HB hx170_1
     replace hx170_2 := cl HB hx170_2
     replace hx170_3 := cl HB hx170_3
     replace hx170_4 := cl HB hx170_4
     replace hx170_5 := cl HB hx170_5
     replace p170 := eq_true p170
     replace q170 := eq_true q170
     go_wp2_with (first | ((with_reducible refine gd (N := 11) rfl ?_); refine be ?hg (N := 11) ?hd (cs := #[.int .i64 0, .int .i64 0, .int .i64 0, .int .i64 0, .int .i64 0, .int .i64 0]) (t := 25) ?hr ?_; (case hd | hg => rfl); (case hr => first | (go_simp; done) | (go_simp; rfl)); intro gb171 hg w43 hbox hb; replace HO_9 := dR HO_9 hb; have BK171 := am hbox; have GW171 := sG HB hg; have GE171 := sG HB hg; replace HB := bS HB hb; clear hb hbox hg; obtain ⟨_, _, _, _, _, _, _, _, _, _, _, _⟩ := zC6 BK171) | ((with_reducible refine gc (f := 52) rfl ?_); refine goesL_ (some 22) rfl rfl Try.func52 (by kernel_rfl) rfl #[.agg #[.int .i64 ((rd_T25 l0 x17_1).f0.f0), .int .i64 ((rd_T25 l0 x17_1).f0.f1), .int .i64 ((rd_T25 l0 x17_1).f0.f2), .int .i64 ((rd_T25 l0 x17_1).f1.f0), .int .i64 ((rd_T25 l0 x17_1).f1.f1), .int .i64 ((rd_T25 l0 x17_1).f1.f2)]] rfl (by (try simp only [pml]); first | done | rfl | (simp only [pdt]; rfl)) ?_; (with_reducible refine (box_sides.calls ((rd_T25 l0 x17_1).f0.f0) ((rd_T25 l0 x17_1).f0.f1) ((rd_T25 l0 x17_1).f0.f2) ((rd_T25 l0 x17_1).f1.f0) ((rd_T25 l0 x17_1).f1.f1) ((rd_T25 l0 x17_1).f1.f2) t172 t173 t174 t175 t176 t177 _ A10.out).mono ?_); rintro e w45 ⟨rfl, hb⟩; refine ⟨_, rfl, ?_⟩; replace HO_9 := am (Kd.R_below (by (with_reducible repeat (first | apply Kd.R_alloc | apply Kd.R_drewN | apply Kd.R_drew)); exact (Kd.R_mono (Kd.R_far (p := ⟨gb171, 5, none⟩) (Kd.R_far (p := ⟨gb171, 4, none⟩) (Kd.R_far (p := ⟨gb171, 3, none⟩) (Kd.R_far (p := ⟨gb171, 2, none⟩) (Kd.R_far (p := ⟨gb171, 1, none⟩) (Kd.R_far (p := ⟨gb171, 0, none⟩) (Kd.R_types HO_9.out BK171.out (by decide)) (fun _ hk => hk.2) (.int .i64 ((rd_T25 l0 x17_1).f0.f0))) (fun _ hk => hk.2) (.int .i64 ((rd_T25 l0 x17_1).f0.f1))) (fun _ hk => hk.2) (.int .i64 ((rd_T25 l0 x17_1).f0.f2))) (fun _ hk => hk.2) (.int .i64 ((rd_T25 l0 x17_1).f1.f0))) (fun _ hk => hk.2) (.int .i64 ((rd_T25 l0 x17_1).f1.f1))) (fun _ hk => hk.2) (.int .i64 ((rd_T25 l0 x17_1).f1.f2))) (fun _ h_ => h_.1))) hb); replace BK171 := xC1 (o := .cells #[.int .i64 ((rd_T25 l0 x17_1).f0.f0), .int .i64 ((rd_T25 l0 x17_1).f0.f1), .int .i64 ((rd_T25 l0 x17_1).f0.f2), .int .i64 ((rd_T25 l0 x17_1).f1.f0), .int .i64 ((rd_T25 l0 x17_1).f1.f1), .int .i64 ((rd_T25 l0 x17_1).f1.f2)] 25 (0, 0)) (kkC BK171.out) hb; replace HB := bS HB hb; (try clear hb); (try clear hb2); (try clear hk); (try clear hi)) | ((with_reducible refine gate_builtin (b := .append) (xs := #[.tmp 34, .tmp 36]) rfl ?_); at_builtin; refine Kd.R_append (Kd.int .i64) (w0 := w) w.heap.size rfl (.tmp 34) (.tmp 36) 69 3 (.int .i64 0) 8 rfl Try.underlying69 info3 rfl (by decide) (by omega) u9 x9_1 t177 [.int .i64 t177] (fun _ => True) (fun _ => False) rfl rfl ?aP (fun _ hk => hk.elim) ?aF ?aO ?aB ?aS ?aL ?_; (case aP => exact rfl); (case aB => exact (fW HB.out)); (case aF => exact (fun _ _ => trivial)); (case aO => exact (fR HO_9.out)); (case aS => exact (below_size (fW HB.out))); (case aL => have := LMc42.out; omega); intro v185 w46 ho hb hg hat; rw [← Ny184.out] at ho; replace BK171 := am (blk_grown (g := gb171) (o := .cells #[.int .i64 ((rd_T25 l0 x17_1).f0.f0), .int .i64 ((rd_T25 l0 x17_1).f0.f1), .int .i64 ((rd_T25 l0 x17_1).f0.f2), .int .i64 ((rd_T25 l0 x17_1).f1.f0), .int .i64 ((rd_T25 l0 x17_1).f1.f1), .int .i64 ((rd_T25 l0 x17_1).f1.f2)] 25 (0, 0)) (fb BK171.out) hg (Kd.R_ne HO_9.out BK171.out (by decide))); replace HB := am (hb); have HO186 := am (ho); clear HO_9 ho hb hg hat))
     go_roundg k1
     case measure => have := HK1.out; omega
     case rel => exact ⟨(y184), (wrap64 (x17_1 + 1)), sqD, H', ⟨by have := HK1.out; omega⟩, ⟨fR HO186.out⟩, ⟨fW HB.out⟩⟩
    rw [if_neg c41] at H
    have c41b0 : decide (t177 < a3) = false := decide_eq_false c41
    clear c41
    have H' := am H
    clear H
    have p170 : 0 ≤ (x17_1 : Int) := of_decide_eq_true (by assumption)
    have q170 : x17_1 < (l0.length : Int) := of_decide_eq_true (by assumption)
    obtain ⟨ad170, e170, hx170_0, hx170_1, hx170_2, hx170_3, hx170_4, hx170_5⟩ := at_T25 HR0.out x17_1 p170 q170
    cases e170
    replace hx170_0 := cl HB hx170_0
    replace hx170_1 := cl HB hx170_1
    replace hx170_2 := cl HB hx170_2
    replace hx170_3 := cl HB hx170_3
    replace hx170_4 := cl HB hx170_4
    replace hx170_5 := cl HB hx170_5
    replace p170 := eq_true p170
    replace q170 := eq_true q170
    go_wp2_with (first | ((with_reducible refine gd (N := 11) rfl ?_); refine be ?hg (N := 11) ?hd (cs := #[.int .i64 0, .int .i64 0, .int .i64 0, .int .i64 0, .int .i64 0, .int .i64 0]) (t := 25) ?hr ?_; (case hd | hg => rfl); (case hr => first | (go_simp; done) | (go_simp; rfl)); intro gb171 hg w47 hbox hb; replace HO_9 := dR HO_9 hb; have BK171 := am hbox; have GW171 := sG HB hg; have GE171 := sG HB hg; replace HB := bS HB hb; clear hb hbox hg; obtain ⟨_, _, _, _, _, _, _, _, _, _, _, _⟩ := zC6 BK171) | ((with_reducible refine gc (f := 52) rfl ?_); refine goesL_ (some 22) rfl rfl Try.func52 (by kernel_rfl) rfl #[.agg #[.int .i64 ((rd_T25 l0 x17_1).f0.f0), .int .i64 ((rd_T25 l0 x17_1).f0.f1), .int .i64 ((rd_T25 l0 x17_1).f0.f2), .int .i64 ((rd_T25 l0 x17_1).f1.f0), .int .i64 ((rd_T25 l0 x17_1).f1.f1), .int .i64 ((rd_T25 l0 x17_1).f1.f2)]] rfl (by (try simp only [pml]); first | done | rfl | (simp only [pdt]; rfl)) ?_; (with_reducible refine (box_sides.calls ((rd_T25 l0 x17_1).f0.f0) ((rd_T25 l0 x17_1).f0.f1) ((rd_T25 l0 x17_1).f0.f2) ((rd_T25 l0 x17_1).f1.f0) ((rd_T25 l0 x17_1).f1.f1) ((rd_T25 l0 x17_1).f1.f2) t172 t173 t174 t175 t176 t177 _ A10.out).mono ?_); rintro e w49 ⟨rfl, hb⟩; refine ⟨_, rfl, ?_⟩; replace HO_9 := am (Kd.R_below (by (with_reducible repeat (first | apply Kd.R_alloc | apply Kd.R_drewN | apply Kd.R_drew)); exact (Kd.R_mono (Kd.R_far (p := ⟨gb171, 5, none⟩) (Kd.R_far (p := ⟨gb171, 4, none⟩) (Kd.R_far (p := ⟨gb171, 3, none⟩) (Kd.R_far (p := ⟨gb171, 2, none⟩) (Kd.R_far (p := ⟨gb171, 1, none⟩) (Kd.R_far (p := ⟨gb171, 0, none⟩) (Kd.R_types HO_9.out BK171.out (by decide)) (fun _ hk => hk.2) (.int .i64 ((rd_T25 l0 x17_1).f0.f0))) (fun _ hk => hk.2) (.int .i64 ((rd_T25 l0 x17_1).f0.f1))) (fun _ hk => hk.2) (.int .i64 ((rd_T25 l0 x17_1).f0.f2))) (fun _ hk => hk.2) (.int .i64 ((rd_T25 l0 x17_1).f1.f0))) (fun _ hk => hk.2) (.int .i64 ((rd_T25 l0 x17_1).f1.f1))) (fun _ hk => hk.2) (.int .i64 ((rd_T25 l0 x17_1).f1.f2))) (fun _ h_ => h_.1))) hb); replace BK171 := xC1 (o := .cells #[.int .i64 ((rd_T25 l0 x17_1).f0.f0), .int .i64 ((rd_T25 l0 x17_1).f0.f1), .int .i64 ((rd_T25 l0 x17_1).f0.f2), .int .i64 ((rd_T25 l0 x17_1).f1.f0), .int .i64 ((rd_T25 l0 x17_1).f1.f1), .int .i64 ((rd_T25 l0 x17_1).f1.f2)] 25 (0, 0)) (kkC BK171.out) hb; replace HB := bS HB hb; (try clear hb); (try clear hb2); (try clear hk); (try clear hi)))
    go_roundg k1
    case measure => have := HK1.out; omega
    case rel => exact ⟨(x9_1), (wrap64 (x17_1 + 1)), sqD, H', ⟨by have := HK1.out; omega⟩, ⟨fR HO_9.out⟩, ⟨fW HB.out⟩⟩
   ·rw [if_neg c7] at H
    have c7b0 : decide (x17_1 < (l0.length : Int)) = false := decide_eq_false c7
    clear c7
    replace H := Option.bind_eq_some_iff.mp H
    obtain ⟨t187, A530, H⟩ := H
    replace H : ((slices_Compact_int_int.f t187).bind fun t188 => (some t188)) = some r := H
    have A53 := am A530
    clear A530
    replace H := Option.bind_eq_some_iff.mp H
    obtain ⟨t188, A540, H⟩ := H
    replace H : (some t188) = some r := H
    have A54 := am A540
    clear A540
    obtain rfl := Option.some.inj H
    obtain ⟨Ao55, co55, eo55⟩ := Kd.R_slice HO_9.out
    subst eo55
    go_wp2_with (first | ((with_reducible refine gc (f := 67) rfl ?_); refine goesL_ (some 40) rfl rfl Try.func67 (by kernel_rfl) rfl #[.slice Ao55 x9_1.length co55] rfl (by (try simp only [pml]); first | done | rfl | (simp only [pdt]; rfl)) ?_; (with_reducible refine (slices_Sort_int_int.calls (fun k_ => some k_ = (.slice Ao55 x9_1.length co55 : Value).ownBlock) (.slice Ao55 x9_1.length co55) x9_1 t187 w _ ?side1 ?side2 A53.out).mono ?_); (case side1 => repeat (first | (with_reducible first | exact HB.out | apply below_alloc | apply pw_below_drewN | apply below_drew1) | exact HB.out)); (case side2 => exact Kd.R_tight rfl HO_9.out); rintro e w56 ⟨rfl, hy0, hb, hkp⟩; refine ⟨_, rfl, ?_⟩; replace HO_9 := am (Kd.R_reok rfl hy0 (fun k_ e_ => HO_9.out.1 k_ e_)); replace HB := am (hb); (try clear hb); (try clear hkp); (try clear hy0)) | ((with_reducible refine gc (f := 68) rfl ?_); refine goesL_ (some 42) rfl rfl Try.func68 (by kernel_rfl) rfl #[.slice Ao55 x9_1.length co55] rfl (by (try simp only [pml]); first | done | rfl | (simp only [pdt]; rfl)) ?_; (with_reducible refine (slices_Compact_int_int.calls (fun k_ => some k_ = (.slice Ao55 x9_1.length co55 : Value).ownBlock) (.slice Ao55 x9_1.length co55) t187 t188 w _ ?side1 ?side2 A54.out).mono ?_); (case side1 => repeat (first | (with_reducible first | exact HB.out | apply below_alloc | apply pw_below_drewN | apply below_drew1) | exact HB.out)); (case side2 => exact Kd.R_tight rfl HO_9.out); rintro e w57 ⟨v189, rfl, ho0, hb, hkp⟩; refine ⟨_, rfl, ?_⟩; have HO190 := am (Kd.R_mono (ok' := fun k_ => True) ho0 (fun k_ hk_ => trivial)); replace HB := am (hb); clear HO_9; (try clear hb); (try clear hkp); (try clear ho0)))
    go_ret
    exact ⟨_, sqE, fR HO190.out, fW HB.out⟩

def box_at.l0 : Nat → Int → Int → List (S25) → List (S25) → Int → Int → Option ((List (S25)))
 | 0, _, _, _, _, _, _ => none
 | k + 1, x1, x2, x7, x11, x12, x13 => if x13 < x12 then (if 0 ≤ x13 then (if x13 < (x11.length : Int) then ((box_sides.f ((rd_T25 x11 x13).f0.f0) ((rd_T25 x11 x13).f0.f1) ((rd_T25 x11 x13).f0.f2) ((rd_T25 x11 x13).f1.f0) ((rd_T25 x11 x13).f1.f1) ((rd_T25 x11 x13).f1.f2)).bind fun bt193 => (if x1 = 0 then (if bt193.1 ≤ x2 then (if x2 < bt193.2.1 then (if x7.length < 2932031007402 then (box_at.l0 k x1 x2 (x7 ++ [(⟨(⟨(rd_T25 x11 x13).f0.f0, (rd_T25 x11 x13).f0.f1, (rd_T25 x11 x13).f0.f2⟩ : S23), (⟨(rd_T25 x11 x13).f1.f0, (rd_T25 x11 x13).f1.f1, (rd_T25 x11 x13).f1.f2⟩ : S23)⟩ : S25)]) x11 x12 (wrap64 (x13 + 1))) else (none)) else (box_at.l0 k x1 x2 x7 x11 x12 (wrap64 (x13 + 1)))) else (box_at.l0 k x1 x2 x7 x11 x12 (wrap64 (x13 + 1)))) else (if x1 = 1 then (if bt193.2.2.1 ≤ x2 then (if x2 < bt193.2.2.2.1 then (if x7.length < 2932031007402 then (box_at.l0 k x1 x2 (x7 ++ [(⟨(⟨(rd_T25 x11 x13).f0.f0, (rd_T25 x11 x13).f0.f1, (rd_T25 x11 x13).f0.f2⟩ : S23), (⟨(rd_T25 x11 x13).f1.f0, (rd_T25 x11 x13).f1.f1, (rd_T25 x11 x13).f1.f2⟩ : S23)⟩ : S25)]) x11 x12 (wrap64 (x13 + 1))) else (none)) else (box_at.l0 k x1 x2 x7 x11 x12 (wrap64 (x13 + 1)))) else (box_at.l0 k x1 x2 x7 x11 x12 (wrap64 (x13 + 1)))) else (if x1 = 2 then (if bt193.2.2.2.2.1 ≤ x2 then (if x2 < bt193.2.2.2.2.2 then (if x7.length < 2932031007402 then (box_at.l0 k x1 x2 (x7 ++ [(⟨(⟨(rd_T25 x11 x13).f0.f0, (rd_T25 x11 x13).f0.f1, (rd_T25 x11 x13).f0.f2⟩ : S23), (⟨(rd_T25 x11 x13).f1.f0, (rd_T25 x11 x13).f1.f1, (rd_T25 x11 x13).f1.f2⟩ : S23)⟩ : S25)]) x11 x12 (wrap64 (x13 + 1))) else (none)) else (box_at.l0 k x1 x2 x7 x11 x12 (wrap64 (x13 + 1)))) else (box_at.l0 k x1 x2 x7 x11 x12 (wrap64 (x13 + 1)))) else (none))))) else (none)) else (none)) else (some x7)
def box_at.f (k : Nat) (l0 : List (S25)) (a1 : Int) (a2 : Int) : Option ((List (S25))) := box_at.l0 k a1 a2 ([] : List (S25)) l0 (l0.length : Int) 0
set_option maxHeartbeats 8000000 in
set_option maxRecDepth 100000 in
theorem box_at.calls (k : Nat) (A0 : Option Addr) (c0 : Nat) (l0 : List (S25)) (a1 : Int) (a2 : Int) (r : List (S25)) (w : World) (hr0 : Kd.C k25 w A0 l0.length l0) (hc0 : l0.length ≤ c0) (h : box_at.f k l0 a1 a2 = some r) :
  Calls Try.prog 50 #[.slice A0 l0.length c0, .int .i64 a1, .int .i64 a2] w fun e w' => ∃ v0_ : Value, e = .returned (v0_) ∧ Kd.R k25 25 w' w.heap.size (fun _ => True) v0_ r ∧ Below w.heap.size w w' := by
 have hu25 := Try.underlying25
 have hu73 := Try.underlying73
 have hu72 := Try.underlying72
 have hix73_0 : ∀ (e0_ e1_ e2_ e3_ e4_ e5_ : Value) (W_ : World), Sem.run Try.prog (Instr.index 73 (.agg #[e0_, e1_, e2_, e3_, e4_, e5_]) (.int .i64 0)) W_ = .ok (.agg #[e0_, e1_]) W_ := fun _ _ _ _ _ _ _  => by kernel_rfl
 have hix73_1 : ∀ (e0_ e1_ e2_ e3_ e4_ e5_ : Value) (W_ : World), Sem.run Try.prog (Instr.index 73 (.agg #[e0_, e1_, e2_, e3_, e4_, e5_]) (.int .i64 1)) W_ = .ok (.agg #[e2_, e3_]) W_ := fun _ _ _ _ _ _ _  => by kernel_rfl
 have hix73_2 : ∀ (e0_ e1_ e2_ e3_ e4_ e5_ : Value) (W_ : World), Sem.run Try.prog (Instr.index 73 (.agg #[e0_, e1_, e2_, e3_, e4_, e5_]) (.int .i64 2)) W_ = .ok (.agg #[e4_, e5_]) W_ := fun _ _ _ _ _ _ _  => by kernel_rfl
 have HR0 := am hr0
 have HC0 := am hc0
 clear hr0 hc0
 have HB := am (Below.refl w.heap.size w)
 have H : (box_at.l0 k a1 a2 ([] : List (S25)) l0 (l0.length : Int) 0) = some r := h
 clear h
 have H' := am H
 clear H
 go_enter Try.func50, Try.ntmps50
 go_wp2
 go_loopg [7, 13] k (fun kq v7 v13 w' => ∃ (x7_1 : List (S25)) (x13_1 : Int), v13 = .int .i64 x13_1 ∧ Aside0 (box_at.l0 kq a1 a2 x7_1 l0 (l0.length : Int) x13_1 = some r) ∧ Aside0 (kq ≤ k) ∧ Aside0 (Kd.R k25 25 w' w.heap.size (fun _ => True) v7 x7_1) ∧ Aside0 (Below w.heap.size w w'))
 case atStart => exact ⟨(([] : List (S25))), (0), sqD, H', ⟨Nat.le_refl _⟩, ⟨by first | exact Kd.R_nil _ _ _ _ _ | exact Kd.N_nil _ _ _ _ _ | exact Kd.V_nil _ _ _ _ _ | exact Kd.Q_nil _ _ _ _ _ | exact Kd.S_nil _ _ _ _ _⟩, ⟨fW HB.out⟩⟩
 case round =>
  clear H'
  try clear p2
  obtain ⟨x7_1, x13_1, rfl, HA, HK1, HO_7, HB⟩ := hrel
  cases gk with
  | zero => exact absurd HA.out (by simp [box_at.l0])
  | succ k1 =>
   have H := HA.out
   clear HA
   simp only [box_at.l0] at H
   by_cases c4 : x13_1 < (l0.length : Int)
   ·rw [if_pos c4] at H
    have c4b0 : decide (x13_1 < (l0.length : Int)) = true := decide_eq_true c4
    clear c4
    by_cases c5 : 0 ≤ x13_1
    rotate_left
    ·rw [if_neg c5] at H
     exact absurd H (by simp)
    rw [if_pos c5] at H
    have c5b0 : decide (0 ≤ x13_1) = true := decide_eq_true c5
    clear c5
    by_cases c6 : x13_1 < (l0.length : Int)
    rotate_left
    ·rw [if_neg c6] at H
     exact absurd H (by simp)
    rw [if_pos c6] at H
    have c6b0 : decide (x13_1 < (l0.length : Int)) = true := decide_eq_true c6
    clear c6
    replace H := Option.bind_eq_some_iff.mp H
    obtain ⟨⟨t193, t194, t195, t196, t197, t198⟩, A70, H⟩ := H
    replace H : (if a1 = 0 then (if t193 ≤ a2 then (if a2 < t194 then (if x7_1.length < 2932031007402 then (box_at.l0 k1 a1 a2 (x7_1 ++ [(⟨(⟨(rd_T25 l0 x13_1).f0.f0, (rd_T25 l0 x13_1).f0.f1, (rd_T25 l0 x13_1).f0.f2⟩ : S23), (⟨(rd_T25 l0 x13_1).f1.f0, (rd_T25 l0 x13_1).f1.f1, (rd_T25 l0 x13_1).f1.f2⟩ : S23)⟩ : S25)]) l0 (l0.length : Int) (wrap64 (x13_1 + 1))) else (none)) else (box_at.l0 k1 a1 a2 x7_1 l0 (l0.length : Int) (wrap64 (x13_1 + 1)))) else (box_at.l0 k1 a1 a2 x7_1 l0 (l0.length : Int) (wrap64 (x13_1 + 1)))) else (if a1 = 1 then (if t195 ≤ a2 then (if a2 < t196 then (if x7_1.length < 2932031007402 then (box_at.l0 k1 a1 a2 (x7_1 ++ [(⟨(⟨(rd_T25 l0 x13_1).f0.f0, (rd_T25 l0 x13_1).f0.f1, (rd_T25 l0 x13_1).f0.f2⟩ : S23), (⟨(rd_T25 l0 x13_1).f1.f0, (rd_T25 l0 x13_1).f1.f1, (rd_T25 l0 x13_1).f1.f2⟩ : S23)⟩ : S25)]) l0 (l0.length : Int) (wrap64 (x13_1 + 1))) else (none)) else (box_at.l0 k1 a1 a2 x7_1 l0 (l0.length : Int) (wrap64 (x13_1 + 1)))) else (box_at.l0 k1 a1 a2 x7_1 l0 (l0.length : Int) (wrap64 (x13_1 + 1)))) else (if a1 = 2 then (if t197 ≤ a2 then (if a2 < t198 then (if x7_1.length < 2932031007402 then (box_at.l0 k1 a1 a2 (x7_1 ++ [(⟨(⟨(rd_T25 l0 x13_1).f0.f0, (rd_T25 l0 x13_1).f0.f1, (rd_T25 l0 x13_1).f0.f2⟩ : S23), (⟨(rd_T25 l0 x13_1).f1.f0, (rd_T25 l0 x13_1).f1.f1, (rd_T25 l0 x13_1).f1.f2⟩ : S23)⟩ : S25)]) l0 (l0.length : Int) (wrap64 (x13_1 + 1))) else (none)) else (box_at.l0 k1 a1 a2 x7_1 l0 (l0.length : Int) (wrap64 (x13_1 + 1)))) else (box_at.l0 k1 a1 a2 x7_1 l0 (l0.length : Int) (wrap64 (x13_1 + 1)))) else (none)))) = some r := H
    have A7 := am A70
    clear A70
    by_cases c8 : a1 = 0
    ·rw [if_pos c8] at H
     have c8b0 : (a1 == 0) = true := beq_iff_eq.mpr c8
     have c8b1 : (a1 != 0) = false := bne_eq_false_iff_eq.mpr c8
     have c8ix : ∀ (T_ : TypeId) (x_ : Value) (W_ : World), Sem.run Try.prog (Instr.index T_ x_ (Value.int IntKind.i64 a1)) W_ = Sem.run Try.prog (Instr.index T_ x_ (Value.int IntKind.i64 0)) W_ := by rw [c8]; intros; rfl
     have c8iy : ∀ (T_ : TypeId) (x_ : Value) (W_ : World), Sem.run Try.prog (Instr.indexAt T_ x_ (Value.int IntKind.i64 a1)) W_ = Sem.run Try.prog (Instr.indexAt T_ x_ (Value.int IntKind.i64 0)) W_ := by rw [c8]; intros; rfl
     clear c8
     by_cases c9 : t193 ≤ a2
     rotate_left
     ·rw [if_neg c9] at H
      have c9b0 : decide (t193 ≤ a2) = false := decide_eq_false c9
      clear c9
      have H' := am H
      clear H
      have p191 : 0 ≤ (x13_1 : Int) := of_decide_eq_true (by assumption)
      have q191 : x13_1 < (l0.length : Int) := of_decide_eq_true (by assumption)
      obtain ⟨ad191, e191, hx191_0, hx191_1, hx191_2, hx191_3, hx191_4, hx191_5⟩ := at_T25 HR0.out x13_1 p191 q191
      cases e191
      replace hx191_0 := cl HB hx191_0
      replace hx191_1 := cl HB hx191_1
      replace hx191_2 := cl HB hx191_2
      replace hx191_3 := cl HB hx191_3
      replace hx191_4 := cl HB hx191_4
      replace hx191_5 := cl HB hx191_5
      replace p191 := eq_true p191
      replace q191 := eq_true q191
      go_wp2_with (first | ((with_reducible refine gd (N := 9) rfl ?_); refine be ?hg (N := 9) ?hd (cs := #[.int .i64 0, .int .i64 0, .int .i64 0, .int .i64 0, .int .i64 0, .int .i64 0]) (t := 25) ?hr ?_; (case hd | hg => rfl); (case hr => first | (go_simp; done) | (go_simp; rfl)); intro gb192 hg w26 hbox hb; replace HO_7 := eR HO_7 hg hb; have BK192 := am hbox; have GW192 := sG HB hg; have GE192 := sG HB hg; replace HB := bS HB hb; clear hb hbox hg; obtain ⟨_, _, _, _, _, _, _, _, _, _, _, _⟩ := zC6 BK192) | ((with_reducible refine gc (f := 52) rfl ?_); refine goesL_ (some 18) rfl rfl Try.func52 (by kernel_rfl) rfl #[.agg #[.int .i64 ((rd_T25 l0 x13_1).f0.f0), .int .i64 ((rd_T25 l0 x13_1).f0.f1), .int .i64 ((rd_T25 l0 x13_1).f0.f2), .int .i64 ((rd_T25 l0 x13_1).f1.f0), .int .i64 ((rd_T25 l0 x13_1).f1.f1), .int .i64 ((rd_T25 l0 x13_1).f1.f2)]] rfl (by (try simp only [pml]); first | done | rfl | (simp only [pdt]; rfl)) ?_; (with_reducible refine (box_sides.calls ((rd_T25 l0 x13_1).f0.f0) ((rd_T25 l0 x13_1).f0.f1) ((rd_T25 l0 x13_1).f0.f2) ((rd_T25 l0 x13_1).f1.f0) ((rd_T25 l0 x13_1).f1.f1) ((rd_T25 l0 x13_1).f1.f2) t193 t194 t195 t196 t197 t198 _ A7.out).mono ?_); rintro e w28 ⟨rfl, hb⟩; refine ⟨_, rfl, ?_⟩; replace HO_7 := am (Kd.R_below (by (with_reducible repeat (first | apply Kd.R_alloc | apply Kd.R_drewN | apply Kd.R_drew)); exact (Kd.R_mono (Kd.R_far (p := ⟨gb192, 5, none⟩) (Kd.R_far (p := ⟨gb192, 4, none⟩) (Kd.R_far (p := ⟨gb192, 3, none⟩) (Kd.R_far (p := ⟨gb192, 2, none⟩) (Kd.R_far (p := ⟨gb192, 1, none⟩) (Kd.R_far (p := ⟨gb192, 0, none⟩) (Kd.R_mono HO_7.out (fun k_ hk => (⟨hk, hk.2⟩ : _ ∧ k_ ≠ gb192))) (fun _ hk => hk.2) (.int .i64 ((rd_T25 l0 x13_1).f0.f0))) (fun _ hk => hk.2) (.int .i64 ((rd_T25 l0 x13_1).f0.f1))) (fun _ hk => hk.2) (.int .i64 ((rd_T25 l0 x13_1).f0.f2))) (fun _ hk => hk.2) (.int .i64 ((rd_T25 l0 x13_1).f1.f0))) (fun _ hk => hk.2) (.int .i64 ((rd_T25 l0 x13_1).f1.f1))) (fun _ hk => hk.2) (.int .i64 ((rd_T25 l0 x13_1).f1.f2))) (fun _ h_ => h_.1))) hb); replace BK192 := xC1 (o := .cells #[.int .i64 ((rd_T25 l0 x13_1).f0.f0), .int .i64 ((rd_T25 l0 x13_1).f0.f1), .int .i64 ((rd_T25 l0 x13_1).f0.f2), .int .i64 ((rd_T25 l0 x13_1).f1.f0), .int .i64 ((rd_T25 l0 x13_1).f1.f1), .int .i64 ((rd_T25 l0 x13_1).f1.f2)] 25 (0, 0)) (kkC BK192.out) hb; replace HB := bS HB hb; (try clear hb); (try clear hb2); (try clear hk); (try clear hi)) | ((with_reducible refine gd (N := 10) rfl ?_); refine be ?hg (N := 10) ?hd (cs := #[.int .i64 0, .int .i64 0]) (t := 72) ?hr ?_; (case hd | hg => rfl); (case hr => first | (go_simp; done) | (go_simp; rfl)); intro gb199 hg w29 hbox hb; replace HO_7 := dR HO_7 hb; have BK199 := am hbox; have GW199 := sG HB hg; have GE199 := sG HB hg; replace HB := bS HB hb; have NB192_199 := nL BK192 hg; have NB199_192 := nG BK192 hg; replace BK192 := bB BK192 hb; clear hb hbox hg; have hnb30 := NB199_192.out; have hnc30 := NB192_199.out; obtain ⟨_, _, _, _⟩ := zC2 BK199))
      go_roundg k1
      case measure => have := HK1.out; omega
      case rel => exact ⟨(x7_1), (wrap64 (x13_1 + 1)), sqD, H', ⟨by have := HK1.out; omega⟩, ⟨by (with_reducible repeat (first | apply Kd.R_alloc | apply Kd.R_drewN | apply Kd.R_drew)); exact Kd.R_mono (Kd.R_far (p := ⟨gb199, 1, none⟩) (Kd.R_far (p := ⟨gb199, 0, none⟩) (Kd.R_types HO_7.out BK199.out (by decide)) (fun _ hk => hk.2) (.int .i64 t193)) (fun _ hk => hk.2) (.int .i64 t194)) (fun _ hk => trivial)⟩, ⟨fW HB.out⟩⟩
     rw [if_pos c9] at H
     have c9b0 : decide (t193 ≤ a2) = true := decide_eq_true c9
     clear c9
     by_cases c10 : a2 < t194
     ·rw [if_pos c10] at H
      have c10b0 : decide (a2 < t194) = true := decide_eq_true c10
      clear c10
      by_cases c11 : x7_1.length < 2932031007402
      rotate_left
      ·rw [if_neg c11] at H
       exact absurd H (by simp)
      rw [if_pos c11] at H
      have LMc11 := am c11
      clear c11
      obtain ⟨y200, hy200⟩ : ∃ y_ : List (S25), y_ = (x7_1 ++ [(⟨(⟨(rd_T25 l0 x13_1).f0.f0, (rd_T25 l0 x13_1).f0.f1, (rd_T25 l0 x13_1).f0.f2⟩ : S23), (⟨(rd_T25 l0 x13_1).f1.f0, (rd_T25 l0 x13_1).f1.f1, (rd_T25 l0 x13_1).f1.f2⟩ : S23)⟩ : S25)]) := ⟨_, rfl⟩
      replace H : (box_at.l0 k1 a1 a2 y200 l0 (l0.length : Int) (wrap64 (x13_1 + 1))) = some r := by first | (rw [hy200]; with_reducible exact H) | (have H2_ := (Option.bind_some _ _).symm.trans H; rw [hy200]; with_reducible exact H2_) | (have H2_ := (Option.bind_some _ _).symm.trans H; with_reducible exact H2_) | with_reducible exact H | (rw [hy200]; exact H) | exact H
      have Ny200 := am hy200
      clear hy200
      have H' := am H
      clear H
      have p191 : 0 ≤ (x13_1 : Int) := of_decide_eq_true (by assumption)
      have q191 : x13_1 < (l0.length : Int) := of_decide_eq_true (by assumption)
      obtain ⟨ad191, e191, hx191_0, hx191_1, hx191_2, hx191_3, hx191_4, hx191_5⟩ := at_T25 HR0.out x13_1 p191 q191
      cases e191
      replace hx191_0 := cl HB hx191_0
      replace hx191_1 := cl HB hx191_1
      replace hx191_2 := cl HB hx191_2
      replace hx191_3 := cl HB hx191_3
      replace hx191_4 := cl HB hx191_4
      replace hx191_5 := cl HB hx191_5
      replace p191 := eq_true p191
      replace q191 := eq_true q191
      go_wp2_with (first | ((with_reducible refine gd (N := 9) rfl ?_); refine be ?hg (N := 9) ?hd (cs := #[.int .i64 0, .int .i64 0, .int .i64 0, .int .i64 0, .int .i64 0, .int .i64 0]) (t := 25) ?hr ?_; (case hd | hg => rfl); (case hr => first | (go_simp; done) | (go_simp; rfl)); intro gb192 hg w12 hbox hb; replace HO_7 := eR HO_7 hg hb; have BK192 := am hbox; have GW192 := sG HB hg; have GE192 := sG HB hg; replace HB := bS HB hb; clear hb hbox hg; obtain ⟨_, _, _, _, _, _, _, _, _, _, _, _⟩ := zC6 BK192) | ((with_reducible refine gc (f := 52) rfl ?_); refine goesL_ (some 18) rfl rfl Try.func52 (by kernel_rfl) rfl #[.agg #[.int .i64 ((rd_T25 l0 x13_1).f0.f0), .int .i64 ((rd_T25 l0 x13_1).f0.f1), .int .i64 ((rd_T25 l0 x13_1).f0.f2), .int .i64 ((rd_T25 l0 x13_1).f1.f0), .int .i64 ((rd_T25 l0 x13_1).f1.f1), .int .i64 ((rd_T25 l0 x13_1).f1.f2)]] rfl (by (try simp only [pml]); first | done | rfl | (simp only [pdt]; rfl)) ?_; (with_reducible refine (box_sides.calls ((rd_T25 l0 x13_1).f0.f0) ((rd_T25 l0 x13_1).f0.f1) ((rd_T25 l0 x13_1).f0.f2) ((rd_T25 l0 x13_1).f1.f0) ((rd_T25 l0 x13_1).f1.f1) ((rd_T25 l0 x13_1).f1.f2) t193 t194 t195 t196 t197 t198 _ A7.out).mono ?_); rintro e w14 ⟨rfl, hb⟩; refine ⟨_, rfl, ?_⟩; replace HO_7 := am (Kd.R_below (by (with_reducible repeat (first | apply Kd.R_alloc | apply Kd.R_drewN | apply Kd.R_drew)); exact (Kd.R_mono (Kd.R_far (p := ⟨gb192, 5, none⟩) (Kd.R_far (p := ⟨gb192, 4, none⟩) (Kd.R_far (p := ⟨gb192, 3, none⟩) (Kd.R_far (p := ⟨gb192, 2, none⟩) (Kd.R_far (p := ⟨gb192, 1, none⟩) (Kd.R_far (p := ⟨gb192, 0, none⟩) (Kd.R_mono HO_7.out (fun k_ hk => (⟨hk, hk.2⟩ : _ ∧ k_ ≠ gb192))) (fun _ hk => hk.2) (.int .i64 ((rd_T25 l0 x13_1).f0.f0))) (fun _ hk => hk.2) (.int .i64 ((rd_T25 l0 x13_1).f0.f1))) (fun _ hk => hk.2) (.int .i64 ((rd_T25 l0 x13_1).f0.f2))) (fun _ hk => hk.2) (.int .i64 ((rd_T25 l0 x13_1).f1.f0))) (fun _ hk => hk.2) (.int .i64 ((rd_T25 l0 x13_1).f1.f1))) (fun _ hk => hk.2) (.int .i64 ((rd_T25 l0 x13_1).f1.f2))) (fun _ h_ => h_.1))) hb); replace BK192 := xC1 (o := .cells #[.int .i64 ((rd_T25 l0 x13_1).f0.f0), .int .i64 ((rd_T25 l0 x13_1).f0.f1), .int .i64 ((rd_T25 l0 x13_1).f0.f2), .int .i64 ((rd_T25 l0 x13_1).f1.f0), .int .i64 ((rd_T25 l0 x13_1).f1.f1), .int .i64 ((rd_T25 l0 x13_1).f1.f2)] 25 (0, 0)) (kkC BK192.out) hb; replace HB := bS HB hb; (try clear hb); (try clear hb2); (try clear hk); (try clear hi)) | ((with_reducible refine gd (N := 10) rfl ?_); refine be ?hg (N := 10) ?hd (cs := #[.int .i64 0, .int .i64 0]) (t := 72) ?hr ?_; (case hd | hg => rfl); (case hr => first | (go_simp; done) | (go_simp; rfl)); intro gb199 hg w15 hbox hb; replace HO_7 := dR HO_7 hb; have BK199 := am hbox; have GW199 := sG HB hg; have GE199 := sG HB hg; replace HB := bS HB hb; have NB192_199 := nL BK192 hg; have NB199_192 := nG BK192 hg; replace BK192 := bB BK192 hb; clear hb hbox hg; have hnb16 := NB199_192.out; have hnc16 := NB192_199.out; obtain ⟨_, _, _, _⟩ := zC2 BK199; obtain ⟨_, _, _, _, _, _, _, _, _, _, _, _⟩ := zC6 BK192) | ((with_reducible refine gate_builtin (b := .append) (xs := #[.tmp 31, .tmp 33]) rfl ?_); at_builtin; refine Kd.R_append k25 (w0 := w) w.heap.size rfl (.tmp 31) (.tmp 33) 26 25 (.agg #[(.int .i64 0), (.int .i64 0), (.int .i64 0), (.int .i64 0), (.int .i64 0), (.int .i64 0)]) 48 rfl Try.underlying26 info25 rfl (by decide) (by omega) u7 x7_1 (⟨(⟨(rd_T25 l0 x13_1).f0.f0, (rd_T25 l0 x13_1).f0.f1, (rd_T25 l0 x13_1).f0.f2⟩ : S23), (⟨(rd_T25 l0 x13_1).f1.f0, (rd_T25 l0 x13_1).f1.f1, (rd_T25 l0 x13_1).f1.f2⟩ : S23)⟩ : S25) [.int .i64 ((rd_T25 l0 x13_1).f0.f0), .int .i64 ((rd_T25 l0 x13_1).f0.f1), .int .i64 ((rd_T25 l0 x13_1).f0.f2), .int .i64 ((rd_T25 l0 x13_1).f1.f0), .int .i64 ((rd_T25 l0 x13_1).f1.f1), .int .i64 ((rd_T25 l0 x13_1).f1.f2)] (fun k_ => k_ ≠ gb192) (fun _ => False) rfl (by first | (go_simp; done) | (go_simp; rfl)) ?aP (fun _ hk => hk.elim) ?aF ?aO ?aB ?aS ?aL ?_; (case aP => exact k25_mkM _ _ _ (⟨(⟨(rd_T25 l0 x13_1).f0.f0, (rd_T25 l0 x13_1).f0.f1, (rd_T25 l0 x13_1).f0.f2⟩ : S23), (⟨(rd_T25 l0 x13_1).f1.f0, (rd_T25 l0 x13_1).f1.f1, (rd_T25 l0 x13_1).f1.f2⟩ : S23)⟩ : S25)); (case aB => exact (fW HB.out)); (case aF => exact (fun k_ hk => Kd.freshB (g := gb192) (o := .cells #[.int .i64 ((rd_T25 l0 x13_1).f0.f0), .int .i64 ((rd_T25 l0 x13_1).f0.f1), .int .i64 ((rd_T25 l0 x13_1).f0.f2), .int .i64 ((rd_T25 l0 x13_1).f1.f0), .int .i64 ((rd_T25 l0 x13_1).f1.f1), .int .i64 ((rd_T25 l0 x13_1).f1.f2)] 25 (0, 0)) (kfC BK192.out) k_ hk)); (case aO => exact (by (with_reducible repeat (first | apply Kd.R_alloc | apply Kd.R_drewN | apply Kd.R_drew)); exact Kd.R_mono (Kd.R_far (p := ⟨gb199, 1, none⟩) (Kd.R_far (p := ⟨gb199, 0, none⟩) (Kd.R_types HO_7.out BK199.out (by decide)) (fun _ hk => hk.2) (.int .i64 t193)) (fun _ hk => hk.2) (.int .i64 t194)) (fun _ hk => hk.1.2))); (case aS => exact (below_size (fW HB.out))); (case aL => have := LMc11.out; omega); intro v201 w19 ho hb hg hat; rw [← Ny200.out] at ho; replace BK192 := am (blk_grown (g := gb192) (o := .cells #[.int .i64 ((rd_T25 l0 x13_1).f0.f0), .int .i64 ((rd_T25 l0 x13_1).f0.f1), .int .i64 ((rd_T25 l0 x13_1).f0.f2), .int .i64 ((rd_T25 l0 x13_1).f1.f0), .int .i64 ((rd_T25 l0 x13_1).f1.f1), .int .i64 ((rd_T25 l0 x13_1).f1.f2)] 25 (0, 0)) (kfC BK192.out) hg (Kd.R_away HO_7.out (fun _ hk => hk.2))); replace BK199 := am (blk_grown (g := gb199) (o := .cells #[.int .i64 t193, .int .i64 t194] 72 (0, 0)) (kkC BK199.out) hg (Kd.R_ne HO_7.out BK199.out (by decide))); replace HB := am (hb); have HO202 := am (ho); clear HO_7 ho hb hg hat))
      go_roundg k1
      case measure => have := HK1.out; omega
      case rel => exact ⟨(y200), (wrap64 (x13_1 + 1)), sqD, H', ⟨by have := HK1.out; omega⟩, ⟨by (with_reducible repeat (first | apply Kd.R_alloc | apply Kd.R_drewN | apply Kd.R_drew)); exact Kd.R_mono HO202.out (fun _ hk => trivial)⟩, ⟨fW HB.out⟩⟩
     rw [if_neg c10] at H
     have c10b0 : decide (a2 < t194) = false := decide_eq_false c10
     clear c10
     have H' := am H
     clear H
     have p191 : 0 ≤ (x13_1 : Int) := of_decide_eq_true (by assumption)
     have q191 : x13_1 < (l0.length : Int) := of_decide_eq_true (by assumption)
     obtain ⟨ad191, e191, hx191_0, hx191_1, hx191_2, hx191_3, hx191_4, hx191_5⟩ := at_T25 HR0.out x13_1 p191 q191
     cases e191
     replace hx191_0 := cl HB hx191_0
     replace hx191_1 := cl HB hx191_1
     replace hx191_2 := cl HB hx191_2
     replace hx191_3 := cl HB hx191_3
     replace hx191_4 := cl HB hx191_4
     replace hx191_5 := cl HB hx191_5
     replace p191 := eq_true p191
     replace q191 := eq_true q191
     go_wp2_with (first | ((with_reducible refine gd (N := 9) rfl ?_); refine be ?hg (N := 9) ?hd (cs := #[.int .i64 0, .int .i64 0, .int .i64 0, .int .i64 0, .int .i64 0, .int .i64 0]) (t := 25) ?hr ?_; (case hd | hg => rfl); (case hr => first | (go_simp; done) | (go_simp; rfl)); intro gb192 hg w20 hbox hb; replace HO_7 := eR HO_7 hg hb; have BK192 := am hbox; have GW192 := sG HB hg; have GE192 := sG HB hg; replace HB := bS HB hb; clear hb hbox hg; obtain ⟨_, _, _, _, _, _, _, _, _, _, _, _⟩ := zC6 BK192) | ((with_reducible refine gc (f := 52) rfl ?_); refine goesL_ (some 18) rfl rfl Try.func52 (by kernel_rfl) rfl #[.agg #[.int .i64 ((rd_T25 l0 x13_1).f0.f0), .int .i64 ((rd_T25 l0 x13_1).f0.f1), .int .i64 ((rd_T25 l0 x13_1).f0.f2), .int .i64 ((rd_T25 l0 x13_1).f1.f0), .int .i64 ((rd_T25 l0 x13_1).f1.f1), .int .i64 ((rd_T25 l0 x13_1).f1.f2)]] rfl (by (try simp only [pml]); first | done | rfl | (simp only [pdt]; rfl)) ?_; (with_reducible refine (box_sides.calls ((rd_T25 l0 x13_1).f0.f0) ((rd_T25 l0 x13_1).f0.f1) ((rd_T25 l0 x13_1).f0.f2) ((rd_T25 l0 x13_1).f1.f0) ((rd_T25 l0 x13_1).f1.f1) ((rd_T25 l0 x13_1).f1.f2) t193 t194 t195 t196 t197 t198 _ A7.out).mono ?_); rintro e w22 ⟨rfl, hb⟩; refine ⟨_, rfl, ?_⟩; replace HO_7 := am (Kd.R_below (by (with_reducible repeat (first | apply Kd.R_alloc | apply Kd.R_drewN | apply Kd.R_drew)); exact (Kd.R_mono (Kd.R_far (p := ⟨gb192, 5, none⟩) (Kd.R_far (p := ⟨gb192, 4, none⟩) (Kd.R_far (p := ⟨gb192, 3, none⟩) (Kd.R_far (p := ⟨gb192, 2, none⟩) (Kd.R_far (p := ⟨gb192, 1, none⟩) (Kd.R_far (p := ⟨gb192, 0, none⟩) (Kd.R_mono HO_7.out (fun k_ hk => (⟨hk, hk.2⟩ : _ ∧ k_ ≠ gb192))) (fun _ hk => hk.2) (.int .i64 ((rd_T25 l0 x13_1).f0.f0))) (fun _ hk => hk.2) (.int .i64 ((rd_T25 l0 x13_1).f0.f1))) (fun _ hk => hk.2) (.int .i64 ((rd_T25 l0 x13_1).f0.f2))) (fun _ hk => hk.2) (.int .i64 ((rd_T25 l0 x13_1).f1.f0))) (fun _ hk => hk.2) (.int .i64 ((rd_T25 l0 x13_1).f1.f1))) (fun _ hk => hk.2) (.int .i64 ((rd_T25 l0 x13_1).f1.f2))) (fun _ h_ => h_.1))) hb); replace BK192 := xC1 (o := .cells #[.int .i64 ((rd_T25 l0 x13_1).f0.f0), .int .i64 ((rd_T25 l0 x13_1).f0.f1), .int .i64 ((rd_T25 l0 x13_1).f0.f2), .int .i64 ((rd_T25 l0 x13_1).f1.f0), .int .i64 ((rd_T25 l0 x13_1).f1.f1), .int .i64 ((rd_T25 l0 x13_1).f1.f2)] 25 (0, 0)) (kkC BK192.out) hb; replace HB := bS HB hb; (try clear hb); (try clear hb2); (try clear hk); (try clear hi)) | ((with_reducible refine gd (N := 10) rfl ?_); refine be ?hg (N := 10) ?hd (cs := #[.int .i64 0, .int .i64 0]) (t := 72) ?hr ?_; (case hd | hg => rfl); (case hr => first | (go_simp; done) | (go_simp; rfl)); intro gb199 hg w23 hbox hb; replace HO_7 := dR HO_7 hb; have BK199 := am hbox; have GW199 := sG HB hg; have GE199 := sG HB hg; replace HB := bS HB hb; have NB192_199 := nL BK192 hg; have NB199_192 := nG BK192 hg; replace BK192 := bB BK192 hb; clear hb hbox hg; have hnb24 := NB199_192.out; have hnc24 := NB192_199.out; obtain ⟨_, _, _, _⟩ := zC2 BK199))
     go_roundg k1
     case measure => have := HK1.out; omega
     case rel => exact ⟨(x7_1), (wrap64 (x13_1 + 1)), sqD, H', ⟨by have := HK1.out; omega⟩, ⟨by (with_reducible repeat (first | apply Kd.R_alloc | apply Kd.R_drewN | apply Kd.R_drew)); exact Kd.R_mono (Kd.R_far (p := ⟨gb199, 1, none⟩) (Kd.R_far (p := ⟨gb199, 0, none⟩) (Kd.R_types HO_7.out BK199.out (by decide)) (fun _ hk => hk.2) (.int .i64 t193)) (fun _ hk => hk.2) (.int .i64 t194)) (fun _ hk => trivial)⟩, ⟨fW HB.out⟩⟩
    rw [if_neg c8] at H
    have c8b0 : (a1 == 0) = false := beq_eq_false_iff_ne.mpr c8
    have c8b1 : (a1 != 0) = true := bne_iff_ne.mpr c8
    by_cases c32 : a1 = 1
    ·rw [if_pos c32] at H
     have c32b0 : (a1 == 1) = true := beq_iff_eq.mpr c32
     have c32b1 : (a1 != 1) = false := bne_eq_false_iff_eq.mpr c32
     have c32ix : ∀ (T_ : TypeId) (x_ : Value) (W_ : World), Sem.run Try.prog (Instr.index T_ x_ (Value.int IntKind.i64 a1)) W_ = Sem.run Try.prog (Instr.index T_ x_ (Value.int IntKind.i64 1)) W_ := by rw [c32]; intros; rfl
     have c32iy : ∀ (T_ : TypeId) (x_ : Value) (W_ : World), Sem.run Try.prog (Instr.indexAt T_ x_ (Value.int IntKind.i64 a1)) W_ = Sem.run Try.prog (Instr.indexAt T_ x_ (Value.int IntKind.i64 1)) W_ := by rw [c32]; intros; rfl
     clear c32
     by_cases c33 : t195 ≤ a2
     rotate_left
     ·rw [if_neg c33] at H
      have c33b0 : decide (t195 ≤ a2) = false := decide_eq_false c33
      clear c33
      have H' := am H
      clear H
      have p191 : 0 ≤ (x13_1 : Int) := of_decide_eq_true (by assumption)
      have q191 : x13_1 < (l0.length : Int) := of_decide_eq_true (by assumption)
      obtain ⟨ad191, e191, hx191_0, hx191_1, hx191_2, hx191_3, hx191_4, hx191_5⟩ := at_T25 HR0.out x13_1 p191 q191
      cases e191
      replace hx191_0 := cl HB hx191_0
      replace hx191_1 := cl HB hx191_1
      replace hx191_2 := cl HB hx191_2
      replace hx191_3 := cl HB hx191_3
      replace hx191_4 := cl HB hx191_4
      replace hx191_5 := cl HB hx191_5
      replace p191 := eq_true p191
      replace q191 := eq_true q191
      go_wp2_with (first | ((with_reducible refine gd (N := 9) rfl ?_); refine be ?hg (N := 9) ?hd (cs := #[.int .i64 0, .int .i64 0, .int .i64 0, .int .i64 0, .int .i64 0, .int .i64 0]) (t := 25) ?hr ?_; (case hd | hg => rfl); (case hr => first | (go_simp; done) | (go_simp; rfl)); intro gb192 hg w50 hbox hb; replace HO_7 := eR HO_7 hg hb; have BK192 := am hbox; have GW192 := sG HB hg; have GE192 := sG HB hg; replace HB := bS HB hb; clear hb hbox hg; obtain ⟨_, _, _, _, _, _, _, _, _, _, _, _⟩ := zC6 BK192) | ((with_reducible refine gc (f := 52) rfl ?_); refine goesL_ (some 18) rfl rfl Try.func52 (by kernel_rfl) rfl #[.agg #[.int .i64 ((rd_T25 l0 x13_1).f0.f0), .int .i64 ((rd_T25 l0 x13_1).f0.f1), .int .i64 ((rd_T25 l0 x13_1).f0.f2), .int .i64 ((rd_T25 l0 x13_1).f1.f0), .int .i64 ((rd_T25 l0 x13_1).f1.f1), .int .i64 ((rd_T25 l0 x13_1).f1.f2)]] rfl (by (try simp only [pml]); first | done | rfl | (simp only [pdt]; rfl)) ?_; (with_reducible refine (box_sides.calls ((rd_T25 l0 x13_1).f0.f0) ((rd_T25 l0 x13_1).f0.f1) ((rd_T25 l0 x13_1).f0.f2) ((rd_T25 l0 x13_1).f1.f0) ((rd_T25 l0 x13_1).f1.f1) ((rd_T25 l0 x13_1).f1.f2) t193 t194 t195 t196 t197 t198 _ A7.out).mono ?_); rintro e w52 ⟨rfl, hb⟩; refine ⟨_, rfl, ?_⟩; replace HO_7 := am (Kd.R_below (by (with_reducible repeat (first | apply Kd.R_alloc | apply Kd.R_drewN | apply Kd.R_drew)); exact (Kd.R_mono (Kd.R_far (p := ⟨gb192, 5, none⟩) (Kd.R_far (p := ⟨gb192, 4, none⟩) (Kd.R_far (p := ⟨gb192, 3, none⟩) (Kd.R_far (p := ⟨gb192, 2, none⟩) (Kd.R_far (p := ⟨gb192, 1, none⟩) (Kd.R_far (p := ⟨gb192, 0, none⟩) (Kd.R_mono HO_7.out (fun k_ hk => (⟨hk, hk.2⟩ : _ ∧ k_ ≠ gb192))) (fun _ hk => hk.2) (.int .i64 ((rd_T25 l0 x13_1).f0.f0))) (fun _ hk => hk.2) (.int .i64 ((rd_T25 l0 x13_1).f0.f1))) (fun _ hk => hk.2) (.int .i64 ((rd_T25 l0 x13_1).f0.f2))) (fun _ hk => hk.2) (.int .i64 ((rd_T25 l0 x13_1).f1.f0))) (fun _ hk => hk.2) (.int .i64 ((rd_T25 l0 x13_1).f1.f1))) (fun _ hk => hk.2) (.int .i64 ((rd_T25 l0 x13_1).f1.f2))) (fun _ h_ => h_.1))) hb); replace BK192 := xC1 (o := .cells #[.int .i64 ((rd_T25 l0 x13_1).f0.f0), .int .i64 ((rd_T25 l0 x13_1).f0.f1), .int .i64 ((rd_T25 l0 x13_1).f0.f2), .int .i64 ((rd_T25 l0 x13_1).f1.f0), .int .i64 ((rd_T25 l0 x13_1).f1.f1), .int .i64 ((rd_T25 l0 x13_1).f1.f2)] 25 (0, 0)) (kkC BK192.out) hb; replace HB := bS HB hb; (try clear hb); (try clear hb2); (try clear hk); (try clear hi)) | ((with_reducible refine gd (N := 10) rfl ?_); refine be ?hg (N := 10) ?hd (cs := #[.int .i64 0, .int .i64 0]) (t := 72) ?hr ?_; (case hd | hg => rfl); (case hr => first | (go_simp; done) | (go_simp; rfl)); intro gb203 hg w53 hbox hb; replace HO_7 := dR HO_7 hb; have BK203 := am hbox; have GW203 := sG HB hg; have GE203 := sG HB hg; replace HB := bS HB hb; have NB192_203 := nL BK192 hg; have NB203_192 := nG BK192 hg; replace BK192 := bB BK192 hb; clear hb hbox hg; have hnb54 := NB203_192.out; have hnc54 := NB192_203.out; obtain ⟨_, _, _, _⟩ := zC2 BK203))
      go_roundg k1
      case measure => have := HK1.out; omega
      case rel => exact ⟨(x7_1), (wrap64 (x13_1 + 1)), sqD, H', ⟨by have := HK1.out; omega⟩, ⟨by (with_reducible repeat (first | apply Kd.R_alloc | apply Kd.R_drewN | apply Kd.R_drew)); exact Kd.R_mono (Kd.R_far (p := ⟨gb203, 1, none⟩) (Kd.R_far (p := ⟨gb203, 0, none⟩) (Kd.R_types HO_7.out BK203.out (by decide)) (fun _ hk => hk.2) (.int .i64 t195)) (fun _ hk => hk.2) (.int .i64 t196)) (fun _ hk => trivial)⟩, ⟨fW HB.out⟩⟩
     rw [if_pos c33] at H
     have c33b0 : decide (t195 ≤ a2) = true := decide_eq_true c33
     clear c33
     by_cases c34 : a2 < t196
     ·rw [if_pos c34] at H
      have c34b0 : decide (a2 < t196) = true := decide_eq_true c34
      clear c34
      by_cases c35 : x7_1.length < 2932031007402
      rotate_left
      ·rw [if_neg c35] at H
       exact absurd H (by simp)
      rw [if_pos c35] at H
      have LMc35 := am c35
      clear c35
      obtain ⟨y204, hy204⟩ : ∃ y_ : List (S25), y_ = (x7_1 ++ [(⟨(⟨(rd_T25 l0 x13_1).f0.f0, (rd_T25 l0 x13_1).f0.f1, (rd_T25 l0 x13_1).f0.f2⟩ : S23), (⟨(rd_T25 l0 x13_1).f1.f0, (rd_T25 l0 x13_1).f1.f1, (rd_T25 l0 x13_1).f1.f2⟩ : S23)⟩ : S25)]) := ⟨_, rfl⟩
      replace H : (box_at.l0 k1 a1 a2 y204 l0 (l0.length : Int) (wrap64 (x13_1 + 1))) = some r := by first | (rw [hy204]; with_reducible exact H) | (have H2_ := (Option.bind_some _ _).symm.trans H; rw [hy204]; with_reducible exact H2_) | (have H2_ := (Option.bind_some _ _).symm.trans H; with_reducible exact H2_) | with_reducible exact H | (rw [hy204]; exact H) | exact H
      have Ny204 := am hy204
      clear hy204
      have H' := am H
      clear H
      have p191 : 0 ≤ (x13_1 : Int) := of_decide_eq_true (by assumption)
      have q191 : x13_1 < (l0.length : Int) := of_decide_eq_true (by assumption)
      obtain ⟨ad191, e191, hx191_0, hx191_1, hx191_2, hx191_3, hx191_4, hx191_5⟩ := at_T25 HR0.out x13_1 p191 q191
      cases e191
      replace hx191_0 := cl HB hx191_0
      replace hx191_1 := cl HB hx191_1
      replace hx191_2 := cl HB hx191_2
      replace hx191_3 := cl HB hx191_3
      replace hx191_4 := cl HB hx191_4
      replace hx191_5 := cl HB hx191_5
      replace p191 := eq_true p191
      replace q191 := eq_true q191
      go_wp2_with (first | ((with_reducible refine gd (N := 9) rfl ?_); refine be ?hg (N := 9) ?hd (cs := #[.int .i64 0, .int .i64 0, .int .i64 0, .int .i64 0, .int .i64 0, .int .i64 0]) (t := 25) ?hr ?_; (case hd | hg => rfl); (case hr => first | (go_simp; done) | (go_simp; rfl)); intro gb192 hg w36 hbox hb; replace HO_7 := eR HO_7 hg hb; have BK192 := am hbox; have GW192 := sG HB hg; have GE192 := sG HB hg; replace HB := bS HB hb; clear hb hbox hg; obtain ⟨_, _, _, _, _, _, _, _, _, _, _, _⟩ := zC6 BK192) | ((with_reducible refine gc (f := 52) rfl ?_); refine goesL_ (some 18) rfl rfl Try.func52 (by kernel_rfl) rfl #[.agg #[.int .i64 ((rd_T25 l0 x13_1).f0.f0), .int .i64 ((rd_T25 l0 x13_1).f0.f1), .int .i64 ((rd_T25 l0 x13_1).f0.f2), .int .i64 ((rd_T25 l0 x13_1).f1.f0), .int .i64 ((rd_T25 l0 x13_1).f1.f1), .int .i64 ((rd_T25 l0 x13_1).f1.f2)]] rfl (by (try simp only [pml]); first | done | rfl | (simp only [pdt]; rfl)) ?_; (with_reducible refine (box_sides.calls ((rd_T25 l0 x13_1).f0.f0) ((rd_T25 l0 x13_1).f0.f1) ((rd_T25 l0 x13_1).f0.f2) ((rd_T25 l0 x13_1).f1.f0) ((rd_T25 l0 x13_1).f1.f1) ((rd_T25 l0 x13_1).f1.f2) t193 t194 t195 t196 t197 t198 _ A7.out).mono ?_); rintro e w38 ⟨rfl, hb⟩; refine ⟨_, rfl, ?_⟩; replace HO_7 := am (Kd.R_below (by (with_reducible repeat (first | apply Kd.R_alloc | apply Kd.R_drewN | apply Kd.R_drew)); exact (Kd.R_mono (Kd.R_far (p := ⟨gb192, 5, none⟩) (Kd.R_far (p := ⟨gb192, 4, none⟩) (Kd.R_far (p := ⟨gb192, 3, none⟩) (Kd.R_far (p := ⟨gb192, 2, none⟩) (Kd.R_far (p := ⟨gb192, 1, none⟩) (Kd.R_far (p := ⟨gb192, 0, none⟩) (Kd.R_mono HO_7.out (fun k_ hk => (⟨hk, hk.2⟩ : _ ∧ k_ ≠ gb192))) (fun _ hk => hk.2) (.int .i64 ((rd_T25 l0 x13_1).f0.f0))) (fun _ hk => hk.2) (.int .i64 ((rd_T25 l0 x13_1).f0.f1))) (fun _ hk => hk.2) (.int .i64 ((rd_T25 l0 x13_1).f0.f2))) (fun _ hk => hk.2) (.int .i64 ((rd_T25 l0 x13_1).f1.f0))) (fun _ hk => hk.2) (.int .i64 ((rd_T25 l0 x13_1).f1.f1))) (fun _ hk => hk.2) (.int .i64 ((rd_T25 l0 x13_1).f1.f2))) (fun _ h_ => h_.1))) hb); replace BK192 := xC1 (o := .cells #[.int .i64 ((rd_T25 l0 x13_1).f0.f0), .int .i64 ((rd_T25 l0 x13_1).f0.f1), .int .i64 ((rd_T25 l0 x13_1).f0.f2), .int .i64 ((rd_T25 l0 x13_1).f1.f0), .int .i64 ((rd_T25 l0 x13_1).f1.f1), .int .i64 ((rd_T25 l0 x13_1).f1.f2)] 25 (0, 0)) (kkC BK192.out) hb; replace HB := bS HB hb; (try clear hb); (try clear hb2); (try clear hk); (try clear hi)) | ((with_reducible refine gd (N := 10) rfl ?_); refine be ?hg (N := 10) ?hd (cs := #[.int .i64 0, .int .i64 0]) (t := 72) ?hr ?_; (case hd | hg => rfl); (case hr => first | (go_simp; done) | (go_simp; rfl)); intro gb203 hg w39 hbox hb; replace HO_7 := dR HO_7 hb; have BK203 := am hbox; have GW203 := sG HB hg; have GE203 := sG HB hg; replace HB := bS HB hb; have NB192_203 := nL BK192 hg; have NB203_192 := nG BK192 hg; replace BK192 := bB BK192 hb; clear hb hbox hg; have hnb40 := NB203_192.out; have hnc40 := NB192_203.out; obtain ⟨_, _, _, _⟩ := zC2 BK203; obtain ⟨_, _, _, _, _, _, _, _, _, _, _, _⟩ := zC6 BK192) | ((with_reducible refine gate_builtin (b := .append) (xs := #[.tmp 31, .tmp 33]) rfl ?_); at_builtin; refine Kd.R_append k25 (w0 := w) w.heap.size rfl (.tmp 31) (.tmp 33) 26 25 (.agg #[(.int .i64 0), (.int .i64 0), (.int .i64 0), (.int .i64 0), (.int .i64 0), (.int .i64 0)]) 48 rfl Try.underlying26 info25 rfl (by decide) (by omega) u7 x7_1 (⟨(⟨(rd_T25 l0 x13_1).f0.f0, (rd_T25 l0 x13_1).f0.f1, (rd_T25 l0 x13_1).f0.f2⟩ : S23), (⟨(rd_T25 l0 x13_1).f1.f0, (rd_T25 l0 x13_1).f1.f1, (rd_T25 l0 x13_1).f1.f2⟩ : S23)⟩ : S25) [.int .i64 ((rd_T25 l0 x13_1).f0.f0), .int .i64 ((rd_T25 l0 x13_1).f0.f1), .int .i64 ((rd_T25 l0 x13_1).f0.f2), .int .i64 ((rd_T25 l0 x13_1).f1.f0), .int .i64 ((rd_T25 l0 x13_1).f1.f1), .int .i64 ((rd_T25 l0 x13_1).f1.f2)] (fun k_ => k_ ≠ gb192) (fun _ => False) rfl (by first | (go_simp; done) | (go_simp; rfl)) ?aP (fun _ hk => hk.elim) ?aF ?aO ?aB ?aS ?aL ?_; (case aP => exact k25_mkM _ _ _ (⟨(⟨(rd_T25 l0 x13_1).f0.f0, (rd_T25 l0 x13_1).f0.f1, (rd_T25 l0 x13_1).f0.f2⟩ : S23), (⟨(rd_T25 l0 x13_1).f1.f0, (rd_T25 l0 x13_1).f1.f1, (rd_T25 l0 x13_1).f1.f2⟩ : S23)⟩ : S25)); (case aB => exact (fW HB.out)); (case aF => exact (fun k_ hk => Kd.freshB (g := gb192) (o := .cells #[.int .i64 ((rd_T25 l0 x13_1).f0.f0), .int .i64 ((rd_T25 l0 x13_1).f0.f1), .int .i64 ((rd_T25 l0 x13_1).f0.f2), .int .i64 ((rd_T25 l0 x13_1).f1.f0), .int .i64 ((rd_T25 l0 x13_1).f1.f1), .int .i64 ((rd_T25 l0 x13_1).f1.f2)] 25 (0, 0)) (kfC BK192.out) k_ hk)); (case aO => exact (by (with_reducible repeat (first | apply Kd.R_alloc | apply Kd.R_drewN | apply Kd.R_drew)); exact Kd.R_mono (Kd.R_far (p := ⟨gb203, 1, none⟩) (Kd.R_far (p := ⟨gb203, 0, none⟩) (Kd.R_types HO_7.out BK203.out (by decide)) (fun _ hk => hk.2) (.int .i64 t195)) (fun _ hk => hk.2) (.int .i64 t196)) (fun _ hk => hk.1.2))); (case aS => exact (below_size (fW HB.out))); (case aL => have := LMc35.out; omega); intro v205 w43 ho hb hg hat; rw [← Ny204.out] at ho; replace BK192 := am (blk_grown (g := gb192) (o := .cells #[.int .i64 ((rd_T25 l0 x13_1).f0.f0), .int .i64 ((rd_T25 l0 x13_1).f0.f1), .int .i64 ((rd_T25 l0 x13_1).f0.f2), .int .i64 ((rd_T25 l0 x13_1).f1.f0), .int .i64 ((rd_T25 l0 x13_1).f1.f1), .int .i64 ((rd_T25 l0 x13_1).f1.f2)] 25 (0, 0)) (kfC BK192.out) hg (Kd.R_away HO_7.out (fun _ hk => hk.2))); replace BK203 := am (blk_grown (g := gb203) (o := .cells #[.int .i64 t195, .int .i64 t196] 72 (0, 0)) (kkC BK203.out) hg (Kd.R_ne HO_7.out BK203.out (by decide))); replace HB := am (hb); have HO206 := am (ho); clear HO_7 ho hb hg hat))
      go_roundg k1
      case measure => have := HK1.out; omega
      case rel => exact ⟨(y204), (wrap64 (x13_1 + 1)), sqD, H', ⟨by have := HK1.out; omega⟩, ⟨by (with_reducible repeat (first | apply Kd.R_alloc | apply Kd.R_drewN | apply Kd.R_drew)); exact Kd.R_mono HO206.out (fun _ hk => trivial)⟩, ⟨fW HB.out⟩⟩
     rw [if_neg c34] at H
     have c34b0 : decide (a2 < t196) = false := decide_eq_false c34
     clear c34
     have H' := am H
     clear H
     have p191 : 0 ≤ (x13_1 : Int) := of_decide_eq_true (by assumption)
     have q191 : x13_1 < (l0.length : Int) := of_decide_eq_true (by assumption)
     obtain ⟨ad191, e191, hx191_0, hx191_1, hx191_2, hx191_3, hx191_4, hx191_5⟩ := at_T25 HR0.out x13_1 p191 q191
     cases e191
     replace hx191_0 := cl HB hx191_0
     replace hx191_1 := cl HB hx191_1
     replace hx191_2 := cl HB hx191_2
     replace hx191_3 := cl HB hx191_3
     replace hx191_4 := cl HB hx191_4
     replace hx191_5 := cl HB hx191_5
     replace p191 := eq_true p191
     replace q191 := eq_true q191
     go_wp2_with (first | ((with_reducible refine gd (N := 9) rfl ?_); refine be ?hg (N := 9) ?hd (cs := #[.int .i64 0, .int .i64 0, .int .i64 0, .int .i64 0, .int .i64 0, .int .i64 0]) (t := 25) ?hr ?_; (case hd | hg => rfl); (case hr => first | (go_simp; done) | (go_simp; rfl)); intro gb192 hg w44 hbox hb; replace HO_7 := eR HO_7 hg hb; have BK192 := am hbox; have GW192 := sG HB hg; have GE192 := sG HB hg; replace HB := bS HB hb; clear hb hbox hg; obtain ⟨_, _, _, _, _, _, _, _, _, _, _, _⟩ := zC6 BK192) | ((with_reducible refine gc (f := 52) rfl ?_); refine goesL_ (some 18) rfl rfl Try.func52 (by kernel_rfl) rfl #[.agg #[.int .i64 ((rd_T25 l0 x13_1).f0.f0), .int .i64 ((rd_T25 l0 x13_1).f0.f1), .int .i64 ((rd_T25 l0 x13_1).f0.f2), .int .i64 ((rd_T25 l0 x13_1).f1.f0), .int .i64 ((rd_T25 l0 x13_1).f1.f1), .int .i64 ((rd_T25 l0 x13_1).f1.f2)]] rfl (by (try simp only [pml]); first | done | rfl | (simp only [pdt]; rfl)) ?_; (with_reducible refine (box_sides.calls ((rd_T25 l0 x13_1).f0.f0) ((rd_T25 l0 x13_1).f0.f1) ((rd_T25 l0 x13_1).f0.f2) ((rd_T25 l0 x13_1).f1.f0) ((rd_T25 l0 x13_1).f1.f1) ((rd_T25 l0 x13_1).f1.f2) t193 t194 t195 t196 t197 t198 _ A7.out).mono ?_); rintro e w46 ⟨rfl, hb⟩; refine ⟨_, rfl, ?_⟩; replace HO_7 := am (Kd.R_below (by (with_reducible repeat (first | apply Kd.R_alloc | apply Kd.R_drewN | apply Kd.R_drew)); exact (Kd.R_mono (Kd.R_far (p := ⟨gb192, 5, none⟩) (Kd.R_far (p := ⟨gb192, 4, none⟩) (Kd.R_far (p := ⟨gb192, 3, none⟩) (Kd.R_far (p := ⟨gb192, 2, none⟩) (Kd.R_far (p := ⟨gb192, 1, none⟩) (Kd.R_far (p := ⟨gb192, 0, none⟩) (Kd.R_mono HO_7.out (fun k_ hk => (⟨hk, hk.2⟩ : _ ∧ k_ ≠ gb192))) (fun _ hk => hk.2) (.int .i64 ((rd_T25 l0 x13_1).f0.f0))) (fun _ hk => hk.2) (.int .i64 ((rd_T25 l0 x13_1).f0.f1))) (fun _ hk => hk.2) (.int .i64 ((rd_T25 l0 x13_1).f0.f2))) (fun _ hk => hk.2) (.int .i64 ((rd_T25 l0 x13_1).f1.f0))) (fun _ hk => hk.2) (.int .i64 ((rd_T25 l0 x13_1).f1.f1))) (fun _ hk => hk.2) (.int .i64 ((rd_T25 l0 x13_1).f1.f2))) (fun _ h_ => h_.1))) hb); replace BK192 := xC1 (o := .cells #[.int .i64 ((rd_T25 l0 x13_1).f0.f0), .int .i64 ((rd_T25 l0 x13_1).f0.f1), .int .i64 ((rd_T25 l0 x13_1).f0.f2), .int .i64 ((rd_T25 l0 x13_1).f1.f0), .int .i64 ((rd_T25 l0 x13_1).f1.f1), .int .i64 ((rd_T25 l0 x13_1).f1.f2)] 25 (0, 0)) (kkC BK192.out) hb; replace HB := bS HB hb; (try clear hb); (try clear hb2); (try clear hk); (try clear hi)) | ((with_reducible refine gd (N := 10) rfl ?_); refine be ?hg (N := 10) ?hd (cs := #[.int .i64 0, .int .i64 0]) (t := 72) ?hr ?_; (case hd | hg => rfl); (case hr => first | (go_simp; done) | (go_simp; rfl)); intro gb203 hg w47 hbox hb; replace HO_7 := dR HO_7 hb; have BK203 := am hbox; have GW203 := sG HB hg; have GE203 := sG HB hg; replace HB := bS HB hb; have NB192_203 := nL BK192 hg; have NB203_192 := nG BK192 hg; replace BK192 := bB BK192 hb; clear hb hbox hg; have hnb48 := NB203_192.out; have hnc48 := NB192_203.out; obtain ⟨_, _, _, _⟩ := zC2 BK203))
     go_roundg k1
     case measure => have := HK1.out; omega
     case rel => exact ⟨(x7_1), (wrap64 (x13_1 + 1)), sqD, H', ⟨by have := HK1.out; omega⟩, ⟨by (with_reducible repeat (first | apply Kd.R_alloc | apply Kd.R_drewN | apply Kd.R_drew)); exact Kd.R_mono (Kd.R_far (p := ⟨gb203, 1, none⟩) (Kd.R_far (p := ⟨gb203, 0, none⟩) (Kd.R_types HO_7.out BK203.out (by decide)) (fun _ hk => hk.2) (.int .i64 t195)) (fun _ hk => hk.2) (.int .i64 t196)) (fun _ hk => trivial)⟩, ⟨fW HB.out⟩⟩
    rw [if_neg c32] at H
    have c32b0 : (a1 == 1) = false := beq_eq_false_iff_ne.mpr c32
    have c32b1 : (a1 != 1) = true := bne_iff_ne.mpr c32
    by_cases c56 : a1 = 2
    rotate_left
    ·rw [if_neg c56] at H
     exact absurd H (by simp)
    rw [if_pos c56] at H
    have c56b0 : (a1 == 2) = true := beq_iff_eq.mpr c56
    have c56b1 : (a1 != 2) = false := bne_eq_false_iff_eq.mpr c56
    have c56ix : ∀ (T_ : TypeId) (x_ : Value) (W_ : World), Sem.run Try.prog (Instr.index T_ x_ (Value.int IntKind.i64 a1)) W_ = Sem.run Try.prog (Instr.index T_ x_ (Value.int IntKind.i64 2)) W_ := by rw [c56]; intros; rfl
    have c56iy : ∀ (T_ : TypeId) (x_ : Value) (W_ : World), Sem.run Try.prog (Instr.indexAt T_ x_ (Value.int IntKind.i64 a1)) W_ = Sem.run Try.prog (Instr.indexAt T_ x_ (Value.int IntKind.i64 2)) W_ := by rw [c56]; intros; rfl
    clear c56
    by_cases c57 : t197 ≤ a2
    rotate_left
    ·rw [if_neg c57] at H
     have c57b0 : decide (t197 ≤ a2) = false := decide_eq_false c57
     clear c57
     have H' := am H
     clear H
     have p191 : 0 ≤ (x13_1 : Int) := of_decide_eq_true (by assumption)
     have q191 : x13_1 < (l0.length : Int) := of_decide_eq_true (by assumption)
     obtain ⟨ad191, e191, hx191_0, hx191_1, hx191_2, hx191_3, hx191_4, hx191_5⟩ := at_T25 HR0.out x13_1 p191 q191
     cases e191
     replace hx191_0 := cl HB hx191_0
     replace hx191_1 := cl HB hx191_1
     replace hx191_2 := cl HB hx191_2
     replace hx191_3 := cl HB hx191_3
     replace hx191_4 := cl HB hx191_4
     replace hx191_5 := cl HB hx191_5
     replace p191 := eq_true p191
     replace q191 := eq_true q191
     go_wp2_with (first | ((with_reducible refine gd (N := 9) rfl ?_); refine be ?hg (N := 9) ?hd (cs := #[.int .i64 0, .int .i64 0, .int .i64 0, .int .i64 0, .int .i64 0, .int .i64 0]) (t := 25) ?hr ?_; (case hd | hg => rfl); (case hr => first | (go_simp; done) | (go_simp; rfl)); intro gb192 hg w74 hbox hb; replace HO_7 := eR HO_7 hg hb; have BK192 := am hbox; have GW192 := sG HB hg; have GE192 := sG HB hg; replace HB := bS HB hb; clear hb hbox hg; obtain ⟨_, _, _, _, _, _, _, _, _, _, _, _⟩ := zC6 BK192) | ((with_reducible refine gc (f := 52) rfl ?_); refine goesL_ (some 18) rfl rfl Try.func52 (by kernel_rfl) rfl #[.agg #[.int .i64 ((rd_T25 l0 x13_1).f0.f0), .int .i64 ((rd_T25 l0 x13_1).f0.f1), .int .i64 ((rd_T25 l0 x13_1).f0.f2), .int .i64 ((rd_T25 l0 x13_1).f1.f0), .int .i64 ((rd_T25 l0 x13_1).f1.f1), .int .i64 ((rd_T25 l0 x13_1).f1.f2)]] rfl (by (try simp only [pml]); first | done | rfl | (simp only [pdt]; rfl)) ?_; (with_reducible refine (box_sides.calls ((rd_T25 l0 x13_1).f0.f0) ((rd_T25 l0 x13_1).f0.f1) ((rd_T25 l0 x13_1).f0.f2) ((rd_T25 l0 x13_1).f1.f0) ((rd_T25 l0 x13_1).f1.f1) ((rd_T25 l0 x13_1).f1.f2) t193 t194 t195 t196 t197 t198 _ A7.out).mono ?_); rintro e w76 ⟨rfl, hb⟩; refine ⟨_, rfl, ?_⟩; replace HO_7 := am (Kd.R_below (by (with_reducible repeat (first | apply Kd.R_alloc | apply Kd.R_drewN | apply Kd.R_drew)); exact (Kd.R_mono (Kd.R_far (p := ⟨gb192, 5, none⟩) (Kd.R_far (p := ⟨gb192, 4, none⟩) (Kd.R_far (p := ⟨gb192, 3, none⟩) (Kd.R_far (p := ⟨gb192, 2, none⟩) (Kd.R_far (p := ⟨gb192, 1, none⟩) (Kd.R_far (p := ⟨gb192, 0, none⟩) (Kd.R_mono HO_7.out (fun k_ hk => (⟨hk, hk.2⟩ : _ ∧ k_ ≠ gb192))) (fun _ hk => hk.2) (.int .i64 ((rd_T25 l0 x13_1).f0.f0))) (fun _ hk => hk.2) (.int .i64 ((rd_T25 l0 x13_1).f0.f1))) (fun _ hk => hk.2) (.int .i64 ((rd_T25 l0 x13_1).f0.f2))) (fun _ hk => hk.2) (.int .i64 ((rd_T25 l0 x13_1).f1.f0))) (fun _ hk => hk.2) (.int .i64 ((rd_T25 l0 x13_1).f1.f1))) (fun _ hk => hk.2) (.int .i64 ((rd_T25 l0 x13_1).f1.f2))) (fun _ h_ => h_.1))) hb); replace BK192 := xC1 (o := .cells #[.int .i64 ((rd_T25 l0 x13_1).f0.f0), .int .i64 ((rd_T25 l0 x13_1).f0.f1), .int .i64 ((rd_T25 l0 x13_1).f0.f2), .int .i64 ((rd_T25 l0 x13_1).f1.f0), .int .i64 ((rd_T25 l0 x13_1).f1.f1), .int .i64 ((rd_T25 l0 x13_1).f1.f2)] 25 (0, 0)) (kkC BK192.out) hb; replace HB := bS HB hb; (try clear hb); (try clear hb2); (try clear hk); (try clear hi)) | ((with_reducible refine gd (N := 10) rfl ?_); refine be ?hg (N := 10) ?hd (cs := #[.int .i64 0, .int .i64 0]) (t := 72) ?hr ?_; (case hd | hg => rfl); (case hr => first | (go_simp; done) | (go_simp; rfl)); intro gb207 hg w77 hbox hb; replace HO_7 := dR HO_7 hb; have BK207 := am hbox; have GW207 := sG HB hg; have GE207 := sG HB hg; replace HB := bS HB hb; have NB192_207 := nL BK192 hg; have NB207_192 := nG BK192 hg; replace BK192 := bB BK192 hb; clear hb hbox hg; have hnb78 := NB207_192.out; have hnc78 := NB192_207.out; obtain ⟨_, _, _, _⟩ := zC2 BK207))
     go_roundg k1
     case measure => have := HK1.out; omega
     case rel => exact ⟨(x7_1), (wrap64 (x13_1 + 1)), sqD, H', ⟨by have := HK1.out; omega⟩, ⟨by (with_reducible repeat (first | apply Kd.R_alloc | apply Kd.R_drewN | apply Kd.R_drew)); exact Kd.R_mono (Kd.R_far (p := ⟨gb207, 1, none⟩) (Kd.R_far (p := ⟨gb207, 0, none⟩) (Kd.R_types HO_7.out BK207.out (by decide)) (fun _ hk => hk.2) (.int .i64 t197)) (fun _ hk => hk.2) (.int .i64 t198)) (fun _ hk => trivial)⟩, ⟨fW HB.out⟩⟩
    rw [if_pos c57] at H
    have c57b0 : decide (t197 ≤ a2) = true := decide_eq_true c57
    clear c57
    by_cases c58 : a2 < t198
    ·rw [if_pos c58] at H
     have c58b0 : decide (a2 < t198) = true := decide_eq_true c58
     clear c58
     by_cases c59 : x7_1.length < 2932031007402
     rotate_left
     ·rw [if_neg c59] at H
      exact absurd H (by simp)
     rw [if_pos c59] at H
     have LMc59 := am c59
     clear c59
     obtain ⟨y208, hy208⟩ : ∃ y_ : List (S25), y_ = (x7_1 ++ [(⟨(⟨(rd_T25 l0 x13_1).f0.f0, (rd_T25 l0 x13_1).f0.f1, (rd_T25 l0 x13_1).f0.f2⟩ : S23), (⟨(rd_T25 l0 x13_1).f1.f0, (rd_T25 l0 x13_1).f1.f1, (rd_T25 l0 x13_1).f1.f2⟩ : S23)⟩ : S25)]) := ⟨_, rfl⟩
     replace H : (box_at.l0 k1 a1 a2 y208 l0 (l0.length : Int) (wrap64 (x13_1 + 1))) = some r := by first | (rw [hy208]; with_reducible exact H) | (have H2_ := (Option.bind_some _ _).symm.trans H; rw [hy208]; with_reducible exact H2_) | (have H2_ := (Option.bind_some _ _).symm.trans H; with_reducible exact H2_) | with_reducible exact H | (rw [hy208]; exact H) | exact H
     have Ny208 := am hy208
     clear hy208
     have H' := am H
     clear H
     have p191 : 0 ≤ (x13_1 : Int) := of_decide_eq_true (by assumption)
     have q191 : x13_1 < (l0.length : Int) := of_decide_eq_true (by assumption)
     obtain ⟨ad191, e191, hx191_0, hx191_1, hx191_2, hx191_3, hx191_4, hx191_5⟩ := at_T25 HR0.out x13_1 p191 q191
     cases e191
     replace hx191_0 := cl HB hx191_0
     replace hx191_1 := cl HB hx191_1
     replace hx191_2 := cl HB hx191_2
     replace hx191_3 := cl HB hx191_3
     replace hx191_4 := cl HB hx191_4
     replace hx191_5 := cl HB hx191_5
     replace p191 := eq_true p191
     replace q191 := eq_true q191
     go_wp2_with (first | ((with_reducible refine gd (N := 9) rfl ?_); refine be ?hg (N := 9) ?hd (cs := #[.int .i64 0, .int .i64 0, .int .i64 0, .int .i64 0, .int .i64 0, .int .i64 0]) (t := 25) ?hr ?_; (case hd | hg => rfl); (case hr => first | (go_simp; done) | (go_simp; rfl)); intro gb192 hg w60 hbox hb; replace HO_7 := eR HO_7 hg hb; have BK192 := am hbox; have GW192 := sG HB hg; have GE192 := sG HB hg; replace HB := bS HB hb; clear hb hbox hg; obtain ⟨_, _, _, _, _, _, _, _, _, _, _, _⟩ := zC6 BK192) | ((with_reducible refine gc (f := 52) rfl ?_); refine goesL_ (some 18) rfl rfl Try.func52 (by kernel_rfl) rfl #[.agg #[.int .i64 ((rd_T25 l0 x13_1).f0.f0), .int .i64 ((rd_T25 l0 x13_1).f0.f1), .int .i64 ((rd_T25 l0 x13_1).f0.f2), .int .i64 ((rd_T25 l0 x13_1).f1.f0), .int .i64 ((rd_T25 l0 x13_1).f1.f1), .int .i64 ((rd_T25 l0 x13_1).f1.f2)]] rfl (by (try simp only [pml]); first | done | rfl | (simp only [pdt]; rfl)) ?_; (with_reducible refine (box_sides.calls ((rd_T25 l0 x13_1).f0.f0) ((rd_T25 l0 x13_1).f0.f1) ((rd_T25 l0 x13_1).f0.f2) ((rd_T25 l0 x13_1).f1.f0) ((rd_T25 l0 x13_1).f1.f1) ((rd_T25 l0 x13_1).f1.f2) t193 t194 t195 t196 t197 t198 _ A7.out).mono ?_); rintro e w62 ⟨rfl, hb⟩; refine ⟨_, rfl, ?_⟩; replace HO_7 := am (Kd.R_below (by (with_reducible repeat (first | apply Kd.R_alloc | apply Kd.R_drewN | apply Kd.R_drew)); exact (Kd.R_mono (Kd.R_far (p := ⟨gb192, 5, none⟩) (Kd.R_far (p := ⟨gb192, 4, none⟩) (Kd.R_far (p := ⟨gb192, 3, none⟩) (Kd.R_far (p := ⟨gb192, 2, none⟩) (Kd.R_far (p := ⟨gb192, 1, none⟩) (Kd.R_far (p := ⟨gb192, 0, none⟩) (Kd.R_mono HO_7.out (fun k_ hk => (⟨hk, hk.2⟩ : _ ∧ k_ ≠ gb192))) (fun _ hk => hk.2) (.int .i64 ((rd_T25 l0 x13_1).f0.f0))) (fun _ hk => hk.2) (.int .i64 ((rd_T25 l0 x13_1).f0.f1))) (fun _ hk => hk.2) (.int .i64 ((rd_T25 l0 x13_1).f0.f2))) (fun _ hk => hk.2) (.int .i64 ((rd_T25 l0 x13_1).f1.f0))) (fun _ hk => hk.2) (.int .i64 ((rd_T25 l0 x13_1).f1.f1))) (fun _ hk => hk.2) (.int .i64 ((rd_T25 l0 x13_1).f1.f2))) (fun _ h_ => h_.1))) hb); replace BK192 := xC1 (o := .cells #[.int .i64 ((rd_T25 l0 x13_1).f0.f0), .int .i64 ((rd_T25 l0 x13_1).f0.f1), .int .i64 ((rd_T25 l0 x13_1).f0.f2), .int .i64 ((rd_T25 l0 x13_1).f1.f0), .int .i64 ((rd_T25 l0 x13_1).f1.f1), .int .i64 ((rd_T25 l0 x13_1).f1.f2)] 25 (0, 0)) (kkC BK192.out) hb; replace HB := bS HB hb; (try clear hb); (try clear hb2); (try clear hk); (try clear hi)) | ((with_reducible refine gd (N := 10) rfl ?_); refine be ?hg (N := 10) ?hd (cs := #[.int .i64 0, .int .i64 0]) (t := 72) ?hr ?_; (case hd | hg => rfl); (case hr => first | (go_simp; done) | (go_simp; rfl)); intro gb207 hg w63 hbox hb; replace HO_7 := dR HO_7 hb; have BK207 := am hbox; have GW207 := sG HB hg; have GE207 := sG HB hg; replace HB := bS HB hb; have NB192_207 := nL BK192 hg; have NB207_192 := nG BK192 hg; replace BK192 := bB BK192 hb; clear hb hbox hg; have hnb64 := NB207_192.out; have hnc64 := NB192_207.out; obtain ⟨_, _, _, _⟩ := zC2 BK207; obtain ⟨_, _, _, _, _, _, _, _, _, _, _, _⟩ := zC6 BK192) | ((with_reducible refine gate_builtin (b := .append) (xs := #[.tmp 31, .tmp 33]) rfl ?_); at_builtin; refine Kd.R_append k25 (w0 := w) w.heap.size rfl (.tmp 31) (.tmp 33) 26 25 (.agg #[(.int .i64 0), (.int .i64 0), (.int .i64 0), (.int .i64 0), (.int .i64 0), (.int .i64 0)]) 48 rfl Try.underlying26 info25 rfl (by decide) (by omega) u7 x7_1 (⟨(⟨(rd_T25 l0 x13_1).f0.f0, (rd_T25 l0 x13_1).f0.f1, (rd_T25 l0 x13_1).f0.f2⟩ : S23), (⟨(rd_T25 l0 x13_1).f1.f0, (rd_T25 l0 x13_1).f1.f1, (rd_T25 l0 x13_1).f1.f2⟩ : S23)⟩ : S25) [.int .i64 ((rd_T25 l0 x13_1).f0.f0), .int .i64 ((rd_T25 l0 x13_1).f0.f1), .int .i64 ((rd_T25 l0 x13_1).f0.f2), .int .i64 ((rd_T25 l0 x13_1).f1.f0), .int .i64 ((rd_T25 l0 x13_1).f1.f1), .int .i64 ((rd_T25 l0 x13_1).f1.f2)] (fun k_ => k_ ≠ gb192) (fun _ => False) rfl (by first | (go_simp; done) | (go_simp; rfl)) ?aP (fun _ hk => hk.elim) ?aF ?aO ?aB ?aS ?aL ?_; (case aP => exact k25_mkM _ _ _ (⟨(⟨(rd_T25 l0 x13_1).f0.f0, (rd_T25 l0 x13_1).f0.f1, (rd_T25 l0 x13_1).f0.f2⟩ : S23), (⟨(rd_T25 l0 x13_1).f1.f0, (rd_T25 l0 x13_1).f1.f1, (rd_T25 l0 x13_1).f1.f2⟩ : S23)⟩ : S25)); (case aB => exact (fW HB.out)); (case aF => exact (fun k_ hk => Kd.freshB (g := gb192) (o := .cells #[.int .i64 ((rd_T25 l0 x13_1).f0.f0), .int .i64 ((rd_T25 l0 x13_1).f0.f1), .int .i64 ((rd_T25 l0 x13_1).f0.f2), .int .i64 ((rd_T25 l0 x13_1).f1.f0), .int .i64 ((rd_T25 l0 x13_1).f1.f1), .int .i64 ((rd_T25 l0 x13_1).f1.f2)] 25 (0, 0)) (kfC BK192.out) k_ hk)); (case aO => exact (by (with_reducible repeat (first | apply Kd.R_alloc | apply Kd.R_drewN | apply Kd.R_drew)); exact Kd.R_mono (Kd.R_far (p := ⟨gb207, 1, none⟩) (Kd.R_far (p := ⟨gb207, 0, none⟩) (Kd.R_types HO_7.out BK207.out (by decide)) (fun _ hk => hk.2) (.int .i64 t197)) (fun _ hk => hk.2) (.int .i64 t198)) (fun _ hk => hk.1.2))); (case aS => exact (below_size (fW HB.out))); (case aL => have := LMc59.out; omega); intro v209 w67 ho hb hg hat; rw [← Ny208.out] at ho; replace BK192 := am (blk_grown (g := gb192) (o := .cells #[.int .i64 ((rd_T25 l0 x13_1).f0.f0), .int .i64 ((rd_T25 l0 x13_1).f0.f1), .int .i64 ((rd_T25 l0 x13_1).f0.f2), .int .i64 ((rd_T25 l0 x13_1).f1.f0), .int .i64 ((rd_T25 l0 x13_1).f1.f1), .int .i64 ((rd_T25 l0 x13_1).f1.f2)] 25 (0, 0)) (kfC BK192.out) hg (Kd.R_away HO_7.out (fun _ hk => hk.2))); replace BK207 := am (blk_grown (g := gb207) (o := .cells #[.int .i64 t197, .int .i64 t198] 72 (0, 0)) (kkC BK207.out) hg (Kd.R_ne HO_7.out BK207.out (by decide))); replace HB := am (hb); have HO210 := am (ho); clear HO_7 ho hb hg hat))
     go_roundg k1
     case measure => have := HK1.out; omega
     case rel => exact ⟨(y208), (wrap64 (x13_1 + 1)), sqD, H', ⟨by have := HK1.out; omega⟩, ⟨by (with_reducible repeat (first | apply Kd.R_alloc | apply Kd.R_drewN | apply Kd.R_drew)); exact Kd.R_mono HO210.out (fun _ hk => trivial)⟩, ⟨fW HB.out⟩⟩
    rw [if_neg c58] at H
    have c58b0 : decide (a2 < t198) = false := decide_eq_false c58
    clear c58
    have H' := am H
    clear H
    have p191 : 0 ≤ (x13_1 : Int) := of_decide_eq_true (by assumption)
    have q191 : x13_1 < (l0.length : Int) := of_decide_eq_true (by assumption)
    obtain ⟨ad191, e191, hx191_0, hx191_1, hx191_2, hx191_3, hx191_4, hx191_5⟩ := at_T25 HR0.out x13_1 p191 q191
    cases e191
    replace hx191_0 := cl HB hx191_0
    replace hx191_1 := cl HB hx191_1
    replace hx191_2 := cl HB hx191_2
    replace hx191_3 := cl HB hx191_3
    replace hx191_4 := cl HB hx191_4
    replace hx191_5 := cl HB hx191_5
    replace p191 := eq_true p191
    replace q191 := eq_true q191
    go_wp2_with (first | ((with_reducible refine gd (N := 9) rfl ?_); refine be ?hg (N := 9) ?hd (cs := #[.int .i64 0, .int .i64 0, .int .i64 0, .int .i64 0, .int .i64 0, .int .i64 0]) (t := 25) ?hr ?_; (case hd | hg => rfl); (case hr => first | (go_simp; done) | (go_simp; rfl)); intro gb192 hg w68 hbox hb; replace HO_7 := eR HO_7 hg hb; have BK192 := am hbox; have GW192 := sG HB hg; have GE192 := sG HB hg; replace HB := bS HB hb; clear hb hbox hg; obtain ⟨_, _, _, _, _, _, _, _, _, _, _, _⟩ := zC6 BK192) | ((with_reducible refine gc (f := 52) rfl ?_); refine goesL_ (some 18) rfl rfl Try.func52 (by kernel_rfl) rfl #[.agg #[.int .i64 ((rd_T25 l0 x13_1).f0.f0), .int .i64 ((rd_T25 l0 x13_1).f0.f1), .int .i64 ((rd_T25 l0 x13_1).f0.f2), .int .i64 ((rd_T25 l0 x13_1).f1.f0), .int .i64 ((rd_T25 l0 x13_1).f1.f1), .int .i64 ((rd_T25 l0 x13_1).f1.f2)]] rfl (by (try simp only [pml]); first | done | rfl | (simp only [pdt]; rfl)) ?_; (with_reducible refine (box_sides.calls ((rd_T25 l0 x13_1).f0.f0) ((rd_T25 l0 x13_1).f0.f1) ((rd_T25 l0 x13_1).f0.f2) ((rd_T25 l0 x13_1).f1.f0) ((rd_T25 l0 x13_1).f1.f1) ((rd_T25 l0 x13_1).f1.f2) t193 t194 t195 t196 t197 t198 _ A7.out).mono ?_); rintro e w70 ⟨rfl, hb⟩; refine ⟨_, rfl, ?_⟩; replace HO_7 := am (Kd.R_below (by (with_reducible repeat (first | apply Kd.R_alloc | apply Kd.R_drewN | apply Kd.R_drew)); exact (Kd.R_mono (Kd.R_far (p := ⟨gb192, 5, none⟩) (Kd.R_far (p := ⟨gb192, 4, none⟩) (Kd.R_far (p := ⟨gb192, 3, none⟩) (Kd.R_far (p := ⟨gb192, 2, none⟩) (Kd.R_far (p := ⟨gb192, 1, none⟩) (Kd.R_far (p := ⟨gb192, 0, none⟩) (Kd.R_mono HO_7.out (fun k_ hk => (⟨hk, hk.2⟩ : _ ∧ k_ ≠ gb192))) (fun _ hk => hk.2) (.int .i64 ((rd_T25 l0 x13_1).f0.f0))) (fun _ hk => hk.2) (.int .i64 ((rd_T25 l0 x13_1).f0.f1))) (fun _ hk => hk.2) (.int .i64 ((rd_T25 l0 x13_1).f0.f2))) (fun _ hk => hk.2) (.int .i64 ((rd_T25 l0 x13_1).f1.f0))) (fun _ hk => hk.2) (.int .i64 ((rd_T25 l0 x13_1).f1.f1))) (fun _ hk => hk.2) (.int .i64 ((rd_T25 l0 x13_1).f1.f2))) (fun _ h_ => h_.1))) hb); replace BK192 := xC1 (o := .cells #[.int .i64 ((rd_T25 l0 x13_1).f0.f0), .int .i64 ((rd_T25 l0 x13_1).f0.f1), .int .i64 ((rd_T25 l0 x13_1).f0.f2), .int .i64 ((rd_T25 l0 x13_1).f1.f0), .int .i64 ((rd_T25 l0 x13_1).f1.f1), .int .i64 ((rd_T25 l0 x13_1).f1.f2)] 25 (0, 0)) (kkC BK192.out) hb; replace HB := bS HB hb; (try clear hb); (try clear hb2); (try clear hk); (try clear hi)) | ((with_reducible refine gd (N := 10) rfl ?_); refine be ?hg (N := 10) ?hd (cs := #[.int .i64 0, .int .i64 0]) (t := 72) ?hr ?_; (case hd | hg => rfl); (case hr => first | (go_simp; done) | (go_simp; rfl)); intro gb207 hg w71 hbox hb; replace HO_7 := dR HO_7 hb; have BK207 := am hbox; have GW207 := sG HB hg; have GE207 := sG HB hg; replace HB := bS HB hb; have NB192_207 := nL BK192 hg; have NB207_192 := nG BK192 hg; replace BK192 := bB BK192 hb; clear hb hbox hg; have hnb72 := NB207_192.out; have hnc72 := NB192_207.out; obtain ⟨_, _, _, _⟩ := zC2 BK207))
    go_roundg k1
    case measure => have := HK1.out; omega
    case rel => exact ⟨(x7_1), (wrap64 (x13_1 + 1)), sqD, H', ⟨by have := HK1.out; omega⟩, ⟨by (with_reducible repeat (first | apply Kd.R_alloc | apply Kd.R_drewN | apply Kd.R_drew)); exact Kd.R_mono (Kd.R_far (p := ⟨gb207, 1, none⟩) (Kd.R_far (p := ⟨gb207, 0, none⟩) (Kd.R_types HO_7.out BK207.out (by decide)) (fun _ hk => hk.2) (.int .i64 t197)) (fun _ hk => hk.2) (.int .i64 t198)) (fun _ hk => trivial)⟩, ⟨fW HB.out⟩⟩
   ·rw [if_neg c4] at H
    have c4b0 : decide (x13_1 < (l0.length : Int)) = false := decide_eq_false c4
    clear c4
    obtain rfl := Option.some.inj H
    go_wp2
    go_ret
    exact ⟨_, sqE, fR HO_7.out, fW HB.out⟩

end Go.Proofs.Ytmmdikhmlmoolaa.QA
