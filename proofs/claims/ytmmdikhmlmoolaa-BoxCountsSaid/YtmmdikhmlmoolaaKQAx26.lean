import Derived.Test.YtmmdikhmlmoolaaKQAx0
import Derived.Test.YtmmdikhmlmoolaaKQAx18
import Derived.Test.YtmmdikhmlmoolaaKQAx20
namespace Go.Proofs.Ytmmdikhmlmoolaa.QA
open Go.RowKit Go.Proofs.YtmmdikhmlmoolaaW.PrintWords Go.Proofs.YtmmdikhmlmoolaaW.PrintLast Go.Proofs.YtmmdikhmlmoolaaW.PrintMore
open Go.Proofs.YtmmdikhmlmoolaaW.PrintWords renaming below_size → wz, gate_dst → gd, box_event → be
open Aside0 renaming mk → am
open World renaming block_lt_of_cell? → bq
attribute [local go_sem] max2_int min2_int max_two min_two max_three min_three max_four min_four
set_option linter.unusedVariables false
set_option linter.unusedSimpArgs false

def r_Subtract.l0 : Nat → List (S25) → List (S25) → Int → Option ((List (S25)))
 | 0, _, _, _ => none
 | k + 1, x11, x12, x13 => if x13 < (x11.length : Int) then (if 0 ≤ x13 then ((r_full.f k ((rd_T25 x11 x13).f0.f0) ((rd_T25 x11 x13).f0.f1) ((rd_T25 x11 x13).f0.f2) ((rd_T25 x11 x13).f1.f0) ((rd_T25 x11 x13).f1.f1) ((rd_T25 x11 x13).f1.f2)).bind fun t611 => (if t611 = true then (if x12.length < 2932031007402 then (r_Subtract.l0 k x11 (x12 ++ [(⟨(⟨(rd_T25 x11 x13).f0.f0, (rd_T25 x11 x13).f0.f1, (rd_T25 x11 x13).f0.f2⟩ : S23), (⟨(rd_T25 x11 x13).f1.f0, (rd_T25 x11 x13).f1.f1, (rd_T25 x11 x13).f1.f2⟩ : S23)⟩ : S25)]) (wrap64 (x13 + 1))) else (none)) else (r_Subtract.l0 k x11 x12 (wrap64 (x13 + 1))))) else (none)) else (some x12)
def r_Subtract.f (k : Nat) (a0_0 : Int) (a0_1 : Int) (a0_2 : Int) (a0_3 : Int) (a0_4 : Int) (a0_5 : Int) (a1_0 : Int) (a1_1 : Int) (a1_2 : Int) (a1_3 : Int) (a1_4 : Int) (a1_5 : Int) : Option ((List (S25))) := (r_Intersect.f k a0_0 a0_1 a0_2 a0_3 a0_4 a0_5 a1_0 a1_1 a1_2 a1_3 a1_4 a1_5).bind fun bt596 => (if bt596.2.2.2.2.2.2 = true then (r_Subtract.l0 k (([(⟨(⟨a0_0, a0_1, a0_2⟩ : S23), (⟨a0_3, a0_4, bt596.2.2.1⟩ : S23)⟩ : S25), (⟨(⟨a0_0, a0_1, bt596.2.2.2.2.2.1⟩ : S23), (⟨a0_3, a0_4, a0_5⟩ : S23)⟩ : S25), (⟨(⟨a0_0, a0_1, bt596.2.2.1⟩ : S23), (⟨a0_3, bt596.2.1, bt596.2.2.2.2.2.1⟩ : S23)⟩ : S25), (⟨(⟨a0_0, bt596.2.2.2.2.1, bt596.2.2.1⟩ : S23), (⟨a0_3, a0_4, bt596.2.2.2.2.2.1⟩ : S23)⟩ : S25), (⟨(⟨a0_0, bt596.2.1, bt596.2.2.1⟩ : S23), (⟨bt596.1, bt596.2.2.2.2.1, bt596.2.2.2.2.2.1⟩ : S23)⟩ : S25), (⟨(⟨bt596.2.2.2.1, bt596.2.1, bt596.2.2.1⟩ : S23), (⟨a0_3, bt596.2.2.2.2.1, bt596.2.2.2.2.2.1⟩ : S23)⟩ : S25)] : List (S25))) ([] : List (S25)) 0) else (some (([(⟨(⟨a0_0, a0_1, a0_2⟩ : S23), (⟨a0_3, a0_4, a0_5⟩ : S23)⟩ : S25)] : List (S25)))))
set_option maxHeartbeats 8000000 in
set_option maxRecDepth 100000 in
theorem r_Subtract.calls (k : Nat) (a0_0 : Int) (a0_1 : Int) (a0_2 : Int) (a0_3 : Int) (a0_4 : Int) (a0_5 : Int) (a1_0 : Int) (a1_1 : Int) (a1_2 : Int) (a1_3 : Int) (a1_4 : Int) (a1_5 : Int) (r : List (S25)) (w : World) (h : r_Subtract.f k a0_0 a0_1 a0_2 a0_3 a0_4 a0_5 a1_0 a1_1 a1_2 a1_3 a1_4 a1_5 = some r) :
  Calls Try.prog 37 #[.agg #[.int .i64 a0_0, .int .i64 a0_1, .int .i64 a0_2, .int .i64 a0_3, .int .i64 a0_4, .int .i64 a0_5], .agg #[.int .i64 a1_0, .int .i64 a1_1, .int .i64 a1_2, .int .i64 a1_3, .int .i64 a1_4, .int .i64 a1_5]] w fun e w' => ∃ v0_ : Value, e = .returned (v0_) ∧ Kd.R k25 25 w' w.heap.size (fun _ => True) v0_ r ∧ Below w.heap.size w w' := by
 have hu25 := Try.underlying25
 have hu23 := Try.underlying23
 have HB := am (Below.refl w.heap.size w)
 have H : ((r_Intersect.f k a0_0 a0_1 a0_2 a0_3 a0_4 a0_5 a1_0 a1_1 a1_2 a1_3 a1_4 a1_5).bind fun bt596 => (if bt596.2.2.2.2.2.2 = true then (r_Subtract.l0 k (([(⟨(⟨a0_0, a0_1, a0_2⟩ : S23), (⟨a0_3, a0_4, bt596.2.2.1⟩ : S23)⟩ : S25), (⟨(⟨a0_0, a0_1, bt596.2.2.2.2.2.1⟩ : S23), (⟨a0_3, a0_4, a0_5⟩ : S23)⟩ : S25), (⟨(⟨a0_0, a0_1, bt596.2.2.1⟩ : S23), (⟨a0_3, bt596.2.1, bt596.2.2.2.2.2.1⟩ : S23)⟩ : S25), (⟨(⟨a0_0, bt596.2.2.2.2.1, bt596.2.2.1⟩ : S23), (⟨a0_3, a0_4, bt596.2.2.2.2.2.1⟩ : S23)⟩ : S25), (⟨(⟨a0_0, bt596.2.1, bt596.2.2.1⟩ : S23), (⟨bt596.1, bt596.2.2.2.2.1, bt596.2.2.2.2.2.1⟩ : S23)⟩ : S25), (⟨(⟨bt596.2.2.2.1, bt596.2.1, bt596.2.2.1⟩ : S23), (⟨a0_3, bt596.2.2.2.2.1, bt596.2.2.2.2.2.1⟩ : S23)⟩ : S25)] : List (S25))) ([] : List (S25)) 0) else (some (([(⟨(⟨a0_0, a0_1, a0_2⟩ : S23), (⟨a0_3, a0_4, a0_5⟩ : S23)⟩ : S25)] : List (S25)))))) = some r := h
 clear h
 replace H := Option.bind_eq_some_iff.mp H
 obtain ⟨⟨t596, t597, t598, t599, t600, t601, t602⟩, A30, H⟩ := H
 replace H : (if t602 = true then (r_Subtract.l0 k (([(⟨(⟨a0_0, a0_1, a0_2⟩ : S23), (⟨a0_3, a0_4, t598⟩ : S23)⟩ : S25), (⟨(⟨a0_0, a0_1, t601⟩ : S23), (⟨a0_3, a0_4, a0_5⟩ : S23)⟩ : S25), (⟨(⟨a0_0, a0_1, t598⟩ : S23), (⟨a0_3, t597, t601⟩ : S23)⟩ : S25), (⟨(⟨a0_0, t600, t598⟩ : S23), (⟨a0_3, a0_4, t601⟩ : S23)⟩ : S25), (⟨(⟨a0_0, t597, t598⟩ : S23), (⟨t596, t600, t601⟩ : S23)⟩ : S25), (⟨(⟨t599, t597, t598⟩ : S23), (⟨a0_3, t600, t601⟩ : S23)⟩ : S25)] : List (S25))) ([] : List (S25)) 0) else (some (([(⟨(⟨a0_0, a0_1, a0_2⟩ : S23), (⟨a0_3, a0_4, a0_5⟩ : S23)⟩ : S25)] : List (S25))))) = some r := H
 have A3 := am A30
 clear A30
 by_cases c4 : t602 = true
 ·subst c4
  have H1 : (r_Subtract.l0 k (([(⟨(⟨a0_0, a0_1, a0_2⟩ : S23), (⟨a0_3, a0_4, t598⟩ : S23)⟩ : S25), (⟨(⟨a0_0, a0_1, t601⟩ : S23), (⟨a0_3, a0_4, a0_5⟩ : S23)⟩ : S25), (⟨(⟨a0_0, a0_1, t598⟩ : S23), (⟨a0_3, t597, t601⟩ : S23)⟩ : S25), (⟨(⟨a0_0, t600, t598⟩ : S23), (⟨a0_3, a0_4, t601⟩ : S23)⟩ : S25), (⟨(⟨a0_0, t597, t598⟩ : S23), (⟨t596, t600, t601⟩ : S23)⟩ : S25), (⟨(⟨t599, t597, t598⟩ : S23), (⟨a0_3, t600, t601⟩ : S23)⟩ : S25)] : List (S25))) ([] : List (S25)) 0) = some r := by rw [if_pos rfl] at H; exact H
  clear H
  have H := H1
  clear H1
  obtain ⟨y607, hy607⟩ : ∃ y_ : List (S25), y_ = (([(⟨(⟨a0_0, a0_1, a0_2⟩ : S23), (⟨a0_3, a0_4, t598⟩ : S23)⟩ : S25), (⟨(⟨a0_0, a0_1, t601⟩ : S23), (⟨a0_3, a0_4, a0_5⟩ : S23)⟩ : S25), (⟨(⟨a0_0, a0_1, t598⟩ : S23), (⟨a0_3, t597, t601⟩ : S23)⟩ : S25), (⟨(⟨a0_0, t600, t598⟩ : S23), (⟨a0_3, a0_4, t601⟩ : S23)⟩ : S25), (⟨(⟨a0_0, t597, t598⟩ : S23), (⟨t596, t600, t601⟩ : S23)⟩ : S25), (⟨(⟨t599, t597, t598⟩ : S23), (⟨a0_3, t600, t601⟩ : S23)⟩ : S25)] : List (S25))) := ⟨_, rfl⟩
  replace H : (r_Subtract.l0 k y607 ([] : List (S25)) 0) = some r := by first | (rw [hy607]; with_reducible exact H) | (have H2_ := (Option.bind_some _ _).symm.trans H; rw [hy607]; with_reducible exact H2_) | (have H2_ := (Option.bind_some _ _).symm.trans H; with_reducible exact H2_) | with_reducible exact H | (rw [hy607]; exact H) | exact H
  have Ny607 := am hy607
  clear hy607
  have H' := am H
  clear H
  go_enter Try.func37, Try.ntmps37
  go_wp2_with (first | ((with_reducible refine gd (N := 2) rfl ?_); refine be ?hg (N := 2) ?hd (cs := #[.int .i64 a0_0, .int .i64 a0_1, .int .i64 a0_2, .int .i64 a0_3, .int .i64 a0_4, .int .i64 a0_5]) (t := 25) ?hr ?_; (case hd | hg => rfl); (case hr => first | (go_simp; done) | (go_simp; rfl)); intro gb594 hg w5 hbox hb; have BK594 := am hbox; have GW594 := sG HB hg; have GE594 := sG HB hg; replace HB := bS HB hb; clear hb hbox hg) | ((with_reducible refine gd (N := 3) rfl ?_); refine be ?hg (N := 3) ?hd (cs := #[.int .i64 a1_0, .int .i64 a1_1, .int .i64 a1_2, .int .i64 a1_3, .int .i64 a1_4, .int .i64 a1_5]) (t := 25) ?hr ?_; (case hd | hg => rfl); (case hr => first | (go_simp; done) | (go_simp; rfl)); intro gb595 hg w6 hbox hb; have BK595 := am hbox; have GW595 := sG HB hg; have GE595 := sG HB hg; replace HB := bS HB hb; have NB594_595 := nL BK594 hg; have NB595_594 := nG BK594 hg; replace BK594 := bB BK594 hb; clear hb hbox hg; have hnb7 := NB594_595.out; have hnc7 := NB595_594.out; obtain ⟨_, _, _, _, _, _, _, _, _, _, _, _⟩ := zC6 BK594; obtain ⟨_, _, _, _, _, _, _, _, _, _, _, _⟩ := zC6 BK595) | (go_at_call 28; (with_reducible refine (r_Intersect.calls k a0_0 a0_1 a0_2 a0_3 a0_4 a0_5 a1_0 a1_1 a1_2 a1_3 a1_4 a1_5 t596 t597 t598 t599 t600 t601 true _ A3.out).mono ?_); rintro e w10 ⟨rfl, hb⟩; replace BK594 := bB BK594 hb; replace BK595 := bB BK595 hb; replace HB := bS HB hb; (try clear hb); (try clear hb2); (try clear hk); (try clear hi)) | ((with_reducible refine gd (N := 5) rfl ?_); refine be ?hg (N := 5) ?hd (cs := #[.int .i64 0, .int .i64 0, .int .i64 0, .int .i64 0, .int .i64 0, .int .i64 0]) (t := 25) ?hr ?_; (case hd | hg => rfl); (case hr => first | (go_simp; done) | (go_simp; rfl)); intro gb603 hg w11 hbox hb; have BK603 := am hbox; have GW603 := sG HB hg; have GE603 := sG HB hg; replace HB := bS HB hb; have NB594_603 := nL BK594 hg; have NB603_594 := nG BK594 hg; replace BK594 := bB BK594 hb; have NB595_603 := nL BK595 hg; have NB603_595 := nG BK595 hg; replace BK595 := bB BK595 hb; clear hb hbox hg; have hnb12 := NB603_594.out; have hnc12 := NB594_603.out; have hnb13 := NB603_595.out; have hnc13 := NB595_603.out; obtain ⟨_, _, _, _, _, _, _, _, _, _, _, _⟩ := zC6 BK603; obtain ⟨_, _, _, _, _, _, _, _, _, _, _, _⟩ := zC6 BK594) | ((with_reducible refine gd (N := 130) rfl ?_); refine Kd.R_lit k25 _ 25 ?hg (N := 130) ?hd (xs := ([(⟨(⟨a0_0, a0_1, a0_2⟩ : S23), (⟨a0_3, a0_4, t598⟩ : S23)⟩ : S25), (⟨(⟨a0_0, a0_1, t601⟩ : S23), (⟨a0_3, a0_4, a0_5⟩ : S23)⟩ : S25), (⟨(⟨a0_0, a0_1, t598⟩ : S23), (⟨a0_3, t597, t601⟩ : S23)⟩ : S25), (⟨(⟨a0_0, t600, t598⟩ : S23), (⟨a0_3, a0_4, t601⟩ : S23)⟩ : S25), (⟨(⟨a0_0, t597, t598⟩ : S23), (⟨t596, t600, t601⟩ : S23)⟩ : S25), (⟨(⟨t599, t597, t598⟩ : S23), (⟨a0_3, t600, t601⟩ : S23)⟩ : S25)] : List (S25))) (inner := [.int .i64 a0_0, .int .i64 a0_1, .int .i64 a0_2, .int .i64 a0_3, .int .i64 a0_4, .int .i64 t598, .int .i64 a0_0, .int .i64 a0_1, .int .i64 t601, .int .i64 a0_3, .int .i64 a0_4, .int .i64 a0_5, .int .i64 a0_0, .int .i64 a0_1, .int .i64 t598, .int .i64 a0_3, .int .i64 t597, .int .i64 t601, .int .i64 a0_0, .int .i64 t600, .int .i64 t598, .int .i64 a0_3, .int .i64 a0_4, .int .i64 t601, .int .i64 a0_0, .int .i64 t597, .int .i64 t598, .int .i64 t596, .int .i64 t600, .int .i64 t601, .int .i64 t599, .int .i64 t597, .int .i64 t598, .int .i64 a0_3, .int .i64 t600, .int .i64 t601]) (ok := fun _ => True) (okp := fun _ => True) ?hr ?hp (fun _ hk => hk) trivial (Below.refl _ _) (Nat.le_refl _) (by simp) ?_; (case hd | hg => rfl); (case hr => first | (go_simp; done) | (go_simp; rfl)); (case hp => exact (Reps.c6 (show Kd.M k25 _ _ _ (⟨(⟨a0_0, a0_1, a0_2⟩ : S23), (⟨a0_3, a0_4, t598⟩ : S23)⟩ : S25) [.int .i64 a0_0, .int .i64 a0_1, .int .i64 a0_2, .int .i64 a0_3, .int .i64 a0_4, .int .i64 t598] from (k25_mkM _ _ _ (⟨(⟨a0_0, a0_1, a0_2⟩ : S23), (⟨a0_3, a0_4, t598⟩ : S23)⟩ : S25) )) (Reps.c6 (show Kd.M k25 _ _ _ (⟨(⟨a0_0, a0_1, t601⟩ : S23), (⟨a0_3, a0_4, a0_5⟩ : S23)⟩ : S25) [.int .i64 a0_0, .int .i64 a0_1, .int .i64 t601, .int .i64 a0_3, .int .i64 a0_4, .int .i64 a0_5] from (k25_mkM _ _ _ (⟨(⟨a0_0, a0_1, t601⟩ : S23), (⟨a0_3, a0_4, a0_5⟩ : S23)⟩ : S25) )) (Reps.c6 (show Kd.M k25 _ _ _ (⟨(⟨a0_0, a0_1, t598⟩ : S23), (⟨a0_3, t597, t601⟩ : S23)⟩ : S25) [.int .i64 a0_0, .int .i64 a0_1, .int .i64 t598, .int .i64 a0_3, .int .i64 t597, .int .i64 t601] from (k25_mkM _ _ _ (⟨(⟨a0_0, a0_1, t598⟩ : S23), (⟨a0_3, t597, t601⟩ : S23)⟩ : S25) )) (Reps.c6 (show Kd.M k25 _ _ _ (⟨(⟨a0_0, t600, t598⟩ : S23), (⟨a0_3, a0_4, t601⟩ : S23)⟩ : S25) [.int .i64 a0_0, .int .i64 t600, .int .i64 t598, .int .i64 a0_3, .int .i64 a0_4, .int .i64 t601] from (k25_mkM _ _ _ (⟨(⟨a0_0, t600, t598⟩ : S23), (⟨a0_3, a0_4, t601⟩ : S23)⟩ : S25) )) (Reps.c6 (show Kd.M k25 _ _ _ (⟨(⟨a0_0, t597, t598⟩ : S23), (⟨t596, t600, t601⟩ : S23)⟩ : S25) [.int .i64 a0_0, .int .i64 t597, .int .i64 t598, .int .i64 t596, .int .i64 t600, .int .i64 t601] from (k25_mkM _ _ _ (⟨(⟨a0_0, t597, t598⟩ : S23), (⟨t596, t600, t601⟩ : S23)⟩ : S25) )) (Reps.c6 (show Kd.M k25 _ _ _ (⟨(⟨t599, t597, t598⟩ : S23), (⟨a0_3, t600, t601⟩ : S23)⟩ : S25) [.int .i64 t599, .int .i64 t597, .int .i64 t598, .int .i64 a0_3, .int .i64 t600, .int .i64 t601] from (k25_mkM _ _ _ (⟨(⟨t599, t597, t598⟩ : S23), (⟨a0_3, t600, t601⟩ : S23)⟩ : S25) )) (Reps.none _ _)))))))); intro v608 w16 ho17 hb hg_ hnew_; clear hg_ hnew_; (first | rw [← Ny607.out] at ho17 | (simp only [Int.reduceToNat] at ho17; rw [← Ny607.out] at ho17)); have HO609 := am (Kd.R_lower (Kd.R_newB (Kd.R_newB (Kd.R_newB ho17 (g := gb594) (o := .cells #[.int .i64 a0_0, .int .i64 a0_1, .int .i64 a0_2, .int .i64 a0_3, .int .i64 a0_4, .int .i64 a0_5] 25 (0, 0)) (kfC BK594.out)) (g := gb595) (o := .cells #[.int .i64 a1_0, .int .i64 a1_1, .int .i64 a1_2, .int .i64 a1_3, .int .i64 a1_4, .int .i64 a1_5] 25 (0, 0)) (kfC BK595.out)) (g := gb603) (o := .cells #[.int .i64 t596, .int .i64 t597, .int .i64 t598, .int .i64 t599, .int .i64 t600, .int .i64 t601] 25 (0, 0)) (kkC BK603.out)) (wz (fW HB.out))); replace BK594 := xC1 (kfC BK594.out) hb; replace BK595 := xC1 (kfC BK595.out) hb; replace BK603 := xC1 (o := .cells #[.int .i64 t596, .int .i64 t597, .int .i64 t598, .int .i64 t599, .int .i64 t600, .int .i64 t601] 25 (0, 0)) (kkC BK603.out) hb; replace HB := bS HB hb; clear hb ho17))
  repeat (go_quiet (first | ((with_reducible refine gd (N := 2) rfl ?_); refine be ?hg (N := 2) ?hd (cs := #[.int .i64 a0_0, .int .i64 a0_1, .int .i64 a0_2, .int .i64 a0_3, .int .i64 a0_4, .int .i64 a0_5]) (t := 25) ?hr ?_; (case hd | hg => rfl); (case hr => first | (go_simp; done) | (go_simp; rfl)); intro gb594 hg w5 hbox hb; have BK594 := am hbox; have GW594 := sG HB hg; have GE594 := sG HB hg; replace HB := bS HB hb; clear hb hbox hg) | ((with_reducible refine gd (N := 3) rfl ?_); refine be ?hg (N := 3) ?hd (cs := #[.int .i64 a1_0, .int .i64 a1_1, .int .i64 a1_2, .int .i64 a1_3, .int .i64 a1_4, .int .i64 a1_5]) (t := 25) ?hr ?_; (case hd | hg => rfl); (case hr => first | (go_simp; done) | (go_simp; rfl)); intro gb595 hg w6 hbox hb; have BK595 := am hbox; have GW595 := sG HB hg; have GE595 := sG HB hg; replace HB := bS HB hb; have NB594_595 := nL BK594 hg; have NB595_594 := nG BK594 hg; replace BK594 := bB BK594 hb; clear hb hbox hg; have hnb7 := NB594_595.out; have hnc7 := NB595_594.out; obtain ⟨_, _, _, _, _, _, _, _, _, _, _, _⟩ := zC6 BK594; obtain ⟨_, _, _, _, _, _, _, _, _, _, _, _⟩ := zC6 BK595) | (go_at_call 28; (with_reducible refine (r_Intersect.calls k a0_0 a0_1 a0_2 a0_3 a0_4 a0_5 a1_0 a1_1 a1_2 a1_3 a1_4 a1_5 t596 t597 t598 t599 t600 t601 true _ A3.out).mono ?_); rintro e w10 ⟨rfl, hb⟩; replace BK594 := bB BK594 hb; replace BK595 := bB BK595 hb; replace HB := bS HB hb; (try clear hb); (try clear hb2); (try clear hk); (try clear hi)) | ((with_reducible refine gd (N := 5) rfl ?_); refine be ?hg (N := 5) ?hd (cs := #[.int .i64 0, .int .i64 0, .int .i64 0, .int .i64 0, .int .i64 0, .int .i64 0]) (t := 25) ?hr ?_; (case hd | hg => rfl); (case hr => first | (go_simp; done) | (go_simp; rfl)); intro gb603 hg w11 hbox hb; have BK603 := am hbox; have GW603 := sG HB hg; have GE603 := sG HB hg; replace HB := bS HB hb; have NB594_603 := nL BK594 hg; have NB603_594 := nG BK594 hg; replace BK594 := bB BK594 hb; have NB595_603 := nL BK595 hg; have NB603_595 := nG BK595 hg; replace BK595 := bB BK595 hb; clear hb hbox hg; have hnb12 := NB603_594.out; have hnc12 := NB594_603.out; have hnb13 := NB603_595.out; have hnc13 := NB595_603.out; obtain ⟨_, _, _, _, _, _, _, _, _, _, _, _⟩ := zC6 BK603; obtain ⟨_, _, _, _, _, _, _, _, _, _, _, _⟩ := zC6 BK594) | ((with_reducible refine gd (N := 130) rfl ?_); refine Kd.R_lit k25 _ 25 ?hg (N := 130) ?hd (xs := ([(⟨(⟨a0_0, a0_1, a0_2⟩ : S23), (⟨a0_3, a0_4, t598⟩ : S23)⟩ : S25), (⟨(⟨a0_0, a0_1, t601⟩ : S23), (⟨a0_3, a0_4, a0_5⟩ : S23)⟩ : S25), (⟨(⟨a0_0, a0_1, t598⟩ : S23), (⟨a0_3, t597, t601⟩ : S23)⟩ : S25), (⟨(⟨a0_0, t600, t598⟩ : S23), (⟨a0_3, a0_4, t601⟩ : S23)⟩ : S25), (⟨(⟨a0_0, t597, t598⟩ : S23), (⟨t596, t600, t601⟩ : S23)⟩ : S25), (⟨(⟨t599, t597, t598⟩ : S23), (⟨a0_3, t600, t601⟩ : S23)⟩ : S25)] : List (S25))) (inner := [.int .i64 a0_0, .int .i64 a0_1, .int .i64 a0_2, .int .i64 a0_3, .int .i64 a0_4, .int .i64 t598, .int .i64 a0_0, .int .i64 a0_1, .int .i64 t601, .int .i64 a0_3, .int .i64 a0_4, .int .i64 a0_5, .int .i64 a0_0, .int .i64 a0_1, .int .i64 t598, .int .i64 a0_3, .int .i64 t597, .int .i64 t601, .int .i64 a0_0, .int .i64 t600, .int .i64 t598, .int .i64 a0_3, .int .i64 a0_4, .int .i64 t601, .int .i64 a0_0, .int .i64 t597, .int .i64 t598, .int .i64 t596, .int .i64 t600, .int .i64 t601, .int .i64 t599, .int .i64 t597, .int .i64 t598, .int .i64 a0_3, .int .i64 t600, .int .i64 t601]) (ok := fun _ => True) (okp := fun _ => True) ?hr ?hp (fun _ hk => hk) trivial (Below.refl _ _) (Nat.le_refl _) (by simp) ?_; (case hd | hg => rfl); (case hr => first | (go_simp; done) | (go_simp; rfl)); (case hp => exact (Reps.c6 (show Kd.M k25 _ _ _ (⟨(⟨a0_0, a0_1, a0_2⟩ : S23), (⟨a0_3, a0_4, t598⟩ : S23)⟩ : S25) [.int .i64 a0_0, .int .i64 a0_1, .int .i64 a0_2, .int .i64 a0_3, .int .i64 a0_4, .int .i64 t598] from (k25_mkM _ _ _ (⟨(⟨a0_0, a0_1, a0_2⟩ : S23), (⟨a0_3, a0_4, t598⟩ : S23)⟩ : S25) )) (Reps.c6 (show Kd.M k25 _ _ _ (⟨(⟨a0_0, a0_1, t601⟩ : S23), (⟨a0_3, a0_4, a0_5⟩ : S23)⟩ : S25) [.int .i64 a0_0, .int .i64 a0_1, .int .i64 t601, .int .i64 a0_3, .int .i64 a0_4, .int .i64 a0_5] from (k25_mkM _ _ _ (⟨(⟨a0_0, a0_1, t601⟩ : S23), (⟨a0_3, a0_4, a0_5⟩ : S23)⟩ : S25) )) (Reps.c6 (show Kd.M k25 _ _ _ (⟨(⟨a0_0, a0_1, t598⟩ : S23), (⟨a0_3, t597, t601⟩ : S23)⟩ : S25) [.int .i64 a0_0, .int .i64 a0_1, .int .i64 t598, .int .i64 a0_3, .int .i64 t597, .int .i64 t601] from (k25_mkM _ _ _ (⟨(⟨a0_0, a0_1, t598⟩ : S23), (⟨a0_3, t597, t601⟩ : S23)⟩ : S25) )) (Reps.c6 (show Kd.M k25 _ _ _ (⟨(⟨a0_0, t600, t598⟩ : S23), (⟨a0_3, a0_4, t601⟩ : S23)⟩ : S25) [.int .i64 a0_0, .int .i64 t600, .int .i64 t598, .int .i64 a0_3, .int .i64 a0_4, .int .i64 t601] from (k25_mkM _ _ _ (⟨(⟨a0_0, t600, t598⟩ : S23), (⟨a0_3, a0_4, t601⟩ : S23)⟩ : S25) )) (Reps.c6 (show Kd.M k25 _ _ _ (⟨(⟨a0_0, t597, t598⟩ : S23), (⟨t596, t600, t601⟩ : S23)⟩ : S25) [.int .i64 a0_0, .int .i64 t597, .int .i64 t598, .int .i64 t596, .int .i64 t600, .int .i64 t601] from (k25_mkM _ _ _ (⟨(⟨a0_0, t597, t598⟩ : S23), (⟨t596, t600, t601⟩ : S23)⟩ : S25) )) (Reps.c6 (show Kd.M k25 _ _ _ (⟨(⟨t599, t597, t598⟩ : S23), (⟨a0_3, t600, t601⟩ : S23)⟩ : S25) [.int .i64 t599, .int .i64 t597, .int .i64 t598, .int .i64 a0_3, .int .i64 t600, .int .i64 t601] from (k25_mkM _ _ _ (⟨(⟨t599, t597, t598⟩ : S23), (⟨a0_3, t600, t601⟩ : S23)⟩ : S25) )) (Reps.none _ _)))))))); intro v608 w16 ho17 hb hg_ hnew_; clear hg_ hnew_; (first | rw [← Ny607.out] at ho17 | (simp only [Int.reduceToNat] at ho17; rw [← Ny607.out] at ho17)); have HO609 := am (Kd.R_lower (Kd.R_newB (Kd.R_newB (Kd.R_newB ho17 (g := gb594) (o := .cells #[.int .i64 a0_0, .int .i64 a0_1, .int .i64 a0_2, .int .i64 a0_3, .int .i64 a0_4, .int .i64 a0_5] 25 (0, 0)) (kfC BK594.out)) (g := gb595) (o := .cells #[.int .i64 a1_0, .int .i64 a1_1, .int .i64 a1_2, .int .i64 a1_3, .int .i64 a1_4, .int .i64 a1_5] 25 (0, 0)) (kfC BK595.out)) (g := gb603) (o := .cells #[.int .i64 t596, .int .i64 t597, .int .i64 t598, .int .i64 t599, .int .i64 t600, .int .i64 t601] 25 (0, 0)) (kkC BK603.out)) (wz (fW HB.out))); replace BK594 := xC1 (kfC BK594.out) hb; replace BK595 := xC1 (kfC BK595.out) hb; replace BK603 := xC1 (o := .cells #[.int .i64 t596, .int .i64 t597, .int .i64 t598, .int .i64 t599, .int .i64 t600, .int .i64 t601] 25 (0, 0)) (kkC BK603.out) hb; replace HB := bS HB hb; clear hb ho17)); try go_wp2_with (first | ((with_reducible refine gd (N := 2) rfl ?_); refine be ?hg (N := 2) ?hd (cs := #[.int .i64 a0_0, .int .i64 a0_1, .int .i64 a0_2, .int .i64 a0_3, .int .i64 a0_4, .int .i64 a0_5]) (t := 25) ?hr ?_; (case hd | hg => rfl); (case hr => first | (go_simp; done) | (go_simp; rfl)); intro gb594 hg w5 hbox hb; have BK594 := am hbox; have GW594 := sG HB hg; have GE594 := sG HB hg; replace HB := bS HB hb; clear hb hbox hg) | ((with_reducible refine gd (N := 3) rfl ?_); refine be ?hg (N := 3) ?hd (cs := #[.int .i64 a1_0, .int .i64 a1_1, .int .i64 a1_2, .int .i64 a1_3, .int .i64 a1_4, .int .i64 a1_5]) (t := 25) ?hr ?_; (case hd | hg => rfl); (case hr => first | (go_simp; done) | (go_simp; rfl)); intro gb595 hg w6 hbox hb; have BK595 := am hbox; have GW595 := sG HB hg; have GE595 := sG HB hg; replace HB := bS HB hb; have NB594_595 := nL BK594 hg; have NB595_594 := nG BK594 hg; replace BK594 := bB BK594 hb; clear hb hbox hg; have hnb7 := NB594_595.out; have hnc7 := NB595_594.out; obtain ⟨_, _, _, _, _, _, _, _, _, _, _, _⟩ := zC6 BK594; obtain ⟨_, _, _, _, _, _, _, _, _, _, _, _⟩ := zC6 BK595) | (go_at_call 28; (with_reducible refine (r_Intersect.calls k a0_0 a0_1 a0_2 a0_3 a0_4 a0_5 a1_0 a1_1 a1_2 a1_3 a1_4 a1_5 t596 t597 t598 t599 t600 t601 true _ A3.out).mono ?_); rintro e w10 ⟨rfl, hb⟩; replace BK594 := bB BK594 hb; replace BK595 := bB BK595 hb; replace HB := bS HB hb; (try clear hb); (try clear hb2); (try clear hk); (try clear hi)) | ((with_reducible refine gd (N := 5) rfl ?_); refine be ?hg (N := 5) ?hd (cs := #[.int .i64 0, .int .i64 0, .int .i64 0, .int .i64 0, .int .i64 0, .int .i64 0]) (t := 25) ?hr ?_; (case hd | hg => rfl); (case hr => first | (go_simp; done) | (go_simp; rfl)); intro gb603 hg w11 hbox hb; have BK603 := am hbox; have GW603 := sG HB hg; have GE603 := sG HB hg; replace HB := bS HB hb; have NB594_603 := nL BK594 hg; have NB603_594 := nG BK594 hg; replace BK594 := bB BK594 hb; have NB595_603 := nL BK595 hg; have NB603_595 := nG BK595 hg; replace BK595 := bB BK595 hb; clear hb hbox hg; have hnb12 := NB603_594.out; have hnc12 := NB594_603.out; have hnb13 := NB603_595.out; have hnc13 := NB595_603.out; obtain ⟨_, _, _, _, _, _, _, _, _, _, _, _⟩ := zC6 BK603; obtain ⟨_, _, _, _, _, _, _, _, _, _, _, _⟩ := zC6 BK594) | ((with_reducible refine gd (N := 130) rfl ?_); refine Kd.R_lit k25 _ 25 ?hg (N := 130) ?hd (xs := ([(⟨(⟨a0_0, a0_1, a0_2⟩ : S23), (⟨a0_3, a0_4, t598⟩ : S23)⟩ : S25), (⟨(⟨a0_0, a0_1, t601⟩ : S23), (⟨a0_3, a0_4, a0_5⟩ : S23)⟩ : S25), (⟨(⟨a0_0, a0_1, t598⟩ : S23), (⟨a0_3, t597, t601⟩ : S23)⟩ : S25), (⟨(⟨a0_0, t600, t598⟩ : S23), (⟨a0_3, a0_4, t601⟩ : S23)⟩ : S25), (⟨(⟨a0_0, t597, t598⟩ : S23), (⟨t596, t600, t601⟩ : S23)⟩ : S25), (⟨(⟨t599, t597, t598⟩ : S23), (⟨a0_3, t600, t601⟩ : S23)⟩ : S25)] : List (S25))) (inner := [.int .i64 a0_0, .int .i64 a0_1, .int .i64 a0_2, .int .i64 a0_3, .int .i64 a0_4, .int .i64 t598, .int .i64 a0_0, .int .i64 a0_1, .int .i64 t601, .int .i64 a0_3, .int .i64 a0_4, .int .i64 a0_5, .int .i64 a0_0, .int .i64 a0_1, .int .i64 t598, .int .i64 a0_3, .int .i64 t597, .int .i64 t601, .int .i64 a0_0, .int .i64 t600, .int .i64 t598, .int .i64 a0_3, .int .i64 a0_4, .int .i64 t601, .int .i64 a0_0, .int .i64 t597, .int .i64 t598, .int .i64 t596, .int .i64 t600, .int .i64 t601, .int .i64 t599, .int .i64 t597, .int .i64 t598, .int .i64 a0_3, .int .i64 t600, .int .i64 t601]) (ok := fun _ => True) (okp := fun _ => True) ?hr ?hp (fun _ hk => hk) trivial (Below.refl _ _) (Nat.le_refl _) (by simp) ?_; (case hd | hg => rfl); (case hr => first | (go_simp; done) | (go_simp; rfl)); (case hp => exact (Reps.c6 (show Kd.M k25 _ _ _ (⟨(⟨a0_0, a0_1, a0_2⟩ : S23), (⟨a0_3, a0_4, t598⟩ : S23)⟩ : S25) [.int .i64 a0_0, .int .i64 a0_1, .int .i64 a0_2, .int .i64 a0_3, .int .i64 a0_4, .int .i64 t598] from (k25_mkM _ _ _ (⟨(⟨a0_0, a0_1, a0_2⟩ : S23), (⟨a0_3, a0_4, t598⟩ : S23)⟩ : S25) )) (Reps.c6 (show Kd.M k25 _ _ _ (⟨(⟨a0_0, a0_1, t601⟩ : S23), (⟨a0_3, a0_4, a0_5⟩ : S23)⟩ : S25) [.int .i64 a0_0, .int .i64 a0_1, .int .i64 t601, .int .i64 a0_3, .int .i64 a0_4, .int .i64 a0_5] from (k25_mkM _ _ _ (⟨(⟨a0_0, a0_1, t601⟩ : S23), (⟨a0_3, a0_4, a0_5⟩ : S23)⟩ : S25) )) (Reps.c6 (show Kd.M k25 _ _ _ (⟨(⟨a0_0, a0_1, t598⟩ : S23), (⟨a0_3, t597, t601⟩ : S23)⟩ : S25) [.int .i64 a0_0, .int .i64 a0_1, .int .i64 t598, .int .i64 a0_3, .int .i64 t597, .int .i64 t601] from (k25_mkM _ _ _ (⟨(⟨a0_0, a0_1, t598⟩ : S23), (⟨a0_3, t597, t601⟩ : S23)⟩ : S25) )) (Reps.c6 (show Kd.M k25 _ _ _ (⟨(⟨a0_0, t600, t598⟩ : S23), (⟨a0_3, a0_4, t601⟩ : S23)⟩ : S25) [.int .i64 a0_0, .int .i64 t600, .int .i64 t598, .int .i64 a0_3, .int .i64 a0_4, .int .i64 t601] from (k25_mkM _ _ _ (⟨(⟨a0_0, t600, t598⟩ : S23), (⟨a0_3, a0_4, t601⟩ : S23)⟩ : S25) )) (Reps.c6 (show Kd.M k25 _ _ _ (⟨(⟨a0_0, t597, t598⟩ : S23), (⟨t596, t600, t601⟩ : S23)⟩ : S25) [.int .i64 a0_0, .int .i64 t597, .int .i64 t598, .int .i64 t596, .int .i64 t600, .int .i64 t601] from (k25_mkM _ _ _ (⟨(⟨a0_0, t597, t598⟩ : S23), (⟨t596, t600, t601⟩ : S23)⟩ : S25) )) (Reps.c6 (show Kd.M k25 _ _ _ (⟨(⟨t599, t597, t598⟩ : S23), (⟨a0_3, t600, t601⟩ : S23)⟩ : S25) [.int .i64 t599, .int .i64 t597, .int .i64 t598, .int .i64 a0_3, .int .i64 t600, .int .i64 t601] from (k25_mkM _ _ _ (⟨(⟨t599, t597, t598⟩ : S23), (⟨a0_3, t600, t601⟩ : S23)⟩ : S25) )) (Reps.none _ _)))))))); intro v608 w16 ho17 hb hg_ hnew_; clear hg_ hnew_; (first | rw [← Ny607.out] at ho17 | (simp only [Int.reduceToNat] at ho17; rw [← Ny607.out] at ho17)); have HO609 := am (Kd.R_lower (Kd.R_newB (Kd.R_newB (Kd.R_newB ho17 (g := gb594) (o := .cells #[.int .i64 a0_0, .int .i64 a0_1, .int .i64 a0_2, .int .i64 a0_3, .int .i64 a0_4, .int .i64 a0_5] 25 (0, 0)) (kfC BK594.out)) (g := gb595) (o := .cells #[.int .i64 a1_0, .int .i64 a1_1, .int .i64 a1_2, .int .i64 a1_3, .int .i64 a1_4, .int .i64 a1_5] 25 (0, 0)) (kfC BK595.out)) (g := gb603) (o := .cells #[.int .i64 t596, .int .i64 t597, .int .i64 t598, .int .i64 t599, .int .i64 t600, .int .i64 t601] 25 (0, 0)) (kkC BK603.out)) (wz (fW HB.out))); replace BK594 := xC1 (kfC BK594.out) hb; replace BK595 := xC1 (kfC BK595.out) hb; replace BK603 := xC1 (o := .cells #[.int .i64 t596, .int .i64 t597, .int .i64 t598, .int .i64 t599, .int .i64 t600, .int .i64 t601] 25 (0, 0)) (kkC BK603.out) hb; replace HB := bS HB hb; clear hb ho17)))
  go_loopg [12, 13] k (fun kq v12 v13 w' => ∃ (x12_1 : List (S25)) (x13_1 : Int), v13 = .int .i64 x13_1 ∧ Aside0 (r_Subtract.l0 kq y607 x12_1 x13_1 = some r) ∧ Aside0 (kq ≤ k) ∧ Aside0 (Kd.R k25 25 w' w.heap.size (fun k_ => some k_ ≠ (v12 : Value).ownBlock ∧ k_ ≠ gb594 ∧ k_ ≠ gb595 ∧ k_ ≠ gb603) v608 y607) ∧ Aside0 (Kd.R k25 25 w' w.heap.size (fun k_ => some k_ ≠ (v608 : Value).ownBlock ∧ k_ ≠ gb594 ∧ k_ ≠ gb595 ∧ k_ ≠ gb603) v12 x12_1) ∧ Aside0 (w'.heap[gb594]? = some (.cells #[.int .i64 a0_0, .int .i64 a0_1, .int .i64 a0_2, .int .i64 a0_3, .int .i64 a0_4, .int .i64 a0_5] 25 (0, 0))) ∧ Aside0 (w'.heap[gb595]? = some (.cells #[.int .i64 a1_0, .int .i64 a1_1, .int .i64 a1_2, .int .i64 a1_3, .int .i64 a1_4, .int .i64 a1_5] 25 (0, 0))) ∧ Aside0 (w'.heap[gb603]? = some (.cells #[.int .i64 t596, .int .i64 t597, .int .i64 t598, .int .i64 t599, .int .i64 t600, .int .i64 t601] 25 (0, 0))) ∧ Aside0 (Below w.heap.size w w'))
  case atStart => exact ⟨(([] : List (S25))), (0), sqD, H', ⟨Nat.le_refl _⟩, ⟨by (with_reducible repeat (first | apply Kd.R_alloc | apply Kd.R_drewN | apply Kd.R_drew)); exact Kd.R_mono HO609.out (fun _ hk => ⟨(by simp [Value.ownBlock]), ⟨hk.1.1.2, ⟨hk.1.2, hk.2⟩⟩⟩)⟩, ⟨by first | exact Kd.R_nil _ _ _ _ _ | exact Kd.N_nil _ _ _ _ _ | exact Kd.V_nil _ _ _ _ _ | exact Kd.Q_nil _ _ _ _ _ | exact Kd.S_nil _ _ _ _ _⟩, ⟨fb BK594.out⟩, ⟨fb BK595.out⟩, ⟨fb BK603.out⟩, ⟨fW HB.out⟩⟩
  case round =>
   clear H'
   try clear c1;try clear p2;try clear c3;try clear c4;try clear c6;try clear c7;try clear c12;try clear c13
   obtain ⟨x12_1, x13_1, rfl, HA, HK1, HO_11, HO_12, BK594, BK595, BK603, HB⟩ := hrel
   cases gk with
   | zero => exact absurd HA.out (by simp [r_Subtract.l0])
   | succ k1 =>
    have H := HA.out
    clear HA
    simp only [r_Subtract.l0] at H
    by_cases c18 : x13_1 < (y607.length : Int)
    rotate_left
    ·rw [if_neg c18] at H
     have c18b0 : decide (x13_1 < (y607.length : Int)) = false := decide_eq_false c18
     clear c18
     obtain rfl := Option.some.inj H
     obtain ⟨Ao28, co28, eo28⟩ := Kd.R_slice HO_11.out
     subst eo28
     go_wp2
     repeat (go_quiet (fail); try go_wp2)
     go_ret
     exact ⟨_, sqE, by (with_reducible repeat (first | apply Kd.R_alloc | apply Kd.R_drewN | apply Kd.R_drew)); exact Kd.R_mono HO_12.out (fun _ hk => trivial), fW HB.out⟩
    rw [if_pos c18] at H
    have c18b0 : decide (x13_1 < (y607.length : Int)) = true := decide_eq_true c18
    clear c18
    by_cases c19 : 0 ≤ x13_1
    rotate_left
    ·rw [if_neg c19] at H
     exact absurd H (by simp)
    rw [if_pos c19] at H
    have c19b0 : decide (0 ≤ x13_1) = true := decide_eq_true c19
    clear c19
    replace H := Option.bind_eq_some_iff.mp H
    obtain ⟨t611, A200, H⟩ := H
    replace H : (if t611 = true then (if x12_1.length < 2932031007402 then (r_Subtract.l0 k1 y607 (x12_1 ++ [(⟨(⟨(rd_T25 y607 x13_1).f0.f0, (rd_T25 y607 x13_1).f0.f1, (rd_T25 y607 x13_1).f0.f2⟩ : S23), (⟨(rd_T25 y607 x13_1).f1.f0, (rd_T25 y607 x13_1).f1.f1, (rd_T25 y607 x13_1).f1.f2⟩ : S23)⟩ : S25)]) (wrap64 (x13_1 + 1))) else (none)) else (r_Subtract.l0 k1 y607 x12_1 (wrap64 (x13_1 + 1)))) = some r := H
    have A20 := am A200
    clear A200
    by_cases c21 : t611 = true
    ·subst c21
     have H1 : (if x12_1.length < 2932031007402 then (r_Subtract.l0 k1 y607 (x12_1 ++ [(⟨(⟨(rd_T25 y607 x13_1).f0.f0, (rd_T25 y607 x13_1).f0.f1, (rd_T25 y607 x13_1).f0.f2⟩ : S23), (⟨(rd_T25 y607 x13_1).f1.f0, (rd_T25 y607 x13_1).f1.f1, (rd_T25 y607 x13_1).f1.f2⟩ : S23)⟩ : S25)]) (wrap64 (x13_1 + 1))) else (none)) = some r := by rw [if_pos rfl] at H; exact H
     clear H
     have H := H1
     clear H1
     by_cases c22 : x12_1.length < 2932031007402
     rotate_left
     ·rw [if_neg c22] at H
      exact absurd H (by simp)
     rw [if_pos c22] at H
     have LMc22 := am c22
     clear c22
     obtain ⟨y613, hy613⟩ : ∃ y_ : List (S25), y_ = (x12_1 ++ [(⟨(⟨(rd_T25 y607 x13_1).f0.f0, (rd_T25 y607 x13_1).f0.f1, (rd_T25 y607 x13_1).f0.f2⟩ : S23), (⟨(rd_T25 y607 x13_1).f1.f0, (rd_T25 y607 x13_1).f1.f1, (rd_T25 y607 x13_1).f1.f2⟩ : S23)⟩ : S25)]) := ⟨_, rfl⟩
     replace H : (r_Subtract.l0 k1 y607 y613 (wrap64 (x13_1 + 1))) = some r := by first | (rw [hy613]; with_reducible exact H) | (have H2_ := (Option.bind_some _ _).symm.trans H; rw [hy613]; with_reducible exact H2_) | (have H2_ := (Option.bind_some _ _).symm.trans H; with_reducible exact H2_) | with_reducible exact H | (rw [hy613]; exact H) | exact H
     have Ny613 := am hy613
     clear hy613
     have H' := am H
     clear H
     obtain ⟨Ao23, co23, eo23⟩ := Kd.R_slice HO_11.out
     subst eo23
     have p610 : 0 ≤ (x13_1 : Int) := of_decide_eq_true (by assumption)
     have q610 : x13_1 < (y607.length : Int) := of_decide_eq_true (by assumption)
     obtain ⟨ad610, e610, hx610_0, hx610_1, hx610_2, hx610_3, hx610_4, hx610_5⟩ := at_T25 (Kd.R_reads' HO_11.out).2.2 x13_1 p610 q610
     cases e610
     replace p610 := eq_true p610
     replace q610 := eq_true q610
     go_wp2_with (first | (go_at_call 62; (with_reducible refine (r_full.calls k1 ((rd_T25 y607 x13_1).f0.f0) ((rd_T25 y607 x13_1).f0.f1) ((rd_T25 y607 x13_1).f0.f2) ((rd_T25 y607 x13_1).f1.f0) ((rd_T25 y607 x13_1).f1.f1) ((rd_T25 y607 x13_1).f1.f2) true _ A20.out).mono ?_); rintro e w24 ⟨rfl, hb⟩; replace HO_11 := dR HO_11 hb; replace HO_12 := dR HO_12 hb; replace BK594 := bB BK594 hb; replace BK595 := bB BK595 hb; replace BK603 := bB BK603 hb; replace HB := bS HB hb; (try clear hb); (try clear hb2); (try clear hk); (try clear hi); have p612 : 0 ≤ (x13_1 : Int) := of_decide_eq_true (by assumption); have q612 : x13_1 < (y607.length : Int) := of_decide_eq_true (by assumption); obtain ⟨ad612, e612, hx612_0, hx612_1, hx612_2, hx612_3, hx612_4, hx612_5⟩ := at_T25 (Kd.R_reads' HO_11.out).2.2 x13_1 p612 q612; obtain rfl : ad610 = ad612 := (by injection e612); replace p612 := eq_true p612; replace q612 := eq_true q612) | ((with_reducible refine gate_builtin (b := .append) (xs := #[.tmp 142, .tmp 147]) rfl ?_); at_builtin; refine Kd.R_append k25 (w0 := w) w.heap.size rfl (.tmp 142) (.tmp 147) 26 25 (.agg #[(.int .i64 0), (.int .i64 0), (.int .i64 0), (.int .i64 0), (.int .i64 0), (.int .i64 0)]) 48 rfl Try.underlying26 info25 rfl (by decide) (by omega) u12 x12_1 (⟨(⟨(rd_T25 y607 x13_1).f0.f0, (rd_T25 y607 x13_1).f0.f1, (rd_T25 y607 x13_1).f0.f2⟩ : S23), (⟨(rd_T25 y607 x13_1).f1.f0, (rd_T25 y607 x13_1).f1.f1, (rd_T25 y607 x13_1).f1.f2⟩ : S23)⟩ : S25) [.int .i64 ((rd_T25 y607 x13_1).f0.f0), .int .i64 ((rd_T25 y607 x13_1).f0.f1), .int .i64 ((rd_T25 y607 x13_1).f0.f2), .int .i64 ((rd_T25 y607 x13_1).f1.f0), .int .i64 ((rd_T25 y607 x13_1).f1.f1), .int .i64 ((rd_T25 y607 x13_1).f1.f2)] (fun k_ => some k_ ≠ (.slice (some ad610) y607.length co23 : Value).ownBlock ∧ k_ ≠ gb594 ∧ k_ ≠ gb595 ∧ k_ ≠ gb603) (fun _ => False) rfl rfl ?aP (fun _ hk => hk.elim) ?aF ?aO ?aB ?aS ?aL ?_; (case aP => exact k25_mkM _ _ _ (⟨(⟨(rd_T25 y607 x13_1).f0.f0, (rd_T25 y607 x13_1).f0.f1, (rd_T25 y607 x13_1).f0.f2⟩ : S23), (⟨(rd_T25 y607 x13_1).f1.f0, (rd_T25 y607 x13_1).f1.f1, (rd_T25 y607 x13_1).f1.f2⟩ : S23)⟩ : S25)); (case aB => exact (fW HB.out)); (case aF => exact (fun k_ hk => ⟨Kd.fresh' (Kd.R_lt (fR HO_11.out)) k_ hk, Kd.freshB (g := gb594) (o := .cells #[.int .i64 a0_0, .int .i64 a0_1, .int .i64 a0_2, .int .i64 a0_3, .int .i64 a0_4, .int .i64 a0_5] 25 (0, 0)) (fb BK594.out) k_ hk, Kd.freshB (g := gb595) (o := .cells #[.int .i64 a1_0, .int .i64 a1_1, .int .i64 a1_2, .int .i64 a1_3, .int .i64 a1_4, .int .i64 a1_5] 25 (0, 0)) (fb BK595.out) k_ hk, Kd.freshB (g := gb603) (o := .cells #[.int .i64 t596, .int .i64 t597, .int .i64 t598, .int .i64 t599, .int .i64 t600, .int .i64 t601] 25 (0, 0)) (fb BK603.out) k_ hk⟩)); (case aO => exact (fR HO_12.out)); (case aS => exact (wz (fW HB.out))); (case aL => have := LMc22.out; omega); intro v614 w25 ho hb hg hat; rw [← Ny613.out] at ho; replace HO_11 := am (Kd.R_after (ok := (fun k_ => k_ ≠ gb594 ∧ k_ ≠ gb595 ∧ k_ ≠ gb603)) (by (with_reducible repeat (first | apply Kd.R_alloc | apply Kd.R_drewN | apply Kd.R_drew)); exact Kd.R_mono HO_11.out (fun _ hk => ⟨⟨hk.2.1, ⟨hk.2.2.1, hk.2.2.2⟩⟩, hk.1⟩)) hg hat); replace BK594 := am (blk_grown (g := gb594) (o := .cells #[.int .i64 a0_0, .int .i64 a0_1, .int .i64 a0_2, .int .i64 a0_3, .int .i64 a0_4, .int .i64 a0_5] 25 (0, 0)) (fb BK594.out) hg (Kd.R_away HO_12.out (fun _ hk => hk.2.1))); replace BK595 := am (blk_grown (g := gb595) (o := .cells #[.int .i64 a1_0, .int .i64 a1_1, .int .i64 a1_2, .int .i64 a1_3, .int .i64 a1_4, .int .i64 a1_5] 25 (0, 0)) (fb BK595.out) hg (Kd.R_away HO_12.out (fun _ hk => hk.2.2.1))); replace BK603 := am (blk_grown (g := gb603) (o := .cells #[.int .i64 t596, .int .i64 t597, .int .i64 t598, .int .i64 t599, .int .i64 t600, .int .i64 t601] 25 (0, 0)) (fb BK603.out) hg (Kd.R_away HO_12.out (fun _ hk => hk.2.2.2))); replace HB := am (hb); have HO615 := am (ho); clear HO_12 ho hb hg hat))
     repeat (go_quiet (first | (go_at_call 62; (with_reducible refine (r_full.calls k1 ((rd_T25 y607 x13_1).f0.f0) ((rd_T25 y607 x13_1).f0.f1) ((rd_T25 y607 x13_1).f0.f2) ((rd_T25 y607 x13_1).f1.f0) ((rd_T25 y607 x13_1).f1.f1) ((rd_T25 y607 x13_1).f1.f2) true _ A20.out).mono ?_); rintro e w24 ⟨rfl, hb⟩; replace HO_11 := dR HO_11 hb; replace HO_12 := dR HO_12 hb; replace BK594 := bB BK594 hb; replace BK595 := bB BK595 hb; replace BK603 := bB BK603 hb; replace HB := bS HB hb; (try clear hb); (try clear hb2); (try clear hk); (try clear hi); have p612 : 0 ≤ (x13_1 : Int) := of_decide_eq_true (by assumption); have q612 : x13_1 < (y607.length : Int) := of_decide_eq_true (by assumption); obtain ⟨ad612, e612, hx612_0, hx612_1, hx612_2, hx612_3, hx612_4, hx612_5⟩ := at_T25 (Kd.R_reads' HO_11.out).2.2 x13_1 p612 q612; obtain rfl : ad610 = ad612 := (by injection e612); replace p612 := eq_true p612; replace q612 := eq_true q612) | ((with_reducible refine gate_builtin (b := .append) (xs := #[.tmp 142, .tmp 147]) rfl ?_); at_builtin; refine Kd.R_append k25 (w0 := w) w.heap.size rfl (.tmp 142) (.tmp 147) 26 25 (.agg #[(.int .i64 0), (.int .i64 0), (.int .i64 0), (.int .i64 0), (.int .i64 0), (.int .i64 0)]) 48 rfl Try.underlying26 info25 rfl (by decide) (by omega) u12 x12_1 (⟨(⟨(rd_T25 y607 x13_1).f0.f0, (rd_T25 y607 x13_1).f0.f1, (rd_T25 y607 x13_1).f0.f2⟩ : S23), (⟨(rd_T25 y607 x13_1).f1.f0, (rd_T25 y607 x13_1).f1.f1, (rd_T25 y607 x13_1).f1.f2⟩ : S23)⟩ : S25) [.int .i64 ((rd_T25 y607 x13_1).f0.f0), .int .i64 ((rd_T25 y607 x13_1).f0.f1), .int .i64 ((rd_T25 y607 x13_1).f0.f2), .int .i64 ((rd_T25 y607 x13_1).f1.f0), .int .i64 ((rd_T25 y607 x13_1).f1.f1), .int .i64 ((rd_T25 y607 x13_1).f1.f2)] (fun k_ => some k_ ≠ (.slice (some ad610) y607.length co23 : Value).ownBlock ∧ k_ ≠ gb594 ∧ k_ ≠ gb595 ∧ k_ ≠ gb603) (fun _ => False) rfl rfl ?aP (fun _ hk => hk.elim) ?aF ?aO ?aB ?aS ?aL ?_; (case aP => exact k25_mkM _ _ _ (⟨(⟨(rd_T25 y607 x13_1).f0.f0, (rd_T25 y607 x13_1).f0.f1, (rd_T25 y607 x13_1).f0.f2⟩ : S23), (⟨(rd_T25 y607 x13_1).f1.f0, (rd_T25 y607 x13_1).f1.f1, (rd_T25 y607 x13_1).f1.f2⟩ : S23)⟩ : S25)); (case aB => exact (fW HB.out)); (case aF => exact (fun k_ hk => ⟨Kd.fresh' (Kd.R_lt (fR HO_11.out)) k_ hk, Kd.freshB (g := gb594) (o := .cells #[.int .i64 a0_0, .int .i64 a0_1, .int .i64 a0_2, .int .i64 a0_3, .int .i64 a0_4, .int .i64 a0_5] 25 (0, 0)) (fb BK594.out) k_ hk, Kd.freshB (g := gb595) (o := .cells #[.int .i64 a1_0, .int .i64 a1_1, .int .i64 a1_2, .int .i64 a1_3, .int .i64 a1_4, .int .i64 a1_5] 25 (0, 0)) (fb BK595.out) k_ hk, Kd.freshB (g := gb603) (o := .cells #[.int .i64 t596, .int .i64 t597, .int .i64 t598, .int .i64 t599, .int .i64 t600, .int .i64 t601] 25 (0, 0)) (fb BK603.out) k_ hk⟩)); (case aO => exact (fR HO_12.out)); (case aS => exact (wz (fW HB.out))); (case aL => have := LMc22.out; omega); intro v614 w25 ho hb hg hat; rw [← Ny613.out] at ho; replace HO_11 := am (Kd.R_after (ok := (fun k_ => k_ ≠ gb594 ∧ k_ ≠ gb595 ∧ k_ ≠ gb603)) (by (with_reducible repeat (first | apply Kd.R_alloc | apply Kd.R_drewN | apply Kd.R_drew)); exact Kd.R_mono HO_11.out (fun _ hk => ⟨⟨hk.2.1, ⟨hk.2.2.1, hk.2.2.2⟩⟩, hk.1⟩)) hg hat); replace BK594 := am (blk_grown (g := gb594) (o := .cells #[.int .i64 a0_0, .int .i64 a0_1, .int .i64 a0_2, .int .i64 a0_3, .int .i64 a0_4, .int .i64 a0_5] 25 (0, 0)) (fb BK594.out) hg (Kd.R_away HO_12.out (fun _ hk => hk.2.1))); replace BK595 := am (blk_grown (g := gb595) (o := .cells #[.int .i64 a1_0, .int .i64 a1_1, .int .i64 a1_2, .int .i64 a1_3, .int .i64 a1_4, .int .i64 a1_5] 25 (0, 0)) (fb BK595.out) hg (Kd.R_away HO_12.out (fun _ hk => hk.2.2.1))); replace BK603 := am (blk_grown (g := gb603) (o := .cells #[.int .i64 t596, .int .i64 t597, .int .i64 t598, .int .i64 t599, .int .i64 t600, .int .i64 t601] 25 (0, 0)) (fb BK603.out) hg (Kd.R_away HO_12.out (fun _ hk => hk.2.2.2))); replace HB := am (hb); have HO615 := am (ho); clear HO_12 ho hb hg hat)); try go_wp2_with (first | (go_at_call 62; (with_reducible refine (r_full.calls k1 ((rd_T25 y607 x13_1).f0.f0) ((rd_T25 y607 x13_1).f0.f1) ((rd_T25 y607 x13_1).f0.f2) ((rd_T25 y607 x13_1).f1.f0) ((rd_T25 y607 x13_1).f1.f1) ((rd_T25 y607 x13_1).f1.f2) true _ A20.out).mono ?_); rintro e w24 ⟨rfl, hb⟩; replace HO_11 := dR HO_11 hb; replace HO_12 := dR HO_12 hb; replace BK594 := bB BK594 hb; replace BK595 := bB BK595 hb; replace BK603 := bB BK603 hb; replace HB := bS HB hb; (try clear hb); (try clear hb2); (try clear hk); (try clear hi); have p612 : 0 ≤ (x13_1 : Int) := of_decide_eq_true (by assumption); have q612 : x13_1 < (y607.length : Int) := of_decide_eq_true (by assumption); obtain ⟨ad612, e612, hx612_0, hx612_1, hx612_2, hx612_3, hx612_4, hx612_5⟩ := at_T25 (Kd.R_reads' HO_11.out).2.2 x13_1 p612 q612; obtain rfl : ad610 = ad612 := (by injection e612); replace p612 := eq_true p612; replace q612 := eq_true q612) | ((with_reducible refine gate_builtin (b := .append) (xs := #[.tmp 142, .tmp 147]) rfl ?_); at_builtin; refine Kd.R_append k25 (w0 := w) w.heap.size rfl (.tmp 142) (.tmp 147) 26 25 (.agg #[(.int .i64 0), (.int .i64 0), (.int .i64 0), (.int .i64 0), (.int .i64 0), (.int .i64 0)]) 48 rfl Try.underlying26 info25 rfl (by decide) (by omega) u12 x12_1 (⟨(⟨(rd_T25 y607 x13_1).f0.f0, (rd_T25 y607 x13_1).f0.f1, (rd_T25 y607 x13_1).f0.f2⟩ : S23), (⟨(rd_T25 y607 x13_1).f1.f0, (rd_T25 y607 x13_1).f1.f1, (rd_T25 y607 x13_1).f1.f2⟩ : S23)⟩ : S25) [.int .i64 ((rd_T25 y607 x13_1).f0.f0), .int .i64 ((rd_T25 y607 x13_1).f0.f1), .int .i64 ((rd_T25 y607 x13_1).f0.f2), .int .i64 ((rd_T25 y607 x13_1).f1.f0), .int .i64 ((rd_T25 y607 x13_1).f1.f1), .int .i64 ((rd_T25 y607 x13_1).f1.f2)] (fun k_ => some k_ ≠ (.slice (some ad610) y607.length co23 : Value).ownBlock ∧ k_ ≠ gb594 ∧ k_ ≠ gb595 ∧ k_ ≠ gb603) (fun _ => False) rfl rfl ?aP (fun _ hk => hk.elim) ?aF ?aO ?aB ?aS ?aL ?_; (case aP => exact k25_mkM _ _ _ (⟨(⟨(rd_T25 y607 x13_1).f0.f0, (rd_T25 y607 x13_1).f0.f1, (rd_T25 y607 x13_1).f0.f2⟩ : S23), (⟨(rd_T25 y607 x13_1).f1.f0, (rd_T25 y607 x13_1).f1.f1, (rd_T25 y607 x13_1).f1.f2⟩ : S23)⟩ : S25)); (case aB => exact (fW HB.out)); (case aF => exact (fun k_ hk => ⟨Kd.fresh' (Kd.R_lt (fR HO_11.out)) k_ hk, Kd.freshB (g := gb594) (o := .cells #[.int .i64 a0_0, .int .i64 a0_1, .int .i64 a0_2, .int .i64 a0_3, .int .i64 a0_4, .int .i64 a0_5] 25 (0, 0)) (fb BK594.out) k_ hk, Kd.freshB (g := gb595) (o := .cells #[.int .i64 a1_0, .int .i64 a1_1, .int .i64 a1_2, .int .i64 a1_3, .int .i64 a1_4, .int .i64 a1_5] 25 (0, 0)) (fb BK595.out) k_ hk, Kd.freshB (g := gb603) (o := .cells #[.int .i64 t596, .int .i64 t597, .int .i64 t598, .int .i64 t599, .int .i64 t600, .int .i64 t601] 25 (0, 0)) (fb BK603.out) k_ hk⟩)); (case aO => exact (fR HO_12.out)); (case aS => exact (wz (fW HB.out))); (case aL => have := LMc22.out; omega); intro v614 w25 ho hb hg hat; rw [← Ny613.out] at ho; replace HO_11 := am (Kd.R_after (ok := (fun k_ => k_ ≠ gb594 ∧ k_ ≠ gb595 ∧ k_ ≠ gb603)) (by (with_reducible repeat (first | apply Kd.R_alloc | apply Kd.R_drewN | apply Kd.R_drew)); exact Kd.R_mono HO_11.out (fun _ hk => ⟨⟨hk.2.1, ⟨hk.2.2.1, hk.2.2.2⟩⟩, hk.1⟩)) hg hat); replace BK594 := am (blk_grown (g := gb594) (o := .cells #[.int .i64 a0_0, .int .i64 a0_1, .int .i64 a0_2, .int .i64 a0_3, .int .i64 a0_4, .int .i64 a0_5] 25 (0, 0)) (fb BK594.out) hg (Kd.R_away HO_12.out (fun _ hk => hk.2.1))); replace BK595 := am (blk_grown (g := gb595) (o := .cells #[.int .i64 a1_0, .int .i64 a1_1, .int .i64 a1_2, .int .i64 a1_3, .int .i64 a1_4, .int .i64 a1_5] 25 (0, 0)) (fb BK595.out) hg (Kd.R_away HO_12.out (fun _ hk => hk.2.2.1))); replace BK603 := am (blk_grown (g := gb603) (o := .cells #[.int .i64 t596, .int .i64 t597, .int .i64 t598, .int .i64 t599, .int .i64 t600, .int .i64 t601] 25 (0, 0)) (fb BK603.out) hg (Kd.R_away HO_12.out (fun _ hk => hk.2.2.2))); replace HB := am (hb); have HO615 := am (ho); clear HO_12 ho hb hg hat)))
     go_roundg k1
     case measure => have := HK1.out; omega
     case rel => exact ⟨(y613), (wrap64 (x13_1 + 1)), sqD, H', ⟨by have := HK1.out; omega⟩, ⟨by (with_reducible repeat (first | apply Kd.R_alloc | apply Kd.R_drewN | apply Kd.R_drew)); exact Kd.R_mono HO_11.out (fun _ hk => ⟨hk.2, ⟨hk.1.1, ⟨hk.1.2.1, hk.1.2.2⟩⟩⟩)⟩, ⟨fR HO615.out⟩, ⟨fb BK594.out⟩, ⟨fb BK595.out⟩, ⟨fb BK603.out⟩, ⟨fW HB.out⟩⟩
    replace c21 := Bool.eq_false_iff.mpr c21
    subst c21
    have H1 : (r_Subtract.l0 k1 y607 x12_1 (wrap64 (x13_1 + 1))) = some r := by rw [if_neg (show ¬ (false = true) by decide)] at H; exact H
    clear H
    have H := H1
    clear H1
    have H' := am H
    clear H
    obtain ⟨Ao26, co26, eo26⟩ := Kd.R_slice HO_11.out
    subst eo26
    have p610 : 0 ≤ (x13_1 : Int) := of_decide_eq_true (by assumption)
    have q610 : x13_1 < (y607.length : Int) := of_decide_eq_true (by assumption)
    obtain ⟨ad610, e610, hx610_0, hx610_1, hx610_2, hx610_3, hx610_4, hx610_5⟩ := at_T25 (Kd.R_reads' HO_11.out).2.2 x13_1 p610 q610
    cases e610
    replace p610 := eq_true p610
    replace q610 := eq_true q610
    go_wp2_with (first | (go_at_call 62; (with_reducible refine (r_full.calls k1 ((rd_T25 y607 x13_1).f0.f0) ((rd_T25 y607 x13_1).f0.f1) ((rd_T25 y607 x13_1).f0.f2) ((rd_T25 y607 x13_1).f1.f0) ((rd_T25 y607 x13_1).f1.f1) ((rd_T25 y607 x13_1).f1.f2) false _ A20.out).mono ?_); rintro e w27 ⟨rfl, hb⟩; replace HO_11 := dR HO_11 hb; replace HO_12 := dR HO_12 hb; replace BK594 := bB BK594 hb; replace BK595 := bB BK595 hb; replace BK603 := bB BK603 hb; replace HB := bS HB hb; (try clear hb); (try clear hb2); (try clear hk); (try clear hi)))
    repeat (go_quiet (first | (go_at_call 62; (with_reducible refine (r_full.calls k1 ((rd_T25 y607 x13_1).f0.f0) ((rd_T25 y607 x13_1).f0.f1) ((rd_T25 y607 x13_1).f0.f2) ((rd_T25 y607 x13_1).f1.f0) ((rd_T25 y607 x13_1).f1.f1) ((rd_T25 y607 x13_1).f1.f2) false _ A20.out).mono ?_); rintro e w27 ⟨rfl, hb⟩; replace HO_11 := dR HO_11 hb; replace HO_12 := dR HO_12 hb; replace BK594 := bB BK594 hb; replace BK595 := bB BK595 hb; replace BK603 := bB BK603 hb; replace HB := bS HB hb; (try clear hb); (try clear hb2); (try clear hk); (try clear hi))); try go_wp2_with (first | (go_at_call 62; (with_reducible refine (r_full.calls k1 ((rd_T25 y607 x13_1).f0.f0) ((rd_T25 y607 x13_1).f0.f1) ((rd_T25 y607 x13_1).f0.f2) ((rd_T25 y607 x13_1).f1.f0) ((rd_T25 y607 x13_1).f1.f1) ((rd_T25 y607 x13_1).f1.f2) false _ A20.out).mono ?_); rintro e w27 ⟨rfl, hb⟩; replace HO_11 := dR HO_11 hb; replace HO_12 := dR HO_12 hb; replace BK594 := bB BK594 hb; replace BK595 := bB BK595 hb; replace BK603 := bB BK603 hb; replace HB := bS HB hb; (try clear hb); (try clear hb2); (try clear hk); (try clear hi))))
    go_roundg k1
    case measure => have := HK1.out; omega
    case rel => exact ⟨(x12_1), (wrap64 (x13_1 + 1)), sqD, H', ⟨by have := HK1.out; omega⟩, ⟨fR HO_11.out⟩, ⟨fR HO_12.out⟩, ⟨fb BK594.out⟩, ⟨fb BK595.out⟩, ⟨fb BK603.out⟩, ⟨fW HB.out⟩⟩
 ·replace c4 := Bool.eq_false_iff.mpr c4
  subst c4
  have H1 : (some (([(⟨(⟨a0_0, a0_1, a0_2⟩ : S23), (⟨a0_3, a0_4, a0_5⟩ : S23)⟩ : S25)] : List (S25)))) = some r := by rw [if_neg (show ¬ (false = true) by decide)] at H; exact H
  clear H
  have H := H1
  clear H1
  obtain ⟨y604, hy604⟩ : ∃ y_ : List (S25), y_ = (([(⟨(⟨a0_0, a0_1, a0_2⟩ : S23), (⟨a0_3, a0_4, a0_5⟩ : S23)⟩ : S25)] : List (S25))) := ⟨_, rfl⟩
  replace H : (some y604) = some r := by first | (rw [hy604]; with_reducible exact H) | (have H2_ := (Option.bind_some _ _).symm.trans H; rw [hy604]; with_reducible exact H2_) | (have H2_ := (Option.bind_some _ _).symm.trans H; with_reducible exact H2_) | with_reducible exact H | (rw [hy604]; exact H) | exact H
  have Ny604 := am hy604
  clear hy604
  obtain rfl := Option.some.inj H
  go_enter Try.func37, Try.ntmps37
  go_wp2_with (first | ((with_reducible refine gd (N := 2) rfl ?_); refine be ?hg (N := 2) ?hd (cs := #[.int .i64 a0_0, .int .i64 a0_1, .int .i64 a0_2, .int .i64 a0_3, .int .i64 a0_4, .int .i64 a0_5]) (t := 25) ?hr ?_; (case hd | hg => rfl); (case hr => first | (go_simp; done) | (go_simp; rfl)); intro gb594 hg w29 hbox hb; have BK594 := am hbox; have GW594 := sG HB hg; have GE594 := sG HB hg; replace HB := bS HB hb; clear hb hbox hg) | ((with_reducible refine gd (N := 3) rfl ?_); refine be ?hg (N := 3) ?hd (cs := #[.int .i64 a1_0, .int .i64 a1_1, .int .i64 a1_2, .int .i64 a1_3, .int .i64 a1_4, .int .i64 a1_5]) (t := 25) ?hr ?_; (case hd | hg => rfl); (case hr => first | (go_simp; done) | (go_simp; rfl)); intro gb595 hg w30 hbox hb; have BK595 := am hbox; have GW595 := sG HB hg; have GE595 := sG HB hg; replace HB := bS HB hb; have NB594_595 := nL BK594 hg; have NB595_594 := nG BK594 hg; replace BK594 := bB BK594 hb; clear hb hbox hg; have hnb31 := NB594_595.out; have hnc31 := NB595_594.out; obtain ⟨_, _, _, _, _, _, _, _, _, _, _, _⟩ := zC6 BK594; obtain ⟨_, _, _, _, _, _, _, _, _, _, _, _⟩ := zC6 BK595) | (go_at_call 28; (with_reducible refine (r_Intersect.calls k a0_0 a0_1 a0_2 a0_3 a0_4 a0_5 a1_0 a1_1 a1_2 a1_3 a1_4 a1_5 t596 t597 t598 t599 t600 t601 false _ A3.out).mono ?_); rintro e w34 ⟨rfl, hb⟩; replace BK594 := bB BK594 hb; replace BK595 := bB BK595 hb; replace HB := bS HB hb; (try clear hb); (try clear hb2); (try clear hk); (try clear hi)) | ((with_reducible refine gd (N := 5) rfl ?_); refine be ?hg (N := 5) ?hd (cs := #[.int .i64 0, .int .i64 0, .int .i64 0, .int .i64 0, .int .i64 0, .int .i64 0]) (t := 25) ?hr ?_; (case hd | hg => rfl); (case hr => first | (go_simp; done) | (go_simp; rfl)); intro gb603 hg w35 hbox hb; have BK603 := am hbox; have GW603 := sG HB hg; have GE603 := sG HB hg; replace HB := bS HB hb; have NB594_603 := nL BK594 hg; have NB603_594 := nG BK594 hg; replace BK594 := bB BK594 hb; have NB595_603 := nL BK595 hg; have NB603_595 := nG BK595 hg; replace BK595 := bB BK595 hb; clear hb hbox hg; have hnb36 := NB603_594.out; have hnc36 := NB594_603.out; have hnb37 := NB603_595.out; have hnc37 := NB595_603.out; obtain ⟨_, _, _, _, _, _, _, _, _, _, _, _⟩ := zC6 BK603; obtain ⟨_, _, _, _, _, _, _, _, _, _, _, _⟩ := zC6 BK594) | ((with_reducible refine gd (N := 23) rfl ?_); refine Kd.R_lit k25 _ 25 ?hg (N := 23) ?hd (xs := ([(⟨(⟨a0_0, a0_1, a0_2⟩ : S23), (⟨a0_3, a0_4, a0_5⟩ : S23)⟩ : S25)] : List (S25))) (inner := [.int .i64 a0_0, .int .i64 a0_1, .int .i64 a0_2, .int .i64 a0_3, .int .i64 a0_4, .int .i64 a0_5]) (ok := fun _ => True) (okp := fun _ => True) ?hr ?hp (fun _ hk => hk) trivial (Below.refl _ _) (Nat.le_refl _) (by simp) ?_; (case hd | hg => rfl); (case hr => first | (go_simp; done) | (go_simp; rfl)); (case hp => exact (Reps.c6 (show Kd.M k25 _ _ _ (⟨(⟨a0_0, a0_1, a0_2⟩ : S23), (⟨a0_3, a0_4, a0_5⟩ : S23)⟩ : S25) [.int .i64 a0_0, .int .i64 a0_1, .int .i64 a0_2, .int .i64 a0_3, .int .i64 a0_4, .int .i64 a0_5] from (k25_mkM _ _ _ (⟨(⟨a0_0, a0_1, a0_2⟩ : S23), (⟨a0_3, a0_4, a0_5⟩ : S23)⟩ : S25) )) (Reps.none _ _))); intro v605 w40 ho41 hb hg_ hnew_; clear hg_ hnew_; (first | rw [← Ny604.out] at ho41 | (simp only [Int.reduceToNat] at ho41; rw [← Ny604.out] at ho41)); have HO606 := am (Kd.R_lower (Kd.R_newB (Kd.R_newB (Kd.R_newB ho41 (g := gb594) (o := .cells #[.int .i64 a0_0, .int .i64 a0_1, .int .i64 a0_2, .int .i64 a0_3, .int .i64 a0_4, .int .i64 a0_5] 25 (0, 0)) (kfC BK594.out)) (g := gb595) (o := .cells #[.int .i64 a1_0, .int .i64 a1_1, .int .i64 a1_2, .int .i64 a1_3, .int .i64 a1_4, .int .i64 a1_5] 25 (0, 0)) (kfC BK595.out)) (g := gb603) (o := .cells #[.int .i64 t596, .int .i64 t597, .int .i64 t598, .int .i64 t599, .int .i64 t600, .int .i64 t601] 25 (0, 0)) (kkC BK603.out)) (wz (fW HB.out))); replace BK594 := xC1 (kfC BK594.out) hb; replace BK595 := xC1 (kfC BK595.out) hb; replace BK603 := xC1 (o := .cells #[.int .i64 t596, .int .i64 t597, .int .i64 t598, .int .i64 t599, .int .i64 t600, .int .i64 t601] 25 (0, 0)) (kkC BK603.out) hb; replace HB := bS HB hb; clear hb ho41))
  repeat (go_quiet (first | ((with_reducible refine gd (N := 2) rfl ?_); refine be ?hg (N := 2) ?hd (cs := #[.int .i64 a0_0, .int .i64 a0_1, .int .i64 a0_2, .int .i64 a0_3, .int .i64 a0_4, .int .i64 a0_5]) (t := 25) ?hr ?_; (case hd | hg => rfl); (case hr => first | (go_simp; done) | (go_simp; rfl)); intro gb594 hg w29 hbox hb; have BK594 := am hbox; have GW594 := sG HB hg; have GE594 := sG HB hg; replace HB := bS HB hb; clear hb hbox hg) | ((with_reducible refine gd (N := 3) rfl ?_); refine be ?hg (N := 3) ?hd (cs := #[.int .i64 a1_0, .int .i64 a1_1, .int .i64 a1_2, .int .i64 a1_3, .int .i64 a1_4, .int .i64 a1_5]) (t := 25) ?hr ?_; (case hd | hg => rfl); (case hr => first | (go_simp; done) | (go_simp; rfl)); intro gb595 hg w30 hbox hb; have BK595 := am hbox; have GW595 := sG HB hg; have GE595 := sG HB hg; replace HB := bS HB hb; have NB594_595 := nL BK594 hg; have NB595_594 := nG BK594 hg; replace BK594 := bB BK594 hb; clear hb hbox hg; have hnb31 := NB594_595.out; have hnc31 := NB595_594.out; obtain ⟨_, _, _, _, _, _, _, _, _, _, _, _⟩ := zC6 BK594; obtain ⟨_, _, _, _, _, _, _, _, _, _, _, _⟩ := zC6 BK595) | (go_at_call 28; (with_reducible refine (r_Intersect.calls k a0_0 a0_1 a0_2 a0_3 a0_4 a0_5 a1_0 a1_1 a1_2 a1_3 a1_4 a1_5 t596 t597 t598 t599 t600 t601 false _ A3.out).mono ?_); rintro e w34 ⟨rfl, hb⟩; replace BK594 := bB BK594 hb; replace BK595 := bB BK595 hb; replace HB := bS HB hb; (try clear hb); (try clear hb2); (try clear hk); (try clear hi)) | ((with_reducible refine gd (N := 5) rfl ?_); refine be ?hg (N := 5) ?hd (cs := #[.int .i64 0, .int .i64 0, .int .i64 0, .int .i64 0, .int .i64 0, .int .i64 0]) (t := 25) ?hr ?_; (case hd | hg => rfl); (case hr => first | (go_simp; done) | (go_simp; rfl)); intro gb603 hg w35 hbox hb; have BK603 := am hbox; have GW603 := sG HB hg; have GE603 := sG HB hg; replace HB := bS HB hb; have NB594_603 := nL BK594 hg; have NB603_594 := nG BK594 hg; replace BK594 := bB BK594 hb; have NB595_603 := nL BK595 hg; have NB603_595 := nG BK595 hg; replace BK595 := bB BK595 hb; clear hb hbox hg; have hnb36 := NB603_594.out; have hnc36 := NB594_603.out; have hnb37 := NB603_595.out; have hnc37 := NB595_603.out; obtain ⟨_, _, _, _, _, _, _, _, _, _, _, _⟩ := zC6 BK603; obtain ⟨_, _, _, _, _, _, _, _, _, _, _, _⟩ := zC6 BK594) | ((with_reducible refine gd (N := 23) rfl ?_); refine Kd.R_lit k25 _ 25 ?hg (N := 23) ?hd (xs := ([(⟨(⟨a0_0, a0_1, a0_2⟩ : S23), (⟨a0_3, a0_4, a0_5⟩ : S23)⟩ : S25)] : List (S25))) (inner := [.int .i64 a0_0, .int .i64 a0_1, .int .i64 a0_2, .int .i64 a0_3, .int .i64 a0_4, .int .i64 a0_5]) (ok := fun _ => True) (okp := fun _ => True) ?hr ?hp (fun _ hk => hk) trivial (Below.refl _ _) (Nat.le_refl _) (by simp) ?_; (case hd | hg => rfl); (case hr => first | (go_simp; done) | (go_simp; rfl)); (case hp => exact (Reps.c6 (show Kd.M k25 _ _ _ (⟨(⟨a0_0, a0_1, a0_2⟩ : S23), (⟨a0_3, a0_4, a0_5⟩ : S23)⟩ : S25) [.int .i64 a0_0, .int .i64 a0_1, .int .i64 a0_2, .int .i64 a0_3, .int .i64 a0_4, .int .i64 a0_5] from (k25_mkM _ _ _ (⟨(⟨a0_0, a0_1, a0_2⟩ : S23), (⟨a0_3, a0_4, a0_5⟩ : S23)⟩ : S25) )) (Reps.none _ _))); intro v605 w40 ho41 hb hg_ hnew_; clear hg_ hnew_; (first | rw [← Ny604.out] at ho41 | (simp only [Int.reduceToNat] at ho41; rw [← Ny604.out] at ho41)); have HO606 := am (Kd.R_lower (Kd.R_newB (Kd.R_newB (Kd.R_newB ho41 (g := gb594) (o := .cells #[.int .i64 a0_0, .int .i64 a0_1, .int .i64 a0_2, .int .i64 a0_3, .int .i64 a0_4, .int .i64 a0_5] 25 (0, 0)) (kfC BK594.out)) (g := gb595) (o := .cells #[.int .i64 a1_0, .int .i64 a1_1, .int .i64 a1_2, .int .i64 a1_3, .int .i64 a1_4, .int .i64 a1_5] 25 (0, 0)) (kfC BK595.out)) (g := gb603) (o := .cells #[.int .i64 t596, .int .i64 t597, .int .i64 t598, .int .i64 t599, .int .i64 t600, .int .i64 t601] 25 (0, 0)) (kkC BK603.out)) (wz (fW HB.out))); replace BK594 := xC1 (kfC BK594.out) hb; replace BK595 := xC1 (kfC BK595.out) hb; replace BK603 := xC1 (o := .cells #[.int .i64 t596, .int .i64 t597, .int .i64 t598, .int .i64 t599, .int .i64 t600, .int .i64 t601] 25 (0, 0)) (kkC BK603.out) hb; replace HB := bS HB hb; clear hb ho41)); try go_wp2_with (first | ((with_reducible refine gd (N := 2) rfl ?_); refine be ?hg (N := 2) ?hd (cs := #[.int .i64 a0_0, .int .i64 a0_1, .int .i64 a0_2, .int .i64 a0_3, .int .i64 a0_4, .int .i64 a0_5]) (t := 25) ?hr ?_; (case hd | hg => rfl); (case hr => first | (go_simp; done) | (go_simp; rfl)); intro gb594 hg w29 hbox hb; have BK594 := am hbox; have GW594 := sG HB hg; have GE594 := sG HB hg; replace HB := bS HB hb; clear hb hbox hg) | ((with_reducible refine gd (N := 3) rfl ?_); refine be ?hg (N := 3) ?hd (cs := #[.int .i64 a1_0, .int .i64 a1_1, .int .i64 a1_2, .int .i64 a1_3, .int .i64 a1_4, .int .i64 a1_5]) (t := 25) ?hr ?_; (case hd | hg => rfl); (case hr => first | (go_simp; done) | (go_simp; rfl)); intro gb595 hg w30 hbox hb; have BK595 := am hbox; have GW595 := sG HB hg; have GE595 := sG HB hg; replace HB := bS HB hb; have NB594_595 := nL BK594 hg; have NB595_594 := nG BK594 hg; replace BK594 := bB BK594 hb; clear hb hbox hg; have hnb31 := NB594_595.out; have hnc31 := NB595_594.out; obtain ⟨_, _, _, _, _, _, _, _, _, _, _, _⟩ := zC6 BK594; obtain ⟨_, _, _, _, _, _, _, _, _, _, _, _⟩ := zC6 BK595) | (go_at_call 28; (with_reducible refine (r_Intersect.calls k a0_0 a0_1 a0_2 a0_3 a0_4 a0_5 a1_0 a1_1 a1_2 a1_3 a1_4 a1_5 t596 t597 t598 t599 t600 t601 false _ A3.out).mono ?_); rintro e w34 ⟨rfl, hb⟩; replace BK594 := bB BK594 hb; replace BK595 := bB BK595 hb; replace HB := bS HB hb; (try clear hb); (try clear hb2); (try clear hk); (try clear hi)) | ((with_reducible refine gd (N := 5) rfl ?_); refine be ?hg (N := 5) ?hd (cs := #[.int .i64 0, .int .i64 0, .int .i64 0, .int .i64 0, .int .i64 0, .int .i64 0]) (t := 25) ?hr ?_; (case hd | hg => rfl); (case hr => first | (go_simp; done) | (go_simp; rfl)); intro gb603 hg w35 hbox hb; have BK603 := am hbox; have GW603 := sG HB hg; have GE603 := sG HB hg; replace HB := bS HB hb; have NB594_603 := nL BK594 hg; have NB603_594 := nG BK594 hg; replace BK594 := bB BK594 hb; have NB595_603 := nL BK595 hg; have NB603_595 := nG BK595 hg; replace BK595 := bB BK595 hb; clear hb hbox hg; have hnb36 := NB603_594.out; have hnc36 := NB594_603.out; have hnb37 := NB603_595.out; have hnc37 := NB595_603.out; obtain ⟨_, _, _, _, _, _, _, _, _, _, _, _⟩ := zC6 BK603; obtain ⟨_, _, _, _, _, _, _, _, _, _, _, _⟩ := zC6 BK594) | ((with_reducible refine gd (N := 23) rfl ?_); refine Kd.R_lit k25 _ 25 ?hg (N := 23) ?hd (xs := ([(⟨(⟨a0_0, a0_1, a0_2⟩ : S23), (⟨a0_3, a0_4, a0_5⟩ : S23)⟩ : S25)] : List (S25))) (inner := [.int .i64 a0_0, .int .i64 a0_1, .int .i64 a0_2, .int .i64 a0_3, .int .i64 a0_4, .int .i64 a0_5]) (ok := fun _ => True) (okp := fun _ => True) ?hr ?hp (fun _ hk => hk) trivial (Below.refl _ _) (Nat.le_refl _) (by simp) ?_; (case hd | hg => rfl); (case hr => first | (go_simp; done) | (go_simp; rfl)); (case hp => exact (Reps.c6 (show Kd.M k25 _ _ _ (⟨(⟨a0_0, a0_1, a0_2⟩ : S23), (⟨a0_3, a0_4, a0_5⟩ : S23)⟩ : S25) [.int .i64 a0_0, .int .i64 a0_1, .int .i64 a0_2, .int .i64 a0_3, .int .i64 a0_4, .int .i64 a0_5] from (k25_mkM _ _ _ (⟨(⟨a0_0, a0_1, a0_2⟩ : S23), (⟨a0_3, a0_4, a0_5⟩ : S23)⟩ : S25) )) (Reps.none _ _))); intro v605 w40 ho41 hb hg_ hnew_; clear hg_ hnew_; (first | rw [← Ny604.out] at ho41 | (simp only [Int.reduceToNat] at ho41; rw [← Ny604.out] at ho41)); have HO606 := am (Kd.R_lower (Kd.R_newB (Kd.R_newB (Kd.R_newB ho41 (g := gb594) (o := .cells #[.int .i64 a0_0, .int .i64 a0_1, .int .i64 a0_2, .int .i64 a0_3, .int .i64 a0_4, .int .i64 a0_5] 25 (0, 0)) (kfC BK594.out)) (g := gb595) (o := .cells #[.int .i64 a1_0, .int .i64 a1_1, .int .i64 a1_2, .int .i64 a1_3, .int .i64 a1_4, .int .i64 a1_5] 25 (0, 0)) (kfC BK595.out)) (g := gb603) (o := .cells #[.int .i64 t596, .int .i64 t597, .int .i64 t598, .int .i64 t599, .int .i64 t600, .int .i64 t601] 25 (0, 0)) (kkC BK603.out)) (wz (fW HB.out))); replace BK594 := xC1 (kfC BK594.out) hb; replace BK595 := xC1 (kfC BK595.out) hb; replace BK603 := xC1 (o := .cells #[.int .i64 t596, .int .i64 t597, .int .i64 t598, .int .i64 t599, .int .i64 t600, .int .i64 t601] 25 (0, 0)) (kkC BK603.out) hb; replace HB := bS HB hb; clear hb ho41)))
  go_ret
  exact ⟨_, sqE, by (with_reducible repeat (first | apply Kd.R_alloc | apply Kd.R_drewN | apply Kd.R_drew)); exact Kd.R_mono HO606.out (fun _ hk => trivial), fW HB.out⟩

def r_CheckAll.l0 : Nat → List (S25) → Int → Option (Int)
 | 0, _, _ => none
 | k + 1, x0, x3 => if x3 < (x0.length : Int) then (if 0 ≤ x3 then ((r_Check.f k ((rd_T25 x0 x3).f0.f0) ((rd_T25 x0 x3).f0.f1) ((rd_T25 x0 x3).f0.f2) ((rd_T25 x0 x3).f1.f0) ((rd_T25 x0 x3).f1.f1) ((rd_T25 x0 x3).f1.f2)).bind fun t617 => (if t617 = 0 then (r_CheckAll.l0 k x0 (wrap64 (x3 + 1))) else (some t617))) else (none)) else (some 0)
def r_CheckAll.f (k : Nat) (l0 : List (S25)) : Option (Int) := r_CheckAll.l0 k l0 0
set_option maxHeartbeats 8000000 in
set_option maxRecDepth 100000 in
theorem r_CheckAll.calls (k : Nat) (A0 : Option Addr) (c0 : Nat) (l0 : List (S25)) (r : Int) (w : World) (hr0 : Kd.C k25 w A0 l0.length l0) (hc0 : l0.length ≤ c0) (h : r_CheckAll.f k l0 = some r) :
  Calls Try.prog 38 #[.slice A0 l0.length c0] w fun e w' => e = .returned (.int .i64 r) ∧ Below w.heap.size w w' := by
 have hu25 := Try.underlying25
 have HR0 := am hr0
 have HC0 := am hc0
 clear hr0 hc0
 have HB := am (Below.refl w.heap.size w)
 have H : (r_CheckAll.l0 k l0 0) = some r := h
 clear h
 have H' := am H
 clear H
 go_enter Try.func38, Try.ntmps38
 go_wp2
 go_loopg [3] k (fun kq v3 w' => ∃ (x3_1 : Int), v3 = .int .i64 x3_1 ∧ Aside0 (r_CheckAll.l0 kq l0 x3_1 = some r) ∧ Aside0 (kq ≤ k) ∧ Aside0 (Below w.heap.size w w'))
 case atStart => exact ⟨(0), sqD, H', ⟨Nat.le_refl _⟩, ⟨fW HB.out⟩⟩
 case round =>
  clear H'
  obtain ⟨x3_1, rfl, HA, HK1, HB⟩ := hrel
  cases gk with
  | zero => exact absurd HA.out (by simp [r_CheckAll.l0])
  | succ k1 =>
   have H := HA.out
   clear HA
   simp only [r_CheckAll.l0] at H
   by_cases c2 : x3_1 < (l0.length : Int)
   ·rw [if_pos c2] at H
    have c2b0 : decide (x3_1 < (l0.length : Int)) = true := decide_eq_true c2
    clear c2
    by_cases c3 : 0 ≤ x3_1
    rotate_left
    ·rw [if_neg c3] at H
     exact absurd H (by simp)
    rw [if_pos c3] at H
    have c3b0 : decide (0 ≤ x3_1) = true := decide_eq_true c3
    clear c3
    replace H := Option.bind_eq_some_iff.mp H
    obtain ⟨t617, A40, H⟩ := H
    replace H : (if t617 = 0 then (r_CheckAll.l0 k1 l0 (wrap64 (x3_1 + 1))) else (some t617)) = some r := H
    have A4 := am A40
    clear A40
    by_cases c5 : t617 = 0
    ·rw [if_pos c5] at H
     have c5b0 : (t617 == 0) = true := beq_iff_eq.mpr c5
     have c5b1 : (t617 != 0) = false := bne_eq_false_iff_eq.mpr c5
     clear c5
     have H' := am H
     clear H
     have p616 : 0 ≤ (x3_1 : Int) := of_decide_eq_true (by assumption)
     have q616 : x3_1 < (l0.length : Int) := of_decide_eq_true (by assumption)
     obtain ⟨ad616, e616, hx616_0, hx616_1, hx616_2, hx616_3, hx616_4, hx616_5⟩ := at_T25 HR0.out x3_1 p616 q616
     cases e616
     replace hx616_0 := cl HB hx616_0
     replace hx616_1 := cl HB hx616_1
     replace hx616_2 := cl HB hx616_2
     replace hx616_3 := cl HB hx616_3
     replace hx616_4 := cl HB hx616_4
     replace hx616_5 := cl HB hx616_5
     replace p616 := eq_true p616
     replace q616 := eq_true q616
     go_wp2_with (first | ((with_reducible refine gate_callee (f := 19) rfl ?_); refine goesL_ (some 15) rfl rfl Try.func19 (by kernel_rfl) rfl #[.agg #[.int .i64 ((rd_T25 l0 x3_1).f0.f0), .int .i64 ((rd_T25 l0 x3_1).f0.f1), .int .i64 ((rd_T25 l0 x3_1).f0.f2), .int .i64 ((rd_T25 l0 x3_1).f1.f0), .int .i64 ((rd_T25 l0 x3_1).f1.f1), .int .i64 ((rd_T25 l0 x3_1).f1.f2)]] rfl (by (try simp only [pml]); first | done | rfl | (simp only [pdt]; rfl)) ?_; (with_reducible refine (r_Check.calls k1 ((rd_T25 l0 x3_1).f0.f0) ((rd_T25 l0 x3_1).f0.f1) ((rd_T25 l0 x3_1).f0.f2) ((rd_T25 l0 x3_1).f1.f0) ((rd_T25 l0 x3_1).f1.f1) ((rd_T25 l0 x3_1).f1.f2) t617 _ A4.out).mono ?_); rintro e w6 ⟨rfl, hb⟩; refine ⟨_, rfl, ?_⟩; replace HB := bS HB hb; (try clear hb); (try clear hb2); (try clear hk); (try clear hi)))
     go_roundg k1
     case measure => have := HK1.out; omega
     case rel => exact ⟨(wrap64 (x3_1 + 1)), sqD, H', ⟨by have := HK1.out; omega⟩, ⟨fW HB.out⟩⟩
    rw [if_neg c5] at H
    have c5b0 : (t617 == 0) = false := beq_eq_false_iff_ne.mpr c5
    have c5b1 : (t617 != 0) = true := bne_iff_ne.mpr c5
    obtain rfl := Option.some.inj H
    have p616 : 0 ≤ (x3_1 : Int) := of_decide_eq_true (by assumption)
    have q616 : x3_1 < (l0.length : Int) := of_decide_eq_true (by assumption)
    obtain ⟨ad616, e616, hx616_0, hx616_1, hx616_2, hx616_3, hx616_4, hx616_5⟩ := at_T25 HR0.out x3_1 p616 q616
    cases e616
    replace hx616_0 := cl HB hx616_0
    replace hx616_1 := cl HB hx616_1
    replace hx616_2 := cl HB hx616_2
    replace hx616_3 := cl HB hx616_3
    replace hx616_4 := cl HB hx616_4
    replace hx616_5 := cl HB hx616_5
    replace p616 := eq_true p616
    replace q616 := eq_true q616
    go_wp2_with (first | ((with_reducible refine gate_callee (f := 19) rfl ?_); refine goesL_ (some 15) rfl rfl Try.func19 (by kernel_rfl) rfl #[.agg #[.int .i64 ((rd_T25 l0 x3_1).f0.f0), .int .i64 ((rd_T25 l0 x3_1).f0.f1), .int .i64 ((rd_T25 l0 x3_1).f0.f2), .int .i64 ((rd_T25 l0 x3_1).f1.f0), .int .i64 ((rd_T25 l0 x3_1).f1.f1), .int .i64 ((rd_T25 l0 x3_1).f1.f2)]] rfl (by (try simp only [pml]); first | done | rfl | (simp only [pdt]; rfl)) ?_; (with_reducible refine (r_Check.calls k1 ((rd_T25 l0 x3_1).f0.f0) ((rd_T25 l0 x3_1).f0.f1) ((rd_T25 l0 x3_1).f0.f2) ((rd_T25 l0 x3_1).f1.f0) ((rd_T25 l0 x3_1).f1.f1) ((rd_T25 l0 x3_1).f1.f2) t617 _ A4.out).mono ?_); rintro e w7 ⟨rfl, hb⟩; refine ⟨_, rfl, ?_⟩; replace HB := bS HB hb; (try clear hb); (try clear hb2); (try clear hk); (try clear hi)))
    go_ret
    exact ⟨sqE, fW HB.out⟩
   ·rw [if_neg c2] at H
    have c2b0 : decide (x3_1 < (l0.length : Int)) = false := decide_eq_false c2
    clear c2
    obtain rfl := Option.some.inj H
    go_wp2
    go_ret
    exact ⟨sqE, fW HB.out⟩

mutual
def r_Rest.l0 : Nat → List (S25) → List (S25) → Int → Option ((List (S25)) × Int)
 | 0, _, _, _ => none
 | k + 1, x1, x6, x7 => if x7 < (x1.length : Int) then (r_Rest.l1 k x1 x6 x7 ([] : List (S25)) 0) else (some (x6, 0))
def r_Rest.l1 : Nat → List (S25) → List (S25) → Int → List (S25) → Int → Option ((List (S25)) × Int)
 | 0, _, _, _, _, _ => none
 | k + 1, x1, x6, x7, x8, x9 => if x9 < (x6.length : Int) then (if 0 ≤ x9 then (if 0 ≤ x7 then (if x7 < (x1.length : Int) then ((r_Subtract.f k ((rd_T25 x6 x9).f0.f0) ((rd_T25 x6 x9).f0.f1) ((rd_T25 x6 x9).f0.f2) ((rd_T25 x6 x9).f1.f0) ((rd_T25 x6 x9).f1.f1) ((rd_T25 x6 x9).f1.f2) ((rd_T25 x1 x7).f0.f0) ((rd_T25 x1 x7).f0.f1) ((rd_T25 x1 x7).f0.f2) ((rd_T25 x1 x7).f1.f0) ((rd_T25 x1 x7).f1.f1) ((rd_T25 x1 x7).f1.f2)).bind fun t624 => (if x8.length + t624.length < 2932031007402 then (r_Rest.l1 k x1 x6 x7 (x8 ++ t624) (wrap64 (x9 + 1))) else (none))) else (none)) else (none)) else (none)) else (if (x8.length : Int) > 4096 then (some (([] : List (S25)), 7)) else (r_Rest.l0 k x1 x8 (wrap64 (x7 + 1))))
end
def r_Rest.f (k : Nat) (a0_0 : Int) (a0_1 : Int) (a0_2 : Int) (a0_3 : Int) (a0_4 : Int) (a0_5 : Int) (l1 : List (S25)) : Option ((List (S25)) × Int) := r_Rest.l0 k l1 (([(⟨(⟨a0_0, a0_1, a0_2⟩ : S23), (⟨a0_3, a0_4, a0_5⟩ : S23)⟩ : S25)] : List (S25))) 0
def r_Rest.T9 : Bool × List (List Nat × List Nat) := (true, [([], []), ([], []), ([], []), ([1, 2], [1, 2]), ([3], [3]), ([], []), ([], []), ([5, 6], [5, 6]), ([7], [7]), ([4, 8], [4, 8]), ([0, 9, 9], [0, 9]), ([10, 10, 0, 1, 2, 3, 4, 5, 6, 7, 8, 9, 10], [0, 10])])
def r_Rest.B9 : List Nat := [0, 0, 0, 6, 14, 0, 0, 96, 224, 510, 1023, 2047]
theorem r_Rest.tab9 : rtab .any (opsOf Try.f39 9) = r_Rest.T9 := by kernel_rfl
theorem r_Rest.bits9 : waitsOk r_Rest.T9.2 r_Rest.B9 = true := by kernel_rfl
set_option maxHeartbeats 8000000 in
set_option maxRecDepth 100000 in
theorem r_Rest.calls (k : Nat) (a0_0 : Int) (a0_1 : Int) (a0_2 : Int) (a0_3 : Int) (a0_4 : Int) (a0_5 : Int) (A1 : Option Addr) (c1 : Nat) (l1 : List (S25)) (r1 : List (S25)) (r2 : Int) (w : World) (hr1 : Kd.C k25 w A1 l1.length l1) (hc1 : l1.length ≤ c1) (h : r_Rest.f k a0_0 a0_1 a0_2 a0_3 a0_4 a0_5 l1 = some (r1, r2)) :
  Calls Try.prog 39 #[.agg #[.int .i64 a0_0, .int .i64 a0_1, .int .i64 a0_2, .int .i64 a0_3, .int .i64 a0_4, .int .i64 a0_5], .slice A1 l1.length c1] w fun e w' => ∃ v0_ : Value, e = .returned (.tuple #[v0_, .int .i64 r2]) ∧ Kd.R k25 25 w' w.heap.size (fun _ => True) v0_ r1 ∧ Below w.heap.size w w' := by
 have hu25 := Try.underlying25
 have HR1 := am hr1
 have HC1 := am hc1
 clear hr1 hc1
 have HB := am (Below.refl w.heap.size w)
 have H : (r_Rest.l0 k l1 (([(⟨(⟨a0_0, a0_1, a0_2⟩ : S23), (⟨a0_3, a0_4, a0_5⟩ : S23)⟩ : S25)] : List (S25))) 0) = some (r1, r2) := h
 clear h
 obtain ⟨y619, hy619⟩ : ∃ y_ : List (S25), y_ = (([(⟨(⟨a0_0, a0_1, a0_2⟩ : S23), (⟨a0_3, a0_4, a0_5⟩ : S23)⟩ : S25)] : List (S25))) := ⟨_, rfl⟩
 replace H : (r_Rest.l0 k l1 y619 0) = some (r1, r2) := by first | (rw [hy619]; with_reducible exact H) | (have H2_ := (Option.bind_some _ _).symm.trans H; rw [hy619]; with_reducible exact H2_) | (have H2_ := (Option.bind_some _ _).symm.trans H; with_reducible exact H2_) | with_reducible exact H | (rw [hy619]; exact H) | exact H
 have Ny619 := am hy619
 clear hy619
 have H' := am H
 clear H
 go_enter Try.func39, Try.ntmps39
 go_wp2_with (first | ((with_reducible refine gd (N := 2) rfl ?_); refine be ?hg (N := 2) ?hd (cs := #[.int .i64 a0_0, .int .i64 a0_1, .int .i64 a0_2, .int .i64 a0_3, .int .i64 a0_4, .int .i64 a0_5]) (t := 25) ?hr ?_; (case hd | hg => rfl); (case hr => first | (go_simp; done) | (go_simp; rfl)); intro gb618 hg w3 hbox hb; have BK618 := am hbox; have GW618 := sG HB hg; have GE618 := sG HB hg; replace HB := bS HB hb; clear hb hbox hg; obtain ⟨_, _, _, _, _, _, _, _, _, _, _, _⟩ := zC6 BK618) | ((with_reducible refine gd (N := 11) rfl ?_); refine Kd.R_lit k25 _ 25 ?hg (N := 11) ?hd (xs := ([(⟨(⟨a0_0, a0_1, a0_2⟩ : S23), (⟨a0_3, a0_4, a0_5⟩ : S23)⟩ : S25)] : List (S25))) (inner := [.int .i64 a0_0, .int .i64 a0_1, .int .i64 a0_2, .int .i64 a0_3, .int .i64 a0_4, .int .i64 a0_5]) (ok := fun _ => True) (okp := fun _ => True) ?hr ?hp (fun _ hk => hk) trivial (Below.refl _ _) (Nat.le_refl _) (by simp) ?_; (case hd | hg => rfl); (case hr => first | (go_simp; done) | (go_simp; rfl)); (case hp => exact (Reps.c6 (show Kd.M k25 _ _ _ (⟨(⟨a0_0, a0_1, a0_2⟩ : S23), (⟨a0_3, a0_4, a0_5⟩ : S23)⟩ : S25) [.int .i64 a0_0, .int .i64 a0_1, .int .i64 a0_2, .int .i64 a0_3, .int .i64 a0_4, .int .i64 a0_5] from (k25_mkM _ _ _ (⟨(⟨a0_0, a0_1, a0_2⟩ : S23), (⟨a0_3, a0_4, a0_5⟩ : S23)⟩ : S25) )) (Reps.none _ _))); intro v620 w5 ho6 hb hg_ hnew_; clear hg_ hnew_; (first | rw [← Ny619.out] at ho6 | (simp only [Int.reduceToNat] at ho6; rw [← Ny619.out] at ho6)); have HO621 := am (Kd.R_lower (Kd.R_newB ho6 (g := gb618) (o := .cells #[.int .i64 a0_0, .int .i64 a0_1, .int .i64 a0_2, .int .i64 a0_3, .int .i64 a0_4, .int .i64 a0_5] 25 (0, 0)) (fb BK618.out)) (wz (fW HB.out))); replace BK618 := bB BK618 hb; replace HB := bS HB hb; clear hb ho6))
 go_loopg [6, 7] k (fun kq v6 v7 w' => ∃ (x6_1 : List (S25)) (x7_1 : Int), v7 = .int .i64 x7_1 ∧ Aside0 (r_Rest.l0 kq l1 x6_1 x7_1 = some (r1, r2)) ∧ Aside0 (kq ≤ k) ∧ Aside0 (Kd.R k25 25 w' w.heap.size (fun k_ => k_ ≠ gb618) v6 x6_1) ∧ Aside0 (w'.heap[gb618]? = some (.cells #[.int .i64 a0_0, .int .i64 a0_1, .int .i64 a0_2, .int .i64 a0_3, .int .i64 a0_4, .int .i64 a0_5] 25 (0, 0))) ∧ Aside0 (Below w.heap.size w w'))
 case atStart => exact ⟨(y619), (0), sqD, H', ⟨Nat.le_refl _⟩, ⟨by (with_reducible repeat (first | apply Kd.R_alloc | apply Kd.R_drewN | apply Kd.R_drew)); exact Kd.R_mono HO621.out (fun _ hk => hk.2)⟩, ⟨fb BK618.out⟩, ⟨fW HB.out⟩⟩
 case round =>
  clear H'
  try clear c1;try clear p2;try clear c3;try clear c6
  obtain ⟨x6_1, x7_1, rfl, HA, HK1, HO_6, BK618, HB⟩ := hrel
  cases gk with
  | zero => exact absurd HA.out (by simp [r_Rest.l0])
  | succ k1 =>
   have H := HA.out
   clear HA
   simp only [r_Rest.l0] at H
   by_cases c7 : x7_1 < (l1.length : Int)
   ·rw [if_pos c7] at H
    have c7b0 : decide (x7_1 < (l1.length : Int)) = true := decide_eq_true c7
    clear c7
    have H' := am H
    clear H
    go_wp2
    go_loopg [8, 9] k1 (fun kq v8 v9 w' => ∃ (x8_2 : List (S25)) (x9_2 : Int), v9 = .int .i64 x9_2 ∧ Aside0 (r_Rest.l1 kq l1 x6_1 x7_1 x8_2 x9_2 = some (r1, r2)) ∧ Aside0 (kq ≤ k1) ∧ Aside0 (Kd.R k25 25 w' w.heap.size (fun k_ => some k_ ≠ (v8 : Value).ownBlock ∧ k_ ≠ gb618) u6 x6_1) ∧ Aside0 (Kd.R k25 25 w' w.heap.size (fun k_ => some k_ ≠ (u6 : Value).ownBlock ∧ k_ ≠ gb618) v8 x8_2) ∧ Aside0 (w'.heap[gb618]? = some (.cells #[.int .i64 a0_0, .int .i64 a0_1, .int .i64 a0_2, .int .i64 a0_3, .int .i64 a0_4, .int .i64 a0_5] 25 (0, 0))) ∧ Aside0 (Below w.heap.size w w'))
    case atStart => exact ⟨(([] : List (S25))), (0), sqD, H', ⟨Nat.le_refl _⟩, ⟨by (with_reducible repeat (first | apply Kd.R_alloc | apply Kd.R_drewN | apply Kd.R_drew)); exact Kd.R_mono HO_6.out (fun _ hk => ⟨(by simp [Value.ownBlock]), hk⟩)⟩, ⟨by first | exact Kd.R_nil _ _ _ _ _ | exact Kd.N_nil _ _ _ _ _ | exact Kd.V_nil _ _ _ _ _ | exact Kd.Q_nil _ _ _ _ _ | exact Kd.S_nil _ _ _ _ _⟩, ⟨fb BK618.out⟩, ⟨fW HB.out⟩⟩
    case round =>
     clear H'
     try clear c1;try clear p2;try clear c3;try clear c6;try clear c7;try clear c7b0;try clear p2
     obtain ⟨x8_2, x9_2, rfl, HA, HK2, HO_6, HO_8, BK618, HB⟩ := hrel
     cases gk with
     | zero => exact absurd HA.out (by simp [r_Rest.l1])
     | succ k2 =>
      have H := HA.out
      clear HA
      simp only [r_Rest.l1] at H
      by_cases c8 : x9_2 < (x6_1.length : Int)
      rotate_left
      ·rw [if_neg c8] at H
       have c8b0 : decide (x9_2 < (x6_1.length : Int)) = false := decide_eq_false c8
       clear c8
       by_cases c19 : (x8_2.length : Int) > 4096
       ·rw [if_pos c19] at H
        have c19b0 : decide (4096 < (x8_2.length : Int)) = true := decide_eq_true c19
        have c19b1 : decide (4096 < x8_2.length) = true := decide_eq_true (by omega)
        clear c19
        simp only [Option.some.injEq, Prod.mk.injEq] at H
        obtain ⟨rfl, rfl⟩ := H
        obtain ⟨Ao20, co20, eo20⟩ := Kd.R_slice HO_6.out
        subst eo20
        obtain ⟨Ao21, co21, eo21⟩ := Kd.R_slice HO_8.out
        subst eo21
        go_wp2
        go_ret2
        exact ⟨_, sqE, by first | exact Kd.R_nil _ _ _ _ _ | exact Kd.N_nil _ _ _ _ _ | exact Kd.V_nil _ _ _ _ _ | exact Kd.Q_nil _ _ _ _ _ | exact Kd.S_nil _ _ _ _ _, fW HB.out⟩
       rw [if_neg c19] at H
       have c19b0 : decide (4096 < (x8_2.length : Int)) = false := decide_eq_false c19
       have c19b1 : decide (4096 < x8_2.length) = false := decide_eq_false (by omega)
       clear c19
       have H' := am H
       clear H
       obtain ⟨Ao22, co22, eo22⟩ := Kd.R_slice HO_6.out
       subst eo22
       obtain ⟨Ao23, co23, eo23⟩ := Kd.R_slice HO_8.out
       subst eo23
       go_wp2
       go_roundg k2
       case measure => have := HK1.out; have := HK2.out; omega
       case rel => exact ⟨(x8_2), (wrap64 (x7_1 + 1)), sqD, H', ⟨by have := HK1.out; have := HK2.out; omega⟩, ⟨by (with_reducible repeat (first | apply Kd.R_alloc | apply Kd.R_drewN | apply Kd.R_drew)); exact Kd.R_mono HO_8.out (fun _ hk => hk.2)⟩, ⟨fb BK618.out⟩, ⟨fW HB.out⟩⟩
      rw [if_pos c8] at H
      have c8b0 : decide (x9_2 < (x6_1.length : Int)) = true := decide_eq_true c8
      clear c8
      by_cases c9 : 0 ≤ x9_2
      rotate_left
      ·rw [if_neg c9] at H
       exact absurd H (by simp)
      rw [if_pos c9] at H
      have c9b0 : decide (0 ≤ x9_2) = true := decide_eq_true c9
      clear c9
      by_cases c10 : 0 ≤ x7_1
      rotate_left
      ·rw [if_neg c10] at H
       exact absurd H (by simp)
      rw [if_pos c10] at H
      have c10b0 : decide (0 ≤ x7_1) = true := decide_eq_true c10
      clear c10
      by_cases c11 : x7_1 < (l1.length : Int)
      rotate_left
      ·rw [if_neg c11] at H
       exact absurd H (by simp)
      rw [if_pos c11] at H
      have c11b0 : decide (x7_1 < (l1.length : Int)) = true := decide_eq_true c11
      clear c11
      replace H := Option.bind_eq_some_iff.mp H
      obtain ⟨t624, A120, H⟩ := H
      replace H : (if x8_2.length + t624.length < 2932031007402 then (r_Rest.l1 k2 l1 x6_1 x7_1 (x8_2 ++ t624) (wrap64 (x9_2 + 1))) else (none)) = some (r1, r2) := H
      have A12 := am A120
      clear A120
      by_cases c13 : x8_2.length + t624.length < 2932031007402
      rotate_left
      ·rw [if_neg c13] at H
       exact absurd H (by simp)
      rw [if_pos c13] at H
      have LMc13 := am c13
      clear c13
      obtain ⟨y627, hy627⟩ : ∃ y_ : List (S25), y_ = (x8_2 ++ t624) := ⟨_, rfl⟩
      replace H : (r_Rest.l1 k2 l1 x6_1 x7_1 y627 (wrap64 (x9_2 + 1))) = some (r1, r2) := by first | (rw [hy627]; with_reducible exact H) | (have H2_ := (Option.bind_some _ _).symm.trans H; rw [hy627]; with_reducible exact H2_) | (have H2_ := (Option.bind_some _ _).symm.trans H; with_reducible exact H2_) | with_reducible exact H | (rw [hy627]; exact H) | exact H
      have Ny627 := am hy627
      clear hy627
      have H' := am H
      clear H
      obtain ⟨Ao14, co14, eo14⟩ := Kd.R_slice HO_6.out
      subst eo14
      try go_wp2
      have n0_ := am (Kd.R_drew HO_6.out)
      have n1_ := am (Kd.R_drew HO_8.out)
      have n2_ := am (blk_drew BK618.out)
      have n3_ := am (below_drew1 HB.out)
      clear HO_6 HO_8 BK618 HB
      have HO_6 := n0_
      have HO_8 := n1_
      have BK618 := n2_
      have HB := n3_
      clear n0_ n1_ n2_ n3_
      have p622 : 0 ≤ (x9_2 : Int) := of_decide_eq_true (by assumption)
      have q622 : x9_2 < (x6_1.length : Int) := of_decide_eq_true (by assumption)
      obtain ⟨ad622, e622, hx622_0, hx622_1, hx622_2, hx622_3, hx622_4, hx622_5⟩ := at_T25 (Kd.R_reads' HO_6.out).2.2 x9_2 p622 q622
      cases e622
      replace p622 := eq_true p622
      replace q622 := eq_true q622
      have p623 : 0 ≤ (x7_1 : Int) := of_decide_eq_true (by assumption)
      have q623 : x7_1 < (l1.length : Int) := of_decide_eq_true (by assumption)
      obtain ⟨ad623, e623, hx623_0, hx623_1, hx623_2, hx623_3, hx623_4, hx623_5⟩ := at_T25 HR1.out x7_1 p623 q623
      have hw623_5 := hx623_5
      have hw623_4 := hx623_4
      have hw623_3 := hx623_3
      have hw623_2 := hx623_2
      have hw623_1 := hx623_1
      have hw623_0 := hx623_0
      cases e623
      replace hx623_0 := cl HB hx623_0
      replace hx623_1 := cl HB hx623_1
      replace hx623_2 := cl HB hx623_2
      replace hx623_3 := cl HB hx623_3
      replace hx623_4 := cl HB hx623_4
      replace hx623_5 := cl HB hx623_5
      replace p623 := eq_true p623
      replace q623 := eq_true q623
      refine start_ (n := 12) (S := fun w' => w'.cell? (ad622.add ((x9_2).toNat * 6)) = some (.int .i64 ((rd_T25 x6_1 x9_2).f0.f0)) ∧ w'.cell? ⟨(ad622.add ((x9_2).toNat * 6)).block, (ad622.add ((x9_2).toNat * 6)).off + 1, none⟩ = some (.int .i64 ((rd_T25 x6_1 x9_2).f0.f1)) ∧ w'.cell? ⟨(ad622.add ((x9_2).toNat * 6)).block, (ad622.add ((x9_2).toNat * 6)).off + 2, none⟩ = some (.int .i64 ((rd_T25 x6_1 x9_2).f0.f2)) ∧ w'.cell? ⟨(ad622.add ((x9_2).toNat * 6)).block, (ad622.add ((x9_2).toNat * 6)).off + 3, none⟩ = some (.int .i64 ((rd_T25 x6_1 x9_2).f1.f0)) ∧ w'.cell? ⟨(ad622.add ((x9_2).toNat * 6)).block, (ad622.add ((x9_2).toNat * 6)).off + 4, none⟩ = some (.int .i64 ((rd_T25 x6_1 x9_2).f1.f1)) ∧ w'.cell? ⟨(ad622.add ((x9_2).toNat * 6)).block, (ad622.add ((x9_2).toNat * 6)).off + 5, none⟩ = some (.int .i64 ((rd_T25 x6_1 x9_2).f1.f2)) ∧ w'.cell? (ad623.add ((x7_1).toNat * 6)) = some (.int .i64 ((rd_T25 l1 x7_1).f0.f0)) ∧ w'.cell? ⟨(ad623.add ((x7_1).toNat * 6)).block, (ad623.add ((x7_1).toNat * 6)).off + 1, none⟩ = some (.int .i64 ((rd_T25 l1 x7_1).f0.f1)) ∧ w'.cell? ⟨(ad623.add ((x7_1).toNat * 6)).block, (ad623.add ((x7_1).toNat * 6)).off + 2, none⟩ = some (.int .i64 ((rd_T25 l1 x7_1).f0.f2)) ∧ w'.cell? ⟨(ad623.add ((x7_1).toNat * 6)).block, (ad623.add ((x7_1).toNat * 6)).off + 3, none⟩ = some (.int .i64 ((rd_T25 l1 x7_1).f1.f0)) ∧ w'.cell? ⟨(ad623.add ((x7_1).toNat * 6)).block, (ad623.add ((x7_1).toNat * 6)).off + 4, none⟩ = some (.int .i64 ((rd_T25 l1 x7_1).f1.f1)) ∧ w'.cell? ⟨(ad623.add ((x7_1).toNat * 6)).block, (ad623.add ((x7_1).toNat * 6)).off + 5, none⟩ = some (.int .i64 ((rd_T25 l1 x7_1).f1.f2))) (ds := [10]) #[F,F,F,F,F,F,F,F,F,F,F,F] (by kernel_rfl) rfl rfl ⟨hx622_0, hx622_1, hx622_2, hx622_3, hx622_4, hx622_5, ((HB.out.cell (bq w _ hw623_0)).trans hw623_0), ((HB.out.cell (bq w _ hw623_1)).trans hw623_1), ((HB.out.cell (bq w _ hw623_2)).trans hw623_2), ((HB.out.cell (bq w _ hw623_3)).trans hw623_3), ((HB.out.cell (bq w _ hw623_4)).trans hw623_4), ((HB.out.cell (bq w _ hw623_5)).trans hw623_5)⟩ (fun hHeld => ?_); refine with_tabW r_Rest.tab9 r_Rest.bits9 (fun HT_ HW_ => ?_)
      generalize wr.drew = w15 at HO_6 HO_8 BK618 HB hx622_0 hx622_1 hx622_2 hx622_3 hx622_4 hx622_5 hx623_0 hx623_1 hx623_2 hx623_3 hx623_4 hx623_5 hHeld ⊢
      refine pu (i := 0) (N := some 24) (fl 12 1 []) HT_ ?_
      refine pu (i := 1) (N := some 25) (fl 12 2 []) HT_ ?_
      refine pu (i := 2) (N := some 26) (fl 12 3 []) HT_ ?_
      refine pu (i := 3) (N := some 27) (fl 12 4 []) HT_ ?_
      refine pu (i := 5) (N := some 29) (fl 12 4 [5]) HT_ ?_
      refine pu (i := 6) (N := some 30) (fl 12 4 [5, 6]) HT_ ?_
      refine pu (i := 7) (N := some 31) (fl 12 4 [5, 6, 7]) HT_ ?_
      refine tk (i := 4) (N := some 28) (fl 12 8 []) HT_ HW_ hHeld ?_
      refine tk (i := 8) (N := some 32) (fl 12 9 []) HT_ HW_ hHeld ?_
      refine one_ (i := 9) (N := some 33) (fl 12 10 []) rfl rfl (one_of HT_.out (by kernel_rfl)) (by decide) (fun K hK => ?_)
      refine goes_ Try.func37 (by kernel_rfl) rfl #[.agg #[.int .i64 ((rd_T25 x6_1 x9_2).f0.f0), .int .i64 ((rd_T25 x6_1 x9_2).f0.f1), .int .i64 ((rd_T25 x6_1 x9_2).f0.f2), .int .i64 ((rd_T25 x6_1 x9_2).f1.f0), .int .i64 ((rd_T25 x6_1 x9_2).f1.f1), .int .i64 ((rd_T25 x6_1 x9_2).f1.f2)], .agg #[.int .i64 ((rd_T25 l1 x7_1).f0.f0), .int .i64 ((rd_T25 l1 x7_1).f0.f1), .int .i64 ((rd_T25 l1 x7_1).f0.f2), .int .i64 ((rd_T25 l1 x7_1).f1.f0), .int .i64 ((rd_T25 l1 x7_1).f1.f1), .int .i64 ((rd_T25 l1 x7_1).f1.f2)]] (by rfl) rfl rfl (by (try simp only [pml]); first | done | rfl | (simp only [pdt]; rfl)) ?_
      with_reducible refine (r_Subtract.calls k2 ((rd_T25 x6_1 x9_2).f0.f0) ((rd_T25 x6_1 x9_2).f0.f1) ((rd_T25 x6_1 x9_2).f0.f2) ((rd_T25 x6_1 x9_2).f1.f0) ((rd_T25 x6_1 x9_2).f1.f1) ((rd_T25 x6_1 x9_2).f1.f2) ((rd_T25 l1 x7_1).f0.f0) ((rd_T25 l1 x7_1).f0.f1) ((rd_T25 l1 x7_1).f0.f2) ((rd_T25 l1 x7_1).f1.f0) ((rd_T25 l1 x7_1).f1.f1) ((rd_T25 l1 x7_1).f1.f2) t624 _ A12.out).mono ?_
      rintro e w16 ⟨v625, rfl, ho0, hb⟩
      have HS0_ := (hb.cell (bq _ _ (hHeld.1))).trans (hHeld.1)
      have HS1_ := (hb.cell (bq _ _ (hHeld.2.1))).trans (hHeld.2.1)
      have HS2_ := (hb.cell (bq _ _ (hHeld.2.2.1))).trans (hHeld.2.2.1)
      have HS3_ := (hb.cell (bq _ _ (hHeld.2.2.2.1))).trans (hHeld.2.2.2.1)
      have HS4_ := (hb.cell (bq _ _ (hHeld.2.2.2.2.1))).trans (hHeld.2.2.2.2.1)
      have HS5_ := (hb.cell (bq _ _ (hHeld.2.2.2.2.2.1))).trans (hHeld.2.2.2.2.2.1)
      refine ⟨_, rfl, ?_⟩
      have n0_ := am (Kd.R_elder' (fR HO_6.out) (Kd.R_base ho0) hb)
      have n1_ := am (Kd.R_elder' (fR HO_8.out) (Kd.R_base ho0) hb)
      have n2_ := am (Kd.R_lower (Kd.R_newB (Kd.R_new' (Kd.R_new' ho0 (Kd.R_lt (fR HO_6.out))) (Kd.R_lt (fR HO_8.out))) (g := gb618) (o := .cells #[.int .i64 a0_0, .int .i64 a0_1, .int .i64 a0_2, .int .i64 a0_3, .int .i64 a0_4, .int .i64 a0_5] 25 (0, 0)) (fb BK618.out)) (wz (fW HB.out)))
      have n3_ := bB BK618 hb
      have n4_ := bS HB hb
      clear HO_6 HO_8 BK618 HB
      have HO_6 := n0_
      have HO_8 := n1_
      have HO626 := n2_
      have BK618 := n3_
      have HB := n4_
      clear n0_ n1_ n2_ n3_ n4_
      (try clear hb)
      (try clear hb2)
      (try clear hk)
      (try clear hi)
      (try clear ho0)
      obtain ⟨Ao18, co18, eo18⟩ := Kd.R_slice HO626.out
      (first | subst eo18 | (injection eo18 with f1_ f2_ f3_; have f4_ := f1_.symm; have f5_ := f3_.symm; clear f1_ f2_ f3_; subst f4_; subst f5_))
      refine hK.out _ _ ⟨HS0_, HS1_, HS2_, HS3_, HS4_, HS5_, ((HB.out.cell (bq w _ hw623_0)).trans hw623_0), ((HB.out.cell (bq w _ hw623_1)).trans hw623_1), ((HB.out.cell (bq w _ hw623_2)).trans hw623_2), ((HB.out.cell (bq w _ hw623_3)).trans hw623_3), ((HB.out.cell (bq w _ hw623_4)).trans hw623_4), ((HB.out.cell (bq w _ hw623_5)).trans hw623_5)⟩ (fun hHeld => ?_)
      clear hK K
      refine norm_ (a' := ?_) ?_ ?_
      rotate_left
      ·show Act.put _ (some 33) _ = _
       simp only [Act.put, psl, i64_w, i32_w]
       rfl
      refine last_ (i := 10) (N := some 34) #[T,T,T,T,T,T,T,T,T,T,T,F] rfl rfl (one_of HT_.out (by kernel_rfl)) (by decide) (fun K hK => ?_)
      refine Kd.R_append_rows_step k25 (w0 := w) w.heap.size (by rfl) (.tmp 24) (.tmp 33) 26 25 (.agg #[(.int .i64 0), (.int .i64 0), (.int .i64 0), (.int .i64 0), (.int .i64 0), (.int .i64 0)]) 48 rfl Try.underlying26 info25 rfl (by decide) (by omega) u8 x8_2 t624 _ _ _ (fun k_ => some k_ ≠ (.slice (some ad622) x6_1.length co14 : Value).ownBlock ∧ some k_ ≠ (.slice Ao18 t624.length co18 : Value).ownBlock ∧ k_ ≠ gb618) (fun _ => False) rfl rfl ?aO ?aR (fun _ _ h => h) (fun _ h => h.elim) ?aF ?aB ?aS ?aL ?_
      (case aR => repeat (first | exact (Kd.R_reads' HO626.out).2.2 | (with_reducible refine Kd.C_alloc ?_ _) | (with_reducible refine Kd.C_drewN ?_ _) | (with_reducible refine Kd.C_drew ?_)))
      (case aB => exact (fW HB.out))
      (case aF => exact (fun k_ hk => ⟨Kd.fresh' (Kd.R_lt (fR HO_6.out)) k_ hk, Kd.fresh' (Kd.R_lt (fR HO626.out)) k_ hk, Kd.freshB (g := gb618) (o := .cells #[.int .i64 a0_0, .int .i64 a0_1, .int .i64 a0_2, .int .i64 a0_3, .int .i64 a0_4, .int .i64 a0_5] 25 (0, 0)) (fb BK618.out) k_ hk⟩))
      (case aO => exact (by (with_reducible repeat (first | apply Kd.R_alloc | apply Kd.R_drewN | apply Kd.R_drew)); exact Kd.R_mono HO_8.out (fun _ hk => ⟨hk.1.1, ⟨hk.2, hk.1.2⟩⟩)))
      (case aS => exact (wz (fW HB.out)))
      (case aL => have := LMc13.out; omega)
      intro v628 w17 ho hb hg hat
      rw [← Ny627.out] at ho
      have n0_ := am (Kd.R_after (ok := (fun k_ => some k_ ≠ (.slice Ao18 t624.length co18 : Value).ownBlock ∧ k_ ≠ gb618)) (by (with_reducible repeat (first | apply Kd.R_alloc | apply Kd.R_drewN | apply Kd.R_drew)); exact Kd.R_mono HO_6.out (fun _ hk => ⟨⟨hk.2, hk.1.2⟩, hk.1.1⟩)) hg hat)
      have n1_ := am (blk_grown (g := gb618) (o := .cells #[.int .i64 a0_0, .int .i64 a0_1, .int .i64 a0_2, .int .i64 a0_3, .int .i64 a0_4, .int .i64 a0_5] 25 (0, 0)) (fb BK618.out) hg (Kd.R_away HO_8.out (fun _ hk => hk.1.2)))
      have n2_ := am (Kd.R_after (ok := (fun k_ => some k_ ≠ (.slice (some ad622) x6_1.length co14 : Value).ownBlock ∧ k_ ≠ gb618)) (by (with_reducible repeat (first | apply Kd.R_alloc | apply Kd.R_drewN | apply Kd.R_drew)); exact Kd.R_mono HO626.out (fun _ hk => ⟨⟨hk.1.1.2, hk.2⟩, hk.1.2⟩)) hg hat)
      have n3_ := am (hb)
      have n4_ := am (ho)
      clear HO_6 BK618 HO626 HB HO_8
      have HO_6 := n0_
      have BK618 := n1_
      have HO626 := n2_
      have HB := n3_
      have HO629 := n4_
      clear n0_ n1_ n2_ n3_ n4_ ho hb hg hat
      refine hK.out _ _ ?_
      clear hK K
      refine norm_ (a' := ?_) ?_ ?_
      rotate_left
      ·show Act.put _ (some 34) _ = _
       simp only [Act.put, psl, i64_w, i32_w]
       rfl
      refine pu (i := 11) (N := some 8) (fl 12 12 []) HT_ ?_
      refine done_ (done_of HT_.out (by kernel_rfl)) ?_
      try go_wp2
      go_roundg k2
      case measure => have := HK1.out; have := HK2.out; omega
      case rel => exact ⟨(y627), (wrap64 (x9_2 + 1)), sqD, H', ⟨by have := HK1.out; have := HK2.out; omega⟩, ⟨by (with_reducible repeat (first | apply Kd.R_alloc | apply Kd.R_drewN | apply Kd.R_drew)); exact Kd.R_mono HO_6.out (fun _ hk => ⟨hk.2, hk.1.2⟩)⟩, ⟨by (with_reducible repeat (first | apply Kd.R_alloc | apply Kd.R_drewN | apply Kd.R_drew)); exact Kd.R_mono HO629.out (fun _ hk => ⟨hk.1, hk.2.2⟩)⟩, ⟨fb BK618.out⟩, ⟨fW HB.out⟩⟩
   ·rw [if_neg c7] at H
    have c7b0 : decide (x7_1 < (l1.length : Int)) = false := decide_eq_false c7
    clear c7
    simp only [Option.some.injEq, Prod.mk.injEq] at H
    obtain ⟨rfl, rfl⟩ := H
    go_wp2
    go_ret2
    exact ⟨_, sqE, by (with_reducible repeat (first | apply Kd.R_alloc | apply Kd.R_drewN | apply Kd.R_drew)); exact Kd.R_mono HO_6.out (fun _ hk => trivial), fW HB.out⟩

end Go.Proofs.Ytmmdikhmlmoolaa.QA
