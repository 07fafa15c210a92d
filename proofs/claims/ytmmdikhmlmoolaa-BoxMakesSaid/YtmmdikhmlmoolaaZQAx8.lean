import Derived.Test.YtmmdikhmlmoolaaZQAx0
import Derived.Test.YtmmdikhmlmoolaaZQAx3
import Derived.Test.YtmmdikhmlmoolaaZQAx6
import Derived.Test.YtmmdikhmlmoolaaZQAx7
namespace Go.Proofs.Ytmmdikhmlmoolaa.QA
open Go.RowKit Go.Proofs.YtmmdikhmlmoolaaW.PrintWords Go.Proofs.YtmmdikhmlmoolaaW.PrintLast Go.Proofs.YtmmdikhmlmoolaaW.PrintMore
open Go.Proofs.YtmmdikhmlmoolaaW.PrintWords renaming below_size → wz, gate_dst → gd, gate_callee → gc, box_event → be
open Aside0 renaming mk → am
attribute [local go_sem] max2_int min2_int max_two min_two max_three min_three max_four min_four
set_option linter.unusedVariables false
set_option linter.unusedSimpArgs false

mutual
def box_Gap.l0 : Nat → List (S25) → List Int → Int → Int → Int → Int → Int → Int → Int → Int → Option (Int × Int × Int × Int)
 | 0, _, _, _, _, _, _, _, _, _, _ => none
 | k + 1, x1, x30, x31, x32, x212000, x212001, x212002, x212003, x212004, x212005 => if x32 < x31 then (if 0 ≤ x32 then (if x32 < (x30.length : Int) then ((box_at.f k x1 2 (rd x30 x32)).bind fun t221 => ((box_ends.f k t221 1 x212001 x212004).bind fun t224 => (box_Gap.l1 k x1 (rd x30 x32) t221 x30 x31 x32 t224 (t224.length : Int) 0 x212000 x212001 x212002 x212003 x212004 x212005))) else (none)) else (none)) else (some (0, 0, 0, 9))
def box_Gap.l1 : Nat → List (S25) → Int → List (S25) → List Int → Int → Int → List Int → Int → Int → Int → Int → Int → Int → Int → Int → Option (Int × Int × Int × Int)
 | 0, _, _, _, _, _, _, _, _, _, _, _, _, _, _, _ => none
 | k + 1, x1, x8, x9, x30, x31, x32, x46, x47, x48, x212000, x212001, x212002, x212003, x212004, x212005 => if x48 < x47 then (if 0 ≤ x48 then (if x48 < (x46.length : Int) then ((box_at.f k x9 1 (rd x46 x48)).bind fun t228 => ((box_ends.f k t228 0 x212000 x212003).bind fun t231 => (box_Gap.l2 k x1 x8 x9 (rd x46 x48) t228 x30 x31 x32 x46 x47 x48 t231 (t231.length : Int) 0 x212000 x212001 x212002 x212003 x212004 x212005))) else (none)) else (none)) else (box_Gap.l0 k x1 x30 x31 (wrap64 (x32 + 1)) x212000 x212001 x212002 x212003 x212004 x212005)
def box_Gap.l2 : Nat → List (S25) → Int → List (S25) → Int → List (S25) → List Int → Int → Int → List Int → Int → Int → List Int → Int → Int → Int → Int → Int → Int → Int → Int → Option (Int × Int × Int × Int)
 | 0, _, _, _, _, _, _, _, _, _, _, _, _, _, _, _, _, _, _, _, _ => none
 | k + 1, x1, x8, x9, x11, x12, x30, x31, x32, x46, x47, x48, x62, x63, x64, x212000, x212001, x212002, x212003, x212004, x212005 => if x64 < x63 then (if 0 ≤ x64 then (if x64 < (x62.length : Int) then ((box_at.f k x12 0 (rd x62 x64)).bind fun t235 => (if (t235.length : Int) = 0 then (some (rd x62 x64, x11, x8, 0)) else (box_Gap.l2 k x1 x8 x9 x11 x12 x30 x31 x32 x46 x47 x48 x62 x63 (wrap64 (x64 + 1)) x212000 x212001 x212002 x212003 x212004 x212005))) else (none)) else (none)) else (box_Gap.l1 k x1 x8 x9 x30 x31 x32 x46 x47 (wrap64 (x48 + 1)) x212000 x212001 x212002 x212003 x212004 x212005)
end
def box_Gap.f (k : Nat) (a0_0 : Int) (a0_1 : Int) (a0_2 : Int) (a0_3 : Int) (a0_4 : Int) (a0_5 : Int) (l1 : List (S25)) : Option (Int × Int × Int × Int) := (box_many.f k l1 (([(⟨(⟨a0_0, a0_1, a0_2⟩ : S23), (⟨a0_3, a0_4, a0_5⟩ : S23)⟩ : S25)] : List (S25)))).bind fun t216 => (if t216 = 0 then ((box_ends.f k l1 2 a0_2 a0_5).bind fun t217 => (box_Gap.l0 k l1 t217 (t217.length : Int) 0 a0_0 a0_1 a0_2 a0_3 a0_4 a0_5)) else (some (0, 0, 0, t216)))
set_option maxHeartbeats 8000000 in
set_option maxRecDepth 100000 in
theorem box_Gap.calls (k : Nat) (a0_0 : Int) (a0_1 : Int) (a0_2 : Int) (a0_3 : Int) (a0_4 : Int) (a0_5 : Int) (A1 : Option Addr) (c1 : Nat) (l1 : List (S25)) (r1 : Int) (r2 : Int) (r3 : Int) (r4 : Int) (w : World) (hr1 : Kd.C k25 w A1 l1.length l1) (hc1 : l1.length ≤ c1) (h : box_Gap.f k a0_0 a0_1 a0_2 a0_3 a0_4 a0_5 l1 = some (r1, r2, r3, r4)) :
  Calls Try.prog 12 #[.agg #[.int .i64 a0_0, .int .i64 a0_1, .int .i64 a0_2, .int .i64 a0_3, .int .i64 a0_4, .int .i64 a0_5], .slice A1 l1.length c1] w fun e w' => e = .returned (.tuple #[.agg #[.int .i64 r1, .int .i64 r2, .int .i64 r3], .int .i64 r4]) ∧ Below w.heap.size w w' := by
 have hu25 := Try.underlying25
 have hu23 := Try.underlying23
 have HR1 := am hr1
 have HC1 := am hc1
 clear hr1 hc1
 have HB := am (Below.refl w.heap.size w)
 have H : ((box_many.f k l1 (([(⟨(⟨a0_0, a0_1, a0_2⟩ : S23), (⟨a0_3, a0_4, a0_5⟩ : S23)⟩ : S25)] : List (S25)))).bind fun t216 => (if t216 = 0 then ((box_ends.f k l1 2 a0_2 a0_5).bind fun t217 => (box_Gap.l0 k l1 t217 (t217.length : Int) 0 a0_0 a0_1 a0_2 a0_3 a0_4 a0_5)) else (some (0, 0, 0, t216)))) = some (r1, r2, r3, r4) := h
 clear h
 obtain ⟨y213, hy213⟩ : ∃ y_ : List (S25), y_ = (([(⟨(⟨a0_0, a0_1, a0_2⟩ : S23), (⟨a0_3, a0_4, a0_5⟩ : S23)⟩ : S25)] : List (S25))) := ⟨_, rfl⟩
 replace H : ((box_many.f k l1 y213).bind fun t216 => (if t216 = 0 then ((box_ends.f k l1 2 a0_2 a0_5).bind fun t217 => (box_Gap.l0 k l1 t217 (t217.length : Int) 0 a0_0 a0_1 a0_2 a0_3 a0_4 a0_5)) else (some (0, 0, 0, t216)))) = some (r1, r2, r3, r4) := by first | (rw [hy213]; with_reducible exact H) | (have H2_ := (Option.bind_some _ _).symm.trans H; rw [hy213]; with_reducible exact H2_) | (have H2_ := (Option.bind_some _ _).symm.trans H; with_reducible exact H2_) | with_reducible exact H | (rw [hy213]; exact H) | exact H
 have Ny213 := am hy213
 clear hy213
 replace H := Option.bind_eq_some_iff.mp H
 obtain ⟨t216, A30, H⟩ := H
 replace H : (if t216 = 0 then ((box_ends.f k l1 2 a0_2 a0_5).bind fun t217 => (box_Gap.l0 k l1 t217 (t217.length : Int) 0 a0_0 a0_1 a0_2 a0_3 a0_4 a0_5)) else (some (0, 0, 0, t216))) = some (r1, r2, r3, r4) := H
 have A3 := am A30
 clear A30
 by_cases c4 : t216 = 0
 ·rw [if_pos c4] at H
  have c4b0 : (t216 == 0) = true := beq_iff_eq.mpr c4
  have c4b1 : (t216 != 0) = false := bne_eq_false_iff_eq.mpr c4
  clear c4
  replace H := Option.bind_eq_some_iff.mp H
  obtain ⟨t217, A50, H⟩ := H
  replace H : (box_Gap.l0 k l1 t217 (t217.length : Int) 0 a0_0 a0_1 a0_2 a0_3 a0_4 a0_5) = some (r1, r2, r3, r4) := H
  have A5 := am A50
  clear A50
  have H' := am H
  clear H
  go_enter Try.func12, Try.ntmps12
  go_wp2_with (first | ((with_reducible refine gd (N := 2) rfl ?_); refine be ?hg (N := 2) ?hd (cs := #[.int .i64 a0_0, .int .i64 a0_1, .int .i64 a0_2, .int .i64 a0_3, .int .i64 a0_4, .int .i64 a0_5]) (t := 25) ?hr ?_; (case hd | hg => rfl); (case hr => first | (go_simp; done) | (go_simp; rfl)); intro gb211 hg w6 hbox hb; have BK211 := am hbox; have GW211 := sG HB hg; have GE211 := sG HB hg; replace HB := bS HB hb; clear hb hbox hg) | ((with_reducible refine gd (N := 4) rfl ?_); refine be ?hg (N := 4) ?hd (cs := #[.int .i64 0, .int .i64 0, .int .i64 0]) (t := 23) ?hr ?_; (case hd | hg => rfl); (case hr => first | (go_simp; done) | (go_simp; rfl)); intro gb212 hg w7 hbox hb; have BK212 := am hbox; have GW212 := sG HB hg; have GE212 := sG HB hg; replace HB := bS HB hb; have NB211_212 := nL BK211 hg; have NB212_211 := nG BK211 hg; replace BK211 := bB BK211 hb; clear hb hbox hg; have hnb8 := NB211_212.out; have hnc8 := NB212_211.out; obtain ⟨_, _, _, _, _, _, _, _, _, _, _, _⟩ := zC6 BK211) | ((with_reducible refine gd (N := 17) rfl ?_); refine Kd.R_lit k25 _ 25 ?hg (N := 17) ?hd (xs := ([(⟨(⟨a0_0, a0_1, a0_2⟩ : S23), (⟨a0_3, a0_4, a0_5⟩ : S23)⟩ : S25)] : List (S25))) (inner := [.int .i64 a0_0, .int .i64 a0_1, .int .i64 a0_2, .int .i64 a0_3, .int .i64 a0_4, .int .i64 a0_5]) (ok := fun _ => True) (okp := fun _ => True) ?hr ?hp (fun _ hk => hk) trivial (Below.refl _ _) (Nat.le_refl _) (by simp) ?_; (case hd | hg => rfl); (case hr => first | (go_simp; done) | (go_simp; rfl)); (case hp => exact (Reps.c6 (show Kd.M k25 _ _ _ (⟨(⟨a0_0, a0_1, a0_2⟩ : S23), (⟨a0_3, a0_4, a0_5⟩ : S23)⟩ : S25) [.int .i64 a0_0, .int .i64 a0_1, .int .i64 a0_2, .int .i64 a0_3, .int .i64 a0_4, .int .i64 a0_5] from (k25_mkM _ _ _ (⟨(⟨a0_0, a0_1, a0_2⟩ : S23), (⟨a0_3, a0_4, a0_5⟩ : S23)⟩ : S25) )) (Reps.none _ _))); intro v214 w10 ho11 hb hg_ hnew_; clear hg_ hnew_; (first | rw [← Ny213.out] at ho11 | (simp only [Int.reduceToNat] at ho11; rw [← Ny213.out] at ho11)); have HO215 := am (Kd.R_lower (Kd.R_newB ho11 (g := gb211) (o := .cells #[.int .i64 a0_0, .int .i64 a0_1, .int .i64 a0_2, .int .i64 a0_3, .int .i64 a0_4, .int .i64 a0_5] 25 (0, 0)) (fb BK211.out)) (wz (fW HB.out))); replace BK211 := bB BK211 hb; replace BK212 := bB BK212 hb; replace HB := bS HB hb; clear hb ho11; obtain ⟨Ao12, co12, eo12⟩ := Kd.R_slice HO215.out; subst eo12) | ((with_reducible refine gc (f := 48) rfl ?_); refine goesL_ (some 18) rfl rfl Try.func48 (by kernel_rfl) rfl #[.slice A1 l1.length c1, .slice Ao12 y213.length co12] rfl (by (try simp only [pml]); first | done | rfl | (simp only [pdt]; rfl)) ?_; (with_reducible refine (box_many.calls k _ _ l1 _ _ y213 t216 _ ?side1 ?side2 ?side3 ?side4 A3.out).mono ?_); (case side1 => repeat (first | exact (Kd.C_below HR1.out HB.out) | (with_reducible refine Kd.C_alloc ?_ _) | (with_reducible refine Kd.C_drewN ?_ _) | (with_reducible refine Kd.C_drew ?_))); (case side2 => exact HC1.out); (case side3 => repeat (first | exact (Kd.R_reads' HO215.out).2.2 | (with_reducible refine Kd.C_alloc ?_ _) | (with_reducible refine Kd.C_drewN ?_ _) | (with_reducible refine Kd.C_drew ?_))); (case side4 => exact (Kd.R_reads' HO215.out).2.1); rintro e w13 ⟨rfl, hb⟩; refine ⟨_, rfl, ?_⟩; replace HO215 := dR HO215 hb; replace BK211 := bB BK211 hb; replace BK212 := bB BK212 hb; replace HB := bS HB hb; (try clear hb); (try clear hb2); (try clear hk); (try clear hi); obtain ⟨_, _, _, _, _, _, _, _, _, _, _, _⟩ := zC6 BK211) | ((with_reducible refine gc (f := 49) rfl ?_); refine goesL_ (some 30) rfl rfl Try.func49 (by kernel_rfl) rfl #[.slice A1 l1.length c1, .int .i64 2, .int .i64 a0_2, .int .i64 a0_5] rfl (by (try simp only [pml]); first | done | rfl | (simp only [pdt]; rfl)) ?_; (with_reducible refine (box_ends.calls k _ _ l1 2 a0_2 a0_5 t217 _ ?side1 ?side2 A5.out).mono ?_); (case side1 => repeat (first | exact (Kd.C_below HR1.out HB.out) | (with_reducible refine Kd.C_alloc ?_ _) | (with_reducible refine Kd.C_drewN ?_ _) | (with_reducible refine Kd.C_drew ?_))); (case side2 => exact HC1.out); rintro e w15 ⟨v218, rfl, ho0, hb⟩; refine ⟨_, rfl, ?_⟩; replace HO215 := dR HO215 hb; have HO219 := am (Kd.R_lower ho0 (wz (fW HB.out))); replace BK211 := bB BK211 hb; replace BK212 := bB BK212 hb; replace HB := bS HB hb; (try clear hb); (try clear hb2); (try clear hk); (try clear hi); (try clear ho0); obtain ⟨Ao16, co16, eo16⟩ := Kd.R_slice HO219.out; subst eo16))
  go_loopg [32] k (fun kq v32 w' => ∃ (x32_1 : Int) (x213000_1 : Int) (x213001_1 : Int) (x213002_1 : Int), v32 = .int .i64 x32_1 ∧ Aside0 (box_Gap.l0 kq l1 t217 (t217.length : Int) x32_1 a0_0 a0_1 a0_2 a0_3 a0_4 a0_5 = some (r1, r2, r3, r4)) ∧ Aside0 (kq ≤ k) ∧ Aside0 (Kd.R (Kd.int .i64) 3 w' w.heap.size (fun _ => True) (.slice Ao16 t217.length co16) t217) ∧ Aside0 (w'.heap[gb211]? = some (.cells #[.int .i64 a0_0, .int .i64 a0_1, .int .i64 a0_2, .int .i64 a0_3, .int .i64 a0_4, .int .i64 a0_5] 25 (0, 0))) ∧ Aside0 (w'.heap[gb212]? = some (.cells #[.int .i64 x213000_1, .int .i64 x213001_1, .int .i64 x213002_1] 23 (0, 0))) ∧ Aside0 (Below w.heap.size w w'))
  case atStart => exact ⟨(0), (0), (0), (0), sqD, H', ⟨Nat.le_refl _⟩, ⟨fR HO219.out⟩, ⟨fb BK211.out⟩, ⟨fb BK212.out⟩, ⟨fW HB.out⟩⟩
  case round =>
   clear H'
   try clear c1;try clear p2;try clear c4;try clear c4b0;try clear c4b1;try clear c6;try clear c8;try clear c12
   obtain ⟨x32_1, x213000_1, x213001_1, x213002_1, rfl, HA, HK1, HO_30, BK211, BK212, HB⟩ := hrel
   cases gk with
   | zero => exact absurd HA.out (by simp [box_Gap.l0])
   | succ k1 =>
    have H := HA.out
    clear HA
    simp only [box_Gap.l0] at H
    by_cases c17 : x32_1 < (t217.length : Int)
    rotate_left
    ·rw [if_neg c17] at H
     have c17b0 : decide (x32_1 < (t217.length : Int)) = false := decide_eq_false c17
     clear c17
     simp only [Option.some.injEq, Prod.mk.injEq] at H
     obtain ⟨rfl, rfl, rfl, rfl⟩ := H
     have hnb50 := NB212_211.out
     have hnc50 := NB211_212.out
     have := yC1 BK212
     have := kC1 BK212
     have := kC2 BK212
     have := blk_frozen BK212.out 0
     have := blk_frozen BK212.out 1
     have := blk_frozen BK212.out 2
     go_wp2
     refine bodyPost_ret (results_ct rfl _ _ gb212 23 #[.int .i64 0, .int .i64 0, .int .i64 0] (0, 0) _ rfl (kkC BK212.out) Try.underlying23 rfl (by kernel_rfl)) rfl ?_
     exact ⟨sqE, fW HB.out⟩
    rw [if_pos c17] at H
    have c17b0 : decide (x32_1 < (t217.length : Int)) = true := decide_eq_true c17
    clear c17
    by_cases c18 : 0 ≤ x32_1
    rotate_left
    ·rw [if_neg c18] at H
     exact absurd H (by simp)
    rw [if_pos c18] at H
    have c18b0 : decide (0 ≤ x32_1) = true := decide_eq_true c18
    clear c18
    by_cases c19 : x32_1 < (t217.length : Int)
    rotate_left
    ·rw [if_neg c19] at H
     exact absurd H (by simp)
    rw [if_pos c19] at H
    have c19b0 : decide (x32_1 < (t217.length : Int)) = true := decide_eq_true c19
    clear c19
    replace H := Option.bind_eq_some_iff.mp H
    obtain ⟨t221, A200, H⟩ := H
    replace H : ((box_ends.f k1 t221 1 a0_1 a0_4).bind fun t224 => (box_Gap.l1 k1 l1 (rd t217 x32_1) t221 t217 (t217.length : Int) x32_1 t224 (t224.length : Int) 0 a0_0 a0_1 a0_2 a0_3 a0_4 a0_5)) = some (r1, r2, r3, r4) := H
    have A20 := am A200
    clear A200
    replace H := Option.bind_eq_some_iff.mp H
    obtain ⟨t224, A210, H⟩ := H
    replace H : (box_Gap.l1 k1 l1 (rd t217 x32_1) t221 t217 (t217.length : Int) x32_1 t224 (t224.length : Int) 0 a0_0 a0_1 a0_2 a0_3 a0_4 a0_5) = some (r1, r2, r3, r4) := H
    have A21 := am A210
    clear A210
    have H' := am H
    clear H
    have p220 : 0 ≤ (x32_1 : Int) := of_decide_eq_true (by assumption)
    have q220 : x32_1 < (t217.length : Int) := of_decide_eq_true (by assumption)
    obtain ⟨ad220, e220, hx220_0⟩ := Kd.at_int (Kd.R_reads' HO_30.out).2.2 x32_1 p220 q220
    cases e220
    replace p220 := eq_true p220
    replace q220 := eq_true q220
    go_wp2_with (first | ((with_reducible refine gc (f := 50) rfl ?_); refine goesL_ (some 38) rfl rfl Try.func50 (by kernel_rfl) rfl #[.slice A1 l1.length c1, .int .i64 2, .int .i64 (rd t217 x32_1)] rfl (by (try simp only [pml]); first | done | rfl | (simp only [pdt]; rfl)) ?_; (with_reducible refine (box_at.calls k1 _ _ l1 2 (rd t217 x32_1) t221 _ ?side1 ?side2 A20.out).mono ?_); (case side1 => repeat (first | exact (Kd.C_below HR1.out HB.out) | (with_reducible refine Kd.C_alloc ?_ _) | (with_reducible refine Kd.C_drewN ?_ _) | (with_reducible refine Kd.C_drew ?_))); (case side2 => exact HC1.out); rintro e w22 ⟨v222, rfl, ho0, hb⟩; refine ⟨_, rfl, ?_⟩; replace HO_30 := dR HO_30 hb; have HO223 := am (Kd.R_lower (Kd.R_newB ho0 (g := gb211) (o := .cells #[.int .i64 a0_0, .int .i64 a0_1, .int .i64 a0_2, .int .i64 a0_3, .int .i64 a0_4, .int .i64 a0_5] 25 (0, 0)) (fb BK211.out)) (wz (fW HB.out))); replace BK211 := bB BK211 hb; replace BK212 := bB BK212 hb; replace HB := bS HB hb; (try clear hb); (try clear hb2); (try clear hk); (try clear hi); (try clear ho0); have hnb23 := NB211_212.out; have hnc23 := NB212_211.out; obtain ⟨_, _, _, _, _, _, _, _, _, _, _, _⟩ := zC6 BK211; obtain ⟨Ao25, co25, eo25⟩ := Kd.R_slice HO223.out; subst eo25) | ((with_reducible refine gc (f := 49) rfl ?_); refine goesL_ (some 46) rfl rfl Try.func49 (by kernel_rfl) rfl #[.slice Ao25 t221.length co25, .int .i64 1, .int .i64 a0_1, .int .i64 a0_4] rfl (by (try simp only [pml]); first | done | rfl | (simp only [pdt]; rfl)) ?_; (with_reducible refine (box_ends.calls k1 _ _ t221 1 a0_1 a0_4 t224 _ ?side1 ?side2 A21.out).mono ?_); (case side1 => repeat (first | exact (Kd.R_reads' HO223.out).2.2 | (with_reducible refine Kd.C_alloc ?_ _) | (with_reducible refine Kd.C_drewN ?_ _) | (with_reducible refine Kd.C_drew ?_))); (case side2 => exact (Kd.R_reads' HO223.out).2.1); rintro e w26 ⟨v225, rfl, ho0, hb⟩; refine ⟨_, rfl, ?_⟩; replace HO223 := dR HO223 hb; have HO226 := am (Kd.R_lower (Kd.R_new' ho0 (Kd.R_lt (fR HO_30.out))) (wz (fW HB.out))); replace HO_30 := am (Kd.R_elder' (fR HO_30.out) (Kd.R_base ho0) hb); replace BK211 := bB BK211 hb; replace BK212 := bB BK212 hb; replace HB := bS HB hb; (try clear hb); (try clear hb2); (try clear hk); (try clear hi); (try clear ho0); obtain ⟨Ao27, co27, eo27⟩ := Kd.R_slice HO226.out; subst eo27))
    go_loopg [48] k1 (fun kq v48 w' => ∃ (x48_2 : Int) (x213000_2 : Int) (x213001_2 : Int) (x213002_2 : Int), v48 = .int .i64 x48_2 ∧ Aside0 (box_Gap.l1 kq l1 (rd t217 x32_1) t221 t217 (t217.length : Int) x32_1 t224 (t224.length : Int) x48_2 a0_0 a0_1 a0_2 a0_3 a0_4 a0_5 = some (r1, r2, r3, r4)) ∧ Aside0 (kq ≤ k1) ∧ Aside0 (Kd.R k25 25 w' w.heap.size (fun k_ => k_ ≠ gb211) (.slice Ao25 t221.length co25) t221) ∧ Aside0 (Kd.R (Kd.int .i64) 3 w' w.heap.size (fun k_ => some k_ ≠ ((.slice Ao27 t224.length co27) : Value).ownBlock) (.slice (some ad220) t217.length co16) t217) ∧ Aside0 (Kd.R (Kd.int .i64) 3 w' w.heap.size (fun k_ => some k_ ≠ ((.slice (some ad220) t217.length co16) : Value).ownBlock) (.slice Ao27 t224.length co27) t224) ∧ Aside0 (w'.heap[gb211]? = some (.cells #[.int .i64 a0_0, .int .i64 a0_1, .int .i64 a0_2, .int .i64 a0_3, .int .i64 a0_4, .int .i64 a0_5] 25 (0, 0))) ∧ Aside0 (w'.heap[gb212]? = some (.cells #[.int .i64 x213000_2, .int .i64 x213001_2, .int .i64 x213002_2] 23 (0, 0))) ∧ Aside0 (Below w.heap.size w w'))
    case atStart => exact ⟨(0), (x213000_1), (x213001_1), (x213002_1), sqD, H', ⟨Nat.le_refl _⟩, ⟨by (with_reducible repeat (first | apply Kd.R_alloc | apply Kd.R_drewN | apply Kd.R_drew)); exact Kd.R_mono HO223.out (fun _ hk => hk.2)⟩, ⟨by (with_reducible repeat (first | apply Kd.R_alloc | apply Kd.R_drewN | apply Kd.R_drew)); exact Kd.R_mono HO_30.out (fun _ hk => hk.2)⟩, ⟨by (with_reducible repeat (first | apply Kd.R_alloc | apply Kd.R_drewN | apply Kd.R_drew)); exact Kd.R_mono HO226.out (fun _ hk => hk.2)⟩, ⟨fb BK211.out⟩, ⟨fb BK212.out⟩, ⟨fW HB.out⟩⟩
    case round =>
     clear H'
     try clear c1;try clear c2;try clear p2;try clear q2;try clear hx2;try clear c4;try clear c4b0;try clear c4b1;try clear c5;try clear c6;try clear c8;try clear c12;try clear c17;try clear c17b0;try clear c18;try clear c18b0;try clear c19;try clear c19b0;try clear p22;try clear q22;try clear hx22;try clear c23;try clear hx220_0;try clear p2;try clear p220;try clear q220
     obtain ⟨x48_2, x213000_2, x213001_2, x213002_2, rfl, HA, HK2, HO_9, HO_30, HO_46, BK211, BK212, HB⟩ := hrel
     cases gk with
     | zero => exact absurd HA.out (by simp [box_Gap.l1])
     | succ k2 =>
      have H := HA.out
      clear HA
      simp only [box_Gap.l1] at H
      by_cases c28 : x48_2 < (t224.length : Int)
      rotate_left
      ·rw [if_neg c28] at H
       have c28b0 : decide (x48_2 < (t224.length : Int)) = false := decide_eq_false c28
       clear c28
       have H' := am H
       clear H
       go_wp2
       go_roundg k2
       case measure => have := HK1.out; have := HK2.out; omega
       case rel => exact ⟨(wrap64 (x32_1 + 1)), (x213000_2), (x213001_2), (x213002_2), sqD, H', ⟨by have := HK1.out; have := HK2.out; omega⟩, ⟨by (with_reducible repeat (first | apply Kd.R_alloc | apply Kd.R_drewN | apply Kd.R_drew)); exact Kd.R_mono HO_30.out (fun _ hk => trivial)⟩, ⟨fb BK211.out⟩, ⟨fb BK212.out⟩, ⟨fW HB.out⟩⟩
      rw [if_pos c28] at H
      have c28b0 : decide (x48_2 < (t224.length : Int)) = true := decide_eq_true c28
      clear c28
      by_cases c29 : 0 ≤ x48_2
      rotate_left
      ·rw [if_neg c29] at H
       exact absurd H (by simp)
      rw [if_pos c29] at H
      have c29b0 : decide (0 ≤ x48_2) = true := decide_eq_true c29
      clear c29
      by_cases c30 : x48_2 < (t224.length : Int)
      rotate_left
      ·rw [if_neg c30] at H
       exact absurd H (by simp)
      rw [if_pos c30] at H
      have c30b0 : decide (x48_2 < (t224.length : Int)) = true := decide_eq_true c30
      clear c30
      replace H := Option.bind_eq_some_iff.mp H
      obtain ⟨t228, A310, H⟩ := H
      replace H : ((box_ends.f k2 t228 0 a0_0 a0_3).bind fun t231 => (box_Gap.l2 k2 l1 (rd t217 x32_1) t221 (rd t224 x48_2) t228 t217 (t217.length : Int) x32_1 t224 (t224.length : Int) x48_2 t231 (t231.length : Int) 0 a0_0 a0_1 a0_2 a0_3 a0_4 a0_5)) = some (r1, r2, r3, r4) := H
      have A31 := am A310
      clear A310
      replace H := Option.bind_eq_some_iff.mp H
      obtain ⟨t231, A320, H⟩ := H
      replace H : (box_Gap.l2 k2 l1 (rd t217 x32_1) t221 (rd t224 x48_2) t228 t217 (t217.length : Int) x32_1 t224 (t224.length : Int) x48_2 t231 (t231.length : Int) 0 a0_0 a0_1 a0_2 a0_3 a0_4 a0_5) = some (r1, r2, r3, r4) := H
      have A32 := am A320
      clear A320
      have H' := am H
      clear H
      have p227 : 0 ≤ (x48_2 : Int) := of_decide_eq_true (by assumption)
      have q227 : x48_2 < (t224.length : Int) := of_decide_eq_true (by assumption)
      obtain ⟨ad227, e227, hx227_0⟩ := Kd.at_int (Kd.R_reads' HO_46.out).2.2 x48_2 p227 q227
      cases e227
      replace p227 := eq_true p227
      replace q227 := eq_true q227
      go_wp2_with (first | ((with_reducible refine gc (f := 50) rfl ?_); refine goesL_ (some 54) rfl rfl Try.func50 (by kernel_rfl) rfl #[.slice Ao25 t221.length co25, .int .i64 1, .int .i64 (rd t224 x48_2)] rfl (by (try simp only [pml]); first | done | rfl | (simp only [pdt]; rfl)) ?_; (with_reducible refine (box_at.calls k2 _ _ t221 1 (rd t224 x48_2) t228 _ ?side1 ?side2 A31.out).mono ?_); (case side1 => repeat (first | exact (Kd.R_reads' HO_9.out).2.2 | (with_reducible refine Kd.C_alloc ?_ _) | (with_reducible refine Kd.C_drewN ?_ _) | (with_reducible refine Kd.C_drew ?_))); (case side2 => exact (Kd.R_reads' HO_9.out).2.1); rintro e w33 ⟨v229, rfl, ho0, hb⟩; refine ⟨_, rfl, ?_⟩; replace HO_30 := dR HO_30 hb; replace HO_46 := dR HO_46 hb; have HO230 := am (Kd.R_lower (Kd.R_newB (Kd.R_new' ho0 (Kd.R_lt (fR HO_9.out))) (g := gb211) (o := .cells #[.int .i64 a0_0, .int .i64 a0_1, .int .i64 a0_2, .int .i64 a0_3, .int .i64 a0_4, .int .i64 a0_5] 25 (0, 0)) (fb BK211.out)) (wz (fW HB.out))); replace HO_9 := am (Kd.R_elder' (fR HO_9.out) (Kd.R_base ho0) hb); replace BK211 := bB BK211 hb; replace BK212 := bB BK212 hb; replace HB := bS HB hb; (try clear hb); (try clear hb2); (try clear hk); (try clear hi); (try clear ho0); have hnb34 := NB211_212.out; have hnc34 := NB212_211.out; obtain ⟨_, _, _, _, _, _, _, _, _, _, _, _⟩ := zC6 BK211; obtain ⟨Ao36, co36, eo36⟩ := Kd.R_slice HO230.out; subst eo36) | ((with_reducible refine gc (f := 49) rfl ?_); refine goesL_ (some 62) rfl rfl Try.func49 (by kernel_rfl) rfl #[.slice Ao36 t228.length co36, .int .i64 0, .int .i64 a0_0, .int .i64 a0_3] rfl (by (try simp only [pml]); first | done | rfl | (simp only [pdt]; rfl)) ?_; (with_reducible refine (box_ends.calls k2 _ _ t228 0 a0_0 a0_3 t231 _ ?side1 ?side2 A32.out).mono ?_); (case side1 => repeat (first | exact (Kd.R_reads' HO230.out).2.2 | (with_reducible refine Kd.C_alloc ?_ _) | (with_reducible refine Kd.C_drewN ?_ _) | (with_reducible refine Kd.C_drew ?_))); (case side2 => exact (Kd.R_reads' HO230.out).2.1); rintro e w37 ⟨v232, rfl, ho0, hb⟩; refine ⟨_, rfl, ?_⟩; replace HO_9 := dR HO_9 hb; replace HO230 := dR HO230 hb; have HO233 := am (Kd.R_lower (Kd.R_new' (Kd.R_new' ho0 (Kd.R_lt (fR HO_30.out))) (Kd.R_lt (fR HO_46.out))) (wz (fW HB.out))); replace HO_30 := am (Kd.R_elder' (fR HO_30.out) (Kd.R_base ho0) hb); replace HO_46 := am (Kd.R_elder' (fR HO_46.out) (Kd.R_base ho0) hb); replace BK211 := bB BK211 hb; replace BK212 := bB BK212 hb; replace HB := bS HB hb; (try clear hb); (try clear hb2); (try clear hk); (try clear hi); (try clear ho0); obtain ⟨Ao38, co38, eo38⟩ := Kd.R_slice HO233.out; subst eo38))
      go_loopg [64] k2 (fun kq v64 w' => ∃ (x64_3 : Int) (x213000_3 : Int) (x213001_3 : Int) (x213002_3 : Int), v64 = .int .i64 x64_3 ∧ Aside0 (box_Gap.l2 kq l1 (rd t217 x32_1) t221 (rd t224 x48_2) t228 t217 (t217.length : Int) x32_1 t224 (t224.length : Int) x48_2 t231 (t231.length : Int) x64_3 a0_0 a0_1 a0_2 a0_3 a0_4 a0_5 = some (r1, r2, r3, r4)) ∧ Aside0 (kq ≤ k2) ∧ Aside0 (Kd.R k25 25 w' w.heap.size (fun k_ => some k_ ≠ ((.slice Ao36 t228.length co36) : Value).ownBlock ∧ k_ ≠ gb211) (.slice Ao25 t221.length co25) t221) ∧ Aside0 (Kd.R k25 25 w' w.heap.size (fun k_ => some k_ ≠ ((.slice Ao25 t221.length co25) : Value).ownBlock ∧ k_ ≠ gb211) (.slice Ao36 t228.length co36) t228) ∧ Aside0 (Kd.R (Kd.int .i64) 3 w' w.heap.size (fun k_ => some k_ ≠ ((.slice (some ad227) t224.length co27) : Value).ownBlock ∧ some k_ ≠ ((.slice Ao38 t231.length co38) : Value).ownBlock) (.slice (some ad220) t217.length co16) t217) ∧ Aside0 (Kd.R (Kd.int .i64) 3 w' w.heap.size (fun k_ => some k_ ≠ ((.slice (some ad220) t217.length co16) : Value).ownBlock ∧ some k_ ≠ ((.slice Ao38 t231.length co38) : Value).ownBlock) (.slice (some ad227) t224.length co27) t224) ∧ Aside0 (Kd.R (Kd.int .i64) 3 w' w.heap.size (fun k_ => some k_ ≠ ((.slice (some ad220) t217.length co16) : Value).ownBlock ∧ some k_ ≠ ((.slice (some ad227) t224.length co27) : Value).ownBlock) (.slice Ao38 t231.length co38) t231) ∧ Aside0 (w'.heap[gb211]? = some (.cells #[.int .i64 a0_0, .int .i64 a0_1, .int .i64 a0_2, .int .i64 a0_3, .int .i64 a0_4, .int .i64 a0_5] 25 (0, 0))) ∧ Aside0 (w'.heap[gb212]? = some (.cells #[.int .i64 x213000_3, .int .i64 x213001_3, .int .i64 x213002_3] 23 (0, 0))) ∧ Aside0 (Below w.heap.size w w'))
      case atStart => exact ⟨(0), (x213000_2), (x213001_2), (x213002_2), sqD, H', ⟨Nat.le_refl _⟩, ⟨by (with_reducible repeat (first | apply Kd.R_alloc | apply Kd.R_drewN | apply Kd.R_drew)); exact Kd.R_mono HO_9.out (fun _ hk => ⟨hk.2, hk.1⟩)⟩, ⟨by (with_reducible repeat (first | apply Kd.R_alloc | apply Kd.R_drewN | apply Kd.R_drew)); exact Kd.R_mono HO230.out (fun _ hk => ⟨hk.1.2, hk.2⟩)⟩, ⟨fR HO_30.out⟩, ⟨fR HO_46.out⟩, ⟨by (with_reducible repeat (first | apply Kd.R_alloc | apply Kd.R_drewN | apply Kd.R_drew)); exact Kd.R_mono HO233.out (fun _ hk => ⟨hk.1.2, hk.2⟩)⟩, ⟨fb BK211.out⟩, ⟨fb BK212.out⟩, ⟨fW HB.out⟩⟩
      case round =>
       clear H'
       try clear c1;try clear c2;try clear p2;try clear q2;try clear hx2;try clear c3;try clear c4;try clear c4b0;try clear c4b1;try clear c5;try clear c6;try clear c8;try clear c12;try clear c17;try clear c17b0;try clear c18;try clear c18b0;try clear c19;try clear c19b0;try clear p22;try clear q22;try clear hx22;try clear c23;try clear c28;try clear c28b0;try clear c29;try clear c29b0;try clear c30;try clear c30b0;try clear c34;try clear hx220_0;try clear hx227_0;try clear p2;try clear p22;try clear p220;try clear p227;try clear q2;try clear q22;try clear q220;try clear q227
       obtain ⟨x64_3, x213000_3, x213001_3, x213002_3, rfl, HA, HK3, HO_9, HO_12, HO_30, HO_46, HO_62, BK211, BK212, HB⟩ := hrel
       cases gk with
       | zero => exact absurd HA.out (by simp [box_Gap.l2])
       | succ k3 =>
        have H := HA.out
        clear HA
        simp only [box_Gap.l2] at H
        by_cases c39 : x64_3 < (t231.length : Int)
        rotate_left
        ·rw [if_neg c39] at H
         have c39b0 : decide (x64_3 < (t231.length : Int)) = false := decide_eq_false c39
         clear c39
         have H' := am H
         clear H
         go_wp2
         go_roundg k3
         case measure => have := HK1.out; have := HK2.out; have := HK3.out; omega
         case rel => exact ⟨(wrap64 (x48_2 + 1)), (x213000_3), (x213001_3), (x213002_3), sqD, H', ⟨by have := HK1.out; have := HK2.out; have := HK3.out; omega⟩, ⟨by (with_reducible repeat (first | apply Kd.R_alloc | apply Kd.R_drewN | apply Kd.R_drew)); exact Kd.R_mono HO_9.out (fun _ hk => hk.2)⟩, ⟨by (with_reducible repeat (first | apply Kd.R_alloc | apply Kd.R_drewN | apply Kd.R_drew)); exact Kd.R_mono HO_30.out (fun _ hk => hk.1)⟩, ⟨by (with_reducible repeat (first | apply Kd.R_alloc | apply Kd.R_drewN | apply Kd.R_drew)); exact Kd.R_mono HO_46.out (fun _ hk => hk.1)⟩, ⟨fb BK211.out⟩, ⟨fb BK212.out⟩, ⟨fW HB.out⟩⟩
        rw [if_pos c39] at H
        have c39b0 : decide (x64_3 < (t231.length : Int)) = true := decide_eq_true c39
        clear c39
        by_cases c40 : 0 ≤ x64_3
        rotate_left
        ·rw [if_neg c40] at H
         exact absurd H (by simp)
        rw [if_pos c40] at H
        have c40b0 : decide (0 ≤ x64_3) = true := decide_eq_true c40
        clear c40
        by_cases c41 : x64_3 < (t231.length : Int)
        rotate_left
        ·rw [if_neg c41] at H
         exact absurd H (by simp)
        rw [if_pos c41] at H
        have c41b0 : decide (x64_3 < (t231.length : Int)) = true := decide_eq_true c41
        clear c41
        replace H := Option.bind_eq_some_iff.mp H
        obtain ⟨t235, A420, H⟩ := H
        replace H : (if (t235.length : Int) = 0 then (some (rd t231 x64_3, (rd t224 x48_2), (rd t217 x32_1), 0)) else (box_Gap.l2 k3 l1 (rd t217 x32_1) t221 (rd t224 x48_2) t228 t217 (t217.length : Int) x32_1 t224 (t224.length : Int) x48_2 t231 (t231.length : Int) (wrap64 (x64_3 + 1)) a0_0 a0_1 a0_2 a0_3 a0_4 a0_5)) = some (r1, r2, r3, r4) := H
        have A42 := am A420
        clear A420
        by_cases c43 : (t235.length : Int) = 0
        ·rw [if_pos c43] at H
         have c43b0 : ((t235.length : Int) == 0) = true := beq_iff_eq.mpr c43
         have c43b1 : ((t235.length : Int) != 0) = false := bne_eq_false_iff_eq.mpr c43
         clear c43
         simp only [Option.some.injEq, Prod.mk.injEq] at H
         obtain ⟨rfl, rfl, rfl, rfl⟩ := H
         have p234 : 0 ≤ (x64_3 : Int) := of_decide_eq_true (by assumption)
         have q234 : x64_3 < (t231.length : Int) := of_decide_eq_true (by assumption)
         obtain ⟨ad234, e234, hx234_0⟩ := Kd.at_int (Kd.R_reads' HO_62.out).2.2 x64_3 p234 q234
         cases e234
         replace p234 := eq_true p234
         replace q234 := eq_true q234
         go_wp2_with (first | ((with_reducible refine gc (f := 50) rfl ?_); refine goesL_ (some 70) rfl rfl Try.func50 (by kernel_rfl) rfl #[.slice Ao36 t228.length co36, .int .i64 0, .int .i64 (rd t231 x64_3)] rfl (by (try simp only [pml]); first | done | rfl | (simp only [pdt]; rfl)) ?_; (with_reducible refine (box_at.calls k3 _ _ t228 0 (rd t231 x64_3) t235 _ ?side1 ?side2 A42.out).mono ?_); (case side1 => repeat (first | exact (Kd.R_reads' HO_12.out).2.2 | (with_reducible refine Kd.C_alloc ?_ _) | (with_reducible refine Kd.C_drewN ?_ _) | (with_reducible refine Kd.C_drew ?_))); (case side2 => exact (Kd.R_reads' HO_12.out).2.1); rintro e w44 ⟨v236, rfl, ho0, hb⟩; refine ⟨_, rfl, ?_⟩; replace HO_30 := dR HO_30 hb; replace HO_46 := dR HO_46 hb; replace HO_62 := dR HO_62 hb; have HO237 := am (Kd.R_lower (Kd.R_newB (Kd.R_new' (Kd.R_new' ho0 (Kd.R_lt (fR HO_9.out))) (Kd.R_lt (fR HO_12.out))) (g := gb211) (o := .cells #[.int .i64 a0_0, .int .i64 a0_1, .int .i64 a0_2, .int .i64 a0_3, .int .i64 a0_4, .int .i64 a0_5] 25 (0, 0)) (fb BK211.out)) (wz (fW HB.out))); replace HO_9 := am (Kd.R_elder' (fR HO_9.out) (Kd.R_base ho0) hb); replace HO_12 := am (Kd.R_elder' (fR HO_12.out) (Kd.R_base ho0) hb); replace BK211 := bB BK211 hb; replace BK212 := bB BK212 hb; replace HB := bS HB hb; (try clear hb); (try clear hb2); (try clear hk); (try clear hi); (try clear ho0); obtain ⟨Ao45, co45, eo45⟩ := Kd.R_slice HO237.out; subst eo45; have hnb46 := NB212_211.out; have hnc46 := NB211_212.out; obtain ⟨_, _, _, _, _, _⟩ := zC3 BK212))
         refine bodyPost_ret (results_ct rfl _ _ gb212 23 #[.int .i64 (rd t231 x64_3), .int .i64 (rd t224 x48_2), .int .i64 (rd t217 x32_1)] (0, 0) _ rfl (kkC BK212.out) Try.underlying23 rfl (by kernel_rfl)) rfl ?_
         exact ⟨sqE, fW HB.out⟩
        rw [if_neg c43] at H
        have c43b0 : ((t235.length : Int) == 0) = false := beq_eq_false_iff_ne.mpr c43
        have c43b1 : ((t235.length : Int) != 0) = true := bne_iff_ne.mpr c43
        have c43b2 : ¬ (t235 = []) := fun h_ => c43 (by rw [h_]; rfl)
        have H' := am H
        clear H
        have p234 : 0 ≤ (x64_3 : Int) := of_decide_eq_true (by assumption)
        have q234 : x64_3 < (t231.length : Int) := of_decide_eq_true (by assumption)
        obtain ⟨ad234, e234, hx234_0⟩ := Kd.at_int (Kd.R_reads' HO_62.out).2.2 x64_3 p234 q234
        cases e234
        replace p234 := eq_true p234
        replace q234 := eq_true q234
        go_wp2_with (first | ((with_reducible refine gc (f := 50) rfl ?_); refine goesL_ (some 70) rfl rfl Try.func50 (by kernel_rfl) rfl #[.slice Ao36 t228.length co36, .int .i64 0, .int .i64 (rd t231 x64_3)] rfl (by (try simp only [pml]); first | done | rfl | (simp only [pdt]; rfl)) ?_; (with_reducible refine (box_at.calls k3 _ _ t228 0 (rd t231 x64_3) t235 _ ?side1 ?side2 A42.out).mono ?_); (case side1 => repeat (first | exact (Kd.R_reads' HO_12.out).2.2 | (with_reducible refine Kd.C_alloc ?_ _) | (with_reducible refine Kd.C_drewN ?_ _) | (with_reducible refine Kd.C_drew ?_))); (case side2 => exact (Kd.R_reads' HO_12.out).2.1); rintro e w48 ⟨v236, rfl, ho0, hb⟩; refine ⟨_, rfl, ?_⟩; replace HO_30 := dR HO_30 hb; replace HO_46 := dR HO_46 hb; replace HO_62 := dR HO_62 hb; have HO237 := am (Kd.R_lower (Kd.R_newB (Kd.R_new' (Kd.R_new' ho0 (Kd.R_lt (fR HO_9.out))) (Kd.R_lt (fR HO_12.out))) (g := gb211) (o := .cells #[.int .i64 a0_0, .int .i64 a0_1, .int .i64 a0_2, .int .i64 a0_3, .int .i64 a0_4, .int .i64 a0_5] 25 (0, 0)) (fb BK211.out)) (wz (fW HB.out))); replace HO_9 := am (Kd.R_elder' (fR HO_9.out) (Kd.R_base ho0) hb); replace HO_12 := am (Kd.R_elder' (fR HO_12.out) (Kd.R_base ho0) hb); replace BK211 := bB BK211 hb; replace BK212 := bB BK212 hb; replace HB := bS HB hb; (try clear hb); (try clear hb2); (try clear hk); (try clear hi); (try clear ho0); obtain ⟨Ao49, co49, eo49⟩ := Kd.R_slice HO237.out; subst eo49))
        go_roundg k3
        case measure => have := HK1.out; have := HK2.out; have := HK3.out; omega
        case rel => exact ⟨(wrap64 (x64_3 + 1)), (x213000_3), (x213001_3), (x213002_3), sqD, H', ⟨by have := HK1.out; have := HK2.out; have := HK3.out; omega⟩, ⟨by (with_reducible repeat (first | apply Kd.R_alloc | apply Kd.R_drewN | apply Kd.R_drew)); exact Kd.R_mono HO_9.out (fun _ hk => ⟨hk.1.1, hk.1.2⟩)⟩, ⟨by (with_reducible repeat (first | apply Kd.R_alloc | apply Kd.R_drewN | apply Kd.R_drew)); exact Kd.R_mono HO_12.out (fun _ hk => ⟨hk.1.1, hk.1.2⟩)⟩, ⟨fR HO_30.out⟩, ⟨fR HO_46.out⟩, ⟨fR HO_62.out⟩, ⟨fb BK211.out⟩, ⟨fb BK212.out⟩, ⟨fW HB.out⟩⟩
 ·rw [if_neg c4] at H
  have c4b0 : (t216 == 0) = false := beq_eq_false_iff_ne.mpr c4
  have c4b1 : (t216 != 0) = true := bne_iff_ne.mpr c4
  simp only [Option.some.injEq, Prod.mk.injEq] at H
  obtain ⟨rfl, rfl, rfl, rfl⟩ := H
  go_enter Try.func12, Try.ntmps12
  go_wp2_with (first | ((with_reducible refine gd (N := 2) rfl ?_); refine be ?hg (N := 2) ?hd (cs := #[.int .i64 a0_0, .int .i64 a0_1, .int .i64 a0_2, .int .i64 a0_3, .int .i64 a0_4, .int .i64 a0_5]) (t := 25) ?hr ?_; (case hd | hg => rfl); (case hr => first | (go_simp; done) | (go_simp; rfl)); intro gb211 hg w52 hbox hb; have BK211 := am hbox; have GW211 := sG HB hg; have GE211 := sG HB hg; replace HB := bS HB hb; clear hb hbox hg) | ((with_reducible refine gd (N := 4) rfl ?_); refine be ?hg (N := 4) ?hd (cs := #[.int .i64 0, .int .i64 0, .int .i64 0]) (t := 23) ?hr ?_; (case hd | hg => rfl); (case hr => first | (go_simp; done) | (go_simp; rfl)); intro gb212 hg w53 hbox hb; have BK212 := am hbox; have GW212 := sG HB hg; have GE212 := sG HB hg; replace HB := bS HB hb; have NB211_212 := nL BK211 hg; have NB212_211 := nG BK211 hg; replace BK211 := bB BK211 hb; clear hb hbox hg; have hnb54 := NB211_212.out; have hnc54 := NB212_211.out; obtain ⟨_, _, _, _, _, _, _, _, _, _, _, _⟩ := zC6 BK211) | ((with_reducible refine gd (N := 17) rfl ?_); refine Kd.R_lit k25 _ 25 ?hg (N := 17) ?hd (xs := ([(⟨(⟨a0_0, a0_1, a0_2⟩ : S23), (⟨a0_3, a0_4, a0_5⟩ : S23)⟩ : S25)] : List (S25))) (inner := [.int .i64 a0_0, .int .i64 a0_1, .int .i64 a0_2, .int .i64 a0_3, .int .i64 a0_4, .int .i64 a0_5]) (ok := fun _ => True) (okp := fun _ => True) ?hr ?hp (fun _ hk => hk) trivial (Below.refl _ _) (Nat.le_refl _) (by simp) ?_; (case hd | hg => rfl); (case hr => first | (go_simp; done) | (go_simp; rfl)); (case hp => exact (Reps.c6 (show Kd.M k25 _ _ _ (⟨(⟨a0_0, a0_1, a0_2⟩ : S23), (⟨a0_3, a0_4, a0_5⟩ : S23)⟩ : S25) [.int .i64 a0_0, .int .i64 a0_1, .int .i64 a0_2, .int .i64 a0_3, .int .i64 a0_4, .int .i64 a0_5] from (k25_mkM _ _ _ (⟨(⟨a0_0, a0_1, a0_2⟩ : S23), (⟨a0_3, a0_4, a0_5⟩ : S23)⟩ : S25) )) (Reps.none _ _))); intro v214 w56 ho57 hb hg_ hnew_; clear hg_ hnew_; (first | rw [← Ny213.out] at ho57 | (simp only [Int.reduceToNat] at ho57; rw [← Ny213.out] at ho57)); have HO215 := am (Kd.R_lower (Kd.R_newB ho57 (g := gb211) (o := .cells #[.int .i64 a0_0, .int .i64 a0_1, .int .i64 a0_2, .int .i64 a0_3, .int .i64 a0_4, .int .i64 a0_5] 25 (0, 0)) (fb BK211.out)) (wz (fW HB.out))); replace BK211 := bB BK211 hb; replace BK212 := bB BK212 hb; replace HB := bS HB hb; clear hb ho57; obtain ⟨Ao58, co58, eo58⟩ := Kd.R_slice HO215.out; subst eo58) | ((with_reducible refine gc (f := 48) rfl ?_); refine goesL_ (some 18) rfl rfl Try.func48 (by kernel_rfl) rfl #[.slice A1 l1.length c1, .slice Ao58 y213.length co58] rfl (by (try simp only [pml]); first | done | rfl | (simp only [pdt]; rfl)) ?_; (with_reducible refine (box_many.calls k _ _ l1 _ _ y213 t216 _ ?side1 ?side2 ?side3 ?side4 A3.out).mono ?_); (case side1 => repeat (first | exact (Kd.C_below HR1.out HB.out) | (with_reducible refine Kd.C_alloc ?_ _) | (with_reducible refine Kd.C_drewN ?_ _) | (with_reducible refine Kd.C_drew ?_))); (case side2 => exact HC1.out); (case side3 => repeat (first | exact (Kd.R_reads' HO215.out).2.2 | (with_reducible refine Kd.C_alloc ?_ _) | (with_reducible refine Kd.C_drewN ?_ _) | (with_reducible refine Kd.C_drew ?_))); (case side4 => exact (Kd.R_reads' HO215.out).2.1); rintro e w59 ⟨rfl, hb⟩; refine ⟨_, rfl, ?_⟩; replace HO215 := dR HO215 hb; replace BK211 := bB BK211 hb; replace BK212 := bB BK212 hb; replace HB := bS HB hb; (try clear hb); (try clear hb2); (try clear hk); (try clear hi); obtain ⟨_, _, _, _, _, _⟩ := zC3 BK212))
  refine bodyPost_ret (results_ct rfl _ _ gb212 23 #[.int .i64 0, .int .i64 0, .int .i64 0] (0, 0) _ rfl (kkC BK212.out) Try.underlying23 rfl (by kernel_rfl)) rfl ?_
  exact ⟨sqE, fW HB.out⟩

mutual
def box_cuts.l0 : Nat → Int → List Int → List (S25) → Int → Int → Option (List Int)
 | 0, _, _, _, _, _ => none
 | k + 1, x1, x5, x9, x10, x11 => if x11 < x10 then (if 0 ≤ x11 then (if x11 < (x9.length : Int) then ((box_sides.f ((rd_T25 x9 x11).f0.f0) ((rd_T25 x9 x11).f0.f1) ((rd_T25 x9 x11).f0.f2) ((rd_T25 x9 x11).f1.f0) ((rd_T25 x9 x11).f1.f1) ((rd_T25 x9 x11).f1.f2)).bind fun bt240 => (if x1 = 0 then ((some (([bt240.1, bt240.2.1] : List Int) : List Int)).bind fun y247 => (if x5.length + y247.length < 17592186044416 then (box_cuts.j1 k x1 (x5 ++ y247) x9 x10 x11) else (none))) else (if x1 = 1 then ((some (([bt240.2.2.1, bt240.2.2.2.1] : List Int) : List Int)).bind fun y254 => (if x5.length + y254.length < 17592186044416 then (box_cuts.j1 k x1 (x5 ++ y254) x9 x10 x11) else (none))) else (if x1 = 2 then ((some (([bt240.2.2.2.2.1, bt240.2.2.2.2.2] : List Int) : List Int)).bind fun y261 => (if x5.length + y261.length < 17592186044416 then (box_cuts.j1 k x1 (x5 ++ y261) x9 x10 x11) else (none))) else (none))))) else (none)) else (none)) else ((slices_Sort_int_int.f x5).bind fun t267 => ((slices_Compact_int_int.f t267).bind fun t268 => (some t268)))
def box_cuts.j1 : Nat → Int → List Int → List (S25) → Int → Int → Option (List Int)
 | 0, _, _, _, _, _ => none
 | k + 1, x1, x5, x9, x10, x11 => box_cuts.l0 k x1 x5 x9 x10 (wrap64 (x11 + 1))
end
def box_cuts.f (k : Nat) (l0 : List (S25)) (a1 : Int) : Option (List Int) := box_cuts.l0 k a1 ([] : List Int) l0 (l0.length : Int) 0
set_option maxHeartbeats 8000000 in
set_option maxRecDepth 100000 in
theorem box_cuts.calls (k : Nat) (A0 : Option Addr) (c0 : Nat) (l0 : List (S25)) (a1 : Int) (r : List Int) (w : World) (hr0 : Kd.C k25 w A0 l0.length l0) (hc0 : l0.length ≤ c0) (h : box_cuts.f k l0 a1 = some r) :
  Calls Try.prog 63 #[.slice A0 l0.length c0, .int .i64 a1] w fun e w' => ∃ v0_ : Value, e = .returned (v0_) ∧ Kd.R (Kd.int .i64) 3 w' w.heap.size (fun _ => True) v0_ r ∧ Below w.heap.size w w' := by
 have hu25 := Try.underlying25
 have hu73 := Try.underlying73
 have hu72 := Try.underlying72
 have hix73_0 : ∀ (e0_ e1_ e2_ e3_ e4_ e5_ : Value) (W_ : World), Sem.run Try.prog (Instr.index 73 (.agg #[e0_, e1_, e2_, e3_, e4_, e5_]) (.int .i64 0)) W_ = .ok (.agg #[e0_, e1_]) W_ := fun _ _ _ _ _ _ _  => by kernel_rfl
 have hix73_1 : ∀ (e0_ e1_ e2_ e3_ e4_ e5_ : Value) (W_ : World), Sem.run Try.prog (Instr.index 73 (.agg #[e0_, e1_, e2_, e3_, e4_, e5_]) (.int .i64 1)) W_ = .ok (.agg #[e2_, e3_]) W_ := fun _ _ _ _ _ _ _  => by kernel_rfl
 have hix73_2 : ∀ (e0_ e1_ e2_ e3_ e4_ e5_ : Value) (W_ : World), Sem.run Try.prog (Instr.index 73 (.agg #[e0_, e1_, e2_, e3_, e4_, e5_]) (.int .i64 2)) W_ = .ok (.agg #[e4_, e5_]) W_ := fun _ _ _ _ _ _ _  => by kernel_rfl
 have HR0 := am hr0
 have HC0 := am hc0
 clear hr0 hc0
 have HB := am (Below.refl w.heap.size w)
 have H : (box_cuts.l0 k a1 ([] : List Int) l0 (l0.length : Int) 0) = some r := h
 clear h
 have H' := am H
 clear H
 go_enter Try.func63, Try.ntmps63
 go_wp2
 go_loopg [5, 11] k (fun kq v5 v11 w' => ∃ (x5_1 : List Int) (x11_1 : Int), v11 = .int .i64 x11_1 ∧ Aside0 (box_cuts.l0 kq a1 x5_1 l0 (l0.length : Int) x11_1 = some r) ∧ Aside0 (kq ≤ k) ∧ Aside0 (Kd.R (Kd.int .i64) 3 w' w.heap.size (fun _ => True) v5 x5_1) ∧ Aside0 (Below w.heap.size w w'))
 case atStart => exact ⟨(([] : List Int)), (0), sqD, H', ⟨Nat.le_refl _⟩, ⟨by first | exact Kd.R_nil _ _ _ _ _ | exact Kd.N_nil _ _ _ _ _ | exact Kd.V_nil _ _ _ _ _ | exact Kd.Q_nil _ _ _ _ _ | exact Kd.S_nil _ _ _ _ _⟩, ⟨fW HB.out⟩⟩
 case round =>
  clear H'
  try clear p2
  obtain ⟨x5_1, x11_1, rfl, HA, HK1, HO_5, HB⟩ := hrel
  cases gk with
  | zero => exact absurd HA.out (by simp [box_cuts.l0])
  | succ k1 =>
   have H := HA.out
   clear HA
   simp only [box_cuts.l0] at H
   by_cases c3 : x11_1 < (l0.length : Int)
   ·rw [if_pos c3] at H
    have c3b0 : decide (x11_1 < (l0.length : Int)) = true := decide_eq_true c3
    clear c3
    have HC4 := am H
    clear H
    go_upto_block 1 with (fail)
    go_cut [5] (fun v5 wc => ∃ (kq : Nat) (x5_3 : List Int), Aside0 (box_cuts.j1 kq a1 x5_3 l0 (l0.length : Int) x11_1 = some r) ∧ Aside0 (kq ≤ k1) ∧ Aside0 (Kd.R (Kd.int .i64) 3 wc w.heap.size (fun _ => True) v5 x5_3) ∧ Aside0 (Below w.heap.size w wc))
    case first =>
     have H := HC4.out
     clear HC4
     by_cases c5 : 0 ≤ x11_1
     rotate_left
     ·rw [if_neg c5] at H
      exact absurd H (by simp)
     rw [if_pos c5] at H
     have c5b0 : decide (0 ≤ x11_1) = true := decide_eq_true c5
     clear c5
     (first | rw [c5b0] | (simp only [i64_w, i32_w]; rw [c5b0]) | skip)
     by_cases c6 : x11_1 < (l0.length : Int)
     rotate_left
     ·rw [if_neg c6] at H
      exact absurd H (by simp)
     rw [if_pos c6] at H
     have c6b0 : decide (x11_1 < (l0.length : Int)) = true := decide_eq_true c6
     clear c6
     replace H := Option.bind_eq_some_iff.mp H
     obtain ⟨⟨t240, t241, t242, t243, t244, t245⟩, A70, H⟩ := H
     replace H : (if a1 = 0 then ((some (([t240, t241] : List Int) : List Int)).bind fun y247 => (if x5_1.length + y247.length < 17592186044416 then (box_cuts.j1 k1 a1 (x5_1 ++ y247) l0 (l0.length : Int) x11_1) else (none))) else (if a1 = 1 then ((some (([t242, t243] : List Int) : List Int)).bind fun y254 => (if x5_1.length + y254.length < 17592186044416 then (box_cuts.j1 k1 a1 (x5_1 ++ y254) l0 (l0.length : Int) x11_1) else (none))) else (if a1 = 2 then ((some (([t244, t245] : List Int) : List Int)).bind fun y261 => (if x5_1.length + y261.length < 17592186044416 then (box_cuts.j1 k1 a1 (x5_1 ++ y261) l0 (l0.length : Int) x11_1) else (none))) else (none)))) = some r := H
     have A7 := am A70
     clear A70
     by_cases c8 : a1 = 0
     ·rw [if_pos c8] at H
      have c8b0 : (a1 == 0) = true := beq_iff_eq.mpr c8
      have c8b1 : (a1 != 0) = false := bne_eq_false_iff_eq.mpr c8
      have c8ix : ∀ (T_ : TypeId) (x_ : Value) (W_ : World), Sem.run Try.prog (Instr.index T_ x_ (Value.int IntKind.i64 a1)) W_ = Sem.run Try.prog (Instr.index T_ x_ (Value.int IntKind.i64 0)) W_ := by rw [c8]; intros; rfl
      have c8iy : ∀ (T_ : TypeId) (x_ : Value) (W_ : World), Sem.run Try.prog (Instr.indexAt T_ x_ (Value.int IntKind.i64 a1)) W_ = Sem.run Try.prog (Instr.indexAt T_ x_ (Value.int IntKind.i64 0)) W_ := by rw [c8]; intros; rfl
      clear c8
      obtain ⟨y247, hy247⟩ : ∃ y_ : List Int, y_ = (([t240, t241] : List Int)) := ⟨_, rfl⟩
      replace H : (if x5_1.length + y247.length < 17592186044416 then (box_cuts.j1 k1 a1 (x5_1 ++ y247) l0 (l0.length : Int) x11_1) else (none)) = some r := by first | (rw [hy247]; with_reducible exact H) | (have H2_ := (Option.bind_some _ _).symm.trans H; rw [hy247]; with_reducible exact H2_) | (have H2_ := (Option.bind_some _ _).symm.trans H; with_reducible exact H2_) | with_reducible exact H | (rw [hy247]; exact H) | exact H
      have Ny247 := am hy247
      clear hy247
      by_cases c9 : x5_1.length + y247.length < 17592186044416
      rotate_left
      ·rw [if_neg c9] at H
       exact absurd H (by simp)
      rw [if_pos c9] at H
      have LMc9 := am c9
      clear c9
      obtain ⟨y250, hy250⟩ : ∃ y_ : List Int, y_ = (x5_1 ++ y247) := ⟨_, rfl⟩
      replace H : (box_cuts.j1 k1 a1 y250 l0 (l0.length : Int) x11_1) = some r := by first | (rw [hy250]; with_reducible exact H) | (have H2_ := (Option.bind_some _ _).symm.trans H; rw [hy250]; with_reducible exact H2_) | (have H2_ := (Option.bind_some _ _).symm.trans H; with_reducible exact H2_) | with_reducible exact H | (rw [hy250]; exact H) | exact H
      have Ny250 := am hy250
      clear hy250
      have H' := am H
      clear H
      have p238 : 0 ≤ (x11_1 : Int) := of_decide_eq_true (by assumption)
      have q238 : x11_1 < (l0.length : Int) := of_decide_eq_true (by assumption)
      obtain ⟨ad238, e238, hx238_0, hx238_1, hx238_2, hx238_3, hx238_4, hx238_5⟩ := at_T25 HR0.out x11_1 p238 q238
      cases e238
      replace hx238_0 := cl HB hx238_0
      replace hx238_1 := cl HB hx238_1
      replace hx238_2 := cl HB hx238_2
      replace hx238_3 := cl HB hx238_3
      replace hx238_4 := cl HB hx238_4
      replace hx238_5 := cl HB hx238_5
      replace p238 := eq_true p238
      replace q238 := eq_true q238
      go_wp2_with (first | ((with_reducible refine gd (N := 7) rfl ?_); refine be ?hg (N := 7) ?hd (cs := #[.int .i64 0, .int .i64 0, .int .i64 0, .int .i64 0, .int .i64 0, .int .i64 0]) (t := 25) ?hr ?_; (case hd | hg => rfl); (case hr => first | (go_simp; done) | (go_simp; rfl)); intro gb239 hg w10 hbox hb; replace HO_5 := dR HO_5 hb; have BK239 := am hbox; have GW239 := sG HB hg; have GE239 := sG HB hg; replace HB := bS HB hb; clear hb hbox hg; obtain ⟨_, _, _, _, _, _, _, _, _, _, _, _⟩ := zC6 BK239) | ((with_reducible refine gc (f := 52) rfl ?_); refine goesL_ (some 16) rfl rfl Try.func52 (by kernel_rfl) rfl #[.agg #[.int .i64 ((rd_T25 l0 x11_1).f0.f0), .int .i64 ((rd_T25 l0 x11_1).f0.f1), .int .i64 ((rd_T25 l0 x11_1).f0.f2), .int .i64 ((rd_T25 l0 x11_1).f1.f0), .int .i64 ((rd_T25 l0 x11_1).f1.f1), .int .i64 ((rd_T25 l0 x11_1).f1.f2)]] rfl (by (try simp only [pml]); first | done | rfl | (simp only [pdt]; rfl)) ?_; (with_reducible refine (box_sides.calls ((rd_T25 l0 x11_1).f0.f0) ((rd_T25 l0 x11_1).f0.f1) ((rd_T25 l0 x11_1).f0.f2) ((rd_T25 l0 x11_1).f1.f0) ((rd_T25 l0 x11_1).f1.f1) ((rd_T25 l0 x11_1).f1.f2) t240 t241 t242 t243 t244 t245 _ A7.out).mono ?_); rintro e w12 ⟨rfl, hb⟩; refine ⟨_, rfl, ?_⟩; replace HO_5 := am (Kd.R_below (by (with_reducible repeat (first | apply Kd.R_alloc | apply Kd.R_drewN | apply Kd.R_drew)); exact (Kd.R_mono (Kd.R_far (p := ⟨gb239, 5, none⟩) (Kd.R_far (p := ⟨gb239, 4, none⟩) (Kd.R_far (p := ⟨gb239, 3, none⟩) (Kd.R_far (p := ⟨gb239, 2, none⟩) (Kd.R_far (p := ⟨gb239, 1, none⟩) (Kd.R_far (p := ⟨gb239, 0, none⟩) (Kd.R_types HO_5.out BK239.out (by decide)) (fun _ hk => hk.2) (.int .i64 ((rd_T25 l0 x11_1).f0.f0))) (fun _ hk => hk.2) (.int .i64 ((rd_T25 l0 x11_1).f0.f1))) (fun _ hk => hk.2) (.int .i64 ((rd_T25 l0 x11_1).f0.f2))) (fun _ hk => hk.2) (.int .i64 ((rd_T25 l0 x11_1).f1.f0))) (fun _ hk => hk.2) (.int .i64 ((rd_T25 l0 x11_1).f1.f1))) (fun _ hk => hk.2) (.int .i64 ((rd_T25 l0 x11_1).f1.f2))) (fun _ h_ => h_.1))) hb); replace BK239 := xC1 (o := .cells #[.int .i64 ((rd_T25 l0 x11_1).f0.f0), .int .i64 ((rd_T25 l0 x11_1).f0.f1), .int .i64 ((rd_T25 l0 x11_1).f0.f2), .int .i64 ((rd_T25 l0 x11_1).f1.f0), .int .i64 ((rd_T25 l0 x11_1).f1.f1), .int .i64 ((rd_T25 l0 x11_1).f1.f2)] 25 (0, 0)) (kkC BK239.out) hb; replace HB := bS HB hb; (try clear hb); (try clear hb2); (try clear hk); (try clear hi)) | ((with_reducible refine gd (N := 8) rfl ?_); refine be ?hg (N := 8) ?hd (cs := #[.int .i64 0, .int .i64 0]) (t := 72) ?hr ?_; (case hd | hg => rfl); (case hr => first | (go_simp; done) | (go_simp; rfl)); intro gb246 hg w13 hbox hb; replace HO_5 := dR HO_5 hb; have BK246 := am hbox; have GW246 := sG HB hg; have GE246 := sG HB hg; replace HB := bS HB hb; have NB239_246 := nL BK239 hg; have NB246_239 := nG BK239 hg; replace BK239 := bB BK239 hb; clear hb hbox hg; have hnb14 := NB246_239.out; have hnc14 := NB239_246.out; obtain ⟨_, _, _, _⟩ := zC2 BK246) | ((with_reducible refine gd (N := 24) rfl ?_); refine Kd.R_lit (Kd.int .i64) _ 3 ?hg (N := 24) ?hd (xs := ([t240, t241] : List Int)) (inner := [.int .i64 t240, .int .i64 t241]) (ok := fun _ => True) (okp := fun _ => True) ?hr ?hp (fun _ hk => hk) trivial (Below.refl _ _) (Nat.le_refl _) (by simp) ?_; (case hd | hg => rfl); (case hr => first | (go_simp; done) | (go_simp; rfl)); (case hp => exact (Reps.one (show Kd.M (Kd.int .i64) _ _ _ t240 [.int .i64 t240] from rfl) (Reps.one (show Kd.M (Kd.int .i64) _ _ _ t241 [.int .i64 t241] from rfl) (Reps.none _ _)))); intro v248 w16 ho17 hb hg_ hnew_; clear hg_ hnew_; (first | rw [← Ny247.out] at ho17 | (simp only [Int.reduceToNat] at ho17; rw [← Ny247.out] at ho17)); have HO249 := am (Kd.R_lower (Kd.R_new' ho17 (Kd.R_lt (by (with_reducible repeat (first | apply Kd.R_alloc | apply Kd.R_drewN | apply Kd.R_drew)); exact (Kd.R_mono (Kd.R_far (p := ⟨gb246, 1, none⟩) (Kd.R_far (p := ⟨gb246, 0, none⟩) (Kd.R_types HO_5.out BK246.out (by decide)) (fun _ hk => hk.2) (.int .i64 t240)) (fun _ hk => hk.2) (.int .i64 t241)) (fun _ h_ => h_.1))))) (wz (fW HB.out))); replace HO_5 := am (Kd.R_elder' (by (with_reducible repeat (first | apply Kd.R_alloc | apply Kd.R_drewN | apply Kd.R_drew)); exact (Kd.R_mono (Kd.R_far (p := ⟨gb246, 1, none⟩) (Kd.R_far (p := ⟨gb246, 0, none⟩) (Kd.R_types HO_5.out BK246.out (by decide)) (fun _ hk => hk.2) (.int .i64 t240)) (fun _ hk => hk.2) (.int .i64 t241)) (fun _ h_ => h_.1))) (Kd.R_base ho17) hb); replace BK239 := xC1 (kfC BK239.out) hb; replace BK246 := xC1 (o := .cells #[.int .i64 t240, .int .i64 t241] 72 (0, 0)) (kkC BK246.out) hb; replace HB := bS HB hb; clear hb ho17; obtain ⟨Ao19, co19, eo19⟩ := Kd.R_slice HO249.out; subst eo19) | ((with_reducible refine gate_builtin (b := .append) (xs := #[.tmp 19, .tmp 24]) rfl ?_); at_builtin; refine Kd.R_append_rows (Kd.int .i64) (w0 := w) w.heap.size rfl (.tmp 19) (.tmp 24) 69 3 (.int .i64 0) 8 rfl Try.underlying69 info3 rfl (by decide) (by omega) u5 x5_1 y247 _ _ _ (fun k_ => some k_ ≠ (.slice Ao19 y247.length co19 : Value).ownBlock) (fun _ => False) rfl rfl ?aO ?aR (fun _ _ h => h) (fun _ h => h.elim) ?aF ?aB ?aS ?aL ?_; (case aR => repeat (first | exact (Kd.R_reads' HO249.out).2.2 | (with_reducible refine Kd.C_alloc ?_ _) | (with_reducible refine Kd.C_drewN ?_ _) | (with_reducible refine Kd.C_drew ?_))); (case aB => exact (fW HB.out)); (case aF => exact (fun k_ hk => Kd.fresh' (Kd.R_lt (fR HO249.out)) k_ hk)); (case aO => exact (by (with_reducible repeat (first | apply Kd.R_alloc | apply Kd.R_drewN | apply Kd.R_drew)); exact Kd.R_mono HO_5.out (fun _ hk => hk.2))); (case aS => exact (wz (fW HB.out))); (case aL => have := LMc9.out; omega); intro v251 w18 ho hb hg hat; rw [← Ny250.out] at ho; replace BK239 := am (blk_grown (g := gb239) (o := .cells #[.int .i64 ((rd_T25 l0 x11_1).f0.f0), .int .i64 ((rd_T25 l0 x11_1).f0.f1), .int .i64 ((rd_T25 l0 x11_1).f0.f2), .int .i64 ((rd_T25 l0 x11_1).f1.f0), .int .i64 ((rd_T25 l0 x11_1).f1.f1), .int .i64 ((rd_T25 l0 x11_1).f1.f2)] 25 (0, 0)) (fb BK239.out) hg (Kd.R_ne HO_5.out BK239.out (by decide))); replace BK246 := am (blk_grown (g := gb246) (o := .cells #[.int .i64 t240, .int .i64 t241] 72 (0, 0)) (fb BK246.out) hg (Kd.R_ne HO_5.out BK246.out (by decide))); replace HO249 := am (Kd.R_after (ok := (fun _ => True)) (fR HO249.out) hg hat); replace HB := am (hb); have HO252 := am (ho); clear HO_5 ho hb hg hat))
      go_meet
      case rel => exact ⟨_, (y250), H', ⟨by have := HK1.out; first | omega | exact Nat.le_refl _⟩, ⟨by (with_reducible repeat (first | apply Kd.R_alloc | apply Kd.R_drewN | apply Kd.R_drew)); exact Kd.R_mono HO252.out (fun _ hk => trivial)⟩, ⟨fW HB.out⟩⟩
     rw [if_neg c8] at H
     have c8b0 : (a1 == 0) = false := beq_eq_false_iff_ne.mpr c8
     have c8b1 : (a1 != 0) = true := bne_iff_ne.mpr c8
     by_cases c20 : a1 = 1
     ·rw [if_pos c20] at H
      have c20b0 : (a1 == 1) = true := beq_iff_eq.mpr c20
      have c20b1 : (a1 != 1) = false := bne_eq_false_iff_eq.mpr c20
      have c20ix : ∀ (T_ : TypeId) (x_ : Value) (W_ : World), Sem.run Try.prog (Instr.index T_ x_ (Value.int IntKind.i64 a1)) W_ = Sem.run Try.prog (Instr.index T_ x_ (Value.int IntKind.i64 1)) W_ := by rw [c20]; intros; rfl
      have c20iy : ∀ (T_ : TypeId) (x_ : Value) (W_ : World), Sem.run Try.prog (Instr.indexAt T_ x_ (Value.int IntKind.i64 a1)) W_ = Sem.run Try.prog (Instr.indexAt T_ x_ (Value.int IntKind.i64 1)) W_ := by rw [c20]; intros; rfl
      clear c20
      obtain ⟨y254, hy254⟩ : ∃ y_ : List Int, y_ = (([t242, t243] : List Int)) := ⟨_, rfl⟩
      replace H : (if x5_1.length + y254.length < 17592186044416 then (box_cuts.j1 k1 a1 (x5_1 ++ y254) l0 (l0.length : Int) x11_1) else (none)) = some r := by first | (rw [hy254]; with_reducible exact H) | (have H2_ := (Option.bind_some _ _).symm.trans H; rw [hy254]; with_reducible exact H2_) | (have H2_ := (Option.bind_some _ _).symm.trans H; with_reducible exact H2_) | with_reducible exact H | (rw [hy254]; exact H) | exact H
      have Ny254 := am hy254
      clear hy254
      by_cases c21 : x5_1.length + y254.length < 17592186044416
      rotate_left
      ·rw [if_neg c21] at H
       exact absurd H (by simp)
      rw [if_pos c21] at H
      have LMc21 := am c21
      clear c21
      obtain ⟨y257, hy257⟩ : ∃ y_ : List Int, y_ = (x5_1 ++ y254) := ⟨_, rfl⟩
      replace H : (box_cuts.j1 k1 a1 y257 l0 (l0.length : Int) x11_1) = some r := by first | (rw [hy257]; with_reducible exact H) | (have H2_ := (Option.bind_some _ _).symm.trans H; rw [hy257]; with_reducible exact H2_) | (have H2_ := (Option.bind_some _ _).symm.trans H; with_reducible exact H2_) | with_reducible exact H | (rw [hy257]; exact H) | exact H
      have Ny257 := am hy257
      clear hy257
      have H' := am H
      clear H
      have p238 : 0 ≤ (x11_1 : Int) := of_decide_eq_true (by assumption)
      have q238 : x11_1 < (l0.length : Int) := of_decide_eq_true (by assumption)
      obtain ⟨ad238, e238, hx238_0, hx238_1, hx238_2, hx238_3, hx238_4, hx238_5⟩ := at_T25 HR0.out x11_1 p238 q238
      cases e238
      replace hx238_0 := cl HB hx238_0
      replace hx238_1 := cl HB hx238_1
      replace hx238_2 := cl HB hx238_2
      replace hx238_3 := cl HB hx238_3
      replace hx238_4 := cl HB hx238_4
      replace hx238_5 := cl HB hx238_5
      replace p238 := eq_true p238
      replace q238 := eq_true q238
      go_wp2_with (first | ((with_reducible refine gd (N := 7) rfl ?_); refine be ?hg (N := 7) ?hd (cs := #[.int .i64 0, .int .i64 0, .int .i64 0, .int .i64 0, .int .i64 0, .int .i64 0]) (t := 25) ?hr ?_; (case hd | hg => rfl); (case hr => first | (go_simp; done) | (go_simp; rfl)); intro gb239 hg w22 hbox hb; replace HO_5 := dR HO_5 hb; have BK239 := am hbox; have GW239 := sG HB hg; have GE239 := sG HB hg; replace HB := bS HB hb; clear hb hbox hg; obtain ⟨_, _, _, _, _, _, _, _, _, _, _, _⟩ := zC6 BK239) | ((with_reducible refine gc (f := 52) rfl ?_); refine goesL_ (some 16) rfl rfl Try.func52 (by kernel_rfl) rfl #[.agg #[.int .i64 ((rd_T25 l0 x11_1).f0.f0), .int .i64 ((rd_T25 l0 x11_1).f0.f1), .int .i64 ((rd_T25 l0 x11_1).f0.f2), .int .i64 ((rd_T25 l0 x11_1).f1.f0), .int .i64 ((rd_T25 l0 x11_1).f1.f1), .int .i64 ((rd_T25 l0 x11_1).f1.f2)]] rfl (by (try simp only [pml]); first | done | rfl | (simp only [pdt]; rfl)) ?_; (with_reducible refine (box_sides.calls ((rd_T25 l0 x11_1).f0.f0) ((rd_T25 l0 x11_1).f0.f1) ((rd_T25 l0 x11_1).f0.f2) ((rd_T25 l0 x11_1).f1.f0) ((rd_T25 l0 x11_1).f1.f1) ((rd_T25 l0 x11_1).f1.f2) t240 t241 t242 t243 t244 t245 _ A7.out).mono ?_); rintro e w24 ⟨rfl, hb⟩; refine ⟨_, rfl, ?_⟩; replace HO_5 := am (Kd.R_below (by (with_reducible repeat (first | apply Kd.R_alloc | apply Kd.R_drewN | apply Kd.R_drew)); exact (Kd.R_mono (Kd.R_far (p := ⟨gb239, 5, none⟩) (Kd.R_far (p := ⟨gb239, 4, none⟩) (Kd.R_far (p := ⟨gb239, 3, none⟩) (Kd.R_far (p := ⟨gb239, 2, none⟩) (Kd.R_far (p := ⟨gb239, 1, none⟩) (Kd.R_far (p := ⟨gb239, 0, none⟩) (Kd.R_types HO_5.out BK239.out (by decide)) (fun _ hk => hk.2) (.int .i64 ((rd_T25 l0 x11_1).f0.f0))) (fun _ hk => hk.2) (.int .i64 ((rd_T25 l0 x11_1).f0.f1))) (fun _ hk => hk.2) (.int .i64 ((rd_T25 l0 x11_1).f0.f2))) (fun _ hk => hk.2) (.int .i64 ((rd_T25 l0 x11_1).f1.f0))) (fun _ hk => hk.2) (.int .i64 ((rd_T25 l0 x11_1).f1.f1))) (fun _ hk => hk.2) (.int .i64 ((rd_T25 l0 x11_1).f1.f2))) (fun _ h_ => h_.1))) hb); replace BK239 := xC1 (o := .cells #[.int .i64 ((rd_T25 l0 x11_1).f0.f0), .int .i64 ((rd_T25 l0 x11_1).f0.f1), .int .i64 ((rd_T25 l0 x11_1).f0.f2), .int .i64 ((rd_T25 l0 x11_1).f1.f0), .int .i64 ((rd_T25 l0 x11_1).f1.f1), .int .i64 ((rd_T25 l0 x11_1).f1.f2)] 25 (0, 0)) (kkC BK239.out) hb; replace HB := bS HB hb; (try clear hb); (try clear hb2); (try clear hk); (try clear hi)) | ((with_reducible refine gd (N := 8) rfl ?_); refine be ?hg (N := 8) ?hd (cs := #[.int .i64 0, .int .i64 0]) (t := 72) ?hr ?_; (case hd | hg => rfl); (case hr => first | (go_simp; done) | (go_simp; rfl)); intro gb253 hg w25 hbox hb; replace HO_5 := dR HO_5 hb; have BK253 := am hbox; have GW253 := sG HB hg; have GE253 := sG HB hg; replace HB := bS HB hb; have NB239_253 := nL BK239 hg; have NB253_239 := nG BK239 hg; replace BK239 := bB BK239 hb; clear hb hbox hg; have hnb26 := NB253_239.out; have hnc26 := NB239_253.out; obtain ⟨_, _, _, _⟩ := zC2 BK253) | ((with_reducible refine gd (N := 24) rfl ?_); refine Kd.R_lit (Kd.int .i64) _ 3 ?hg (N := 24) ?hd (xs := ([t242, t243] : List Int)) (inner := [.int .i64 t242, .int .i64 t243]) (ok := fun _ => True) (okp := fun _ => True) ?hr ?hp (fun _ hk => hk) trivial (Below.refl _ _) (Nat.le_refl _) (by simp) ?_; (case hd | hg => rfl); (case hr => first | (go_simp; done) | (go_simp; rfl)); (case hp => exact (Reps.one (show Kd.M (Kd.int .i64) _ _ _ t242 [.int .i64 t242] from rfl) (Reps.one (show Kd.M (Kd.int .i64) _ _ _ t243 [.int .i64 t243] from rfl) (Reps.none _ _)))); intro v255 w28 ho29 hb hg_ hnew_; clear hg_ hnew_; (first | rw [← Ny254.out] at ho29 | (simp only [Int.reduceToNat] at ho29; rw [← Ny254.out] at ho29)); have HO256 := am (Kd.R_lower (Kd.R_new' ho29 (Kd.R_lt (by (with_reducible repeat (first | apply Kd.R_alloc | apply Kd.R_drewN | apply Kd.R_drew)); exact (Kd.R_mono (Kd.R_far (p := ⟨gb253, 1, none⟩) (Kd.R_far (p := ⟨gb253, 0, none⟩) (Kd.R_types HO_5.out BK253.out (by decide)) (fun _ hk => hk.2) (.int .i64 t242)) (fun _ hk => hk.2) (.int .i64 t243)) (fun _ h_ => h_.1))))) (wz (fW HB.out))); replace HO_5 := am (Kd.R_elder' (by (with_reducible repeat (first | apply Kd.R_alloc | apply Kd.R_drewN | apply Kd.R_drew)); exact (Kd.R_mono (Kd.R_far (p := ⟨gb253, 1, none⟩) (Kd.R_far (p := ⟨gb253, 0, none⟩) (Kd.R_types HO_5.out BK253.out (by decide)) (fun _ hk => hk.2) (.int .i64 t242)) (fun _ hk => hk.2) (.int .i64 t243)) (fun _ h_ => h_.1))) (Kd.R_base ho29) hb); replace BK239 := xC1 (kfC BK239.out) hb; replace BK253 := xC1 (o := .cells #[.int .i64 t242, .int .i64 t243] 72 (0, 0)) (kkC BK253.out) hb; replace HB := bS HB hb; clear hb ho29; obtain ⟨Ao31, co31, eo31⟩ := Kd.R_slice HO256.out; subst eo31) | ((with_reducible refine gate_builtin (b := .append) (xs := #[.tmp 19, .tmp 24]) rfl ?_); at_builtin; refine Kd.R_append_rows (Kd.int .i64) (w0 := w) w.heap.size rfl (.tmp 19) (.tmp 24) 69 3 (.int .i64 0) 8 rfl Try.underlying69 info3 rfl (by decide) (by omega) u5 x5_1 y254 _ _ _ (fun k_ => some k_ ≠ (.slice Ao31 y254.length co31 : Value).ownBlock) (fun _ => False) rfl rfl ?aO ?aR (fun _ _ h => h) (fun _ h => h.elim) ?aF ?aB ?aS ?aL ?_; (case aR => repeat (first | exact (Kd.R_reads' HO256.out).2.2 | (with_reducible refine Kd.C_alloc ?_ _) | (with_reducible refine Kd.C_drewN ?_ _) | (with_reducible refine Kd.C_drew ?_))); (case aB => exact (fW HB.out)); (case aF => exact (fun k_ hk => Kd.fresh' (Kd.R_lt (fR HO256.out)) k_ hk)); (case aO => exact (by (with_reducible repeat (first | apply Kd.R_alloc | apply Kd.R_drewN | apply Kd.R_drew)); exact Kd.R_mono HO_5.out (fun _ hk => hk.2))); (case aS => exact (wz (fW HB.out))); (case aL => have := LMc21.out; omega); intro v258 w30 ho hb hg hat; rw [← Ny257.out] at ho; replace BK239 := am (blk_grown (g := gb239) (o := .cells #[.int .i64 ((rd_T25 l0 x11_1).f0.f0), .int .i64 ((rd_T25 l0 x11_1).f0.f1), .int .i64 ((rd_T25 l0 x11_1).f0.f2), .int .i64 ((rd_T25 l0 x11_1).f1.f0), .int .i64 ((rd_T25 l0 x11_1).f1.f1), .int .i64 ((rd_T25 l0 x11_1).f1.f2)] 25 (0, 0)) (fb BK239.out) hg (Kd.R_ne HO_5.out BK239.out (by decide))); replace BK253 := am (blk_grown (g := gb253) (o := .cells #[.int .i64 t242, .int .i64 t243] 72 (0, 0)) (fb BK253.out) hg (Kd.R_ne HO_5.out BK253.out (by decide))); replace HO256 := am (Kd.R_after (ok := (fun _ => True)) (fR HO256.out) hg hat); replace HB := am (hb); have HO259 := am (ho); clear HO_5 ho hb hg hat))
      go_meet
      case rel => exact ⟨_, (y257), H', ⟨by have := HK1.out; first | omega | exact Nat.le_refl _⟩, ⟨by (with_reducible repeat (first | apply Kd.R_alloc | apply Kd.R_drewN | apply Kd.R_drew)); exact Kd.R_mono HO259.out (fun _ hk => trivial)⟩, ⟨fW HB.out⟩⟩
     rw [if_neg c20] at H
     have c20b0 : (a1 == 1) = false := beq_eq_false_iff_ne.mpr c20
     have c20b1 : (a1 != 1) = true := bne_iff_ne.mpr c20
     by_cases c32 : a1 = 2
     rotate_left
     ·rw [if_neg c32] at H
      exact absurd H (by simp)
     rw [if_pos c32] at H
     have c32b0 : (a1 == 2) = true := beq_iff_eq.mpr c32
     have c32b1 : (a1 != 2) = false := bne_eq_false_iff_eq.mpr c32
     have c32ix : ∀ (T_ : TypeId) (x_ : Value) (W_ : World), Sem.run Try.prog (Instr.index T_ x_ (Value.int IntKind.i64 a1)) W_ = Sem.run Try.prog (Instr.index T_ x_ (Value.int IntKind.i64 2)) W_ := by rw [c32]; intros; rfl
     have c32iy : ∀ (T_ : TypeId) (x_ : Value) (W_ : World), Sem.run Try.prog (Instr.indexAt T_ x_ (Value.int IntKind.i64 a1)) W_ = Sem.run Try.prog (Instr.indexAt T_ x_ (Value.int IntKind.i64 2)) W_ := by rw [c32]; intros; rfl
     clear c32
     obtain ⟨y261, hy261⟩ : ∃ y_ : List Int, y_ = (([t244, t245] : List Int)) := ⟨_, rfl⟩
     replace H : (if x5_1.length + y261.length < 17592186044416 then (box_cuts.j1 k1 a1 (x5_1 ++ y261) l0 (l0.length : Int) x11_1) else (none)) = some r := by first | (rw [hy261]; with_reducible exact H) | (have H2_ := (Option.bind_some _ _).symm.trans H; rw [hy261]; with_reducible exact H2_) | (have H2_ := (Option.bind_some _ _).symm.trans H; with_reducible exact H2_) | with_reducible exact H | (rw [hy261]; exact H) | exact H
     have Ny261 := am hy261
     clear hy261
     by_cases c33 : x5_1.length + y261.length < 17592186044416
     rotate_left
     ·rw [if_neg c33] at H
      exact absurd H (by simp)
     rw [if_pos c33] at H
     have LMc33 := am c33
     clear c33
     obtain ⟨y264, hy264⟩ : ∃ y_ : List Int, y_ = (x5_1 ++ y261) := ⟨_, rfl⟩
     replace H : (box_cuts.j1 k1 a1 y264 l0 (l0.length : Int) x11_1) = some r := by first | (rw [hy264]; with_reducible exact H) | (have H2_ := (Option.bind_some _ _).symm.trans H; rw [hy264]; with_reducible exact H2_) | (have H2_ := (Option.bind_some _ _).symm.trans H; with_reducible exact H2_) | with_reducible exact H | (rw [hy264]; exact H) | exact H
     have Ny264 := am hy264
     clear hy264
     have H' := am H
     clear H
     have p238 : 0 ≤ (x11_1 : Int) := of_decide_eq_true (by assumption)
     have q238 : x11_1 < (l0.length : Int) := of_decide_eq_true (by assumption)
     obtain ⟨ad238, e238, hx238_0, hx238_1, hx238_2, hx238_3, hx238_4, hx238_5⟩ := at_T25 HR0.out x11_1 p238 q238
     cases e238
     replace hx238_0 := cl HB hx238_0
     replace hx238_1 := cl HB hx238_1
     replace hx238_2 := cl HB hx238_2
     replace hx238_3 := cl HB hx238_3
     replace hx238_4 := cl HB hx238_4
     replace hx238_5 := cl HB hx238_5
     replace p238 := eq_true p238
     replace q238 := eq_true q238
     go_wp2_with (first | ((with_reducible refine gd (N := 7) rfl ?_); refine be ?hg (N := 7) ?hd (cs := #[.int .i64 0, .int .i64 0, .int .i64 0, .int .i64 0, .int .i64 0, .int .i64 0]) (t := 25) ?hr ?_; (case hd | hg => rfl); (case hr => first | (go_simp; done) | (go_simp; rfl)); intro gb239 hg w34 hbox hb; replace HO_5 := dR HO_5 hb; have BK239 := am hbox; have GW239 := sG HB hg; have GE239 := sG HB hg; replace HB := bS HB hb; clear hb hbox hg; obtain ⟨_, _, _, _, _, _, _, _, _, _, _, _⟩ := zC6 BK239) | ((with_reducible refine gc (f := 52) rfl ?_); refine goesL_ (some 16) rfl rfl Try.func52 (by kernel_rfl) rfl #[.agg #[.int .i64 ((rd_T25 l0 x11_1).f0.f0), .int .i64 ((rd_T25 l0 x11_1).f0.f1), .int .i64 ((rd_T25 l0 x11_1).f0.f2), .int .i64 ((rd_T25 l0 x11_1).f1.f0), .int .i64 ((rd_T25 l0 x11_1).f1.f1), .int .i64 ((rd_T25 l0 x11_1).f1.f2)]] rfl (by (try simp only [pml]); first | done | rfl | (simp only [pdt]; rfl)) ?_; (with_reducible refine (box_sides.calls ((rd_T25 l0 x11_1).f0.f0) ((rd_T25 l0 x11_1).f0.f1) ((rd_T25 l0 x11_1).f0.f2) ((rd_T25 l0 x11_1).f1.f0) ((rd_T25 l0 x11_1).f1.f1) ((rd_T25 l0 x11_1).f1.f2) t240 t241 t242 t243 t244 t245 _ A7.out).mono ?_); rintro e w36 ⟨rfl, hb⟩; refine ⟨_, rfl, ?_⟩; replace HO_5 := am (Kd.R_below (by (with_reducible repeat (first | apply Kd.R_alloc | apply Kd.R_drewN | apply Kd.R_drew)); exact (Kd.R_mono (Kd.R_far (p := ⟨gb239, 5, none⟩) (Kd.R_far (p := ⟨gb239, 4, none⟩) (Kd.R_far (p := ⟨gb239, 3, none⟩) (Kd.R_far (p := ⟨gb239, 2, none⟩) (Kd.R_far (p := ⟨gb239, 1, none⟩) (Kd.R_far (p := ⟨gb239, 0, none⟩) (Kd.R_types HO_5.out BK239.out (by decide)) (fun _ hk => hk.2) (.int .i64 ((rd_T25 l0 x11_1).f0.f0))) (fun _ hk => hk.2) (.int .i64 ((rd_T25 l0 x11_1).f0.f1))) (fun _ hk => hk.2) (.int .i64 ((rd_T25 l0 x11_1).f0.f2))) (fun _ hk => hk.2) (.int .i64 ((rd_T25 l0 x11_1).f1.f0))) (fun _ hk => hk.2) (.int .i64 ((rd_T25 l0 x11_1).f1.f1))) (fun _ hk => hk.2) (.int .i64 ((rd_T25 l0 x11_1).f1.f2))) (fun _ h_ => h_.1))) hb); replace BK239 := xC1 (o := .cells #[.int .i64 ((rd_T25 l0 x11_1).f0.f0), .int .i64 ((rd_T25 l0 x11_1).f0.f1), .int .i64 ((rd_T25 l0 x11_1).f0.f2), .int .i64 ((rd_T25 l0 x11_1).f1.f0), .int .i64 ((rd_T25 l0 x11_1).f1.f1), .int .i64 ((rd_T25 l0 x11_1).f1.f2)] 25 (0, 0)) (kkC BK239.out) hb; replace HB := bS HB hb; (try clear hb); (try clear hb2); (try clear hk); (try clear hi)) | ((with_reducible refine gd (N := 8) rfl ?_); refine be ?hg (N := 8) ?hd (cs := #[.int .i64 0, .int .i64 0]) (t := 72) ?hr ?_; (case hd | hg => rfl); (case hr => first | (go_simp; done) | (go_simp; rfl)); intro gb260 hg w37 hbox hb; replace HO_5 := dR HO_5 hb; have BK260 := am hbox; have GW260 := sG HB hg; have GE260 := sG HB hg; replace HB := bS HB hb; have NB239_260 := nL BK239 hg; have NB260_239 := nG BK239 hg; replace BK239 := bB BK239 hb; clear hb hbox hg; have hnb38 := NB260_239.out; have hnc38 := NB239_260.out; obtain ⟨_, _, _, _⟩ := zC2 BK260) | ((with_reducible refine gd (N := 24) rfl ?_); refine Kd.R_lit (Kd.int .i64) _ 3 ?hg (N := 24) ?hd (xs := ([t244, t245] : List Int)) (inner := [.int .i64 t244, .int .i64 t245]) (ok := fun _ => True) (okp := fun _ => True) ?hr ?hp (fun _ hk => hk) trivial (Below.refl _ _) (Nat.le_refl _) (by simp) ?_; (case hd | hg => rfl); (case hr => first | (go_simp; done) | (go_simp; rfl)); (case hp => exact (Reps.one (show Kd.M (Kd.int .i64) _ _ _ t244 [.int .i64 t244] from rfl) (Reps.one (show Kd.M (Kd.int .i64) _ _ _ t245 [.int .i64 t245] from rfl) (Reps.none _ _)))); intro v262 w40 ho41 hb hg_ hnew_; clear hg_ hnew_; (first | rw [← Ny261.out] at ho41 | (simp only [Int.reduceToNat] at ho41; rw [← Ny261.out] at ho41)); have HO263 := am (Kd.R_lower (Kd.R_new' ho41 (Kd.R_lt (by (with_reducible repeat (first | apply Kd.R_alloc | apply Kd.R_drewN | apply Kd.R_drew)); exact (Kd.R_mono (Kd.R_far (p := ⟨gb260, 1, none⟩) (Kd.R_far (p := ⟨gb260, 0, none⟩) (Kd.R_types HO_5.out BK260.out (by decide)) (fun _ hk => hk.2) (.int .i64 t244)) (fun _ hk => hk.2) (.int .i64 t245)) (fun _ h_ => h_.1))))) (wz (fW HB.out))); replace HO_5 := am (Kd.R_elder' (by (with_reducible repeat (first | apply Kd.R_alloc | apply Kd.R_drewN | apply Kd.R_drew)); exact (Kd.R_mono (Kd.R_far (p := ⟨gb260, 1, none⟩) (Kd.R_far (p := ⟨gb260, 0, none⟩) (Kd.R_types HO_5.out BK260.out (by decide)) (fun _ hk => hk.2) (.int .i64 t244)) (fun _ hk => hk.2) (.int .i64 t245)) (fun _ h_ => h_.1))) (Kd.R_base ho41) hb); replace BK239 := xC1 (kfC BK239.out) hb; replace BK260 := xC1 (o := .cells #[.int .i64 t244, .int .i64 t245] 72 (0, 0)) (kkC BK260.out) hb; replace HB := bS HB hb; clear hb ho41; obtain ⟨Ao43, co43, eo43⟩ := Kd.R_slice HO263.out; subst eo43) | ((with_reducible refine gate_builtin (b := .append) (xs := #[.tmp 19, .tmp 24]) rfl ?_); at_builtin; refine Kd.R_append_rows (Kd.int .i64) (w0 := w) w.heap.size rfl (.tmp 19) (.tmp 24) 69 3 (.int .i64 0) 8 rfl Try.underlying69 info3 rfl (by decide) (by omega) u5 x5_1 y261 _ _ _ (fun k_ => some k_ ≠ (.slice Ao43 y261.length co43 : Value).ownBlock) (fun _ => False) rfl rfl ?aO ?aR (fun _ _ h => h) (fun _ h => h.elim) ?aF ?aB ?aS ?aL ?_; (case aR => repeat (first | exact (Kd.R_reads' HO263.out).2.2 | (with_reducible refine Kd.C_alloc ?_ _) | (with_reducible refine Kd.C_drewN ?_ _) | (with_reducible refine Kd.C_drew ?_))); (case aB => exact (fW HB.out)); (case aF => exact (fun k_ hk => Kd.fresh' (Kd.R_lt (fR HO263.out)) k_ hk)); (case aO => exact (by (with_reducible repeat (first | apply Kd.R_alloc | apply Kd.R_drewN | apply Kd.R_drew)); exact Kd.R_mono HO_5.out (fun _ hk => hk.2))); (case aS => exact (wz (fW HB.out))); (case aL => have := LMc33.out; omega); intro v265 w42 ho hb hg hat; rw [← Ny264.out] at ho; replace BK239 := am (blk_grown (g := gb239) (o := .cells #[.int .i64 ((rd_T25 l0 x11_1).f0.f0), .int .i64 ((rd_T25 l0 x11_1).f0.f1), .int .i64 ((rd_T25 l0 x11_1).f0.f2), .int .i64 ((rd_T25 l0 x11_1).f1.f0), .int .i64 ((rd_T25 l0 x11_1).f1.f1), .int .i64 ((rd_T25 l0 x11_1).f1.f2)] 25 (0, 0)) (fb BK239.out) hg (Kd.R_ne HO_5.out BK239.out (by decide))); replace BK260 := am (blk_grown (g := gb260) (o := .cells #[.int .i64 t244, .int .i64 t245] 72 (0, 0)) (fb BK260.out) hg (Kd.R_ne HO_5.out BK260.out (by decide))); replace HO263 := am (Kd.R_after (ok := (fun _ => True)) (fR HO263.out) hg hat); replace HB := am (hb); have HO266 := am (ho); clear HO_5 ho hb hg hat))
     go_meet
     case rel => exact ⟨_, (y264), H', ⟨by have := HK1.out; first | omega | exact Nat.le_refl _⟩, ⟨by (with_reducible repeat (first | apply Kd.R_alloc | apply Kd.R_drewN | apply Kd.R_drew)); exact Kd.R_mono HO266.out (fun _ hk => trivial)⟩, ⟨fW HB.out⟩⟩
    case rest =>
     clear HC4
     try clear c1;try clear c2;try clear p2;try clear q2;try clear hx2;try clear c3;try clear c3b0;try clear c5;try clear c5b0;try clear c6;try clear c6b0;try clear c8;try clear c8b0;try clear c8b1;try clear c9;try clear c14;try clear c20;try clear c20b0;try clear c20b1;try clear c21;try clear p23;try clear q23;try clear hx23;try clear c26;try clear c32;try clear c32b0;try clear c32b1;try clear c33;try clear c38;try clear hx238_0;try clear hx238_1;try clear hx238_2;try clear hx238_3;try clear hx238_4;try clear hx238_5;try clear p2;try clear p238;try clear q238
     obtain ⟨kq, x5_3, HA, HJ3, HO_5, HB⟩ := hcut
     cases kq with
     | zero => exact absurd HA.out (by simp [box_cuts.j1])
     | succ kj3 =>
      have H := HA.out
      clear HA
      simp only [box_cuts.j1] at H
      have H' := am H
      clear H
      go_wp2
      go_roundg kj3
      case measure => have := HK1.out; have := HJ3.out; omega
      case rel => exact ⟨(x5_3), (wrap64 (x11_1 + 1)), sqD, H', ⟨by have := HK1.out; have := HJ3.out; omega⟩, ⟨fR HO_5.out⟩, ⟨fW HB.out⟩⟩
   ·rw [if_neg c3] at H
    have c3b0 : decide (x11_1 < (l0.length : Int)) = false := decide_eq_false c3
    clear c3
    replace H := Option.bind_eq_some_iff.mp H
    obtain ⟨t267, A440, H⟩ := H
    replace H : ((slices_Compact_int_int.f t267).bind fun t268 => (some t268)) = some r := H
    have A44 := am A440
    clear A440
    replace H := Option.bind_eq_some_iff.mp H
    obtain ⟨t268, A450, H⟩ := H
    replace H : (some t268) = some r := H
    have A45 := am A450
    clear A450
    obtain rfl := Option.some.inj H
    obtain ⟨Ao46, co46, eo46⟩ := Kd.R_slice HO_5.out
    subst eo46
    go_wp2_with (first | ((with_reducible refine gc (f := 67) rfl ?_); refine goesL_ (some 28) rfl rfl Try.func67 (by kernel_rfl) rfl #[.slice Ao46 x5_1.length co46] rfl (by (try simp only [pml]); first | done | rfl | (simp only [pdt]; rfl)) ?_; (with_reducible refine (slices_Sort_int_int.calls (fun k_ => some k_ = (.slice Ao46 x5_1.length co46 : Value).ownBlock) (.slice Ao46 x5_1.length co46) x5_1 t267 w _ ?side1 ?side2 A44.out).mono ?_); (case side1 => repeat (first | (with_reducible first | exact HB.out | apply below_alloc | apply pw_below_drewN | apply below_drew1) | exact HB.out)); (case side2 => exact Kd.R_tight rfl HO_5.out); rintro e w47 ⟨rfl, hy0, hb, hkp⟩; refine ⟨_, rfl, ?_⟩; replace HO_5 := am (Kd.R_reok rfl hy0 (fun k_ e_ => HO_5.out.1 k_ e_)); replace HB := am (hb); (try clear hb); (try clear hkp); (try clear hy0)) | ((with_reducible refine gc (f := 68) rfl ?_); refine goesL_ (some 30) rfl rfl Try.func68 (by kernel_rfl) rfl #[.slice Ao46 x5_1.length co46] rfl (by (try simp only [pml]); first | done | rfl | (simp only [pdt]; rfl)) ?_; (with_reducible refine (slices_Compact_int_int.calls (fun k_ => some k_ = (.slice Ao46 x5_1.length co46 : Value).ownBlock) (.slice Ao46 x5_1.length co46) t267 t268 w _ ?side1 ?side2 A45.out).mono ?_); (case side1 => repeat (first | (with_reducible first | exact HB.out | apply below_alloc | apply pw_below_drewN | apply below_drew1) | exact HB.out)); (case side2 => exact Kd.R_tight rfl HO_5.out); rintro e w48 ⟨v269, rfl, ho0, hb, hkp⟩; refine ⟨_, rfl, ?_⟩; have HO270 := am (Kd.R_mono (ok' := fun k_ => True) ho0 (fun k_ hk_ => trivial)); replace HB := am (hb); clear HO_5; (try clear hb); (try clear hkp); (try clear ho0)))
    go_ret
    exact ⟨_, sqE, fR HO270.out, fW HB.out⟩

end Go.Proofs.Ytmmdikhmlmoolaa.QA
