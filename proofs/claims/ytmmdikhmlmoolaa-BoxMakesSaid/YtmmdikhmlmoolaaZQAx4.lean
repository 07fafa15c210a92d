import Derived.Test.YtmmdikhmlmoolaaZQAx0
import Derived.Test.YtmmdikhmlmoolaaZQAx3
import Derived.Test.YtmmdikhmlmoolaaZRegInv
import Derived.LoopN
import Derived.StillTailTactics
namespace Go.Proofs.Ytmmdikhmlmoolaa.QA
open Go.RowKit Go.Proofs.YtmmdikhmlmoolaaW.PrintWords Go.Proofs.YtmmdikhmlmoolaaW.PrintLast Go.Proofs.YtmmdikhmlmoolaaW.PrintMore
open Go.Proofs.YtmmdikhmlmoolaaW.PrintWords renaming blk_drew → bd, blk_alloc → ba, below_alloc → wa, blk_below → bb, gate_dst → gd, gate_callee → gc, box_event → be
open Aside0 renaming mk → am
attribute [local go_sem] max2_int min2_int max_two min_two max_three min_three max_four min_four
set_option linter.unusedVariables false
set_option linter.unusedSimpArgs false

def box_all.l0 : Nat → List (S25) → Int → Int → Option (Int)
 | 0, _, _, _ => none
 | k + 1, x6, x7, x8 => if x8 < x7 then (if 0 ≤ x8 then (if x8 < (x6.length : Int) then ((box_Check.f ((rd_T25 x6 x8).f0.f0) ((rd_T25 x6 x8).f0.f1) ((rd_T25 x6 x8).f0.f2) ((rd_T25 x6 x8).f1.f0) ((rd_T25 x6 x8).f1.f1) ((rd_T25 x6 x8).f1.f2)).bind fun t135 => (if t135 = 0 then (box_all.l0 k x6 x7 (wrap64 (x8 + 1))) else (some t135))) else (none)) else (none)) else (some 0)
def box_all.f (k : Nat) (l0 : List (S25)) : Option (Int) := box_all.l0 k l0 (l0.length : Int) 0
set_option maxHeartbeats 8000000 in
set_option maxRecDepth 100000 in
theorem box_all.calls (k : Nat) (A0 : Option Addr) (c0 : Nat) (l0 : List (S25)) (r : Int) (w : World) (hr0 : Kd.C k25 w A0 l0.length l0) (hc0 : l0.length ≤ c0) (h : box_all.f k l0 = some r) :
  Calls Try.prog 57 #[.slice A0 l0.length c0] w fun e w' => e = .returned (.int .i64 r) ∧ Below w.heap.size w w' := by
 have hu25 := Try.underlying25
 have HR0 := am hr0
 have HC0 := am hc0
 clear hr0 hc0
 have HB := am (Below.refl w.heap.size w)
 have H : (box_all.l0 k l0 (l0.length : Int) 0) = some r := h
 clear h
 have H' := am H
 clear H
 go_enter Try.func57, Try.ntmps57
 go_wp2
 go_loopg [8] k (fun kq v8 w' => ∃ (x8_1 : Int), v8 = .int .i64 x8_1 ∧ Aside0 (box_all.l0 kq l0 (l0.length : Int) x8_1 = some r) ∧ Aside0 (kq ≤ k) ∧ Aside0 (Below w.heap.size w w'))
 case atStart => exact ⟨(0), sqD, H', ⟨Nat.le_refl _⟩, ⟨fW HB.out⟩⟩
 case round =>
  clear H'
  obtain ⟨x8_1, rfl, HA, HK1, HB⟩ := hrel
  cases gk with
  | zero => exact absurd HA.out (by simp [box_all.l0])
  | succ k1 =>
   have H := HA.out
   clear HA
   simp only [box_all.l0] at H
   by_cases c2 : x8_1 < (l0.length : Int)
   ·rw [if_pos c2] at H
    have c2b0 : decide (x8_1 < (l0.length : Int)) = true := decide_eq_true c2
    clear c2
    by_cases c3 : 0 ≤ x8_1
    rotate_left
    ·rw [if_neg c3] at H
     exact absurd H (by simp)
    rw [if_pos c3] at H
    have c3b0 : decide (0 ≤ x8_1) = true := decide_eq_true c3
    clear c3
    by_cases c4 : x8_1 < (l0.length : Int)
    rotate_left
    ·rw [if_neg c4] at H
     exact absurd H (by simp)
    rw [if_pos c4] at H
    have c4b0 : decide (x8_1 < (l0.length : Int)) = true := decide_eq_true c4
    clear c4
    replace H := Option.bind_eq_some_iff.mp H
    obtain ⟨t135, A50, H⟩ := H
    replace H : (if t135 = 0 then (box_all.l0 k1 l0 (l0.length : Int) (wrap64 (x8_1 + 1))) else (some t135)) = some r := H
    have A5 := am A50
    clear A50
    by_cases c6 : t135 = 0
    ·rw [if_pos c6] at H
     have c6b0 : (t135 == 0) = true := beq_iff_eq.mpr c6
     have c6b1 : (t135 != 0) = false := bne_eq_false_iff_eq.mpr c6
     clear c6
     have H' := am H
     clear H
     have p133 : 0 ≤ (x8_1 : Int) := of_decide_eq_true (by assumption)
     have q133 : x8_1 < (l0.length : Int) := of_decide_eq_true (by assumption)
     obtain ⟨ad133, e133, hx133_0, hx133_1, hx133_2, hx133_3, hx133_4, hx133_5⟩ := at_T25 HR0.out x8_1 p133 q133
     cases e133
     replace hx133_0 := cl HB hx133_0
     replace hx133_1 := cl HB hx133_1
     replace hx133_2 := cl HB hx133_2
     replace hx133_3 := cl HB hx133_3
     replace hx133_4 := cl HB hx133_4
     replace hx133_5 := cl HB hx133_5
     replace p133 := eq_true p133
     replace q133 := eq_true q133
     go_wp2_with (first | ((with_reducible refine gd (N := 4) rfl ?_); refine be ?hg (N := 4) ?hd (cs := #[.int .i64 0, .int .i64 0, .int .i64 0, .int .i64 0, .int .i64 0, .int .i64 0]) (t := 25) ?hr ?_; (case hd | hg => rfl); (case hr => first | (go_simp; done) | (go_simp; rfl)); intro gb134 hg w7 hbox hb; have BK134 := am hbox; have GW134 := sG HB hg; have GE134 := sG HB hg; replace HB := bS HB hb; clear hb hbox hg; obtain ⟨_, _, _, _, _, _, _, _, _, _, _, _⟩ := zC6 BK134) | ((with_reducible refine gc (f := 20) rfl ?_); refine goesL_ (some 13) rfl rfl Try.func20 (by kernel_rfl) rfl #[.agg #[.int .i64 ((rd_T25 l0 x8_1).f0.f0), .int .i64 ((rd_T25 l0 x8_1).f0.f1), .int .i64 ((rd_T25 l0 x8_1).f0.f2), .int .i64 ((rd_T25 l0 x8_1).f1.f0), .int .i64 ((rd_T25 l0 x8_1).f1.f1), .int .i64 ((rd_T25 l0 x8_1).f1.f2)]] rfl (by (try simp only [pml]); first | done | rfl | (simp only [pdt]; rfl)) ?_; (with_reducible refine (box_Check.calls ((rd_T25 l0 x8_1).f0.f0) ((rd_T25 l0 x8_1).f0.f1) ((rd_T25 l0 x8_1).f0.f2) ((rd_T25 l0 x8_1).f1.f0) ((rd_T25 l0 x8_1).f1.f1) ((rd_T25 l0 x8_1).f1.f2) t135 _ A5.out).mono ?_); rintro e w9 ⟨rfl, hb⟩; refine ⟨_, rfl, ?_⟩; replace BK134 := xC1 (o := .cells #[.int .i64 ((rd_T25 l0 x8_1).f0.f0), .int .i64 ((rd_T25 l0 x8_1).f0.f1), .int .i64 ((rd_T25 l0 x8_1).f0.f2), .int .i64 ((rd_T25 l0 x8_1).f1.f0), .int .i64 ((rd_T25 l0 x8_1).f1.f1), .int .i64 ((rd_T25 l0 x8_1).f1.f2)] 25 (0, 0)) (kkC BK134.out) hb; replace HB := bS HB hb; (try clear hb); (try clear hb2); (try clear hk); (try clear hi)))
     go_roundg k1
     case measure => have := HK1.out; omega
     case rel => exact ⟨(wrap64 (x8_1 + 1)), sqD, H', ⟨by have := HK1.out; omega⟩, ⟨fW HB.out⟩⟩
    rw [if_neg c6] at H
    have c6b0 : (t135 == 0) = false := beq_eq_false_iff_ne.mpr c6
    have c6b1 : (t135 != 0) = true := bne_iff_ne.mpr c6
    obtain rfl := Option.some.inj H
    have p133 : 0 ≤ (x8_1 : Int) := of_decide_eq_true (by assumption)
    have q133 : x8_1 < (l0.length : Int) := of_decide_eq_true (by assumption)
    obtain ⟨ad133, e133, hx133_0, hx133_1, hx133_2, hx133_3, hx133_4, hx133_5⟩ := at_T25 HR0.out x8_1 p133 q133
    cases e133
    replace hx133_0 := cl HB hx133_0
    replace hx133_1 := cl HB hx133_1
    replace hx133_2 := cl HB hx133_2
    replace hx133_3 := cl HB hx133_3
    replace hx133_4 := cl HB hx133_4
    replace hx133_5 := cl HB hx133_5
    replace p133 := eq_true p133
    replace q133 := eq_true q133
    go_wp2_with (first | ((with_reducible refine gd (N := 4) rfl ?_); refine be ?hg (N := 4) ?hd (cs := #[.int .i64 0, .int .i64 0, .int .i64 0, .int .i64 0, .int .i64 0, .int .i64 0]) (t := 25) ?hr ?_; (case hd | hg => rfl); (case hr => first | (go_simp; done) | (go_simp; rfl)); intro gb134 hg w10 hbox hb; have BK134 := am hbox; have GW134 := sG HB hg; have GE134 := sG HB hg; replace HB := bS HB hb; clear hb hbox hg; obtain ⟨_, _, _, _, _, _, _, _, _, _, _, _⟩ := zC6 BK134) | ((with_reducible refine gc (f := 20) rfl ?_); refine goesL_ (some 13) rfl rfl Try.func20 (by kernel_rfl) rfl #[.agg #[.int .i64 ((rd_T25 l0 x8_1).f0.f0), .int .i64 ((rd_T25 l0 x8_1).f0.f1), .int .i64 ((rd_T25 l0 x8_1).f0.f2), .int .i64 ((rd_T25 l0 x8_1).f1.f0), .int .i64 ((rd_T25 l0 x8_1).f1.f1), .int .i64 ((rd_T25 l0 x8_1).f1.f2)]] rfl (by (try simp only [pml]); first | done | rfl | (simp only [pdt]; rfl)) ?_; (with_reducible refine (box_Check.calls ((rd_T25 l0 x8_1).f0.f0) ((rd_T25 l0 x8_1).f0.f1) ((rd_T25 l0 x8_1).f0.f2) ((rd_T25 l0 x8_1).f1.f0) ((rd_T25 l0 x8_1).f1.f1) ((rd_T25 l0 x8_1).f1.f2) t135 _ A5.out).mono ?_); rintro e w12 ⟨rfl, hb⟩; refine ⟨_, rfl, ?_⟩; replace BK134 := xC1 (o := .cells #[.int .i64 ((rd_T25 l0 x8_1).f0.f0), .int .i64 ((rd_T25 l0 x8_1).f0.f1), .int .i64 ((rd_T25 l0 x8_1).f0.f2), .int .i64 ((rd_T25 l0 x8_1).f1.f0), .int .i64 ((rd_T25 l0 x8_1).f1.f1), .int .i64 ((rd_T25 l0 x8_1).f1.f2)] 25 (0, 0)) (kkC BK134.out) hb; replace HB := bS HB hb; (try clear hb); (try clear hb2); (try clear hk); (try clear hi)))
    go_ret
    exact ⟨sqE, fW HB.out⟩
   ·rw [if_neg c2] at H
    have c2b0 : decide (x8_1 < (l0.length : Int)) = false := decide_eq_false c2
    clear c2
    obtain rfl := Option.some.inj H
    go_wp2
    go_ret
    exact ⟨sqE, fW HB.out⟩

def box_Intersect.f (k : Nat) (a0_0 : Int) (a0_1 : Int) (a0_2 : Int) (a0_3 : Int) (a0_4 : Int) (a0_5 : Int) (a1_0 : Int) (a1_1 : Int) (a1_2 : Int) (a1_3 : Int) (a1_4 : Int) (a1_5 : Int) : Option (Int × Int × Int × Int × Int × Int × Int) := (box_all.f k (([(⟨(⟨a0_0, a0_1, a0_2⟩ : S23), (⟨a0_3, a0_4, a0_5⟩ : S23)⟩ : S25), (⟨(⟨a1_0, a1_1, a1_2⟩ : S23), (⟨a1_3, a1_4, a1_5⟩ : S23)⟩ : S25)] : List (S25)))).bind fun t142 => (if t142 = 0 then ((box_Overlap.f a0_0 a0_1 a0_2 a0_3 a0_4 a0_5 a1_0 a1_1 a1_2 a1_3 a1_4 a1_5).bind fun t143 => (if t143 = true then ((box_common.f a0_0 a0_1 a0_2 a0_3 a0_4 a0_5 a1_0 a1_1 a1_2 a1_3 a1_4 a1_5).bind fun bt144 => ((box_join.f bt144.1 bt144.2.1 bt144.2.2.1 bt144.2.2.2.1 bt144.2.2.2.2.1 bt144.2.2.2.2.2).bind fun bt150 => (some (bt150.1, bt150.2.1, bt150.2.2.1, bt150.2.2.2.1, bt150.2.2.2.2.1, bt150.2.2.2.2.2, 0)))) else (some (0, 0, 0, 0, 0, 0, 9)))) else (some (0, 0, 0, 0, 0, 0, t142)))
set_option maxHeartbeats 8000000 in
set_option maxRecDepth 100000 in
theorem box_Intersect.calls (k : Nat) (a0_0 : Int) (a0_1 : Int) (a0_2 : Int) (a0_3 : Int) (a0_4 : Int) (a0_5 : Int) (a1_0 : Int) (a1_1 : Int) (a1_2 : Int) (a1_3 : Int) (a1_4 : Int) (a1_5 : Int) (r1 : Int) (r2 : Int) (r3 : Int) (r4 : Int) (r5 : Int) (r6 : Int) (r7 : Int) (w : World) (h : box_Intersect.f k a0_0 a0_1 a0_2 a0_3 a0_4 a0_5 a1_0 a1_1 a1_2 a1_3 a1_4 a1_5 = some (r1, r2, r3, r4, r5, r6, r7)) :
  Calls Try.prog 25 #[.agg #[.int .i64 a0_0, .int .i64 a0_1, .int .i64 a0_2, .int .i64 a0_3, .int .i64 a0_4, .int .i64 a0_5], .agg #[.int .i64 a1_0, .int .i64 a1_1, .int .i64 a1_2, .int .i64 a1_3, .int .i64 a1_4, .int .i64 a1_5]] w fun e w' => e = .returned (.tuple #[.agg #[.int .i64 r1, .int .i64 r2, .int .i64 r3, .int .i64 r4, .int .i64 r5, .int .i64 r6], .int .i64 r7]) ∧ Below w.heap.size w w' := by
 have hu25 := Try.underlying25
 have HB := am (Below.refl w.heap.size w)
 have H : ((box_all.f k (([(⟨(⟨a0_0, a0_1, a0_2⟩ : S23), (⟨a0_3, a0_4, a0_5⟩ : S23)⟩ : S25), (⟨(⟨a1_0, a1_1, a1_2⟩ : S23), (⟨a1_3, a1_4, a1_5⟩ : S23)⟩ : S25)] : List (S25)))).bind fun t142 => (if t142 = 0 then ((box_Overlap.f a0_0 a0_1 a0_2 a0_3 a0_4 a0_5 a1_0 a1_1 a1_2 a1_3 a1_4 a1_5).bind fun t143 => (if t143 = true then ((box_common.f a0_0 a0_1 a0_2 a0_3 a0_4 a0_5 a1_0 a1_1 a1_2 a1_3 a1_4 a1_5).bind fun bt144 => ((box_join.f bt144.1 bt144.2.1 bt144.2.2.1 bt144.2.2.2.1 bt144.2.2.2.2.1 bt144.2.2.2.2.2).bind fun bt150 => (some (bt150.1, bt150.2.1, bt150.2.2.1, bt150.2.2.2.1, bt150.2.2.2.2.1, bt150.2.2.2.2.2, 0)))) else (some (0, 0, 0, 0, 0, 0, 9)))) else (some (0, 0, 0, 0, 0, 0, t142)))) = some (r1, r2, r3, r4, r5, r6, r7) := h
 clear h
 obtain ⟨y139, hy139⟩ : ∃ y_ : List (S25), y_ = (([(⟨(⟨a0_0, a0_1, a0_2⟩ : S23), (⟨a0_3, a0_4, a0_5⟩ : S23)⟩ : S25), (⟨(⟨a1_0, a1_1, a1_2⟩ : S23), (⟨a1_3, a1_4, a1_5⟩ : S23)⟩ : S25)] : List (S25))) := ⟨_, rfl⟩
 replace H : ((box_all.f k y139).bind fun t142 => (if t142 = 0 then ((box_Overlap.f a0_0 a0_1 a0_2 a0_3 a0_4 a0_5 a1_0 a1_1 a1_2 a1_3 a1_4 a1_5).bind fun t143 => (if t143 = true then ((box_common.f a0_0 a0_1 a0_2 a0_3 a0_4 a0_5 a1_0 a1_1 a1_2 a1_3 a1_4 a1_5).bind fun bt144 => ((box_join.f bt144.1 bt144.2.1 bt144.2.2.1 bt144.2.2.2.1 bt144.2.2.2.2.1 bt144.2.2.2.2.2).bind fun bt150 => (some (bt150.1, bt150.2.1, bt150.2.2.1, bt150.2.2.2.1, bt150.2.2.2.2.1, bt150.2.2.2.2.2, 0)))) else (some (0, 0, 0, 0, 0, 0, 9)))) else (some (0, 0, 0, 0, 0, 0, t142)))) = some (r1, r2, r3, r4, r5, r6, r7) := by first | (rw [hy139]; with_reducible exact H) | (have H2_ := (Option.bind_some _ _).symm.trans H; rw [hy139]; with_reducible exact H2_) | (have H2_ := (Option.bind_some _ _).symm.trans H; with_reducible exact H2_) | with_reducible exact H | (rw [hy139]; exact H) | exact H
 have Ny139 := am hy139
 clear hy139
 replace H := Option.bind_eq_some_iff.mp H
 obtain ⟨t142, A30, H⟩ := H
 replace H : (if t142 = 0 then ((box_Overlap.f a0_0 a0_1 a0_2 a0_3 a0_4 a0_5 a1_0 a1_1 a1_2 a1_3 a1_4 a1_5).bind fun t143 => (if t143 = true then ((box_common.f a0_0 a0_1 a0_2 a0_3 a0_4 a0_5 a1_0 a1_1 a1_2 a1_3 a1_4 a1_5).bind fun bt144 => ((box_join.f bt144.1 bt144.2.1 bt144.2.2.1 bt144.2.2.2.1 bt144.2.2.2.2.1 bt144.2.2.2.2.2).bind fun bt150 => (some (bt150.1, bt150.2.1, bt150.2.2.1, bt150.2.2.2.1, bt150.2.2.2.2.1, bt150.2.2.2.2.2, 0)))) else (some (0, 0, 0, 0, 0, 0, 9)))) else (some (0, 0, 0, 0, 0, 0, t142))) = some (r1, r2, r3, r4, r5, r6, r7) := H
 have A3 := am A30
 clear A30
 by_cases c4 : t142 = 0
 ·rw [if_pos c4] at H
  have c4b0 : (t142 == 0) = true := beq_iff_eq.mpr c4
  have c4b1 : (t142 != 0) = false := bne_eq_false_iff_eq.mpr c4
  clear c4
  replace H := Option.bind_eq_some_iff.mp H
  obtain ⟨t143, A50, H⟩ := H
  replace H : (if t143 = true then ((box_common.f a0_0 a0_1 a0_2 a0_3 a0_4 a0_5 a1_0 a1_1 a1_2 a1_3 a1_4 a1_5).bind fun bt144 => ((box_join.f bt144.1 bt144.2.1 bt144.2.2.1 bt144.2.2.2.1 bt144.2.2.2.2.1 bt144.2.2.2.2.2).bind fun bt150 => (some (bt150.1, bt150.2.1, bt150.2.2.1, bt150.2.2.2.1, bt150.2.2.2.2.1, bt150.2.2.2.2.2, 0)))) else (some (0, 0, 0, 0, 0, 0, 9))) = some (r1, r2, r3, r4, r5, r6, r7) := H
  have A5 := am A50
  clear A50
  by_cases c6 : t143 = true
  ·subst c6
   have H1 : ((box_common.f a0_0 a0_1 a0_2 a0_3 a0_4 a0_5 a1_0 a1_1 a1_2 a1_3 a1_4 a1_5).bind fun bt144 => ((box_join.f bt144.1 bt144.2.1 bt144.2.2.1 bt144.2.2.2.1 bt144.2.2.2.2.1 bt144.2.2.2.2.2).bind fun bt150 => (some (bt150.1, bt150.2.1, bt150.2.2.1, bt150.2.2.2.1, bt150.2.2.2.2.1, bt150.2.2.2.2.2, 0)))) = some (r1, r2, r3, r4, r5, r6, r7) := by rw [if_pos rfl] at H; exact H
   clear H
   have H := H1
   clear H1
   replace H := Option.bind_eq_some_iff.mp H
   obtain ⟨⟨t144, t145, t146, t147, t148, t149⟩, A70, H⟩ := H
   replace H : ((box_join.f t144 t145 t146 t147 t148 t149).bind fun bt150 => (some (bt150.1, bt150.2.1, bt150.2.2.1, bt150.2.2.2.1, bt150.2.2.2.2.1, bt150.2.2.2.2.2, 0))) = some (r1, r2, r3, r4, r5, r6, r7) := H
   have A7 := am A70
   clear A70
   replace H := Option.bind_eq_some_iff.mp H
   obtain ⟨⟨t150, t151, t152, t153, t154, t155⟩, A80, H⟩ := H
   replace H : (some (t150, t151, t152, t153, t154, t155, 0)) = some (r1, r2, r3, r4, r5, r6, r7) := H
   have A8 := am A80
   clear A80
   simp only [Option.some.injEq, Prod.mk.injEq] at H
   obtain ⟨rfl, rfl, rfl, rfl, rfl, rfl, rfl⟩ := H
   go_enter Try.func25, Try.ntmps25
   go_wp2_with (first | ((with_reducible refine gd (N := 2) rfl ?_); refine be ?hg (N := 2) ?hd (cs := #[.int .i64 a0_0, .int .i64 a0_1, .int .i64 a0_2, .int .i64 a0_3, .int .i64 a0_4, .int .i64 a0_5]) (t := 25) ?hr ?_; (case hd | hg => rfl); (case hr => first | (go_simp; done) | (go_simp; rfl)); intro gb136 hg w9 hbox hb; have BK136 := am hbox; have GW136 := sG HB hg; have GE136 := sG HB hg; replace HB := bS HB hb; clear hb hbox hg) | ((with_reducible refine gd (N := 3) rfl ?_); refine be ?hg (N := 3) ?hd (cs := #[.int .i64 a1_0, .int .i64 a1_1, .int .i64 a1_2, .int .i64 a1_3, .int .i64 a1_4, .int .i64 a1_5]) (t := 25) ?hr ?_; (case hd | hg => rfl); (case hr => first | (go_simp; done) | (go_simp; rfl)); intro gb137 hg w10 hbox hb; have BK137 := am hbox; have GW137 := sG HB hg; have GE137 := sG HB hg; replace HB := bS HB hb; have NB136_137 := nL BK136 hg; have NB137_136 := nG BK136 hg; replace BK136 := bB BK136 hb; clear hb hbox hg) | ((with_reducible refine gd (N := 4) rfl ?_); refine be ?hg (N := 4) ?hd (cs := #[.int .i64 0, .int .i64 0, .int .i64 0, .int .i64 0, .int .i64 0, .int .i64 0]) (t := 25) ?hr ?_; (case hd | hg => rfl); (case hr => first | (go_simp; done) | (go_simp; rfl)); intro gb138 hg w11 hbox hb; have BK138 := am hbox; have GW138 := sG HB hg; have GE138 := sG HB hg; replace HB := bS HB hb; have NB136_138 := nL BK136 hg; have NB138_136 := nG BK136 hg; replace BK136 := bB BK136 hb; have NB137_138 := nL BK137 hg; have NB138_137 := nG BK137 hg; replace BK137 := bB BK137 hb; clear hb hbox hg; have hnb12 := NB136_137.out; have hnc12 := NB137_136.out; have hnb13 := NB136_138.out; have hnc13 := NB138_136.out; obtain ⟨_, _, _, _, _, _, _, _, _, _, _, _⟩ := zC6 BK136; have hnb15 := NB137_138.out; have hnc15 := NB138_137.out; obtain ⟨_, _, _, _, _, _, _, _, _, _, _, _⟩ := zC6 BK137) | ((with_reducible refine gd (N := 9) rfl ?_); refine Kd.R_lit k25 _ 25 ?hg (N := 9) ?hd (xs := ([(⟨(⟨a0_0, a0_1, a0_2⟩ : S23), (⟨a0_3, a0_4, a0_5⟩ : S23)⟩ : S25), (⟨(⟨a1_0, a1_1, a1_2⟩ : S23), (⟨a1_3, a1_4, a1_5⟩ : S23)⟩ : S25)] : List (S25))) (inner := [.int .i64 a0_0, .int .i64 a0_1, .int .i64 a0_2, .int .i64 a0_3, .int .i64 a0_4, .int .i64 a0_5, .int .i64 a1_0, .int .i64 a1_1, .int .i64 a1_2, .int .i64 a1_3, .int .i64 a1_4, .int .i64 a1_5]) (ok := fun _ => True) (okp := fun _ => True) ?hr ?hp (fun _ hk => hk) trivial (Below.refl _ _) (Nat.le_refl _) (by simp) ?_; (case hd | hg => rfl); (case hr => first | (go_simp; done) | (go_simp; rfl)); (case hp => exact (Reps.c6 (show Kd.M k25 _ _ _ (⟨(⟨a0_0, a0_1, a0_2⟩ : S23), (⟨a0_3, a0_4, a0_5⟩ : S23)⟩ : S25) [.int .i64 a0_0, .int .i64 a0_1, .int .i64 a0_2, .int .i64 a0_3, .int .i64 a0_4, .int .i64 a0_5] from (k25_mkM _ _ _ (⟨(⟨a0_0, a0_1, a0_2⟩ : S23), (⟨a0_3, a0_4, a0_5⟩ : S23)⟩ : S25) )) (Reps.c6 (show Kd.M k25 _ _ _ (⟨(⟨a1_0, a1_1, a1_2⟩ : S23), (⟨a1_3, a1_4, a1_5⟩ : S23)⟩ : S25) [.int .i64 a1_0, .int .i64 a1_1, .int .i64 a1_2, .int .i64 a1_3, .int .i64 a1_4, .int .i64 a1_5] from (k25_mkM _ _ _ (⟨(⟨a1_0, a1_1, a1_2⟩ : S23), (⟨a1_3, a1_4, a1_5⟩ : S23)⟩ : S25) )) (Reps.none _ _)))); intro v140 w17 ho18 hb hg_ hnew_; clear hg_ hnew_; (first | rw [← Ny139.out] at ho18 | (simp only [Int.reduceToNat] at ho18; rw [← Ny139.out] at ho18)); have HO141 := am (Kd.R_lower (Kd.R_newB (Kd.R_newB (Kd.R_newB ho18 (g := gb136) (o := .cells #[.int .i64 a0_0, .int .i64 a0_1, .int .i64 a0_2, .int .i64 a0_3, .int .i64 a0_4, .int .i64 a0_5] 25 (0, 0)) (fb BK136.out)) (g := gb137) (o := .cells #[.int .i64 a1_0, .int .i64 a1_1, .int .i64 a1_2, .int .i64 a1_3, .int .i64 a1_4, .int .i64 a1_5] 25 (0, 0)) (fb BK137.out)) (g := gb138) (o := .cells #[.int .i64 0, .int .i64 0, .int .i64 0, .int .i64 0, .int .i64 0, .int .i64 0] 25 (0, 0)) (fb BK138.out)) (below_size (fW HB.out))); replace BK136 := bB BK136 hb; replace BK137 := bB BK137 hb; replace BK138 := bB BK138 hb; replace HB := bS HB hb; clear hb ho18; obtain ⟨Ao19, co19, eo19⟩ := Kd.R_slice HO141.out; subst eo19) | ((with_reducible refine gc (f := 57) rfl ?_); refine goesL_ (some 10) rfl rfl Try.func57 (by kernel_rfl) rfl #[.slice Ao19 y139.length co19] rfl (by (try simp only [pml]); first | done | rfl | (simp only [pdt]; rfl)) ?_; (with_reducible refine (box_all.calls k _ _ y139 t142 _ ?side1 ?side2 A3.out).mono ?_); (case side1 => repeat (first | exact (Kd.R_reads' HO141.out).2.2 | (with_reducible refine Kd.C_alloc ?_ _) | (with_reducible refine Kd.C_drewN ?_ _) | (with_reducible refine Kd.C_drew ?_))); (case side2 => exact (Kd.R_reads' HO141.out).2.1); rintro e w20 ⟨rfl, hb⟩; refine ⟨_, rfl, ?_⟩; replace HO141 := dR HO141 hb; replace BK136 := bB BK136 hb; replace BK137 := bB BK137 hb; replace BK138 := bB BK138 hb; replace HB := bS HB hb; (try clear hb); (try clear hb2); (try clear hk); (try clear hi); obtain ⟨_, _, _, _, _, _, _, _, _, _, _, _⟩ := zC6 BK136; obtain ⟨_, _, _, _, _, _, _, _, _, _, _, _⟩ := zC6 BK137) | ((with_reducible refine gc (f := 17) rfl ?_); refine goesL_ (some 17) rfl rfl Try.func17 (by kernel_rfl) rfl #[.agg #[.int .i64 a0_0, .int .i64 a0_1, .int .i64 a0_2, .int .i64 a0_3, .int .i64 a0_4, .int .i64 a0_5], .agg #[.int .i64 a1_0, .int .i64 a1_1, .int .i64 a1_2, .int .i64 a1_3, .int .i64 a1_4, .int .i64 a1_5]] rfl (by (try simp only [pml]); first | done | rfl | (simp only [pdt]; rfl)) ?_; (with_reducible refine (box_Overlap.calls a0_0 a0_1 a0_2 a0_3 a0_4 a0_5 a1_0 a1_1 a1_2 a1_3 a1_4 a1_5 true _ A5.out).mono ?_); rintro e w23 ⟨rfl, hb⟩; refine ⟨_, rfl, ?_⟩; replace HO141 := dR HO141 hb; replace BK136 := bB BK136 hb; replace BK137 := bB BK137 hb; replace BK138 := bB BK138 hb; replace HB := bS HB hb; (try clear hb); (try clear hb2); (try clear hk); (try clear hi); obtain ⟨_, _, _, _, _, _, _, _, _, _, _, _⟩ := zC6 BK136; obtain ⟨_, _, _, _, _, _, _, _, _, _, _, _⟩ := zC6 BK137) | ((with_reducible refine gc (f := 56) rfl ?_); refine goesL_ (some 22) rfl rfl Try.func56 (by kernel_rfl) rfl #[.agg #[.int .i64 a0_0, .int .i64 a0_1, .int .i64 a0_2, .int .i64 a0_3, .int .i64 a0_4, .int .i64 a0_5], .agg #[.int .i64 a1_0, .int .i64 a1_1, .int .i64 a1_2, .int .i64 a1_3, .int .i64 a1_4, .int .i64 a1_5]] rfl (by (try simp only [pml]); first | done | rfl | (simp only [pdt]; rfl)) ?_; (with_reducible refine (box_common.calls a0_0 a0_1 a0_2 a0_3 a0_4 a0_5 a1_0 a1_1 a1_2 a1_3 a1_4 a1_5 t144 t145 t146 t147 t148 t149 _ A7.out).mono ?_); rintro e w26 ⟨rfl, hb⟩; refine ⟨_, rfl, ?_⟩; replace HO141 := dR HO141 hb; replace BK136 := bB BK136 hb; replace BK137 := bB BK137 hb; replace BK138 := bB BK138 hb; replace HB := bS HB hb; (try clear hb); (try clear hb2); (try clear hk); (try clear hi)) | ((with_reducible refine gc (f := 54) rfl ?_); refine goesL_ (some 23) rfl rfl Try.func54 (by kernel_rfl) rfl #[.agg #[.int .i64 t144, .int .i64 t145, .int .i64 t146, .int .i64 t147, .int .i64 t148, .int .i64 t149]] rfl (by (try simp only [pml]); first | done | rfl | (simp only [pdt]; rfl)) ?_; (with_reducible refine (box_join.calls t144 t145 t146 t147 t148 t149 t150 t151 t152 t153 t154 t155 _ A8.out).mono ?_); rintro e w27 ⟨rfl, hb⟩; refine ⟨_, rfl, ?_⟩; replace HO141 := dR HO141 hb; replace BK136 := bB BK136 hb; replace BK137 := bB BK137 hb; replace BK138 := bB BK138 hb; replace HB := bS HB hb; (try clear hb); (try clear hb2); (try clear hk); (try clear hi); obtain ⟨_, _, _, _, _, _, _, _, _, _, _, _⟩ := zC6 BK138))
   refine bodyPost_ret (results_ct rfl _ _ gb138 25 #[.int .i64 t150, .int .i64 t151, .int .i64 t152, .int .i64 t153, .int .i64 t154, .int .i64 t155] (0, 0) _ rfl (kkC BK138.out) Try.underlying25 rfl (by kernel_rfl)) rfl ?_
   exact ⟨sqE, fW HB.out⟩
  replace c6 := Bool.eq_false_iff.mpr c6
  subst c6
  have H1 : (some (0, 0, 0, 0, 0, 0, 9)) = some (r1, r2, r3, r4, r5, r6, r7) := by rw [if_neg (show ¬ (false = true) by decide)] at H; exact H
  clear H
  have H := H1
  clear H1
  simp only [Option.some.injEq, Prod.mk.injEq] at H
  obtain ⟨rfl, rfl, rfl, rfl, rfl, rfl, rfl⟩ := H
  go_enter Try.func25, Try.ntmps25
  go_wp2_with (first | ((with_reducible refine gd (N := 2) rfl ?_); refine be ?hg (N := 2) ?hd (cs := #[.int .i64 a0_0, .int .i64 a0_1, .int .i64 a0_2, .int .i64 a0_3, .int .i64 a0_4, .int .i64 a0_5]) (t := 25) ?hr ?_; (case hd | hg => rfl); (case hr => first | (go_simp; done) | (go_simp; rfl)); intro gb136 hg w29 hbox hb; have BK136 := am hbox; have GW136 := sG HB hg; have GE136 := sG HB hg; replace HB := bS HB hb; clear hb hbox hg) | ((with_reducible refine gd (N := 3) rfl ?_); refine be ?hg (N := 3) ?hd (cs := #[.int .i64 a1_0, .int .i64 a1_1, .int .i64 a1_2, .int .i64 a1_3, .int .i64 a1_4, .int .i64 a1_5]) (t := 25) ?hr ?_; (case hd | hg => rfl); (case hr => first | (go_simp; done) | (go_simp; rfl)); intro gb137 hg w30 hbox hb; have BK137 := am hbox; have GW137 := sG HB hg; have GE137 := sG HB hg; replace HB := bS HB hb; have NB136_137 := nL BK136 hg; have NB137_136 := nG BK136 hg; replace BK136 := bB BK136 hb; clear hb hbox hg) | ((with_reducible refine gd (N := 4) rfl ?_); refine be ?hg (N := 4) ?hd (cs := #[.int .i64 0, .int .i64 0, .int .i64 0, .int .i64 0, .int .i64 0, .int .i64 0]) (t := 25) ?hr ?_; (case hd | hg => rfl); (case hr => first | (go_simp; done) | (go_simp; rfl)); intro gb138 hg w31 hbox hb; have BK138 := am hbox; have GW138 := sG HB hg; have GE138 := sG HB hg; replace HB := bS HB hb; have NB136_138 := nL BK136 hg; have NB138_136 := nG BK136 hg; replace BK136 := bB BK136 hb; have NB137_138 := nL BK137 hg; have NB138_137 := nG BK137 hg; replace BK137 := bB BK137 hb; clear hb hbox hg; have hnb32 := NB136_137.out; have hnc32 := NB137_136.out; have hnb33 := NB136_138.out; have hnc33 := NB138_136.out; obtain ⟨_, _, _, _, _, _, _, _, _, _, _, _⟩ := zC6 BK136; have hnb35 := NB137_138.out; have hnc35 := NB138_137.out; obtain ⟨_, _, _, _, _, _, _, _, _, _, _, _⟩ := zC6 BK137) | ((with_reducible refine gd (N := 9) rfl ?_); refine Kd.R_lit k25 _ 25 ?hg (N := 9) ?hd (xs := ([(⟨(⟨a0_0, a0_1, a0_2⟩ : S23), (⟨a0_3, a0_4, a0_5⟩ : S23)⟩ : S25), (⟨(⟨a1_0, a1_1, a1_2⟩ : S23), (⟨a1_3, a1_4, a1_5⟩ : S23)⟩ : S25)] : List (S25))) (inner := [.int .i64 a0_0, .int .i64 a0_1, .int .i64 a0_2, .int .i64 a0_3, .int .i64 a0_4, .int .i64 a0_5, .int .i64 a1_0, .int .i64 a1_1, .int .i64 a1_2, .int .i64 a1_3, .int .i64 a1_4, .int .i64 a1_5]) (ok := fun _ => True) (okp := fun _ => True) ?hr ?hp (fun _ hk => hk) trivial (Below.refl _ _) (Nat.le_refl _) (by simp) ?_; (case hd | hg => rfl); (case hr => first | (go_simp; done) | (go_simp; rfl)); (case hp => exact (Reps.c6 (show Kd.M k25 _ _ _ (⟨(⟨a0_0, a0_1, a0_2⟩ : S23), (⟨a0_3, a0_4, a0_5⟩ : S23)⟩ : S25) [.int .i64 a0_0, .int .i64 a0_1, .int .i64 a0_2, .int .i64 a0_3, .int .i64 a0_4, .int .i64 a0_5] from (k25_mkM _ _ _ (⟨(⟨a0_0, a0_1, a0_2⟩ : S23), (⟨a0_3, a0_4, a0_5⟩ : S23)⟩ : S25) )) (Reps.c6 (show Kd.M k25 _ _ _ (⟨(⟨a1_0, a1_1, a1_2⟩ : S23), (⟨a1_3, a1_4, a1_5⟩ : S23)⟩ : S25) [.int .i64 a1_0, .int .i64 a1_1, .int .i64 a1_2, .int .i64 a1_3, .int .i64 a1_4, .int .i64 a1_5] from (k25_mkM _ _ _ (⟨(⟨a1_0, a1_1, a1_2⟩ : S23), (⟨a1_3, a1_4, a1_5⟩ : S23)⟩ : S25) )) (Reps.none _ _)))); intro v140 w37 ho38 hb hg_ hnew_; clear hg_ hnew_; (first | rw [← Ny139.out] at ho38 | (simp only [Int.reduceToNat] at ho38; rw [← Ny139.out] at ho38)); have HO141 := am (Kd.R_lower (Kd.R_newB (Kd.R_newB (Kd.R_newB ho38 (g := gb136) (o := .cells #[.int .i64 a0_0, .int .i64 a0_1, .int .i64 a0_2, .int .i64 a0_3, .int .i64 a0_4, .int .i64 a0_5] 25 (0, 0)) (fb BK136.out)) (g := gb137) (o := .cells #[.int .i64 a1_0, .int .i64 a1_1, .int .i64 a1_2, .int .i64 a1_3, .int .i64 a1_4, .int .i64 a1_5] 25 (0, 0)) (fb BK137.out)) (g := gb138) (o := .cells #[.int .i64 0, .int .i64 0, .int .i64 0, .int .i64 0, .int .i64 0, .int .i64 0] 25 (0, 0)) (fb BK138.out)) (below_size (fW HB.out))); replace BK136 := bB BK136 hb; replace BK137 := bB BK137 hb; replace BK138 := bB BK138 hb; replace HB := bS HB hb; clear hb ho38; obtain ⟨Ao39, co39, eo39⟩ := Kd.R_slice HO141.out; subst eo39) | ((with_reducible refine gc (f := 57) rfl ?_); refine goesL_ (some 10) rfl rfl Try.func57 (by kernel_rfl) rfl #[.slice Ao39 y139.length co39] rfl (by (try simp only [pml]); first | done | rfl | (simp only [pdt]; rfl)) ?_; (with_reducible refine (box_all.calls k _ _ y139 t142 _ ?side1 ?side2 A3.out).mono ?_); (case side1 => repeat (first | exact (Kd.R_reads' HO141.out).2.2 | (with_reducible refine Kd.C_alloc ?_ _) | (with_reducible refine Kd.C_drewN ?_ _) | (with_reducible refine Kd.C_drew ?_))); (case side2 => exact (Kd.R_reads' HO141.out).2.1); rintro e w40 ⟨rfl, hb⟩; refine ⟨_, rfl, ?_⟩; replace HO141 := dR HO141 hb; replace BK136 := bB BK136 hb; replace BK137 := bB BK137 hb; replace BK138 := bB BK138 hb; replace HB := bS HB hb; (try clear hb); (try clear hb2); (try clear hk); (try clear hi); obtain ⟨_, _, _, _, _, _, _, _, _, _, _, _⟩ := zC6 BK136; obtain ⟨_, _, _, _, _, _, _, _, _, _, _, _⟩ := zC6 BK137) | ((with_reducible refine gc (f := 17) rfl ?_); refine goesL_ (some 17) rfl rfl Try.func17 (by kernel_rfl) rfl #[.agg #[.int .i64 a0_0, .int .i64 a0_1, .int .i64 a0_2, .int .i64 a0_3, .int .i64 a0_4, .int .i64 a0_5], .agg #[.int .i64 a1_0, .int .i64 a1_1, .int .i64 a1_2, .int .i64 a1_3, .int .i64 a1_4, .int .i64 a1_5]] rfl (by (try simp only [pml]); first | done | rfl | (simp only [pdt]; rfl)) ?_; (with_reducible refine (box_Overlap.calls a0_0 a0_1 a0_2 a0_3 a0_4 a0_5 a1_0 a1_1 a1_2 a1_3 a1_4 a1_5 false _ A5.out).mono ?_); rintro e w43 ⟨rfl, hb⟩; refine ⟨_, rfl, ?_⟩; replace HO141 := dR HO141 hb; replace BK136 := bB BK136 hb; replace BK137 := bB BK137 hb; replace BK138 := bB BK138 hb; replace HB := bS HB hb; (try clear hb); (try clear hb2); (try clear hk); (try clear hi); obtain ⟨_, _, _, _, _, _, _, _, _, _, _, _⟩ := zC6 BK138))
  refine bodyPost_ret (results_ct rfl _ _ gb138 25 #[.int .i64 0, .int .i64 0, .int .i64 0, .int .i64 0, .int .i64 0, .int .i64 0] (0, 0) _ rfl (kkC BK138.out) Try.underlying25 rfl (by kernel_rfl)) rfl ?_
  exact ⟨sqE, fW HB.out⟩
 ·rw [if_neg c4] at H
  have c4b0 : (t142 == 0) = false := beq_eq_false_iff_ne.mpr c4
  have c4b1 : (t142 != 0) = true := bne_iff_ne.mpr c4
  simp only [Option.some.injEq, Prod.mk.injEq] at H
  obtain ⟨rfl, rfl, rfl, rfl, rfl, rfl, rfl⟩ := H
  go_enter Try.func25, Try.ntmps25
  go_wp2_with (first | ((with_reducible refine gd (N := 2) rfl ?_); refine be ?hg (N := 2) ?hd (cs := #[.int .i64 a0_0, .int .i64 a0_1, .int .i64 a0_2, .int .i64 a0_3, .int .i64 a0_4, .int .i64 a0_5]) (t := 25) ?hr ?_; (case hd | hg => rfl); (case hr => first | (go_simp; done) | (go_simp; rfl)); intro gb136 hg w45 hbox hb; have BK136 := am hbox; have GW136 := sG HB hg; have GE136 := sG HB hg; replace HB := bS HB hb; clear hb hbox hg) | ((with_reducible refine gd (N := 3) rfl ?_); refine be ?hg (N := 3) ?hd (cs := #[.int .i64 a1_0, .int .i64 a1_1, .int .i64 a1_2, .int .i64 a1_3, .int .i64 a1_4, .int .i64 a1_5]) (t := 25) ?hr ?_; (case hd | hg => rfl); (case hr => first | (go_simp; done) | (go_simp; rfl)); intro gb137 hg w46 hbox hb; have BK137 := am hbox; have GW137 := sG HB hg; have GE137 := sG HB hg; replace HB := bS HB hb; have NB136_137 := nL BK136 hg; have NB137_136 := nG BK136 hg; replace BK136 := bB BK136 hb; clear hb hbox hg) | ((with_reducible refine gd (N := 4) rfl ?_); refine be ?hg (N := 4) ?hd (cs := #[.int .i64 0, .int .i64 0, .int .i64 0, .int .i64 0, .int .i64 0, .int .i64 0]) (t := 25) ?hr ?_; (case hd | hg => rfl); (case hr => first | (go_simp; done) | (go_simp; rfl)); intro gb138 hg w47 hbox hb; have BK138 := am hbox; have GW138 := sG HB hg; have GE138 := sG HB hg; replace HB := bS HB hb; have NB136_138 := nL BK136 hg; have NB138_136 := nG BK136 hg; replace BK136 := bB BK136 hb; have NB137_138 := nL BK137 hg; have NB138_137 := nG BK137 hg; replace BK137 := bB BK137 hb; clear hb hbox hg; have hnb48 := NB136_137.out; have hnc48 := NB137_136.out; have hnb49 := NB136_138.out; have hnc49 := NB138_136.out; obtain ⟨_, _, _, _, _, _, _, _, _, _, _, _⟩ := zC6 BK136; have hnb51 := NB137_138.out; have hnc51 := NB138_137.out; obtain ⟨_, _, _, _, _, _, _, _, _, _, _, _⟩ := zC6 BK137) | ((with_reducible refine gd (N := 9) rfl ?_); refine Kd.R_lit k25 _ 25 ?hg (N := 9) ?hd (xs := ([(⟨(⟨a0_0, a0_1, a0_2⟩ : S23), (⟨a0_3, a0_4, a0_5⟩ : S23)⟩ : S25), (⟨(⟨a1_0, a1_1, a1_2⟩ : S23), (⟨a1_3, a1_4, a1_5⟩ : S23)⟩ : S25)] : List (S25))) (inner := [.int .i64 a0_0, .int .i64 a0_1, .int .i64 a0_2, .int .i64 a0_3, .int .i64 a0_4, .int .i64 a0_5, .int .i64 a1_0, .int .i64 a1_1, .int .i64 a1_2, .int .i64 a1_3, .int .i64 a1_4, .int .i64 a1_5]) (ok := fun _ => True) (okp := fun _ => True) ?hr ?hp (fun _ hk => hk) trivial (Below.refl _ _) (Nat.le_refl _) (by simp) ?_; (case hd | hg => rfl); (case hr => first | (go_simp; done) | (go_simp; rfl)); (case hp => exact (Reps.c6 (show Kd.M k25 _ _ _ (⟨(⟨a0_0, a0_1, a0_2⟩ : S23), (⟨a0_3, a0_4, a0_5⟩ : S23)⟩ : S25) [.int .i64 a0_0, .int .i64 a0_1, .int .i64 a0_2, .int .i64 a0_3, .int .i64 a0_4, .int .i64 a0_5] from (k25_mkM _ _ _ (⟨(⟨a0_0, a0_1, a0_2⟩ : S23), (⟨a0_3, a0_4, a0_5⟩ : S23)⟩ : S25) )) (Reps.c6 (show Kd.M k25 _ _ _ (⟨(⟨a1_0, a1_1, a1_2⟩ : S23), (⟨a1_3, a1_4, a1_5⟩ : S23)⟩ : S25) [.int .i64 a1_0, .int .i64 a1_1, .int .i64 a1_2, .int .i64 a1_3, .int .i64 a1_4, .int .i64 a1_5] from (k25_mkM _ _ _ (⟨(⟨a1_0, a1_1, a1_2⟩ : S23), (⟨a1_3, a1_4, a1_5⟩ : S23)⟩ : S25) )) (Reps.none _ _)))); intro v140 w53 ho54 hb hg_ hnew_; clear hg_ hnew_; (first | rw [← Ny139.out] at ho54 | (simp only [Int.reduceToNat] at ho54; rw [← Ny139.out] at ho54)); have HO141 := am (Kd.R_lower (Kd.R_newB (Kd.R_newB (Kd.R_newB ho54 (g := gb136) (o := .cells #[.int .i64 a0_0, .int .i64 a0_1, .int .i64 a0_2, .int .i64 a0_3, .int .i64 a0_4, .int .i64 a0_5] 25 (0, 0)) (fb BK136.out)) (g := gb137) (o := .cells #[.int .i64 a1_0, .int .i64 a1_1, .int .i64 a1_2, .int .i64 a1_3, .int .i64 a1_4, .int .i64 a1_5] 25 (0, 0)) (fb BK137.out)) (g := gb138) (o := .cells #[.int .i64 0, .int .i64 0, .int .i64 0, .int .i64 0, .int .i64 0, .int .i64 0] 25 (0, 0)) (fb BK138.out)) (below_size (fW HB.out))); replace BK136 := bB BK136 hb; replace BK137 := bB BK137 hb; replace BK138 := bB BK138 hb; replace HB := bS HB hb; clear hb ho54; obtain ⟨Ao55, co55, eo55⟩ := Kd.R_slice HO141.out; subst eo55) | ((with_reducible refine gc (f := 57) rfl ?_); refine goesL_ (some 10) rfl rfl Try.func57 (by kernel_rfl) rfl #[.slice Ao55 y139.length co55] rfl (by (try simp only [pml]); first | done | rfl | (simp only [pdt]; rfl)) ?_; (with_reducible refine (box_all.calls k _ _ y139 t142 _ ?side1 ?side2 A3.out).mono ?_); (case side1 => repeat (first | exact (Kd.R_reads' HO141.out).2.2 | (with_reducible refine Kd.C_alloc ?_ _) | (with_reducible refine Kd.C_drewN ?_ _) | (with_reducible refine Kd.C_drew ?_))); (case side2 => exact (Kd.R_reads' HO141.out).2.1); rintro e w56 ⟨rfl, hb⟩; refine ⟨_, rfl, ?_⟩; replace HO141 := dR HO141 hb; replace BK136 := bB BK136 hb; replace BK137 := bB BK137 hb; replace BK138 := bB BK138 hb; replace HB := bS HB hb; (try clear hb); (try clear hb2); (try clear hk); (try clear hi); obtain ⟨_, _, _, _, _, _, _, _, _, _, _, _⟩ := zC6 BK138))
  refine bodyPost_ret (results_ct rfl _ _ gb138 25 #[.int .i64 0, .int .i64 0, .int .i64 0, .int .i64 0, .int .i64 0, .int .i64 0] (0, 0) _ rfl (kkC BK138.out) Try.underlying25 rfl (by kernel_rfl)) rfl ?_
  exact ⟨sqE, fW HB.out⟩

section
open Go.Proofs.Ytmmdikhmlmoolaa.RegInv
attribute [local go_sem] max2_int min2_int max_two min_two Oper.semAt_some
def inR (n : Int) : Bool := decide (-1000000 ≤ n) && decide (n ≤ 1000000)
def chk (x : S25) : Int := if inR x.f0.f0 && inR x.f1.f0 && inR x.f0.f1 && inR x.f1.f1 && inR x.f0.f2 && inR x.f1.f2 then (if x.f0.f0 < x.f1.f0 ∧ x.f0.f1 < x.f1.f1 ∧ x.f0.f2 < x.f1.f2 then 0 else 1) else 6
theorem in_is (n : Int) : box_in.f n = some (inR n) := by
 unfold box_in.f inR
 by_cases h : n ≥ -1000000
 ·rw [if_pos h, decide_eq_true (show -1000000 ≤ n from h), Bool.true_and]
 rw [if_neg h, decide_eq_false (show ¬ -1000000 ≤ n from h), Bool.false_and]
theorem check_is (x : S25) : box_Check.f x.f0.f0 x.f0.f1 x.f0.f2 x.f1.f0 x.f1.f1 x.f1.f2 = some (chk x) := by
 unfold box_Check.f chk
 simp only [box_sides.f, in_is, Option.bind_some]
 cases inR x.f0.f0 <;> cases inR x.f1.f0 <;> cases inR x.f0.f1 <;> cases inR x.f1.f1 <;> cases inR x.f0.f2 <;> cases inR x.f1.f2 <;> first | rfl | (simp; repeat' split) <;> first | rfl | omega
def two (x y : S25) : Int := if chk x = 0 then chk y else chk x
theorem all_two (x y : S25) : box_all.f 3 [x, y] = some (two x y) := by
 have e0 : rd_T25 [x, y] 0 = x := rfl
 have e1 : rd_T25 [x, y] 1 = y := rfl
 unfold box_all.f two
 simp only [box_all.l0, List.length_cons, List.length_nil]
 rw [show wrap64 (0 + 1) = 1 from by unfold wrap64; omega, show wrap64 (1 + 1) = 2 from by unfold wrap64; omega, e0, e1, check_is, check_is]
 simp only [Option.bind_some]
 by_cases h : chk x = 0
 ·by_cases h2 : chk y = 0
  ·simp [h, h2]
  simp [h, h2]
 simp [h]
theorem two_C {W : World} {g : Nat} {t : TypeId} (x y : S25) (h : W.heap[g]? = some (Obj.cells #[.int .i64 x.f0.f0, .int .i64 x.f0.f1, .int .i64 x.f0.f2, .int .i64 x.f1.f0, .int .i64 x.f1.f1, .int .i64 x.f1.f2, .int .i64 y.f0.f0, .int .i64 y.f0.f1, .int .i64 y.f0.f2, .int .i64 y.f1.f0, .int .i64 y.f1.f1, .int .i64 y.f1.f2] t (0, 0))) : Kd.C k25 W (some ⟨g, 0, none⟩) 2 [x, y] := by
 refine ⟨rfl, by decide, fun _ => ⟨_, rfl, fun j p hp => ?_⟩⟩
 match j with
 | 0 =>
  obtain rfl : x = p := by simpa using hp
  refine ⟨_, rfl, k25_mk W x, fun i u hu => ?_⟩
  match i with
  | 0 | 1 | 2 | 3 | 4 | 5 => simp at hu; subst hu; exact (blk_cell h _).trans rfl
  | i + 6 => simp at hu
 | 1 =>
  obtain rfl : y = p := by simpa using hp
  refine ⟨_, rfl, k25_mk W y, fun i u hu => ?_⟩
  match i with
  | 0 | 1 | 2 | 3 | 4 | 5 => simp at hu; subst hu; exact (blk_cell h _).trans rfl
  | i + 6 => simp at hu
 | j + 2 => simp at hp
theorem all_calls (x y : S25) {W : World} {g : Nat} {t : TypeId} (h : W.heap[g]? = some (Obj.cells #[.int .i64 x.f0.f0, .int .i64 x.f0.f1, .int .i64 x.f0.f2, .int .i64 x.f1.f0, .int .i64 x.f1.f1, .int .i64 x.f1.f2, .int .i64 y.f0.f0, .int .i64 y.f0.f1, .int .i64 y.f0.f2, .int .i64 y.f1.f0, .int .i64 y.f1.f1, .int .i64 y.f1.f2] t (0, 0))) : Calls Try.prog 57 #[.slice (some ⟨g, 0, none⟩) 2 2] W fun e w' => e = .returned (.int .i64 (two x y)) ∧ Below W.heap.size W w' :=
 box_all.calls 3 _ 2 [x, y] _ W (two_C x y h) (Nat.le_refl _) (all_two x y)
def box_Hull.f (a0_0 a0_1 a0_2 a0_3 a0_4 a0_5 a1_0 a1_1 a1_2 a1_3 a1_4 a1_5 : Int) : Option (Int × Int × Int × Int × Int × Int × Int) := some (if two (⟨⟨a0_0, a0_1, a0_2⟩, ⟨a0_3, a0_4, a0_5⟩⟩ : S25) (⟨⟨a1_0, a1_1, a1_2⟩, ⟨a1_3, a1_4, a1_5⟩⟩ : S25) = 0 then ((mn a0_0 a1_0), (mn a0_1 a1_1), (mn a0_2 a1_2), (mx a0_3 a1_3), (mx a0_4 a1_4), (mx a0_5 a1_5), 0) else (0, 0, 0, 0, 0, 0, two (⟨⟨a0_0, a0_1, a0_2⟩, ⟨a0_3, a0_4, a0_5⟩⟩ : S25) (⟨⟨a1_0, a1_1, a1_2⟩, ⟨a1_3, a1_4, a1_5⟩⟩ : S25)))
set_option maxHeartbeats 4000000 in
set_option maxRecDepth 100000 in
theorem box_Hull.calls (a0_0 a0_1 a0_2 a0_3 a0_4 a0_5 a1_0 a1_1 a1_2 a1_3 a1_4 a1_5 : Int) (r1 r2 r3 r4 r5 r6 r7 : Int) (w : World) (h : box_Hull.f a0_0 a0_1 a0_2 a0_3 a0_4 a0_5 a1_0 a1_1 a1_2 a1_3 a1_4 a1_5 = some (r1, r2, r3, r4, r5, r6, r7)) :
  Calls Try.prog 26 #[.agg #[.int .i64 a0_0, .int .i64 a0_1, .int .i64 a0_2, .int .i64 a0_3, .int .i64 a0_4, .int .i64 a0_5], .agg #[.int .i64 a1_0, .int .i64 a1_1, .int .i64 a1_2, .int .i64 a1_3, .int .i64 a1_4, .int .i64 a1_5]] w fun e w' => e = .returned (.tuple #[.agg #[.int .i64 r1, .int .i64 r2, .int .i64 r3, .int .i64 r4, .int .i64 r5, .int .i64 r6], .int .i64 r7]) ∧ Below w.heap.size w w' := by
 have hu25 := Try.underlying25
 have hu73 := Try.underlying73
 have hu72 := Try.underlying72
 have HS := am sides_is
 have HA := am (show ∀ (W : World) (g : Nat), W.heap[g]? = some (Obj.cells #[.int .i64 a0_0, .int .i64 a0_1, .int .i64 a0_2, .int .i64 a0_3, .int .i64 a0_4, .int .i64 a0_5, .int .i64 a1_0, .int .i64 a1_1, .int .i64 a1_2, .int .i64 a1_3, .int .i64 a1_4, .int .i64 a1_5] 25 (0, 0)) → Calls Try.prog 57 #[.slice (some ⟨g, 0, none⟩) 2 2] W fun e w' => e = .returned (.int .i64 (two (⟨⟨a0_0, a0_1, a0_2⟩, ⟨a0_3, a0_4, a0_5⟩⟩ : S25) (⟨⟨a1_0, a1_1, a1_2⟩, ⟨a1_3, a1_4, a1_5⟩⟩ : S25))) ∧ Below W.heap.size W w' from fun W g h => all_calls (⟨⟨a0_0, a0_1, a0_2⟩, ⟨a0_3, a0_4, a0_5⟩⟩ : S25) (⟨⟨a1_0, a1_1, a1_2⟩, ⟨a1_3, a1_4, a1_5⟩⟩ : S25) h)
 unfold box_Hull.f at h
 by_cases he : two (⟨⟨a0_0, a0_1, a0_2⟩, ⟨a0_3, a0_4, a0_5⟩⟩ : S25) (⟨⟨a1_0, a1_1, a1_2⟩, ⟨a1_3, a1_4, a1_5⟩⟩ : S25) = 0
 rotate_left
 ·rw [if_neg he] at h
  simp only [Option.some.injEq, Prod.mk.injEq] at h
  obtain ⟨rfl, rfl, rfl, rfl, rfl, rfl, rfl⟩ := h
  obtain ⟨e0, HE⟩ : ∃ e0, two (⟨⟨a0_0, a0_1, a0_2⟩, ⟨a0_3, a0_4, a0_5⟩⟩ : S25) (⟨⟨a1_0, a1_1, a1_2⟩, ⟨a1_3, a1_4, a1_5⟩⟩ : S25) = e0 := ⟨_, rfl⟩
  rw [HE] at he ⊢
  replace HE := am HE
  have d0 : (e0 != 0) = true := bne_iff_ne.2 he
  have d1 : (e0 == 0) = false := beq_eq_false_iff_ne.2 he
  clear he
  go_enter Try.func26, Try.ntmps26
  go_wp2_with fail
  obtain ⟨W, hW⟩ : ∃ W, W = (((w.alloc (.cells #[.int .i64 a0_0, .int .i64 a0_1, .int .i64 a0_2, .int .i64 a0_3, .int .i64 a0_4, .int .i64 a0_5] 25)).alloc (.cells #[.int .i64 a1_0, .int .i64 a1_1, .int .i64 a1_2, .int .i64 a1_3, .int .i64 a1_4, .int .i64 a1_5] 25)).alloc (.cells #[.int .i64 0, .int .i64 0, .int .i64 0, .int .i64 0, .int .i64 0, .int .i64 0] 25)).alloc (.cells #[.int .i64 a0_0, .int .i64 a0_1, .int .i64 a0_2, .int .i64 a0_3, .int .i64 a0_4, .int .i64 a0_5, .int .i64 a1_0, .int .i64 a1_1, .int .i64 a1_2, .int .i64 a1_3, .int .i64 a1_4, .int .i64 a1_5] 25) := ⟨_, rfl⟩
  have B_0 : W.heap[w.heap.size]? = some (Obj.cells #[.int .i64 a0_0, .int .i64 a0_1, .int .i64 a0_2, .int .i64 a0_3, .int .i64 a0_4, .int .i64 a0_5] 25 (0, 0)) := by
   rw [hW]; have h := blk_new w (.cells #[.int .i64 a0_0, .int .i64 a0_1, .int .i64 a0_2, .int .i64 a0_3, .int .i64 a0_4, .int .i64 a0_5] 25)
   exact ba (ba (ba (h) _) _) _
  have B_1 : W.heap[w.heap.size + 1]? = some (Obj.cells #[.int .i64 a1_0, .int .i64 a1_1, .int .i64 a1_2, .int .i64 a1_3, .int .i64 a1_4, .int .i64 a1_5] 25 (0, 0)) := by
   rw [hW]; have h := blk_new (w.alloc (.cells #[.int .i64 a0_0, .int .i64 a0_1, .int .i64 a0_2, .int .i64 a0_3, .int .i64 a0_4, .int .i64 a0_5] 25)) (.cells #[.int .i64 a1_0, .int .i64 a1_1, .int .i64 a1_2, .int .i64 a1_3, .int .i64 a1_4, .int .i64 a1_5] 25)
   rw [World.size_alloc] at h; exact ba (ba (h) _) _
  have B_2 : W.heap[w.heap.size + 1 + 1]? = some (Obj.cells #[.int .i64 0, .int .i64 0, .int .i64 0, .int .i64 0, .int .i64 0, .int .i64 0] 25 (0, 0)) := by
   rw [hW]; have h := blk_new ((w.alloc (.cells #[.int .i64 a0_0, .int .i64 a0_1, .int .i64 a0_2, .int .i64 a0_3, .int .i64 a0_4, .int .i64 a0_5] 25)).alloc (.cells #[.int .i64 a1_0, .int .i64 a1_1, .int .i64 a1_2, .int .i64 a1_3, .int .i64 a1_4, .int .i64 a1_5] 25)) (.cells #[.int .i64 0, .int .i64 0, .int .i64 0, .int .i64 0, .int .i64 0, .int .i64 0] 25)
   rw [World.size_alloc, World.size_alloc] at h; exact ba (h) _
  have B_3 : W.heap[w.heap.size + 1 + 1 + 1]? = some (Obj.cells #[.int .i64 a0_0, .int .i64 a0_1, .int .i64 a0_2, .int .i64 a0_3, .int .i64 a0_4, .int .i64 a0_5, .int .i64 a1_0, .int .i64 a1_1, .int .i64 a1_2, .int .i64 a1_3, .int .i64 a1_4, .int .i64 a1_5] 25 (0, 0)) := by
   rw [hW]; have h := blk_new (((w.alloc (.cells #[.int .i64 a0_0, .int .i64 a0_1, .int .i64 a0_2, .int .i64 a0_3, .int .i64 a0_4, .int .i64 a0_5] 25)).alloc (.cells #[.int .i64 a1_0, .int .i64 a1_1, .int .i64 a1_2, .int .i64 a1_3, .int .i64 a1_4, .int .i64 a1_5] 25)).alloc (.cells #[.int .i64 0, .int .i64 0, .int .i64 0, .int .i64 0, .int .i64 0, .int .i64 0] 25)) (.cells #[.int .i64 a0_0, .int .i64 a0_1, .int .i64 a0_2, .int .i64 a0_3, .int .i64 a0_4, .int .i64 a0_5, .int .i64 a1_0, .int .i64 a1_1, .int .i64 a1_2, .int .i64 a1_3, .int .i64 a1_4, .int .i64 a1_5] 25)
   rw [World.size_alloc, World.size_alloc, World.size_alloc] at h; exact h
  have hb0 : Below w.heap.size w W := by rw [hW]; exact wa (wa (wa (wa ((Below.refl _ _)) _) _) _) _
  rw [← hW]
  clear hW
  have HB := am hb0
  have K0 := am B_0
  have K1 := am B_1
  have K2 := am B_2
  have KL := am B_3
  clear hb0 B_0 B_1 B_2 B_3
  go_wp2_with (go_at_call 57; refine (HA.out _ _ KL.out).mono ?_; rintro e w2 ⟨rfl, hb⟩; try rw [HE.out]; replace K0 := am (bb K0.out hb); replace K1 := am (bb K1.out hb); replace K2 := am (bb K2.out hb); replace HB := am (below_step HB.out hb); clear hb KL; obtain ⟨q0, q1, q2, q3, q4, q5⟩ := RegInv.cells6 K2.out; obtain ⟨r0, r1, r2, r3, r4, r5⟩ := RegInv.free6 K2.out)
  have K3 := RegInv.set6_at (a' := .int .i64 0) (b' := .int .i64 0) (c' := .int .i64 0) (d' := .int .i64 0) (e' := .int .i64 0) (f' := .int .i64 0) K2.out
  refine bodyPost_ret (results_ct rfl _ _ (w.heap.size + 1 + 1) 25 #[.int .i64 0, .int .i64 0, .int .i64 0, .int .i64 0, .int .i64 0, .int .i64 0] (0, 0) _ rfl K3 Try.underlying25 rfl (by kernel_rfl)) rfl ?_
  exact ⟨rfl, RegInv.set6_below HB.out (by omega)⟩
 rw [if_pos he] at h
 simp only [Option.some.injEq, Prod.mk.injEq] at h
 obtain ⟨rfl, rfl, rfl, rfl, rfl, rfl, rfl⟩ := h
 have HE := am he
 clear he
 go_enter Try.func26, Try.ntmps26
 go_wp2_with fail
 obtain ⟨W, hW⟩ : ∃ W, W = (((w.alloc (.cells #[.int .i64 a0_0, .int .i64 a0_1, .int .i64 a0_2, .int .i64 a0_3, .int .i64 a0_4, .int .i64 a0_5] 25)).alloc (.cells #[.int .i64 a1_0, .int .i64 a1_1, .int .i64 a1_2, .int .i64 a1_3, .int .i64 a1_4, .int .i64 a1_5] 25)).alloc (.cells #[.int .i64 0, .int .i64 0, .int .i64 0, .int .i64 0, .int .i64 0, .int .i64 0] 25)).alloc (.cells #[.int .i64 a0_0, .int .i64 a0_1, .int .i64 a0_2, .int .i64 a0_3, .int .i64 a0_4, .int .i64 a0_5, .int .i64 a1_0, .int .i64 a1_1, .int .i64 a1_2, .int .i64 a1_3, .int .i64 a1_4, .int .i64 a1_5] 25) := ⟨_, rfl⟩
 have B_0 : W.heap[w.heap.size]? = some (Obj.cells #[.int .i64 a0_0, .int .i64 a0_1, .int .i64 a0_2, .int .i64 a0_3, .int .i64 a0_4, .int .i64 a0_5] 25 (0, 0)) := by
  rw [hW]; have h := blk_new w (.cells #[.int .i64 a0_0, .int .i64 a0_1, .int .i64 a0_2, .int .i64 a0_3, .int .i64 a0_4, .int .i64 a0_5] 25)
  exact ba (ba (ba (h) _) _) _
 have B_1 : W.heap[w.heap.size + 1]? = some (Obj.cells #[.int .i64 a1_0, .int .i64 a1_1, .int .i64 a1_2, .int .i64 a1_3, .int .i64 a1_4, .int .i64 a1_5] 25 (0, 0)) := by
  rw [hW]; have h := blk_new (w.alloc (.cells #[.int .i64 a0_0, .int .i64 a0_1, .int .i64 a0_2, .int .i64 a0_3, .int .i64 a0_4, .int .i64 a0_5] 25)) (.cells #[.int .i64 a1_0, .int .i64 a1_1, .int .i64 a1_2, .int .i64 a1_3, .int .i64 a1_4, .int .i64 a1_5] 25)
  rw [World.size_alloc] at h; exact ba (ba (h) _) _
 have B_2 : W.heap[w.heap.size + 1 + 1]? = some (Obj.cells #[.int .i64 0, .int .i64 0, .int .i64 0, .int .i64 0, .int .i64 0, .int .i64 0] 25 (0, 0)) := by
  rw [hW]; have h := blk_new ((w.alloc (.cells #[.int .i64 a0_0, .int .i64 a0_1, .int .i64 a0_2, .int .i64 a0_3, .int .i64 a0_4, .int .i64 a0_5] 25)).alloc (.cells #[.int .i64 a1_0, .int .i64 a1_1, .int .i64 a1_2, .int .i64 a1_3, .int .i64 a1_4, .int .i64 a1_5] 25)) (.cells #[.int .i64 0, .int .i64 0, .int .i64 0, .int .i64 0, .int .i64 0, .int .i64 0] 25)
  rw [World.size_alloc, World.size_alloc] at h; exact ba (h) _
 have B_3 : W.heap[w.heap.size + 1 + 1 + 1]? = some (Obj.cells #[.int .i64 a0_0, .int .i64 a0_1, .int .i64 a0_2, .int .i64 a0_3, .int .i64 a0_4, .int .i64 a0_5, .int .i64 a1_0, .int .i64 a1_1, .int .i64 a1_2, .int .i64 a1_3, .int .i64 a1_4, .int .i64 a1_5] 25 (0, 0)) := by
  rw [hW]; have h := blk_new (((w.alloc (.cells #[.int .i64 a0_0, .int .i64 a0_1, .int .i64 a0_2, .int .i64 a0_3, .int .i64 a0_4, .int .i64 a0_5] 25)).alloc (.cells #[.int .i64 a1_0, .int .i64 a1_1, .int .i64 a1_2, .int .i64 a1_3, .int .i64 a1_4, .int .i64 a1_5] 25)).alloc (.cells #[.int .i64 0, .int .i64 0, .int .i64 0, .int .i64 0, .int .i64 0, .int .i64 0] 25)) (.cells #[.int .i64 a0_0, .int .i64 a0_1, .int .i64 a0_2, .int .i64 a0_3, .int .i64 a0_4, .int .i64 a0_5, .int .i64 a1_0, .int .i64 a1_1, .int .i64 a1_2, .int .i64 a1_3, .int .i64 a1_4, .int .i64 a1_5] 25)
  rw [World.size_alloc, World.size_alloc, World.size_alloc] at h; exact h
 have hb0 : Below w.heap.size w W := by rw [hW]; exact wa (wa (wa (wa ((Below.refl _ _)) _) _) _) _
 rw [← hW]
 clear hW
 have HB := am hb0
 have K0 := am B_0
 have K1 := am B_1
 have K2 := am B_2
 have KL := am B_3
 clear hb0 B_0 B_1 B_2 B_3
 go_wp2_with (go_at_call 57; refine (HA.out _ _ KL.out).mono ?_; rintro e w2 ⟨rfl, hb⟩; try rw [HE.out]; replace K0 := am (bb K0.out hb); replace K1 := am (bb K1.out hb); replace K2 := am (bb K2.out hb); replace HB := am (below_step HB.out hb); clear hb KL)
 refine RegInv.region_inv (fun f a W' => ∃ s18 s19 s20 s21 s7 s8 : Value, a = { tmps := #[.agg #[.int .i64 a0_0, .int .i64 a0_1, .int .i64 a0_2, .int .i64 a0_3, .int .i64 a0_4, .int .i64 a0_5], .agg #[.int .i64 a1_0, .int .i64 a1_1, .int .i64 a1_2, .int .i64 a1_3, .int .i64 a1_4, .int .i64 a1_5], .pointer (some ⟨w.heap.size, 0, none⟩), .pointer (some ⟨w.heap.size + 1, 0, none⟩), .pointer (some ⟨w.heap.size + 1 + 1, 0, none⟩), .int .i64 0, .int .i64 0, s7, s8, undef, .agg #[.int .i64 a0_0, .int .i64 a0_1, .int .i64 a0_2, .int .i64 a0_3, .int .i64 a0_4, .int .i64 a0_5], .agg #[.int .i64 a1_0, .int .i64 a1_1, .int .i64 a1_2, .int .i64 a1_3, .int .i64 a1_4, .int .i64 a1_5], .slice (some ⟨w.heap.size + 1 + 1 + 1, 0, none⟩) 2 2, .int .i64 0, .int .i64 0, .bool false, undef, undef, s18, s19, s20, s21, undef, undef, undef, undef, undef, undef, undef, undef, undef, undef, undef, undef, undef, undef, undef, undef, undef, undef, undef, undef, undef, undef, undef, undef, undef, undef, undef], defers := [] } ∧ (f 0 = true → s18 = .agg #[.int .i64 a0_0, .int .i64 a0_1, .int .i64 a0_2, .int .i64 a0_3, .int .i64 a0_4, .int .i64 a0_5]) ∧ (f 1 = true → s19 = .agg #[.int .i64 a0_0, .int .i64 a0_3, .int .i64 a0_1, .int .i64 a0_4, .int .i64 a0_2, .int .i64 a0_5]) ∧ (f 2 = true → s20 = .agg #[.int .i64 a1_0, .int .i64 a1_1, .int .i64 a1_2, .int .i64 a1_3, .int .i64 a1_4, .int .i64 a1_5]) ∧ (f 3 = true → s21 = .agg #[.int .i64 a1_0, .int .i64 a1_3, .int .i64 a1_1, .int .i64 a1_4, .int .i64 a1_2, .int .i64 a1_5]) ∧ (f 4 = true → ∃ g, s7 = .pointer (some ⟨g, 0, none⟩) ∧ w.heap.size + 3 ≤ g ∧ W'.heap[g]? = some (Obj.cells (if f 6 = true then #[.int .i64 a0_0, .int .i64 a0_3, .int .i64 a0_1, .int .i64 a0_4, .int .i64 a0_2, .int .i64 a0_5] else #[.int .i64 0, .int .i64 0, .int .i64 0, .int .i64 0, .int .i64 0, .int .i64 0]) 73 (0, 0))) ∧ (f 5 = true → ∃ g, s8 = .pointer (some ⟨g, 0, none⟩) ∧ w.heap.size + 3 ≤ g ∧ W'.heap[g]? = some (Obj.cells (if f 7 = true then #[.int .i64 a1_0, .int .i64 a1_3, .int .i64 a1_1, .int .i64 a1_4, .int .i64 a1_2, .int .i64 a1_5] else #[.int .i64 0, .int .i64 0, .int .i64 0, .int .i64 0, .int .i64 0, .int .i64 0]) 73 (0, 0))) ∧ (s7 = s8 → f 4 = true → f 5 = true → False) ∧ (f 6 = true → f 4 = true) ∧ (f 7 = true → f 5 = true) ∧ W'.heap[w.heap.size]? = some (Obj.cells #[.int .i64 a0_0, .int .i64 a0_1, .int .i64 a0_2, .int .i64 a0_3, .int .i64 a0_4, .int .i64 a0_5] 25 (0, 0)) ∧ W'.heap[w.heap.size + 1]? = some (Obj.cells #[.int .i64 a1_0, .int .i64 a1_1, .int .i64 a1_2, .int .i64 a1_3, .int .i64 a1_4, .int .i64 a1_5] 25 (0, 0)) ∧ W'.heap[w.heap.size + 1 + 1]? = some (Obj.cells #[.int .i64 0, .int .i64 0, .int .i64 0, .int .i64 0, .int .i64 0, .int .i64 0] 25 (0, 0)) ∧ Below w.heap.size w W') (by kernel_rfl) (by kernel_rfl) ?h0 ?hstep ?hend
 case h0 => exact ⟨_, _, _, _, _, _, rfl, nofun, nofun, nofun, nofun, nofun, nofun, nofun, nofun, nofun, bd K0.out, bd K1.out, bd K2.out, below_drew1 HB.out⟩
 case hstep =>
  clear K0 K1 K2 HB
  intro i o ho f a W' hI hfi hdep K hK
  obtain ⟨s18, s19, s20, s21, s7, s8, rfl, h0, h1, h2, h3, h4, h5, n4_5, d6, d7, k0, k1, k2, hb⟩ := hI
  have HK := am hK
  clear hK
  rcases i with _ | _ | _ | _ | _ | _ | _ | _ | i
  all_goals (first | obtain rfl := Option.some.inj ho | skip)
  all_goals have A := am (And.intro h0 (And.intro h1 (And.intro h2 (And.intro h3 (And.intro h4 (And.intro h5 (And.intro n4_5 (And.intro d6 d7))))))))
  all_goals clear h0 h1 h2 h3 h4 h5 n4_5 d6 d7
  ·clear hdep
   obtain ⟨p0, p1, p2, p3, p4, p5⟩ := RegInv.cells6 k0
   go_wp2_with fail
   obtain ⟨h0, h1, h2, h3, h4, h5, n4_5, d6, d7⟩ := A.out
   exact HK.out _ _ ⟨_, _, _, _, _, _, rfl, (fun _ => rfl), h1, h2, h3, h4, h5, n4_5, d6, d7, k0, k1, k2, hb⟩
  ·obtain ⟨h0, h1, h2, h3, h4, h5, n4_5, d6, d7⟩ := A.out
   obtain rfl := h0 (hdep { on := 0, ground := .data } (by simp) rfl)
   clear hdep h0 h1 h2 h3 h4 h5 n4_5 d6 d7
   go_wp2_with (go_at_call 52; refine (HS.out _ _ _ _ _ _ _).mono ?_; rintro e w2 ⟨rfl, hb2⟩; have HB2 := am hb2; clear hb2)
   obtain ⟨h0, h1, h2, h3, h4, h5, n4_5, d6, d7⟩ := A.out
   have hb2 := HB2.out
   exact HK.out _ _ ⟨_, _, _, _, _, _, rfl, (fun _ => rfl), (fun _ => rfl), h2, h3, (fun h => by obtain ⟨g', f1, f2, f3⟩ := h4 h; exact ⟨g', f1, f2, bb f3 hb2⟩), (fun h => by obtain ⟨g', f1, f2, f3⟩ := h5 h; exact ⟨g', f1, f2, bb f3 hb2⟩), n4_5, d6, d7, bb k0 hb2, bb k1 hb2, bb k2 hb2, below_step hb hb2⟩
  ·clear hdep
   obtain ⟨p0, p1, p2, p3, p4, p5⟩ := RegInv.cells6 k1
   go_wp2_with fail
   obtain ⟨h0, h1, h2, h3, h4, h5, n4_5, d6, d7⟩ := A.out
   exact HK.out _ _ ⟨_, _, _, _, _, _, rfl, h0, h1, (fun _ => rfl), h3, h4, h5, n4_5, d6, d7, k0, k1, k2, hb⟩
  ·obtain ⟨h0, h1, h2, h3, h4, h5, n4_5, d6, d7⟩ := A.out
   obtain rfl := h2 (hdep { on := 2, ground := .data } (by simp) rfl)
   clear hdep h0 h1 h2 h3 h4 h5 n4_5 d6 d7
   go_wp2_with (go_at_call 52; refine (HS.out _ _ _ _ _ _ _).mono ?_; rintro e w2 ⟨rfl, hb2⟩; have HB2 := am hb2; clear hb2)
   obtain ⟨h0, h1, h2, h3, h4, h5, n4_5, d6, d7⟩ := A.out
   have hb2 := HB2.out
   exact HK.out _ _ ⟨_, _, _, _, _, _, rfl, h0, h1, (fun _ => rfl), (fun _ => rfl), (fun h => by obtain ⟨g', f1, f2, f3⟩ := h4 h; exact ⟨g', f1, f2, bb f3 hb2⟩), (fun h => by obtain ⟨g', f1, f2, f3⟩ := h5 h; exact ⟨g', f1, f2, bb f3 hb2⟩), n4_5, d6, d7, bb k0 hb2, bb k1 hb2, bb k2 hb2, below_step hb hb2⟩
  ·clear hdep
   have sz := blk_lt k2
   go_wp2_with fail
   obtain ⟨h0, h1, h2, h3, h4, h5, n4_5, d6, d7⟩ := A.out
   have hf : ¬ f 6 = true := fun h => by rw [d6 h] at hfi; cases hfi
   refine HK.out _ _ ⟨_, _, _, _, _, _, rfl, h0, h1, h2, h3, (fun _ => ⟨_, rfl, by omega, ?_⟩), (fun h => by obtain ⟨g', f1, f2, f3⟩ := h5 h; exact ⟨g', f1, f2, ba f3 _⟩), (fun he h1 h2 => by obtain ⟨g, e1, e2, e3⟩ := h5 h2; have := blk_lt e3; rw [e1] at he; cases he; omega), (fun _ => rfl), d7, ba k0 _, ba k1 _, ba k2 _, wa hb _⟩
   show (W'.alloc _).heap[_]? = some (Obj.cells (if f 6 = true then _ else _) 73 (0, 0))
   rw [if_neg hf]
   exact blk_new W' _
  ·clear hdep
   have sz := blk_lt k2
   go_wp2_with fail
   obtain ⟨h0, h1, h2, h3, h4, h5, n4_5, d6, d7⟩ := A.out
   have hf : ¬ f 7 = true := fun h => by rw [d7 h] at hfi; cases hfi
   refine HK.out _ _ ⟨_, _, _, _, _, _, rfl, h0, h1, h2, h3, (fun h => by obtain ⟨g', f1, f2, f3⟩ := h4 h; exact ⟨g', f1, f2, ba f3 _⟩), (fun _ => ⟨_, rfl, by omega, ?_⟩), (fun he h1 h2 => by obtain ⟨g, e1, e2, e3⟩ := h4 h1; have := blk_lt e3; rw [e1] at he; cases he; omega), d6, (fun _ => rfl), ba k0 _, ba k1 _, ba k2 _, wa hb _⟩
   show (W'.alloc _).heap[_]? = some (Obj.cells (if f 7 = true then _ else _) 73 (0, 0))
   rw [if_neg hf]
   exact blk_new W' _
  ·obtain ⟨h0, h1, h2, h3, h4, h5, n4_5, d6, d7⟩ := A.out
   have d0 := hdep { on := 4, ground := .data } (by simp) rfl
   obtain rfl := h1 (hdep { on := 1, ground := .data } (by simp) rfl)
   obtain ⟨g, rfl, e2, e3⟩ := h4 d0
   rw [if_neg (by rw [hfi]; decide)] at e3
   clear hdep h0 h1 h2 h3 h4 h5 n4_5 d6 d7
   have D0 := am d0
   clear d0
   obtain ⟨p0, p1, p2, p3, p4, p5⟩ := RegInv.cells6 e3
   obtain ⟨q0, q1, q2, q3, q4, q5⟩ := RegInv.free6 e3
   go_wp2_with fail
   obtain ⟨h0, h1, h2, h3, h4, h5, n4_5, d6, d7⟩ := A.out
   exact HK.out _ (RegInv.set6 W' g _ _ _ _ _ _) ⟨_, _, _, _, _, _, rfl, h0, (fun _ => rfl), h2, h3, (fun _ => ⟨g, rfl, e2, RegInv.set6_at e3⟩), (fun h => by obtain ⟨g', f1, f2, f3⟩ := h5 h; exact ⟨g', f1, f2, RegInv.set6_far f3 (fun e => n4_5 (by rw [f1, e]) D0.out h)⟩), n4_5, (fun _ => D0.out), d7, RegInv.set6_far k0 (by omega), RegInv.set6_far k1 (by omega), RegInv.set6_far k2 (by omega), RegInv.set6_below hb (by omega)⟩
  ·obtain ⟨h0, h1, h2, h3, h4, h5, n4_5, d6, d7⟩ := A.out
   have d0 := hdep { on := 5, ground := .data } (by simp) rfl
   obtain rfl := h3 (hdep { on := 3, ground := .data } (by simp) rfl)
   obtain ⟨g, rfl, e2, e3⟩ := h5 d0
   rw [if_neg (by rw [hfi]; decide)] at e3
   clear hdep h0 h1 h2 h3 h4 h5 n4_5 d6 d7
   have D0 := am d0
   clear d0
   obtain ⟨p0, p1, p2, p3, p4, p5⟩ := RegInv.cells6 e3
   obtain ⟨q0, q1, q2, q3, q4, q5⟩ := RegInv.free6 e3
   go_wp2_with fail
   obtain ⟨h0, h1, h2, h3, h4, h5, n4_5, d6, d7⟩ := A.out
   exact HK.out _ (RegInv.set6 W' g _ _ _ _ _ _) ⟨_, _, _, _, _, _, rfl, h0, h1, h2, (fun _ => rfl), (fun h => by obtain ⟨g', f1, f2, f3⟩ := h4 h; exact ⟨g', f1, f2, RegInv.set6_far f3 (fun e => n4_5 (by rw [f1, e]) h D0.out)⟩), (fun _ => ⟨g, rfl, e2, RegInv.set6_at e3⟩), n4_5, d6, (fun _ => D0.out), RegInv.set6_far k0 (by omega), RegInv.set6_far k1 (by omega), RegInv.set6_far k2 (by omega), RegInv.set6_below hb (by omega)⟩
  simp at ho
 case hend =>
  clear K0 K1 K2 HB
  intro f a W' hI hall
  obtain ⟨s18, s19, s20, s21, s7, s8, rfl, h0, h1, h2, h3, h4, h5, n4_5, d6, d7, k0, k1, k2, hb⟩ := hI
  obtain ⟨g7, rfl, l7, b7⟩ := h4 (hall 4 (by decide))
  rw [if_pos (hall 6 (by decide))] at b7
  obtain ⟨g8, rfl, l8, b8⟩ := h5 (hall 5 (by decide))
  rw [if_pos (hall 7 (by decide))] at b8
  have ne7_8 : g7 ≠ g8 := fun e => n4_5 (by rw [e]) (hall 4 (by decide)) (hall 5 (by decide))
  obtain rfl := h0 (hall 0 (by decide))
  obtain rfl := h1 (hall 1 (by decide))
  obtain rfl := h2 (hall 2 (by decide))
  obtain rfl := h3 (hall 3 (by decide))
  clear h0 h1 h2 h3 h4 h5 n4_5 d6 d7 hall
  dsimp only
  have NE7_8 := am ne7_8
  have B7 := am b7
  have B8 := am b8
  have K0 := am k0
  have K1 := am k1
  have K2 := am k2
  have HB := am hb
  clear hb b7 b8 k0 k1 k2 ne7_8
  obtain ⟨j0, m0⟩ : ∃ j_ : Int, (if a1_0 < a0_0 then a1_0 else a0_0) = j_ := ⟨_, rfl⟩
  obtain ⟨j1, m1⟩ : ∃ j_ : Int, (if a0_3 < a1_3 then a1_3 else a0_3) = j_ := ⟨_, rfl⟩
  obtain ⟨j2, m2⟩ : ∃ j_ : Int, (if a1_1 < a0_1 then a1_1 else a0_1) = j_ := ⟨_, rfl⟩
  obtain ⟨j3, m3⟩ : ∃ j_ : Int, (if a0_4 < a1_4 then a1_4 else a0_4) = j_ := ⟨_, rfl⟩
  obtain ⟨j4, m4⟩ : ∃ j_ : Int, (if a1_2 < a0_2 then a1_2 else a0_2) = j_ := ⟨_, rfl⟩
  obtain ⟨j5, m5⟩ : ∃ j_ : Int, (if a0_5 < a1_5 then a1_5 else a0_5) = j_ := ⟨_, rfl⟩
  have lg : w.heap.size ≤ g7 := by omega
  go_wp2
  refine wp_loop_rounds 9 ?_
  rw [rounds_succ]
  obtain ⟨p0, p1, p2, p3, p4, p5⟩ := RegInv.cells6 B7.out
  obtain ⟨q0, q1, q2, q3, q4, q5⟩ := RegInv.cells6 B8.out
  go_wp2
  go_still_tail 21, (by kernel_rfl)
  clear p0 p1 p2 p3 p4 p5 q0 q1 q2 q3 q4 q5
  replace B7 := am (bd B7.out)
  replace B8 := am (bd B8.out)
  replace K2 := am (bd K2.out)
  replace HB := am (below_drew1 HB.out)
  change wpList _ _ _ _ _ W'.drew
  generalize W'.drew = V1 at B7 B8 K2 HB ⊢
  obtain ⟨p0, p1, p2, p3, p4, p5⟩ := RegInv.cells6 B7.out
  obtain ⟨r0, r1, r2, r3, r4, r5⟩ := RegInv.free6 B7.out
  go_wp2
  rw [rounds_succ]
  clear p0 p1 p2 p3 p4 p5 r0 r1 r2 r3 r4 r5
  replace B7 := am (blk_put (blk_put B7.out 0 (.int .i64 j0) rfl) 1 (.int .i64 j1) rfl)
  replace B8 := am (blk_far (p := ⟨g7, 1, none⟩) (blk_far (p := ⟨g7, 0, none⟩) B8.out (Ne.symm NE7_8.out) (.int .i64 j0)) (Ne.symm NE7_8.out) (.int .i64 j1))
  replace K2 := am (blk_far (p := ⟨g7, 1, none⟩) (blk_far (p := ⟨g7, 0, none⟩) K2.out (by simp; omega) (.int .i64 j0)) (by simp; omega) (.int .i64 j1))
  replace HB := am (below_set (j := 1) (v := .int .i64 j1) (below_set (j := 0) (v := .int .i64 j0) HB.out lg) lg)
  generalize (V1.setCell ⟨g7, 0, none⟩ (.int .i64 j0)).setCell ⟨g7, 1, none⟩ (.int .i64 j1) = W1 at B7 B8 K2 HB ⊢
  obtain ⟨p0, p1, p2, p3, p4, p5⟩ := RegInv.cells6 B7.out
  obtain ⟨q0, q1, q2, q3, q4, q5⟩ := RegInv.cells6 B8.out
  go_wp2
  go_still_tail 21, (by kernel_rfl)
  clear p0 p1 p2 p3 p4 p5 q0 q1 q2 q3 q4 q5
  replace B7 := am (bd B7.out)
  replace B8 := am (bd B8.out)
  replace K2 := am (bd K2.out)
  replace HB := am (below_drew1 HB.out)
  change wpList _ _ _ _ _ W1.drew
  generalize W1.drew = V2 at B7 B8 K2 HB ⊢
  obtain ⟨p0, p1, p2, p3, p4, p5⟩ := RegInv.cells6 B7.out
  obtain ⟨r0, r1, r2, r3, r4, r5⟩ := RegInv.free6 B7.out
  go_wp2
  rw [rounds_succ]
  clear p0 p1 p2 p3 p4 p5 r0 r1 r2 r3 r4 r5
  replace B7 := am (blk_put (blk_put B7.out 2 (.int .i64 j2) rfl) 3 (.int .i64 j3) rfl)
  replace B8 := am (blk_far (p := ⟨g7, 3, none⟩) (blk_far (p := ⟨g7, 2, none⟩) B8.out (Ne.symm NE7_8.out) (.int .i64 j2)) (Ne.symm NE7_8.out) (.int .i64 j3))
  replace K2 := am (blk_far (p := ⟨g7, 3, none⟩) (blk_far (p := ⟨g7, 2, none⟩) K2.out (by simp; omega) (.int .i64 j2)) (by simp; omega) (.int .i64 j3))
  replace HB := am (below_set (j := 3) (v := .int .i64 j3) (below_set (j := 2) (v := .int .i64 j2) HB.out lg) lg)
  generalize (V2.setCell ⟨g7, 2, none⟩ (.int .i64 j2)).setCell ⟨g7, 3, none⟩ (.int .i64 j3) = W2 at B7 B8 K2 HB ⊢
  obtain ⟨p0, p1, p2, p3, p4, p5⟩ := RegInv.cells6 B7.out
  obtain ⟨q0, q1, q2, q3, q4, q5⟩ := RegInv.cells6 B8.out
  go_wp2
  go_still_tail 21, (by kernel_rfl)
  clear p0 p1 p2 p3 p4 p5 q0 q1 q2 q3 q4 q5
  replace B7 := am (bd B7.out)
  replace B8 := am (bd B8.out)
  replace K2 := am (bd K2.out)
  replace HB := am (below_drew1 HB.out)
  change wpList _ _ _ _ _ W2.drew
  generalize W2.drew = V3 at B7 B8 K2 HB ⊢
  obtain ⟨p0, p1, p2, p3, p4, p5⟩ := RegInv.cells6 B7.out
  obtain ⟨r0, r1, r2, r3, r4, r5⟩ := RegInv.free6 B7.out
  go_wp2
  rw [rounds_succ]
  clear p0 p1 p2 p3 p4 p5 r0 r1 r2 r3 r4 r5
  replace B7 := am (blk_put (blk_put B7.out 4 (.int .i64 j4) rfl) 5 (.int .i64 j5) rfl)
  replace B8 := am (blk_far (p := ⟨g7, 5, none⟩) (blk_far (p := ⟨g7, 4, none⟩) B8.out (Ne.symm NE7_8.out) (.int .i64 j4)) (Ne.symm NE7_8.out) (.int .i64 j5))
  replace K2 := am (blk_far (p := ⟨g7, 5, none⟩) (blk_far (p := ⟨g7, 4, none⟩) K2.out (by simp; omega) (.int .i64 j4)) (by simp; omega) (.int .i64 j5))
  replace HB := am (below_set (j := 5) (v := .int .i64 j5) (below_set (j := 4) (v := .int .i64 j4) HB.out lg) lg)
  generalize (V3.setCell ⟨g7, 4, none⟩ (.int .i64 j4)).setCell ⟨g7, 5, none⟩ (.int .i64 j5) = W3 at B7 B8 K2 HB ⊢
  obtain ⟨p0, p1, p2, p3, p4, p5⟩ := RegInv.cells6 B7.out
  obtain ⟨q0, q1, q2, q3, q4, q5⟩ := RegInv.cells6 K2.out
  obtain ⟨r0, r1, r2, r3, r4, r5⟩ := RegInv.free6 K2.out
  have HJ := am (fun W => box_join.calls j0 j1 j2 j3 j4 j5 j0 j2 j4 j1 j3 j5 W rfl)
  go_wp2_with (go_at_call 54; refine (HJ.out _).mono ?_; rintro e w5 ⟨rfl, hb⟩; replace K2 := am (bb K2.out hb); replace HB := am (below_step HB.out hb); obtain ⟨q0, q1, q2, q3, q4, q5⟩ := RegInv.cells6 K2.out; obtain ⟨r0, r1, r2, r3, r4, r5⟩ := RegInv.free6 K2.out; clear hb)
  have K3 := RegInv.set6_at (a' := .int .i64 j0) (b' := .int .i64 j2) (c' := .int .i64 j4) (d' := .int .i64 j1) (e' := .int .i64 j3) (f' := .int .i64 j5) K2.out
  refine bodyPost_ret (results_ct rfl _ _ (w.heap.size + 1 + 1) 25 #[.int .i64 j0, .int .i64 j2, .int .i64 j4, .int .i64 j1, .int .i64 j3, .int .i64 j5] (0, 0) _ rfl K3 Try.underlying25 rfl (by kernel_rfl)) rfl ?_
  exact ⟨by rw [← m0, ← m1, ← m2, ← m3, ← m4, ← m5]; rfl, RegInv.set6_below HB.out (by omega)⟩
end

end Go.Proofs.Ytmmdikhmlmoolaa.QA
