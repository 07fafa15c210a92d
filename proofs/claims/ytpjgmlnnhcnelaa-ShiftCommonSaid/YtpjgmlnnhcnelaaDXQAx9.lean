import Derived.Test.YtpjgmlnnhcnelaaDXQAx0
namespace Go.Proofs.Ytpjgmlnnhcnelaa.QA
open Go.RowKit Go.Proofs.YtpjgmlnnhcnelaaW.PrintWords Go.Proofs.YtpjgmlnnhcnelaaW.PrintLast Go.Proofs.YtpjgmlnnhcnelaaW.PrintMore
open Go.Proofs.YtpjgmlnnhcnelaaW.PrintWords renaming blk_drewN → bN, blk_drew → bd, blk_alloc → ba, blk_frozen → bf, blk_cell → bc, cell_far → cf, blk_far → bF, blk_put → bp
open Aside0 renaming mk → am
open World renaming block_lt_of_cell? → bq
attribute [local go_sem] max2_int min2_int max_two min_two max_three min_three max_four min_four
set_option linter.unusedVariables false
set_option linter.unusedSimpArgs false

mutual
def r_Check.j0 : Nat → Bool → List (S54) → List Int → Option (Int)
 | 0, _, _, _ => none
 | k + 1, x19, x154000, x154001 => if x19 = true then (some 7) else (r_Check.l0 k 0 x154000 x154001)
def r_Check.l0 : Nat → Int → List (S54) → List Int → Option (Int)
 | 0, _, _, _ => none
 | k + 1, x3, x154000, x154001 => if x3 < (x154000.length : Int) then (if 0 ≤ x3 then (if ((rd_T54 x154000 x3).f0) < 1 then (r_Check.j2 k x3 true x154000 x154001) else (if ((rd_T54 x154000 x3).f0) > 7 then (r_Check.j2 k x3 true x154000 x154001) else (if ((rd_T54 x154000 x3).f1) < 0 then (r_Check.j2 k x3 true x154000 x154001) else (if ((rd_T54 x154000 x3).f1) ≥ ((rd_T54 x154000 x3).f2) then (r_Check.j2 k x3 true x154000 x154001) else (r_Check.j2 k x3 (decide (((rd_T54 x154000 x3).f2) > 1440)) x154000 x154001))))) else (none)) else (r_Check.l1 k 0 x154000 x154001)
def r_Check.j2 : Nat → Int → Bool → List (S54) → List Int → Option (Int)
 | 0, _, _, _, _ => none
 | k + 1, x3, x56, x154000, x154001 => if x56 = true then (some 6) else (r_Check.l0 k (wrap64 (x3 + 1)) x154000 x154001)
def r_Check.l1 : Nat → Int → List (S54) → List Int → Option (Int)
 | 0, _, _, _ => none
 | k + 1, x5, x154000, x154001 => if x5 < (x154001.length : Int) then (if 0 ≤ x5 then (if (rd x154001 x5) < 0 then (some 6) else (if (rd x154001 x5) ≥ 10000 then (some 6) else (r_Check.l1 k (wrap64 (x5 + 1)) x154000 x154001))) else (none)) else (r_Check.l2 k 1 x154000 x154001)
def r_Check.l2 : Nat → Int → List (S54) → List Int → Option (Int)
 | 0, _, _, _ => none
 | k + 1, x6, x154000, x154001 => if x6 < (x154000.length : Int) then (if 0 ≤ (wrap64 (x6 - 1)) then (if (wrap64 (x6 - 1)) < (x154000.length : Int) then (if 0 ≤ x6 then (if ((rd_T54 x154000 (wrap64 (x6 - 1))).f0) > ((rd_T54 x154000 x6).f0) then (r_Check.j5 k x6 true x154000 x154001) else (if ((rd_T54 x154000 (wrap64 (x6 - 1))).f0) = ((rd_T54 x154000 x6).f0) then (r_Check.j5 k x6 (decide (((rd_T54 x154000 (wrap64 (x6 - 1))).f2) > ((rd_T54 x154000 x6).f1))) x154000 x154001) else (r_Check.j5 k x6 false x154000 x154001))) else (none)) else (none)) else (none)) else (r_Check.l3 k 1 x154000 x154001)
def r_Check.j5 : Nat → Int → Bool → List (S54) → List Int → Option (Int)
 | 0, _, _, _, _ => none
 | k + 1, x6, x114, x154000, x154001 => if x114 = true then (some 5) else (r_Check.l2 k (wrap64 (x6 + 1)) x154000 x154001)
def r_Check.l3 : Nat → Int → List (S54) → List Int → Option (Int)
 | 0, _, _, _ => none
 | k + 1, x9, x154000, x154001 => if x9 < (x154001.length : Int) then (if 0 ≤ (wrap64 (x9 - 1)) then (if (wrap64 (x9 - 1)) < (x154001.length : Int) then (if 0 ≤ x9 then (if (rd x154001 (wrap64 (x9 - 1))) ≥ (rd x154001 x9) then (some 5) else (r_Check.l3 k (wrap64 (x9 + 1)) x154000 x154001)) else (none)) else (none)) else (none)) else (some 0)
end
def r_Check.f (k : Nat) (l0_0 : List (S54)) (l0_1 : List Int) : Option (Int) := if (l0_0.length : Int) > 64 then (r_Check.j0 k true l0_0 l0_1) else (r_Check.j0 k (decide ((l0_1.length : Int) > 64)) l0_0 l0_1)
def r_Check.T17 : Bool × List (List Nat × List Nat) := (true, [([], []), ([0], [0]), ([], []), ([2], [2]), ([1, 3], [1, 3]), ([4], [4]), ([], []), ([6], [6]), ([], []), ([7, 8], [7, 8]), ([9], [9]), ([], []), ([], []), ([11, 5, 0, 1, 2, 3, 4, 5, 11, 12], [5, 11]), ([12, 10, 13, 0, 1, 2, 3, 4, 5, 6, 7, 8, 9, 10, 11, 12, 13], [10, 12])])
def r_Check.B17 : List Nat := [0, 1, 0, 4, 15, 31, 0, 64, 0, 448, 960, 0, 0, 6207, 16383]
theorem r_Check.tab17 : rtab .any (opsOf Try.f16 17) = r_Check.T17 := by kernel_rfl
theorem r_Check.bits17 : waitsOk r_Check.T17.2 r_Check.B17 = true := by kernel_rfl
def r_Check.T23 : Bool × List (List Nat × List Nat) := (true, [([], []), ([0], [0]), ([], []), ([2], [2]), ([1, 3], [1, 3]), ([4], [4]), ([], []), ([6], [6]), ([], []), ([7, 8], [7, 8]), ([9], [9]), ([5, 10], [5, 10])])
def r_Check.B23 : List Nat := [0, 1, 0, 4, 15, 31, 0, 64, 0, 448, 960, 2047]
theorem r_Check.tab23 : rtab .any (opsOf Try.f16 23) = r_Check.T23 := by kernel_rfl
theorem r_Check.bits23 : waitsOk r_Check.T23.2 r_Check.B23 = true := by kernel_rfl
set_option maxHeartbeats 8000000 in
set_option maxRecDepth 100000 in
theorem r_Check.calls (k : Nat) (A0_0 : Option Addr) (c0_0 : Nat) (l0_0 : List (S54)) (A0_1 : Option Addr) (c0_1 : Nat) (l0_1 : List Int) (r : Int) (w : World) (hr0_0 : Kd.C k54 w A0_0 l0_0.length l0_0) (hc0_0 : l0_0.length ≤ c0_0) (hr0_1 : Kd.C (Kd.int .i64) w A0_1 l0_1.length l0_1) (hc0_1 : l0_1.length ≤ c0_1) (h : r_Check.f k l0_0 l0_1 = some r) :
  Calls Try.prog 16 #[.agg #[.slice A0_0 l0_0.length c0_0, .slice A0_1 l0_1.length c0_1]] w fun e w' => e = .returned (.int .i64 r) ∧ Below w.heap.size w w' := by
 have hu25 := Try.underlying25
 have hu54 := Try.underlying54
 have HR0_0 := am hr0_0
 have HC0_0 := am hc0_0
 clear hr0_0 hc0_0
 have HR0_1 := am hr0_1
 have HC0_1 := am hc0_1
 clear hr0_1 hc0_1
 have HB := am (Below.refl w.heap.size w)
 have H : (if (l0_0.length : Int) > 64 then (r_Check.j0 k true l0_0 l0_1) else (r_Check.j0 k (decide ((l0_1.length : Int) > 64)) l0_0 l0_1)) = some r := h
 clear h
 have HC2 := am H
 clear H
 go_enter Try.func16, Try.ntmps16
 go_upto_region 1 with (first | ((with_reducible refine gate_dst (N := 1) rfl ?_); (try (refine gate_guard (by rfl) ?_; dsimp only)); refine box_event ?hg (N := 1) ?hd (cs := #[.slice A0_0 l0_0.length c0_0, .slice A0_1 l0_1.length c0_1]) (t := 25) ?hr ?_; (case hd | hg => rfl); (case hr => first | (go_simp; done) | (go_simp; rfl)); intro gb153 hg w3 hbox hb; have BK153 := am hbox; have GW153 := sG HB hg; have GE153 := sG HB hg; replace HB := bS HB hb; clear hb hbox hg))
 (try simp only [Act.put, psl])
 go_cut [19] (fun v19 wc => ∃ (kq : Nat) (x19_1 : Bool), v19 = .bool x19_1 ∧ Aside0 (r_Check.j0 kq x19_1 l0_0 l0_1 = some r) ∧ Aside0 (kq ≤ k) ∧ Aside0 (wc.heap[gb153]? = some (.cells #[(.slice A0_0 l0_0.length c0_0), (.slice A0_1 l0_1.length c0_1)] 25 (0, 0))) ∧ Aside0 (Below w.heap.size w wc))
 case first =>
  have H := HC2.out
  clear HC2
  by_cases c4 : (l0_0.length : Int) > 64
  ·rw [if_pos c4] at H
   have c4b0 : decide (64 < (l0_0.length : Int)) = true := decide_eq_true c4
   have c4b1 : decide (64 < l0_0.length) = true := decide_eq_true (by omega)
   clear c4
   (first | rw [c4b0] | (simp only [i64_w, i32_w]; rw [c4b0]) | skip)
   have H' := am H
   clear H
   have := yC1 BK153
   have := kC1 BK153
   have := bf BK153.out 0
   have := bf BK153.out 1
   go_wp2
   go_meet
   case rel => exact ⟨_, (true), sqD, H', ⟨by first | omega | exact Nat.le_refl _⟩, ⟨fb BK153.out⟩, ⟨fW HB.out⟩⟩
  rw [if_neg c4] at H
  have c4b0 : decide (64 < (l0_0.length : Int)) = false := decide_eq_false c4
  have c4b1 : decide (64 < l0_0.length) = false := decide_eq_false (by omega)
  clear c4
  (first | rw [c4b0] | (simp only [i64_w, i32_w]; rw [c4b0]) | skip)
  have H' := am H
  clear H
  have := yC1 BK153
  have := kC1 BK153
  have := bf BK153.out 0
  have := bf BK153.out 1
  go_wp2
  go_meet
  case rel => exact ⟨_, (decide ((l0_1.length : Int) > 64)), sqD, H', ⟨by first | omega | exact Nat.le_refl _⟩, ⟨fb BK153.out⟩, ⟨fW HB.out⟩⟩
 case rest =>
  clear HC2
  try clear c1;try clear p2;try clear c4;try clear c4b0;try clear c4b1
  obtain ⟨kq, x19_1, rfl, HA, HJ1, BK153, HB⟩ := hcut
  cases kq with
  | zero => exact absurd HA.out (by simp [r_Check.j0])
  | succ kj1 =>
   have H := HA.out
   clear HA
   simp only [r_Check.j0] at H
   by_cases c7 : x19_1 = true
   ·subst c7
    have H1 : (some 7) = some r := by rw [if_pos rfl] at H; exact H
    clear H
    have H := H1
    clear H1
    obtain rfl := Option.some.inj H
    go_wp2
    go_ret
    exact ⟨sqE, fW HB.out⟩
   ·replace c7 := Bool.eq_false_iff.mpr c7
    subst c7
    have H1 : (r_Check.l0 kj1 0 l0_0 l0_1) = some r := by rw [if_neg (show ¬ (false = true) by decide)] at H; exact H
    clear H
    have H := H1
    clear H1
    have H' := am H
    clear H
    go_wp2
    go_loopg [3] kj1 (fun kq v3 w' => ∃ (x3_2 : Int), v3 = .int .i64 x3_2 ∧ Aside0 (r_Check.l0 kq x3_2 l0_0 l0_1 = some r) ∧ Aside0 (kq ≤ kj1) ∧ Aside0 (w'.heap[gb153]? = some (.cells #[(.slice A0_0 l0_0.length c0_0), (.slice A0_1 l0_1.length c0_1)] 25 (0, 0))) ∧ Aside0 (Below w.heap.size w w'))
    case atStart => exact ⟨(0), sqD, H', ⟨Nat.le_refl _⟩, ⟨fb BK153.out⟩, ⟨fW HB.out⟩⟩
    case round =>
     clear H'
     try clear c1;try clear p2;try clear c4;try clear c4b0;try clear c4b1;try clear c7;try clear p2
     obtain ⟨x3_2, rfl, HA, HK2, BK153, HB⟩ := hrel
     cases gk with
     | zero => exact absurd HA.out (by simp [r_Check.l0])
     | succ k2 =>
      have H := HA.out
      clear HA
      simp only [r_Check.l0] at H
      by_cases c8 : x3_2 < (l0_0.length : Int)
      ·rw [if_pos c8] at H
       have c8b0 : decide (x3_2 < (l0_0.length : Int)) = true := decide_eq_true c8
       clear c8
       by_cases c9 : 0 ≤ x3_2
       rotate_left
       ·rw [if_neg c9] at H
        exact absurd H (by simp)
       rw [if_pos c9] at H
       have c9b0 : decide (0 ≤ x3_2) = true := decide_eq_true c9
       clear c9
       have HC10 := am H
       clear H
       have := yC1 BK153
       have := kC1 BK153
       have := bf BK153.out 0
       have := bf BK153.out 1
       have p154 : 0 ≤ (x3_2 : Int) := of_decide_eq_true (by assumption)
       have q154 : x3_2 < (l0_0.length : Int) := of_decide_eq_true (by assumption)
       obtain ⟨ad154, e154, hx154_0, hx154_1, hx154_2⟩ := at_T54 HR0_0.out x3_2 p154 q154
       cases e154
       replace hx154_0 := cl HB hx154_0
       replace hx154_1 := cl HB hx154_1
       replace hx154_2 := cl HB hx154_2
       replace p154 := eq_true p154
       replace q154 := eq_true q154
       go_upto_region 7 with (first | ((with_reducible refine gate_dst (N := 4) rfl ?_); (try (refine gate_guard (by rfl) ?_; dsimp only)); refine box_event ?hg (N := 4) ?hd (cs := #[.int .i64 0, .int .i64 0, .int .i64 0]) (t := 54) ?hr ?_; (case hd | hg => rfl); (case hr => first | (go_simp; done) | (go_simp; rfl)); intro gb155 hg w12 hbox hb; have BK155 := am hbox; have GW155 := sG HB hg; have GE155 := sG HB hg; replace HB := bS HB hb; have NB153_155 := nL BK153 hg; have NB155_153 := nG BK153 hg; replace BK153 := bB BK153 hb; clear hb hbox hg; have hnb13 := NB155_153.out; have hnc13 := NB153_155.out; obtain ⟨_, _, _, _, _, _⟩ := zC3 BK155))
       (try simp only [Act.put, psl])
       go_cut [56] (fun v56 wc => ∃ (kq : Nat) (x56_9 : Bool), v56 = .bool x56_9 ∧ Aside0 (r_Check.j2 kq x3_2 x56_9 l0_0 l0_1 = some r) ∧ Aside0 (kq ≤ k2) ∧ Aside0 (wc.heap[gb153]? = some (.cells #[(.slice (some ad154) l0_0.length c0_0), (.slice A0_1 l0_1.length c0_1)] 25 (0, 0))) ∧ Aside0 (wc.heap[gb155]? = some (.cells #[.int .i64 ((rd_T54 l0_0 x3_2).f0), .int .i64 ((rd_T54 l0_0 x3_2).f1), .int .i64 ((rd_T54 l0_0 x3_2).f2)] 54 (0, 0))) ∧ Aside0 (Below w.heap.size w wc))
       case first =>
        have H := HC10.out
        clear HC10
        by_cases c15 : ((rd_T54 l0_0 x3_2).f0) < 1
        ·rw [if_pos c15] at H
         have c15b0 : decide (((rd_T54 l0_0 x3_2).f0) < 1) = true := decide_eq_true c15
         clear c15
         (first | rw [c15b0] | (simp only [i64_w, i32_w]; rw [c15b0]) | skip)
         have H' := am H
         clear H
         have hnb16 := NB155_153.out
         have hnc16 := NB153_155.out
         have := yC1 BK155
         have := kC1 BK155
         have := kC2 BK155
         have := bf BK155.out 0
         have := bf BK155.out 1
         have := bf BK155.out 2
         go_wp2
         go_meet
         case rel => exact ⟨_, (true), sqD, H', ⟨by have := HJ1.out; have := HK2.out; first | omega | exact Nat.le_refl _⟩, ⟨by (with_reducible repeat first | apply bN | apply bd | apply ba); refine bF ?_ NB153_155.out _; (with_reducible repeat first | apply bN | apply bd | apply ba); refine bF ?_ NB153_155.out _; (with_reducible repeat first | apply bN | apply bd | apply ba); refine bF ?_ NB153_155.out _; (with_reducible repeat first | apply bN | apply bd | apply ba); exact BK153.out⟩, ⟨by (with_reducible repeat first | apply bN | apply bd | apply ba); refine bp (cs := #[.int .i64 ((rd_T54 l0_0 x3_2).f0), .int .i64 ((rd_T54 l0_0 x3_2).f1), .int .i64 0]) ?_ 2 _ rfl; (with_reducible repeat first | apply bN | apply bd | apply ba); refine bp (cs := #[.int .i64 ((rd_T54 l0_0 x3_2).f0), .int .i64 0, .int .i64 0]) ?_ 1 _ rfl; (with_reducible repeat first | apply bN | apply bd | apply ba); refine bp (cs := #[.int .i64 0, .int .i64 0, .int .i64 0]) ?_ 0 _ rfl; (with_reducible repeat first | apply bN | apply bd | apply ba); exact BK155.out⟩, ⟨fW HB.out⟩⟩
        rw [if_neg c15] at H
        have c15b0 : decide (((rd_T54 l0_0 x3_2).f0) < 1) = false := decide_eq_false c15
        clear c15
        (first | rw [c15b0] | (simp only [i64_w, i32_w]; rw [c15b0]) | skip)
        by_cases c18 : ((rd_T54 l0_0 x3_2).f0) > 7
        ·rw [if_pos c18] at H
         have c18b0 : decide (7 < ((rd_T54 l0_0 x3_2).f0)) = true := decide_eq_true c18
         clear c18
         have H' := am H
         clear H
         have hnb19 := NB155_153.out
         have hnc19 := NB153_155.out
         have := yC1 BK155
         have := kC1 BK155
         have := kC2 BK155
         have := bf BK155.out 0
         have := bf BK155.out 1
         have := bf BK155.out 2
         go_wp2
         go_meet
         case rel => exact ⟨_, (true), sqD, H', ⟨by have := HJ1.out; have := HK2.out; first | omega | exact Nat.le_refl _⟩, ⟨by (with_reducible repeat first | apply bN | apply bd | apply ba); refine bF ?_ NB153_155.out _; (with_reducible repeat first | apply bN | apply bd | apply ba); refine bF ?_ NB153_155.out _; (with_reducible repeat first | apply bN | apply bd | apply ba); refine bF ?_ NB153_155.out _; (with_reducible repeat first | apply bN | apply bd | apply ba); exact BK153.out⟩, ⟨by (with_reducible repeat first | apply bN | apply bd | apply ba); refine bp (cs := #[.int .i64 ((rd_T54 l0_0 x3_2).f0), .int .i64 ((rd_T54 l0_0 x3_2).f1), .int .i64 0]) ?_ 2 _ rfl; (with_reducible repeat first | apply bN | apply bd | apply ba); refine bp (cs := #[.int .i64 ((rd_T54 l0_0 x3_2).f0), .int .i64 0, .int .i64 0]) ?_ 1 _ rfl; (with_reducible repeat first | apply bN | apply bd | apply ba); refine bp (cs := #[.int .i64 0, .int .i64 0, .int .i64 0]) ?_ 0 _ rfl; (with_reducible repeat first | apply bN | apply bd | apply ba); exact BK155.out⟩, ⟨fW HB.out⟩⟩
        rw [if_neg c18] at H
        have c18b0 : decide (7 < ((rd_T54 l0_0 x3_2).f0)) = false := decide_eq_false c18
        clear c18
        by_cases c21 : ((rd_T54 l0_0 x3_2).f1) < 0
        ·rw [if_pos c21] at H
         have c21b0 : decide (((rd_T54 l0_0 x3_2).f1) < 0) = true := decide_eq_true c21
         clear c21
         have H' := am H
         clear H
         have hnb22 := NB155_153.out
         have hnc22 := NB153_155.out
         have := yC1 BK155
         have := kC1 BK155
         have := kC2 BK155
         have := bf BK155.out 0
         have := bf BK155.out 1
         have := bf BK155.out 2
         go_wp2
         go_meet
         case rel => exact ⟨_, (true), sqD, H', ⟨by have := HJ1.out; have := HK2.out; first | omega | exact Nat.le_refl _⟩, ⟨by (with_reducible repeat first | apply bN | apply bd | apply ba); refine bF ?_ NB153_155.out _; (with_reducible repeat first | apply bN | apply bd | apply ba); refine bF ?_ NB153_155.out _; (with_reducible repeat first | apply bN | apply bd | apply ba); refine bF ?_ NB153_155.out _; (with_reducible repeat first | apply bN | apply bd | apply ba); exact BK153.out⟩, ⟨by (with_reducible repeat first | apply bN | apply bd | apply ba); refine bp (cs := #[.int .i64 ((rd_T54 l0_0 x3_2).f0), .int .i64 ((rd_T54 l0_0 x3_2).f1), .int .i64 0]) ?_ 2 _ rfl; (with_reducible repeat first | apply bN | apply bd | apply ba); refine bp (cs := #[.int .i64 ((rd_T54 l0_0 x3_2).f0), .int .i64 0, .int .i64 0]) ?_ 1 _ rfl; (with_reducible repeat first | apply bN | apply bd | apply ba); refine bp (cs := #[.int .i64 0, .int .i64 0, .int .i64 0]) ?_ 0 _ rfl; (with_reducible repeat first | apply bN | apply bd | apply ba); exact BK155.out⟩, ⟨fW HB.out⟩⟩
        rw [if_neg c21] at H
        have c21b0 : decide (((rd_T54 l0_0 x3_2).f1) < 0) = false := decide_eq_false c21
        clear c21
        by_cases c24 : ((rd_T54 l0_0 x3_2).f1) ≥ ((rd_T54 l0_0 x3_2).f2)
        ·rw [if_pos c24] at H
         have c24b0 : decide (((rd_T54 l0_0 x3_2).f2) ≤ ((rd_T54 l0_0 x3_2).f1)) = true := decide_eq_true c24
         clear c24
         have H' := am H
         clear H
         have hnb25 := NB155_153.out
         have hnc25 := NB153_155.out
         have := yC1 BK155
         have := kC1 BK155
         have := kC2 BK155
         have := bf BK155.out 0
         have := bf BK155.out 1
         have := bf BK155.out 2
         go_wp2
         go_meet
         case rel => exact ⟨_, (true), sqD, H', ⟨by have := HJ1.out; have := HK2.out; first | omega | exact Nat.le_refl _⟩, ⟨by (with_reducible repeat first | apply bN | apply bd | apply ba); refine bF ?_ NB153_155.out _; (with_reducible repeat first | apply bN | apply bd | apply ba); refine bF ?_ NB153_155.out _; (with_reducible repeat first | apply bN | apply bd | apply ba); refine bF ?_ NB153_155.out _; (with_reducible repeat first | apply bN | apply bd | apply ba); exact BK153.out⟩, ⟨by (with_reducible repeat first | apply bN | apply bd | apply ba); refine bp (cs := #[.int .i64 ((rd_T54 l0_0 x3_2).f0), .int .i64 ((rd_T54 l0_0 x3_2).f1), .int .i64 0]) ?_ 2 _ rfl; (with_reducible repeat first | apply bN | apply bd | apply ba); refine bp (cs := #[.int .i64 ((rd_T54 l0_0 x3_2).f0), .int .i64 0, .int .i64 0]) ?_ 1 _ rfl; (with_reducible repeat first | apply bN | apply bd | apply ba); refine bp (cs := #[.int .i64 0, .int .i64 0, .int .i64 0]) ?_ 0 _ rfl; (with_reducible repeat first | apply bN | apply bd | apply ba); exact BK155.out⟩, ⟨fW HB.out⟩⟩
        rw [if_neg c24] at H
        have c24b0 : decide (((rd_T54 l0_0 x3_2).f2) ≤ ((rd_T54 l0_0 x3_2).f1)) = false := decide_eq_false c24
        clear c24
        have H' := am H
        clear H
        have hnb27 := NB155_153.out
        have hnc27 := NB153_155.out
        have := yC1 BK155
        have := kC1 BK155
        have := kC2 BK155
        have := bf BK155.out 0
        have := bf BK155.out 1
        have := bf BK155.out 2
        go_wp2
        go_meet
        case rel => exact ⟨_, (decide (((rd_T54 l0_0 x3_2).f2) > 1440)), sqD, H', ⟨by have := HJ1.out; have := HK2.out; first | omega | exact Nat.le_refl _⟩, ⟨by (with_reducible repeat first | apply bN | apply bd | apply ba); refine bF ?_ NB153_155.out _; (with_reducible repeat first | apply bN | apply bd | apply ba); refine bF ?_ NB153_155.out _; (with_reducible repeat first | apply bN | apply bd | apply ba); refine bF ?_ NB153_155.out _; (with_reducible repeat first | apply bN | apply bd | apply ba); exact BK153.out⟩, ⟨by (with_reducible repeat first | apply bN | apply bd | apply ba); refine bp (cs := #[.int .i64 ((rd_T54 l0_0 x3_2).f0), .int .i64 ((rd_T54 l0_0 x3_2).f1), .int .i64 0]) ?_ 2 _ rfl; (with_reducible repeat first | apply bN | apply bd | apply ba); refine bp (cs := #[.int .i64 ((rd_T54 l0_0 x3_2).f0), .int .i64 0, .int .i64 0]) ?_ 1 _ rfl; (with_reducible repeat first | apply bN | apply bd | apply ba); refine bp (cs := #[.int .i64 0, .int .i64 0, .int .i64 0]) ?_ 0 _ rfl; (with_reducible repeat first | apply bN | apply bd | apply ba); exact BK155.out⟩, ⟨fW HB.out⟩⟩
       case rest =>
        clear HC10
        try clear c1;try clear p1;try clear q1;try clear hx1;try clear c2;try clear p2;try clear c4;try clear c4b0;try clear c4b1;try clear c7;try clear c8;try clear c8b0;try clear c9;try clear c9b0;try clear c13;try clear c15;try clear c15b0;try clear p15;try clear q15;try clear hx15;try clear c16;try clear c18;try clear c18b0;try clear c19;try clear c21;try clear c21b0;try clear c22;try clear c24;try clear c24b0;try clear c25;try clear c27;try clear hx154_0;try clear hx154_1;try clear hx154_2;try clear p154;try clear p2;try clear q154
        obtain ⟨kq, x56_9, rfl, HA, HJ9, BK153, BK155, HB⟩ := hcut
        cases kq with
        | zero => exact absurd HA.out (by simp [r_Check.j2])
        | succ kj9 =>
         have H := HA.out
         clear HA
         simp only [r_Check.j2] at H
         by_cases c29 : x56_9 = true
         ·subst c29
          have H1 : (some 6) = some r := by rw [if_pos rfl] at H; exact H
          clear H
          have H := H1
          clear H1
          obtain rfl := Option.some.inj H
          go_wp2
          go_ret
          exact ⟨sqE, fW HB.out⟩
         replace c29 := Bool.eq_false_iff.mpr c29
         subst c29
         have H1 : (r_Check.l0 kj9 (wrap64 (x3_2 + 1)) l0_0 l0_1) = some r := by rw [if_neg (show ¬ (false = true) by decide)] at H; exact H
         clear H
         have H := H1
         clear H1
         have H' := am H
         clear H
         go_wp2
         go_roundg kj9
         case measure => have := HJ1.out; have := HK2.out; have := HJ9.out; omega
         case rel => exact ⟨(wrap64 (x3_2 + 1)), sqD, H', ⟨by have := HJ1.out; have := HK2.out; have := HJ9.out; omega⟩, ⟨fb BK153.out⟩, ⟨fW HB.out⟩⟩
      ·rw [if_neg c8] at H
       have c8b0 : decide (x3_2 < (l0_0.length : Int)) = false := decide_eq_false c8
       clear c8
       have H' := am H
       clear H
       have := yC1 BK153
       have := kC1 BK153
       have := bf BK153.out 0
       have := bf BK153.out 1
       go_wp2
       go_loopg [5] k2 (fun kq v5 w' => ∃ (x5_3 : Int), v5 = .int .i64 x5_3 ∧ Aside0 (r_Check.l1 kq x5_3 l0_0 l0_1 = some r) ∧ Aside0 (kq ≤ k2) ∧ Aside0 (w'.heap[gb153]? = some (.cells #[(.slice A0_0 l0_0.length c0_0), (.slice A0_1 l0_1.length c0_1)] 25 (0, 0))) ∧ Aside0 (Below w.heap.size w w'))
       case atStart => exact ⟨(0), sqD, H', ⟨Nat.le_refl _⟩, ⟨fb BK153.out⟩, ⟨fW HB.out⟩⟩
       case round =>
        clear H'
        try clear c1;try clear p1;try clear q1;try clear hx1;try clear c2;try clear p2;try clear c4;try clear c4b0;try clear c4b1;try clear p6;try clear c7;try clear c8;try clear c8b0;try clear c9;try clear c9b0;try clear c13;try clear c15;try clear c15b0;try clear p15;try clear q15;try clear hx15;try clear c16;try clear c18;try clear c18b0;try clear c19;try clear c21;try clear c21b0;try clear c22;try clear c24;try clear c24b0;try clear c25;try clear c27;try clear c29;try clear hx154_0;try clear hx154_1;try clear hx154_2;try clear p1;try clear p15;try clear p154;try clear p2;try clear q1;try clear q15;try clear q154
        obtain ⟨x5_3, rfl, HA, HK3, BK153, HB⟩ := hrel
        cases gk with
        | zero => exact absurd HA.out (by simp [r_Check.l1])
        | succ k3 =>
         have H := HA.out
         clear HA
         simp only [r_Check.l1] at H
         by_cases c31 : x5_3 < (l0_1.length : Int)
         ·rw [if_pos c31] at H
          have c31b0 : decide (x5_3 < (l0_1.length : Int)) = true := decide_eq_true c31
          clear c31
          by_cases c32 : 0 ≤ x5_3
          rotate_left
          ·rw [if_neg c32] at H
           exact absurd H (by simp)
          rw [if_pos c32] at H
          have c32b0 : decide (0 ≤ x5_3) = true := decide_eq_true c32
          clear c32
          by_cases c33 : (rd l0_1 x5_3) < 0
          ·rw [if_pos c33] at H
           have c33b0 : decide ((rd l0_1 x5_3) < 0) = true := decide_eq_true c33
           clear c33
           obtain rfl := Option.some.inj H
           have := yC1 BK153
           have := kC1 BK153
           have := bf BK153.out 0
           have := bf BK153.out 1
           have p156 : 0 ≤ (x5_3 : Int) := of_decide_eq_true (by assumption)
           have q156 : x5_3 < (l0_1.length : Int) := of_decide_eq_true (by assumption)
           obtain ⟨ad156, e156, hx156_0⟩ := Kd.at_int HR0_1.out x5_3 p156 q156
           cases e156
           replace hx156_0 := cl HB hx156_0
           replace p156 := eq_true p156
           replace q156 := eq_true q156
           go_wp2
           go_ret
           exact ⟨sqE, fW HB.out⟩
          rw [if_neg c33] at H
          have c33b0 : decide ((rd l0_1 x5_3) < 0) = false := decide_eq_false c33
          clear c33
          by_cases c35 : (rd l0_1 x5_3) ≥ 10000
          ·rw [if_pos c35] at H
           have c35b0 : decide (10000 ≤ (rd l0_1 x5_3)) = true := decide_eq_true c35
           clear c35
           obtain rfl := Option.some.inj H
           have := yC1 BK153
           have := kC1 BK153
           have := bf BK153.out 0
           have := bf BK153.out 1
           have p156 : 0 ≤ (x5_3 : Int) := of_decide_eq_true (by assumption)
           have q156 : x5_3 < (l0_1.length : Int) := of_decide_eq_true (by assumption)
           obtain ⟨ad156, e156, hx156_0⟩ := Kd.at_int HR0_1.out x5_3 p156 q156
           cases e156
           replace hx156_0 := cl HB hx156_0
           replace p156 := eq_true p156
           replace q156 := eq_true q156
           have p157 : 0 ≤ (x5_3 : Int) := of_decide_eq_true (by assumption)
           have q157 : x5_3 < (l0_1.length : Int) := of_decide_eq_true (by assumption)
           obtain ⟨ad157, e157, hx157_0⟩ := Kd.at_int HR0_1.out x5_3 p157 q157
           obtain rfl : ad156 = ad157 := (by injection e157)
           replace hx157_0 := cl HB hx157_0
           replace p157 := eq_true p157
           replace q157 := eq_true q157
           go_wp2
           go_ret
           exact ⟨sqE, fW HB.out⟩
          rw [if_neg c35] at H
          have c35b0 : decide (10000 ≤ (rd l0_1 x5_3)) = false := decide_eq_false c35
          clear c35
          have H' := am H
          clear H
          have := yC1 BK153
          have := kC1 BK153
          have := bf BK153.out 0
          have := bf BK153.out 1
          have p156 : 0 ≤ (x5_3 : Int) := of_decide_eq_true (by assumption)
          have q156 : x5_3 < (l0_1.length : Int) := of_decide_eq_true (by assumption)
          obtain ⟨ad156, e156, hx156_0⟩ := Kd.at_int HR0_1.out x5_3 p156 q156
          cases e156
          replace hx156_0 := cl HB hx156_0
          replace p156 := eq_true p156
          replace q156 := eq_true q156
          have p157 : 0 ≤ (x5_3 : Int) := of_decide_eq_true (by assumption)
          have q157 : x5_3 < (l0_1.length : Int) := of_decide_eq_true (by assumption)
          obtain ⟨ad157, e157, hx157_0⟩ := Kd.at_int HR0_1.out x5_3 p157 q157
          obtain rfl : ad156 = ad157 := (by injection e157)
          replace hx157_0 := cl HB hx157_0
          replace p157 := eq_true p157
          replace q157 := eq_true q157
          go_wp2
          go_roundg k3
          case measure => have := HJ1.out; have := HK2.out; have := HK3.out; omega
          case rel => exact ⟨(wrap64 (x5_3 + 1)), sqD, H', ⟨by have := HJ1.out; have := HK2.out; have := HK3.out; omega⟩, ⟨fb BK153.out⟩, ⟨fW HB.out⟩⟩
         ·rw [if_neg c31] at H
          have c31b0 : decide (x5_3 < (l0_1.length : Int)) = false := decide_eq_false c31
          clear c31
          have H' := am H
          clear H
          have := yC1 BK153
          have := kC1 BK153
          have := bf BK153.out 0
          have := bf BK153.out 1
          go_wp2
          go_loopg [6] k3 (fun kq v6 w' => ∃ (x6_4 : Int), v6 = .int .i64 x6_4 ∧ Aside0 (r_Check.l2 kq x6_4 l0_0 l0_1 = some r) ∧ Aside0 (kq ≤ k3) ∧ Aside0 (w'.heap[gb153]? = some (.cells #[(.slice A0_0 l0_0.length c0_0), (.slice A0_1 l0_1.length c0_1)] 25 (0, 0))) ∧ Aside0 (Below w.heap.size w w'))
          case atStart => exact ⟨(1), sqD, H', ⟨Nat.le_refl _⟩, ⟨fb BK153.out⟩, ⟨fW HB.out⟩⟩
          case round =>
           clear H'
           try clear c1;try clear p1;try clear q1;try clear hx1;try clear c2;try clear p2;try clear c3;try clear c4;try clear c4b0;try clear c4b1;try clear p6;try clear c7;try clear c8;try clear c8b0;try clear c9;try clear c9b0;try clear c13;try clear c15;try clear c15b0;try clear p15;try clear q15;try clear hx15;try clear c16;try clear c18;try clear c18b0;try clear c19;try clear c21;try clear c21b0;try clear c22;try clear c24;try clear c24b0;try clear c25;try clear c27;try clear c29;try clear c31;try clear c31b0;try clear c32;try clear c32b0;try clear c33;try clear c33b0;try clear c35;try clear c35b0;try clear hx154_0;try clear hx154_1;try clear hx154_2;try clear hx156_0;try clear hx157_0;try clear p1;try clear p15;try clear p154;try clear p156;try clear p157;try clear p2;try clear p6;try clear q1;try clear q15;try clear q154;try clear q156;try clear q157
           obtain ⟨x6_4, rfl, HA, HK4, BK153, HB⟩ := hrel
           cases gk with
           | zero => exact absurd HA.out (by simp [r_Check.l2])
           | succ k4 =>
            have H := HA.out
            clear HA
            simp only [r_Check.l2] at H
            by_cases c39 : x6_4 < (l0_0.length : Int)
            ·rw [if_pos c39] at H
             have c39b0 : decide (x6_4 < (l0_0.length : Int)) = true := decide_eq_true c39
             clear c39
             obtain ⟨ji40, hji40⟩ : ∃ j_ : Int, (wrap64 (x6_4 - 1)) = j_ := ⟨_, rfl⟩
             replace H : (if 0 ≤ (ji40) then (if (ji40) < (l0_0.length : Int) then (if 0 ≤ x6_4 then (if ((rd_T54 l0_0 (ji40)).f0) > ((rd_T54 l0_0 x6_4).f0) then (r_Check.j5 k4 x6_4 true l0_0 l0_1) else (if ((rd_T54 l0_0 (ji40)).f0) = ((rd_T54 l0_0 x6_4).f0) then (r_Check.j5 k4 x6_4 (decide (((rd_T54 l0_0 (ji40)).f2) > ((rd_T54 l0_0 x6_4).f1))) l0_0 l0_1) else (r_Check.j5 k4 x6_4 false l0_0 l0_1))) else (none)) else (none)) else (none)) = some r := by first | (rw [hji40] at H; exact H) | (simp only [hji40] at H ⊢; exact H)
             have hji40w : (IntKind.i64.wrap (x6_4 - 1)) = ji40 := (i64_w _).trans hji40
             by_cases c41 : 0 ≤ (ji40)
             rotate_left
             ·rw [if_neg c41] at H
              exact absurd H (by simp)
             rw [if_pos c41] at H
             have c41b0 : decide (0 ≤ (ji40)) = true := decide_eq_true c41
             clear c41
             by_cases c42 : (ji40) < (l0_0.length : Int)
             rotate_left
             ·rw [if_neg c42] at H
              exact absurd H (by simp)
             rw [if_pos c42] at H
             have c42b0 : decide ((ji40) < (l0_0.length : Int)) = true := decide_eq_true c42
             clear c42
             by_cases c43 : 0 ≤ x6_4
             rotate_left
             ·rw [if_neg c43] at H
              exact absurd H (by simp)
             rw [if_pos c43] at H
             have c43b0 : decide (0 ≤ x6_4) = true := decide_eq_true c43
             clear c43
             have HC44 := am H
             clear H
             have := yC1 BK153
             have := kC1 BK153
             have := bf BK153.out 0
             have := bf BK153.out 1
             try go_wp2
             have n0_ := am (bd BK153.out)
             have n1_ := am (below_drew1 HB.out)
             clear BK153 HB
             have BK153 := n0_
             have HB := n1_
             clear n0_ n1_
             have p158 : 0 ≤ ((ji40) : Int) := of_decide_eq_true (by assumption)
             have q158 : (ji40) < (l0_0.length : Int) := of_decide_eq_true (by assumption)
             obtain ⟨ad158, e158, hx158_0, hx158_1, hx158_2⟩ := at_T54 HR0_0.out (ji40) p158 q158
             have hw158_2 := hx158_2
             have hw158_1 := hx158_1
             have hw158_0 := hx158_0
             cases e158
             replace hx158_0 := cl HB hx158_0
             replace hx158_1 := cl HB hx158_1
             replace hx158_2 := cl HB hx158_2
             replace p158 := eq_true p158
             replace q158 := eq_true q158
             have p159 : 0 ≤ (x6_4 : Int) := of_decide_eq_true (by assumption)
             have q159 : x6_4 < (l0_0.length : Int) := of_decide_eq_true (by assumption)
             obtain ⟨ad159, e159, hx159_0, hx159_1, hx159_2⟩ := at_T54 HR0_0.out x6_4 p159 q159
             have hw159_2 := hx159_2
             have hw159_1 := hx159_1
             have hw159_0 := hx159_0
             obtain rfl : ad158 = ad159 := (by injection e159)
             replace hx159_0 := cl HB hx159_0
             replace hx159_1 := cl HB hx159_1
             replace hx159_2 := cl HB hx159_2
             replace p159 := eq_true p159
             replace q159 := eq_true q159
             refine start_ (n := 15) (S := fun w' => w'.cell? ⟨gb153, 0, none⟩ = some (.slice (some ad158) l0_0.length c0_0) ∧ w'.cell? ⟨gb153, 1, none⟩ = some (.slice A0_1 l0_1.length c0_1) ∧ w'.cell? (ad158.add (((ji40)).toNat * 3)) = some (.int .i64 ((rd_T54 l0_0 (ji40)).f0)) ∧ w'.cell? ⟨(ad158.add (((ji40)).toNat * 3)).block, (ad158.add (((ji40)).toNat * 3)).off + 1, none⟩ = some (.int .i64 ((rd_T54 l0_0 (ji40)).f1)) ∧ w'.cell? ⟨(ad158.add (((ji40)).toNat * 3)).block, (ad158.add (((ji40)).toNat * 3)).off + 2, none⟩ = some (.int .i64 ((rd_T54 l0_0 (ji40)).f2)) ∧ w'.cell? (ad158.add ((x6_4).toNat * 3)) = some (.int .i64 ((rd_T54 l0_0 x6_4).f0)) ∧ w'.cell? ⟨(ad158.add ((x6_4).toNat * 3)).block, (ad158.add ((x6_4).toNat * 3)).off + 1, none⟩ = some (.int .i64 ((rd_T54 l0_0 x6_4).f1)) ∧ w'.cell? ⟨(ad158.add ((x6_4).toNat * 3)).block, (ad158.add ((x6_4).toNat * 3)).off + 2, none⟩ = some (.int .i64 ((rd_T54 l0_0 x6_4).f2))) (ds := []) #[F,F,F,F,F,F,F,F,F,F,F,F,F,F,F] (by kernel_rfl) rfl rfl ⟨(bc BK153.out 0).trans rfl, (bc BK153.out 1).trans rfl, ((HB.out.cell (bq w _ hw158_0)).trans hw158_0), ((HB.out.cell (bq w _ hw158_1)).trans hw158_1), ((HB.out.cell (bq w _ hw158_2)).trans hw158_2), ((HB.out.cell (bq w _ hw159_0)).trans hw159_0), ((HB.out.cell (bq w _ hw159_1)).trans hw159_1), ((HB.out.cell (bq w _ hw159_2)).trans hw159_2)⟩ (fun hHeld => ?_); refine with_tabW r_Check.tab17 r_Check.bits17 (fun HT_ HW_ => ?_)
             generalize wr.drew = w46 at BK153 HB hx158_0 hx158_1 hx158_2 hx159_0 hx159_1 hx159_2 hHeld ⊢
             refine pu (i := 0) (N := some 85) (fl 15 1 []) HT_ ?_
             refine pu (i := 2) (N := some 87) (fl 15 1 [2]) HT_ ?_
             refine pu (i := 3) (N := some 88) (fl 15 1 [2, 3]) HT_ ?_
             refine pu (i := 6) (N := some 91) (fl 15 1 [2, 3, 6]) HT_ ?_
             refine pu (i := 8) (N := some 93) (fl 15 1 [2, 3, 6, 8]) HT_ ?_
             refine tk (i := 1) (N := some 86) (fl 15 4 [6, 8]) HT_ HW_ hHeld ?_
             refine pu (i := 4) (N := some 89) (fl 15 5 [6, 8]) HT_ ?_
             refine tk (i := 5) (N := some 90) (fl 15 7 [8]) HT_ HW_ hHeld ?_
             refine tk (i := 7) (N := some 92) (fl 15 9 []) HT_ HW_ hHeld ?_
             refine pu (i := 9) (N := some 94) (fl 15 10 []) HT_ ?_
             refine tk (i := 10) (N := some 95) (fl 15 11 []) HT_ HW_ hHeld ?_
             refine join_ (σ := Nat × Nat) 2 #[T,T,T,T,T,T,T,T,T,T,T,T,T,F,F] (fun s_ => [(7, .pointer (some ⟨s_.1, 0, none⟩)), (8, .pointer (some ⟨s_.2, 0, none⟩))]) (fun s_ w' => (w'.cell? ⟨gb153, 0, none⟩ = some (.slice (some ad158) l0_0.length c0_0) ∧ w'.cell? ⟨gb153, 1, none⟩ = some (.slice A0_1 l0_1.length c0_1) ∧ w'.cell? (ad158.add (((ji40)).toNat * 3)) = some (.int .i64 ((rd_T54 l0_0 (ji40)).f0)) ∧ w'.cell? ⟨(ad158.add (((ji40)).toNat * 3)).block, (ad158.add (((ji40)).toNat * 3)).off + 1, none⟩ = some (.int .i64 ((rd_T54 l0_0 (ji40)).f1)) ∧ w'.cell? ⟨(ad158.add (((ji40)).toNat * 3)).block, (ad158.add (((ji40)).toNat * 3)).off + 2, none⟩ = some (.int .i64 ((rd_T54 l0_0 (ji40)).f2)) ∧ w'.cell? (ad158.add ((x6_4).toNat * 3)) = some (.int .i64 ((rd_T54 l0_0 x6_4).f0)) ∧ w'.cell? ⟨(ad158.add ((x6_4).toNat * 3)).block, (ad158.add ((x6_4).toNat * 3)).off + 1, none⟩ = some (.int .i64 ((rd_T54 l0_0 x6_4).f1)) ∧ w'.cell? ⟨(ad158.add ((x6_4).toNat * 3)).block, (ad158.add ((x6_4).toNat * 3)).off + 2, none⟩ = some (.int .i64 ((rd_T54 l0_0 x6_4).f2))) ∧ (w'.heap[gb153]? = some (.cells #[.slice (some ad158) l0_0.length c0_0, .slice A0_1 l0_1.length c0_1] 25 (0, 0))) ∧ (w'.heap[s_.1]? = some (.cells #[.int .i64 0, .int .i64 0, .int .i64 0] 54 (0, 0))) ∧ (w'.heap[s_.2]? = some (.cells #[.int .i64 0, .int .i64 0, .int .i64 0] 54 (0, 0))) ∧ (w.heap.size ≤ s_.1) ∧ (w.heap.size ≤ s_.1) ∧ (gb153 ≠ s_.1) ∧ (s_.1 ≠ gb153) ∧ (s_.2 ≠ s_.1) ∧ (s_.1 ≠ s_.2) ∧ (w.heap.size ≤ s_.2) ∧ (w.heap.size ≤ s_.2) ∧ (gb153 ≠ s_.2) ∧ (s_.2 ≠ gb153) ∧ (Below w.heap.size w w')) ?_ ?_
             rotate_left
             ·intro hCont
              refine two_ (i := 11) (j := 12) (Ni := some 7) (Nj := some 8) #[T,T,T,T,T,T,T,T,T,T,T,T,F,F,F] (fl 15 11 [12]) rfl rfl rfl rfl (two_of HT_.out (by kernel_rfl)) (by decide) (by decide) (fun K hK => ?_) (fun K hK => ?_)
              ·skip
               refine box_step ?hg (N := 7) ?hd (cs := #[.int .i64 0, .int .i64 0, .int .i64 0]) (t := 54) ?hr ?_; (case hd | hg => rfl); (case hr => first | (go_simp; done) | (go_simp; rfl))
               intro gb160 hg w47 hbox hb
               have n0_ := bB BK153 hb
               have n1_ := bS HB hb
               have n2_ := am hbox
               have n3_ := sG HB hg
               have n4_ := sG HB hg
               have n5_ := nL BK153 hg
               have n6_ := nG BK153 hg
               clear BK153 HB
               have BK153 := n0_
               have HB := n1_
               have BK160 := n2_
               have GW160 := n3_
               have GE160 := n4_
               have NB153_160 := n5_
               have NB160_153 := n6_
               clear n0_ n1_ n2_ n3_ n4_ n5_ n6_ hb hbox hg
               refine hK.out _ _ ⟨(bc BK153.out 0).trans rfl, (bc BK153.out 1).trans rfl, ((HB.out.cell (bq w _ hw158_0)).trans hw158_0), ((HB.out.cell (bq w _ hw158_1)).trans hw158_1), ((HB.out.cell (bq w _ hw158_2)).trans hw158_2), ((HB.out.cell (bq w _ hw159_0)).trans hw159_0), ((HB.out.cell (bq w _ hw159_1)).trans hw159_1), ((HB.out.cell (bq w _ hw159_2)).trans hw159_2)⟩ (fun hHeld => ?_)
               clear hK K
               refine norm_ (a' := ?_) ?_ ?_
               rotate_left
               ·show Act.put _ (some 7) _ = _
                simp only [Act.put, psl, i64_w, i32_w]
                rfl
               refine one_ (i := 12) (N := some 8) (fl 15 13 []) rfl rfl (one_of HT_.out (by kernel_rfl)) (by decide) (fun K hK => ?_)
               refine box_step ?hg (N := 8) ?hd (cs := #[.int .i64 0, .int .i64 0, .int .i64 0]) (t := 54) ?hr ?_; (case hd | hg => rfl); (case hr => first | (go_simp; done) | (go_simp; rfl))
               intro gb161 hg w48 hbox hb
               have n0_ := bB BK153 hb
               have n1_ := bB BK160 hb
               have n2_ := bS HB hb
               have n3_ := am hbox
               have n4_ := sG HB hg
               have n5_ := sG HB hg
               have n6_ := nL BK153 hg
               have n7_ := nG BK153 hg
               have n8_ := nL BK160 hg
               have n9_ := nG BK160 hg
               clear BK153 BK160 HB
               have BK153 := n0_
               have BK160 := n1_
               have HB := n2_
               have BK161 := n3_
               have GW161 := n4_
               have GE161 := n5_
               have NB153_161 := n6_
               have NB161_153 := n7_
               have NB160_161 := n8_
               have NB161_160 := n9_
               clear n0_ n1_ n2_ n3_ n4_ n5_ n6_ n7_ n8_ n9_ hb hbox hg
               refine hK.out _ _ ⟨(bc BK153.out 0).trans rfl, (bc BK153.out 1).trans rfl, ((HB.out.cell (bq w _ hw158_0)).trans hw158_0), ((HB.out.cell (bq w _ hw158_1)).trans hw158_1), ((HB.out.cell (bq w _ hw158_2)).trans hw158_2), ((HB.out.cell (bq w _ hw159_0)).trans hw159_0), ((HB.out.cell (bq w _ hw159_1)).trans hw159_1), ((HB.out.cell (bq w _ hw159_2)).trans hw159_2)⟩ (fun hHeld => ?_)
               clear hK K
               refine norm_ (a' := ?_) ?_ ?_
               rotate_left
               ·show Act.put _ (some 8) _ = _
                simp only [Act.put, psl, i64_w, i32_w]
                rfl
               exact norm_ (by simp only [putAll, Act.put, psl]) (hCont (gb160, gb161) _ ⟨hHeld, (fb BK153.out), (fb BK160.out), (fb BK161.out), GW160.out, GE160.out, NB153_160.out, NB160_153.out, NB161_160.out, NB160_161.out, GW161.out, GE161.out, NB153_161.out, NB161_153.out, (fW HB.out)⟩)
              skip
              refine box_step ?hg (N := 8) ?hd (cs := #[.int .i64 0, .int .i64 0, .int .i64 0]) (t := 54) ?hr ?_; (case hd | hg => rfl); (case hr => first | (go_simp; done) | (go_simp; rfl))
              intro gb161 hg w47 hbox hb
              have n0_ := bB BK153 hb
              have n1_ := bS HB hb
              have n2_ := am hbox
              have n3_ := sG HB hg
              have n4_ := sG HB hg
              have n5_ := nL BK153 hg
              have n6_ := nG BK153 hg
              clear BK153 HB
              have BK153 := n0_
              have HB := n1_
              have BK161 := n2_
              have GW161 := n3_
              have GE161 := n4_
              have NB153_161 := n5_
              have NB161_153 := n6_
              clear n0_ n1_ n2_ n3_ n4_ n5_ n6_ hb hbox hg
              refine hK.out _ _ ⟨(bc BK153.out 0).trans rfl, (bc BK153.out 1).trans rfl, ((HB.out.cell (bq w _ hw158_0)).trans hw158_0), ((HB.out.cell (bq w _ hw158_1)).trans hw158_1), ((HB.out.cell (bq w _ hw158_2)).trans hw158_2), ((HB.out.cell (bq w _ hw159_0)).trans hw159_0), ((HB.out.cell (bq w _ hw159_1)).trans hw159_1), ((HB.out.cell (bq w _ hw159_2)).trans hw159_2)⟩ (fun hHeld => ?_)
              clear hK K
              refine norm_ (a' := ?_) ?_ ?_
              rotate_left
              ·show Act.put _ (some 8) _ = _
               simp only [Act.put, psl, i64_w, i32_w]
               rfl
              refine one_ (i := 11) (N := some 7) (fl 15 13 []) rfl rfl (one_of HT_.out (by kernel_rfl)) (by decide) (fun K hK => ?_)
              refine box_step ?hg (N := 7) ?hd (cs := #[.int .i64 0, .int .i64 0, .int .i64 0]) (t := 54) ?hr ?_; (case hd | hg => rfl); (case hr => first | (go_simp; done) | (go_simp; rfl))
              intro gb160 hg w48 hbox hb
              have n0_ := bB BK153 hb
              have n1_ := bB BK161 hb
              have n2_ := bS HB hb
              have n3_ := am hbox
              have n4_ := sG HB hg
              have n5_ := sG HB hg
              have n6_ := nL BK153 hg
              have n7_ := nG BK153 hg
              have n8_ := nL BK161 hg
              have n9_ := nG BK161 hg
              clear BK153 BK161 HB
              have BK153 := n0_
              have BK161 := n1_
              have HB := n2_
              have BK160 := n3_
              have GW160 := n4_
              have GE160 := n5_
              have NB153_160 := n6_
              have NB160_153 := n7_
              have NB161_160 := n8_
              have NB160_161 := n9_
              clear n0_ n1_ n2_ n3_ n4_ n5_ n6_ n7_ n8_ n9_ hb hbox hg
              refine hK.out _ _ ⟨(bc BK153.out 0).trans rfl, (bc BK153.out 1).trans rfl, ((HB.out.cell (bq w _ hw158_0)).trans hw158_0), ((HB.out.cell (bq w _ hw158_1)).trans hw158_1), ((HB.out.cell (bq w _ hw158_2)).trans hw158_2), ((HB.out.cell (bq w _ hw159_0)).trans hw159_0), ((HB.out.cell (bq w _ hw159_1)).trans hw159_1), ((HB.out.cell (bq w _ hw159_2)).trans hw159_2)⟩ (fun hHeld => ?_)
              clear hK K
              refine norm_ (a' := ?_) ?_ ?_
              rotate_left
              ·show Act.put _ (some 7) _ = _
               simp only [Act.put, psl, i64_w, i32_w]
               rfl
              exact norm_ (by simp only [putAll, Act.put, psl]) (hCont (gb160, gb161) _ ⟨hHeld, (fb BK153.out), (fb BK160.out), (fb BK161.out), GW160.out, GE160.out, NB153_160.out, NB160_153.out, NB161_160.out, NB160_161.out, GW161.out, GE161.out, NB153_161.out, NB161_153.out, (fW HB.out)⟩)
             rintro ⟨gb160, gb161⟩ w49 ⟨hS_, h0_, h1_, h2_, h3_, h4_, h5_, h6_, h7_, h8_, h9_, h10_, h11_, h12_, h13_⟩
             have n0_ : Aside0 (w49.heap[gb153]? = some (.cells #[.slice (some ad158) l0_0.length c0_0, .slice A0_1 l0_1.length c0_1] 25 (0, 0))) := ⟨h0_⟩
             have n1_ : Aside0 (w49.heap[gb160]? = some (.cells #[.int .i64 0, .int .i64 0, .int .i64 0] 54 (0, 0))) := ⟨h1_⟩
             have n2_ : Aside0 (w49.heap[gb161]? = some (.cells #[.int .i64 0, .int .i64 0, .int .i64 0] 54 (0, 0))) := ⟨h2_⟩
             have n3_ : Aside0 (w.heap.size ≤ gb160) := ⟨h3_⟩
             have n4_ : Aside0 (w.heap.size ≤ gb160) := ⟨h4_⟩
             have n5_ : Aside0 (gb153 ≠ gb160) := ⟨h5_⟩
             have n6_ : Aside0 (gb160 ≠ gb153) := ⟨h6_⟩
             have n7_ : Aside0 (gb161 ≠ gb160) := ⟨h7_⟩
             have n8_ : Aside0 (gb160 ≠ gb161) := ⟨h8_⟩
             have n9_ : Aside0 (w.heap.size ≤ gb161) := ⟨h9_⟩
             have n10_ : Aside0 (w.heap.size ≤ gb161) := ⟨h10_⟩
             have n11_ : Aside0 (gb153 ≠ gb161) := ⟨h11_⟩
             have n12_ : Aside0 (gb161 ≠ gb153) := ⟨h12_⟩
             have n13_ : Aside0 (Below w.heap.size w w49) := ⟨h13_⟩
             clear BK153 HB h0_ h1_ h2_ h3_ h4_ h5_ h6_ h7_ h8_ h9_ h10_ h11_ h12_ h13_
             have BK153 := n0_
             have BK160 := n1_
             have BK161 := n2_
             have GW160 := n3_
             have GE160 := n4_
             have NB153_160 := n5_
             have NB160_153 := n6_
             have NB161_160 := n7_
             have NB160_161 := n8_
             have GW161 := n9_
             have GE161 := n10_
             have NB153_161 := n11_
             have NB161_153 := n12_
             have HB := n13_
             clear n0_ n1_ n2_ n3_ n4_ n5_ n6_ n7_ n8_ n9_ n10_ n11_ n12_ n13_
             have hHeld : w49.cell? ⟨gb153, 0, none⟩ = some (.slice (some ad158) l0_0.length c0_0) ∧ w49.cell? ⟨gb153, 1, none⟩ = some (.slice A0_1 l0_1.length c0_1) ∧ w49.cell? (ad158.add (((ji40)).toNat * 3)) = some (.int .i64 ((rd_T54 l0_0 (ji40)).f0)) ∧ w49.cell? ⟨(ad158.add (((ji40)).toNat * 3)).block, (ad158.add (((ji40)).toNat * 3)).off + 1, none⟩ = some (.int .i64 ((rd_T54 l0_0 (ji40)).f1)) ∧ w49.cell? ⟨(ad158.add (((ji40)).toNat * 3)).block, (ad158.add (((ji40)).toNat * 3)).off + 2, none⟩ = some (.int .i64 ((rd_T54 l0_0 (ji40)).f2)) ∧ w49.cell? (ad158.add ((x6_4).toNat * 3)) = some (.int .i64 ((rd_T54 l0_0 x6_4).f0)) ∧ w49.cell? ⟨(ad158.add ((x6_4).toNat * 3)).block, (ad158.add ((x6_4).toNat * 3)).off + 1, none⟩ = some (.int .i64 ((rd_T54 l0_0 x6_4).f1)) ∧ w49.cell? ⟨(ad158.add ((x6_4).toNat * 3)).block, (ad158.add ((x6_4).toNat * 3)).off + 2, none⟩ = some (.int .i64 ((rd_T54 l0_0 x6_4).f2)) := hS_
             refine norm_ (a' := ?_) ?_ ?_
             rotate_left
             ·simp only [putAll, Act.put, psl]
              rfl
             refine one_ (i := 13) (N := none) (fl 15 14 []) rfl rfl (one_of HT_.out (by kernel_rfl)) (by decide) (fun K hK => ?_)
             have hs50 : w49.cell? ⟨gb160, 0, none⟩ = some (.int .i64 0) := (bc BK160.out 0).trans rfl
             have hfs50 := bf BK160.out 0
             have hns50_0 := NB153_160.out
             have hns50_2 := NB161_160.out
             have hms50_0 := NB160_153.out
             have hms50_2 := NB160_161.out
             have hs51 : w49.cell? ⟨gb160, 1, none⟩ = some (.int .i64 0) := (bc BK160.out 1).trans rfl
             have hfs51 := bf BK160.out 1
             have hns51_0 := NB153_160.out
             have hns51_2 := NB161_160.out
             have hms51_0 := NB160_153.out
             have hms51_2 := NB160_161.out
             have hs52 : w49.cell? ⟨gb160, 2, none⟩ = some (.int .i64 0) := (bc BK160.out 2).trans rfl
             have hfs52 := bf BK160.out 2
             have hns52_0 := NB153_160.out
             have hns52_2 := NB161_160.out
             have hms52_0 := NB160_153.out
             have hms52_2 := NB160_161.out
             refine skip_ (w1 := ?_) (by rfl) rfl ?_ ?_
             rotate_left
             ·go_simp
              rfl
             refine hK.out _ _ ⟨((cf (p := ⟨gb160, _, none⟩) NB153_160.out _).trans (((cf (p := ⟨gb160, _, none⟩) NB153_160.out _).trans (((cf (p := ⟨gb160, _, none⟩) NB153_160.out _).trans (hHeld.1)))))), ((cf (p := ⟨gb160, _, none⟩) NB153_160.out _).trans (((cf (p := ⟨gb160, _, none⟩) NB153_160.out _).trans (((cf (p := ⟨gb160, _, none⟩) NB153_160.out _).trans (hHeld.2.1)))))), ((cf (p := ⟨gb160, _, none⟩) (by first | exact Nat.ne_of_lt (Nat.lt_of_lt_of_le (by have := bq _ _ hw158_0; first | rwa [add_block] at this | exact this) GW160.out) | (rw [add_block]; exact Nat.ne_of_lt (Nat.lt_of_lt_of_le (by have := bq _ _ hw158_0; first | rwa [add_block] at this | exact this) GW160.out)) | (show (Addr.add _ _).block ≠ _; rw [add_block]; exact Nat.ne_of_lt (Nat.lt_of_lt_of_le (by have := bq _ _ hw158_0; first | rwa [add_block] at this | exact this) GW160.out)) | (dsimp only; exact Nat.ne_of_lt (Nat.lt_of_lt_of_le (by have := bq _ _ hw158_0; first | rwa [add_block] at this | exact this) GW160.out))) _).trans (((cf (p := ⟨gb160, _, none⟩) (by first | exact Nat.ne_of_lt (Nat.lt_of_lt_of_le (by have := bq _ _ hw158_0; first | rwa [add_block] at this | exact this) GW160.out) | (rw [add_block]; exact Nat.ne_of_lt (Nat.lt_of_lt_of_le (by have := bq _ _ hw158_0; first | rwa [add_block] at this | exact this) GW160.out)) | (show (Addr.add _ _).block ≠ _; rw [add_block]; exact Nat.ne_of_lt (Nat.lt_of_lt_of_le (by have := bq _ _ hw158_0; first | rwa [add_block] at this | exact this) GW160.out)) | (dsimp only; exact Nat.ne_of_lt (Nat.lt_of_lt_of_le (by have := bq _ _ hw158_0; first | rwa [add_block] at this | exact this) GW160.out))) _).trans (((cf (p := ⟨gb160, _, none⟩) (by first | exact Nat.ne_of_lt (Nat.lt_of_lt_of_le (by have := bq _ _ hw158_0; first | rwa [add_block] at this | exact this) GW160.out) | (rw [add_block]; exact Nat.ne_of_lt (Nat.lt_of_lt_of_le (by have := bq _ _ hw158_0; first | rwa [add_block] at this | exact this) GW160.out)) | (show (Addr.add _ _).block ≠ _; rw [add_block]; exact Nat.ne_of_lt (Nat.lt_of_lt_of_le (by have := bq _ _ hw158_0; first | rwa [add_block] at this | exact this) GW160.out)) | (dsimp only; exact Nat.ne_of_lt (Nat.lt_of_lt_of_le (by have := bq _ _ hw158_0; first | rwa [add_block] at this | exact this) GW160.out))) _).trans (hHeld.2.2.1)))))), ((cf (p := ⟨gb160, _, none⟩) (by first | exact Nat.ne_of_lt (Nat.lt_of_lt_of_le (by have := bq _ _ hw158_1; first | rwa [add_block] at this | exact this) GW160.out) | (rw [add_block]; exact Nat.ne_of_lt (Nat.lt_of_lt_of_le (by have := bq _ _ hw158_1; first | rwa [add_block] at this | exact this) GW160.out)) | (show (Addr.add _ _).block ≠ _; rw [add_block]; exact Nat.ne_of_lt (Nat.lt_of_lt_of_le (by have := bq _ _ hw158_1; first | rwa [add_block] at this | exact this) GW160.out)) | (dsimp only; exact Nat.ne_of_lt (Nat.lt_of_lt_of_le (by have := bq _ _ hw158_1; first | rwa [add_block] at this | exact this) GW160.out))) _).trans (((cf (p := ⟨gb160, _, none⟩) (by first | exact Nat.ne_of_lt (Nat.lt_of_lt_of_le (by have := bq _ _ hw158_1; first | rwa [add_block] at this | exact this) GW160.out) | (rw [add_block]; exact Nat.ne_of_lt (Nat.lt_of_lt_of_le (by have := bq _ _ hw158_1; first | rwa [add_block] at this | exact this) GW160.out)) | (show (Addr.add _ _).block ≠ _; rw [add_block]; exact Nat.ne_of_lt (Nat.lt_of_lt_of_le (by have := bq _ _ hw158_1; first | rwa [add_block] at this | exact this) GW160.out)) | (dsimp only; exact Nat.ne_of_lt (Nat.lt_of_lt_of_le (by have := bq _ _ hw158_1; first | rwa [add_block] at this | exact this) GW160.out))) _).trans (((cf (p := ⟨gb160, _, none⟩) (by first | exact Nat.ne_of_lt (Nat.lt_of_lt_of_le (by have := bq _ _ hw158_1; first | rwa [add_block] at this | exact this) GW160.out) | (rw [add_block]; exact Nat.ne_of_lt (Nat.lt_of_lt_of_le (by have := bq _ _ hw158_1; first | rwa [add_block] at this | exact this) GW160.out)) | (show (Addr.add _ _).block ≠ _; rw [add_block]; exact Nat.ne_of_lt (Nat.lt_of_lt_of_le (by have := bq _ _ hw158_1; first | rwa [add_block] at this | exact this) GW160.out)) | (dsimp only; exact Nat.ne_of_lt (Nat.lt_of_lt_of_le (by have := bq _ _ hw158_1; first | rwa [add_block] at this | exact this) GW160.out))) _).trans (hHeld.2.2.2.1)))))), ((cf (p := ⟨gb160, _, none⟩) (by first | exact Nat.ne_of_lt (Nat.lt_of_lt_of_le (by have := bq _ _ hw158_2; first | rwa [add_block] at this | exact this) GW160.out) | (rw [add_block]; exact Nat.ne_of_lt (Nat.lt_of_lt_of_le (by have := bq _ _ hw158_2; first | rwa [add_block] at this | exact this) GW160.out)) | (show (Addr.add _ _).block ≠ _; rw [add_block]; exact Nat.ne_of_lt (Nat.lt_of_lt_of_le (by have := bq _ _ hw158_2; first | rwa [add_block] at this | exact this) GW160.out)) | (dsimp only; exact Nat.ne_of_lt (Nat.lt_of_lt_of_le (by have := bq _ _ hw158_2; first | rwa [add_block] at this | exact this) GW160.out))) _).trans (((cf (p := ⟨gb160, _, none⟩) (by first | exact Nat.ne_of_lt (Nat.lt_of_lt_of_le (by have := bq _ _ hw158_2; first | rwa [add_block] at this | exact this) GW160.out) | (rw [add_block]; exact Nat.ne_of_lt (Nat.lt_of_lt_of_le (by have := bq _ _ hw158_2; first | rwa [add_block] at this | exact this) GW160.out)) | (show (Addr.add _ _).block ≠ _; rw [add_block]; exact Nat.ne_of_lt (Nat.lt_of_lt_of_le (by have := bq _ _ hw158_2; first | rwa [add_block] at this | exact this) GW160.out)) | (dsimp only; exact Nat.ne_of_lt (Nat.lt_of_lt_of_le (by have := bq _ _ hw158_2; first | rwa [add_block] at this | exact this) GW160.out))) _).trans (((cf (p := ⟨gb160, _, none⟩) (by first | exact Nat.ne_of_lt (Nat.lt_of_lt_of_le (by have := bq _ _ hw158_2; first | rwa [add_block] at this | exact this) GW160.out) | (rw [add_block]; exact Nat.ne_of_lt (Nat.lt_of_lt_of_le (by have := bq _ _ hw158_2; first | rwa [add_block] at this | exact this) GW160.out)) | (show (Addr.add _ _).block ≠ _; rw [add_block]; exact Nat.ne_of_lt (Nat.lt_of_lt_of_le (by have := bq _ _ hw158_2; first | rwa [add_block] at this | exact this) GW160.out)) | (dsimp only; exact Nat.ne_of_lt (Nat.lt_of_lt_of_le (by have := bq _ _ hw158_2; first | rwa [add_block] at this | exact this) GW160.out))) _).trans (hHeld.2.2.2.2.1)))))), ((cf (p := ⟨gb160, _, none⟩) (by first | exact Nat.ne_of_lt (Nat.lt_of_lt_of_le (by have := bq _ _ hw159_0; first | rwa [add_block] at this | exact this) GW160.out) | (rw [add_block]; exact Nat.ne_of_lt (Nat.lt_of_lt_of_le (by have := bq _ _ hw159_0; first | rwa [add_block] at this | exact this) GW160.out)) | (show (Addr.add _ _).block ≠ _; rw [add_block]; exact Nat.ne_of_lt (Nat.lt_of_lt_of_le (by have := bq _ _ hw159_0; first | rwa [add_block] at this | exact this) GW160.out)) | (dsimp only; exact Nat.ne_of_lt (Nat.lt_of_lt_of_le (by have := bq _ _ hw159_0; first | rwa [add_block] at this | exact this) GW160.out))) _).trans (((cf (p := ⟨gb160, _, none⟩) (by first | exact Nat.ne_of_lt (Nat.lt_of_lt_of_le (by have := bq _ _ hw159_0; first | rwa [add_block] at this | exact this) GW160.out) | (rw [add_block]; exact Nat.ne_of_lt (Nat.lt_of_lt_of_le (by have := bq _ _ hw159_0; first | rwa [add_block] at this | exact this) GW160.out)) | (show (Addr.add _ _).block ≠ _; rw [add_block]; exact Nat.ne_of_lt (Nat.lt_of_lt_of_le (by have := bq _ _ hw159_0; first | rwa [add_block] at this | exact this) GW160.out)) | (dsimp only; exact Nat.ne_of_lt (Nat.lt_of_lt_of_le (by have := bq _ _ hw159_0; first | rwa [add_block] at this | exact this) GW160.out))) _).trans (((cf (p := ⟨gb160, _, none⟩) (by first | exact Nat.ne_of_lt (Nat.lt_of_lt_of_le (by have := bq _ _ hw159_0; first | rwa [add_block] at this | exact this) GW160.out) | (rw [add_block]; exact Nat.ne_of_lt (Nat.lt_of_lt_of_le (by have := bq _ _ hw159_0; first | rwa [add_block] at this | exact this) GW160.out)) | (show (Addr.add _ _).block ≠ _; rw [add_block]; exact Nat.ne_of_lt (Nat.lt_of_lt_of_le (by have := bq _ _ hw159_0; first | rwa [add_block] at this | exact this) GW160.out)) | (dsimp only; exact Nat.ne_of_lt (Nat.lt_of_lt_of_le (by have := bq _ _ hw159_0; first | rwa [add_block] at this | exact this) GW160.out))) _).trans (hHeld.2.2.2.2.2.1)))))), ((cf (p := ⟨gb160, _, none⟩) (by first | exact Nat.ne_of_lt (Nat.lt_of_lt_of_le (by have := bq _ _ hw159_1; first | rwa [add_block] at this | exact this) GW160.out) | (rw [add_block]; exact Nat.ne_of_lt (Nat.lt_of_lt_of_le (by have := bq _ _ hw159_1; first | rwa [add_block] at this | exact this) GW160.out)) | (show (Addr.add _ _).block ≠ _; rw [add_block]; exact Nat.ne_of_lt (Nat.lt_of_lt_of_le (by have := bq _ _ hw159_1; first | rwa [add_block] at this | exact this) GW160.out)) | (dsimp only; exact Nat.ne_of_lt (Nat.lt_of_lt_of_le (by have := bq _ _ hw159_1; first | rwa [add_block] at this | exact this) GW160.out))) _).trans (((cf (p := ⟨gb160, _, none⟩) (by first | exact Nat.ne_of_lt (Nat.lt_of_lt_of_le (by have := bq _ _ hw159_1; first | rwa [add_block] at this | exact this) GW160.out) | (rw [add_block]; exact Nat.ne_of_lt (Nat.lt_of_lt_of_le (by have := bq _ _ hw159_1; first | rwa [add_block] at this | exact this) GW160.out)) | (show (Addr.add _ _).block ≠ _; rw [add_block]; exact Nat.ne_of_lt (Nat.lt_of_lt_of_le (by have := bq _ _ hw159_1; first | rwa [add_block] at this | exact this) GW160.out)) | (dsimp only; exact Nat.ne_of_lt (Nat.lt_of_lt_of_le (by have := bq _ _ hw159_1; first | rwa [add_block] at this | exact this) GW160.out))) _).trans (((cf (p := ⟨gb160, _, none⟩) (by first | exact Nat.ne_of_lt (Nat.lt_of_lt_of_le (by have := bq _ _ hw159_1; first | rwa [add_block] at this | exact this) GW160.out) | (rw [add_block]; exact Nat.ne_of_lt (Nat.lt_of_lt_of_le (by have := bq _ _ hw159_1; first | rwa [add_block] at this | exact this) GW160.out)) | (show (Addr.add _ _).block ≠ _; rw [add_block]; exact Nat.ne_of_lt (Nat.lt_of_lt_of_le (by have := bq _ _ hw159_1; first | rwa [add_block] at this | exact this) GW160.out)) | (dsimp only; exact Nat.ne_of_lt (Nat.lt_of_lt_of_le (by have := bq _ _ hw159_1; first | rwa [add_block] at this | exact this) GW160.out))) _).trans (hHeld.2.2.2.2.2.2.1)))))), ((cf (p := ⟨gb160, _, none⟩) (by first | exact Nat.ne_of_lt (Nat.lt_of_lt_of_le (by have := bq _ _ hw159_2; first | rwa [add_block] at this | exact this) GW160.out) | (rw [add_block]; exact Nat.ne_of_lt (Nat.lt_of_lt_of_le (by have := bq _ _ hw159_2; first | rwa [add_block] at this | exact this) GW160.out)) | (show (Addr.add _ _).block ≠ _; rw [add_block]; exact Nat.ne_of_lt (Nat.lt_of_lt_of_le (by have := bq _ _ hw159_2; first | rwa [add_block] at this | exact this) GW160.out)) | (dsimp only; exact Nat.ne_of_lt (Nat.lt_of_lt_of_le (by have := bq _ _ hw159_2; first | rwa [add_block] at this | exact this) GW160.out))) _).trans (((cf (p := ⟨gb160, _, none⟩) (by first | exact Nat.ne_of_lt (Nat.lt_of_lt_of_le (by have := bq _ _ hw159_2; first | rwa [add_block] at this | exact this) GW160.out) | (rw [add_block]; exact Nat.ne_of_lt (Nat.lt_of_lt_of_le (by have := bq _ _ hw159_2; first | rwa [add_block] at this | exact this) GW160.out)) | (show (Addr.add _ _).block ≠ _; rw [add_block]; exact Nat.ne_of_lt (Nat.lt_of_lt_of_le (by have := bq _ _ hw159_2; first | rwa [add_block] at this | exact this) GW160.out)) | (dsimp only; exact Nat.ne_of_lt (Nat.lt_of_lt_of_le (by have := bq _ _ hw159_2; first | rwa [add_block] at this | exact this) GW160.out))) _).trans (((cf (p := ⟨gb160, _, none⟩) (by first | exact Nat.ne_of_lt (Nat.lt_of_lt_of_le (by have := bq _ _ hw159_2; first | rwa [add_block] at this | exact this) GW160.out) | (rw [add_block]; exact Nat.ne_of_lt (Nat.lt_of_lt_of_le (by have := bq _ _ hw159_2; first | rwa [add_block] at this | exact this) GW160.out)) | (show (Addr.add _ _).block ≠ _; rw [add_block]; exact Nat.ne_of_lt (Nat.lt_of_lt_of_le (by have := bq _ _ hw159_2; first | rwa [add_block] at this | exact this) GW160.out)) | (dsimp only; exact Nat.ne_of_lt (Nat.lt_of_lt_of_le (by have := bq _ _ hw159_2; first | rwa [add_block] at this | exact this) GW160.out))) _).trans (hHeld.2.2.2.2.2.2.2))))))⟩ (fun hHeld => ?_)
             clear hK K
             refine one_ (i := 14) (N := none) (fl 15 15 []) rfl rfl (one_of HT_.out (by kernel_rfl)) (by decide) (fun K hK => ?_)
             have hs53 : w49.cell? ⟨gb161, 0, none⟩ = some (.int .i64 0) := (bc BK161.out 0).trans rfl
             have hfs53 := bf BK161.out 0
             have hns53_0 := NB153_161.out
             have hns53_1 := NB160_161.out
             have hms53_0 := NB161_153.out
             have hms53_1 := NB161_160.out
             have hs54 : w49.cell? ⟨gb161, 1, none⟩ = some (.int .i64 0) := (bc BK161.out 1).trans rfl
             have hfs54 := bf BK161.out 1
             have hns54_0 := NB153_161.out
             have hns54_1 := NB160_161.out
             have hms54_0 := NB161_153.out
             have hms54_1 := NB161_160.out
             have hs55 : w49.cell? ⟨gb161, 2, none⟩ = some (.int .i64 0) := (bc BK161.out 2).trans rfl
             have hfs55 := bf BK161.out 2
             have hns55_0 := NB153_161.out
             have hns55_1 := NB160_161.out
             have hms55_0 := NB161_153.out
             have hms55_1 := NB161_160.out
             refine skip_ (w1 := ?_) (by rfl) rfl ?_ ?_
             rotate_left
             ·go_simp
              rfl
             refine hK.out _ _ ⟨((cf (p := ⟨gb161, _, none⟩) NB153_161.out _).trans (((cf (p := ⟨gb161, _, none⟩) NB153_161.out _).trans (((cf (p := ⟨gb161, _, none⟩) NB153_161.out _).trans (hHeld.1)))))), ((cf (p := ⟨gb161, _, none⟩) NB153_161.out _).trans (((cf (p := ⟨gb161, _, none⟩) NB153_161.out _).trans (((cf (p := ⟨gb161, _, none⟩) NB153_161.out _).trans (hHeld.2.1)))))), ((cf (p := ⟨gb161, _, none⟩) (by first | exact Nat.ne_of_lt (Nat.lt_of_lt_of_le (by have := bq _ _ hw158_0; first | rwa [add_block] at this | exact this) GW161.out) | (rw [add_block]; exact Nat.ne_of_lt (Nat.lt_of_lt_of_le (by have := bq _ _ hw158_0; first | rwa [add_block] at this | exact this) GW161.out)) | (show (Addr.add _ _).block ≠ _; rw [add_block]; exact Nat.ne_of_lt (Nat.lt_of_lt_of_le (by have := bq _ _ hw158_0; first | rwa [add_block] at this | exact this) GW161.out)) | (dsimp only; exact Nat.ne_of_lt (Nat.lt_of_lt_of_le (by have := bq _ _ hw158_0; first | rwa [add_block] at this | exact this) GW161.out))) _).trans (((cf (p := ⟨gb161, _, none⟩) (by first | exact Nat.ne_of_lt (Nat.lt_of_lt_of_le (by have := bq _ _ hw158_0; first | rwa [add_block] at this | exact this) GW161.out) | (rw [add_block]; exact Nat.ne_of_lt (Nat.lt_of_lt_of_le (by have := bq _ _ hw158_0; first | rwa [add_block] at this | exact this) GW161.out)) | (show (Addr.add _ _).block ≠ _; rw [add_block]; exact Nat.ne_of_lt (Nat.lt_of_lt_of_le (by have := bq _ _ hw158_0; first | rwa [add_block] at this | exact this) GW161.out)) | (dsimp only; exact Nat.ne_of_lt (Nat.lt_of_lt_of_le (by have := bq _ _ hw158_0; first | rwa [add_block] at this | exact this) GW161.out))) _).trans (((cf (p := ⟨gb161, _, none⟩) (by first | exact Nat.ne_of_lt (Nat.lt_of_lt_of_le (by have := bq _ _ hw158_0; first | rwa [add_block] at this | exact this) GW161.out) | (rw [add_block]; exact Nat.ne_of_lt (Nat.lt_of_lt_of_le (by have := bq _ _ hw158_0; first | rwa [add_block] at this | exact this) GW161.out)) | (show (Addr.add _ _).block ≠ _; rw [add_block]; exact Nat.ne_of_lt (Nat.lt_of_lt_of_le (by have := bq _ _ hw158_0; first | rwa [add_block] at this | exact this) GW161.out)) | (dsimp only; exact Nat.ne_of_lt (Nat.lt_of_lt_of_le (by have := bq _ _ hw158_0; first | rwa [add_block] at this | exact this) GW161.out))) _).trans (hHeld.2.2.1)))))), ((cf (p := ⟨gb161, _, none⟩) (by first | exact Nat.ne_of_lt (Nat.lt_of_lt_of_le (by have := bq _ _ hw158_1; first | rwa [add_block] at this | exact this) GW161.out) | (rw [add_block]; exact Nat.ne_of_lt (Nat.lt_of_lt_of_le (by have := bq _ _ hw158_1; first | rwa [add_block] at this | exact this) GW161.out)) | (show (Addr.add _ _).block ≠ _; rw [add_block]; exact Nat.ne_of_lt (Nat.lt_of_lt_of_le (by have := bq _ _ hw158_1; first | rwa [add_block] at this | exact this) GW161.out)) | (dsimp only; exact Nat.ne_of_lt (Nat.lt_of_lt_of_le (by have := bq _ _ hw158_1; first | rwa [add_block] at this | exact this) GW161.out))) _).trans (((cf (p := ⟨gb161, _, none⟩) (by first | exact Nat.ne_of_lt (Nat.lt_of_lt_of_le (by have := bq _ _ hw158_1; first | rwa [add_block] at this | exact this) GW161.out) | (rw [add_block]; exact Nat.ne_of_lt (Nat.lt_of_lt_of_le (by have := bq _ _ hw158_1; first | rwa [add_block] at this | exact this) GW161.out)) | (show (Addr.add _ _).block ≠ _; rw [add_block]; exact Nat.ne_of_lt (Nat.lt_of_lt_of_le (by have := bq _ _ hw158_1; first | rwa [add_block] at this | exact this) GW161.out)) | (dsimp only; exact Nat.ne_of_lt (Nat.lt_of_lt_of_le (by have := bq _ _ hw158_1; first | rwa [add_block] at this | exact this) GW161.out))) _).trans (((cf (p := ⟨gb161, _, none⟩) (by first | exact Nat.ne_of_lt (Nat.lt_of_lt_of_le (by have := bq _ _ hw158_1; first | rwa [add_block] at this | exact this) GW161.out) | (rw [add_block]; exact Nat.ne_of_lt (Nat.lt_of_lt_of_le (by have := bq _ _ hw158_1; first | rwa [add_block] at this | exact this) GW161.out)) | (show (Addr.add _ _).block ≠ _; rw [add_block]; exact Nat.ne_of_lt (Nat.lt_of_lt_of_le (by have := bq _ _ hw158_1; first | rwa [add_block] at this | exact this) GW161.out)) | (dsimp only; exact Nat.ne_of_lt (Nat.lt_of_lt_of_le (by have := bq _ _ hw158_1; first | rwa [add_block] at this | exact this) GW161.out))) _).trans (hHeld.2.2.2.1)))))), ((cf (p := ⟨gb161, _, none⟩) (by first | exact Nat.ne_of_lt (Nat.lt_of_lt_of_le (by have := bq _ _ hw158_2; first | rwa [add_block] at this | exact this) GW161.out) | (rw [add_block]; exact Nat.ne_of_lt (Nat.lt_of_lt_of_le (by have := bq _ _ hw158_2; first | rwa [add_block] at this | exact this) GW161.out)) | (show (Addr.add _ _).block ≠ _; rw [add_block]; exact Nat.ne_of_lt (Nat.lt_of_lt_of_le (by have := bq _ _ hw158_2; first | rwa [add_block] at this | exact this) GW161.out)) | (dsimp only; exact Nat.ne_of_lt (Nat.lt_of_lt_of_le (by have := bq _ _ hw158_2; first | rwa [add_block] at this | exact this) GW161.out))) _).trans (((cf (p := ⟨gb161, _, none⟩) (by first | exact Nat.ne_of_lt (Nat.lt_of_lt_of_le (by have := bq _ _ hw158_2; first | rwa [add_block] at this | exact this) GW161.out) | (rw [add_block]; exact Nat.ne_of_lt (Nat.lt_of_lt_of_le (by have := bq _ _ hw158_2; first | rwa [add_block] at this | exact this) GW161.out)) | (show (Addr.add _ _).block ≠ _; rw [add_block]; exact Nat.ne_of_lt (Nat.lt_of_lt_of_le (by have := bq _ _ hw158_2; first | rwa [add_block] at this | exact this) GW161.out)) | (dsimp only; exact Nat.ne_of_lt (Nat.lt_of_lt_of_le (by have := bq _ _ hw158_2; first | rwa [add_block] at this | exact this) GW161.out))) _).trans (((cf (p := ⟨gb161, _, none⟩) (by first | exact Nat.ne_of_lt (Nat.lt_of_lt_of_le (by have := bq _ _ hw158_2; first | rwa [add_block] at this | exact this) GW161.out) | (rw [add_block]; exact Nat.ne_of_lt (Nat.lt_of_lt_of_le (by have := bq _ _ hw158_2; first | rwa [add_block] at this | exact this) GW161.out)) | (show (Addr.add _ _).block ≠ _; rw [add_block]; exact Nat.ne_of_lt (Nat.lt_of_lt_of_le (by have := bq _ _ hw158_2; first | rwa [add_block] at this | exact this) GW161.out)) | (dsimp only; exact Nat.ne_of_lt (Nat.lt_of_lt_of_le (by have := bq _ _ hw158_2; first | rwa [add_block] at this | exact this) GW161.out))) _).trans (hHeld.2.2.2.2.1)))))), ((cf (p := ⟨gb161, _, none⟩) (by first | exact Nat.ne_of_lt (Nat.lt_of_lt_of_le (by have := bq _ _ hw159_0; first | rwa [add_block] at this | exact this) GW161.out) | (rw [add_block]; exact Nat.ne_of_lt (Nat.lt_of_lt_of_le (by have := bq _ _ hw159_0; first | rwa [add_block] at this | exact this) GW161.out)) | (show (Addr.add _ _).block ≠ _; rw [add_block]; exact Nat.ne_of_lt (Nat.lt_of_lt_of_le (by have := bq _ _ hw159_0; first | rwa [add_block] at this | exact this) GW161.out)) | (dsimp only; exact Nat.ne_of_lt (Nat.lt_of_lt_of_le (by have := bq _ _ hw159_0; first | rwa [add_block] at this | exact this) GW161.out))) _).trans (((cf (p := ⟨gb161, _, none⟩) (by first | exact Nat.ne_of_lt (Nat.lt_of_lt_of_le (by have := bq _ _ hw159_0; first | rwa [add_block] at this | exact this) GW161.out) | (rw [add_block]; exact Nat.ne_of_lt (Nat.lt_of_lt_of_le (by have := bq _ _ hw159_0; first | rwa [add_block] at this | exact this) GW161.out)) | (show (Addr.add _ _).block ≠ _; rw [add_block]; exact Nat.ne_of_lt (Nat.lt_of_lt_of_le (by have := bq _ _ hw159_0; first | rwa [add_block] at this | exact this) GW161.out)) | (dsimp only; exact Nat.ne_of_lt (Nat.lt_of_lt_of_le (by have := bq _ _ hw159_0; first | rwa [add_block] at this | exact this) GW161.out))) _).trans (((cf (p := ⟨gb161, _, none⟩) (by first | exact Nat.ne_of_lt (Nat.lt_of_lt_of_le (by have := bq _ _ hw159_0; first | rwa [add_block] at this | exact this) GW161.out) | (rw [add_block]; exact Nat.ne_of_lt (Nat.lt_of_lt_of_le (by have := bq _ _ hw159_0; first | rwa [add_block] at this | exact this) GW161.out)) | (show (Addr.add _ _).block ≠ _; rw [add_block]; exact Nat.ne_of_lt (Nat.lt_of_lt_of_le (by have := bq _ _ hw159_0; first | rwa [add_block] at this | exact this) GW161.out)) | (dsimp only; exact Nat.ne_of_lt (Nat.lt_of_lt_of_le (by have := bq _ _ hw159_0; first | rwa [add_block] at this | exact this) GW161.out))) _).trans (hHeld.2.2.2.2.2.1)))))), ((cf (p := ⟨gb161, _, none⟩) (by first | exact Nat.ne_of_lt (Nat.lt_of_lt_of_le (by have := bq _ _ hw159_1; first | rwa [add_block] at this | exact this) GW161.out) | (rw [add_block]; exact Nat.ne_of_lt (Nat.lt_of_lt_of_le (by have := bq _ _ hw159_1; first | rwa [add_block] at this | exact this) GW161.out)) | (show (Addr.add _ _).block ≠ _; rw [add_block]; exact Nat.ne_of_lt (Nat.lt_of_lt_of_le (by have := bq _ _ hw159_1; first | rwa [add_block] at this | exact this) GW161.out)) | (dsimp only; exact Nat.ne_of_lt (Nat.lt_of_lt_of_le (by have := bq _ _ hw159_1; first | rwa [add_block] at this | exact this) GW161.out))) _).trans (((cf (p := ⟨gb161, _, none⟩) (by first | exact Nat.ne_of_lt (Nat.lt_of_lt_of_le (by have := bq _ _ hw159_1; first | rwa [add_block] at this | exact this) GW161.out) | (rw [add_block]; exact Nat.ne_of_lt (Nat.lt_of_lt_of_le (by have := bq _ _ hw159_1; first | rwa [add_block] at this | exact this) GW161.out)) | (show (Addr.add _ _).block ≠ _; rw [add_block]; exact Nat.ne_of_lt (Nat.lt_of_lt_of_le (by have := bq _ _ hw159_1; first | rwa [add_block] at this | exact this) GW161.out)) | (dsimp only; exact Nat.ne_of_lt (Nat.lt_of_lt_of_le (by have := bq _ _ hw159_1; first | rwa [add_block] at this | exact this) GW161.out))) _).trans (((cf (p := ⟨gb161, _, none⟩) (by first | exact Nat.ne_of_lt (Nat.lt_of_lt_of_le (by have := bq _ _ hw159_1; first | rwa [add_block] at this | exact this) GW161.out) | (rw [add_block]; exact Nat.ne_of_lt (Nat.lt_of_lt_of_le (by have := bq _ _ hw159_1; first | rwa [add_block] at this | exact this) GW161.out)) | (show (Addr.add _ _).block ≠ _; rw [add_block]; exact Nat.ne_of_lt (Nat.lt_of_lt_of_le (by have := bq _ _ hw159_1; first | rwa [add_block] at this | exact this) GW161.out)) | (dsimp only; exact Nat.ne_of_lt (Nat.lt_of_lt_of_le (by have := bq _ _ hw159_1; first | rwa [add_block] at this | exact this) GW161.out))) _).trans (hHeld.2.2.2.2.2.2.1)))))), ((cf (p := ⟨gb161, _, none⟩) (by first | exact Nat.ne_of_lt (Nat.lt_of_lt_of_le (by have := bq _ _ hw159_2; first | rwa [add_block] at this | exact this) GW161.out) | (rw [add_block]; exact Nat.ne_of_lt (Nat.lt_of_lt_of_le (by have := bq _ _ hw159_2; first | rwa [add_block] at this | exact this) GW161.out)) | (show (Addr.add _ _).block ≠ _; rw [add_block]; exact Nat.ne_of_lt (Nat.lt_of_lt_of_le (by have := bq _ _ hw159_2; first | rwa [add_block] at this | exact this) GW161.out)) | (dsimp only; exact Nat.ne_of_lt (Nat.lt_of_lt_of_le (by have := bq _ _ hw159_2; first | rwa [add_block] at this | exact this) GW161.out))) _).trans (((cf (p := ⟨gb161, _, none⟩) (by first | exact Nat.ne_of_lt (Nat.lt_of_lt_of_le (by have := bq _ _ hw159_2; first | rwa [add_block] at this | exact this) GW161.out) | (rw [add_block]; exact Nat.ne_of_lt (Nat.lt_of_lt_of_le (by have := bq _ _ hw159_2; first | rwa [add_block] at this | exact this) GW161.out)) | (show (Addr.add _ _).block ≠ _; rw [add_block]; exact Nat.ne_of_lt (Nat.lt_of_lt_of_le (by have := bq _ _ hw159_2; first | rwa [add_block] at this | exact this) GW161.out)) | (dsimp only; exact Nat.ne_of_lt (Nat.lt_of_lt_of_le (by have := bq _ _ hw159_2; first | rwa [add_block] at this | exact this) GW161.out))) _).trans (((cf (p := ⟨gb161, _, none⟩) (by first | exact Nat.ne_of_lt (Nat.lt_of_lt_of_le (by have := bq _ _ hw159_2; first | rwa [add_block] at this | exact this) GW161.out) | (rw [add_block]; exact Nat.ne_of_lt (Nat.lt_of_lt_of_le (by have := bq _ _ hw159_2; first | rwa [add_block] at this | exact this) GW161.out)) | (show (Addr.add _ _).block ≠ _; rw [add_block]; exact Nat.ne_of_lt (Nat.lt_of_lt_of_le (by have := bq _ _ hw159_2; first | rwa [add_block] at this | exact this) GW161.out)) | (dsimp only; exact Nat.ne_of_lt (Nat.lt_of_lt_of_le (by have := bq _ _ hw159_2; first | rwa [add_block] at this | exact this) GW161.out))) _).trans (hHeld.2.2.2.2.2.2.2))))))⟩ (fun hHeld => ?_)
             clear hK K
             refine done_ (done_of HT_.out (by kernel_rfl)) ?_
             go_upto_region 18 with (fail)
             go_cut [114] (fun v114 wc => ∃ (kq : Nat) (x114_43 : Bool), v114 = .bool x114_43 ∧ Aside0 (r_Check.j5 kq x6_4 x114_43 l0_0 l0_1 = some r) ∧ Aside0 (kq ≤ k4) ∧ Aside0 (wc.heap[gb153]? = some (.cells #[(.slice (some ad158) l0_0.length c0_0), (.slice A0_1 l0_1.length c0_1)] 25 (0, 0))) ∧ Aside0 (wc.heap[gb160]? = some (.cells #[.int .i64 ((rd_T54 l0_0 (ji40)).f0), .int .i64 ((rd_T54 l0_0 (ji40)).f1), .int .i64 ((rd_T54 l0_0 (ji40)).f2)] 54 (0, 0))) ∧ Aside0 (wc.heap[gb161]? = some (.cells #[.int .i64 ((rd_T54 l0_0 x6_4).f0), .int .i64 ((rd_T54 l0_0 x6_4).f1), .int .i64 ((rd_T54 l0_0 x6_4).f2)] 54 (0, 0))) ∧ Aside0 (Below w.heap.size w wc))
             case first =>
              have H := HC44.out
              clear HC44
              by_cases c56 : ((rd_T54 l0_0 (ji40)).f0) > ((rd_T54 l0_0 x6_4).f0)
              ·rw [if_pos c56] at H
               have c56b0 : decide (((rd_T54 l0_0 x6_4).f0) < ((rd_T54 l0_0 (ji40)).f0)) = true := decide_eq_true c56
               clear c56
               (first | rw [c56b0] | (simp only [i64_w, i32_w]; rw [c56b0]) | skip)
               have H' := am H
               clear H
               have hnb57 := NB160_153.out
               have hnc57 := NB153_160.out
               have hnb58 := NB160_161.out
               have hnc58 := NB161_160.out
               have := yC1 BK160
               have := kC1 BK160
               have := kC2 BK160
               have := bf BK160.out 0
               have := bf BK160.out 1
               have := bf BK160.out 2
               have hnb60 := NB161_153.out
               have hnc60 := NB153_161.out
               have := yC1 BK161
               have := kC1 BK161
               have := kC2 BK161
               have := bf BK161.out 0
               have := bf BK161.out 1
               have := bf BK161.out 2
               go_wp2
               go_meet
               case rel => exact ⟨_, (true), sqD, H', ⟨by have := HJ1.out; have := HK2.out; have := HK3.out; have := HK4.out; first | omega | exact Nat.le_refl _⟩, ⟨by (with_reducible repeat first | apply bN | apply bd | apply ba); refine bF ?_ NB153_161.out _; (with_reducible repeat first | apply bN | apply bd | apply ba); refine bF ?_ NB153_161.out _; (with_reducible repeat first | apply bN | apply bd | apply ba); refine bF ?_ NB153_161.out _; (with_reducible repeat first | apply bN | apply bd | apply ba); refine bF ?_ NB153_160.out _; (with_reducible repeat first | apply bN | apply bd | apply ba); refine bF ?_ NB153_160.out _; (with_reducible repeat first | apply bN | apply bd | apply ba); refine bF ?_ NB153_160.out _; (with_reducible repeat first | apply bN | apply bd | apply ba); exact BK153.out⟩, ⟨by (with_reducible repeat first | apply bN | apply bd | apply ba); refine bF ?_ NB160_161.out _; (with_reducible repeat first | apply bN | apply bd | apply ba); refine bF ?_ NB160_161.out _; (with_reducible repeat first | apply bN | apply bd | apply ba); refine bF ?_ NB160_161.out _; (with_reducible repeat first | apply bN | apply bd | apply ba); refine bp (cs := #[.int .i64 ((rd_T54 l0_0 (ji40)).f0), .int .i64 ((rd_T54 l0_0 (ji40)).f1), .int .i64 0]) ?_ 2 _ rfl; (with_reducible repeat first | apply bN | apply bd | apply ba); refine bp (cs := #[.int .i64 ((rd_T54 l0_0 (ji40)).f0), .int .i64 0, .int .i64 0]) ?_ 1 _ rfl; (with_reducible repeat first | apply bN | apply bd | apply ba); refine bp (cs := #[.int .i64 0, .int .i64 0, .int .i64 0]) ?_ 0 _ rfl; (with_reducible repeat first | apply bN | apply bd | apply ba); exact BK160.out⟩, ⟨by (with_reducible repeat first | apply bN | apply bd | apply ba); refine bp (cs := #[.int .i64 ((rd_T54 l0_0 x6_4).f0), .int .i64 ((rd_T54 l0_0 x6_4).f1), .int .i64 0]) ?_ 2 _ rfl; (with_reducible repeat first | apply bN | apply bd | apply ba); refine bp (cs := #[.int .i64 ((rd_T54 l0_0 x6_4).f0), .int .i64 0, .int .i64 0]) ?_ 1 _ rfl; (with_reducible repeat first | apply bN | apply bd | apply ba); refine bp (cs := #[.int .i64 0, .int .i64 0, .int .i64 0]) ?_ 0 _ rfl; (with_reducible repeat first | apply bN | apply bd | apply ba); refine bF ?_ NB161_160.out _; (with_reducible repeat first | apply bN | apply bd | apply ba); refine bF ?_ NB161_160.out _; (with_reducible repeat first | apply bN | apply bd | apply ba); refine bF ?_ NB161_160.out _; (with_reducible repeat first | apply bN | apply bd | apply ba); exact BK161.out⟩, ⟨fW HB.out⟩⟩
              rw [if_neg c56] at H
              have c56b0 : decide (((rd_T54 l0_0 x6_4).f0) < ((rd_T54 l0_0 (ji40)).f0)) = false := decide_eq_false c56
              clear c56
              (first | rw [c56b0] | (simp only [i64_w, i32_w]; rw [c56b0]) | skip)
              by_cases c62 : ((rd_T54 l0_0 (ji40)).f0) = ((rd_T54 l0_0 x6_4).f0)
              ·rw [if_pos c62] at H
               have c62b0 : (((rd_T54 l0_0 (ji40)).f0) == ((rd_T54 l0_0 x6_4).f0)) = true := beq_iff_eq.mpr c62
               have c62b1 : (((rd_T54 l0_0 (ji40)).f0) != ((rd_T54 l0_0 x6_4).f0)) = false := bne_eq_false_iff_eq.mpr c62
               clear c62
               have H' := am H
               clear H
               have hnb63 := NB160_153.out
               have hnc63 := NB153_160.out
               have hnb64 := NB160_161.out
               have hnc64 := NB161_160.out
               have := yC1 BK160
               have := kC1 BK160
               have := kC2 BK160
               have := bf BK160.out 0
               have := bf BK160.out 1
               have := bf BK160.out 2
               have hnb66 := NB161_153.out
               have hnc66 := NB153_161.out
               have := yC1 BK161
               have := kC1 BK161
               have := kC2 BK161
               have := bf BK161.out 0
               have := bf BK161.out 1
               have := bf BK161.out 2
               go_wp2
               go_meet
               case rel => exact ⟨_, (decide (((rd_T54 l0_0 (ji40)).f2) > ((rd_T54 l0_0 x6_4).f1))), (by first | rfl | (simp; done) | (simp only [← hji40] <;> (first | rfl | simp)) | (simp [*]; done)), H', ⟨by have := HJ1.out; have := HK2.out; have := HK3.out; have := HK4.out; first | omega | exact Nat.le_refl _⟩, ⟨by (with_reducible repeat first | apply bN | apply bd | apply ba); refine bF ?_ NB153_161.out _; (with_reducible repeat first | apply bN | apply bd | apply ba); refine bF ?_ NB153_161.out _; (with_reducible repeat first | apply bN | apply bd | apply ba); refine bF ?_ NB153_161.out _; (with_reducible repeat first | apply bN | apply bd | apply ba); refine bF ?_ NB153_160.out _; (with_reducible repeat first | apply bN | apply bd | apply ba); refine bF ?_ NB153_160.out _; (with_reducible repeat first | apply bN | apply bd | apply ba); refine bF ?_ NB153_160.out _; (with_reducible repeat first | apply bN | apply bd | apply ba); exact BK153.out⟩, ⟨by (with_reducible repeat first | apply bN | apply bd | apply ba); refine bF ?_ NB160_161.out _; (with_reducible repeat first | apply bN | apply bd | apply ba); refine bF ?_ NB160_161.out _; (with_reducible repeat first | apply bN | apply bd | apply ba); refine bF ?_ NB160_161.out _; (with_reducible repeat first | apply bN | apply bd | apply ba); refine bp (cs := #[.int .i64 ((rd_T54 l0_0 (ji40)).f0), .int .i64 ((rd_T54 l0_0 (ji40)).f1), .int .i64 0]) ?_ 2 _ rfl; (with_reducible repeat first | apply bN | apply bd | apply ba); refine bp (cs := #[.int .i64 ((rd_T54 l0_0 (ji40)).f0), .int .i64 0, .int .i64 0]) ?_ 1 _ rfl; (with_reducible repeat first | apply bN | apply bd | apply ba); refine bp (cs := #[.int .i64 0, .int .i64 0, .int .i64 0]) ?_ 0 _ rfl; (with_reducible repeat first | apply bN | apply bd | apply ba); exact BK160.out⟩, ⟨by (with_reducible repeat first | apply bN | apply bd | apply ba); refine bp (cs := #[.int .i64 ((rd_T54 l0_0 x6_4).f0), .int .i64 ((rd_T54 l0_0 x6_4).f1), .int .i64 0]) ?_ 2 _ rfl; (with_reducible repeat first | apply bN | apply bd | apply ba); refine bp (cs := #[.int .i64 ((rd_T54 l0_0 x6_4).f0), .int .i64 0, .int .i64 0]) ?_ 1 _ rfl; (with_reducible repeat first | apply bN | apply bd | apply ba); refine bp (cs := #[.int .i64 0, .int .i64 0, .int .i64 0]) ?_ 0 _ rfl; (with_reducible repeat first | apply bN | apply bd | apply ba); refine bF ?_ NB161_160.out _; (with_reducible repeat first | apply bN | apply bd | apply ba); refine bF ?_ NB161_160.out _; (with_reducible repeat first | apply bN | apply bd | apply ba); refine bF ?_ NB161_160.out _; (with_reducible repeat first | apply bN | apply bd | apply ba); exact BK161.out⟩, ⟨fW HB.out⟩⟩
              rw [if_neg c62] at H
              have c62b0 : (((rd_T54 l0_0 (ji40)).f0) == ((rd_T54 l0_0 x6_4).f0)) = false := beq_eq_false_iff_ne.mpr c62
              have c62b1 : (((rd_T54 l0_0 (ji40)).f0) != ((rd_T54 l0_0 x6_4).f0)) = true := bne_iff_ne.mpr c62
              have H' := am H
              clear H
              have hnb68 := NB160_153.out
              have hnc68 := NB153_160.out
              have hnb69 := NB160_161.out
              have hnc69 := NB161_160.out
              have := yC1 BK160
              have := kC1 BK160
              have := kC2 BK160
              have := bf BK160.out 0
              have := bf BK160.out 1
              have := bf BK160.out 2
              have hnb71 := NB161_153.out
              have hnc71 := NB153_161.out
              have := yC1 BK161
              have := kC1 BK161
              have := kC2 BK161
              have := bf BK161.out 0
              have := bf BK161.out 1
              have := bf BK161.out 2
              go_wp2
              go_meet
              case rel => exact ⟨_, (false), sqD, H', ⟨by have := HJ1.out; have := HK2.out; have := HK3.out; have := HK4.out; first | omega | exact Nat.le_refl _⟩, ⟨by (with_reducible repeat first | apply bN | apply bd | apply ba); refine bF ?_ NB153_161.out _; (with_reducible repeat first | apply bN | apply bd | apply ba); refine bF ?_ NB153_161.out _; (with_reducible repeat first | apply bN | apply bd | apply ba); refine bF ?_ NB153_161.out _; (with_reducible repeat first | apply bN | apply bd | apply ba); refine bF ?_ NB153_160.out _; (with_reducible repeat first | apply bN | apply bd | apply ba); refine bF ?_ NB153_160.out _; (with_reducible repeat first | apply bN | apply bd | apply ba); refine bF ?_ NB153_160.out _; (with_reducible repeat first | apply bN | apply bd | apply ba); exact BK153.out⟩, ⟨by (with_reducible repeat first | apply bN | apply bd | apply ba); refine bF ?_ NB160_161.out _; (with_reducible repeat first | apply bN | apply bd | apply ba); refine bF ?_ NB160_161.out _; (with_reducible repeat first | apply bN | apply bd | apply ba); refine bF ?_ NB160_161.out _; (with_reducible repeat first | apply bN | apply bd | apply ba); refine bp (cs := #[.int .i64 ((rd_T54 l0_0 (ji40)).f0), .int .i64 ((rd_T54 l0_0 (ji40)).f1), .int .i64 0]) ?_ 2 _ rfl; (with_reducible repeat first | apply bN | apply bd | apply ba); refine bp (cs := #[.int .i64 ((rd_T54 l0_0 (ji40)).f0), .int .i64 0, .int .i64 0]) ?_ 1 _ rfl; (with_reducible repeat first | apply bN | apply bd | apply ba); refine bp (cs := #[.int .i64 0, .int .i64 0, .int .i64 0]) ?_ 0 _ rfl; (with_reducible repeat first | apply bN | apply bd | apply ba); exact BK160.out⟩, ⟨by (with_reducible repeat first | apply bN | apply bd | apply ba); refine bp (cs := #[.int .i64 ((rd_T54 l0_0 x6_4).f0), .int .i64 ((rd_T54 l0_0 x6_4).f1), .int .i64 0]) ?_ 2 _ rfl; (with_reducible repeat first | apply bN | apply bd | apply ba); refine bp (cs := #[.int .i64 ((rd_T54 l0_0 x6_4).f0), .int .i64 0, .int .i64 0]) ?_ 1 _ rfl; (with_reducible repeat first | apply bN | apply bd | apply ba); refine bp (cs := #[.int .i64 0, .int .i64 0, .int .i64 0]) ?_ 0 _ rfl; (with_reducible repeat first | apply bN | apply bd | apply ba); refine bF ?_ NB161_160.out _; (with_reducible repeat first | apply bN | apply bd | apply ba); refine bF ?_ NB161_160.out _; (with_reducible repeat first | apply bN | apply bd | apply ba); refine bF ?_ NB161_160.out _; (with_reducible repeat first | apply bN | apply bd | apply ba); exact BK161.out⟩, ⟨fW HB.out⟩⟩
             case rest =>
              clear HC44
              try clear c1;try clear p1;try clear q1;try clear hx1;try clear c2;try clear p2;try clear c3;try clear c4;try clear c4b0;try clear c4b1;try clear c5;try clear c6;try clear p6;try clear c7;try clear c8;try clear c8b0;try clear c9;try clear c9b0;try clear c13;try clear c15;try clear c15b0;try clear p15;try clear q15;try clear hx15;try clear c16;try clear c18;try clear c18b0;try clear c19;try clear c21;try clear c21b0;try clear c22;try clear c24;try clear c24b0;try clear c25;try clear c27;try clear c29;try clear c31;try clear c31b0;try clear c32;try clear c32b0;try clear c33;try clear c33b0;try clear c35;try clear c35b0;try clear c39;try clear c39b0;try clear c41;try clear c41b0;try clear c42;try clear c42b0;try clear c43;try clear c43b0;try clear c56;try clear c56b0;try clear c57;try clear c58;try clear c60;try clear c62;try clear c62b0;try clear c62b1;try clear c63;try clear c64;try clear p64;try clear c66;try clear c68;try clear c69;try clear c71;try clear hx154_0;try clear hx154_1;try clear hx154_2;try clear hx156_0;try clear hx157_0;try clear hx158_0;try clear hx158_1;try clear hx158_2;try clear hx159_0;try clear hx159_1;try clear hx159_2;try clear p1;try clear p15;try clear p154;try clear p156;try clear p157;try clear p158;try clear p159;try clear p2;try clear p6;try clear q1;try clear q15;try clear q154;try clear q156;try clear q157;try clear q158;try clear q159
              obtain ⟨kq, x114_43, rfl, HA, HJ43, BK153, BK160, BK161, HB⟩ := hcut
              cases kq with
              | zero => exact absurd HA.out (by simp [r_Check.j5])
              | succ kj43 =>
               have H := HA.out
               clear HA
               simp only [r_Check.j5] at H
               by_cases c73 : x114_43 = true
               ·subst c73
                have H1 : (some 5) = some r := by rw [if_pos rfl] at H; exact H
                clear H
                have H := H1
                clear H1
                obtain rfl := Option.some.inj H
                go_wp2
                go_ret
                exact ⟨by first | rfl | (simp [errW_none, errW_some] <;> rfl) | (simp only [← hji40]; first | rfl | (simp [errW_none, errW_some] <;> rfl)) | (simp [*, errW_none, errW_some] <;> rfl), fW HB.out⟩
               replace c73 := Bool.eq_false_iff.mpr c73
               subst c73
               have H1 : (r_Check.l2 kj43 (wrap64 (x6_4 + 1)) l0_0 l0_1) = some r := by rw [if_neg (show ¬ (false = true) by decide)] at H; exact H
               clear H
               have H := H1
               clear H1
               have H' := am H
               clear H
               go_wp2
               go_roundg kj43
               case measure => have := HJ1.out; have := HK2.out; have := HK3.out; have := HK4.out; have := HJ43.out; omega
               case rel => exact ⟨(wrap64 (x6_4 + 1)), sqD, H', ⟨by have := HJ1.out; have := HK2.out; have := HK3.out; have := HK4.out; have := HJ43.out; omega⟩, ⟨fb BK153.out⟩, ⟨fW HB.out⟩⟩
            ·rw [if_neg c39] at H
             have c39b0 : decide (x6_4 < (l0_0.length : Int)) = false := decide_eq_false c39
             clear c39
             have H' := am H
             clear H
             have := yC1 BK153
             have := kC1 BK153
             have := bf BK153.out 0
             have := bf BK153.out 1
             go_wp2
             go_loopg [9] k4 (fun kq v9 w' => ∃ (x9_5 : Int), v9 = .int .i64 x9_5 ∧ Aside0 (r_Check.l3 kq x9_5 l0_0 l0_1 = some r) ∧ Aside0 (kq ≤ k4) ∧ Aside0 (w'.heap[gb153]? = some (.cells #[(.slice A0_0 l0_0.length c0_0), (.slice A0_1 l0_1.length c0_1)] 25 (0, 0))) ∧ Aside0 (Below w.heap.size w w'))
             case atStart => exact ⟨(1), sqD, H', ⟨Nat.le_refl _⟩, ⟨fb BK153.out⟩, ⟨fW HB.out⟩⟩
             case round =>
              clear H'
              try clear c1;try clear p1;try clear q1;try clear hx1;try clear c2;try clear p2;try clear c3;try clear c4;try clear c4b0;try clear c4b1;try clear c5;try clear c6;try clear p6;try clear c7;try clear c8;try clear c8b0;try clear c9;try clear c9b0;try clear c13;try clear c15;try clear c15b0;try clear p15;try clear q15;try clear hx15;try clear c16;try clear c18;try clear c18b0;try clear c19;try clear c21;try clear c21b0;try clear c22;try clear c24;try clear c24b0;try clear c25;try clear c27;try clear c29;try clear c31;try clear c31b0;try clear c32;try clear c32b0;try clear c33;try clear c33b0;try clear c35;try clear c35b0;try clear c39;try clear c39b0;try clear c41;try clear c41b0;try clear c42;try clear c42b0;try clear c43;try clear c43b0;try clear c56;try clear c56b0;try clear c57;try clear c58;try clear c60;try clear c62;try clear c62b0;try clear c62b1;try clear c63;try clear c64;try clear p64;try clear c66;try clear c68;try clear c69;try clear c71;try clear c73;try clear hx154_0;try clear hx154_1;try clear hx154_2;try clear hx156_0;try clear hx157_0;try clear hx158_0;try clear hx158_1;try clear hx158_2;try clear hx159_0;try clear hx159_1;try clear hx159_2;try clear p1;try clear p15;try clear p154;try clear p156;try clear p157;try clear p158;try clear p159;try clear p2;try clear p6;try clear p64;try clear q1;try clear q15;try clear q154;try clear q156;try clear q157;try clear q158;try clear q159
              obtain ⟨x9_5, rfl, HA, HK5, BK153, HB⟩ := hrel
              cases gk with
              | zero => exact absurd HA.out (by simp [r_Check.l3])
              | succ k5 =>
               have H := HA.out
               clear HA
               simp only [r_Check.l3] at H
               by_cases c75 : x9_5 < (l0_1.length : Int)
               ·rw [if_pos c75] at H
                have c75b0 : decide (x9_5 < (l0_1.length : Int)) = true := decide_eq_true c75
                clear c75
                obtain ⟨ji76, hji76⟩ : ∃ j_ : Int, (wrap64 (x9_5 - 1)) = j_ := ⟨_, rfl⟩
                replace H : (if 0 ≤ (ji76) then (if (ji76) < (l0_1.length : Int) then (if 0 ≤ x9_5 then (if (rd l0_1 (ji76)) ≥ (rd l0_1 x9_5) then (some 5) else (r_Check.l3 k5 (wrap64 (x9_5 + 1)) l0_0 l0_1)) else (none)) else (none)) else (none)) = some r := by first | (rw [hji76] at H; exact H) | (simp only [hji76] at H ⊢; exact H)
                have hji76w : (IntKind.i64.wrap (x9_5 - 1)) = ji76 := (i64_w _).trans hji76
                by_cases c77 : 0 ≤ (ji76)
                rotate_left
                ·rw [if_neg c77] at H
                 exact absurd H (by simp)
                rw [if_pos c77] at H
                have c77b0 : decide (0 ≤ (ji76)) = true := decide_eq_true c77
                clear c77
                by_cases c78 : (ji76) < (l0_1.length : Int)
                rotate_left
                ·rw [if_neg c78] at H
                 exact absurd H (by simp)
                rw [if_pos c78] at H
                have c78b0 : decide ((ji76) < (l0_1.length : Int)) = true := decide_eq_true c78
                clear c78
                by_cases c79 : 0 ≤ x9_5
                rotate_left
                ·rw [if_neg c79] at H
                 exact absurd H (by simp)
                rw [if_pos c79] at H
                have c79b0 : decide (0 ≤ x9_5) = true := decide_eq_true c79
                clear c79
                by_cases c80 : (rd l0_1 (ji76)) ≥ (rd l0_1 x9_5)
                ·rw [if_pos c80] at H
                 have c80b0 : decide ((rd l0_1 x9_5) ≤ (rd l0_1 (ji76))) = true := decide_eq_true c80
                 clear c80
                 obtain rfl := Option.some.inj H
                 have := yC1 BK153
                 have := kC1 BK153
                 have := bf BK153.out 0
                 have := bf BK153.out 1
                 try go_wp2
                 have n0_ := am (bd BK153.out)
                 have n1_ := am (below_drew1 HB.out)
                 clear BK153 HB
                 have BK153 := n0_
                 have HB := n1_
                 clear n0_ n1_
                 have p162 : 0 ≤ ((ji76) : Int) := of_decide_eq_true (by assumption)
                 have q162 : (ji76) < (l0_1.length : Int) := of_decide_eq_true (by assumption)
                 obtain ⟨ad162, e162, hx162_0⟩ := Kd.at_int HR0_1.out (ji76) p162 q162
                 have hw162_0 := hx162_0
                 cases e162
                 replace hx162_0 := cl HB hx162_0
                 replace p162 := eq_true p162
                 replace q162 := eq_true q162
                 have p163 : 0 ≤ (x9_5 : Int) := of_decide_eq_true (by assumption)
                 have q163 : x9_5 < (l0_1.length : Int) := of_decide_eq_true (by assumption)
                 obtain ⟨ad163, e163, hx163_0⟩ := Kd.at_int HR0_1.out x9_5 p163 q163
                 have hw163_0 := hx163_0
                 obtain rfl : ad162 = ad163 := (by injection e163)
                 replace hx163_0 := cl HB hx163_0
                 replace p163 := eq_true p163
                 replace q163 := eq_true q163
                 refine start_ (n := 12) (S := fun w' => w'.cell? ⟨gb153, 0, none⟩ = some (.slice A0_0 l0_0.length c0_0) ∧ w'.cell? ⟨gb153, 1, none⟩ = some (.slice (some ad162) l0_1.length c0_1) ∧ w'.cell? (ad162.add ((ji76)).toNat) = some (.int .i64 (rd l0_1 (ji76))) ∧ w'.cell? (ad162.add (x9_5).toNat) = some (.int .i64 (rd l0_1 x9_5))) (ds := []) #[F,F,F,F,F,F,F,F,F,F,F,F] (by kernel_rfl) rfl rfl ⟨(bc BK153.out 0).trans rfl, (bc BK153.out 1).trans rfl, ((HB.out.cell (bq w _ hw162_0)).trans hw162_0), ((HB.out.cell (bq w _ hw163_0)).trans hw163_0)⟩ (fun hHeld => ?_); refine with_tabW r_Check.tab23 r_Check.bits23 (fun HT_ HW_ => ?_)
                 generalize wr.drew = w82 at BK153 HB hx162_0 hx163_0 hHeld ⊢
                 refine pu (i := 0) (N := some 122) (fl 12 1 []) HT_ ?_
                 refine pu (i := 2) (N := some 124) (fl 12 1 [2]) HT_ ?_
                 refine pu (i := 3) (N := some 125) (fl 12 1 [2, 3]) HT_ ?_
                 refine pu (i := 6) (N := some 128) (fl 12 1 [2, 3, 6]) HT_ ?_
                 refine pu (i := 8) (N := some 130) (fl 12 1 [2, 3, 6, 8]) HT_ ?_
                 refine tk (i := 1) (N := some 123) (fl 12 4 [6, 8]) HT_ HW_ hHeld ?_
                 refine pu (i := 4) (N := some 126) (fl 12 5 [6, 8]) HT_ ?_
                 refine tk (i := 5) (N := some 127) (fl 12 7 [8]) HT_ HW_ hHeld ?_
                 refine tk (i := 7) (N := some 129) (fl 12 9 []) HT_ HW_ hHeld ?_
                 refine pu (i := 9) (N := some 131) (fl 12 10 []) HT_ ?_
                 refine tk (i := 10) (N := some 132) (fl 12 11 []) HT_ HW_ hHeld ?_
                 refine pu (i := 11) (N := some 133) (fl 12 12 []) HT_ ?_
                 refine done_ (done_of HT_.out (by kernel_rfl)) ?_
                 try go_wp2
                 go_ret
                 exact ⟨by first | rfl | (simp [errW_none, errW_some] <;> rfl) | (simp only [← hji76]; first | rfl | (simp [errW_none, errW_some] <;> rfl)) | (simp [*, errW_none, errW_some] <;> rfl), fW HB.out⟩
                rw [if_neg c80] at H
                have c80b0 : decide ((rd l0_1 x9_5) ≤ (rd l0_1 (ji76))) = false := decide_eq_false c80
                clear c80
                have H' := am H
                clear H
                have := yC1 BK153
                have := kC1 BK153
                have := bf BK153.out 0
                have := bf BK153.out 1
                try go_wp2
                have n0_ := am (bd BK153.out)
                have n1_ := am (below_drew1 HB.out)
                clear BK153 HB
                have BK153 := n0_
                have HB := n1_
                clear n0_ n1_
                have p162 : 0 ≤ ((ji76) : Int) := of_decide_eq_true (by assumption)
                have q162 : (ji76) < (l0_1.length : Int) := of_decide_eq_true (by assumption)
                obtain ⟨ad162, e162, hx162_0⟩ := Kd.at_int HR0_1.out (ji76) p162 q162
                have hw162_0 := hx162_0
                cases e162
                replace hx162_0 := cl HB hx162_0
                replace p162 := eq_true p162
                replace q162 := eq_true q162
                have p163 : 0 ≤ (x9_5 : Int) := of_decide_eq_true (by assumption)
                have q163 : x9_5 < (l0_1.length : Int) := of_decide_eq_true (by assumption)
                obtain ⟨ad163, e163, hx163_0⟩ := Kd.at_int HR0_1.out x9_5 p163 q163
                have hw163_0 := hx163_0
                obtain rfl : ad162 = ad163 := (by injection e163)
                replace hx163_0 := cl HB hx163_0
                replace p163 := eq_true p163
                replace q163 := eq_true q163
                refine start_ (n := 12) (S := fun w' => w'.cell? ⟨gb153, 0, none⟩ = some (.slice A0_0 l0_0.length c0_0) ∧ w'.cell? ⟨gb153, 1, none⟩ = some (.slice (some ad162) l0_1.length c0_1) ∧ w'.cell? (ad162.add ((ji76)).toNat) = some (.int .i64 (rd l0_1 (ji76))) ∧ w'.cell? (ad162.add (x9_5).toNat) = some (.int .i64 (rd l0_1 x9_5))) (ds := []) #[F,F,F,F,F,F,F,F,F,F,F,F] (by kernel_rfl) rfl rfl ⟨(bc BK153.out 0).trans rfl, (bc BK153.out 1).trans rfl, ((HB.out.cell (bq w _ hw162_0)).trans hw162_0), ((HB.out.cell (bq w _ hw163_0)).trans hw163_0)⟩ (fun hHeld => ?_); refine with_tabW r_Check.tab23 r_Check.bits23 (fun HT_ HW_ => ?_)
                generalize wr.drew = w84 at BK153 HB hx162_0 hx163_0 hHeld ⊢
                refine pu (i := 0) (N := some 122) (fl 12 1 []) HT_ ?_
                refine pu (i := 2) (N := some 124) (fl 12 1 [2]) HT_ ?_
                refine pu (i := 3) (N := some 125) (fl 12 1 [2, 3]) HT_ ?_
                refine pu (i := 6) (N := some 128) (fl 12 1 [2, 3, 6]) HT_ ?_
                refine pu (i := 8) (N := some 130) (fl 12 1 [2, 3, 6, 8]) HT_ ?_
                refine tk (i := 1) (N := some 123) (fl 12 4 [6, 8]) HT_ HW_ hHeld ?_
                refine pu (i := 4) (N := some 126) (fl 12 5 [6, 8]) HT_ ?_
                refine tk (i := 5) (N := some 127) (fl 12 7 [8]) HT_ HW_ hHeld ?_
                refine tk (i := 7) (N := some 129) (fl 12 9 []) HT_ HW_ hHeld ?_
                refine pu (i := 9) (N := some 131) (fl 12 10 []) HT_ ?_
                refine tk (i := 10) (N := some 132) (fl 12 11 []) HT_ HW_ hHeld ?_
                refine pu (i := 11) (N := some 133) (fl 12 12 []) HT_ ?_
                refine done_ (done_of HT_.out (by kernel_rfl)) ?_
                try go_wp2
                go_roundg k5
                case measure => have := HJ1.out; have := HK2.out; have := HK3.out; have := HK4.out; have := HK5.out; omega
                case rel => exact ⟨(wrap64 (x9_5 + 1)), sqD, H', ⟨by have := HJ1.out; have := HK2.out; have := HK3.out; have := HK4.out; have := HK5.out; omega⟩, ⟨fb BK153.out⟩, ⟨fW HB.out⟩⟩
               ·rw [if_neg c75] at H
                have c75b0 : decide (x9_5 < (l0_1.length : Int)) = false := decide_eq_false c75
                clear c75
                obtain rfl := Option.some.inj H
                have := yC1 BK153
                have := kC1 BK153
                have := bf BK153.out 0
                have := bf BK153.out 1
                go_wp2
                go_ret
                exact ⟨sqE, fW HB.out⟩

end Go.Proofs.Ytpjgmlnnhcnelaa.QA
