import Derived.Test.YtcofgnbopodahaaKQAx0
import Derived.Test.YtcofgnbopodahaaKQAx16
import Derived.Test.YtcofgnbopodahaaKQAx22
namespace Go.Proofs.Ytcofgnbopodahaa.QA
open Go.RowKit Go.Proofs.YtcofgnbopodahaaW.PrintWords Go.Proofs.YtcofgnbopodahaaW.PrintLast Go.Proofs.YtcofgnbopodahaaW.PrintMore
open Aside0 renaming mk → am
attribute [local go_sem] max2_int min2_int max_two min_two max_three min_three max_four min_four
set_option linter.unusedVariables false
set_option linter.unusedSimpArgs false

def r_volume.f (a0_0 : Int) (a0_1 : Int) (a0_2 : Int) (a0_3 : Int) (a0_4 : Int) (a0_5 : Int) : Option (Int) := some (wrap64 ((wrap64 ((wrap64 (a0_3 - a0_0)) * (wrap64 (a0_4 - a0_1)))) * (wrap64 (a0_5 - a0_2))))
set_option maxHeartbeats 8000000 in
set_option maxRecDepth 100000 in
theorem r_volume.calls (a0_0 : Int) (a0_1 : Int) (a0_2 : Int) (a0_3 : Int) (a0_4 : Int) (a0_5 : Int) (r : Int) (w : World) (h : r_volume.f a0_0 a0_1 a0_2 a0_3 a0_4 a0_5 = some r) :
  Calls Try.prog 58 #[.agg #[.int .i64 a0_0, .int .i64 a0_1, .int .i64 a0_2, .int .i64 a0_3, .int .i64 a0_4, .int .i64 a0_5]] w fun e w' => e = .returned (.int .i64 r) ∧ Below w.heap.size w w' := by
 have hu43 := Try.underlying43
 have HB := am (Below.refl w.heap.size w)
 have H : (some (wrap64 ((wrap64 ((wrap64 (a0_3 - a0_0)) * (wrap64 (a0_4 - a0_1)))) * (wrap64 (a0_5 - a0_2))))) = some r := h
 clear h
 obtain rfl := Option.some.inj H
 go_enter Try.func58, Try.ntmps58
 go_wp2_with (first | ((with_reducible refine gate_dst (N := 1) rfl ?_); refine box_event ?hg (N := 1) ?hd (cs := #[.int .i64 a0_0, .int .i64 a0_1, .int .i64 a0_2, .int .i64 a0_3, .int .i64 a0_4, .int .i64 a0_5]) (t := 43) ?hr ?_; (case hd | hg => rfl); (case hr => first | (go_simp; done) | (go_simp; rfl)); intro gb473 hg w2 hbox hb; have BK473 := am hbox; have GW473 := sG HB hg; have GE473 := sG HB hg; replace HB := bS HB hb; clear hb hbox hg; obtain ⟨_, _, _, _, _, _, _, _, _, _, _, _⟩ := zC6 BK473))
 go_ret
 exact ⟨sqE, fW HB.out⟩

mutual
def r_Volume.l0 : Nat → List (S68) → Int → Int → List (S43) → Int → Option (Int)
 | 0, _, _, _, _, _ => none
 | k + 1, x0, x2, x7, x8, x9 => if x9 < (x8.length : Int) then (if 0 ≤ x9 then ((r_State.f k x0 ((rd_T43 x8 x9).f0.f0) ((rd_T43 x8 x9).f0.f1) ((rd_T43 x8 x9).f0.f2)).bind fun t479 => (if t479 = x2 then ((r_volume.f ((rd_T43 x8 x9).f0.f0) ((rd_T43 x8 x9).f0.f1) ((rd_T43 x8 x9).f0.f2) ((rd_T43 x8 x9).f1.f0) ((rd_T43 x8 x9).f1.f1) ((rd_T43 x8 x9).f1.f2)).bind fun t481 => (r_Volume.j1 k x0 x2 (wrap64 (x7 + t481)) x8 x9)) else (r_Volume.j1 k x0 x2 x7 x8 x9))) else (none)) else (some x7)
def r_Volume.j1 : Nat → List (S68) → Int → Int → List (S43) → Int → Option (Int)
 | 0, _, _, _, _, _ => none
 | k + 1, x0, x2, x7, x8, x9 => r_Volume.l0 k x0 x2 x7 x8 (wrap64 (x9 + 1))
end
def r_Volume.f (k : Nat) (l0 : List (S68)) (a1_0 : Int) (a1_1 : Int) (a1_2 : Int) (a1_3 : Int) (a1_4 : Int) (a1_5 : Int) (a2 : Int) : Option (Int) := (r_Parts.f k l0 a1_0 a1_1 a1_2 a1_3 a1_4 a1_5).bind fun t475 => (r_Volume.l0 k l0 a2 0 t475 0)
set_option maxHeartbeats 8000000 in
set_option maxRecDepth 100000 in
theorem r_Volume.calls (k : Nat) (A0 : Option Addr) (c0 : Nat) (l0 : List (S68)) (a1_0 : Int) (a1_1 : Int) (a1_2 : Int) (a1_3 : Int) (a1_4 : Int) (a1_5 : Int) (a2 : Int) (r : Int) (w : World) (hr0 : Kd.C k68 w A0 l0.length l0) (hc0 : l0.length ≤ c0) (h : r_Volume.f k l0 a1_0 a1_1 a1_2 a1_3 a1_4 a1_5 a2 = some r) :
  Calls Try.prog 25 #[.slice A0 l0.length c0, .agg #[.int .i64 a1_0, .int .i64 a1_1, .int .i64 a1_2, .int .i64 a1_3, .int .i64 a1_4, .int .i64 a1_5], .int .i64 a2] w fun e w' => e = .returned (.int .i64 r) ∧ Below w.heap.size w w' := by
 have hu43 := Try.underlying43
 have hu24 := Try.underlying24
 have HR0 := am hr0
 have HC0 := am hc0
 clear hr0 hc0
 have HB := am (Below.refl w.heap.size w)
 have H : ((r_Parts.f k l0 a1_0 a1_1 a1_2 a1_3 a1_4 a1_5).bind fun t475 => (r_Volume.l0 k l0 a2 0 t475 0)) = some r := h
 clear h
 replace H := Option.bind_eq_some_iff.mp H
 obtain ⟨t475, A40, H⟩ := H
 replace H : (r_Volume.l0 k l0 a2 0 t475 0) = some r := H
 have A4 := am A40
 clear A40
 have H' := am H
 clear H
 go_enter Try.func25, Try.ntmps25
 go_wp2_with (first | ((with_reducible refine gate_dst (N := 4) rfl ?_); refine box_event ?hg (N := 4) ?hd (cs := #[.int .i64 a1_0, .int .i64 a1_1, .int .i64 a1_2, .int .i64 a1_3, .int .i64 a1_4, .int .i64 a1_5]) (t := 43) ?hr ?_; (case hd | hg => rfl); (case hr => first | (go_simp; done) | (go_simp; rfl)); intro gb474 hg w5 hbox hb; have BK474 := am hbox; have GW474 := sG HB hg; have GE474 := sG HB hg; replace HB := bS HB hb; clear hb hbox hg; obtain ⟨_, _, _, _, _, _, _, _, _, _, _, _⟩ := zC6 BK474) | ((with_reducible refine gate_callee (f := 57) rfl ?_); refine goesL_ (some 12) rfl rfl Try.func57 (by kernel_rfl) rfl #[.slice A0 l0.length c0, .agg #[.int .i64 a1_0, .int .i64 a1_1, .int .i64 a1_2, .int .i64 a1_3, .int .i64 a1_4, .int .i64 a1_5]] rfl (by (try simp only [pml]); first | done | rfl | (simp only [pdt]; rfl)) ?_; (with_reducible refine (r_Parts.calls k _ _ l0 a1_0 a1_1 a1_2 a1_3 a1_4 a1_5 t475 _ ?side1 ?side2 A4.out).mono ?_); (case side1 => repeat (first | exact (Kd.C_below HR0.out HB.out) | (with_reducible refine Kd.C_alloc ?_ _) | (with_reducible refine Kd.C_drewN ?_ _) | (with_reducible refine Kd.C_drew ?_))); (case side2 => exact HC0.out); rintro e w7 ⟨v476, rfl, ho0, hb⟩; refine ⟨_, rfl, ?_⟩; have HO477 := am (Kd.R_lower (Kd.R_newB ho0 (g := gb474) (o := .cells #[.int .i64 a1_0, .int .i64 a1_1, .int .i64 a1_2, .int .i64 a1_3, .int .i64 a1_4, .int .i64 a1_5] 43 (0, 0)) (fb BK474.out)) (below_size (fW HB.out))); replace BK474 := bB BK474 hb; replace HB := bS HB hb; (try clear hb); (try clear hb2); (try clear hk); (try clear hi); (try clear ho0)))
 go_loopg [7, 9] k (fun kq v7 v9 w' => ∃ (x7_1 : Int) (x9_1 : Int), v7 = .int .i64 x7_1 ∧ v9 = .int .i64 x9_1 ∧ Aside0 (r_Volume.l0 kq l0 a2 x7_1 t475 x9_1 = some r) ∧ Aside0 (kq ≤ k) ∧ Aside0 (Kd.R k43 43 w' w.heap.size (fun k_ => k_ ≠ gb474) v476 t475) ∧ Aside0 (w'.heap[gb474]? = some (.cells #[.int .i64 a1_0, .int .i64 a1_1, .int .i64 a1_2, .int .i64 a1_3, .int .i64 a1_4, .int .i64 a1_5] 43 (0, 0))) ∧ Aside0 (Below w.heap.size w w'))
 case atStart => exact ⟨(0), (0), sqD, sqD, H', ⟨Nat.le_refl _⟩, ⟨by (with_reducible repeat (first | apply Kd.R_alloc | apply Kd.R_drewN | apply Kd.R_drew)); exact Kd.R_mono HO477.out (fun _ hk => hk.2)⟩, ⟨fb BK474.out⟩, ⟨fW HB.out⟩⟩
 case round =>
  clear H'
  try clear c2;try clear p2;try clear c5
  obtain ⟨x7_1, x9_1, rfl, rfl, HA, HK1, HO_8, BK474, HB⟩ := hrel
  cases gk with
  | zero => exact absurd HA.out (by simp [r_Volume.l0])
  | succ k1 =>
   have H := HA.out
   clear HA
   simp only [r_Volume.l0] at H
   by_cases c8 : x9_1 < (t475.length : Int)
   ·rw [if_pos c8] at H
    have c8b0 : decide (x9_1 < (t475.length : Int)) = true := decide_eq_true c8
    clear c8
    have HC9 := am H
    clear H
    obtain ⟨Ao10, co10, eo10⟩ := Kd.R_slice HO_8.out
    subst eo10
    go_upto_block 1 with (fail)
    go_cut [7] (fun v7 wc => ∃ (kq : Nat) (x7_8 : Int), v7 = .int .i64 x7_8 ∧ Aside0 (r_Volume.j1 kq l0 a2 x7_8 t475 x9_1 = some r) ∧ Aside0 (kq ≤ k1) ∧ Aside0 (Kd.R k43 43 wc w.heap.size (fun k_ => k_ ≠ gb474) (.slice Ao10 t475.length co10) t475) ∧ Aside0 (wc.heap[gb474]? = some (.cells #[.int .i64 a1_0, .int .i64 a1_1, .int .i64 a1_2, .int .i64 a1_3, .int .i64 a1_4, .int .i64 a1_5] 43 (0, 0))) ∧ Aside0 (Below w.heap.size w wc))
    case first =>
     have H := HC9.out
     clear HC9
     by_cases c11 : 0 ≤ x9_1
     rotate_left
     ·rw [if_neg c11] at H
      exact absurd H (by simp)
     rw [if_pos c11] at H
     have c11b0 : decide (0 ≤ x9_1) = true := decide_eq_true c11
     clear c11
     (first | rw [c11b0] | (simp only [i64_w, i32_w]; rw [c11b0]) | skip)
     replace H := Option.bind_eq_some_iff.mp H
     obtain ⟨t479, A120, H⟩ := H
     replace H : (if t479 = a2 then ((r_volume.f ((rd_T43 t475 x9_1).f0.f0) ((rd_T43 t475 x9_1).f0.f1) ((rd_T43 t475 x9_1).f0.f2) ((rd_T43 t475 x9_1).f1.f0) ((rd_T43 t475 x9_1).f1.f1) ((rd_T43 t475 x9_1).f1.f2)).bind fun t481 => (r_Volume.j1 k1 l0 a2 (wrap64 (x7_1 + t481)) t475 x9_1)) else (r_Volume.j1 k1 l0 a2 x7_1 t475 x9_1)) = some r := H
     have A12 := am A120
     clear A120
     by_cases c13 : t479 = a2
     ·rw [if_pos c13] at H
      have c13b0 : (t479 == a2) = true := beq_iff_eq.mpr c13
      have c13b1 : (t479 != a2) = false := bne_eq_false_iff_eq.mpr c13
      clear c13
      replace H := Option.bind_eq_some_iff.mp H
      obtain ⟨t481, A140, H⟩ := H
      replace H : (r_Volume.j1 k1 l0 a2 (wrap64 (x7_1 + t481)) t475 x9_1) = some r := H
      have A14 := am A140
      clear A140
      have H' := am H
      clear H
      have p478 : 0 ≤ (x9_1 : Int) := of_decide_eq_true (by assumption)
      have q478 : x9_1 < (t475.length : Int) := of_decide_eq_true (by assumption)
      obtain ⟨ad478, e478, hx478_0, hx478_1, hx478_2, hx478_3, hx478_4, hx478_5⟩ := at_T43 (Kd.R_reads' HO_8.out).2.2 x9_1 p478 q478
      cases e478
      replace p478 := eq_true p478
      replace q478 := eq_true q478
      go_wp2_with (first | ((with_reducible refine gate_callee (f := 18) rfl ?_); refine goesL_ (some 25) rfl rfl Try.func18 (by kernel_rfl) rfl #[.slice A0 l0.length c0, .agg #[.int .i64 ((rd_T43 t475 x9_1).f0.f0), .int .i64 ((rd_T43 t475 x9_1).f0.f1), .int .i64 ((rd_T43 t475 x9_1).f0.f2)]] rfl (by (try simp only [pml]); first | done | rfl | (simp only [pdt]; rfl)) ?_; (with_reducible refine (r_State.calls k1 _ _ l0 ((rd_T43 t475 x9_1).f0.f0) ((rd_T43 t475 x9_1).f0.f1) ((rd_T43 t475 x9_1).f0.f2) t479 _ ?side1 ?side2 A12.out).mono ?_); (case side1 => repeat (first | exact (Kd.C_below HR0.out HB.out) | (with_reducible refine Kd.C_alloc ?_ _) | (with_reducible refine Kd.C_drewN ?_ _) | (with_reducible refine Kd.C_drew ?_))); (case side2 => exact HC0.out); rintro e w15 ⟨rfl, hb⟩; refine ⟨_, rfl, ?_⟩; replace HO_8 := dR HO_8 hb; replace BK474 := bB BK474 hb; replace HB := bS HB hb; (try clear hb); (try clear hb2); (try clear hk); (try clear hi); have p480 : 0 ≤ (x9_1 : Int) := of_decide_eq_true (by assumption); have q480 : x9_1 < (t475.length : Int) := of_decide_eq_true (by assumption); obtain ⟨ad480, e480, hx480_0, hx480_1, hx480_2, hx480_3, hx480_4, hx480_5⟩ := at_T43 (Kd.R_reads' HO_8.out).2.2 x9_1 p480 q480; obtain rfl : ad478 = ad480 := (by injection e480); replace p480 := eq_true p480; replace q480 := eq_true q480) | ((with_reducible refine gate_callee (f := 58) rfl ?_); refine goesL_ (some 33) rfl rfl Try.func58 (by kernel_rfl) rfl #[.agg #[.int .i64 ((rd_T43 t475 x9_1).f0.f0), .int .i64 ((rd_T43 t475 x9_1).f0.f1), .int .i64 ((rd_T43 t475 x9_1).f0.f2), .int .i64 ((rd_T43 t475 x9_1).f1.f0), .int .i64 ((rd_T43 t475 x9_1).f1.f1), .int .i64 ((rd_T43 t475 x9_1).f1.f2)]] rfl (by (try simp only [pml]); first | done | rfl | (simp only [pdt]; rfl)) ?_; (with_reducible refine (r_volume.calls ((rd_T43 t475 x9_1).f0.f0) ((rd_T43 t475 x9_1).f0.f1) ((rd_T43 t475 x9_1).f0.f2) ((rd_T43 t475 x9_1).f1.f0) ((rd_T43 t475 x9_1).f1.f1) ((rd_T43 t475 x9_1).f1.f2) t481 _ A14.out).mono ?_); rintro e w16 ⟨rfl, hb⟩; refine ⟨_, rfl, ?_⟩; replace HO_8 := dR HO_8 hb; replace BK474 := bB BK474 hb; replace HB := bS HB hb; (try clear hb); (try clear hb2); (try clear hk); (try clear hi)))
      go_meet
      case rel => exact ⟨_, (wrap64 (x7_1 + t481)), sqD, H', ⟨by have := HK1.out; first | omega | exact Nat.le_refl _⟩, ⟨fR HO_8.out⟩, ⟨fb BK474.out⟩, ⟨fW HB.out⟩⟩
     rw [if_neg c13] at H
     have c13b0 : (t479 == a2) = false := beq_eq_false_iff_ne.mpr c13
     have c13b1 : (t479 != a2) = true := bne_iff_ne.mpr c13
     have H' := am H
     clear H
     have p478 : 0 ≤ (x9_1 : Int) := of_decide_eq_true (by assumption)
     have q478 : x9_1 < (t475.length : Int) := of_decide_eq_true (by assumption)
     obtain ⟨ad478, e478, hx478_0, hx478_1, hx478_2, hx478_3, hx478_4, hx478_5⟩ := at_T43 (Kd.R_reads' HO_8.out).2.2 x9_1 p478 q478
     cases e478
     replace p478 := eq_true p478
     replace q478 := eq_true q478
     go_wp2_with (first | ((with_reducible refine gate_callee (f := 18) rfl ?_); refine goesL_ (some 25) rfl rfl Try.func18 (by kernel_rfl) rfl #[.slice A0 l0.length c0, .agg #[.int .i64 ((rd_T43 t475 x9_1).f0.f0), .int .i64 ((rd_T43 t475 x9_1).f0.f1), .int .i64 ((rd_T43 t475 x9_1).f0.f2)]] rfl (by (try simp only [pml]); first | done | rfl | (simp only [pdt]; rfl)) ?_; (with_reducible refine (r_State.calls k1 _ _ l0 ((rd_T43 t475 x9_1).f0.f0) ((rd_T43 t475 x9_1).f0.f1) ((rd_T43 t475 x9_1).f0.f2) t479 _ ?side1 ?side2 A12.out).mono ?_); (case side1 => repeat (first | exact (Kd.C_below HR0.out HB.out) | (with_reducible refine Kd.C_alloc ?_ _) | (with_reducible refine Kd.C_drewN ?_ _) | (with_reducible refine Kd.C_drew ?_))); (case side2 => exact HC0.out); rintro e w17 ⟨rfl, hb⟩; refine ⟨_, rfl, ?_⟩; replace HO_8 := dR HO_8 hb; replace BK474 := bB BK474 hb; replace HB := bS HB hb; (try clear hb); (try clear hb2); (try clear hk); (try clear hi)))
     go_meet
     case rel => exact ⟨_, (x7_1), sqD, H', ⟨by have := HK1.out; first | omega | exact Nat.le_refl _⟩, ⟨fR HO_8.out⟩, ⟨fb BK474.out⟩, ⟨fW HB.out⟩⟩
    case rest =>
     clear HC9
     try clear c1;try clear c2;try clear p2;try clear p4;try clear q4;try clear hx4;try clear c5;try clear p6;try clear c8;try clear c8b0;try clear c11;try clear c11b0;try clear c13;try clear c13b0;try clear c13b1;try clear hx478_0;try clear hx478_1;try clear hx478_2;try clear hx478_3;try clear hx478_4;try clear hx478_5;try clear hx480_0;try clear hx480_1;try clear hx480_2;try clear hx480_3;try clear hx480_4;try clear hx480_5;try clear p2;try clear p478;try clear p480;try clear q478;try clear q480
     obtain ⟨kq, x7_8, rfl, HA, HJ8, HO_8, BK474, HB⟩ := hcut
     cases kq with
     | zero => exact absurd HA.out (by simp [r_Volume.j1])
     | succ kj8 =>
      have H := HA.out
      clear HA
      simp only [r_Volume.j1] at H
      have H' := am H
      clear H
      go_wp2
      go_roundg kj8
      case measure => have := HK1.out; have := HJ8.out; omega
      case rel => exact ⟨(x7_8), (wrap64 (x9_1 + 1)), sqD, sqD, H', ⟨by have := HK1.out; have := HJ8.out; omega⟩, ⟨fR HO_8.out⟩, ⟨fb BK474.out⟩, ⟨fW HB.out⟩⟩
   ·rw [if_neg c8] at H
    have c8b0 : decide (x9_1 < (t475.length : Int)) = false := decide_eq_false c8
    clear c8
    obtain rfl := Option.some.inj H
    obtain ⟨Ao18, co18, eo18⟩ := Kd.R_slice HO_8.out
    subst eo18
    go_wp2
    go_ret
    exact ⟨sqE, fW HB.out⟩

def r_Before.f (a0_0 : Int) (a0_1 : Int) (a0_2 : Int) (a1_0 : Int) (a1_1 : Int) (a1_2 : Int) : Option (Bool) := if a0_2 = a1_2 then (if a0_1 = a1_1 then (some (decide (a0_0 < a1_0))) else (some (decide (a0_1 < a1_1)))) else (some (decide (a0_2 < a1_2)))
set_option maxHeartbeats 8000000 in
set_option maxRecDepth 100000 in
theorem r_Before.calls (a0_0 : Int) (a0_1 : Int) (a0_2 : Int) (a1_0 : Int) (a1_1 : Int) (a1_2 : Int) (r : Bool) (w : World) (h : r_Before.f a0_0 a0_1 a0_2 a1_0 a1_1 a1_2 = some r) :
  Calls Try.prog 59 #[.agg #[.int .i64 a0_0, .int .i64 a0_1, .int .i64 a0_2], .agg #[.int .i64 a1_0, .int .i64 a1_1, .int .i64 a1_2]] w fun e w' => e = .returned (.bool r) ∧ Below w.heap.size w w' := by
 have hu24 := Try.underlying24
 have HB := am (Below.refl w.heap.size w)
 have H : (if a0_2 = a1_2 then (if a0_1 = a1_1 then (some (decide (a0_0 < a1_0))) else (some (decide (a0_1 < a1_1)))) else (some (decide (a0_2 < a1_2)))) = some r := h
 clear h
 by_cases c3 : a0_2 = a1_2
 ·rw [if_pos c3] at H
  have c3b0 : (a0_2 == a1_2) = true := beq_iff_eq.mpr c3
  have c3b1 : (a0_2 != a1_2) = false := bne_eq_false_iff_eq.mpr c3
  clear c3
  by_cases c4 : a0_1 = a1_1
  ·rw [if_pos c4] at H
   have c4b0 : (a0_1 == a1_1) = true := beq_iff_eq.mpr c4
   have c4b1 : (a0_1 != a1_1) = false := bne_eq_false_iff_eq.mpr c4
   clear c4
   obtain rfl := Option.some.inj H
   go_enter Try.func59, Try.ntmps59
   go_wp2_with (first | ((with_reducible refine gate_dst (N := 2) rfl ?_); refine box_event ?hg (N := 2) ?hd (cs := #[.int .i64 a0_0, .int .i64 a0_1, .int .i64 a0_2]) (t := 24) ?hr ?_; (case hd | hg => rfl); (case hr => first | (go_simp; done) | (go_simp; rfl)); intro gb482 hg w5 hbox hb; have BK482 := am hbox; have GW482 := sG HB hg; have GE482 := sG HB hg; replace HB := bS HB hb; clear hb hbox hg) | ((with_reducible refine gate_dst (N := 3) rfl ?_); refine box_event ?hg (N := 3) ?hd (cs := #[.int .i64 a1_0, .int .i64 a1_1, .int .i64 a1_2]) (t := 24) ?hr ?_; (case hd | hg => rfl); (case hr => first | (go_simp; done) | (go_simp; rfl)); intro gb483 hg w6 hbox hb; have BK483 := am hbox; have GW483 := sG HB hg; have GE483 := sG HB hg; replace HB := bS HB hb; have NB482_483 := nL BK482 hg; have NB483_482 := nG BK482 hg; replace BK482 := bB BK482 hb; clear hb hbox hg; have hnb7 := NB482_483.out; have hnc7 := NB483_482.out; obtain ⟨_, _, _, _, _, _⟩ := zC3 BK482; obtain ⟨_, _, _, _, _, _⟩ := zC3 BK483))
   go_ret
   exact ⟨sqE, fW HB.out⟩
  rw [if_neg c4] at H
  have c4b0 : (a0_1 == a1_1) = false := beq_eq_false_iff_ne.mpr c4
  have c4b1 : (a0_1 != a1_1) = true := bne_iff_ne.mpr c4
  obtain rfl := Option.some.inj H
  go_enter Try.func59, Try.ntmps59
  go_wp2_with (first | ((with_reducible refine gate_dst (N := 2) rfl ?_); refine box_event ?hg (N := 2) ?hd (cs := #[.int .i64 a0_0, .int .i64 a0_1, .int .i64 a0_2]) (t := 24) ?hr ?_; (case hd | hg => rfl); (case hr => first | (go_simp; done) | (go_simp; rfl)); intro gb482 hg w10 hbox hb; have BK482 := am hbox; have GW482 := sG HB hg; have GE482 := sG HB hg; replace HB := bS HB hb; clear hb hbox hg) | ((with_reducible refine gate_dst (N := 3) rfl ?_); refine box_event ?hg (N := 3) ?hd (cs := #[.int .i64 a1_0, .int .i64 a1_1, .int .i64 a1_2]) (t := 24) ?hr ?_; (case hd | hg => rfl); (case hr => first | (go_simp; done) | (go_simp; rfl)); intro gb483 hg w11 hbox hb; have BK483 := am hbox; have GW483 := sG HB hg; have GE483 := sG HB hg; replace HB := bS HB hb; have NB482_483 := nL BK482 hg; have NB483_482 := nG BK482 hg; replace BK482 := bB BK482 hb; clear hb hbox hg; have hnb12 := NB482_483.out; have hnc12 := NB483_482.out; obtain ⟨_, _, _, _, _, _⟩ := zC3 BK482; obtain ⟨_, _, _, _, _, _⟩ := zC3 BK483))
  go_ret
  exact ⟨sqE, fW HB.out⟩
 ·rw [if_neg c3] at H
  have c3b0 : (a0_2 == a1_2) = false := beq_eq_false_iff_ne.mpr c3
  have c3b1 : (a0_2 != a1_2) = true := bne_iff_ne.mpr c3
  obtain rfl := Option.some.inj H
  go_enter Try.func59, Try.ntmps59
  go_wp2_with (first | ((with_reducible refine gate_dst (N := 2) rfl ?_); refine box_event ?hg (N := 2) ?hd (cs := #[.int .i64 a0_0, .int .i64 a0_1, .int .i64 a0_2]) (t := 24) ?hr ?_; (case hd | hg => rfl); (case hr => first | (go_simp; done) | (go_simp; rfl)); intro gb482 hg w15 hbox hb; have BK482 := am hbox; have GW482 := sG HB hg; have GE482 := sG HB hg; replace HB := bS HB hb; clear hb hbox hg) | ((with_reducible refine gate_dst (N := 3) rfl ?_); refine box_event ?hg (N := 3) ?hd (cs := #[.int .i64 a1_0, .int .i64 a1_1, .int .i64 a1_2]) (t := 24) ?hr ?_; (case hd | hg => rfl); (case hr => first | (go_simp; done) | (go_simp; rfl)); intro gb483 hg w16 hbox hb; have BK483 := am hbox; have GW483 := sG HB hg; have GE483 := sG HB hg; replace HB := bS HB hb; have NB482_483 := nL BK482 hg; have NB483_482 := nG BK482 hg; replace BK482 := bB BK482 hb; clear hb hbox hg; have hnb17 := NB482_483.out; have hnc17 := NB483_482.out; obtain ⟨_, _, _, _, _, _⟩ := zC3 BK482; obtain ⟨_, _, _, _, _, _⟩ := zC3 BK483))
  go_ret
  exact ⟨sqE, fW HB.out⟩

end Go.Proofs.Ytcofgnbopodahaa.QA
