import Derived.Test.YtkeomlmlimkebaaZQAx0
import Derived.Test.YtkeomlmlimkebaaZQAx9
import Derived.Test.YtkeomlmlimkebaaZQAx10
import Derived.Test.YtkeomlmlimkebaaZQAx12
namespace Go.Proofs.Ytkeomlmlimkebaa.QA
open Go.RowKit Go.Proofs.YtkeomlmlimkebaaW.PrintWords Go.Proofs.YtkeomlmlimkebaaW.PrintLast Go.Proofs.YtkeomlmlimkebaaW.PrintMore
open Go.Proofs.YtkeomlmlimkebaaW.PrintWords renaming blk_drew → bd, below_drew1 → wd, blk_frozen → bf, blk_cell → bc
open Aside0 renaming mk → am
open World renaming block_lt_of_cell? → bq
attribute [local go_sem] max2_int min2_int max_two min_two max_three min_three max_four min_four
set_option linter.unusedVariables false
set_option linter.unusedSimpArgs false

mutual
def r_Refutes.j0 : Nat → Int → List Int → List Int → Bool → List (List Int) → Int → List Int → List Bool → Option (Bool)
 | 0, _, _, _, _, _, _, _, _ => none
 | k + 1, x1, x2, x3, x46, x478000, x478001, x478002, x478003 => if x46 = true then (some false) else (r_Refutes.l0 k x1 x2 x3 0 0 0 x478000 x478001 x478002 x478003)
def r_Refutes.l0 : Nat → Int → List Int → List Int → Int → Int → Int → List (List Int) → Int → List Int → List Bool → Option (Bool)
 | 0, _, _, _, _, _, _, _, _, _, _ => none
 | k + 1, x1, x2, x3, x9, x10, x11, x478000, x478001, x478002, x478003 => if x11 < (x2.length : Int) then (if 0 ≤ x11 then (if 0 ≤ (rd x2 x11) then (if (rd x2 x11) < (x478003.length : Int) then (if rdOf false x478003 (rd x2 x11) = true then (some false) else (if (rd x2 x11) = x1 then (r_Refutes.j2 k x1 x2 x3 x9 x10 x11 true x478000 x478001 x478002 x478003) else (if (rd x2 x11) < (x478002.length : Int) then (r_Refutes.j2 k x1 x2 x3 x9 x10 x11 (decide ((rd x478002 (rd x2 x11)) ≥ 0)) x478000 x478001 x478002 x478003) else (none)))) else (none)) else (none)) else (none)) else (r_Refutes.l2 k x3 x9 x10 0 x478000 x478001 x478002 x478003)
def r_Refutes.j2 : Nat → Int → List Int → List Int → Int → Int → Int → Bool → List (List Int) → Int → List Int → List Bool → Option (Bool)
 | 0, _, _, _, _, _, _, _, _, _, _, _ => none
 | k + 1, x1, x2, x3, x9, x10, x11, x77, x478000, x478001, x478002, x478003 => if x77 = true then (r_Refutes.j3 k x1 x2 x3 (wrap64 (x9 + 1)) x10 x11 x478000 x478001 x478002 x478003) else (r_Refutes.j3 k x1 x2 x3 x9 x10 x11 x478000 x478001 x478002 x478003)
def r_Refutes.j3 : Nat → Int → List Int → List Int → Int → Int → Int → List (List Int) → Int → List Int → List Bool → Option (Bool)
 | 0, _, _, _, _, _, _, _, _, _, _ => none
 | k + 1, x1, x2, x3, x9, x10, x11, x478000, x478001, x478002, x478003 => r_Refutes.l1 k x1 x2 x3 x9 x10 x11 0 x478000 x478001 x478002 x478003
def r_Refutes.l1 : Nat → Int → List Int → List Int → Int → Int → Int → Int → List (List Int) → Int → List Int → List Bool → Option (Bool)
 | 0, _, _, _, _, _, _, _, _, _, _, _ => none
 | k + 1, x1, x2, x3, x9, x10, x11, x12, x478000, x478001, x478002, x478003 => if 0 ≤ x11 then (if x11 < (x2.length : Int) then (if 0 ≤ (rd x2 x11) then (if (rd x2 x11) < (x478000.length : Int) then (if x12 < ((rd_L1 x478000 (rd x2 x11)).length : Int) then (if 0 ≤ x12 then ((r_has.f k x3 (rd (rd_L1 x478000 (rd x2 x11)) x12)).bind fun t493 => (if t493 = true then (r_Refutes.l1 k x1 x2 x3 x9 x10 x11 (wrap64 (x12 + 1)) x478000 x478001 x478002 x478003) else (some false))) else (none)) else (r_Refutes.l0 k x1 x2 x3 x9 x10 (wrap64 (x11 + 1)) x478000 x478001 x478002 x478003)) else (none)) else (none)) else (none)) else (none)
def r_Refutes.l2 : Nat → List Int → Int → Int → Int → List (List Int) → Int → List Int → List Bool → Option (Bool)
 | 0, _, _, _, _, _, _, _, _ => none
 | k + 1, x3, x9, x10, x13, x478000, x478001, x478002, x478003 => if x13 < (x3.length : Int) then (if 0 ≤ x13 then ((r_User.f k x478000 x478001 x478002 x478003 (rd x3 x13)).bind fun t495 => (if t495 < 0 then (r_Refutes.l2 k x3 x9 (wrap64 (x10 + 1)) (wrap64 (x13 + 1)) x478000 x478001 x478002 x478003) else (if 0 ≤ t495 then (if t495 < (x478003.length : Int) then (if rdOf false x478003 t495 = true then (r_Refutes.l2 k x3 x9 x10 (wrap64 (x13 + 1)) x478000 x478001 x478002 x478003) else (r_Refutes.l2 k x3 x9 (wrap64 (x10 + 1)) (wrap64 (x13 + 1)) x478000 x478001 x478002 x478003)) else (none)) else (none)))) else (none)) else (some (decide (x10 < x9)))
end
def r_Refutes.f (k : Nat) (l0_0 : List (List Int)) (a0_1 : Int) (l0_2 : List Int) (l0_3 : List Bool) (a1 : Int) (l2 : List Int) (l3 : List Int) : Option (Bool) := (r_Check.f l0_0 a0_1 l0_2 l0_3).bind fun t478 => (if t478 = 0 then ((r_increasing.f k l2 (l0_0.length : Int)).bind fun t479 => (if t479 = true then ((r_increasing.f k l3 a0_1).bind fun t480 => (if t480 = true then ((r_has.f k l2 a1).bind fun t481 => (if t481 = true then (if 0 ≤ a1 then (if a1 < (l0_2.length : Int) then (r_Refutes.j0 k a1 l2 l3 (decide ((rd l0_2 a1) ≥ 0)) l0_0 a0_1 l0_2 l0_3) else (none)) else (none)) else (r_Refutes.j0 k a1 l2 l3 true l0_0 a0_1 l0_2 l0_3))) else (r_Refutes.j0 k a1 l2 l3 true l0_0 a0_1 l0_2 l0_3))) else (r_Refutes.j0 k a1 l2 l3 true l0_0 a0_1 l0_2 l0_3))) else (r_Refutes.j0 k a1 l2 l3 true l0_0 a0_1 l0_2 l0_3))
def r_Refutes.T7 : Bool × List (List Nat × List Nat) := (true, [([], []), ([0], [0]), ([], []), ([], []), ([2, 3], [2, 3]), ([4], [4]), ([1, 5], [1, 5]), ([6], [6])])
def r_Refutes.B7 : List Nat := [0, 1, 0, 0, 12, 28, 63, 127]
theorem r_Refutes.tab7 : rtab .any (opsOf Try.f20 7) = r_Refutes.T7 := by kernel_rfl
theorem r_Refutes.bits7 : waitsOk r_Refutes.T7.2 r_Refutes.B7 = true := by kernel_rfl
def r_Refutes.T9 : Bool × List (List Nat × List Nat) := (true, [([], []), ([], []), ([0, 1], [0, 1]), ([2], [2]), ([], []), ([3, 4], [3, 4]), ([5], [5]), ([6], [6]), ([7, 6], [6, 7]), ([6], [6]), ([6], [6]), ([9, 10, 6], [6, 9, 10]), ([11, 6], [6, 11]), ([8, 12, 6], [6, 8, 12]), ([13, 6], [6, 13]), ([14, 6], [6, 14]), ([6, 15], [6, 15])])
def r_Refutes.B9 : List Nat := [0, 0, 3, 7, 0, 31, 63, 127, 255, 127, 127, 1663, 3711, 8191, 16383, 32767, 65535]
theorem r_Refutes.tab9 : rtab .any (opsOf Try.f20 9) = r_Refutes.T9 := by kernel_rfl
theorem r_Refutes.bits9 : waitsOk r_Refutes.T9.2 r_Refutes.B9 = true := by kernel_rfl
def r_Refutes.T12 : Bool × List (List Nat × List Nat) := (true, [([], []), ([], []), ([1], [1]), ([], []), ([], []), ([3, 4], [3, 4]), ([5], [5]), ([2, 6], [2, 6]), ([7], [7]), ([8], [8]), ([0, 9], [0, 9])])
def r_Refutes.B12 : List Nat := [0, 0, 2, 0, 0, 24, 56, 126, 254, 510, 1023]
theorem r_Refutes.tab12 : rtab .any (opsOf Try.f20 12) = r_Refutes.T12 := by kernel_rfl
theorem r_Refutes.bits12 : waitsOk r_Refutes.T12.2 r_Refutes.B12 = true := by kernel_rfl
def r_Refutes.T14 : Bool × List (List Nat × List Nat) := (true, [([], []), ([], []), ([1], [1]), ([], []), ([], []), ([3, 4], [3, 4]), ([5], [5]), ([2, 6], [2, 6]), ([7], [7]), ([], []), ([8, 9], [8, 9]), ([10], [10]), ([0, 11], [0, 11]), ([12], [12])])
def r_Refutes.B14 : List Nat := [0, 0, 2, 0, 0, 24, 56, 126, 254, 0, 1022, 2046, 4095, 8191]
theorem r_Refutes.tab14 : rtab .any (opsOf Try.f20 14) = r_Refutes.T14 := by kernel_rfl
theorem r_Refutes.bits14 : waitsOk r_Refutes.T14.2 r_Refutes.B14 = true := by kernel_rfl
set_option maxHeartbeats 8000000 in
set_option maxRecDepth 100000 in
theorem r_Refutes.calls (k : Nat) (A0_0 : Option Addr) (c0_0 : Nat) (l0_0 : List (List Int)) (a0_1 : Int) (A0_2 : Option Addr) (c0_2 : Nat) (l0_2 : List Int) (A0_3 : Option Addr) (c0_3 : Nat) (l0_3 : List Bool) (a1 : Int) (A2 : Option Addr) (c2 : Nat) (l2 : List Int) (A3 : Option Addr) (c3 : Nat) (l3 : List Int) (r : Bool) (w : World) (hr0_0 : Kd.C (Kd.slice 3 (Kd.int .i64)) w A0_0 l0_0.length l0_0) (hc0_0 : l0_0.length ≤ c0_0) (hr0_2 : Kd.C (Kd.int .i64) w A0_2 l0_2.length l0_2) (hc0_2 : l0_2.length ≤ c0_2) (hr0_3 : Kd.C Kd.bool w A0_3 l0_3.length l0_3) (hc0_3 : l0_3.length ≤ c0_3) (hr2 : Kd.C (Kd.int .i64) w A2 l2.length l2) (hc2 : l2.length ≤ c2) (hr3 : Kd.C (Kd.int .i64) w A3 l3.length l3) (hc3 : l3.length ≤ c3) (h : r_Refutes.f k l0_0 a0_1 l0_2 l0_3 a1 l2 l3 = some r) :
  Calls Try.prog 20 #[.agg #[.slice A0_0 l0_0.length c0_0, .int .i64 a0_1, .slice A0_2 l0_2.length c0_2, .slice A0_3 l0_3.length c0_3], .int .i64 a1, .slice A2 l2.length c2, .slice A3 l3.length c3] w fun e w' => e = .returned (.bool r) ∧ Below w.heap.size w w' := by
 have hu26 := Try.underlying26
 have HR0_0 := am hr0_0
 have HC0_0 := am hc0_0
 clear hr0_0 hc0_0
 have HR0_2 := am hr0_2
 have HC0_2 := am hc0_2
 clear hr0_2 hc0_2
 have HR0_3 := am hr0_3
 have HC0_3 := am hc0_3
 clear hr0_3 hc0_3
 have HR2 := am hr2
 have HC2 := am hc2
 clear hr2 hc2
 have HR3 := am hr3
 have HC3 := am hc3
 clear hr3 hc3
 have HB := am (Below.refl w.heap.size w)
 have H : ((r_Check.f l0_0 a0_1 l0_2 l0_3).bind fun t478 => (if t478 = 0 then ((r_increasing.f k l2 (l0_0.length : Int)).bind fun t479 => (if t479 = true then ((r_increasing.f k l3 a0_1).bind fun t480 => (if t480 = true then ((r_has.f k l2 a1).bind fun t481 => (if t481 = true then (if 0 ≤ a1 then (if a1 < (l0_2.length : Int) then (r_Refutes.j0 k a1 l2 l3 (decide ((rd l0_2 a1) ≥ 0)) l0_0 a0_1 l0_2 l0_3) else (none)) else (none)) else (r_Refutes.j0 k a1 l2 l3 true l0_0 a0_1 l0_2 l0_3))) else (r_Refutes.j0 k a1 l2 l3 true l0_0 a0_1 l0_2 l0_3))) else (r_Refutes.j0 k a1 l2 l3 true l0_0 a0_1 l0_2 l0_3))) else (r_Refutes.j0 k a1 l2 l3 true l0_0 a0_1 l0_2 l0_3))) = some r := h
 clear h
 have HC5 := am H
 clear H
 go_enter Try.func20, Try.ntmps20
 go_upto_region 1 with (first | ((with_reducible refine gate_dst (N := 4) rfl ?_); (try (refine gate_guard (by rfl) ?_; dsimp only)); refine box_event ?hg (N := 4) ?hd (cs := #[.slice A0_0 l0_0.length c0_0, .int .i64 a0_1, .slice A0_2 l0_2.length c0_2, .slice A0_3 l0_3.length c0_3]) (t := 26) ?hr ?_; (case hd | hg => rfl); (case hr => first | (go_simp; done) | (go_simp; rfl)); intro gb477 hg w6 hbox hb; have BK477 := am hbox; have GW477 := sG HB hg; have GE477 := sG HB hg; replace HB := bS HB hb; clear hb hbox hg))
 (try simp only [Act.put, psl])
 go_cut [46] (fun v46 wc => ∃ (kq : Nat) (x46_4 : Bool), v46 = .bool x46_4 ∧ Aside0 (r_Refutes.j0 kq a1 l2 l3 x46_4 l0_0 a0_1 l0_2 l0_3 = some r) ∧ Aside0 (kq ≤ k) ∧ Aside0 (wc.heap[gb477]? = some (.cells #[(.slice A0_0 l0_0.length c0_0), .int .i64 a0_1, (.slice A0_2 l0_2.length c0_2), (.slice A0_3 l0_3.length c0_3)] 26 (0, 0))) ∧ Aside0 (Below w.heap.size w wc))
 case first =>
  have H := HC5.out
  clear HC5
  replace H := Option.bind_eq_some_iff.mp H
  obtain ⟨t478, A70, H⟩ := H
  replace H : (if t478 = 0 then ((r_increasing.f k l2 (l0_0.length : Int)).bind fun t479 => (if t479 = true then ((r_increasing.f k l3 a0_1).bind fun t480 => (if t480 = true then ((r_has.f k l2 a1).bind fun t481 => (if t481 = true then (if 0 ≤ a1 then (if a1 < (l0_2.length : Int) then (r_Refutes.j0 k a1 l2 l3 (decide ((rd l0_2 a1) ≥ 0)) l0_0 a0_1 l0_2 l0_3) else (none)) else (none)) else (r_Refutes.j0 k a1 l2 l3 true l0_0 a0_1 l0_2 l0_3))) else (r_Refutes.j0 k a1 l2 l3 true l0_0 a0_1 l0_2 l0_3))) else (r_Refutes.j0 k a1 l2 l3 true l0_0 a0_1 l0_2 l0_3))) else (r_Refutes.j0 k a1 l2 l3 true l0_0 a0_1 l0_2 l0_3)) = some r := H
  have A7 := am A70
  clear A70
  by_cases c8 : t478 = 0
  rotate_left
  ·rw [if_neg c8] at H
   have c8b0 : (t478 == 0) = false := beq_eq_false_iff_ne.mpr c8
   have c8b1 : (t478 != 0) = true := bne_iff_ne.mpr c8
   (first | rw [c8b0] | (simp only [i64_w, i32_w]; rw [c8b0]) | skip)
   have H' := am H
   clear H
   have := yC1 BK477
   have := kC1 BK477
   have := kC2 BK477
   have := kC3 BK477
   have := bf BK477.out 0
   have := bf BK477.out 1
   have := bf BK477.out 2
   have := bf BK477.out 3
   go_wp2_with (first | ((with_reducible refine gate_callee (f := 14) rfl ?_); refine goesL_ (some 16) rfl rfl Try.func14 (by kernel_rfl) rfl #[.agg #[.slice A0_0 l0_0.length c0_0, .int .i64 a0_1, .slice A0_2 l0_2.length c0_2, .slice A0_3 l0_3.length c0_3]] rfl (by (try simp only [pml]); first | done | rfl | (simp only [pdt]; rfl)) ?_; (with_reducible refine (r_Check.calls _ _ l0_0 a0_1 _ _ l0_2 _ _ l0_3 t478 _ ?side1 ?side2 ?side3 ?side4 ?side5 ?side6 A7.out).mono ?_); (case side1 => repeat (first | exact (Kd.C_below HR0_0.out HB.out) | (with_reducible refine Kd.C_alloc ?_ _) | (with_reducible refine Kd.C_drewN ?_ _) | (with_reducible refine Kd.C_drew ?_))); (case side2 => exact HC0_0.out); (case side3 => repeat (first | exact (Kd.C_below HR0_2.out HB.out) | (with_reducible refine Kd.C_alloc ?_ _) | (with_reducible refine Kd.C_drewN ?_ _) | (with_reducible refine Kd.C_drew ?_))); (case side4 => exact HC0_2.out); (case side5 => repeat (first | exact (Kd.C_below HR0_3.out HB.out) | (with_reducible refine Kd.C_alloc ?_ _) | (with_reducible refine Kd.C_drewN ?_ _) | (with_reducible refine Kd.C_drew ?_))); (case side6 => exact HC0_3.out); rintro e w30 ⟨rfl, hb⟩; refine ⟨_, rfl, ?_⟩; replace BK477 := bB BK477 hb; replace HB := bS HB hb; (try clear hb); (try clear hb2); (try clear hk); (try clear hi)))
   go_meet
   case rel => exact ⟨_, (true), sqD, H', ⟨by first | omega | exact Nat.le_refl _⟩, ⟨fb BK477.out⟩, ⟨fW HB.out⟩⟩
  rw [if_pos c8] at H
  have c8b0 : (t478 == 0) = true := beq_iff_eq.mpr c8
  have c8b1 : (t478 != 0) = false := bne_eq_false_iff_eq.mpr c8
  clear c8
  (first | rw [c8b0] | (simp only [i64_w, i32_w]; rw [c8b0]) | skip)
  replace H := Option.bind_eq_some_iff.mp H
  obtain ⟨t479, A90, H⟩ := H
  replace H : (if t479 = true then ((r_increasing.f k l3 a0_1).bind fun t480 => (if t480 = true then ((r_has.f k l2 a1).bind fun t481 => (if t481 = true then (if 0 ≤ a1 then (if a1 < (l0_2.length : Int) then (r_Refutes.j0 k a1 l2 l3 (decide ((rd l0_2 a1) ≥ 0)) l0_0 a0_1 l0_2 l0_3) else (none)) else (none)) else (r_Refutes.j0 k a1 l2 l3 true l0_0 a0_1 l0_2 l0_3))) else (r_Refutes.j0 k a1 l2 l3 true l0_0 a0_1 l0_2 l0_3))) else (r_Refutes.j0 k a1 l2 l3 true l0_0 a0_1 l0_2 l0_3)) = some r := H
  have A9 := am A90
  clear A90
  by_cases c10 : t479 = true
  rotate_left
  ·replace c10 := Bool.eq_false_iff.mpr c10
   subst c10
   have H1 : (r_Refutes.j0 k a1 l2 l3 true l0_0 a0_1 l0_2 l0_3) = some r := by rw [if_neg (show ¬ (false = true) by decide)] at H; exact H
   clear H
   have H := H1
   clear H1
   have H' := am H
   clear H
   have := yC1 BK477
   have := kC1 BK477
   have := kC2 BK477
   have := kC3 BK477
   have := bf BK477.out 0
   have := bf BK477.out 1
   have := bf BK477.out 2
   have := bf BK477.out 3
   go_wp2_with (first | ((with_reducible refine gate_callee (f := 14) rfl ?_); refine goesL_ (some 16) rfl rfl Try.func14 (by kernel_rfl) rfl #[.agg #[.slice A0_0 l0_0.length c0_0, .int .i64 a0_1, .slice A0_2 l0_2.length c0_2, .slice A0_3 l0_3.length c0_3]] rfl (by (try simp only [pml]); first | done | rfl | (simp only [pdt]; rfl)) ?_; (with_reducible refine (r_Check.calls _ _ l0_0 a0_1 _ _ l0_2 _ _ l0_3 t478 _ ?side1 ?side2 ?side3 ?side4 ?side5 ?side6 A7.out).mono ?_); (case side1 => repeat (first | exact (Kd.C_below HR0_0.out HB.out) | (with_reducible refine Kd.C_alloc ?_ _) | (with_reducible refine Kd.C_drewN ?_ _) | (with_reducible refine Kd.C_drew ?_))); (case side2 => exact HC0_0.out); (case side3 => repeat (first | exact (Kd.C_below HR0_2.out HB.out) | (with_reducible refine Kd.C_alloc ?_ _) | (with_reducible refine Kd.C_drewN ?_ _) | (with_reducible refine Kd.C_drew ?_))); (case side4 => exact HC0_2.out); (case side5 => repeat (first | exact (Kd.C_below HR0_3.out HB.out) | (with_reducible refine Kd.C_alloc ?_ _) | (with_reducible refine Kd.C_drewN ?_ _) | (with_reducible refine Kd.C_drew ?_))); (case side6 => exact HC0_3.out); rintro e w27 ⟨rfl, hb⟩; refine ⟨_, rfl, ?_⟩; replace BK477 := bB BK477 hb; replace HB := bS HB hb; (try clear hb); (try clear hb2); (try clear hk); (try clear hi); obtain ⟨_, _, _, _, _, _, _, _⟩ := zC4 BK477) | (go_at_call 39; (with_reducible refine (r_increasing.calls k _ _ l2 (l0_0.length : Int) false _ ?side1 ?side2 A9.out).mono ?_); (case side1 => repeat (first | exact (Kd.C_below HR2.out HB.out) | (with_reducible refine Kd.C_alloc ?_ _) | (with_reducible refine Kd.C_drewN ?_ _) | (with_reducible refine Kd.C_drew ?_))); (case side2 => exact HC2.out); rintro e w' ⟨rfl, ⟨nd, rfl⟩⟩))
   go_meet
   case rel => exact ⟨_, (true), sqD, H', ⟨by first | omega | exact Nat.le_refl _⟩, ⟨fb BK477.out⟩, ⟨fW HB.out⟩⟩
  subst c10
  have H1 : ((r_increasing.f k l3 a0_1).bind fun t480 => (if t480 = true then ((r_has.f k l2 a1).bind fun t481 => (if t481 = true then (if 0 ≤ a1 then (if a1 < (l0_2.length : Int) then (r_Refutes.j0 k a1 l2 l3 (decide ((rd l0_2 a1) ≥ 0)) l0_0 a0_1 l0_2 l0_3) else (none)) else (none)) else (r_Refutes.j0 k a1 l2 l3 true l0_0 a0_1 l0_2 l0_3))) else (r_Refutes.j0 k a1 l2 l3 true l0_0 a0_1 l0_2 l0_3))) = some r := by rw [if_pos rfl] at H; exact H
  clear H
  have H := H1
  clear H1
  replace H := Option.bind_eq_some_iff.mp H
  obtain ⟨t480, A110, H⟩ := H
  replace H : (if t480 = true then ((r_has.f k l2 a1).bind fun t481 => (if t481 = true then (if 0 ≤ a1 then (if a1 < (l0_2.length : Int) then (r_Refutes.j0 k a1 l2 l3 (decide ((rd l0_2 a1) ≥ 0)) l0_0 a0_1 l0_2 l0_3) else (none)) else (none)) else (r_Refutes.j0 k a1 l2 l3 true l0_0 a0_1 l0_2 l0_3))) else (r_Refutes.j0 k a1 l2 l3 true l0_0 a0_1 l0_2 l0_3)) = some r := H
  have A11 := am A110
  clear A110
  by_cases c12 : t480 = true
  rotate_left
  ·replace c12 := Bool.eq_false_iff.mpr c12
   subst c12
   have H1 : (r_Refutes.j0 k a1 l2 l3 true l0_0 a0_1 l0_2 l0_3) = some r := by rw [if_neg (show ¬ (false = true) by decide)] at H; exact H
   clear H
   have H := H1
   clear H1
   have H' := am H
   clear H
   have := yC1 BK477
   have := kC1 BK477
   have := kC2 BK477
   have := kC3 BK477
   have := bf BK477.out 0
   have := bf BK477.out 1
   have := bf BK477.out 2
   have := bf BK477.out 3
   go_wp2_with (first | ((with_reducible refine gate_callee (f := 14) rfl ?_); refine goesL_ (some 16) rfl rfl Try.func14 (by kernel_rfl) rfl #[.agg #[.slice A0_0 l0_0.length c0_0, .int .i64 a0_1, .slice A0_2 l0_2.length c0_2, .slice A0_3 l0_3.length c0_3]] rfl (by (try simp only [pml]); first | done | rfl | (simp only [pdt]; rfl)) ?_; (with_reducible refine (r_Check.calls _ _ l0_0 a0_1 _ _ l0_2 _ _ l0_3 t478 _ ?side1 ?side2 ?side3 ?side4 ?side5 ?side6 A7.out).mono ?_); (case side1 => repeat (first | exact (Kd.C_below HR0_0.out HB.out) | (with_reducible refine Kd.C_alloc ?_ _) | (with_reducible refine Kd.C_drewN ?_ _) | (with_reducible refine Kd.C_drew ?_))); (case side2 => exact HC0_0.out); (case side3 => repeat (first | exact (Kd.C_below HR0_2.out HB.out) | (with_reducible refine Kd.C_alloc ?_ _) | (with_reducible refine Kd.C_drewN ?_ _) | (with_reducible refine Kd.C_drew ?_))); (case side4 => exact HC0_2.out); (case side5 => repeat (first | exact (Kd.C_below HR0_3.out HB.out) | (with_reducible refine Kd.C_alloc ?_ _) | (with_reducible refine Kd.C_drewN ?_ _) | (with_reducible refine Kd.C_drew ?_))); (case side6 => exact HC0_3.out); rintro e w24 ⟨rfl, hb⟩; refine ⟨_, rfl, ?_⟩; replace BK477 := bB BK477 hb; replace HB := bS HB hb; (try clear hb); (try clear hb2); (try clear hk); (try clear hi); obtain ⟨_, _, _, _, _, _, _, _⟩ := zC4 BK477) | (go_at_call 39; (with_reducible refine (r_increasing.calls k _ _ l2 (l0_0.length : Int) true _ ?side1 ?side2 A9.out).mono ?_); (case side1 => repeat (first | exact (Kd.C_below HR2.out HB.out) | (with_reducible refine Kd.C_alloc ?_ _) | (with_reducible refine Kd.C_drewN ?_ _) | (with_reducible refine Kd.C_drew ?_))); (case side2 => exact HC2.out); rintro e w' ⟨rfl, ⟨nd, rfl⟩⟩) | (go_at_call 39; (with_reducible refine (r_increasing.calls k _ _ l3 a0_1 false _ ?side1 ?side2 A11.out).mono ?_); (case side1 => repeat (first | exact (Kd.C_below HR3.out (fW HB.out)) | (with_reducible refine Kd.C_alloc ?_ _) | (with_reducible refine Kd.C_drewN ?_ _) | (with_reducible refine Kd.C_drew ?_))); (case side2 => exact HC3.out); rintro e w' ⟨rfl, ⟨nd, rfl⟩⟩))
   go_meet
   case rel => exact ⟨_, (true), sqD, H', ⟨by first | omega | exact Nat.le_refl _⟩, ⟨fb BK477.out⟩, ⟨fW HB.out⟩⟩
  subst c12
  have H1 : ((r_has.f k l2 a1).bind fun t481 => (if t481 = true then (if 0 ≤ a1 then (if a1 < (l0_2.length : Int) then (r_Refutes.j0 k a1 l2 l3 (decide ((rd l0_2 a1) ≥ 0)) l0_0 a0_1 l0_2 l0_3) else (none)) else (none)) else (r_Refutes.j0 k a1 l2 l3 true l0_0 a0_1 l0_2 l0_3))) = some r := by rw [if_pos rfl] at H; exact H
  clear H
  have H := H1
  clear H1
  replace H := Option.bind_eq_some_iff.mp H
  obtain ⟨t481, A130, H⟩ := H
  replace H : (if t481 = true then (if 0 ≤ a1 then (if a1 < (l0_2.length : Int) then (r_Refutes.j0 k a1 l2 l3 (decide ((rd l0_2 a1) ≥ 0)) l0_0 a0_1 l0_2 l0_3) else (none)) else (none)) else (r_Refutes.j0 k a1 l2 l3 true l0_0 a0_1 l0_2 l0_3)) = some r := H
  have A13 := am A130
  clear A130
  by_cases c14 : t481 = true
  rotate_left
  ·replace c14 := Bool.eq_false_iff.mpr c14
   subst c14
   have H1 : (r_Refutes.j0 k a1 l2 l3 true l0_0 a0_1 l0_2 l0_3) = some r := by rw [if_neg (show ¬ (false = true) by decide)] at H; exact H
   clear H
   have H := H1
   clear H1
   have H' := am H
   clear H
   have := yC1 BK477
   have := kC1 BK477
   have := kC2 BK477
   have := kC3 BK477
   have := bf BK477.out 0
   have := bf BK477.out 1
   have := bf BK477.out 2
   have := bf BK477.out 3
   go_wp2_with (first | ((with_reducible refine gate_callee (f := 14) rfl ?_); refine goesL_ (some 16) rfl rfl Try.func14 (by kernel_rfl) rfl #[.agg #[.slice A0_0 l0_0.length c0_0, .int .i64 a0_1, .slice A0_2 l0_2.length c0_2, .slice A0_3 l0_3.length c0_3]] rfl (by (try simp only [pml]); first | done | rfl | (simp only [pdt]; rfl)) ?_; (with_reducible refine (r_Check.calls _ _ l0_0 a0_1 _ _ l0_2 _ _ l0_3 t478 _ ?side1 ?side2 ?side3 ?side4 ?side5 ?side6 A7.out).mono ?_); (case side1 => repeat (first | exact (Kd.C_below HR0_0.out HB.out) | (with_reducible refine Kd.C_alloc ?_ _) | (with_reducible refine Kd.C_drewN ?_ _) | (with_reducible refine Kd.C_drew ?_))); (case side2 => exact HC0_0.out); (case side3 => repeat (first | exact (Kd.C_below HR0_2.out HB.out) | (with_reducible refine Kd.C_alloc ?_ _) | (with_reducible refine Kd.C_drewN ?_ _) | (with_reducible refine Kd.C_drew ?_))); (case side4 => exact HC0_2.out); (case side5 => repeat (first | exact (Kd.C_below HR0_3.out HB.out) | (with_reducible refine Kd.C_alloc ?_ _) | (with_reducible refine Kd.C_drewN ?_ _) | (with_reducible refine Kd.C_drew ?_))); (case side6 => exact HC0_3.out); rintro e w21 ⟨rfl, hb⟩; refine ⟨_, rfl, ?_⟩; replace BK477 := bB BK477 hb; replace HB := bS HB hb; (try clear hb); (try clear hb2); (try clear hk); (try clear hi); obtain ⟨_, _, _, _, _, _, _, _⟩ := zC4 BK477) | (go_at_call 39; (with_reducible refine (r_increasing.calls k _ _ l2 (l0_0.length : Int) true _ ?side1 ?side2 A9.out).mono ?_); (case side1 => repeat (first | exact (Kd.C_below HR2.out HB.out) | (with_reducible refine Kd.C_alloc ?_ _) | (with_reducible refine Kd.C_drewN ?_ _) | (with_reducible refine Kd.C_drew ?_))); (case side2 => exact HC2.out); rintro e w' ⟨rfl, ⟨nd, rfl⟩⟩) | (go_at_call 39; (with_reducible refine (r_increasing.calls k _ _ l3 a0_1 true _ ?side1 ?side2 A11.out).mono ?_); (case side1 => repeat (first | exact (Kd.C_below HR3.out (fW HB.out)) | (with_reducible refine Kd.C_alloc ?_ _) | (with_reducible refine Kd.C_drewN ?_ _) | (with_reducible refine Kd.C_drew ?_))); (case side2 => exact HC3.out); rintro e w' ⟨rfl, ⟨nd, rfl⟩⟩) | (go_at_call 40; (with_reducible refine (r_has.calls k _ _ l2 a1 false _ ?side1 ?side2 A13.out).mono ?_); (case side1 => repeat (first | exact (Kd.C_below HR2.out (fW HB.out)) | (with_reducible refine Kd.C_alloc ?_ _) | (with_reducible refine Kd.C_drewN ?_ _) | (with_reducible refine Kd.C_drew ?_))); (case side2 => exact HC2.out); rintro e w' ⟨rfl, ⟨nd, rfl⟩⟩))
   go_meet
   case rel => exact ⟨_, (true), sqD, H', ⟨by first | omega | exact Nat.le_refl _⟩, ⟨fb BK477.out⟩, ⟨fW HB.out⟩⟩
  subst c14
  have H1 : (if 0 ≤ a1 then (if a1 < (l0_2.length : Int) then (r_Refutes.j0 k a1 l2 l3 (decide ((rd l0_2 a1) ≥ 0)) l0_0 a0_1 l0_2 l0_3) else (none)) else (none)) = some r := by rw [if_pos rfl] at H; exact H
  clear H
  have H := H1
  clear H1
  by_cases c15 : 0 ≤ a1
  rotate_left
  ·rw [if_neg c15] at H
   exact absurd H (by simp)
  rw [if_pos c15] at H
  have c15b0 : decide (0 ≤ a1) = true := decide_eq_true c15
  clear c15
  by_cases c16 : a1 < (l0_2.length : Int)
  rotate_left
  ·rw [if_neg c16] at H
   exact absurd H (by simp)
  rw [if_pos c16] at H
  have c16b0 : decide (a1 < (l0_2.length : Int)) = true := decide_eq_true c16
  clear c16
  have H' := am H
  clear H
  have := yC1 BK477
  have := kC1 BK477
  have := kC2 BK477
  have := kC3 BK477
  have := bf BK477.out 0
  have := bf BK477.out 1
  have := bf BK477.out 2
  have := bf BK477.out 3
  go_wp2_with (first | ((with_reducible refine gate_callee (f := 14) rfl ?_); refine goesL_ (some 16) rfl rfl Try.func14 (by kernel_rfl) rfl #[.agg #[.slice A0_0 l0_0.length c0_0, .int .i64 a0_1, .slice A0_2 l0_2.length c0_2, .slice A0_3 l0_3.length c0_3]] rfl (by (try simp only [pml]); first | done | rfl | (simp only [pdt]; rfl)) ?_; (with_reducible refine (r_Check.calls _ _ l0_0 a0_1 _ _ l0_2 _ _ l0_3 t478 _ ?side1 ?side2 ?side3 ?side4 ?side5 ?side6 A7.out).mono ?_); (case side1 => repeat (first | exact (Kd.C_below HR0_0.out HB.out) | (with_reducible refine Kd.C_alloc ?_ _) | (with_reducible refine Kd.C_drewN ?_ _) | (with_reducible refine Kd.C_drew ?_))); (case side2 => exact HC0_0.out); (case side3 => repeat (first | exact (Kd.C_below HR0_2.out HB.out) | (with_reducible refine Kd.C_alloc ?_ _) | (with_reducible refine Kd.C_drewN ?_ _) | (with_reducible refine Kd.C_drew ?_))); (case side4 => exact HC0_2.out); (case side5 => repeat (first | exact (Kd.C_below HR0_3.out HB.out) | (with_reducible refine Kd.C_alloc ?_ _) | (with_reducible refine Kd.C_drewN ?_ _) | (with_reducible refine Kd.C_drew ?_))); (case side6 => exact HC0_3.out); rintro e w18 ⟨rfl, hb⟩; refine ⟨_, rfl, ?_⟩; replace BK477 := bB BK477 hb; replace HB := bS HB hb; (try clear hb); (try clear hb2); (try clear hk); (try clear hi); obtain ⟨_, _, _, _, _, _, _, _⟩ := zC4 BK477) | (go_at_call 39; (with_reducible refine (r_increasing.calls k _ _ l2 (l0_0.length : Int) true _ ?side1 ?side2 A9.out).mono ?_); (case side1 => repeat (first | exact (Kd.C_below HR2.out HB.out) | (with_reducible refine Kd.C_alloc ?_ _) | (with_reducible refine Kd.C_drewN ?_ _) | (with_reducible refine Kd.C_drew ?_))); (case side2 => exact HC2.out); rintro e w' ⟨rfl, ⟨nd, rfl⟩⟩) | (go_at_call 39; (with_reducible refine (r_increasing.calls k _ _ l3 a0_1 true _ ?side1 ?side2 A11.out).mono ?_); (case side1 => repeat (first | exact (Kd.C_below HR3.out (fW HB.out)) | (with_reducible refine Kd.C_alloc ?_ _) | (with_reducible refine Kd.C_drewN ?_ _) | (with_reducible refine Kd.C_drew ?_))); (case side2 => exact HC3.out); rintro e w' ⟨rfl, ⟨nd, rfl⟩⟩) | (go_at_call 40; (with_reducible refine (r_has.calls k _ _ l2 a1 true _ ?side1 ?side2 A13.out).mono ?_); (case side1 => repeat (first | exact (Kd.C_below HR2.out (fW HB.out)) | (with_reducible refine Kd.C_alloc ?_ _) | (with_reducible refine Kd.C_drewN ?_ _) | (with_reducible refine Kd.C_drew ?_))); (case side2 => exact HC2.out); rintro e w' ⟨rfl, ⟨nd, rfl⟩⟩; have p482 : 0 ≤ (a1 : Int) := of_decide_eq_true (by assumption); have q482 : a1 < (l0_2.length : Int) := of_decide_eq_true (by assumption); obtain ⟨ad482, e482, hx482_0⟩ := Kd.at_int HR0_2.out a1 p482 q482; cases e482; replace hx482_0 := cl HB hx482_0; replace p482 := eq_true p482; replace q482 := eq_true q482))
  go_meet
  case rel => exact ⟨_, (decide ((rd l0_2 a1) ≥ 0)), sqD, H', ⟨by first | omega | exact Nat.le_refl _⟩, ⟨fb BK477.out⟩, ⟨fW HB.out⟩⟩
 case rest =>
  clear HC5
  try clear c1;try clear c2;try clear p2;try clear c3;try clear p4;try clear q4;try clear hx4;try clear c8;try clear c8b0;try clear c8b1;try clear c10;try clear c12;try clear c14;try clear c15;try clear c15b0;try clear c16;try clear c16b0;try clear c20;try clear hx482_0;try clear p482;try clear q482
  obtain ⟨kq, x46_4, rfl, HA, HJ4, BK477, HB⟩ := hcut
  cases kq with
  | zero => exact absurd HA.out (by simp [r_Refutes.j0])
  | succ kj4 =>
   have H := HA.out
   clear HA
   simp only [r_Refutes.j0] at H
   by_cases c31 : x46_4 = true
   ·subst c31
    have H1 : (some false) = some r := by rw [if_pos rfl] at H; exact H
    clear H
    have H := H1
    clear H1
    obtain rfl := Option.some.inj H
    go_wp2
    go_ret
    exact ⟨sqE, fW HB.out⟩
   ·replace c31 := Bool.eq_false_iff.mpr c31
    subst c31
    have H1 : (r_Refutes.l0 kj4 a1 l2 l3 0 0 0 l0_0 a0_1 l0_2 l0_3) = some r := by rw [if_neg (show ¬ (false = true) by decide)] at H; exact H
    clear H
    have H := H1
    clear H1
    have H' := am H
    clear H
    go_wp2
    go_loopg [9, 11] kj4 (fun kq v9 v11 w' => ∃ (x9_2 : Int) (x11_2 : Int), v9 = .int .i64 x9_2 ∧ v11 = .int .i64 x11_2 ∧ Aside0 (r_Refutes.l0 kq a1 l2 l3 x9_2 0 x11_2 l0_0 a0_1 l0_2 l0_3 = some r) ∧ Aside0 (kq ≤ kj4) ∧ Aside0 (w'.heap[gb477]? = some (.cells #[(.slice A0_0 l0_0.length c0_0), .int .i64 a0_1, (.slice A0_2 l0_2.length c0_2), (.slice A0_3 l0_3.length c0_3)] 26 (0, 0))) ∧ Aside0 (Below w.heap.size w w'))
    case atStart => exact ⟨(0), (0), sqD, sqD, H', ⟨Nat.le_refl _⟩, ⟨fb BK477.out⟩, ⟨fW HB.out⟩⟩
    case round =>
     clear H'
     try clear c1;try clear c2;try clear p2;try clear c3;try clear p4;try clear q4;try clear hx4;try clear c8;try clear c8b0;try clear c8b1;try clear c10;try clear c12;try clear c14;try clear c15;try clear c15b0;try clear c16;try clear c16b0;try clear c20;try clear c31;try clear hx482_0;try clear p2;try clear p4;try clear p482;try clear q4;try clear q482
     obtain ⟨x9_2, x11_2, rfl, rfl, HA, HK2, BK477, HB⟩ := hrel
     cases gk with
     | zero => exact absurd HA.out (by simp [r_Refutes.l0])
     | succ k2 =>
      have H := HA.out
      clear HA
      simp only [r_Refutes.l0] at H
      by_cases c32 : x11_2 < (l2.length : Int)
      ·rw [if_pos c32] at H
       have c32b0 : decide (x11_2 < (l2.length : Int)) = true := decide_eq_true c32
       clear c32
       by_cases c33 : 0 ≤ x11_2
       rotate_left
       ·rw [if_neg c33] at H
        exact absurd H (by simp)
       rw [if_pos c33] at H
       have c33b0 : decide (0 ≤ x11_2) = true := decide_eq_true c33
       clear c33
       by_cases c34 : 0 ≤ (rd l2 x11_2)
       rotate_left
       ·rw [if_neg c34] at H
        exact absurd H (by simp)
       rw [if_pos c34] at H
       have c34b0 : decide (0 ≤ (rd l2 x11_2)) = true := decide_eq_true c34
       clear c34
       by_cases c35 : (rd l2 x11_2) < (l0_3.length : Int)
       rotate_left
       ·rw [if_neg c35] at H
        exact absurd H (by simp)
       rw [if_pos c35] at H
       have c35b0 : decide ((rd l2 x11_2) < (l0_3.length : Int)) = true := decide_eq_true c35
       clear c35
       obtain ⟨bq36, hbq36⟩ : ∃ b_ : Bool, b_ = (rdOf false l0_3 (rd l2 x11_2)) := ⟨_, rfl⟩
       replace H : (if bq36 = true then (some false) else (if (rd l2 x11_2) = a1 then (r_Refutes.j2 k2 a1 l2 l3 x9_2 0 x11_2 true l0_0 a0_1 l0_2 l0_3) else (if (rd l2 x11_2) < (l0_2.length : Int) then (r_Refutes.j2 k2 a1 l2 l3 x9_2 0 x11_2 (decide ((rd l0_2 (rd l2 x11_2)) ≥ 0)) l0_0 a0_1 l0_2 l0_3) else (none)))) = some r := by rw [← hbq36] at H; exact H
       have Nbq36 := am hbq36
       clear hbq36
       by_cases c37 : bq36 = true
       ·subst c37
        have H1 : (some false) = some r := by rw [if_pos rfl] at H; exact H
        clear H
        have H := H1
        clear H1
        obtain rfl := Option.some.inj H
        try go_wp2
        have n0_ := am (bd BK477.out)
        have n1_ := am (wd HB.out)
        clear BK477 HB
        have BK477 := n0_
        have HB := n1_
        clear n0_ n1_
        have p483 : 0 ≤ (x11_2 : Int) := of_decide_eq_true (by assumption)
        have q483 : x11_2 < (l2.length : Int) := of_decide_eq_true (by assumption)
        obtain ⟨ad483, e483, hx483_0⟩ := Kd.at_int HR2.out x11_2 p483 q483
        have hw483_0 := hx483_0
        cases e483
        replace hx483_0 := cl HB hx483_0
        replace p483 := eq_true p483
        replace q483 := eq_true q483
        have p484 : 0 ≤ ((rd l2 x11_2) : Int) := of_decide_eq_true (by assumption)
        have q484 : (rd l2 x11_2) < (l0_3.length : Int) := of_decide_eq_true (by assumption)
        obtain ⟨ad484, e484, hx484_0⟩ := Kd.at_bool HR0_3.out (rd l2 x11_2) p484 q484
        (try rw [← Nbq36.out] at hx484_0)
        have hw484_0 := hx484_0
        cases e484
        replace hx484_0 := cl HB hx484_0
        replace p484 := eq_true p484
        replace q484 := eq_true q484
        refine start_ (n := 8) (S := fun w' => w'.cell? ⟨gb477, 0, none⟩ = some (.slice A0_0 l0_0.length c0_0) ∧ w'.cell? ⟨gb477, 1, none⟩ = some (.int .i64 a0_1) ∧ w'.cell? ⟨gb477, 2, none⟩ = some (.slice A0_2 l0_2.length c0_2) ∧ w'.cell? ⟨gb477, 3, none⟩ = some (.slice (some ad484) l0_3.length c0_3) ∧ w'.cell? (ad483.add (x11_2).toNat) = some (.int .i64 (rd l2 x11_2)) ∧ w'.cell? (ad484.add ((rd l2 x11_2)).toNat) = some (.bool true)) (ds := []) #[F,F,F,F,F,F,F,F] (by kernel_rfl) rfl rfl ⟨(bc BK477.out 0).trans rfl, (bc BK477.out 1).trans rfl, (bc BK477.out 2).trans rfl, (bc BK477.out 3).trans rfl, ((HB.out.cell (bq w _ hw483_0)).trans hw483_0), ((HB.out.cell (bq w _ hw484_0)).trans hw484_0)⟩ (fun hHeld => ?_); refine with_tabW r_Refutes.tab7 r_Refutes.bits7 (fun HT_ HW_ => ?_)
        generalize wr.drew = w38 at BK477 HB hx483_0 hx484_0 hHeld ⊢
        refine pu (i := 0) (N := some 53) (fl 8 1 []) HT_ ?_
        refine pu (i := 2) (N := some 55) (fl 8 1 [2]) HT_ ?_
        refine pu (i := 3) (N := some 56) (fl 8 1 [2, 3]) HT_ ?_
        refine pu (i := 4) (N := some 57) (fl 8 1 [2, 3, 4]) HT_ ?_
        refine tk (i := 1) (N := some 54) (fl 8 5 []) HT_ HW_ hHeld ?_
        refine tk (i := 5) (N := some 58) (fl 8 6 []) HT_ HW_ hHeld ?_
        refine pu (i := 6) (N := some 59) (fl 8 7 []) HT_ ?_
        refine tk (i := 7) (N := some 60) (fl 8 8 []) HT_ HW_ hHeld ?_
        refine done_ (done_of HT_.out (by kernel_rfl)) ?_
        try go_wp2
        go_ret
        exact ⟨sqE, fW HB.out⟩
       replace c37 := Bool.eq_false_iff.mpr c37
       subst c37
       have H1 : (if (rd l2 x11_2) = a1 then (r_Refutes.j2 k2 a1 l2 l3 x9_2 0 x11_2 true l0_0 a0_1 l0_2 l0_3) else (if (rd l2 x11_2) < (l0_2.length : Int) then (r_Refutes.j2 k2 a1 l2 l3 x9_2 0 x11_2 (decide ((rd l0_2 (rd l2 x11_2)) ≥ 0)) l0_0 a0_1 l0_2 l0_3) else (none))) = some r := by rw [if_neg (show ¬ (false = true) by decide)] at H; exact H
       clear H
       have H := H1
       clear H1
       have HC39 := am H
       clear H
       try go_wp2
       have n0_ := am (bd BK477.out)
       have n1_ := am (wd HB.out)
       clear BK477 HB
       have BK477 := n0_
       have HB := n1_
       clear n0_ n1_
       have p483 : 0 ≤ (x11_2 : Int) := of_decide_eq_true (by assumption)
       have q483 : x11_2 < (l2.length : Int) := of_decide_eq_true (by assumption)
       obtain ⟨ad483, e483, hx483_0⟩ := Kd.at_int HR2.out x11_2 p483 q483
       have hw483_0 := hx483_0
       cases e483
       replace hx483_0 := cl HB hx483_0
       replace p483 := eq_true p483
       replace q483 := eq_true q483
       have p484 : 0 ≤ ((rd l2 x11_2) : Int) := of_decide_eq_true (by assumption)
       have q484 : (rd l2 x11_2) < (l0_3.length : Int) := of_decide_eq_true (by assumption)
       obtain ⟨ad484, e484, hx484_0⟩ := Kd.at_bool HR0_3.out (rd l2 x11_2) p484 q484
       (try rw [← Nbq36.out] at hx484_0)
       have hw484_0 := hx484_0
       cases e484
       replace hx484_0 := cl HB hx484_0
       replace p484 := eq_true p484
       replace q484 := eq_true q484
       refine start_ (n := 8) (S := fun w' => w'.cell? ⟨gb477, 0, none⟩ = some (.slice A0_0 l0_0.length c0_0) ∧ w'.cell? ⟨gb477, 1, none⟩ = some (.int .i64 a0_1) ∧ w'.cell? ⟨gb477, 2, none⟩ = some (.slice A0_2 l0_2.length c0_2) ∧ w'.cell? ⟨gb477, 3, none⟩ = some (.slice (some ad484) l0_3.length c0_3) ∧ w'.cell? (ad483.add (x11_2).toNat) = some (.int .i64 (rd l2 x11_2)) ∧ w'.cell? (ad484.add ((rd l2 x11_2)).toNat) = some (.bool false)) (ds := []) #[F,F,F,F,F,F,F,F] (by kernel_rfl) rfl rfl ⟨(bc BK477.out 0).trans rfl, (bc BK477.out 1).trans rfl, (bc BK477.out 2).trans rfl, (bc BK477.out 3).trans rfl, ((HB.out.cell (bq w _ hw483_0)).trans hw483_0), ((HB.out.cell (bq w _ hw484_0)).trans hw484_0)⟩ (fun hHeld => ?_); refine with_tabW r_Refutes.tab7 r_Refutes.bits7 (fun HT_ HW_ => ?_)
       generalize wr.drew = w40 at BK477 HB hx483_0 hx484_0 hHeld ⊢
       refine pu (i := 0) (N := some 53) (fl 8 1 []) HT_ ?_
       refine pu (i := 2) (N := some 55) (fl 8 1 [2]) HT_ ?_
       refine pu (i := 3) (N := some 56) (fl 8 1 [2, 3]) HT_ ?_
       refine pu (i := 4) (N := some 57) (fl 8 1 [2, 3, 4]) HT_ ?_
       refine tk (i := 1) (N := some 54) (fl 8 5 []) HT_ HW_ hHeld ?_
       refine tk (i := 5) (N := some 58) (fl 8 6 []) HT_ HW_ hHeld ?_
       refine pu (i := 6) (N := some 59) (fl 8 7 []) HT_ ?_
       refine tk (i := 7) (N := some 60) (fl 8 8 []) HT_ HW_ hHeld ?_
       refine done_ (done_of HT_.out (by kernel_rfl)) ?_
       go_upto_region 9 with (fail)
       go_cut [77] (fun v77 wc => ∃ (kq : Nat) (x77_38 : Bool), v77 = .bool x77_38 ∧ Aside0 (r_Refutes.j2 kq a1 l2 l3 x9_2 0 x11_2 x77_38 l0_0 a0_1 l0_2 l0_3 = some r) ∧ Aside0 (kq ≤ k2) ∧ Aside0 (wc.heap[gb477]? = some (.cells #[(.slice A0_0 l0_0.length c0_0), .int .i64 a0_1, (.slice A0_2 l0_2.length c0_2), (.slice (some ad484) l0_3.length c0_3)] 26 (0, 0))) ∧ Aside0 (Below w.heap.size w wc))
       case first =>
        have H := HC39.out
        clear HC39
        by_cases c41 : (rd l2 x11_2) = a1
        rotate_left
        ·rw [if_neg c41] at H
         have c41b0 : ((rd l2 x11_2) == a1) = false := beq_eq_false_iff_ne.mpr c41
         have c41b1 : ((rd l2 x11_2) != a1) = true := bne_iff_ne.mpr c41
         (first | rw [c41b0] | (simp only [i64_w, i32_w]; rw [c41b0]) | skip)
         by_cases c43 : (rd l2 x11_2) < (l0_2.length : Int)
         rotate_left
         ·rw [if_neg c43] at H
          exact absurd H (by simp)
         rw [if_pos c43] at H
         have c43b0 : decide ((rd l2 x11_2) < (l0_2.length : Int)) = true := decide_eq_true c43
         clear c43
         have H' := am H
         clear H
         try go_wp2
         have n0_ := am (bd BK477.out)
         have n1_ := am (wd HB.out)
         clear BK477 HB
         have BK477 := n0_
         have HB := n1_
         clear n0_ n1_
         have p485 : 0 ≤ (x11_2 : Int) := of_decide_eq_true (by assumption)
         have q485 : x11_2 < (l2.length : Int) := of_decide_eq_true (by assumption)
         obtain ⟨ad485, e485, hx485_0⟩ := Kd.at_int HR2.out x11_2 p485 q485
         have hw485_0 := hx485_0
         obtain rfl : ad483 = ad485 := (by injection e485)
         replace hx485_0 := cl HB hx485_0
         replace p485 := eq_true p485
         replace q485 := eq_true q485
         have p486 : 0 ≤ (x11_2 : Int) := of_decide_eq_true (by assumption)
         have q486 : x11_2 < (l2.length : Int) := of_decide_eq_true (by assumption)
         obtain ⟨ad486, e486, hx486_0⟩ := Kd.at_int HR2.out x11_2 p486 q486
         have hw486_0 := hx486_0
         obtain rfl : ad483 = ad486 := (by injection e486)
         replace hx486_0 := cl HB hx486_0
         replace p486 := eq_true p486
         replace q486 := eq_true q486
         have p487 : 0 ≤ ((rd l2 x11_2) : Int) := of_decide_eq_true (by assumption)
         have q487 : (rd l2 x11_2) < (l0_2.length : Int) := of_decide_eq_true (by assumption)
         obtain ⟨ad487, e487, hx487_0⟩ := Kd.at_int HR0_2.out (rd l2 x11_2) p487 q487
         have hw487_0 := hx487_0
         cases e487
         replace hx487_0 := cl HB hx487_0
         replace p487 := eq_true p487
         replace q487 := eq_true q487
         refine start_ (n := 17) (S := fun w' => w'.cell? ⟨gb477, 0, none⟩ = some (.slice A0_0 l0_0.length c0_0) ∧ w'.cell? ⟨gb477, 1, none⟩ = some (.int .i64 a0_1) ∧ w'.cell? ⟨gb477, 2, none⟩ = some (.slice (some ad487) l0_2.length c0_2) ∧ w'.cell? ⟨gb477, 3, none⟩ = some (.slice (some ad484) l0_3.length c0_3) ∧ w'.cell? (ad483.add (x11_2).toNat) = some (.int .i64 (rd l2 x11_2)) ∧ w'.cell? (ad483.add (x11_2).toNat) = some (.int .i64 (rd l2 x11_2)) ∧ w'.cell? (ad487.add ((rd l2 x11_2)).toNat) = some (.int .i64 (rd l0_2 (rd l2 x11_2)))) (ds := []) #[F,F,F,F,F,F,F,F,F,F,F,F,F,F,F,F,F] (by kernel_rfl) rfl rfl ⟨(bc BK477.out 0).trans rfl, (bc BK477.out 1).trans rfl, (bc BK477.out 2).trans rfl, (bc BK477.out 3).trans rfl, ((HB.out.cell (bq w _ hw485_0)).trans hw485_0), ((HB.out.cell (bq w _ hw486_0)).trans hw486_0), ((HB.out.cell (bq w _ hw487_0)).trans hw487_0)⟩ (fun hHeld => ?_); refine with_tabW r_Refutes.tab9 r_Refutes.bits9 (fun HT_ HW_ => ?_)
         generalize w40.drew = w44 at BK477 HB hx485_0 hx486_0 hx487_0 hHeld ⊢
         refine pu (i := 0) (N := some 61) (fl 17 1 []) HT_ ?_
         refine pu (i := 1) (N := some 62) (fl 17 2 []) HT_ ?_
         refine pu (i := 2) (N := some 63) (fl 17 3 []) HT_ ?_
         refine pu (i := 4) (N := some 65) (fl 17 3 [4]) HT_ ?_
         refine tk (i := 3) (N := some 64) (fl 17 5 []) HT_ HW_ hHeld ?_
         refine pu (i := 5) (N := some 66) (fl 17 6 []) HT_ ?_
         refine pu (i := 6) (N := some 67) (fl 17 7 []) HT_ ?_
         refine pu (i := 7) (N := some 68) (fl 17 8 []) HT_ ?_
         refine pu (i := 9) (N := some 70) (fl 17 8 [9]) HT_ ?_
         refine pu (i := 10) (N := some 71) (fl 17 8 [9, 10]) HT_ ?_
         refine pu (i := 11) (N := some 72) (fl 17 8 [9, 10, 11]) HT_ ?_
         refine tk (i := 8) (N := some 69) (fl 17 12 []) HT_ HW_ hHeld ?_
         refine tk (i := 12) (N := some 73) (fl 17 13 []) HT_ HW_ hHeld ?_
         refine pu (i := 13) (N := some 74) (fl 17 14 []) HT_ ?_
         refine tk (i := 14) (N := some 75) (fl 17 15 []) HT_ HW_ hHeld ?_
         refine pu (i := 15) (N := some 76) (fl 17 16 []) HT_ ?_
         refine pu (i := 16) (N := some 77) (fl 17 17 []) HT_ ?_
         refine done_ (done_of HT_.out (by kernel_rfl)) ?_
         try go_wp2
         go_meet
         case rel => exact ⟨_, (decide ((rd l0_2 (rd l2 x11_2)) ≥ 0)), sqD, H', ⟨by have := HJ4.out; have := HK2.out; first | omega | exact Nat.le_refl _⟩, ⟨fb BK477.out⟩, ⟨fW HB.out⟩⟩
        rw [if_pos c41] at H
        have c41b0 : ((rd l2 x11_2) == a1) = true := beq_iff_eq.mpr c41
        have c41b1 : ((rd l2 x11_2) != a1) = false := bne_eq_false_iff_eq.mpr c41
        clear c41
        (first | rw [c41b0] | (simp only [i64_w, i32_w]; rw [c41b0]) | skip)
        have H' := am H
        clear H
        try go_wp2
        have n0_ := am (bd BK477.out)
        have n1_ := am (wd HB.out)
        clear BK477 HB
        have BK477 := n0_
        have HB := n1_
        clear n0_ n1_
        have p485 : 0 ≤ (x11_2 : Int) := of_decide_eq_true (by assumption)
        have q485 : x11_2 < (l2.length : Int) := of_decide_eq_true (by assumption)
        obtain ⟨ad485, e485, hx485_0⟩ := Kd.at_int HR2.out x11_2 p485 q485
        have hw485_0 := hx485_0
        obtain rfl : ad483 = ad485 := (by injection e485)
        replace hx485_0 := cl HB hx485_0
        replace p485 := eq_true p485
        replace q485 := eq_true q485
        refine start_ (n := 17) (S := fun w' => w'.cell? (ad483.add (x11_2).toNat) = some (.int .i64 (rd l2 x11_2))) (ds := []) #[F,F,F,F,F,F,F,F,F,F,F,F,F,F,F,F,F] (by kernel_rfl) rfl rfl (((HB.out.cell (bq w _ hw485_0)).trans hw485_0)) (fun hHeld => ?_); refine with_tabW r_Refutes.tab9 r_Refutes.bits9 (fun HT_ HW_ => ?_)
        generalize w40.drew = w42 at BK477 HB hx485_0 hHeld ⊢
        refine pu (i := 0) (N := some 61) (fl 17 1 []) HT_ ?_
        refine pu (i := 1) (N := some 62) (fl 17 2 []) HT_ ?_
        refine pu (i := 2) (N := some 63) (fl 17 3 []) HT_ ?_
        refine pu (i := 4) (N := some 65) (fl 17 3 [4]) HT_ ?_
        refine take_ (i := 3) (N := some 64) (v := ?_) (a' := ?_) #[T,T,T,T,T,F,F,F,F,F,F,F,F,F,F,F,F] rfl rfl (take_ofW HT_.out HW_.out (by kernel_rfl)) (fun _ _ _ h => h) (Or.inl ⟨by rfl, ?_⟩) hHeld ?_ ?_
        rotate_left
        ·intro w' s0
         go_simp
         with_reducible rfl
        rotate_left
        ·simp only [Act.put, psl, i64_w, i32_w]
         rfl
        refine pu (i := 5) (N := some 66) (fl 17 6 []) HT_ ?_
        refine pu (i := 6) (N := some 67) (fl 17 7 []) HT_ ?_
        refine pure_ (i := 7) (N := some 68) (v := undef) (a' := ?_) #[T,T,T,T,T,T,T,T,F,F,F,F,F,F,F,F,F] rfl rfl (any_of HT_.out (by kernel_rfl)) (fun _ _ _ h => h) (Or.inr ⟨by rfl, rfl⟩) ?_ ?_
        rotate_left
        ·simp only [Act.put, psl, i64_w, i32_w]
         rfl
        refine pure_ (i := 8) (N := some 69) (v := undef) (a' := ?_) #[T,T,T,T,T,T,T,T,T,F,F,F,F,F,F,F,F] rfl rfl (any_of HT_.out (by kernel_rfl)) (fun _ _ _ h => h) (Or.inr ⟨by rfl, rfl⟩) ?_ ?_
        rotate_left
        ·simp only [Act.put, psl, i64_w, i32_w]
         rfl
        refine pure_ (i := 9) (N := some 70) (v := undef) (a' := ?_) #[T,T,T,T,T,T,T,T,T,T,F,F,F,F,F,F,F] rfl rfl (any_of HT_.out (by kernel_rfl)) (fun _ _ _ h => h) (Or.inr ⟨by rfl, rfl⟩) ?_ ?_
        rotate_left
        ·simp only [Act.put, psl, i64_w, i32_w]
         rfl
        refine pure_ (i := 10) (N := some 71) (v := undef) (a' := ?_) #[T,T,T,T,T,T,T,T,T,T,T,F,F,F,F,F,F] rfl rfl (any_of HT_.out (by kernel_rfl)) (fun _ _ _ h => h) (Or.inr ⟨by rfl, rfl⟩) ?_ ?_
        rotate_left
        ·simp only [Act.put, psl, i64_w, i32_w]
         rfl
        refine pure_ (i := 11) (N := some 72) (v := undef) (a' := ?_) #[T,T,T,T,T,T,T,T,T,T,T,T,F,F,F,F,F] rfl rfl (any_of HT_.out (by kernel_rfl)) (fun _ _ _ h => h) (Or.inr ⟨by rfl, rfl⟩) ?_ ?_
        rotate_left
        ·simp only [Act.put, psl, i64_w, i32_w]
         rfl
        refine pure_ (i := 12) (N := some 73) (v := undef) (a' := ?_) #[T,T,T,T,T,T,T,T,T,T,T,T,T,F,F,F,F] rfl rfl (any_of HT_.out (by kernel_rfl)) (fun _ _ _ h => h) (Or.inr ⟨by rfl, rfl⟩) ?_ ?_
        rotate_left
        ·simp only [Act.put, psl, i64_w, i32_w]
         rfl
        refine pure_ (i := 13) (N := some 74) (v := undef) (a' := ?_) #[T,T,T,T,T,T,T,T,T,T,T,T,T,T,F,F,F] rfl rfl (any_of HT_.out (by kernel_rfl)) (fun _ _ _ h => h) (Or.inr ⟨by rfl, rfl⟩) ?_ ?_
        rotate_left
        ·simp only [Act.put, psl, i64_w, i32_w]
         rfl
        refine pure_ (i := 14) (N := some 75) (v := undef) (a' := ?_) #[T,T,T,T,T,T,T,T,T,T,T,T,T,T,T,F,F] rfl rfl (any_of HT_.out (by kernel_rfl)) (fun _ _ _ h => h) (Or.inr ⟨by rfl, rfl⟩) ?_ ?_
        rotate_left
        ·simp only [Act.put, psl, i64_w, i32_w]
         rfl
        refine pure_ (i := 15) (N := some 76) (v := undef) (a' := ?_) #[T,T,T,T,T,T,T,T,T,T,T,T,T,T,T,T,F] rfl rfl (any_of HT_.out (by kernel_rfl)) (fun _ _ _ h => h) (Or.inr ⟨by rfl, rfl⟩) ?_ ?_
        rotate_left
        ·simp only [Act.put, psl, i64_w, i32_w]
         rfl
        refine pu (i := 16) (N := some 77) (fl 17 17 []) HT_ ?_
        refine done_ (done_of HT_.out (by kernel_rfl)) ?_
        try go_wp2
        go_meet
        case rel => exact ⟨_, (true), sqD, H', ⟨by have := HJ4.out; have := HK2.out; first | omega | exact Nat.le_refl _⟩, ⟨fb BK477.out⟩, ⟨fW HB.out⟩⟩
       case rest =>
        clear HC39
        try clear p2;try clear c3;try clear q3;try clear c4;try clear p4;try clear q4;try clear hx4;try clear c32;try clear c32b0;try clear c33;try clear c33b0;try clear c34;try clear c34b0;try clear c35;try clear c35b0;try clear q36;try clear c37;try clear c41;try clear c41b0;try clear c41b1;try clear c43;try clear c43b0;try clear hx482_0;try clear hx483_0;try clear hx484_0;try clear hx485_0;try clear hx486_0;try clear hx487_0;try clear p2;try clear p4;try clear p482;try clear p483;try clear p484;try clear p485;try clear p486;try clear p487;try clear q4;try clear q482;try clear q483;try clear q484;try clear q485;try clear q486;try clear q487
        obtain ⟨kq, x77_38, rfl, HA, HJ38, BK477, HB⟩ := hcut
        cases kq with
        | zero => exact absurd HA.out (by simp [r_Refutes.j2])
        | succ kj38 =>
         have H := HA.out
         clear HA
         simp only [r_Refutes.j2] at H
         have HC45 := am H
         clear H
         go_upto_if 77 with (fail)
         go_cut [9] (fun v9 wc => ∃ (kq : Nat) (x9_44 : Int), v9 = .int .i64 x9_44 ∧ Aside0 (r_Refutes.j3 kq a1 l2 l3 x9_44 0 x11_2 l0_0 a0_1 l0_2 l0_3 = some r) ∧ Aside0 (kq ≤ kj38) ∧ Aside0 (wc.heap[gb477]? = some (.cells #[(.slice A0_0 l0_0.length c0_0), .int .i64 a0_1, (.slice A0_2 l0_2.length c0_2), (.slice (some ad484) l0_3.length c0_3)] 26 (0, 0))) ∧ Aside0 (Below w.heap.size w wc))
         case first =>
          have H := HC45.out
          clear HC45
          by_cases c46 : x77_38 = true
          ·subst c46
           have H1 : (r_Refutes.j3 kj38 a1 l2 l3 (wrap64 (x9_2 + 1)) 0 x11_2 l0_0 a0_1 l0_2 l0_3) = some r := by rw [if_pos rfl] at H; exact H
           clear H
           have H := H1
           clear H1
           have H' := am H
           clear H
           go_wp2
           go_meet
           case rel => exact ⟨_, (wrap64 (x9_2 + 1)), sqD, H', ⟨by have := HJ4.out; have := HK2.out; have := HJ38.out; first | omega | exact Nat.le_refl _⟩, ⟨fb BK477.out⟩, ⟨fW HB.out⟩⟩
          replace c46 := Bool.eq_false_iff.mpr c46
          subst c46
          have H1 : (r_Refutes.j3 kj38 a1 l2 l3 x9_2 0 x11_2 l0_0 a0_1 l0_2 l0_3) = some r := by rw [if_neg (show ¬ (false = true) by decide)] at H; exact H
          clear H
          have H := H1
          clear H1
          have H' := am H
          clear H
          go_wp2
          go_meet
          case rel => exact ⟨_, (x9_2), sqD, H', ⟨by have := HJ4.out; have := HK2.out; have := HJ38.out; first | omega | exact Nat.le_refl _⟩, ⟨fb BK477.out⟩, ⟨fW HB.out⟩⟩
         case rest =>
          clear HC45
          try clear p2;try clear c3;try clear q3;try clear c4;try clear p4;try clear q4;try clear hx4;try clear p6;try clear c32;try clear c32b0;try clear c33;try clear c33b0;try clear c34;try clear c34b0;try clear c35;try clear c35b0;try clear q36;try clear c37;try clear c41;try clear c41b0;try clear c41b1;try clear c43;try clear c43b0;try clear c46;try clear hx482_0;try clear hx483_0;try clear hx484_0;try clear hx485_0;try clear hx486_0;try clear hx487_0;try clear p2;try clear p4;try clear p482;try clear p483;try clear p484;try clear p485;try clear p486;try clear p487;try clear q3;try clear q36;try clear q4;try clear q482;try clear q483;try clear q484;try clear q485;try clear q486;try clear q487
          obtain ⟨kq, x9_44, rfl, HA, HJ44, BK477, HB⟩ := hcut
          cases kq with
          | zero => exact absurd HA.out (by simp [r_Refutes.j3])
          | succ kj44 =>
           have H := HA.out
           clear HA
           simp only [r_Refutes.j3] at H
           have H' := am H
           clear H
           go_wp2
           go_loopg [12] kj44 (fun kq v12 w' => ∃ (x12_5 : Int), v12 = .int .i64 x12_5 ∧ Aside0 (r_Refutes.l1 kq a1 l2 l3 x9_44 0 x11_2 x12_5 l0_0 a0_1 l0_2 l0_3 = some r) ∧ Aside0 (kq ≤ kj44) ∧ Aside0 (w'.heap[gb477]? = some (.cells #[(.slice A0_0 l0_0.length c0_0), .int .i64 a0_1, (.slice A0_2 l0_2.length c0_2), (.slice (some ad484) l0_3.length c0_3)] 26 (0, 0))) ∧ Aside0 (Below w.heap.size w w'))
           case atStart => exact ⟨(0), sqD, H', ⟨Nat.le_refl _⟩, ⟨fb BK477.out⟩, ⟨fW HB.out⟩⟩
           case round =>
            clear H'
            try clear p2;try clear c3;try clear q3;try clear c4;try clear p4;try clear q4;try clear hx4;try clear p6;try clear c32;try clear c32b0;try clear c33;try clear c33b0;try clear c34;try clear c34b0;try clear c35;try clear c35b0;try clear q36;try clear c37;try clear c41;try clear c41b0;try clear c41b1;try clear c43;try clear c43b0;try clear c46;try clear hx482_0;try clear hx483_0;try clear hx484_0;try clear hx485_0;try clear hx486_0;try clear hx487_0;try clear p2;try clear p4;try clear p482;try clear p483;try clear p484;try clear p485;try clear p486;try clear p487;try clear p6;try clear q3;try clear q36;try clear q4;try clear q482;try clear q483;try clear q484;try clear q485;try clear q486;try clear q487
            obtain ⟨x12_5, rfl, HA, HK5, BK477, HB⟩ := hrel
            cases gk with
            | zero => exact absurd HA.out (by simp [r_Refutes.l1])
            | succ k5 =>
             have H := HA.out
             clear HA
             simp only [r_Refutes.l1] at H
             by_cases c47 : 0 ≤ x11_2
             rotate_left
             ·rw [if_neg c47] at H
              exact absurd H (by simp)
             rw [if_pos c47] at H
             have c47b0 : decide (0 ≤ x11_2) = true := decide_eq_true c47
             clear c47
             by_cases c48 : x11_2 < (l2.length : Int)
             rotate_left
             ·rw [if_neg c48] at H
              exact absurd H (by simp)
             rw [if_pos c48] at H
             have c48b0 : decide (x11_2 < (l2.length : Int)) = true := decide_eq_true c48
             clear c48
             by_cases c49 : 0 ≤ (rd l2 x11_2)
             rotate_left
             ·rw [if_neg c49] at H
              exact absurd H (by simp)
             rw [if_pos c49] at H
             have c49b0 : decide (0 ≤ (rd l2 x11_2)) = true := decide_eq_true c49
             clear c49
             by_cases c50 : (rd l2 x11_2) < (l0_0.length : Int)
             rotate_left
             ·rw [if_neg c50] at H
              exact absurd H (by simp)
             rw [if_pos c50] at H
             have c50b0 : decide ((rd l2 x11_2) < (l0_0.length : Int)) = true := decide_eq_true c50
             clear c50
             by_cases c51 : x12_5 < ((rd_L1 l0_0 (rd l2 x11_2)).length : Int)
             rotate_left
             ·rw [if_neg c51] at H
              have c51b0 : decide (x12_5 < ((rd_L1 l0_0 (rd l2 x11_2)).length : Int)) = false := decide_eq_false c51
              clear c51
              have H' := am H
              clear H
              try go_wp2
              have n0_ := am (bd BK477.out)
              have n1_ := am (wd HB.out)
              clear BK477 HB
              have BK477 := n0_
              have HB := n1_
              clear n0_ n1_
              have p488 : 0 ≤ (x11_2 : Int) := of_decide_eq_true (by assumption)
              have q488 : x11_2 < (l2.length : Int) := of_decide_eq_true (by assumption)
              obtain ⟨ad488, e488, hx488_0⟩ := Kd.at_int HR2.out x11_2 p488 q488
              have hw488_0 := hx488_0
              obtain rfl : ad483 = ad488 := (by injection e488)
              replace hx488_0 := cl HB hx488_0
              replace p488 := eq_true p488
              replace q488 := eq_true q488
              have p489 : 0 ≤ ((rd l2 x11_2) : Int) := of_decide_eq_true (by assumption)
              have q489 : (rd l2 x11_2) < (l0_0.length : Int) := of_decide_eq_true (by assumption)
              obtain ⟨ad489, A489_0, c489_0, e489, hx489_0, hl489_0, hi489_0⟩ := at_L1 HR0_0.out (rd l2 x11_2) p489 q489
              have hw489_0 := hx489_0
              cases e489
              replace hx489_0 := cl HB hx489_0
              have HR489_0 := am hi489_0
              have HC489_0 := am hl489_0
              clear hi489_0 hl489_0
              replace p489 := eq_true p489
              replace q489 := eq_true q489
              refine start_ (n := 11) (S := fun w' => w'.cell? ⟨gb477, 0, none⟩ = some (.slice (some ad489) l0_0.length c0_0) ∧ w'.cell? ⟨gb477, 1, none⟩ = some (.int .i64 a0_1) ∧ w'.cell? ⟨gb477, 2, none⟩ = some (.slice A0_2 l0_2.length c0_2) ∧ w'.cell? ⟨gb477, 3, none⟩ = some (.slice (some ad484) l0_3.length c0_3) ∧ w'.cell? (ad483.add (x11_2).toNat) = some (.int .i64 (rd l2 x11_2)) ∧ w'.cell? (ad489.add ((rd l2 x11_2)).toNat) = some (.slice A489_0 (rd_L1 l0_0 (rd l2 x11_2)).length c489_0)) (ds := []) #[F,F,F,F,F,F,F,F,F,F,F] (by kernel_rfl) rfl rfl ⟨(bc BK477.out 0).trans rfl, (bc BK477.out 1).trans rfl, (bc BK477.out 2).trans rfl, (bc BK477.out 3).trans rfl, ((HB.out.cell (bq w _ hw488_0)).trans hw488_0), ((HB.out.cell (bq w _ hw489_0)).trans hw489_0)⟩ (fun hHeld => ?_); refine with_tabW r_Refutes.tab12 r_Refutes.bits12 (fun HT_ HW_ => ?_)
              generalize wr.drew = w59 at BK477 HB HR489_0 hx488_0 hx489_0 hHeld ⊢
              refine pu (i := 0) (N := some 80) (fl 11 1 []) HT_ ?_
              refine pu (i := 1) (N := some 81) (fl 11 2 []) HT_ ?_
              refine pu (i := 3) (N := some 83) (fl 11 2 [3]) HT_ ?_
              refine pu (i := 4) (N := some 84) (fl 11 2 [3, 4]) HT_ ?_
              refine pu (i := 5) (N := some 85) (fl 11 2 [3, 4, 5]) HT_ ?_
              refine tk (i := 2) (N := some 82) (fl 11 6 []) HT_ HW_ hHeld ?_
              refine tk (i := 6) (N := some 86) (fl 11 7 []) HT_ HW_ hHeld ?_
              refine pu (i := 7) (N := some 87) (fl 11 8 []) HT_ ?_
              refine tk (i := 8) (N := some 88) (fl 11 9 []) HT_ HW_ hHeld ?_
              refine pu (i := 9) (N := some 89) (fl 11 10 []) HT_ ?_
              refine pu (i := 10) (N := some 90) (fl 11 11 []) HT_ ?_
              refine done_ (done_of HT_.out (by kernel_rfl)) ?_
              try go_wp2
              go_roundg k5
              case measure => have := HJ4.out; have := HK2.out; have := HJ38.out; have := HJ44.out; have := HK5.out; omega
              case rel => exact ⟨(x9_44), (wrap64 (x11_2 + 1)), sqD, sqD, H', ⟨by have := HJ4.out; have := HK2.out; have := HJ38.out; have := HJ44.out; have := HK5.out; omega⟩, ⟨fb BK477.out⟩, ⟨fW HB.out⟩⟩
             rw [if_pos c51] at H
             have c51b0 : decide (x12_5 < ((rd_L1 l0_0 (rd l2 x11_2)).length : Int)) = true := decide_eq_true c51
             clear c51
             by_cases c52 : 0 ≤ x12_5
             rotate_left
             ·rw [if_neg c52] at H
              exact absurd H (by simp)
             rw [if_pos c52] at H
             have c52b0 : decide (0 ≤ x12_5) = true := decide_eq_true c52
             clear c52
             replace H := Option.bind_eq_some_iff.mp H
             obtain ⟨t493, A530, H⟩ := H
             replace H : (if t493 = true then (r_Refutes.l1 k5 a1 l2 l3 x9_44 0 x11_2 (wrap64 (x12_5 + 1)) l0_0 a0_1 l0_2 l0_3) else (some false)) = some r := H
             have A53 := am A530
             clear A530
             by_cases c54 : t493 = true
             ·subst c54
              have H1 : (r_Refutes.l1 k5 a1 l2 l3 x9_44 0 x11_2 (wrap64 (x12_5 + 1)) l0_0 a0_1 l0_2 l0_3) = some r := by rw [if_pos rfl] at H; exact H
              clear H
              have H := H1
              clear H1
              have H' := am H
              clear H
              try go_wp2
              have n0_ := am (bd BK477.out)
              have n1_ := am (wd HB.out)
              clear BK477 HB
              have BK477 := n0_
              have HB := n1_
              clear n0_ n1_
              have p488 : 0 ≤ (x11_2 : Int) := of_decide_eq_true (by assumption)
              have q488 : x11_2 < (l2.length : Int) := of_decide_eq_true (by assumption)
              obtain ⟨ad488, e488, hx488_0⟩ := Kd.at_int HR2.out x11_2 p488 q488
              have hw488_0 := hx488_0
              obtain rfl : ad483 = ad488 := (by injection e488)
              replace hx488_0 := cl HB hx488_0
              replace p488 := eq_true p488
              replace q488 := eq_true q488
              have p489 : 0 ≤ ((rd l2 x11_2) : Int) := of_decide_eq_true (by assumption)
              have q489 : (rd l2 x11_2) < (l0_0.length : Int) := of_decide_eq_true (by assumption)
              obtain ⟨ad489, A489_0, c489_0, e489, hx489_0, hl489_0, hi489_0⟩ := at_L1 HR0_0.out (rd l2 x11_2) p489 q489
              have hw489_0 := hx489_0
              cases e489
              replace hx489_0 := cl HB hx489_0
              have HR489_0 := am hi489_0
              have HC489_0 := am hl489_0
              clear hi489_0 hl489_0
              replace p489 := eq_true p489
              replace q489 := eq_true q489
              refine start_ (n := 11) (S := fun w' => w'.cell? ⟨gb477, 0, none⟩ = some (.slice (some ad489) l0_0.length c0_0) ∧ w'.cell? ⟨gb477, 1, none⟩ = some (.int .i64 a0_1) ∧ w'.cell? ⟨gb477, 2, none⟩ = some (.slice A0_2 l0_2.length c0_2) ∧ w'.cell? ⟨gb477, 3, none⟩ = some (.slice (some ad484) l0_3.length c0_3) ∧ w'.cell? (ad483.add (x11_2).toNat) = some (.int .i64 (rd l2 x11_2)) ∧ w'.cell? (ad489.add ((rd l2 x11_2)).toNat) = some (.slice A489_0 (rd_L1 l0_0 (rd l2 x11_2)).length c489_0)) (ds := []) #[F,F,F,F,F,F,F,F,F,F,F] (by kernel_rfl) rfl rfl ⟨(bc BK477.out 0).trans rfl, (bc BK477.out 1).trans rfl, (bc BK477.out 2).trans rfl, (bc BK477.out 3).trans rfl, ((HB.out.cell (bq w _ hw488_0)).trans hw488_0), ((HB.out.cell (bq w _ hw489_0)).trans hw489_0)⟩ (fun hHeld => ?_); refine with_tabW r_Refutes.tab12 r_Refutes.bits12 (fun HT_ HW_ => ?_)
              generalize wr.drew = w55 at BK477 HB HR489_0 hx488_0 hx489_0 hHeld ⊢
              refine pu (i := 0) (N := some 80) (fl 11 1 []) HT_ ?_
              refine pu (i := 1) (N := some 81) (fl 11 2 []) HT_ ?_
              refine pu (i := 3) (N := some 83) (fl 11 2 [3]) HT_ ?_
              refine pu (i := 4) (N := some 84) (fl 11 2 [3, 4]) HT_ ?_
              refine pu (i := 5) (N := some 85) (fl 11 2 [3, 4, 5]) HT_ ?_
              refine tk (i := 2) (N := some 82) (fl 11 6 []) HT_ HW_ hHeld ?_
              refine tk (i := 6) (N := some 86) (fl 11 7 []) HT_ HW_ hHeld ?_
              refine pu (i := 7) (N := some 87) (fl 11 8 []) HT_ ?_
              refine tk (i := 8) (N := some 88) (fl 11 9 []) HT_ HW_ hHeld ?_
              refine pu (i := 9) (N := some 89) (fl 11 10 []) HT_ ?_
              refine pu (i := 10) (N := some 90) (fl 11 11 []) HT_ ?_
              refine done_ (done_of HT_.out (by kernel_rfl)) ?_
              try go_wp2
              have n0_ := am (bd BK477.out)
              have n1_ := am (wd HB.out)
              clear BK477 HB
              have BK477 := n0_
              have HB := n1_
              clear n0_ n1_
              have p490 : 0 ≤ (x11_2 : Int) := of_decide_eq_true (by assumption)
              have q490 : x11_2 < (l2.length : Int) := of_decide_eq_true (by assumption)
              obtain ⟨ad490, e490, hx490_0⟩ := Kd.at_int HR2.out x11_2 p490 q490
              have hw490_0 := hx490_0
              obtain rfl : ad483 = ad490 := (by injection e490)
              replace hx490_0 := cl HB hx490_0
              replace p490 := eq_true p490
              replace q490 := eq_true q490
              have p491 : 0 ≤ ((rd l2 x11_2) : Int) := of_decide_eq_true (by assumption)
              have q491 : (rd l2 x11_2) < (l0_0.length : Int) := of_decide_eq_true (by assumption)
              obtain ⟨ad491, A491_0, c491_0, e491, hx491_0, hl491_0, hi491_0⟩ := at_L1 HR0_0.out (rd l2 x11_2) p491 q491
              have hw491_0 := hx491_0
              obtain rfl : ad489 = ad491 := (by injection e491)
              replace hx491_0 := cl HB hx491_0
              have HR491_0 := am hi491_0
              have HC491_0 := am hl491_0
              clear hi491_0 hl491_0
              replace p491 := eq_true p491
              replace q491 := eq_true q491
              have p492 : 0 ≤ (x12_5 : Int) := of_decide_eq_true (by assumption)
              have q492 : x12_5 < ((rd_L1 l0_0 (rd l2 x11_2)).length : Int) := of_decide_eq_true (by assumption)
              obtain ⟨ad492, e492, hx492_0⟩ := Kd.at_int HR491_0.out x12_5 p492 q492
              have hw492_0 := hx492_0
              cases e492
              replace hx492_0 := cl HB hx492_0
              replace p492 := eq_true p492
              replace q492 := eq_true q492
              refine start_ (n := 14) (S := fun w' => w'.cell? ⟨gb477, 0, none⟩ = some (.slice (some ad489) l0_0.length c0_0) ∧ w'.cell? ⟨gb477, 1, none⟩ = some (.int .i64 a0_1) ∧ w'.cell? ⟨gb477, 2, none⟩ = some (.slice A0_2 l0_2.length c0_2) ∧ w'.cell? ⟨gb477, 3, none⟩ = some (.slice (some ad484) l0_3.length c0_3) ∧ w'.cell? (ad483.add (x11_2).toNat) = some (.int .i64 (rd l2 x11_2)) ∧ w'.cell? (ad489.add ((rd l2 x11_2)).toNat) = some (.slice (some ad492) (rd_L1 l0_0 (rd l2 x11_2)).length c491_0) ∧ w'.cell? (ad492.add (x12_5).toNat) = some (.int .i64 (rd (rd_L1 l0_0 (rd l2 x11_2)) x12_5))) (ds := []) #[F,F,F,F,F,F,F,F,F,F,F,F,F,F] (by kernel_rfl) rfl rfl ⟨(bc BK477.out 0).trans rfl, (bc BK477.out 1).trans rfl, (bc BK477.out 2).trans rfl, (bc BK477.out 3).trans rfl, ((HB.out.cell (bq w _ hw490_0)).trans hw490_0), ((HB.out.cell (bq w _ hw491_0)).trans hw491_0), ((HB.out.cell (bq w _ hw492_0)).trans hw492_0)⟩ (fun hHeld => ?_); refine with_tabW r_Refutes.tab14 r_Refutes.bits14 (fun HT_ HW_ => ?_)
              generalize w55.drew = w56 at BK477 HB HR491_0 hx490_0 hx491_0 hx492_0 hHeld ⊢
              refine pu (i := 0) (N := some 93) (fl 14 1 []) HT_ ?_
              refine pu (i := 1) (N := some 94) (fl 14 2 []) HT_ ?_
              refine pu (i := 3) (N := some 96) (fl 14 2 [3]) HT_ ?_
              refine pu (i := 4) (N := some 97) (fl 14 2 [3, 4]) HT_ ?_
              refine pu (i := 5) (N := some 98) (fl 14 2 [3, 4, 5]) HT_ ?_
              refine pu (i := 9) (N := some 102) (fl 14 2 [3, 4, 5, 9]) HT_ ?_
              refine tk (i := 2) (N := some 95) (fl 14 6 [9]) HT_ HW_ hHeld ?_
              refine tk (i := 6) (N := some 99) (fl 14 7 [9]) HT_ HW_ hHeld ?_
              refine pu (i := 7) (N := some 100) (fl 14 8 [9]) HT_ ?_
              refine tk (i := 8) (N := some 101) (fl 14 10 []) HT_ HW_ hHeld ?_
              refine pu (i := 10) (N := some 103) (fl 14 11 []) HT_ ?_
              refine tk (i := 11) (N := some 104) (fl 14 12 []) HT_ HW_ hHeld ?_
              refine one_ (i := 12) (N := some 105) (fl 14 13 []) rfl rfl (one_of HT_.out (by kernel_rfl)) (by decide) (fun K hK => ?_)
              refine goes_ Try.func40 (by kernel_rfl) rfl #[.slice A3 l3.length c3, .int .i64 (rd (rd_L1 l0_0 (rd l2 x11_2)) x12_5)] (by rfl) rfl rfl (by (try simp only [pml]); first | done | rfl | (simp only [pdt]; rfl)) ?_
              with_reducible refine (r_has.calls k5 _ _ l3 (rd (rd_L1 l0_0 (rd l2 x11_2)) x12_5) true _ ?side1 ?side2 A53.out).mono ?_
              (case side1 => repeat (first | exact (Kd.C_below HR3.out HB.out) | (with_reducible refine Kd.C_alloc ?_ _) | (with_reducible refine Kd.C_drewN ?_ _) | (with_reducible refine Kd.C_drew ?_)))
              (case side2 => exact HC3.out)
              rintro e w' ⟨rfl, ⟨nd, rfl⟩⟩
              refine ⟨_, rfl, ?_⟩
              refine hK.out _ _ ⟨(bc BK477.out 0).trans rfl, (bc BK477.out 1).trans rfl, (bc BK477.out 2).trans rfl, (bc BK477.out 3).trans rfl, ((HB.out.cell (bq w _ hw490_0)).trans hw490_0), ((HB.out.cell (bq w _ hw491_0)).trans hw491_0), ((HB.out.cell (bq w _ hw492_0)).trans hw492_0)⟩ (fun hHeld => ?_)
              clear hK K
              refine norm_ (a' := ?_) ?_ ?_
              rotate_left
              ·show Act.put _ (some 105) _ = _
               simp only [Act.put, psl, i64_w, i32_w]
               rfl
              refine pu (i := 13) (N := some 106) (fl 14 14 []) HT_ ?_
              refine done_ (done_of HT_.out (by kernel_rfl)) ?_
              try go_wp2
              go_roundg k5
              case measure => have := HJ4.out; have := HK2.out; have := HJ38.out; have := HJ44.out; have := HK5.out; omega
              case rel => exact ⟨(wrap64 (x12_5 + 1)), sqD, H', ⟨by have := HJ4.out; have := HK2.out; have := HJ38.out; have := HJ44.out; have := HK5.out; omega⟩, ⟨fb BK477.out⟩, ⟨fW HB.out⟩⟩
             replace c54 := Bool.eq_false_iff.mpr c54
             subst c54
             have H1 : (some false) = some r := by rw [if_neg (show ¬ (false = true) by decide)] at H; exact H
             clear H
             have H := H1
             clear H1
             obtain rfl := Option.some.inj H
             try go_wp2
             have n0_ := am (bd BK477.out)
             have n1_ := am (wd HB.out)
             clear BK477 HB
             have BK477 := n0_
             have HB := n1_
             clear n0_ n1_
             have p488 : 0 ≤ (x11_2 : Int) := of_decide_eq_true (by assumption)
             have q488 : x11_2 < (l2.length : Int) := of_decide_eq_true (by assumption)
             obtain ⟨ad488, e488, hx488_0⟩ := Kd.at_int HR2.out x11_2 p488 q488
             have hw488_0 := hx488_0
             obtain rfl : ad483 = ad488 := (by injection e488)
             replace hx488_0 := cl HB hx488_0
             replace p488 := eq_true p488
             replace q488 := eq_true q488
             have p489 : 0 ≤ ((rd l2 x11_2) : Int) := of_decide_eq_true (by assumption)
             have q489 : (rd l2 x11_2) < (l0_0.length : Int) := of_decide_eq_true (by assumption)
             obtain ⟨ad489, A489_0, c489_0, e489, hx489_0, hl489_0, hi489_0⟩ := at_L1 HR0_0.out (rd l2 x11_2) p489 q489
             have hw489_0 := hx489_0
             cases e489
             replace hx489_0 := cl HB hx489_0
             have HR489_0 := am hi489_0
             have HC489_0 := am hl489_0
             clear hi489_0 hl489_0
             replace p489 := eq_true p489
             replace q489 := eq_true q489
             refine start_ (n := 11) (S := fun w' => w'.cell? ⟨gb477, 0, none⟩ = some (.slice (some ad489) l0_0.length c0_0) ∧ w'.cell? ⟨gb477, 1, none⟩ = some (.int .i64 a0_1) ∧ w'.cell? ⟨gb477, 2, none⟩ = some (.slice A0_2 l0_2.length c0_2) ∧ w'.cell? ⟨gb477, 3, none⟩ = some (.slice (some ad484) l0_3.length c0_3) ∧ w'.cell? (ad483.add (x11_2).toNat) = some (.int .i64 (rd l2 x11_2)) ∧ w'.cell? (ad489.add ((rd l2 x11_2)).toNat) = some (.slice A489_0 (rd_L1 l0_0 (rd l2 x11_2)).length c489_0)) (ds := []) #[F,F,F,F,F,F,F,F,F,F,F] (by kernel_rfl) rfl rfl ⟨(bc BK477.out 0).trans rfl, (bc BK477.out 1).trans rfl, (bc BK477.out 2).trans rfl, (bc BK477.out 3).trans rfl, ((HB.out.cell (bq w _ hw488_0)).trans hw488_0), ((HB.out.cell (bq w _ hw489_0)).trans hw489_0)⟩ (fun hHeld => ?_); refine with_tabW r_Refutes.tab12 r_Refutes.bits12 (fun HT_ HW_ => ?_)
             generalize wr.drew = w57 at BK477 HB HR489_0 hx488_0 hx489_0 hHeld ⊢
             refine pu (i := 0) (N := some 80) (fl 11 1 []) HT_ ?_
             refine pu (i := 1) (N := some 81) (fl 11 2 []) HT_ ?_
             refine pu (i := 3) (N := some 83) (fl 11 2 [3]) HT_ ?_
             refine pu (i := 4) (N := some 84) (fl 11 2 [3, 4]) HT_ ?_
             refine pu (i := 5) (N := some 85) (fl 11 2 [3, 4, 5]) HT_ ?_
             refine tk (i := 2) (N := some 82) (fl 11 6 []) HT_ HW_ hHeld ?_
             refine tk (i := 6) (N := some 86) (fl 11 7 []) HT_ HW_ hHeld ?_
             refine pu (i := 7) (N := some 87) (fl 11 8 []) HT_ ?_
             refine tk (i := 8) (N := some 88) (fl 11 9 []) HT_ HW_ hHeld ?_
             refine pu (i := 9) (N := some 89) (fl 11 10 []) HT_ ?_
             refine pu (i := 10) (N := some 90) (fl 11 11 []) HT_ ?_
             refine done_ (done_of HT_.out (by kernel_rfl)) ?_
             try go_wp2
             have n0_ := am (bd BK477.out)
             have n1_ := am (wd HB.out)
             clear BK477 HB
             have BK477 := n0_
             have HB := n1_
             clear n0_ n1_
             have p490 : 0 ≤ (x11_2 : Int) := of_decide_eq_true (by assumption)
             have q490 : x11_2 < (l2.length : Int) := of_decide_eq_true (by assumption)
             obtain ⟨ad490, e490, hx490_0⟩ := Kd.at_int HR2.out x11_2 p490 q490
             have hw490_0 := hx490_0
             obtain rfl : ad483 = ad490 := (by injection e490)
             replace hx490_0 := cl HB hx490_0
             replace p490 := eq_true p490
             replace q490 := eq_true q490
             have p491 : 0 ≤ ((rd l2 x11_2) : Int) := of_decide_eq_true (by assumption)
             have q491 : (rd l2 x11_2) < (l0_0.length : Int) := of_decide_eq_true (by assumption)
             obtain ⟨ad491, A491_0, c491_0, e491, hx491_0, hl491_0, hi491_0⟩ := at_L1 HR0_0.out (rd l2 x11_2) p491 q491
             have hw491_0 := hx491_0
             obtain rfl : ad489 = ad491 := (by injection e491)
             replace hx491_0 := cl HB hx491_0
             have HR491_0 := am hi491_0
             have HC491_0 := am hl491_0
             clear hi491_0 hl491_0
             replace p491 := eq_true p491
             replace q491 := eq_true q491
             have p492 : 0 ≤ (x12_5 : Int) := of_decide_eq_true (by assumption)
             have q492 : x12_5 < ((rd_L1 l0_0 (rd l2 x11_2)).length : Int) := of_decide_eq_true (by assumption)
             obtain ⟨ad492, e492, hx492_0⟩ := Kd.at_int HR491_0.out x12_5 p492 q492
             have hw492_0 := hx492_0
             cases e492
             replace hx492_0 := cl HB hx492_0
             replace p492 := eq_true p492
             replace q492 := eq_true q492
             refine start_ (n := 14) (S := fun w' => w'.cell? ⟨gb477, 0, none⟩ = some (.slice (some ad489) l0_0.length c0_0) ∧ w'.cell? ⟨gb477, 1, none⟩ = some (.int .i64 a0_1) ∧ w'.cell? ⟨gb477, 2, none⟩ = some (.slice A0_2 l0_2.length c0_2) ∧ w'.cell? ⟨gb477, 3, none⟩ = some (.slice (some ad484) l0_3.length c0_3) ∧ w'.cell? (ad483.add (x11_2).toNat) = some (.int .i64 (rd l2 x11_2)) ∧ w'.cell? (ad489.add ((rd l2 x11_2)).toNat) = some (.slice (some ad492) (rd_L1 l0_0 (rd l2 x11_2)).length c491_0) ∧ w'.cell? (ad492.add (x12_5).toNat) = some (.int .i64 (rd (rd_L1 l0_0 (rd l2 x11_2)) x12_5))) (ds := []) #[F,F,F,F,F,F,F,F,F,F,F,F,F,F] (by kernel_rfl) rfl rfl ⟨(bc BK477.out 0).trans rfl, (bc BK477.out 1).trans rfl, (bc BK477.out 2).trans rfl, (bc BK477.out 3).trans rfl, ((HB.out.cell (bq w _ hw490_0)).trans hw490_0), ((HB.out.cell (bq w _ hw491_0)).trans hw491_0), ((HB.out.cell (bq w _ hw492_0)).trans hw492_0)⟩ (fun hHeld => ?_); refine with_tabW r_Refutes.tab14 r_Refutes.bits14 (fun HT_ HW_ => ?_)
             generalize w57.drew = w58 at BK477 HB HR491_0 hx490_0 hx491_0 hx492_0 hHeld ⊢
             refine pu (i := 0) (N := some 93) (fl 14 1 []) HT_ ?_
             refine pu (i := 1) (N := some 94) (fl 14 2 []) HT_ ?_
             refine pu (i := 3) (N := some 96) (fl 14 2 [3]) HT_ ?_
             refine pu (i := 4) (N := some 97) (fl 14 2 [3, 4]) HT_ ?_
             refine pu (i := 5) (N := some 98) (fl 14 2 [3, 4, 5]) HT_ ?_
             refine pu (i := 9) (N := some 102) (fl 14 2 [3, 4, 5, 9]) HT_ ?_
             refine tk (i := 2) (N := some 95) (fl 14 6 [9]) HT_ HW_ hHeld ?_
             refine tk (i := 6) (N := some 99) (fl 14 7 [9]) HT_ HW_ hHeld ?_
             refine pu (i := 7) (N := some 100) (fl 14 8 [9]) HT_ ?_
             refine tk (i := 8) (N := some 101) (fl 14 10 []) HT_ HW_ hHeld ?_
             refine pu (i := 10) (N := some 103) (fl 14 11 []) HT_ ?_
             refine tk (i := 11) (N := some 104) (fl 14 12 []) HT_ HW_ hHeld ?_
             refine one_ (i := 12) (N := some 105) (fl 14 13 []) rfl rfl (one_of HT_.out (by kernel_rfl)) (by decide) (fun K hK => ?_)
             refine goes_ Try.func40 (by kernel_rfl) rfl #[.slice A3 l3.length c3, .int .i64 (rd (rd_L1 l0_0 (rd l2 x11_2)) x12_5)] (by rfl) rfl rfl (by (try simp only [pml]); first | done | rfl | (simp only [pdt]; rfl)) ?_
             with_reducible refine (r_has.calls k5 _ _ l3 (rd (rd_L1 l0_0 (rd l2 x11_2)) x12_5) false _ ?side1 ?side2 A53.out).mono ?_
             (case side1 => repeat (first | exact (Kd.C_below HR3.out HB.out) | (with_reducible refine Kd.C_alloc ?_ _) | (with_reducible refine Kd.C_drewN ?_ _) | (with_reducible refine Kd.C_drew ?_)))
             (case side2 => exact HC3.out)
             rintro e w' ⟨rfl, ⟨nd, rfl⟩⟩
             refine ⟨_, rfl, ?_⟩
             refine hK.out _ _ ⟨(bc BK477.out 0).trans rfl, (bc BK477.out 1).trans rfl, (bc BK477.out 2).trans rfl, (bc BK477.out 3).trans rfl, ((HB.out.cell (bq w _ hw490_0)).trans hw490_0), ((HB.out.cell (bq w _ hw491_0)).trans hw491_0), ((HB.out.cell (bq w _ hw492_0)).trans hw492_0)⟩ (fun hHeld => ?_)
             clear hK K
             refine norm_ (a' := ?_) ?_ ?_
             rotate_left
             ·show Act.put _ (some 105) _ = _
              simp only [Act.put, psl, i64_w, i32_w]
              rfl
             refine pu (i := 13) (N := some 106) (fl 14 14 []) HT_ ?_
             refine done_ (done_of HT_.out (by kernel_rfl)) ?_
             try go_wp2
             go_ret
             exact ⟨sqE, fW HB.out⟩
      ·rw [if_neg c32] at H
       have c32b0 : decide (x11_2 < (l2.length : Int)) = false := decide_eq_false c32
       clear c32
       have H' := am H
       clear H
       go_wp2
       go_loopg [10, 13] k2 (fun kq v10 v13 w' => ∃ (x10_3 : Int) (x13_3 : Int), v10 = .int .i64 x10_3 ∧ v13 = .int .i64 x13_3 ∧ Aside0 (r_Refutes.l2 kq l3 x9_2 x10_3 x13_3 l0_0 a0_1 l0_2 l0_3 = some r) ∧ Aside0 (kq ≤ k2) ∧ Aside0 (w'.heap[gb477]? = some (.cells #[(.slice A0_0 l0_0.length c0_0), .int .i64 a0_1, (.slice A0_2 l0_2.length c0_2), (.slice A0_3 l0_3.length c0_3)] 26 (0, 0))) ∧ Aside0 (Below w.heap.size w w'))
       case atStart => exact ⟨(0), (0), sqD, sqD, H', ⟨Nat.le_refl _⟩, ⟨fb BK477.out⟩, ⟨fW HB.out⟩⟩
       case round =>
        clear H'
        try clear p2;try clear c3;try clear c4;try clear p4;try clear q4;try clear hx4;try clear c5;try clear p6;try clear c32;try clear c32b0;try clear c33;try clear c34;try clear c35;try clear c40;try clear c47;try clear c48;try clear p48;try clear q48;try clear hx48;try clear c49;try clear p49;try clear q49;try clear hx49;try clear c50;try clear c51;try clear c51b0;try clear c52;try clear c54;try clear hx488_0;try clear hx489_0;try clear hx490_0;try clear hx491_0;try clear hx492_0;try clear p488;try clear p489;try clear p490;try clear p491;try clear p492;try clear q488;try clear q489;try clear q490;try clear q491;try clear q492
        obtain ⟨x10_3, x13_3, rfl, rfl, HA, HK3, BK477, HB⟩ := hrel
        cases gk with
        | zero => exact absurd HA.out (by simp [r_Refutes.l2])
        | succ k3 =>
         have H := HA.out
         clear HA
         simp only [r_Refutes.l2] at H
         by_cases c60 : x13_3 < (l3.length : Int)
         ·rw [if_pos c60] at H
          have c60b0 : decide (x13_3 < (l3.length : Int)) = true := decide_eq_true c60
          clear c60
          by_cases c61 : 0 ≤ x13_3
          rotate_left
          ·rw [if_neg c61] at H
           exact absurd H (by simp)
          rw [if_pos c61] at H
          have c61b0 : decide (0 ≤ x13_3) = true := decide_eq_true c61
          clear c61
          replace H := Option.bind_eq_some_iff.mp H
          obtain ⟨t495, A620, H⟩ := H
          replace H : (if t495 < 0 then (r_Refutes.l2 k3 l3 x9_2 (wrap64 (x10_3 + 1)) (wrap64 (x13_3 + 1)) l0_0 a0_1 l0_2 l0_3) else (if 0 ≤ t495 then (if t495 < (l0_3.length : Int) then (if rdOf false l0_3 t495 = true then (r_Refutes.l2 k3 l3 x9_2 x10_3 (wrap64 (x13_3 + 1)) l0_0 a0_1 l0_2 l0_3) else (r_Refutes.l2 k3 l3 x9_2 (wrap64 (x10_3 + 1)) (wrap64 (x13_3 + 1)) l0_0 a0_1 l0_2 l0_3)) else (none)) else (none))) = some r := H
          have A62 := am A620
          clear A620
          by_cases c63 : t495 < 0
          ·rw [if_pos c63] at H
           have c63b0 : decide (t495 < 0) = true := decide_eq_true c63
           clear c63
           have H' := am H
           clear H
           try go_wp2
           have n0_ := am (bd BK477.out)
           have n1_ := am (wd HB.out)
           clear BK477 HB
           have BK477 := n0_
           have HB := n1_
           clear n0_ n1_
           have p494 : 0 ≤ (x13_3 : Int) := of_decide_eq_true (by assumption)
           have q494 : x13_3 < (l3.length : Int) := of_decide_eq_true (by assumption)
           obtain ⟨ad494, e494, hx494_0⟩ := Kd.at_int HR3.out x13_3 p494 q494
           have hw494_0 := hx494_0
           cases e494
           replace hx494_0 := cl HB hx494_0
           replace p494 := eq_true p494
           replace q494 := eq_true q494
           refine start_ (n := 7) (S := fun w' => w'.cell? ⟨gb477, 0, none⟩ = some (.slice A0_0 l0_0.length c0_0) ∧ w'.cell? ⟨gb477, 1, none⟩ = some (.int .i64 a0_1) ∧ w'.cell? ⟨gb477, 2, none⟩ = some (.slice A0_2 l0_2.length c0_2) ∧ w'.cell? ⟨gb477, 3, none⟩ = some (.slice A0_3 l0_3.length c0_3) ∧ w'.cell? (ad494.add (x13_3).toNat) = some (.int .i64 (rd l3 x13_3))) (ds := []) #[F,F,F,F,F,F,F] (by kernel_rfl) rfl rfl ⟨(bc BK477.out 0).trans rfl, (bc BK477.out 1).trans rfl, (bc BK477.out 2).trans rfl, (bc BK477.out 3).trans rfl, ((HB.out.cell (bq w _ hw494_0)).trans hw494_0)⟩ (fun hHeld => ?_)
           generalize wr.drew = w64 at BK477 HB hx494_0 hHeld ⊢
           refine pure_ (i := 1) (N := some 114) (v := ?_) (a' := ?_) #[F,T,F,F,F,F,F] rfl rfl (by kernel_rfl) (fun _ _ _ h => h) (Or.inl ⟨by rfl, ?_⟩) ?_ ?_
           rotate_left
           ·intro w'
            go_simp
            with_reducible rfl
           rotate_left
           ·simp only [Act.put, psl, i64_w, i32_w]
            rfl
           refine pure_ (i := 2) (N := some 115) (v := ?_) (a' := ?_) #[F,T,T,F,F,F,F] rfl rfl (by kernel_rfl) (fun _ _ _ h => h) (Or.inl ⟨by rfl, ?_⟩) ?_ ?_
           rotate_left
           ·intro w'
            go_simp
            with_reducible rfl
           rotate_left
           ·simp only [Act.put, psl, i64_w, i32_w]
            rfl
           refine pure_ (i := 3) (N := some 116) (v := ?_) (a' := ?_) #[F,T,T,T,F,F,F] rfl rfl (by kernel_rfl) (fun _ _ _ h => h) (Or.inl ⟨by rfl, ?_⟩) ?_ ?_
           rotate_left
           ·intro w'
            go_simp
            with_reducible rfl
           rotate_left
           ·simp only [Act.put, psl, i64_w, i32_w]
            rfl
           refine take_ (i := 0) (N := some 113) (v := ?_) (a' := ?_) #[T,T,T,T,F,F,F] rfl rfl (by kernel_rfl) (fun _ _ _ h => h) (Or.inl ⟨by rfl, ?_⟩) hHeld ?_ ?_
           rotate_left
           ·rintro w' ⟨s0, s1, s2, s3, s4⟩
            go_simp
            with_reducible rfl
           rotate_left
           ·simp only [Act.put, psl, i64_w, i32_w]
            rfl
           refine take_ (i := 4) (N := some 117) (v := ?_) (a' := ?_) #[T,T,T,T,T,F,F] rfl rfl (by kernel_rfl) (fun _ _ _ h => h) (Or.inl ⟨by rfl, ?_⟩) hHeld ?_ ?_
           rotate_left
           ·rintro w' ⟨s0, s1, s2, s3, s4⟩
            go_simp
            with_reducible rfl
           rotate_left
           ·simp only [Act.put, psl, i64_w, i32_w]
            rfl
           refine one_ (i := 5) (N := some 118) (fl 7 6 []) rfl rfl (by kernel_rfl) (by decide) (fun K hK => ?_)
           refine goes_ Try.func29 (by kernel_rfl) rfl #[.agg #[.slice A0_0 l0_0.length c0_0, .int .i64 a0_1, .slice A0_2 l0_2.length c0_2, .slice A0_3 l0_3.length c0_3], .int .i64 (rd l3 x13_3)] (by rfl) rfl rfl (by (try simp only [pml]); first | done | rfl | (simp only [pdt]; rfl)) ?_
           with_reducible refine (r_User.calls k3 _ _ l0_0 a0_1 _ _ l0_2 _ _ l0_3 (rd l3 x13_3) t495 _ ?side1 ?side2 ?side3 ?side4 ?side5 ?side6 A62.out).mono ?_
           (case side1 => repeat (first | exact (Kd.C_below HR0_0.out HB.out) | (with_reducible refine Kd.C_alloc ?_ _) | (with_reducible refine Kd.C_drewN ?_ _) | (with_reducible refine Kd.C_drew ?_)))
           (case side2 => exact HC0_0.out)
           (case side3 => repeat (first | exact (Kd.C_below HR0_2.out HB.out) | (with_reducible refine Kd.C_alloc ?_ _) | (with_reducible refine Kd.C_drewN ?_ _) | (with_reducible refine Kd.C_drew ?_)))
           (case side4 => exact HC0_2.out)
           (case side5 => repeat (first | exact (Kd.C_below HR0_3.out HB.out) | (with_reducible refine Kd.C_alloc ?_ _) | (with_reducible refine Kd.C_drewN ?_ _) | (with_reducible refine Kd.C_drew ?_)))
           (case side6 => exact HC0_3.out)
           rintro e w65 ⟨rfl, hb⟩
           refine ⟨_, rfl, ?_⟩
           have n0_ := bB BK477 hb
           have n1_ := bS HB hb
           clear BK477 HB
           have BK477 := n0_
           have HB := n1_
           clear n0_ n1_
           (try clear hb)
           (try clear hb2)
           (try clear hk)
           (try clear hi)
           refine hK.out _ _ ⟨(bc BK477.out 0).trans rfl, (bc BK477.out 1).trans rfl, (bc BK477.out 2).trans rfl, (bc BK477.out 3).trans rfl, ((HB.out.cell (bq w _ hw494_0)).trans hw494_0)⟩ (fun hHeld => ?_)
           clear hK K
           refine norm_ (a' := ?_) ?_ ?_
           rotate_left
           ·show Act.put _ (some 118) _ = _
            simp only [Act.put, psl, i64_w, i32_w]
            rfl
           refine pure_ (i := 6) (N := some 14) (v := ?_) (a' := ?_) #[T,T,T,T,T,T,T] rfl rfl (by kernel_rfl) (fun _ _ _ h => h) (Or.inl ⟨by rfl, ?_⟩) ?_ ?_
           rotate_left
           ·intro w'
            go_simp
            with_reducible rfl
           rotate_left
           ·simp only [Act.put, psl, i64_w, i32_w]
            rfl
           refine done_ (by kernel_rfl) ?_
           try go_wp2
           go_roundg k3
           case measure => have := HJ4.out; have := HK2.out; have := HK3.out; omega
           case rel => exact ⟨(wrap64 (x10_3 + 1)), (wrap64 (x13_3 + 1)), sqD, sqD, H', ⟨by have := HJ4.out; have := HK2.out; have := HK3.out; omega⟩, ⟨fb BK477.out⟩, ⟨fW HB.out⟩⟩
          rw [if_neg c63] at H
          have c63b0 : decide (t495 < 0) = false := decide_eq_false c63
          clear c63
          by_cases c66 : 0 ≤ t495
          rotate_left
          ·rw [if_neg c66] at H
           exact absurd H (by simp)
          rw [if_pos c66] at H
          have c66b0 : decide (0 ≤ t495) = true := decide_eq_true c66
          clear c66
          by_cases c67 : t495 < (l0_3.length : Int)
          rotate_left
          ·rw [if_neg c67] at H
           exact absurd H (by simp)
          rw [if_pos c67] at H
          have c67b0 : decide (t495 < (l0_3.length : Int)) = true := decide_eq_true c67
          clear c67
          obtain ⟨bq68, hbq68⟩ : ∃ b_ : Bool, b_ = (rdOf false l0_3 t495) := ⟨_, rfl⟩
          replace H : (if bq68 = true then (r_Refutes.l2 k3 l3 x9_2 x10_3 (wrap64 (x13_3 + 1)) l0_0 a0_1 l0_2 l0_3) else (r_Refutes.l2 k3 l3 x9_2 (wrap64 (x10_3 + 1)) (wrap64 (x13_3 + 1)) l0_0 a0_1 l0_2 l0_3)) = some r := by rw [← hbq68] at H; exact H
          have Nbq68 := am hbq68
          clear hbq68
          by_cases c69 : bq68 = true
          ·subst c69
           have H1 : (r_Refutes.l2 k3 l3 x9_2 x10_3 (wrap64 (x13_3 + 1)) l0_0 a0_1 l0_2 l0_3) = some r := by rw [if_pos rfl] at H; exact H
           clear H
           have H := H1
           clear H1
           have H' := am H
           clear H
           try go_wp2
           have n0_ := am (bd BK477.out)
           have n1_ := am (wd HB.out)
           clear BK477 HB
           have BK477 := n0_
           have HB := n1_
           clear n0_ n1_
           have p494 : 0 ≤ (x13_3 : Int) := of_decide_eq_true (by assumption)
           have q494 : x13_3 < (l3.length : Int) := of_decide_eq_true (by assumption)
           obtain ⟨ad494, e494, hx494_0⟩ := Kd.at_int HR3.out x13_3 p494 q494
           have hw494_0 := hx494_0
           cases e494
           replace hx494_0 := cl HB hx494_0
           replace p494 := eq_true p494
           replace q494 := eq_true q494
           refine start_ (n := 7) (S := fun w' => w'.cell? ⟨gb477, 0, none⟩ = some (.slice A0_0 l0_0.length c0_0) ∧ w'.cell? ⟨gb477, 1, none⟩ = some (.int .i64 a0_1) ∧ w'.cell? ⟨gb477, 2, none⟩ = some (.slice A0_2 l0_2.length c0_2) ∧ w'.cell? ⟨gb477, 3, none⟩ = some (.slice A0_3 l0_3.length c0_3) ∧ w'.cell? (ad494.add (x13_3).toNat) = some (.int .i64 (rd l3 x13_3))) (ds := []) #[F,F,F,F,F,F,F] (by kernel_rfl) rfl rfl ⟨(bc BK477.out 0).trans rfl, (bc BK477.out 1).trans rfl, (bc BK477.out 2).trans rfl, (bc BK477.out 3).trans rfl, ((HB.out.cell (bq w _ hw494_0)).trans hw494_0)⟩ (fun hHeld => ?_)
           generalize wr.drew = w70 at BK477 HB hx494_0 hHeld ⊢
           refine pure_ (i := 1) (N := some 114) (v := ?_) (a' := ?_) #[F,T,F,F,F,F,F] rfl rfl (by kernel_rfl) (fun _ _ _ h => h) (Or.inl ⟨by rfl, ?_⟩) ?_ ?_
           rotate_left
           ·intro w'
            go_simp
            with_reducible rfl
           rotate_left
           ·simp only [Act.put, psl, i64_w, i32_w]
            rfl
           refine pure_ (i := 2) (N := some 115) (v := ?_) (a' := ?_) #[F,T,T,F,F,F,F] rfl rfl (by kernel_rfl) (fun _ _ _ h => h) (Or.inl ⟨by rfl, ?_⟩) ?_ ?_
           rotate_left
           ·intro w'
            go_simp
            with_reducible rfl
           rotate_left
           ·simp only [Act.put, psl, i64_w, i32_w]
            rfl
           refine pure_ (i := 3) (N := some 116) (v := ?_) (a' := ?_) #[F,T,T,T,F,F,F] rfl rfl (by kernel_rfl) (fun _ _ _ h => h) (Or.inl ⟨by rfl, ?_⟩) ?_ ?_
           rotate_left
           ·intro w'
            go_simp
            with_reducible rfl
           rotate_left
           ·simp only [Act.put, psl, i64_w, i32_w]
            rfl
           refine take_ (i := 0) (N := some 113) (v := ?_) (a' := ?_) #[T,T,T,T,F,F,F] rfl rfl (by kernel_rfl) (fun _ _ _ h => h) (Or.inl ⟨by rfl, ?_⟩) hHeld ?_ ?_
           rotate_left
           ·rintro w' ⟨s0, s1, s2, s3, s4⟩
            go_simp
            with_reducible rfl
           rotate_left
           ·simp only [Act.put, psl, i64_w, i32_w]
            rfl
           refine take_ (i := 4) (N := some 117) (v := ?_) (a' := ?_) #[T,T,T,T,T,F,F] rfl rfl (by kernel_rfl) (fun _ _ _ h => h) (Or.inl ⟨by rfl, ?_⟩) hHeld ?_ ?_
           rotate_left
           ·rintro w' ⟨s0, s1, s2, s3, s4⟩
            go_simp
            with_reducible rfl
           rotate_left
           ·simp only [Act.put, psl, i64_w, i32_w]
            rfl
           refine one_ (i := 5) (N := some 118) (fl 7 6 []) rfl rfl (by kernel_rfl) (by decide) (fun K hK => ?_)
           refine goes_ Try.func29 (by kernel_rfl) rfl #[.agg #[.slice A0_0 l0_0.length c0_0, .int .i64 a0_1, .slice A0_2 l0_2.length c0_2, .slice A0_3 l0_3.length c0_3], .int .i64 (rd l3 x13_3)] (by rfl) rfl rfl (by (try simp only [pml]); first | done | rfl | (simp only [pdt]; rfl)) ?_
           with_reducible refine (r_User.calls k3 _ _ l0_0 a0_1 _ _ l0_2 _ _ l0_3 (rd l3 x13_3) t495 _ ?side1 ?side2 ?side3 ?side4 ?side5 ?side6 A62.out).mono ?_
           (case side1 => repeat (first | exact (Kd.C_below HR0_0.out HB.out) | (with_reducible refine Kd.C_alloc ?_ _) | (with_reducible refine Kd.C_drewN ?_ _) | (with_reducible refine Kd.C_drew ?_)))
           (case side2 => exact HC0_0.out)
           (case side3 => repeat (first | exact (Kd.C_below HR0_2.out HB.out) | (with_reducible refine Kd.C_alloc ?_ _) | (with_reducible refine Kd.C_drewN ?_ _) | (with_reducible refine Kd.C_drew ?_)))
           (case side4 => exact HC0_2.out)
           (case side5 => repeat (first | exact (Kd.C_below HR0_3.out HB.out) | (with_reducible refine Kd.C_alloc ?_ _) | (with_reducible refine Kd.C_drewN ?_ _) | (with_reducible refine Kd.C_drew ?_)))
           (case side6 => exact HC0_3.out)
           rintro e w71 ⟨rfl, hb⟩
           refine ⟨_, rfl, ?_⟩
           have n0_ := bB BK477 hb
           have n1_ := bS HB hb
           clear BK477 HB
           have BK477 := n0_
           have HB := n1_
           clear n0_ n1_
           (try clear hb)
           (try clear hb2)
           (try clear hk)
           (try clear hi)
           refine hK.out _ _ ⟨(bc BK477.out 0).trans rfl, (bc BK477.out 1).trans rfl, (bc BK477.out 2).trans rfl, (bc BK477.out 3).trans rfl, ((HB.out.cell (bq w _ hw494_0)).trans hw494_0)⟩ (fun hHeld => ?_)
           clear hK K
           refine norm_ (a' := ?_) ?_ ?_
           rotate_left
           ·show Act.put _ (some 118) _ = _
            simp only [Act.put, psl, i64_w, i32_w]
            rfl
           refine pure_ (i := 6) (N := some 14) (v := ?_) (a' := ?_) #[T,T,T,T,T,T,T] rfl rfl (by kernel_rfl) (fun _ _ _ h => h) (Or.inl ⟨by rfl, ?_⟩) ?_ ?_
           rotate_left
           ·intro w'
            go_simp
            with_reducible rfl
           rotate_left
           ·simp only [Act.put, psl, i64_w, i32_w]
            rfl
           refine done_ (by kernel_rfl) ?_
           have := yC1 BK477
           have := kC1 BK477
           have := kC2 BK477
           have := kC3 BK477
           have := bf BK477.out 0
           have := bf BK477.out 1
           have := bf BK477.out 2
           have := bf BK477.out 3
           have p496 : 0 ≤ (t495 : Int) := of_decide_eq_true (by assumption)
           have q496 : t495 < (l0_3.length : Int) := of_decide_eq_true (by assumption)
           obtain ⟨ad496, e496, hx496_0⟩ := Kd.at_bool HR0_3.out t495 p496 q496
           (try rw [← Nbq68.out] at hx496_0)
           cases e496
           replace hx496_0 := cl HB hx496_0
           replace p496 := eq_true p496
           replace q496 := eq_true q496
           try go_wp2
           go_roundg k3
           case measure => have := HJ4.out; have := HK2.out; have := HK3.out; omega
           case rel => exact ⟨(x10_3), (wrap64 (x13_3 + 1)), sqD, sqD, H', ⟨by have := HJ4.out; have := HK2.out; have := HK3.out; omega⟩, ⟨fb BK477.out⟩, ⟨fW HB.out⟩⟩
          replace c69 := Bool.eq_false_iff.mpr c69
          subst c69
          have H1 : (r_Refutes.l2 k3 l3 x9_2 (wrap64 (x10_3 + 1)) (wrap64 (x13_3 + 1)) l0_0 a0_1 l0_2 l0_3) = some r := by rw [if_neg (show ¬ (false = true) by decide)] at H; exact H
          clear H
          have H := H1
          clear H1
          have H' := am H
          clear H
          try go_wp2
          have n0_ := am (bd BK477.out)
          have n1_ := am (wd HB.out)
          clear BK477 HB
          have BK477 := n0_
          have HB := n1_
          clear n0_ n1_
          have p494 : 0 ≤ (x13_3 : Int) := of_decide_eq_true (by assumption)
          have q494 : x13_3 < (l3.length : Int) := of_decide_eq_true (by assumption)
          obtain ⟨ad494, e494, hx494_0⟩ := Kd.at_int HR3.out x13_3 p494 q494
          have hw494_0 := hx494_0
          cases e494
          replace hx494_0 := cl HB hx494_0
          replace p494 := eq_true p494
          replace q494 := eq_true q494
          refine start_ (n := 7) (S := fun w' => w'.cell? ⟨gb477, 0, none⟩ = some (.slice A0_0 l0_0.length c0_0) ∧ w'.cell? ⟨gb477, 1, none⟩ = some (.int .i64 a0_1) ∧ w'.cell? ⟨gb477, 2, none⟩ = some (.slice A0_2 l0_2.length c0_2) ∧ w'.cell? ⟨gb477, 3, none⟩ = some (.slice A0_3 l0_3.length c0_3) ∧ w'.cell? (ad494.add (x13_3).toNat) = some (.int .i64 (rd l3 x13_3))) (ds := []) #[F,F,F,F,F,F,F] (by kernel_rfl) rfl rfl ⟨(bc BK477.out 0).trans rfl, (bc BK477.out 1).trans rfl, (bc BK477.out 2).trans rfl, (bc BK477.out 3).trans rfl, ((HB.out.cell (bq w _ hw494_0)).trans hw494_0)⟩ (fun hHeld => ?_)
          generalize wr.drew = w73 at BK477 HB hx494_0 hHeld ⊢
          refine pure_ (i := 1) (N := some 114) (v := ?_) (a' := ?_) #[F,T,F,F,F,F,F] rfl rfl (by kernel_rfl) (fun _ _ _ h => h) (Or.inl ⟨by rfl, ?_⟩) ?_ ?_
          rotate_left
          ·intro w'
           go_simp
           with_reducible rfl
          rotate_left
          ·simp only [Act.put, psl, i64_w, i32_w]
           rfl
          refine pure_ (i := 2) (N := some 115) (v := ?_) (a' := ?_) #[F,T,T,F,F,F,F] rfl rfl (by kernel_rfl) (fun _ _ _ h => h) (Or.inl ⟨by rfl, ?_⟩) ?_ ?_
          rotate_left
          ·intro w'
           go_simp
           with_reducible rfl
          rotate_left
          ·simp only [Act.put, psl, i64_w, i32_w]
           rfl
          refine pure_ (i := 3) (N := some 116) (v := ?_) (a' := ?_) #[F,T,T,T,F,F,F] rfl rfl (by kernel_rfl) (fun _ _ _ h => h) (Or.inl ⟨by rfl, ?_⟩) ?_ ?_
          rotate_left
          ·intro w'
           go_simp
           with_reducible rfl
          rotate_left
          ·simp only [Act.put, psl, i64_w, i32_w]
           rfl
          refine take_ (i := 0) (N := some 113) (v := ?_) (a' := ?_) #[T,T,T,T,F,F,F] rfl rfl (by kernel_rfl) (fun _ _ _ h => h) (Or.inl ⟨by rfl, ?_⟩) hHeld ?_ ?_
          rotate_left
          ·rintro w' ⟨s0, s1, s2, s3, s4⟩
           go_simp
           with_reducible rfl
          rotate_left
          ·simp only [Act.put, psl, i64_w, i32_w]
           rfl
          refine take_ (i := 4) (N := some 117) (v := ?_) (a' := ?_) #[T,T,T,T,T,F,F] rfl rfl (by kernel_rfl) (fun _ _ _ h => h) (Or.inl ⟨by rfl, ?_⟩) hHeld ?_ ?_
          rotate_left
          ·rintro w' ⟨s0, s1, s2, s3, s4⟩
           go_simp
           with_reducible rfl
          rotate_left
          ·simp only [Act.put, psl, i64_w, i32_w]
           rfl
          refine one_ (i := 5) (N := some 118) (fl 7 6 []) rfl rfl (by kernel_rfl) (by decide) (fun K hK => ?_)
          refine goes_ Try.func29 (by kernel_rfl) rfl #[.agg #[.slice A0_0 l0_0.length c0_0, .int .i64 a0_1, .slice A0_2 l0_2.length c0_2, .slice A0_3 l0_3.length c0_3], .int .i64 (rd l3 x13_3)] (by rfl) rfl rfl (by (try simp only [pml]); first | done | rfl | (simp only [pdt]; rfl)) ?_
          with_reducible refine (r_User.calls k3 _ _ l0_0 a0_1 _ _ l0_2 _ _ l0_3 (rd l3 x13_3) t495 _ ?side1 ?side2 ?side3 ?side4 ?side5 ?side6 A62.out).mono ?_
          (case side1 => repeat (first | exact (Kd.C_below HR0_0.out HB.out) | (with_reducible refine Kd.C_alloc ?_ _) | (with_reducible refine Kd.C_drewN ?_ _) | (with_reducible refine Kd.C_drew ?_)))
          (case side2 => exact HC0_0.out)
          (case side3 => repeat (first | exact (Kd.C_below HR0_2.out HB.out) | (with_reducible refine Kd.C_alloc ?_ _) | (with_reducible refine Kd.C_drewN ?_ _) | (with_reducible refine Kd.C_drew ?_)))
          (case side4 => exact HC0_2.out)
          (case side5 => repeat (first | exact (Kd.C_below HR0_3.out HB.out) | (with_reducible refine Kd.C_alloc ?_ _) | (with_reducible refine Kd.C_drewN ?_ _) | (with_reducible refine Kd.C_drew ?_)))
          (case side6 => exact HC0_3.out)
          rintro e w74 ⟨rfl, hb⟩
          refine ⟨_, rfl, ?_⟩
          have n0_ := bB BK477 hb
          have n1_ := bS HB hb
          clear BK477 HB
          have BK477 := n0_
          have HB := n1_
          clear n0_ n1_
          (try clear hb)
          (try clear hb2)
          (try clear hk)
          (try clear hi)
          refine hK.out _ _ ⟨(bc BK477.out 0).trans rfl, (bc BK477.out 1).trans rfl, (bc BK477.out 2).trans rfl, (bc BK477.out 3).trans rfl, ((HB.out.cell (bq w _ hw494_0)).trans hw494_0)⟩ (fun hHeld => ?_)
          clear hK K
          refine norm_ (a' := ?_) ?_ ?_
          rotate_left
          ·show Act.put _ (some 118) _ = _
           simp only [Act.put, psl, i64_w, i32_w]
           rfl
          refine pure_ (i := 6) (N := some 14) (v := ?_) (a' := ?_) #[T,T,T,T,T,T,T] rfl rfl (by kernel_rfl) (fun _ _ _ h => h) (Or.inl ⟨by rfl, ?_⟩) ?_ ?_
          rotate_left
          ·intro w'
           go_simp
           with_reducible rfl
          rotate_left
          ·simp only [Act.put, psl, i64_w, i32_w]
           rfl
          refine done_ (by kernel_rfl) ?_
          have := yC1 BK477
          have := kC1 BK477
          have := kC2 BK477
          have := kC3 BK477
          have := bf BK477.out 0
          have := bf BK477.out 1
          have := bf BK477.out 2
          have := bf BK477.out 3
          have p496 : 0 ≤ (t495 : Int) := of_decide_eq_true (by assumption)
          have q496 : t495 < (l0_3.length : Int) := of_decide_eq_true (by assumption)
          obtain ⟨ad496, e496, hx496_0⟩ := Kd.at_bool HR0_3.out t495 p496 q496
          (try rw [← Nbq68.out] at hx496_0)
          cases e496
          replace hx496_0 := cl HB hx496_0
          replace p496 := eq_true p496
          replace q496 := eq_true q496
          try go_wp2
          go_roundg k3
          case measure => have := HJ4.out; have := HK2.out; have := HK3.out; omega
          case rel => exact ⟨(wrap64 (x10_3 + 1)), (wrap64 (x13_3 + 1)), sqD, sqD, H', ⟨by have := HJ4.out; have := HK2.out; have := HK3.out; omega⟩, ⟨fb BK477.out⟩, ⟨fW HB.out⟩⟩
         ·rw [if_neg c60] at H
          have c60b0 : decide (x13_3 < (l3.length : Int)) = false := decide_eq_false c60
          clear c60
          obtain rfl := Option.some.inj H
          go_wp2
          go_ret
          exact ⟨sqE, fW HB.out⟩

end Go.Proofs.Ytkeomlmlimkebaa.QA
