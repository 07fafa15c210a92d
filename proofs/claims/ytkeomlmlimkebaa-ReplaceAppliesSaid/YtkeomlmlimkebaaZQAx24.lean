import Derived.Test.YtkeomlmlimkebaaZQAx0
import Derived.Test.YtkeomlmlimkebaaZQAy
import Derived.Test.YtkeomlmlimkebaaZQAx2
import Derived.Test.YtkeomlmlimkebaaZQAx8
import Derived.Test.YtkeomlmlimkebaaZQAx9
import Derived.Test.YtkeomlmlimkebaaZQAx10
import Derived.Test.YtkeomlmlimkebaaZQAx11
import Derived.Test.YtkeomlmlimkebaaZQAx22
import Derived.Test.YtkeomlmlimkebaaZQAx23
namespace Go.Proofs.Ytkeomlmlimkebaa.QA
open Go.RowKit Go.Proofs.YtkeomlmlimkebaaW.PrintWords Go.Proofs.YtkeomlmlimkebaaW.PrintLast Go.Proofs.YtkeomlmlimkebaaW.PrintMore
open Go.Proofs.YtkeomlmlimkebaaW.PrintWords renaming blk_drewN → bN, blk_drew → bd, blk_alloc → ba, blk_frozen → bf, blk_cell → bc, below_size → wz, blk_far → bF, gate_callee → gc
open Aside0 renaming mk → am
attribute [local go_sem] max2_int min2_int max_two min_two max_three min_three max_four min_four
set_option linter.unusedVariables false
set_option linter.unusedSimpArgs false

mutual
def w_ReplaceApplies.j0 : Nat → List (S69) → Bool → List (List Int) → Int → List Int → List Bool → Option (Bool)
 | 0, _, _, _, _, _, _ => none
 | k + 1, x1, x17, x658000, x658001, x658002, x658003 => if x17 = true then ((w_awake.f k).bind fun t659 => (some t659)) else ((w_ours.f x658000 x658001 x658002 x658003).bind fun bt660 => ((w_back.f k x1).bind fun t670 => ((replace_Apply.f bt660.1 bt660.2.1 bt660.2.2.1 bt660.2.2.2 t670).bind fun bt673 => ((r_Check.f x658000 x658001 x658002 x658003).bind fun t685 => (if t685 = 0 then ((r_Apply.f k x658000 x658001 x658002 x658003 x1).bind fun bt698 => ((w_awake.f k).bind fun t710 => (if t710 = true then (if bt673.2.2.2.2 = bt698.2.2.2.2 then ((w_theirs.f bt673.1 bt673.2.1 bt673.2.2.1 bt673.2.2.2.1).bind fun bt711 => ((r_Same.f k bt711.1 bt711.2.1 bt711.2.2.1 bt711.2.2.2 bt698.1 bt698.2.1 bt698.2.2.1 bt698.2.2.2.1).bind fun t721 => (w_ReplaceApplies.j2 k t721))) else (w_ReplaceApplies.j2 k false)) else (w_ReplaceApplies.j2 k false)))) else ((w_awake.f k).bind fun t686 => (if t686 = true then (if bt673.2.2.2.2 = t685 then ((w_theirs.f bt673.1 bt673.2.1 bt673.2.2.1 bt673.2.2.2.1).bind fun bt687 => ((r_Same.f k bt687.1 bt687.2.1 bt687.2.2.1 bt687.2.2.2 ([] : List (List Int)) 0 ([] : List Int) ([] : List Bool)).bind fun t697 => (w_ReplaceApplies.j1 k t697))) else (w_ReplaceApplies.j1 k false)) else (w_ReplaceApplies.j1 k false))))))))
def w_ReplaceApplies.j2 : Nat → Bool → Option (Bool)
 | 0, _ => none
 | k + 1, x4 => some x4
def w_ReplaceApplies.j1 : Nat → Bool → Option (Bool)
 | 0, _ => none
 | k + 1, x4 => some x4
end
def w_ReplaceApplies.f (k : Nat) (l0_0 : List (List Int)) (a0_1 : Int) (l0_2 : List Int) (l0_3 : List Bool) (l1 : List (S69)) : Option (Bool) := (r_Few.f k l0_0 a0_1 l0_2 l0_3).bind fun t658 => (if t658 = true then (w_ReplaceApplies.j0 k l1 (decide ((l1.length : Int) > 70)) l0_0 a0_1 l0_2 l0_3) else (w_ReplaceApplies.j0 k l1 true l0_0 a0_1 l0_2 l0_3))
def w_ReplaceApplies.T8 : Bool × List (List Nat × List Nat) := (true, [([], []), ([0, 0], [0]), ([1], [1]), ([1], [1]), ([2, 3, 1], [1, 2, 3]), ([1, 4], [1, 4]), ([5, 1], [5]), ([6], [6]), ([7, 6, 6], [6, 7]), ([6], [6]), ([8, 9, 8, 6], [6, 8, 9]), ([6, 10], [6, 10]), ([11, 10, 0, 1, 2, 3, 4, 5, 6, 7, 8, 9, 10, 11], [11])])
def w_ReplaceApplies.B8 : List Nat := [0, 1, 3, 3, 15, 31, 63, 127, 255, 127, 1023, 2047, 4095]
theorem w_ReplaceApplies.tab8 : rtab .any (opsOf Try.f7 8) = w_ReplaceApplies.T8 := by kernel_rfl
theorem w_ReplaceApplies.bits8 : waitsOk w_ReplaceApplies.T8.2 w_ReplaceApplies.B8 = true := by kernel_rfl
set_option maxHeartbeats 8000000 in
set_option maxRecDepth 100000 in
theorem w_ReplaceApplies.calls (k : Nat) (A0_0 : Option Addr) (c0_0 : Nat) (l0_0 : List (List Int)) (a0_1 : Int) (A0_2 : Option Addr) (c0_2 : Nat) (l0_2 : List Int) (A0_3 : Option Addr) (c0_3 : Nat) (l0_3 : List Bool) (A1 : Option Addr) (c1 : Nat) (l1 : List (S69)) (r : Bool) (w : World) (hr0_0 : Kd.C (Kd.slice 3 (Kd.int .i64)) w A0_0 l0_0.length l0_0) (hc0_0 : l0_0.length ≤ c0_0) (hr0_2 : Kd.C (Kd.int .i64) w A0_2 l0_2.length l0_2) (hc0_2 : l0_2.length ≤ c0_2) (hr0_3 : Kd.C Kd.bool w A0_3 l0_3.length l0_3) (hc0_3 : l0_3.length ≤ c0_3) (hr1 : Kd.C k69 w A1 l1.length l1) (hc1 : l1.length ≤ c1) (h : w_ReplaceApplies.f k l0_0 a0_1 l0_2 l0_3 l1 = some r) :
  Calls Try.prog 7 #[.agg #[.slice A0_0 l0_0.length c0_0, .int .i64 a0_1, .slice A0_2 l0_2.length c0_2, .slice A0_3 l0_3.length c0_3], .slice A1 l1.length c1] w fun e w' => e = .returned (.bool r) ∧ Below w.heap.size w w' := by
 have hu26 := Try.underlying26
 have hu33 := Try.underlying33
 have HR0_0 := am hr0_0
 have HC0_0 := am hc0_0
 clear hr0_0 hc0_0
 have HR0_2 := am hr0_2
 have HC0_2 := am hc0_2
 clear hr0_2 hc0_2
 have HR0_3 := am hr0_3
 have HC0_3 := am hc0_3
 clear hr0_3 hc0_3
 have HR1 := am hr1
 have HC1 := am hc1
 clear hr1 hc1
 have HB := am (Below.refl w.heap.size w)
 have H : ((r_Few.f k l0_0 a0_1 l0_2 l0_3).bind fun t658 => (if t658 = true then (w_ReplaceApplies.j0 k l1 (decide ((l1.length : Int) > 70)) l0_0 a0_1 l0_2 l0_3) else (w_ReplaceApplies.j0 k l1 true l0_0 a0_1 l0_2 l0_3))) = some r := h
 clear h
 have HC3 := am H
 clear H
 go_enter Try.func7, Try.ntmps7
 go_upto_region 1 with (first | ((with_reducible refine gate_dst (N := 2) rfl ?_); (try (refine gate_guard (by rfl) ?_; dsimp only)); refine box_event ?hg (N := 2) ?hd (cs := #[.slice A0_0 l0_0.length c0_0, .int .i64 a0_1, .slice A0_2 l0_2.length c0_2, .slice A0_3 l0_3.length c0_3]) (t := 26) ?hr ?_; (case hd | hg => rfl); (case hr => first | (go_simp; done) | (go_simp; rfl)); intro gb657 hg w4 hbox hb; have BK657 := am hbox; have GW657 := sG HB hg; have GE657 := sG HB hg; replace HB := bS HB hb; clear hb hbox hg))
 (try simp only [Act.put, psl])
 go_cut [17] (fun v17 wc => ∃ (kq : Nat) (x17_2 : Bool), v17 = .bool x17_2 ∧ Aside0 (w_ReplaceApplies.j0 kq l1 x17_2 l0_0 a0_1 l0_2 l0_3 = some r) ∧ Aside0 (kq ≤ k) ∧ Aside0 (wc.heap[gb657]? = some (.cells #[(.slice A0_0 l0_0.length c0_0), .int .i64 a0_1, (.slice A0_2 l0_2.length c0_2), (.slice A0_3 l0_3.length c0_3)] 26 (0, 0))) ∧ Aside0 (Below w.heap.size w wc))
 case first =>
  have H := HC3.out
  clear HC3
  replace H := Option.bind_eq_some_iff.mp H
  obtain ⟨t658, A50, H⟩ := H
  replace H : (if t658 = true then (w_ReplaceApplies.j0 k l1 (decide ((l1.length : Int) > 70)) l0_0 a0_1 l0_2 l0_3) else (w_ReplaceApplies.j0 k l1 true l0_0 a0_1 l0_2 l0_3)) = some r := H
  have A5 := am A50
  clear A50
  by_cases c6 : t658 = true
  ·subst c6
   have H1 : (w_ReplaceApplies.j0 k l1 (decide ((l1.length : Int) > 70)) l0_0 a0_1 l0_2 l0_3) = some r := by rw [if_pos rfl] at H; exact H
   clear H
   have H := H1
   clear H1
   have H' := am H
   clear H
   have := yC1 BK657
   have := kC1 BK657
   have := kC2 BK657
   have := kC3 BK657
   have := bf BK657.out 0
   have := bf BK657.out 1
   have := bf BK657.out 2
   have := bf BK657.out 3
   go_wp2_with (first | ((with_reducible refine gc (f := 10) rfl ?_); refine goesL_ (some 11) rfl rfl Try.func10 (by kernel_rfl) rfl #[.agg #[.slice A0_0 l0_0.length c0_0, .int .i64 a0_1, .slice A0_2 l0_2.length c0_2, .slice A0_3 l0_3.length c0_3]] rfl (by (try simp only [pml]); first | done | rfl | (simp only [pdt]; rfl)) ?_; (with_reducible refine (r_Few.calls k _ _ l0_0 a0_1 _ _ l0_2 _ _ l0_3 true _ ?side1 ?side2 ?side3 ?side4 ?side5 ?side6 A5.out).mono ?_); (case side1 => repeat (first | exact (Kd.C_below HR0_0.out HB.out) | (with_reducible refine Kd.C_alloc ?_ _) | (with_reducible refine Kd.C_drewN ?_ _) | (with_reducible refine Kd.C_drew ?_))); (case side2 => exact HC0_0.out); (case side3 => repeat (first | exact (Kd.C_below HR0_2.out HB.out) | (with_reducible refine Kd.C_alloc ?_ _) | (with_reducible refine Kd.C_drewN ?_ _) | (with_reducible refine Kd.C_drew ?_))); (case side4 => exact HC0_2.out); (case side5 => repeat (first | exact (Kd.C_below HR0_3.out HB.out) | (with_reducible refine Kd.C_alloc ?_ _) | (with_reducible refine Kd.C_drewN ?_ _) | (with_reducible refine Kd.C_drew ?_))); (case side6 => exact HC0_3.out); rintro e w8 ⟨rfl, hb⟩; refine ⟨_, rfl, ?_⟩; replace BK657 := bB BK657 hb; replace HB := bS HB hb; (try clear hb); (try clear hb2); (try clear hk); (try clear hi)))
   go_meet
   case rel => exact ⟨_, (decide ((l1.length : Int) > 70)), sqD, H', ⟨by first | omega | exact Nat.le_refl _⟩, ⟨fb BK657.out⟩, ⟨fW HB.out⟩⟩
  replace c6 := Bool.eq_false_iff.mpr c6
  subst c6
  have H1 : (w_ReplaceApplies.j0 k l1 true l0_0 a0_1 l0_2 l0_3) = some r := by rw [if_neg (show ¬ (false = true) by decide)] at H; exact H
  clear H
  have H := H1
  clear H1
  have H' := am H
  clear H
  have := yC1 BK657
  have := kC1 BK657
  have := kC2 BK657
  have := kC3 BK657
  have := bf BK657.out 0
  have := bf BK657.out 1
  have := bf BK657.out 2
  have := bf BK657.out 3
  go_wp2_with (first | ((with_reducible refine gc (f := 10) rfl ?_); refine goesL_ (some 11) rfl rfl Try.func10 (by kernel_rfl) rfl #[.agg #[.slice A0_0 l0_0.length c0_0, .int .i64 a0_1, .slice A0_2 l0_2.length c0_2, .slice A0_3 l0_3.length c0_3]] rfl (by (try simp only [pml]); first | done | rfl | (simp only [pdt]; rfl)) ?_; (with_reducible refine (r_Few.calls k _ _ l0_0 a0_1 _ _ l0_2 _ _ l0_3 false _ ?side1 ?side2 ?side3 ?side4 ?side5 ?side6 A5.out).mono ?_); (case side1 => repeat (first | exact (Kd.C_below HR0_0.out HB.out) | (with_reducible refine Kd.C_alloc ?_ _) | (with_reducible refine Kd.C_drewN ?_ _) | (with_reducible refine Kd.C_drew ?_))); (case side2 => exact HC0_0.out); (case side3 => repeat (first | exact (Kd.C_below HR0_2.out HB.out) | (with_reducible refine Kd.C_alloc ?_ _) | (with_reducible refine Kd.C_drewN ?_ _) | (with_reducible refine Kd.C_drew ?_))); (case side4 => exact HC0_2.out); (case side5 => repeat (first | exact (Kd.C_below HR0_3.out HB.out) | (with_reducible refine Kd.C_alloc ?_ _) | (with_reducible refine Kd.C_drewN ?_ _) | (with_reducible refine Kd.C_drew ?_))); (case side6 => exact HC0_3.out); rintro e w10 ⟨rfl, hb⟩; refine ⟨_, rfl, ?_⟩; replace BK657 := bB BK657 hb; replace HB := bS HB hb; (try clear hb); (try clear hb2); (try clear hk); (try clear hi)))
  go_meet
  case rel => exact ⟨_, (true), sqD, H', ⟨by first | omega | exact Nat.le_refl _⟩, ⟨fb BK657.out⟩, ⟨fW HB.out⟩⟩
 case rest =>
  clear HC3
  try clear c1;try clear p2;try clear c6;try clear c7;try clear c10
  obtain ⟨kq, x17_2, rfl, HA, HJ2, BK657, HB⟩ := hcut
  cases kq with
  | zero => exact absurd HA.out (by simp [w_ReplaceApplies.j0])
  | succ kj2 =>
   have H := HA.out
   clear HA
   simp only [w_ReplaceApplies.j0] at H
   by_cases c11 : x17_2 = true
   ·subst c11
    have H1 : ((w_awake.f kj2).bind fun t659 => (some t659)) = some r := by rw [if_pos rfl] at H; exact H
    clear H
    have H := H1
    clear H1
    replace H := Option.bind_eq_some_iff.mp H
    obtain ⟨t659, A120, H⟩ := H
    replace H : (some t659) = some r := H
    have A12 := am A120
    clear A120
    obtain rfl := Option.some.inj H
    go_wp2_with (first | ((with_reducible refine gc (f := 11) rfl ?_); refine goesL_ (some 18) rfl rfl Try.func11 (by kernel_rfl) rfl #[] rfl (by (try simp only [pml]); first | done | rfl | (simp only [pdt]; rfl)) ?_; (with_reducible refine (w_awake.calls kj2  t659 _ A12.out).mono ?_); rintro e w13 ⟨rfl, hb⟩; refine ⟨_, rfl, ?_⟩; replace BK657 := bB BK657 hb; replace HB := bS HB hb; (try clear hb); (try clear hb2); (try clear hk); (try clear hi)))
    go_ret
    exact ⟨sqE, fW HB.out⟩
   ·replace c11 := Bool.eq_false_iff.mpr c11
    subst c11
    have H1 : ((w_ours.f l0_0 a0_1 l0_2 l0_3).bind fun bt660 => ((w_back.f kj2 l1).bind fun t670 => ((replace_Apply.f bt660.1 bt660.2.1 bt660.2.2.1 bt660.2.2.2 t670).bind fun bt673 => ((r_Check.f l0_0 a0_1 l0_2 l0_3).bind fun t685 => (if t685 = 0 then ((r_Apply.f kj2 l0_0 a0_1 l0_2 l0_3 l1).bind fun bt698 => ((w_awake.f kj2).bind fun t710 => (if t710 = true then (if bt673.2.2.2.2 = bt698.2.2.2.2 then ((w_theirs.f bt673.1 bt673.2.1 bt673.2.2.1 bt673.2.2.2.1).bind fun bt711 => ((r_Same.f kj2 bt711.1 bt711.2.1 bt711.2.2.1 bt711.2.2.2 bt698.1 bt698.2.1 bt698.2.2.1 bt698.2.2.2.1).bind fun t721 => (w_ReplaceApplies.j2 kj2 t721))) else (w_ReplaceApplies.j2 kj2 false)) else (w_ReplaceApplies.j2 kj2 false)))) else ((w_awake.f kj2).bind fun t686 => (if t686 = true then (if bt673.2.2.2.2 = t685 then ((w_theirs.f bt673.1 bt673.2.1 bt673.2.2.1 bt673.2.2.2.1).bind fun bt687 => ((r_Same.f kj2 bt687.1 bt687.2.1 bt687.2.2.1 bt687.2.2.2 ([] : List (List Int)) 0 ([] : List Int) ([] : List Bool)).bind fun t697 => (w_ReplaceApplies.j1 kj2 t697))) else (w_ReplaceApplies.j1 kj2 false)) else (w_ReplaceApplies.j1 kj2 false)))))))) = some r := by rw [if_neg (show ¬ (false = true) by decide)] at H; exact H
    clear H
    have H := H1
    clear H1
    replace H := Option.bind_eq_some_iff.mp H
    obtain ⟨⟨t660, t663, t664, t667⟩, A140, H⟩ := H
    replace H : ((w_back.f kj2 l1).bind fun t670 => ((replace_Apply.f t660 t663 t664 t667 t670).bind fun bt673 => ((r_Check.f l0_0 a0_1 l0_2 l0_3).bind fun t685 => (if t685 = 0 then ((r_Apply.f kj2 l0_0 a0_1 l0_2 l0_3 l1).bind fun bt698 => ((w_awake.f kj2).bind fun t710 => (if t710 = true then (if bt673.2.2.2.2 = bt698.2.2.2.2 then ((w_theirs.f bt673.1 bt673.2.1 bt673.2.2.1 bt673.2.2.2.1).bind fun bt711 => ((r_Same.f kj2 bt711.1 bt711.2.1 bt711.2.2.1 bt711.2.2.2 bt698.1 bt698.2.1 bt698.2.2.1 bt698.2.2.2.1).bind fun t721 => (w_ReplaceApplies.j2 kj2 t721))) else (w_ReplaceApplies.j2 kj2 false)) else (w_ReplaceApplies.j2 kj2 false)))) else ((w_awake.f kj2).bind fun t686 => (if t686 = true then (if bt673.2.2.2.2 = t685 then ((w_theirs.f bt673.1 bt673.2.1 bt673.2.2.1 bt673.2.2.2.1).bind fun bt687 => ((r_Same.f kj2 bt687.1 bt687.2.1 bt687.2.2.1 bt687.2.2.2 ([] : List (List Int)) 0 ([] : List Int) ([] : List Bool)).bind fun t697 => (w_ReplaceApplies.j1 kj2 t697))) else (w_ReplaceApplies.j1 kj2 false)) else (w_ReplaceApplies.j1 kj2 false))))))) = some r := H
    have A14 := am A140
    clear A140
    replace H := Option.bind_eq_some_iff.mp H
    obtain ⟨t670, A150, H⟩ := H
    replace H : ((replace_Apply.f t660 t663 t664 t667 t670).bind fun bt673 => ((r_Check.f l0_0 a0_1 l0_2 l0_3).bind fun t685 => (if t685 = 0 then ((r_Apply.f kj2 l0_0 a0_1 l0_2 l0_3 l1).bind fun bt698 => ((w_awake.f kj2).bind fun t710 => (if t710 = true then (if bt673.2.2.2.2 = bt698.2.2.2.2 then ((w_theirs.f bt673.1 bt673.2.1 bt673.2.2.1 bt673.2.2.2.1).bind fun bt711 => ((r_Same.f kj2 bt711.1 bt711.2.1 bt711.2.2.1 bt711.2.2.2 bt698.1 bt698.2.1 bt698.2.2.1 bt698.2.2.2.1).bind fun t721 => (w_ReplaceApplies.j2 kj2 t721))) else (w_ReplaceApplies.j2 kj2 false)) else (w_ReplaceApplies.j2 kj2 false)))) else ((w_awake.f kj2).bind fun t686 => (if t686 = true then (if bt673.2.2.2.2 = t685 then ((w_theirs.f bt673.1 bt673.2.1 bt673.2.2.1 bt673.2.2.2.1).bind fun bt687 => ((r_Same.f kj2 bt687.1 bt687.2.1 bt687.2.2.1 bt687.2.2.2 ([] : List (List Int)) 0 ([] : List Int) ([] : List Bool)).bind fun t697 => (w_ReplaceApplies.j1 kj2 t697))) else (w_ReplaceApplies.j1 kj2 false)) else (w_ReplaceApplies.j1 kj2 false)))))) = some r := H
    have A15 := am A150
    clear A150
    replace H := Option.bind_eq_some_iff.mp H
    obtain ⟨⟨t673, t676, t677, t680, t683⟩, A160, H⟩ := H
    replace H : ((r_Check.f l0_0 a0_1 l0_2 l0_3).bind fun t685 => (if t685 = 0 then ((r_Apply.f kj2 l0_0 a0_1 l0_2 l0_3 l1).bind fun bt698 => ((w_awake.f kj2).bind fun t710 => (if t710 = true then (if t683 = bt698.2.2.2.2 then ((w_theirs.f t673 t676 t677 t680).bind fun bt711 => ((r_Same.f kj2 bt711.1 bt711.2.1 bt711.2.2.1 bt711.2.2.2 bt698.1 bt698.2.1 bt698.2.2.1 bt698.2.2.2.1).bind fun t721 => (w_ReplaceApplies.j2 kj2 t721))) else (w_ReplaceApplies.j2 kj2 false)) else (w_ReplaceApplies.j2 kj2 false)))) else ((w_awake.f kj2).bind fun t686 => (if t686 = true then (if t683 = t685 then ((w_theirs.f t673 t676 t677 t680).bind fun bt687 => ((r_Same.f kj2 bt687.1 bt687.2.1 bt687.2.2.1 bt687.2.2.2 ([] : List (List Int)) 0 ([] : List Int) ([] : List Bool)).bind fun t697 => (w_ReplaceApplies.j1 kj2 t697))) else (w_ReplaceApplies.j1 kj2 false)) else (w_ReplaceApplies.j1 kj2 false))))) = some r := H
    have A16 := am A160
    clear A160
    replace H := Option.bind_eq_some_iff.mp H
    obtain ⟨t685, A170, H⟩ := H
    replace H : (if t685 = 0 then ((r_Apply.f kj2 l0_0 a0_1 l0_2 l0_3 l1).bind fun bt698 => ((w_awake.f kj2).bind fun t710 => (if t710 = true then (if t683 = bt698.2.2.2.2 then ((w_theirs.f t673 t676 t677 t680).bind fun bt711 => ((r_Same.f kj2 bt711.1 bt711.2.1 bt711.2.2.1 bt711.2.2.2 bt698.1 bt698.2.1 bt698.2.2.1 bt698.2.2.2.1).bind fun t721 => (w_ReplaceApplies.j2 kj2 t721))) else (w_ReplaceApplies.j2 kj2 false)) else (w_ReplaceApplies.j2 kj2 false)))) else ((w_awake.f kj2).bind fun t686 => (if t686 = true then (if t683 = t685 then ((w_theirs.f t673 t676 t677 t680).bind fun bt687 => ((r_Same.f kj2 bt687.1 bt687.2.1 bt687.2.2.1 bt687.2.2.2 ([] : List (List Int)) 0 ([] : List Int) ([] : List Bool)).bind fun t697 => (w_ReplaceApplies.j1 kj2 t697))) else (w_ReplaceApplies.j1 kj2 false)) else (w_ReplaceApplies.j1 kj2 false)))) = some r := H
    have A17 := am A170
    clear A170
    by_cases c18 : t685 = 0
    ·rw [if_pos c18] at H
     have c18b0 : (t685 == 0) = true := beq_iff_eq.mpr c18
     have c18b1 : (t685 != 0) = false := bne_eq_false_iff_eq.mpr c18
     clear c18
     replace H := Option.bind_eq_some_iff.mp H
     obtain ⟨⟨t698, t701, t702, t705, t708⟩, A190, H⟩ := H
     replace H : ((w_awake.f kj2).bind fun t710 => (if t710 = true then (if t683 = t708 then ((w_theirs.f t673 t676 t677 t680).bind fun bt711 => ((r_Same.f kj2 bt711.1 bt711.2.1 bt711.2.2.1 bt711.2.2.2 t698 t701 t702 t705).bind fun t721 => (w_ReplaceApplies.j2 kj2 t721))) else (w_ReplaceApplies.j2 kj2 false)) else (w_ReplaceApplies.j2 kj2 false))) = some r := H
     have A19 := am A190
     clear A190
     have HC20 := am H
     clear H
     have := yC1 BK657
     have := kC1 BK657
     have := kC2 BK657
     have := kC3 BK657
     have := bf BK657.out 0
     have := bf BK657.out 1
     have := bf BK657.out 2
     have := bf BK657.out 3
     go_upto_region 8 with (first | ((with_reducible refine gc (f := 13) rfl ?_); refine goesL_ (some 21) rfl rfl Try.func13 (by kernel_rfl) rfl #[.agg #[.slice A0_0 l0_0.length c0_0, .int .i64 a0_1, .slice A0_2 l0_2.length c0_2, .slice A0_3 l0_3.length c0_3]] rfl (by (try simp only [pml]); first | done | rfl | (simp only [pdt]; rfl)) ?_; (with_reducible refine (w_ours.calls (fun k_ => k_ < w.heap.size) _ _ l0_0 a0_1 (fun k_ => k_ < w.heap.size) _ _ l0_2 (fun k_ => k_ < w.heap.size) _ _ l0_3 t660 t663 t664 t667 _ ?side1 ?side2 ?side3 A14.out).mono ?_); (case side1 => exact Kd.V_mk HC0_0.out (Kd.F_below (Kd.C_F (Kd.heap_slice 3 (Kd.heap_int .i64)) HR0_0.out) (fW HB.out))); (case side2 => exact Kd.V_mk HC0_2.out (Kd.F_below (Kd.C_F (Kd.heap_int .i64) HR0_2.out) (fW HB.out))); (case side3 => exact Kd.V_mk HC0_3.out (Kd.F_below (Kd.C_F Kd.heap_bool HR0_3.out) (fW HB.out))); rintro e w22 ⟨v661, v665, v668, rfl, ho0, ho1, ho2, hb⟩; refine ⟨_, rfl, ?_⟩; have HO662 := am (Kd.V_lower (Kd.V_mono (ok' := fun k_ => k_ ≠ gb657) ho0 (fun k_ hk_ => Or.elim hk_ (fun hs_ => Or.elim hs_ (fun hs_ => fun e_ => Nat.not_le.2 hs_ (by rw [e_]; exact GW657.out)) (fun hs_ => Or.elim hs_ (fun hs_ => fun e_ => Nat.not_le.2 hs_ (by rw [e_]; exact GW657.out)) (fun hs_ => fun e_ => Nat.not_le.2 hs_ (by rw [e_]; exact GW657.out)))) (fun hn_ => (Kd.freshB (g := gb657) (o := .cells #[.slice A0_0 l0_0.length c0_0, .int .i64 a0_1, .slice A0_2 l0_2.length c0_2, .slice A0_3 l0_3.length c0_3] 26 (0, 0)) (fb BK657.out) k_ hn_)))) (wz (fW HB.out))); have HO666 := am (Kd.V_lower (Kd.V_mono (ok' := fun k_ => k_ ≠ gb657) ho1 (fun k_ hk_ => Or.elim hk_ (fun hs_ => Or.elim hs_ (fun hs_ => fun e_ => Nat.not_le.2 hs_ (by rw [e_]; exact GW657.out)) (fun hs_ => Or.elim hs_ (fun hs_ => fun e_ => Nat.not_le.2 hs_ (by rw [e_]; exact GW657.out)) (fun hs_ => fun e_ => Nat.not_le.2 hs_ (by rw [e_]; exact GW657.out)))) (fun hn_ => (Kd.freshB (g := gb657) (o := .cells #[.slice A0_0 l0_0.length c0_0, .int .i64 a0_1, .slice A0_2 l0_2.length c0_2, .slice A0_3 l0_3.length c0_3] 26 (0, 0)) (fb BK657.out) k_ hn_)))) (wz (fW HB.out))); have HO669 := am (Kd.V_lower (Kd.V_mono (ok' := fun k_ => k_ ≠ gb657) ho2 (fun k_ hk_ => Or.elim hk_ (fun hs_ => Or.elim hs_ (fun hs_ => fun e_ => Nat.not_le.2 hs_ (by rw [e_]; exact GW657.out)) (fun hs_ => Or.elim hs_ (fun hs_ => fun e_ => Nat.not_le.2 hs_ (by rw [e_]; exact GW657.out)) (fun hs_ => fun e_ => Nat.not_le.2 hs_ (by rw [e_]; exact GW657.out)))) (fun hn_ => (Kd.freshB (g := gb657) (o := .cells #[.slice A0_0 l0_0.length c0_0, .int .i64 a0_1, .slice A0_2 l0_2.length c0_2, .slice A0_3 l0_3.length c0_3] 26 (0, 0)) (fb BK657.out) k_ hn_)))) (wz (fW HB.out))); replace BK657 := bB BK657 hb; replace HB := bS HB hb; (try clear hb); (try clear hb2); (try clear hk); (try clear hi); (try clear ho0); (try clear ho1); (try clear ho2)) | ((with_reducible refine gc (f := 32) rfl ?_); refine goesL_ (some 23) rfl rfl Try.func32 (by kernel_rfl) rfl #[.slice A1 l1.length c1] rfl (by (try simp only [pml]); first | done | rfl | (simp only [pdt]; rfl)) ?_; (with_reducible refine (w_back.calls kj2 _ _ l1 t670 _ ?side1 ?side2 A15.out).mono ?_); (case side1 => repeat (first | exact (Kd.C_below HR1.out HB.out) | (with_reducible refine Kd.C_alloc ?_ _) | (with_reducible refine Kd.C_drewN ?_ _) | (with_reducible refine Kd.C_drew ?_))); (case side2 => exact HC1.out); rintro e w23 ⟨v671, rfl, ho0, hb⟩; refine ⟨_, rfl, ?_⟩; replace HO662 := am (Kd.V_elder' (fV HO662.out) (Kd.R_base ho0) hb); replace HO666 := am (Kd.V_elder' (fV HO666.out) (Kd.R_base ho0) hb); replace HO669 := am (Kd.V_elder' (fV HO669.out) (Kd.R_base ho0) hb); have HO672 := am (Kd.R_lower ho0 (wz (fW HB.out))); replace BK657 := bB BK657 hb; replace HB := bS HB hb; (try clear hb); (try clear hb2); (try clear hk); (try clear hi); (try clear ho0); obtain ⟨Ao24, co24, eo24⟩ := Kd.V_slice HO662.out; subst eo24; obtain ⟨Ao25, co25, eo25⟩ := Kd.V_slice HO666.out; subst eo25; obtain ⟨Ao26, co26, eo26⟩ := Kd.V_slice HO669.out; subst eo26; obtain ⟨Ao27, co27, eo27⟩ := Kd.R_slice HO672.out; subst eo27) | ((with_reducible refine gc (f := 31) rfl ?_); refine goesL_ (some 24) rfl rfl Try.func31 (by kernel_rfl) rfl #[.agg #[.slice Ao24 t660.length co24, .int .i64 t663, .slice Ao25 t664.length co25, .slice Ao26 t667.length co26], .slice Ao27 t670.length co27] rfl (by (try simp only [pml]); first | done | rfl | (simp only [pdt]; rfl)) ?_; (with_reducible refine (replace_Apply.calls _ _ t660 t663 _ _ t664 _ _ t667 _ _ t670 t673 t676 t677 t680 t683 _ ?side1 ?side2 ?side3 ?side4 ?side5 ?side6 ?side7 ?side8 A16.out).mono ?_); (case side1 => repeat (first | exact (Kd.V_reads' HO662.out).2.2 | (with_reducible refine Kd.C_alloc ?_ _) | (with_reducible refine Kd.C_drewN ?_ _) | (with_reducible refine Kd.C_drew ?_))); (case side2 => exact (Kd.V_reads' HO662.out).2.1); (case side3 => repeat (first | exact (Kd.V_reads' HO666.out).2.2 | (with_reducible refine Kd.C_alloc ?_ _) | (with_reducible refine Kd.C_drewN ?_ _) | (with_reducible refine Kd.C_drew ?_))); (case side4 => exact (Kd.V_reads' HO666.out).2.1); (case side5 => repeat (first | exact (Kd.V_reads' HO669.out).2.2 | (with_reducible refine Kd.C_alloc ?_ _) | (with_reducible refine Kd.C_drewN ?_ _) | (with_reducible refine Kd.C_drew ?_))); (case side6 => exact (Kd.V_reads' HO669.out).2.1); (case side7 => repeat (first | exact (Kd.R_reads' HO672.out).2.2 | (with_reducible refine Kd.C_alloc ?_ _) | (with_reducible refine Kd.C_drewN ?_ _) | (with_reducible refine Kd.C_drew ?_))); (case side8 => exact (Kd.R_reads' HO672.out).2.1); rintro e w28 ⟨v674, v678, v681, rfl, ho0, ho1, ho2, hb⟩; refine ⟨_, rfl, ?_⟩; replace HO662 := am (Kd.V_mono (Kd.V_told (Kd.V_told (Kd.V_told (Kd.V_old (fV HO662.out) hb) (Kd.S_base ho0)) (Kd.R_base ho1)) (Kd.R_base ho2)) (fun _ h_ => h_.1)); replace HO666 := am (Kd.V_mono (Kd.V_told (Kd.V_told (Kd.V_told (Kd.V_old (fV HO666.out) hb) (Kd.S_base ho0)) (Kd.R_base ho1)) (Kd.R_base ho2)) (fun _ h_ => h_.1)); replace HO669 := am (Kd.V_mono (Kd.V_told (Kd.V_told (Kd.V_told (Kd.V_old (fV HO669.out) hb) (Kd.S_base ho0)) (Kd.R_base ho1)) (Kd.R_base ho2)) (fun _ h_ => h_.1)); replace HO672 := dR HO672 hb; have HO675 := am (Kd.S_lower ho0 (wz (fW HB.out))); have HO679 := am (Kd.R_lower ho1 (wz (fW HB.out))); have HO682 := am (Kd.R_lower ho2 (wz (fW HB.out))); replace BK657 := bB BK657 hb; replace HB := bS HB hb; (try clear hb); (try clear hb2); (try clear hk); (try clear hi); (try clear ho0); (try clear ho1); (try clear ho2)) | ((with_reducible refine gate_dst (N := 5) rfl ?_); (try (refine gate_guard (by rfl) ?_; dsimp only)); refine box_event ?hg (N := 5) ?hd (cs := #[.slice none 0 0, .int .i64 0, .slice none 0 0, .slice none 0 0]) (t := 33) ?hr ?_; (case hd | hg => rfl); (case hr => first | (go_simp; done) | (go_simp; rfl)); intro gb684 hg w29 hbox hb; replace HO662 := eV HO662 hg hb; replace HO666 := eV HO666 hg hb; replace HO669 := eV HO669 hg hb; replace HO672 := dR HO672 hb; replace HO675 := am (Kd.S_below (by (with_reducible repeat (first | apply Kd.S_alloc | apply Kd.S_drewN | apply Kd.S_drew)); exact HO675.out) hb); replace HO679 := dR HO679 hb; replace HO682 := dR HO682 hb; have BK684 := am hbox; have GW684 := sG HB hg; have GE684 := sG HB hg; replace HB := bS HB hb; have NB657_684 := nL BK657 hg; have NB684_657 := nG BK657 hg; replace BK657 := bB BK657 hb; clear hb hbox hg; obtain ⟨Ao30, co30, eo30⟩ := Kd.S_slice HO675.out; subst eo30; have hnb31 := NB684_657.out; have hnc31 := NB657_684.out; obtain ⟨_, _, _, _, _, _, _, _⟩ := zC4 BK684; obtain ⟨Ao33, co33, eo33⟩ := Kd.R_slice HO679.out; subst eo33; obtain ⟨Ao34, co34, eo34⟩ := Kd.R_slice HO682.out; subst eo34; obtain ⟨_, _, _, _, _, _, _, _⟩ := zC4 BK657) | ((with_reducible refine gc (f := 14) rfl ?_); refine goesL_ (some 28) rfl rfl Try.func14 (by kernel_rfl) rfl #[.agg #[.slice A0_0 l0_0.length c0_0, .int .i64 a0_1, .slice A0_2 l0_2.length c0_2, .slice A0_3 l0_3.length c0_3]] rfl (by (try simp only [pml]); first | done | rfl | (simp only [pdt]; rfl)) ?_; (with_reducible refine (r_Check.calls _ _ l0_0 a0_1 _ _ l0_2 _ _ l0_3 t685 _ ?side1 ?side2 ?side3 ?side4 ?side5 ?side6 A17.out).mono ?_); (case side1 => exact Kd.C_below HR0_0.out (fW HB.out)); (case side2 => exact HC0_0.out); (case side3 => exact Kd.C_below HR0_2.out (fW HB.out)); (case side4 => exact HC0_2.out); (case side5 => exact Kd.C_below HR0_3.out (fW HB.out)); (case side6 => exact HC0_3.out); rintro e w36 ⟨rfl, hb⟩; refine ⟨_, rfl, ?_⟩; replace HO662 := am (Kd.V_below (by (with_reducible repeat (first | apply Kd.V_alloc | apply Kd.V_drewN | apply Kd.V_drew)); exact (Kd.V_mono (Kd.V_far (p := ⟨gb684, 3, none⟩) (Kd.V_far (p := ⟨gb684, 2, none⟩) (Kd.V_far (p := ⟨gb684, 1, none⟩) (Kd.V_far (p := ⟨gb684, 0, none⟩) (Kd.V_mono HO662.out (fun k_ hk => (⟨hk, hk.2⟩ : _ ∧ k_ ≠ gb684))) (fun _ hk => hk.2) (.slice Ao30 t673.length co30)) (fun _ hk => hk.2) (.int .i64 t676)) (fun _ hk => hk.2) (.slice Ao33 t677.length co33)) (fun _ hk => hk.2) (.slice Ao34 t680.length co34)) (fun _ h_ => h_.1))) hb); replace HO666 := am (Kd.V_below (by (with_reducible repeat (first | apply Kd.V_alloc | apply Kd.V_drewN | apply Kd.V_drew)); exact (Kd.V_mono (Kd.V_far (p := ⟨gb684, 3, none⟩) (Kd.V_far (p := ⟨gb684, 2, none⟩) (Kd.V_far (p := ⟨gb684, 1, none⟩) (Kd.V_far (p := ⟨gb684, 0, none⟩) (Kd.V_mono HO666.out (fun k_ hk => (⟨hk, hk.2⟩ : _ ∧ k_ ≠ gb684))) (fun _ hk => hk.2) (.slice Ao30 t673.length co30)) (fun _ hk => hk.2) (.int .i64 t676)) (fun _ hk => hk.2) (.slice Ao33 t677.length co33)) (fun _ hk => hk.2) (.slice Ao34 t680.length co34)) (fun _ h_ => h_.1))) hb); replace HO669 := am (Kd.V_below (by (with_reducible repeat (first | apply Kd.V_alloc | apply Kd.V_drewN | apply Kd.V_drew)); exact (Kd.V_mono (Kd.V_far (p := ⟨gb684, 3, none⟩) (Kd.V_far (p := ⟨gb684, 2, none⟩) (Kd.V_far (p := ⟨gb684, 1, none⟩) (Kd.V_far (p := ⟨gb684, 0, none⟩) (Kd.V_mono HO669.out (fun k_ hk => (⟨hk, hk.2⟩ : _ ∧ k_ ≠ gb684))) (fun _ hk => hk.2) (.slice Ao30 t673.length co30)) (fun _ hk => hk.2) (.int .i64 t676)) (fun _ hk => hk.2) (.slice Ao33 t677.length co33)) (fun _ hk => hk.2) (.slice Ao34 t680.length co34)) (fun _ h_ => h_.1))) hb); replace HO672 := am (Kd.R_below (by (with_reducible repeat (first | apply Kd.R_alloc | apply Kd.R_drewN | apply Kd.R_drew)); exact (Kd.R_mono (Kd.R_far (p := ⟨gb684, 3, none⟩) (Kd.R_far (p := ⟨gb684, 2, none⟩) (Kd.R_far (p := ⟨gb684, 1, none⟩) (Kd.R_far (p := ⟨gb684, 0, none⟩) (Kd.R_types HO672.out BK684.out (by decide)) (fun _ hk => hk.2) (.slice Ao30 t673.length co30)) (fun _ hk => hk.2) (.int .i64 t676)) (fun _ hk => hk.2) (.slice Ao33 t677.length co33)) (fun _ hk => hk.2) (.slice Ao34 t680.length co34)) (fun _ h_ => h_.1))) hb); replace HO675 := am (Kd.S_below (by (with_reducible repeat (first | apply Kd.S_alloc | apply Kd.S_drewN | apply Kd.S_drew)); exact (Kd.S_mono (Kd.S_far (p := ⟨gb684, 3, none⟩) (Kd.S_far (p := ⟨gb684, 2, none⟩) (Kd.S_far (p := ⟨gb684, 1, none⟩) (Kd.S_far (p := ⟨gb684, 0, none⟩) (Kd.S_types HO675.out BK684.out (by decide)) (fun _ hk => hk.2) (.slice Ao30 t673.length co30)) (fun _ hk => hk.2) (.int .i64 t676)) (fun _ hk => hk.2) (.slice Ao33 t677.length co33)) (fun _ hk => hk.2) (.slice Ao34 t680.length co34)) (fun _ h_ => h_.1))) hb); replace HO679 := am (Kd.R_below (by (with_reducible repeat (first | apply Kd.R_alloc | apply Kd.R_drewN | apply Kd.R_drew)); exact (Kd.R_mono (Kd.R_far (p := ⟨gb684, 3, none⟩) (Kd.R_far (p := ⟨gb684, 2, none⟩) (Kd.R_far (p := ⟨gb684, 1, none⟩) (Kd.R_far (p := ⟨gb684, 0, none⟩) (Kd.R_types HO679.out BK684.out (by decide)) (fun _ hk => hk.2) (.slice Ao30 t673.length co30)) (fun _ hk => hk.2) (.int .i64 t676)) (fun _ hk => hk.2) (.slice Ao33 t677.length co33)) (fun _ hk => hk.2) (.slice Ao34 t680.length co34)) (fun _ h_ => h_.1))) hb); replace HO682 := am (Kd.R_below (by (with_reducible repeat (first | apply Kd.R_alloc | apply Kd.R_drewN | apply Kd.R_drew)); exact (Kd.R_mono (Kd.R_far (p := ⟨gb684, 3, none⟩) (Kd.R_far (p := ⟨gb684, 2, none⟩) (Kd.R_far (p := ⟨gb684, 1, none⟩) (Kd.R_far (p := ⟨gb684, 0, none⟩) (Kd.R_types HO682.out BK684.out (by decide)) (fun _ hk => hk.2) (.slice Ao30 t673.length co30)) (fun _ hk => hk.2) (.int .i64 t676)) (fun _ hk => hk.2) (.slice Ao33 t677.length co33)) (fun _ hk => hk.2) (.slice Ao34 t680.length co34)) (fun _ h_ => h_.1))) hb); replace BK657 := xC1 (kfC BK657.out) hb; replace BK684 := xC1 (o := .cells #[.slice Ao30 t673.length co30, .int .i64 t676, .slice Ao33 t677.length co33, .slice Ao34 t680.length co34] 33 (0, 0)) (kkC BK684.out) hb; replace HB := bS HB hb; (try clear hb); (try clear hb2); (try clear hk); (try clear hi); obtain ⟨_, _, _, _, _, _, _, _⟩ := zC4 BK657) | ((with_reducible refine gc (f := 33) rfl ?_); refine goesL_ (some 46) rfl rfl Try.func33 (by kernel_rfl) rfl #[.agg #[.slice A0_0 l0_0.length c0_0, .int .i64 a0_1, .slice A0_2 l0_2.length c0_2, .slice A0_3 l0_3.length c0_3], .slice A1 l1.length c1] rfl (by (try simp only [pml]); first | done | rfl | (simp only [pdt]; rfl)) ?_; (with_reducible refine (r_Apply.calls kj2 (fun k_ => k_ < w.heap.size) _ _ l0_0 a0_1 _ _ l0_2 (fun k_ => k_ < w.heap.size) _ _ l0_3 _ _ l1 t698 t701 t702 t705 t708 _ ?side1 ?side2 ?side3 ?side4 ?side5 ?side6 A19.out).mono ?_); (case side1 => exact Kd.V_mk HC0_0.out (Kd.F_below (Kd.C_F (Kd.heap_slice 3 (Kd.heap_int .i64)) HR0_0.out) (fW HB.out))); (case side2 => repeat (first | exact (Kd.C_below HR0_2.out HB.out) | (with_reducible refine Kd.C_alloc ?_ _) | (with_reducible refine Kd.C_drewN ?_ _) | (with_reducible refine Kd.C_drew ?_))); (case side3 => exact HC0_2.out); (case side4 => exact Kd.V_mk HC0_3.out (Kd.F_below (Kd.C_F Kd.heap_bool HR0_3.out) (fW HB.out))); (case side5 => repeat (first | exact (Kd.C_below HR1.out HB.out) | (with_reducible refine Kd.C_alloc ?_ _) | (with_reducible refine Kd.C_drewN ?_ _) | (with_reducible refine Kd.C_drew ?_))); (case side6 => exact HC1.out); rintro e w38 ⟨v699, v703, v706, rfl, ho0, ho1, ho2, hb⟩; refine ⟨_, rfl, ?_⟩; replace HO662 := am (Kd.V_elder' (fV HO662.out) (Kd.R_base ho1) hb); replace HO666 := am (Kd.V_elder' (fV HO666.out) (Kd.R_base ho1) hb); replace HO669 := am (Kd.V_elder' (fV HO669.out) (Kd.R_base ho1) hb); have HO700 := am (Kd.V_lower (Kd.V_mono (ok' := fun k_ => some k_ ≠ (v703 : Value).ownBlock ∧ some k_ ≠ (.slice Ao27 t670.length co27 : Value).ownBlock ∧ some k_ ≠ (.slice Ao30 t673.length co30 : Value).ownBlock ∧ some k_ ≠ (.slice Ao33 t677.length co33 : Value).ownBlock ∧ some k_ ≠ (.slice Ao34 t680.length co34 : Value).ownBlock ∧ k_ ≠ gb657 ∧ k_ ≠ gb684) ho0 (fun k_ hk_ => ⟨hk_.2, Or.elim hk_.1 (fun hs_ => Or.elim hs_ (fun hs_ => fun e_ => Nat.not_le.2 hs_ (Kd.R_base HO672.out k_ e_.symm)) (fun hs_ => fun e_ => Nat.not_le.2 hs_ (Kd.R_base HO672.out k_ e_.symm))) (fun hn_ => (Kd.fresh' (Kd.R_lt (fR HO672.out)) k_ hn_)), Or.elim hk_.1 (fun hs_ => Or.elim hs_ (fun hs_ => fun e_ => Nat.not_le.2 hs_ (Kd.S_base HO675.out k_ e_.symm)) (fun hs_ => fun e_ => Nat.not_le.2 hs_ (Kd.S_base HO675.out k_ e_.symm))) (fun hn_ => (Kd.fresh' (Kd.S_lt (by (with_reducible repeat (first | apply Kd.S_alloc | apply Kd.S_drewN | apply Kd.S_drew)); exact HO675.out)) k_ hn_)), Or.elim hk_.1 (fun hs_ => Or.elim hs_ (fun hs_ => fun e_ => Nat.not_le.2 hs_ (Kd.R_base HO679.out k_ e_.symm)) (fun hs_ => fun e_ => Nat.not_le.2 hs_ (Kd.R_base HO679.out k_ e_.symm))) (fun hn_ => (Kd.fresh' (Kd.R_lt (fR HO679.out)) k_ hn_)), Or.elim hk_.1 (fun hs_ => Or.elim hs_ (fun hs_ => fun e_ => Nat.not_le.2 hs_ (Kd.R_base HO682.out k_ e_.symm)) (fun hs_ => fun e_ => Nat.not_le.2 hs_ (Kd.R_base HO682.out k_ e_.symm))) (fun hn_ => (Kd.fresh' (Kd.R_lt (fR HO682.out)) k_ hn_)), Or.elim hk_.1 (fun hs_ => Or.elim hs_ (fun hs_ => fun e_ => Nat.not_le.2 hs_ (by rw [e_]; exact GW657.out)) (fun hs_ => fun e_ => Nat.not_le.2 hs_ (by rw [e_]; exact GW657.out))) (fun hn_ => (Kd.freshB (g := gb657) (o := .cells #[.slice A0_0 l0_0.length c0_0, .int .i64 a0_1, .slice A0_2 l0_2.length c0_2, .slice A0_3 l0_3.length c0_3] 26 (0, 0)) (fb BK657.out) k_ hn_)), Or.elim hk_.1 (fun hs_ => Or.elim hs_ (fun hs_ => fun e_ => Nat.not_le.2 hs_ (by rw [e_]; exact GW684.out)) (fun hs_ => fun e_ => Nat.not_le.2 hs_ (by rw [e_]; exact GW684.out))) (fun hn_ => (Kd.freshB (g := gb684) (o := .cells #[.slice Ao30 t673.length co30, .int .i64 t676, .slice Ao33 t677.length co33, .slice Ao34 t680.length co34] 33 (0, 0)) (fb BK684.out) k_ hn_))⟩)) (wz (fW HB.out))); have HO704 := am (Kd.R_lower (Kd.R_new' (Kd.R_mono (ok' := fun k_ => True) ho1 (fun _ hk_ => trivial)) (Kd.R_lt (fR HO679.out))) (wz (fW HB.out))); have HO707 := am (Kd.V_lower (Kd.V_mono (ok' := fun k_ => some k_ ≠ (v703 : Value).ownBlock ∧ some k_ ≠ (.slice Ao27 t670.length co27 : Value).ownBlock ∧ some k_ ≠ (.slice Ao30 t673.length co30 : Value).ownBlock ∧ some k_ ≠ (.slice Ao33 t677.length co33 : Value).ownBlock ∧ some k_ ≠ (.slice Ao34 t680.length co34 : Value).ownBlock ∧ k_ ≠ gb657 ∧ k_ ≠ gb684) ho2 (fun k_ hk_ => ⟨hk_.2, Or.elim hk_.1 (fun hs_ => Or.elim hs_ (fun hs_ => fun e_ => Nat.not_le.2 hs_ (Kd.R_base HO672.out k_ e_.symm)) (fun hs_ => fun e_ => Nat.not_le.2 hs_ (Kd.R_base HO672.out k_ e_.symm))) (fun hn_ => (Kd.fresh' (Kd.R_lt (fR HO672.out)) k_ hn_)), Or.elim hk_.1 (fun hs_ => Or.elim hs_ (fun hs_ => fun e_ => Nat.not_le.2 hs_ (Kd.S_base HO675.out k_ e_.symm)) (fun hs_ => fun e_ => Nat.not_le.2 hs_ (Kd.S_base HO675.out k_ e_.symm))) (fun hn_ => (Kd.fresh' (Kd.S_lt (by (with_reducible repeat (first | apply Kd.S_alloc | apply Kd.S_drewN | apply Kd.S_drew)); exact HO675.out)) k_ hn_)), Or.elim hk_.1 (fun hs_ => Or.elim hs_ (fun hs_ => fun e_ => Nat.not_le.2 hs_ (Kd.R_base HO679.out k_ e_.symm)) (fun hs_ => fun e_ => Nat.not_le.2 hs_ (Kd.R_base HO679.out k_ e_.symm))) (fun hn_ => (Kd.fresh' (Kd.R_lt (fR HO679.out)) k_ hn_)), Or.elim hk_.1 (fun hs_ => Or.elim hs_ (fun hs_ => fun e_ => Nat.not_le.2 hs_ (Kd.R_base HO682.out k_ e_.symm)) (fun hs_ => fun e_ => Nat.not_le.2 hs_ (Kd.R_base HO682.out k_ e_.symm))) (fun hn_ => (Kd.fresh' (Kd.R_lt (fR HO682.out)) k_ hn_)), Or.elim hk_.1 (fun hs_ => Or.elim hs_ (fun hs_ => fun e_ => Nat.not_le.2 hs_ (by rw [e_]; exact GW657.out)) (fun hs_ => fun e_ => Nat.not_le.2 hs_ (by rw [e_]; exact GW657.out))) (fun hn_ => (Kd.freshB (g := gb657) (o := .cells #[.slice A0_0 l0_0.length c0_0, .int .i64 a0_1, .slice A0_2 l0_2.length c0_2, .slice A0_3 l0_3.length c0_3] 26 (0, 0)) (fb BK657.out) k_ hn_)), Or.elim hk_.1 (fun hs_ => Or.elim hs_ (fun hs_ => fun e_ => Nat.not_le.2 hs_ (by rw [e_]; exact GW684.out)) (fun hs_ => fun e_ => Nat.not_le.2 hs_ (by rw [e_]; exact GW684.out))) (fun hn_ => (Kd.freshB (g := gb684) (o := .cells #[.slice Ao30 t673.length co30, .int .i64 t676, .slice Ao33 t677.length co33, .slice Ao34 t680.length co34] 33 (0, 0)) (fb BK684.out) k_ hn_))⟩)) (wz (fW HB.out))); replace HO672 := dR HO672 hb; replace HO675 := am (Kd.S_elder' (by (with_reducible repeat (first | apply Kd.S_alloc | apply Kd.S_drewN | apply Kd.S_drew)); exact HO675.out) (Kd.R_base ho1) hb); replace HO679 := am (Kd.R_elder' (fR HO679.out) (Kd.R_base ho1) hb); replace HO682 := dR HO682 hb; replace BK657 := bB BK657 hb; replace BK684 := bB BK684 hb; replace HB := bS HB hb; (try clear hb); (try clear hb2); (try clear hk); (try clear hi); (try clear ho0); (try clear ho1); (try clear ho2)) | ((with_reducible refine gate_dst (N := 8) rfl ?_); (try (refine gate_guard (by rfl) ?_; dsimp only)); refine box_event ?hg (N := 8) ?hd (cs := #[.slice none 0 0, .int .i64 0, .slice none 0 0, .slice none 0 0]) (t := 26) ?hr ?_; (case hd | hg => rfl); (case hr => first | (go_simp; done) | (go_simp; rfl)); intro gb709 hg w39 hbox hb; replace HO662 := eV HO662 hg hb; replace HO666 := eV HO666 hg hb; replace HO669 := eV HO669 hg hb; replace HO672 := dR HO672 hb; replace HO675 := am (Kd.S_below (by (with_reducible repeat (first | apply Kd.S_alloc | apply Kd.S_drewN | apply Kd.S_drew)); exact HO675.out) hb); replace HO679 := dR HO679 hb; replace HO682 := dR HO682 hb; replace HO700 := eV HO700 hg hb; replace HO704 := dR HO704 hb; replace HO707 := eV HO707 hg hb; have BK709 := am hbox; have GW709 := sG HB hg; have GE709 := sG HB hg; replace HB := bS HB hb; have NB657_709 := nL BK657 hg; have NB709_657 := nG BK657 hg; replace BK657 := bB BK657 hb; have NB684_709 := nL BK684 hg; have NB709_684 := nG BK684 hg; replace BK684 := bB BK684 hb; clear hb hbox hg; obtain ⟨Ao40, co40, eo40⟩ := Kd.V_slice HO700.out; subst eo40; have hnb41 := NB709_657.out; have hnc41 := NB657_709.out; have hnb42 := NB709_684.out; have hnc42 := NB684_709.out; obtain ⟨_, _, _, _, _, _, _, _⟩ := zC4 BK709; obtain ⟨Ao44, co44, eo44⟩ := Kd.R_slice HO704.out; subst eo44; obtain ⟨Ao45, co45, eo45⟩ := Kd.V_slice HO707.out; subst eo45))
     (try simp only [Act.put, psl])
     go_cut [4] (fun v4 wc => ∃ (kq : Nat) (x4_19 : Bool), v4 = .bool x4_19 ∧ Aside0 (w_ReplaceApplies.j2 kq x4_19 = some r) ∧ Aside0 (kq ≤ kj2) ∧ Aside0 (Kd.S (Kd.slice 3 (Kd.int .i64)) 23 wc w.heap.size (fun k_ => some k_ ≠ ((.slice Ao33 t677.length co33) : Value).ownBlock ∧ some k_ ≠ ((.slice Ao44 t702.length co44) : Value).ownBlock) (.slice Ao30 t673.length co30) t673) ∧ Aside0 (Kd.R (Kd.int .i64) 3 wc w.heap.size (fun k_ => some k_ ≠ ((.slice Ao44 t702.length co44) : Value).ownBlock) (.slice Ao33 t677.length co33) t677) ∧ Aside0 (Kd.R Kd.bool 4 wc w.heap.size (fun _ => True) (.slice Ao34 t680.length co34) t680) ∧ Aside0 (Kd.V (Kd.slice 3 (Kd.int .i64)) 23 wc w.heap.size (fun k_ => some k_ ≠ ((.slice Ao30 t673.length co30) : Value).ownBlock ∧ some k_ ≠ ((.slice Ao33 t677.length co33) : Value).ownBlock ∧ some k_ ≠ ((.slice Ao34 t680.length co34) : Value).ownBlock ∧ some k_ ≠ ((.slice Ao44 t702.length co44) : Value).ownBlock ∧ k_ ≠ gb657 ∧ k_ ≠ gb684 ∧ k_ ≠ gb709) (.slice Ao40 t698.length co40) t698) ∧ Aside0 (Kd.R (Kd.int .i64) 3 wc w.heap.size (fun k_ => some k_ ≠ ((.slice Ao33 t677.length co33) : Value).ownBlock) (.slice Ao44 t702.length co44) t702) ∧ Aside0 (Kd.V Kd.bool 4 wc w.heap.size (fun k_ => some k_ ≠ ((.slice Ao30 t673.length co30) : Value).ownBlock ∧ some k_ ≠ ((.slice Ao33 t677.length co33) : Value).ownBlock ∧ some k_ ≠ ((.slice Ao34 t680.length co34) : Value).ownBlock ∧ some k_ ≠ ((.slice Ao44 t702.length co44) : Value).ownBlock ∧ k_ ≠ gb657 ∧ k_ ≠ gb684 ∧ k_ ≠ gb709) (.slice Ao45 t705.length co45) t705) ∧ Aside0 (wc.heap[gb657]? = some (.cells #[(.slice A0_0 l0_0.length c0_0), .int .i64 a0_1, (.slice A0_2 l0_2.length c0_2), (.slice A0_3 l0_3.length c0_3)] 26 (0, 0))) ∧ Aside0 (wc.heap[gb684]? = some (.cells #[(.slice Ao30 t673.length co30), .int .i64 t676, (.slice Ao33 t677.length co33), (.slice Ao34 t680.length co34)] 33 (0, 0))) ∧ Aside0 (wc.heap[gb709]? = some (.cells #[(.slice Ao40 t698.length co40), .int .i64 t701, (.slice Ao44 t702.length co44), (.slice Ao45 t705.length co45)] 26 (0, 0))) ∧ Aside0 (Below w.heap.size w wc))
     case first =>
      have H := HC20.out
      clear HC20
      replace H := Option.bind_eq_some_iff.mp H
      obtain ⟨t710, A460, H⟩ := H
      replace H : (if t710 = true then (if t683 = t708 then ((w_theirs.f t673 t676 t677 t680).bind fun bt711 => ((r_Same.f kj2 bt711.1 bt711.2.1 bt711.2.2.1 bt711.2.2.2 t698 t701 t702 t705).bind fun t721 => (w_ReplaceApplies.j2 kj2 t721))) else (w_ReplaceApplies.j2 kj2 false)) else (w_ReplaceApplies.j2 kj2 false)) = some r := H
      have A46 := am A460
      clear A460
      by_cases c47 : t710 = true
      rotate_left
      ·replace c47 := Bool.eq_false_iff.mpr c47
       subst c47
       have H1 : (w_ReplaceApplies.j2 kj2 false) = some r := by rw [if_neg (show ¬ (false = true) by decide)] at H; exact H
       clear H
       have H := H1
       clear H1
       have H' := am H
       clear H
       try go_wp2
       have n0_ : Aside0 (Kd.V (Kd.slice 3 (Kd.int .i64)) 23 ((((w39.setCell ⟨gb709, 0, none⟩ (.slice Ao40 t698.length co40)).setCell ⟨gb709, 1, none⟩ (.int .i64 t701)).setCell ⟨gb709, 2, none⟩ (.slice Ao44 t702.length co44)).setCell ⟨gb709, 3, none⟩ (.slice Ao45 t705.length co45)) w.heap.size (fun k_ => some k_ ≠ (.slice Ao27 t670.length co27 : Value).ownBlock ∧ some k_ ≠ (.slice Ao30 t673.length co30 : Value).ownBlock ∧ some k_ ≠ (.slice Ao33 t677.length co33 : Value).ownBlock ∧ some k_ ≠ (.slice Ao34 t680.length co34 : Value).ownBlock ∧ some k_ ≠ (.slice Ao44 t702.length co44 : Value).ownBlock ∧ k_ ≠ gb657 ∧ k_ ≠ gb684 ∧ k_ ≠ gb709) (.slice Ao24 t660.length co24) t660) := ⟨by (with_reducible repeat (first | apply Kd.V_alloc | apply Kd.V_drewN | apply Kd.V_drew)); exact Kd.V_mono (Kd.V_far (p := ⟨gb709, 3, none⟩) (Kd.V_far (p := ⟨gb709, 2, none⟩) (Kd.V_far (p := ⟨gb709, 1, none⟩) (Kd.V_far (p := ⟨gb709, 0, none⟩) (Kd.V_mono HO662.out (fun k_ hk => (⟨hk, hk.2⟩ : _ ∧ k_ ≠ gb709))) (fun _ hk => hk.2) (.slice Ao40 t698.length co40)) (fun _ hk => hk.2) (.int .i64 t701)) (fun _ hk => hk.2) (.slice Ao44 t702.length co44)) (fun _ hk => hk.2) (.slice Ao45 t705.length co45)) (fun _ hk => ⟨hk.1.1.1.1.1.1.1.2, ⟨hk.1.1.1.1.1.1.2, ⟨hk.1.1.1.1.1.2, ⟨hk.1.1.1.1.2, ⟨hk.1.1.2, ⟨hk.1.1.1.1.1.1.1.1, ⟨hk.1.1.1.2, hk.1.2⟩⟩⟩⟩⟩⟩⟩)⟩
       have n1_ : Aside0 (Kd.V (Kd.int .i64) 3 ((((w39.setCell ⟨gb709, 0, none⟩ (.slice Ao40 t698.length co40)).setCell ⟨gb709, 1, none⟩ (.int .i64 t701)).setCell ⟨gb709, 2, none⟩ (.slice Ao44 t702.length co44)).setCell ⟨gb709, 3, none⟩ (.slice Ao45 t705.length co45)) w.heap.size (fun k_ => some k_ ≠ (.slice Ao27 t670.length co27 : Value).ownBlock ∧ some k_ ≠ (.slice Ao30 t673.length co30 : Value).ownBlock ∧ some k_ ≠ (.slice Ao33 t677.length co33 : Value).ownBlock ∧ some k_ ≠ (.slice Ao34 t680.length co34 : Value).ownBlock ∧ some k_ ≠ (.slice Ao44 t702.length co44 : Value).ownBlock ∧ k_ ≠ gb657 ∧ k_ ≠ gb684 ∧ k_ ≠ gb709) (.slice Ao25 t664.length co25) t664) := ⟨by (with_reducible repeat (first | apply Kd.V_alloc | apply Kd.V_drewN | apply Kd.V_drew)); exact Kd.V_mono (Kd.V_far (p := ⟨gb709, 3, none⟩) (Kd.V_far (p := ⟨gb709, 2, none⟩) (Kd.V_far (p := ⟨gb709, 1, none⟩) (Kd.V_far (p := ⟨gb709, 0, none⟩) (Kd.V_mono HO666.out (fun k_ hk => (⟨hk, hk.2⟩ : _ ∧ k_ ≠ gb709))) (fun _ hk => hk.2) (.slice Ao40 t698.length co40)) (fun _ hk => hk.2) (.int .i64 t701)) (fun _ hk => hk.2) (.slice Ao44 t702.length co44)) (fun _ hk => hk.2) (.slice Ao45 t705.length co45)) (fun _ hk => ⟨hk.1.1.1.1.1.1.1.2, ⟨hk.1.1.1.1.1.1.2, ⟨hk.1.1.1.1.1.2, ⟨hk.1.1.1.1.2, ⟨hk.1.1.2, ⟨hk.1.1.1.1.1.1.1.1, ⟨hk.1.1.1.2, hk.1.2⟩⟩⟩⟩⟩⟩⟩)⟩
       have n2_ : Aside0 (Kd.V Kd.bool 4 ((((w39.setCell ⟨gb709, 0, none⟩ (.slice Ao40 t698.length co40)).setCell ⟨gb709, 1, none⟩ (.int .i64 t701)).setCell ⟨gb709, 2, none⟩ (.slice Ao44 t702.length co44)).setCell ⟨gb709, 3, none⟩ (.slice Ao45 t705.length co45)) w.heap.size (fun k_ => some k_ ≠ (.slice Ao27 t670.length co27 : Value).ownBlock ∧ some k_ ≠ (.slice Ao30 t673.length co30 : Value).ownBlock ∧ some k_ ≠ (.slice Ao33 t677.length co33 : Value).ownBlock ∧ some k_ ≠ (.slice Ao34 t680.length co34 : Value).ownBlock ∧ some k_ ≠ (.slice Ao44 t702.length co44 : Value).ownBlock ∧ k_ ≠ gb657 ∧ k_ ≠ gb684 ∧ k_ ≠ gb709) (.slice Ao26 t667.length co26) t667) := ⟨by (with_reducible repeat (first | apply Kd.V_alloc | apply Kd.V_drewN | apply Kd.V_drew)); exact Kd.V_mono (Kd.V_far (p := ⟨gb709, 3, none⟩) (Kd.V_far (p := ⟨gb709, 2, none⟩) (Kd.V_far (p := ⟨gb709, 1, none⟩) (Kd.V_far (p := ⟨gb709, 0, none⟩) (Kd.V_mono HO669.out (fun k_ hk => (⟨hk, hk.2⟩ : _ ∧ k_ ≠ gb709))) (fun _ hk => hk.2) (.slice Ao40 t698.length co40)) (fun _ hk => hk.2) (.int .i64 t701)) (fun _ hk => hk.2) (.slice Ao44 t702.length co44)) (fun _ hk => hk.2) (.slice Ao45 t705.length co45)) (fun _ hk => ⟨hk.1.1.1.1.1.1.1.2, ⟨hk.1.1.1.1.1.1.2, ⟨hk.1.1.1.1.1.2, ⟨hk.1.1.1.1.2, ⟨hk.1.1.2, ⟨hk.1.1.1.1.1.1.1.1, ⟨hk.1.1.1.2, hk.1.2⟩⟩⟩⟩⟩⟩⟩)⟩
       have n3_ : Aside0 (Kd.R k52 52 ((((w39.setCell ⟨gb709, 0, none⟩ (.slice Ao40 t698.length co40)).setCell ⟨gb709, 1, none⟩ (.int .i64 t701)).setCell ⟨gb709, 2, none⟩ (.slice Ao44 t702.length co44)).setCell ⟨gb709, 3, none⟩ (.slice Ao45 t705.length co45)) w.heap.size (fun _ => True) (.slice Ao27 t670.length co27) t670) := ⟨by (with_reducible repeat (first | apply Kd.R_alloc | apply Kd.R_drewN | apply Kd.R_drew)); exact Kd.R_mono (Kd.R_far (p := ⟨gb709, 3, none⟩) (Kd.R_far (p := ⟨gb709, 2, none⟩) (Kd.R_far (p := ⟨gb709, 1, none⟩) (Kd.R_far (p := ⟨gb709, 0, none⟩) (Kd.R_types HO672.out BK709.out (by decide)) (fun _ hk => hk.2) (.slice Ao40 t698.length co40)) (fun _ hk => hk.2) (.int .i64 t701)) (fun _ hk => hk.2) (.slice Ao44 t702.length co44)) (fun _ hk => hk.2) (.slice Ao45 t705.length co45)) (fun _ hk => trivial)⟩
       have n4_ : Aside0 (Kd.S (Kd.slice 3 (Kd.int .i64)) 23 ((((w39.setCell ⟨gb709, 0, none⟩ (.slice Ao40 t698.length co40)).setCell ⟨gb709, 1, none⟩ (.int .i64 t701)).setCell ⟨gb709, 2, none⟩ (.slice Ao44 t702.length co44)).setCell ⟨gb709, 3, none⟩ (.slice Ao45 t705.length co45)) w.heap.size (fun k_ => some k_ ≠ (.slice Ao33 t677.length co33 : Value).ownBlock ∧ some k_ ≠ (.slice Ao44 t702.length co44 : Value).ownBlock) (.slice Ao30 t673.length co30) t673) := ⟨by (with_reducible repeat (first | apply Kd.S_alloc | apply Kd.S_drewN | apply Kd.S_drew)); exact Kd.S_mono (Kd.S_far (p := ⟨gb709, 3, none⟩) (Kd.S_far (p := ⟨gb709, 2, none⟩) (Kd.S_far (p := ⟨gb709, 1, none⟩) (Kd.S_far (p := ⟨gb709, 0, none⟩) (Kd.S_types HO675.out BK709.out (by decide)) (fun _ hk => hk.2) (.slice Ao40 t698.length co40)) (fun _ hk => hk.2) (.int .i64 t701)) (fun _ hk => hk.2) (.slice Ao44 t702.length co44)) (fun _ hk => hk.2) (.slice Ao45 t705.length co45)) (fun _ hk => ⟨hk.1.1, hk.1.2⟩)⟩
       have n5_ : Aside0 (Kd.R (Kd.int .i64) 3 ((((w39.setCell ⟨gb709, 0, none⟩ (.slice Ao40 t698.length co40)).setCell ⟨gb709, 1, none⟩ (.int .i64 t701)).setCell ⟨gb709, 2, none⟩ (.slice Ao44 t702.length co44)).setCell ⟨gb709, 3, none⟩ (.slice Ao45 t705.length co45)) w.heap.size (fun k_ => some k_ ≠ (.slice Ao44 t702.length co44 : Value).ownBlock) (.slice Ao33 t677.length co33) t677) := ⟨by (with_reducible repeat (first | apply Kd.R_alloc | apply Kd.R_drewN | apply Kd.R_drew)); exact Kd.R_mono (Kd.R_far (p := ⟨gb709, 3, none⟩) (Kd.R_far (p := ⟨gb709, 2, none⟩) (Kd.R_far (p := ⟨gb709, 1, none⟩) (Kd.R_far (p := ⟨gb709, 0, none⟩) (Kd.R_types HO679.out BK709.out (by decide)) (fun _ hk => hk.2) (.slice Ao40 t698.length co40)) (fun _ hk => hk.2) (.int .i64 t701)) (fun _ hk => hk.2) (.slice Ao44 t702.length co44)) (fun _ hk => hk.2) (.slice Ao45 t705.length co45)) (fun _ hk => hk.1.2)⟩
       have n6_ : Aside0 (Kd.R Kd.bool 4 ((((w39.setCell ⟨gb709, 0, none⟩ (.slice Ao40 t698.length co40)).setCell ⟨gb709, 1, none⟩ (.int .i64 t701)).setCell ⟨gb709, 2, none⟩ (.slice Ao44 t702.length co44)).setCell ⟨gb709, 3, none⟩ (.slice Ao45 t705.length co45)) w.heap.size (fun _ => True) (.slice Ao34 t680.length co34) t680) := ⟨by (with_reducible repeat (first | apply Kd.R_alloc | apply Kd.R_drewN | apply Kd.R_drew)); exact Kd.R_mono (Kd.R_far (p := ⟨gb709, 3, none⟩) (Kd.R_far (p := ⟨gb709, 2, none⟩) (Kd.R_far (p := ⟨gb709, 1, none⟩) (Kd.R_far (p := ⟨gb709, 0, none⟩) (Kd.R_types HO682.out BK709.out (by decide)) (fun _ hk => hk.2) (.slice Ao40 t698.length co40)) (fun _ hk => hk.2) (.int .i64 t701)) (fun _ hk => hk.2) (.slice Ao44 t702.length co44)) (fun _ hk => hk.2) (.slice Ao45 t705.length co45)) (fun _ hk => trivial)⟩
       have n7_ : Aside0 (Kd.V (Kd.slice 3 (Kd.int .i64)) 23 ((((w39.setCell ⟨gb709, 0, none⟩ (.slice Ao40 t698.length co40)).setCell ⟨gb709, 1, none⟩ (.int .i64 t701)).setCell ⟨gb709, 2, none⟩ (.slice Ao44 t702.length co44)).setCell ⟨gb709, 3, none⟩ (.slice Ao45 t705.length co45)) w.heap.size (fun k_ => some k_ ≠ (.slice Ao27 t670.length co27 : Value).ownBlock ∧ some k_ ≠ (.slice Ao30 t673.length co30 : Value).ownBlock ∧ some k_ ≠ (.slice Ao33 t677.length co33 : Value).ownBlock ∧ some k_ ≠ (.slice Ao34 t680.length co34 : Value).ownBlock ∧ some k_ ≠ (.slice Ao44 t702.length co44 : Value).ownBlock ∧ k_ ≠ gb657 ∧ k_ ≠ gb684 ∧ k_ ≠ gb709) (.slice Ao40 t698.length co40) t698) := ⟨by (with_reducible repeat (first | apply Kd.V_alloc | apply Kd.V_drewN | apply Kd.V_drew)); exact Kd.V_mono (Kd.V_far (p := ⟨gb709, 3, none⟩) (Kd.V_far (p := ⟨gb709, 2, none⟩) (Kd.V_far (p := ⟨gb709, 1, none⟩) (Kd.V_far (p := ⟨gb709, 0, none⟩) (Kd.V_mono HO700.out (fun k_ hk => (⟨hk, hk.2⟩ : _ ∧ k_ ≠ gb709))) (fun _ hk => hk.2) (.slice Ao40 t698.length co40)) (fun _ hk => hk.2) (.int .i64 t701)) (fun _ hk => hk.2) (.slice Ao44 t702.length co44)) (fun _ hk => hk.2) (.slice Ao45 t705.length co45)) (fun _ hk => ⟨hk.1.1.2.1, ⟨hk.1.1.2.2.1, ⟨hk.1.1.2.2.2.1, ⟨hk.1.1.2.2.2.2.1, ⟨hk.1.1.1, ⟨hk.1.1.2.2.2.2.2.1, ⟨hk.1.1.2.2.2.2.2.2, hk.1.2⟩⟩⟩⟩⟩⟩⟩)⟩
       have n8_ : Aside0 (Kd.R (Kd.int .i64) 3 ((((w39.setCell ⟨gb709, 0, none⟩ (.slice Ao40 t698.length co40)).setCell ⟨gb709, 1, none⟩ (.int .i64 t701)).setCell ⟨gb709, 2, none⟩ (.slice Ao44 t702.length co44)).setCell ⟨gb709, 3, none⟩ (.slice Ao45 t705.length co45)) w.heap.size (fun k_ => some k_ ≠ (.slice Ao33 t677.length co33 : Value).ownBlock) (.slice Ao44 t702.length co44) t702) := ⟨by (with_reducible repeat (first | apply Kd.R_alloc | apply Kd.R_drewN | apply Kd.R_drew)); exact Kd.R_mono (Kd.R_far (p := ⟨gb709, 3, none⟩) (Kd.R_far (p := ⟨gb709, 2, none⟩) (Kd.R_far (p := ⟨gb709, 1, none⟩) (Kd.R_far (p := ⟨gb709, 0, none⟩) (Kd.R_types HO704.out BK709.out (by decide)) (fun _ hk => hk.2) (.slice Ao40 t698.length co40)) (fun _ hk => hk.2) (.int .i64 t701)) (fun _ hk => hk.2) (.slice Ao44 t702.length co44)) (fun _ hk => hk.2) (.slice Ao45 t705.length co45)) (fun _ hk => hk.1.2)⟩
       have n9_ : Aside0 (Kd.V Kd.bool 4 ((((w39.setCell ⟨gb709, 0, none⟩ (.slice Ao40 t698.length co40)).setCell ⟨gb709, 1, none⟩ (.int .i64 t701)).setCell ⟨gb709, 2, none⟩ (.slice Ao44 t702.length co44)).setCell ⟨gb709, 3, none⟩ (.slice Ao45 t705.length co45)) w.heap.size (fun k_ => some k_ ≠ (.slice Ao27 t670.length co27 : Value).ownBlock ∧ some k_ ≠ (.slice Ao30 t673.length co30 : Value).ownBlock ∧ some k_ ≠ (.slice Ao33 t677.length co33 : Value).ownBlock ∧ some k_ ≠ (.slice Ao34 t680.length co34 : Value).ownBlock ∧ some k_ ≠ (.slice Ao44 t702.length co44 : Value).ownBlock ∧ k_ ≠ gb657 ∧ k_ ≠ gb684 ∧ k_ ≠ gb709) (.slice Ao45 t705.length co45) t705) := ⟨by (with_reducible repeat (first | apply Kd.V_alloc | apply Kd.V_drewN | apply Kd.V_drew)); exact Kd.V_mono (Kd.V_far (p := ⟨gb709, 3, none⟩) (Kd.V_far (p := ⟨gb709, 2, none⟩) (Kd.V_far (p := ⟨gb709, 1, none⟩) (Kd.V_far (p := ⟨gb709, 0, none⟩) (Kd.V_mono HO707.out (fun k_ hk => (⟨hk, hk.2⟩ : _ ∧ k_ ≠ gb709))) (fun _ hk => hk.2) (.slice Ao40 t698.length co40)) (fun _ hk => hk.2) (.int .i64 t701)) (fun _ hk => hk.2) (.slice Ao44 t702.length co44)) (fun _ hk => hk.2) (.slice Ao45 t705.length co45)) (fun _ hk => ⟨hk.1.1.2.1, ⟨hk.1.1.2.2.1, ⟨hk.1.1.2.2.2.1, ⟨hk.1.1.2.2.2.2.1, ⟨hk.1.1.1, ⟨hk.1.1.2.2.2.2.2.1, ⟨hk.1.1.2.2.2.2.2.2, hk.1.2⟩⟩⟩⟩⟩⟩⟩)⟩
       have n10_ : Aside0 (((((w39.setCell ⟨gb709, 0, none⟩ (.slice Ao40 t698.length co40)).setCell ⟨gb709, 1, none⟩ (.int .i64 t701)).setCell ⟨gb709, 2, none⟩ (.slice Ao44 t702.length co44)).setCell ⟨gb709, 3, none⟩ (.slice Ao45 t705.length co45)).heap[gb657]? = some (.cells #[.slice A0_0 l0_0.length c0_0, .int .i64 a0_1, .slice A0_2 l0_2.length c0_2, .slice A0_3 l0_3.length c0_3] 26 (0, 0))) := ⟨by (with_reducible repeat first | apply bN | apply bd | apply ba); refine bF ?_ NB657_709.out _; (with_reducible repeat first | apply bN | apply bd | apply ba); refine bF ?_ NB657_709.out _; (with_reducible repeat first | apply bN | apply bd | apply ba); refine bF ?_ NB657_709.out _; (with_reducible repeat first | apply bN | apply bd | apply ba); refine bF ?_ NB657_709.out _; (with_reducible repeat first | apply bN | apply bd | apply ba); exact BK657.out⟩
       have n11_ : Aside0 (((((w39.setCell ⟨gb709, 0, none⟩ (.slice Ao40 t698.length co40)).setCell ⟨gb709, 1, none⟩ (.int .i64 t701)).setCell ⟨gb709, 2, none⟩ (.slice Ao44 t702.length co44)).setCell ⟨gb709, 3, none⟩ (.slice Ao45 t705.length co45)).heap[gb684]? = some (.cells #[.slice Ao30 t673.length co30, .int .i64 t676, .slice Ao33 t677.length co33, .slice Ao34 t680.length co34] 33 (0, 0))) := ⟨by (with_reducible repeat first | apply bN | apply bd | apply ba); refine bF ?_ NB684_709.out _; (with_reducible repeat first | apply bN | apply bd | apply ba); refine bF ?_ NB684_709.out _; (with_reducible repeat first | apply bN | apply bd | apply ba); refine bF ?_ NB684_709.out _; (with_reducible repeat first | apply bN | apply bd | apply ba); refine bF ?_ NB684_709.out _; (with_reducible repeat first | apply bN | apply bd | apply ba); exact BK684.out⟩
       have n12_ : Aside0 (((((w39.setCell ⟨gb709, 0, none⟩ (.slice Ao40 t698.length co40)).setCell ⟨gb709, 1, none⟩ (.int .i64 t701)).setCell ⟨gb709, 2, none⟩ (.slice Ao44 t702.length co44)).setCell ⟨gb709, 3, none⟩ (.slice Ao45 t705.length co45)).heap[gb709]? = some (.cells #[.slice Ao40 t698.length co40, .int .i64 t701, .slice Ao44 t702.length co44, .slice Ao45 t705.length co45] 26 (0, 0))) := ⟨by (with_reducible repeat first | apply bN | apply bd | apply ba); refine blk_put (cs := #[.slice Ao40 t698.length co40, .int .i64 t701, .slice Ao44 t702.length co44, .slice none 0 0]) ?_ 3 _ rfl; (with_reducible repeat first | apply bN | apply bd | apply ba); refine blk_put (cs := #[.slice Ao40 t698.length co40, .int .i64 t701, .slice none 0 0, .slice none 0 0]) ?_ 2 _ rfl; (with_reducible repeat first | apply bN | apply bd | apply ba); refine blk_put (cs := #[.slice Ao40 t698.length co40, .int .i64 0, .slice none 0 0, .slice none 0 0]) ?_ 1 _ rfl; (with_reducible repeat first | apply bN | apply bd | apply ba); refine blk_put (cs := #[.slice none 0 0, .int .i64 0, .slice none 0 0, .slice none 0 0]) ?_ 0 _ rfl; (with_reducible repeat first | apply bN | apply bd | apply ba); exact BK709.out⟩
       have n13_ : Aside0 (Below w.heap.size w ((((w39.setCell ⟨gb709, 0, none⟩ (.slice Ao40 t698.length co40)).setCell ⟨gb709, 1, none⟩ (.int .i64 t701)).setCell ⟨gb709, 2, none⟩ (.slice Ao44 t702.length co44)).setCell ⟨gb709, 3, none⟩ (.slice Ao45 t705.length co45))) := ⟨fW HB.out⟩
       (try clear HO662)
       (try clear HO666)
       (try clear HO669)
       (try clear HO672)
       (try clear HO675)
       (try clear HO679)
       (try clear HO682)
       (try clear HO700)
       (try clear HO704)
       (try clear HO707)
       (try clear BK657)
       (try clear BK684)
       (try clear BK709)
       (try clear HB)
       generalize ((((w39.setCell ⟨gb709, 0, none⟩ (.slice Ao40 t698.length co40)).setCell ⟨gb709, 1, none⟩ (.int .i64 t701)).setCell ⟨gb709, 2, none⟩ (.slice Ao44 t702.length co44)).setCell ⟨gb709, 3, none⟩ (.slice Ao45 t705.length co45)) = w62 at n0_ n1_ n2_ n3_ n4_ n5_ n6_ n7_ n8_ n9_ n10_ n11_ n12_ n13_ ⊢
       have HO662 := n0_
       have HO666 := n1_
       have HO669 := n2_
       have HO672 := n3_
       have HO675 := n4_
       have HO679 := n5_
       have HO682 := n6_
       have HO700 := n7_
       have HO704 := n8_
       have HO707 := n9_
       have BK657 := n10_
       have BK684 := n11_
       have BK709 := n12_
       have HB := n13_
       clear n0_ n1_ n2_ n3_ n4_ n5_ n6_ n7_ n8_ n9_ n10_ n11_ n12_ n13_
       have n0_ := am (Kd.V_drew HO662.out)
       have n1_ := am (Kd.V_drew HO666.out)
       have n2_ := am (Kd.V_drew HO669.out)
       have n3_ := am (Kd.R_drew HO672.out)
       have n4_ := am (Kd.S_drew HO675.out)
       have n5_ := am (Kd.R_drew HO679.out)
       have n6_ := am (Kd.R_drew HO682.out)
       have n7_ := am (Kd.V_drew HO700.out)
       have n8_ := am (Kd.R_drew HO704.out)
       have n9_ := am (Kd.V_drew HO707.out)
       have n10_ := am (bd BK657.out)
       have n11_ := am (bd BK684.out)
       have n12_ := am (bd BK709.out)
       have n13_ := am (below_drew1 HB.out)
       clear HO662 HO666 HO669 HO672 HO675 HO679 HO682 HO700 HO704 HO707 BK657 BK684 BK709 HB
       have HO662 := n0_
       have HO666 := n1_
       have HO669 := n2_
       have HO672 := n3_
       have HO675 := n4_
       have HO679 := n5_
       have HO682 := n6_
       have HO700 := n7_
       have HO704 := n8_
       have HO707 := n9_
       have BK657 := n10_
       have BK684 := n11_
       have BK709 := n12_
       have HB := n13_
       clear n0_ n1_ n2_ n3_ n4_ n5_ n6_ n7_ n8_ n9_ n10_ n11_ n12_ n13_
       refine start_ (n := 13) (S := fun w' => True) (ds := []) #[F,F,F,F,F,F,F,F,F,F,F,F,F] (by kernel_rfl) rfl rfl trivial (fun hHeld => ?_); refine with_tabW w_ReplaceApplies.tab8 w_ReplaceApplies.bits8 (fun HT_ HW_ => ?_)
       generalize w62.drew = w63 at HO662 HO666 HO669 HO672 HO675 HO679 HO682 HO700 HO704 HO707 BK657 BK684 BK709 HB hHeld ⊢
       refine one_ (i := 0) (N := some 49) (fl 13 1 []) rfl rfl (one_of HT_.out (by kernel_rfl)) (by decide) (fun K hK => ?_)
       refine goes_ Try.func11 (by kernel_rfl) rfl #[] (by rfl) rfl rfl (by (try simp only [pml]); first | done | rfl | (simp only [pdt]; rfl)) ?_
       with_reducible refine (w_awake.calls kj2  false _ A46.out).mono ?_
       rintro e w64 ⟨rfl, hb⟩
       refine ⟨_, rfl, ?_⟩
       have n0_ := dV HO662 hb
       have n1_ := dV HO666 hb
       have n2_ := dV HO669 hb
       have n3_ := dR HO672 hb
       have n4_ := am (Kd.S_below (by (with_reducible repeat (first | apply Kd.S_alloc | apply Kd.S_drewN | apply Kd.S_drew)); exact HO675.out) hb)
       have n5_ := dR HO679 hb
       have n6_ := dR HO682 hb
       have n7_ := dV HO700 hb
       have n8_ := dR HO704 hb
       have n9_ := dV HO707 hb
       have n10_ := bB BK657 hb
       have n11_ := bB BK684 hb
       have n12_ := bB BK709 hb
       have n13_ := bS HB hb
       clear HO662 HO666 HO669 HO672 HO675 HO679 HO682 HO700 HO704 HO707 BK657 BK684 BK709 HB
       have HO662 := n0_
       have HO666 := n1_
       have HO669 := n2_
       have HO672 := n3_
       have HO675 := n4_
       have HO679 := n5_
       have HO682 := n6_
       have HO700 := n7_
       have HO704 := n8_
       have HO707 := n9_
       have BK657 := n10_
       have BK684 := n11_
       have BK709 := n12_
       have HB := n13_
       clear n0_ n1_ n2_ n3_ n4_ n5_ n6_ n7_ n8_ n9_ n10_ n11_ n12_ n13_
       (try clear hb)
       (try clear hb2)
       (try clear hk)
       (try clear hi)
       refine hK.out _ _ trivial (fun hHeld => ?_)
       clear hK K
       refine norm_ (a' := ?_) ?_ ?_
       rotate_left
       ·show Act.put _ (some 49) _ = _
        simp only [Act.put, psl, i64_w, i32_w]
        rfl
       refine pu (i := 1) (N := some 50) (fl 13 2 []) HT_ ?_
       refine pure_ (i := 2) (N := some 51) (v := undef) (a' := ?_) #[T,T,T,F,F,F,F,F,F,F,F,F,F] rfl rfl (any_of HT_.out (by kernel_rfl)) (fun _ _ _ h => h) (Or.inr ⟨by rfl, rfl⟩) ?_ ?_
       rotate_left
       ·simp only [Act.put, psl, i64_w, i32_w]
        rfl
       refine pure_ (i := 3) (N := some 52) (v := undef) (a' := ?_) #[T,T,T,T,F,F,F,F,F,F,F,F,F] rfl rfl (any_of HT_.out (by kernel_rfl)) (fun _ _ _ h => h) (Or.inr ⟨by rfl, rfl⟩) ?_ ?_
       rotate_left
       ·simp only [Act.put, psl, i64_w, i32_w]
        rfl
       refine pure_ (i := 4) (N := some 53) (v := undef) (a' := ?_) #[T,T,T,T,T,F,F,F,F,F,F,F,F] rfl rfl (any_of HT_.out (by kernel_rfl)) (fun _ _ _ h => h) (Or.inr ⟨by rfl, rfl⟩) ?_ ?_
       rotate_left
       ·simp only [Act.put, psl, i64_w, i32_w]
        rfl
       refine pu (i := 5) (N := some 54) (fl 13 6 []) HT_ ?_
       refine pu (i := 6) (N := some 55) (fl 13 7 []) HT_ ?_
       refine pure_ (i := 7) (N := some 56) (v := undef) (a' := ?_) #[T,T,T,T,T,T,T,T,F,F,F,F,F] rfl rfl (any_of HT_.out (by kernel_rfl)) (fun _ _ _ h => h) (Or.inr ⟨by rfl, rfl⟩) ?_ ?_
       rotate_left
       ·simp only [Act.put, psl, i64_w, i32_w]
        rfl
       refine pure_ (i := 8) (N := some 57) (v := undef) (a' := ?_) #[T,T,T,T,T,T,T,T,T,F,F,F,F] rfl rfl (any_of HT_.out (by kernel_rfl)) (fun _ _ _ h => h) (Or.inr ⟨by rfl, rfl⟩) ?_ ?_
       rotate_left
       ·simp only [Act.put, psl, i64_w, i32_w]
        rfl
       refine pure_ (i := 9) (N := some 58) (v := undef) (a' := ?_) #[T,T,T,T,T,T,T,T,T,T,F,F,F] rfl rfl (any_of HT_.out (by kernel_rfl)) (fun _ _ _ h => h) (Or.inr ⟨by rfl, rfl⟩) ?_ ?_
       rotate_left
       ·simp only [Act.put, psl, i64_w, i32_w]
        rfl
       refine pure_ (i := 10) (N := some 59) (v := undef) (a' := ?_) #[T,T,T,T,T,T,T,T,T,T,T,F,F] rfl rfl (any_of HT_.out (by kernel_rfl)) (fun _ _ _ h => h) (Or.inr ⟨by rfl, rfl⟩) ?_ ?_
       rotate_left
       ·simp only [Act.put, psl, i64_w, i32_w]
        rfl
       refine pu (i := 11) (N := some 60) (fl 13 12 []) HT_ ?_
       refine pu (i := 12) (N := some 4) (fl 13 13 []) HT_ ?_
       refine done_ (done_of HT_.out (by kernel_rfl)) ?_
       try go_wp2
       go_meet
       case rel => exact ⟨_, (false), sqD, H', ⟨by have := HJ2.out; first | omega | exact Nat.le_refl _⟩, ⟨by (with_reducible repeat (first | apply Kd.S_alloc | apply Kd.S_drewN | apply Kd.S_drew)); exact HO675.out⟩, ⟨fR HO679.out⟩, ⟨fR HO682.out⟩, ⟨by (with_reducible repeat (first | apply Kd.V_alloc | apply Kd.V_drewN | apply Kd.V_drew)); exact Kd.V_mono HO700.out (fun _ hk => ⟨hk.2.1, ⟨hk.2.2.1, ⟨hk.2.2.2.1, ⟨hk.2.2.2.2.1, ⟨hk.2.2.2.2.2.1, ⟨hk.2.2.2.2.2.2.1, hk.2.2.2.2.2.2.2⟩⟩⟩⟩⟩⟩)⟩, ⟨fR HO704.out⟩, ⟨by (with_reducible repeat (first | apply Kd.V_alloc | apply Kd.V_drewN | apply Kd.V_drew)); exact Kd.V_mono HO707.out (fun _ hk => ⟨hk.2.1, ⟨hk.2.2.1, ⟨hk.2.2.2.1, ⟨hk.2.2.2.2.1, ⟨hk.2.2.2.2.2.1, ⟨hk.2.2.2.2.2.2.1, hk.2.2.2.2.2.2.2⟩⟩⟩⟩⟩⟩)⟩, ⟨fb BK657.out⟩, ⟨fb BK684.out⟩, ⟨fb BK709.out⟩, ⟨fW HB.out⟩⟩
      subst c47
      have H1 : (if t683 = t708 then ((w_theirs.f t673 t676 t677 t680).bind fun bt711 => ((r_Same.f kj2 bt711.1 bt711.2.1 bt711.2.2.1 bt711.2.2.2 t698 t701 t702 t705).bind fun t721 => (w_ReplaceApplies.j2 kj2 t721))) else (w_ReplaceApplies.j2 kj2 false)) = some r := by rw [if_pos rfl] at H; exact H
      clear H
      have H := H1
      clear H1
      by_cases c48 : t683 = t708
      rotate_left
      ·rw [if_neg c48] at H
       have c48b0 : (t683 == t708) = false := beq_eq_false_iff_ne.mpr c48
       have c48b1 : (t683 != t708) = true := bne_iff_ne.mpr c48
       (first | rw [c48b0] | (simp only [i64_w, i32_w]; rw [c48b0]) | skip)
       have H' := am H
       clear H
       try go_wp2
       have n0_ : Aside0 (Kd.V (Kd.slice 3 (Kd.int .i64)) 23 ((((w39.setCell ⟨gb709, 0, none⟩ (.slice Ao40 t698.length co40)).setCell ⟨gb709, 1, none⟩ (.int .i64 t701)).setCell ⟨gb709, 2, none⟩ (.slice Ao44 t702.length co44)).setCell ⟨gb709, 3, none⟩ (.slice Ao45 t705.length co45)) w.heap.size (fun k_ => some k_ ≠ (.slice Ao27 t670.length co27 : Value).ownBlock ∧ some k_ ≠ (.slice Ao30 t673.length co30 : Value).ownBlock ∧ some k_ ≠ (.slice Ao33 t677.length co33 : Value).ownBlock ∧ some k_ ≠ (.slice Ao34 t680.length co34 : Value).ownBlock ∧ some k_ ≠ (.slice Ao44 t702.length co44 : Value).ownBlock ∧ k_ ≠ gb657 ∧ k_ ≠ gb684 ∧ k_ ≠ gb709) (.slice Ao24 t660.length co24) t660) := ⟨by (with_reducible repeat (first | apply Kd.V_alloc | apply Kd.V_drewN | apply Kd.V_drew)); exact Kd.V_mono (Kd.V_far (p := ⟨gb709, 3, none⟩) (Kd.V_far (p := ⟨gb709, 2, none⟩) (Kd.V_far (p := ⟨gb709, 1, none⟩) (Kd.V_far (p := ⟨gb709, 0, none⟩) (Kd.V_mono HO662.out (fun k_ hk => (⟨hk, hk.2⟩ : _ ∧ k_ ≠ gb709))) (fun _ hk => hk.2) (.slice Ao40 t698.length co40)) (fun _ hk => hk.2) (.int .i64 t701)) (fun _ hk => hk.2) (.slice Ao44 t702.length co44)) (fun _ hk => hk.2) (.slice Ao45 t705.length co45)) (fun _ hk => ⟨hk.1.1.1.1.1.1.1.2, ⟨hk.1.1.1.1.1.1.2, ⟨hk.1.1.1.1.1.2, ⟨hk.1.1.1.1.2, ⟨hk.1.1.2, ⟨hk.1.1.1.1.1.1.1.1, ⟨hk.1.1.1.2, hk.1.2⟩⟩⟩⟩⟩⟩⟩)⟩
       have n1_ : Aside0 (Kd.V (Kd.int .i64) 3 ((((w39.setCell ⟨gb709, 0, none⟩ (.slice Ao40 t698.length co40)).setCell ⟨gb709, 1, none⟩ (.int .i64 t701)).setCell ⟨gb709, 2, none⟩ (.slice Ao44 t702.length co44)).setCell ⟨gb709, 3, none⟩ (.slice Ao45 t705.length co45)) w.heap.size (fun k_ => some k_ ≠ (.slice Ao27 t670.length co27 : Value).ownBlock ∧ some k_ ≠ (.slice Ao30 t673.length co30 : Value).ownBlock ∧ some k_ ≠ (.slice Ao33 t677.length co33 : Value).ownBlock ∧ some k_ ≠ (.slice Ao34 t680.length co34 : Value).ownBlock ∧ some k_ ≠ (.slice Ao44 t702.length co44 : Value).ownBlock ∧ k_ ≠ gb657 ∧ k_ ≠ gb684 ∧ k_ ≠ gb709) (.slice Ao25 t664.length co25) t664) := ⟨by (with_reducible repeat (first | apply Kd.V_alloc | apply Kd.V_drewN | apply Kd.V_drew)); exact Kd.V_mono (Kd.V_far (p := ⟨gb709, 3, none⟩) (Kd.V_far (p := ⟨gb709, 2, none⟩) (Kd.V_far (p := ⟨gb709, 1, none⟩) (Kd.V_far (p := ⟨gb709, 0, none⟩) (Kd.V_mono HO666.out (fun k_ hk => (⟨hk, hk.2⟩ : _ ∧ k_ ≠ gb709))) (fun _ hk => hk.2) (.slice Ao40 t698.length co40)) (fun _ hk => hk.2) (.int .i64 t701)) (fun _ hk => hk.2) (.slice Ao44 t702.length co44)) (fun _ hk => hk.2) (.slice Ao45 t705.length co45)) (fun _ hk => ⟨hk.1.1.1.1.1.1.1.2, ⟨hk.1.1.1.1.1.1.2, ⟨hk.1.1.1.1.1.2, ⟨hk.1.1.1.1.2, ⟨hk.1.1.2, ⟨hk.1.1.1.1.1.1.1.1, ⟨hk.1.1.1.2, hk.1.2⟩⟩⟩⟩⟩⟩⟩)⟩
       have n2_ : Aside0 (Kd.V Kd.bool 4 ((((w39.setCell ⟨gb709, 0, none⟩ (.slice Ao40 t698.length co40)).setCell ⟨gb709, 1, none⟩ (.int .i64 t701)).setCell ⟨gb709, 2, none⟩ (.slice Ao44 t702.length co44)).setCell ⟨gb709, 3, none⟩ (.slice Ao45 t705.length co45)) w.heap.size (fun k_ => some k_ ≠ (.slice Ao27 t670.length co27 : Value).ownBlock ∧ some k_ ≠ (.slice Ao30 t673.length co30 : Value).ownBlock ∧ some k_ ≠ (.slice Ao33 t677.length co33 : Value).ownBlock ∧ some k_ ≠ (.slice Ao34 t680.length co34 : Value).ownBlock ∧ some k_ ≠ (.slice Ao44 t702.length co44 : Value).ownBlock ∧ k_ ≠ gb657 ∧ k_ ≠ gb684 ∧ k_ ≠ gb709) (.slice Ao26 t667.length co26) t667) := ⟨by (with_reducible repeat (first | apply Kd.V_alloc | apply Kd.V_drewN | apply Kd.V_drew)); exact Kd.V_mono (Kd.V_far (p := ⟨gb709, 3, none⟩) (Kd.V_far (p := ⟨gb709, 2, none⟩) (Kd.V_far (p := ⟨gb709, 1, none⟩) (Kd.V_far (p := ⟨gb709, 0, none⟩) (Kd.V_mono HO669.out (fun k_ hk => (⟨hk, hk.2⟩ : _ ∧ k_ ≠ gb709))) (fun _ hk => hk.2) (.slice Ao40 t698.length co40)) (fun _ hk => hk.2) (.int .i64 t701)) (fun _ hk => hk.2) (.slice Ao44 t702.length co44)) (fun _ hk => hk.2) (.slice Ao45 t705.length co45)) (fun _ hk => ⟨hk.1.1.1.1.1.1.1.2, ⟨hk.1.1.1.1.1.1.2, ⟨hk.1.1.1.1.1.2, ⟨hk.1.1.1.1.2, ⟨hk.1.1.2, ⟨hk.1.1.1.1.1.1.1.1, ⟨hk.1.1.1.2, hk.1.2⟩⟩⟩⟩⟩⟩⟩)⟩
       have n3_ : Aside0 (Kd.R k52 52 ((((w39.setCell ⟨gb709, 0, none⟩ (.slice Ao40 t698.length co40)).setCell ⟨gb709, 1, none⟩ (.int .i64 t701)).setCell ⟨gb709, 2, none⟩ (.slice Ao44 t702.length co44)).setCell ⟨gb709, 3, none⟩ (.slice Ao45 t705.length co45)) w.heap.size (fun _ => True) (.slice Ao27 t670.length co27) t670) := ⟨by (with_reducible repeat (first | apply Kd.R_alloc | apply Kd.R_drewN | apply Kd.R_drew)); exact Kd.R_mono (Kd.R_far (p := ⟨gb709, 3, none⟩) (Kd.R_far (p := ⟨gb709, 2, none⟩) (Kd.R_far (p := ⟨gb709, 1, none⟩) (Kd.R_far (p := ⟨gb709, 0, none⟩) (Kd.R_types HO672.out BK709.out (by decide)) (fun _ hk => hk.2) (.slice Ao40 t698.length co40)) (fun _ hk => hk.2) (.int .i64 t701)) (fun _ hk => hk.2) (.slice Ao44 t702.length co44)) (fun _ hk => hk.2) (.slice Ao45 t705.length co45)) (fun _ hk => trivial)⟩
       have n4_ : Aside0 (Kd.S (Kd.slice 3 (Kd.int .i64)) 23 ((((w39.setCell ⟨gb709, 0, none⟩ (.slice Ao40 t698.length co40)).setCell ⟨gb709, 1, none⟩ (.int .i64 t701)).setCell ⟨gb709, 2, none⟩ (.slice Ao44 t702.length co44)).setCell ⟨gb709, 3, none⟩ (.slice Ao45 t705.length co45)) w.heap.size (fun k_ => some k_ ≠ (.slice Ao33 t677.length co33 : Value).ownBlock ∧ some k_ ≠ (.slice Ao44 t702.length co44 : Value).ownBlock) (.slice Ao30 t673.length co30) t673) := ⟨by (with_reducible repeat (first | apply Kd.S_alloc | apply Kd.S_drewN | apply Kd.S_drew)); exact Kd.S_mono (Kd.S_far (p := ⟨gb709, 3, none⟩) (Kd.S_far (p := ⟨gb709, 2, none⟩) (Kd.S_far (p := ⟨gb709, 1, none⟩) (Kd.S_far (p := ⟨gb709, 0, none⟩) (Kd.S_types HO675.out BK709.out (by decide)) (fun _ hk => hk.2) (.slice Ao40 t698.length co40)) (fun _ hk => hk.2) (.int .i64 t701)) (fun _ hk => hk.2) (.slice Ao44 t702.length co44)) (fun _ hk => hk.2) (.slice Ao45 t705.length co45)) (fun _ hk => ⟨hk.1.1, hk.1.2⟩)⟩
       have n5_ : Aside0 (Kd.R (Kd.int .i64) 3 ((((w39.setCell ⟨gb709, 0, none⟩ (.slice Ao40 t698.length co40)).setCell ⟨gb709, 1, none⟩ (.int .i64 t701)).setCell ⟨gb709, 2, none⟩ (.slice Ao44 t702.length co44)).setCell ⟨gb709, 3, none⟩ (.slice Ao45 t705.length co45)) w.heap.size (fun k_ => some k_ ≠ (.slice Ao44 t702.length co44 : Value).ownBlock) (.slice Ao33 t677.length co33) t677) := ⟨by (with_reducible repeat (first | apply Kd.R_alloc | apply Kd.R_drewN | apply Kd.R_drew)); exact Kd.R_mono (Kd.R_far (p := ⟨gb709, 3, none⟩) (Kd.R_far (p := ⟨gb709, 2, none⟩) (Kd.R_far (p := ⟨gb709, 1, none⟩) (Kd.R_far (p := ⟨gb709, 0, none⟩) (Kd.R_types HO679.out BK709.out (by decide)) (fun _ hk => hk.2) (.slice Ao40 t698.length co40)) (fun _ hk => hk.2) (.int .i64 t701)) (fun _ hk => hk.2) (.slice Ao44 t702.length co44)) (fun _ hk => hk.2) (.slice Ao45 t705.length co45)) (fun _ hk => hk.1.2)⟩
       have n6_ : Aside0 (Kd.R Kd.bool 4 ((((w39.setCell ⟨gb709, 0, none⟩ (.slice Ao40 t698.length co40)).setCell ⟨gb709, 1, none⟩ (.int .i64 t701)).setCell ⟨gb709, 2, none⟩ (.slice Ao44 t702.length co44)).setCell ⟨gb709, 3, none⟩ (.slice Ao45 t705.length co45)) w.heap.size (fun _ => True) (.slice Ao34 t680.length co34) t680) := ⟨by (with_reducible repeat (first | apply Kd.R_alloc | apply Kd.R_drewN | apply Kd.R_drew)); exact Kd.R_mono (Kd.R_far (p := ⟨gb709, 3, none⟩) (Kd.R_far (p := ⟨gb709, 2, none⟩) (Kd.R_far (p := ⟨gb709, 1, none⟩) (Kd.R_far (p := ⟨gb709, 0, none⟩) (Kd.R_types HO682.out BK709.out (by decide)) (fun _ hk => hk.2) (.slice Ao40 t698.length co40)) (fun _ hk => hk.2) (.int .i64 t701)) (fun _ hk => hk.2) (.slice Ao44 t702.length co44)) (fun _ hk => hk.2) (.slice Ao45 t705.length co45)) (fun _ hk => trivial)⟩
       have n7_ : Aside0 (Kd.V (Kd.slice 3 (Kd.int .i64)) 23 ((((w39.setCell ⟨gb709, 0, none⟩ (.slice Ao40 t698.length co40)).setCell ⟨gb709, 1, none⟩ (.int .i64 t701)).setCell ⟨gb709, 2, none⟩ (.slice Ao44 t702.length co44)).setCell ⟨gb709, 3, none⟩ (.slice Ao45 t705.length co45)) w.heap.size (fun k_ => some k_ ≠ (.slice Ao27 t670.length co27 : Value).ownBlock ∧ some k_ ≠ (.slice Ao30 t673.length co30 : Value).ownBlock ∧ some k_ ≠ (.slice Ao33 t677.length co33 : Value).ownBlock ∧ some k_ ≠ (.slice Ao34 t680.length co34 : Value).ownBlock ∧ some k_ ≠ (.slice Ao44 t702.length co44 : Value).ownBlock ∧ k_ ≠ gb657 ∧ k_ ≠ gb684 ∧ k_ ≠ gb709) (.slice Ao40 t698.length co40) t698) := ⟨by (with_reducible repeat (first | apply Kd.V_alloc | apply Kd.V_drewN | apply Kd.V_drew)); exact Kd.V_mono (Kd.V_far (p := ⟨gb709, 3, none⟩) (Kd.V_far (p := ⟨gb709, 2, none⟩) (Kd.V_far (p := ⟨gb709, 1, none⟩) (Kd.V_far (p := ⟨gb709, 0, none⟩) (Kd.V_mono HO700.out (fun k_ hk => (⟨hk, hk.2⟩ : _ ∧ k_ ≠ gb709))) (fun _ hk => hk.2) (.slice Ao40 t698.length co40)) (fun _ hk => hk.2) (.int .i64 t701)) (fun _ hk => hk.2) (.slice Ao44 t702.length co44)) (fun _ hk => hk.2) (.slice Ao45 t705.length co45)) (fun _ hk => ⟨hk.1.1.2.1, ⟨hk.1.1.2.2.1, ⟨hk.1.1.2.2.2.1, ⟨hk.1.1.2.2.2.2.1, ⟨hk.1.1.1, ⟨hk.1.1.2.2.2.2.2.1, ⟨hk.1.1.2.2.2.2.2.2, hk.1.2⟩⟩⟩⟩⟩⟩⟩)⟩
       have n8_ : Aside0 (Kd.R (Kd.int .i64) 3 ((((w39.setCell ⟨gb709, 0, none⟩ (.slice Ao40 t698.length co40)).setCell ⟨gb709, 1, none⟩ (.int .i64 t701)).setCell ⟨gb709, 2, none⟩ (.slice Ao44 t702.length co44)).setCell ⟨gb709, 3, none⟩ (.slice Ao45 t705.length co45)) w.heap.size (fun k_ => some k_ ≠ (.slice Ao33 t677.length co33 : Value).ownBlock) (.slice Ao44 t702.length co44) t702) := ⟨by (with_reducible repeat (first | apply Kd.R_alloc | apply Kd.R_drewN | apply Kd.R_drew)); exact Kd.R_mono (Kd.R_far (p := ⟨gb709, 3, none⟩) (Kd.R_far (p := ⟨gb709, 2, none⟩) (Kd.R_far (p := ⟨gb709, 1, none⟩) (Kd.R_far (p := ⟨gb709, 0, none⟩) (Kd.R_types HO704.out BK709.out (by decide)) (fun _ hk => hk.2) (.slice Ao40 t698.length co40)) (fun _ hk => hk.2) (.int .i64 t701)) (fun _ hk => hk.2) (.slice Ao44 t702.length co44)) (fun _ hk => hk.2) (.slice Ao45 t705.length co45)) (fun _ hk => hk.1.2)⟩
       have n9_ : Aside0 (Kd.V Kd.bool 4 ((((w39.setCell ⟨gb709, 0, none⟩ (.slice Ao40 t698.length co40)).setCell ⟨gb709, 1, none⟩ (.int .i64 t701)).setCell ⟨gb709, 2, none⟩ (.slice Ao44 t702.length co44)).setCell ⟨gb709, 3, none⟩ (.slice Ao45 t705.length co45)) w.heap.size (fun k_ => some k_ ≠ (.slice Ao27 t670.length co27 : Value).ownBlock ∧ some k_ ≠ (.slice Ao30 t673.length co30 : Value).ownBlock ∧ some k_ ≠ (.slice Ao33 t677.length co33 : Value).ownBlock ∧ some k_ ≠ (.slice Ao34 t680.length co34 : Value).ownBlock ∧ some k_ ≠ (.slice Ao44 t702.length co44 : Value).ownBlock ∧ k_ ≠ gb657 ∧ k_ ≠ gb684 ∧ k_ ≠ gb709) (.slice Ao45 t705.length co45) t705) := ⟨by (with_reducible repeat (first | apply Kd.V_alloc | apply Kd.V_drewN | apply Kd.V_drew)); exact Kd.V_mono (Kd.V_far (p := ⟨gb709, 3, none⟩) (Kd.V_far (p := ⟨gb709, 2, none⟩) (Kd.V_far (p := ⟨gb709, 1, none⟩) (Kd.V_far (p := ⟨gb709, 0, none⟩) (Kd.V_mono HO707.out (fun k_ hk => (⟨hk, hk.2⟩ : _ ∧ k_ ≠ gb709))) (fun _ hk => hk.2) (.slice Ao40 t698.length co40)) (fun _ hk => hk.2) (.int .i64 t701)) (fun _ hk => hk.2) (.slice Ao44 t702.length co44)) (fun _ hk => hk.2) (.slice Ao45 t705.length co45)) (fun _ hk => ⟨hk.1.1.2.1, ⟨hk.1.1.2.2.1, ⟨hk.1.1.2.2.2.1, ⟨hk.1.1.2.2.2.2.1, ⟨hk.1.1.1, ⟨hk.1.1.2.2.2.2.2.1, ⟨hk.1.1.2.2.2.2.2.2, hk.1.2⟩⟩⟩⟩⟩⟩⟩)⟩
       have n10_ : Aside0 (((((w39.setCell ⟨gb709, 0, none⟩ (.slice Ao40 t698.length co40)).setCell ⟨gb709, 1, none⟩ (.int .i64 t701)).setCell ⟨gb709, 2, none⟩ (.slice Ao44 t702.length co44)).setCell ⟨gb709, 3, none⟩ (.slice Ao45 t705.length co45)).heap[gb657]? = some (.cells #[.slice A0_0 l0_0.length c0_0, .int .i64 a0_1, .slice A0_2 l0_2.length c0_2, .slice A0_3 l0_3.length c0_3] 26 (0, 0))) := ⟨by (with_reducible repeat first | apply bN | apply bd | apply ba); refine bF ?_ NB657_709.out _; (with_reducible repeat first | apply bN | apply bd | apply ba); refine bF ?_ NB657_709.out _; (with_reducible repeat first | apply bN | apply bd | apply ba); refine bF ?_ NB657_709.out _; (with_reducible repeat first | apply bN | apply bd | apply ba); refine bF ?_ NB657_709.out _; (with_reducible repeat first | apply bN | apply bd | apply ba); exact BK657.out⟩
       have n11_ : Aside0 (((((w39.setCell ⟨gb709, 0, none⟩ (.slice Ao40 t698.length co40)).setCell ⟨gb709, 1, none⟩ (.int .i64 t701)).setCell ⟨gb709, 2, none⟩ (.slice Ao44 t702.length co44)).setCell ⟨gb709, 3, none⟩ (.slice Ao45 t705.length co45)).heap[gb684]? = some (.cells #[.slice Ao30 t673.length co30, .int .i64 t676, .slice Ao33 t677.length co33, .slice Ao34 t680.length co34] 33 (0, 0))) := ⟨by (with_reducible repeat first | apply bN | apply bd | apply ba); refine bF ?_ NB684_709.out _; (with_reducible repeat first | apply bN | apply bd | apply ba); refine bF ?_ NB684_709.out _; (with_reducible repeat first | apply bN | apply bd | apply ba); refine bF ?_ NB684_709.out _; (with_reducible repeat first | apply bN | apply bd | apply ba); refine bF ?_ NB684_709.out _; (with_reducible repeat first | apply bN | apply bd | apply ba); exact BK684.out⟩
       have n12_ : Aside0 (((((w39.setCell ⟨gb709, 0, none⟩ (.slice Ao40 t698.length co40)).setCell ⟨gb709, 1, none⟩ (.int .i64 t701)).setCell ⟨gb709, 2, none⟩ (.slice Ao44 t702.length co44)).setCell ⟨gb709, 3, none⟩ (.slice Ao45 t705.length co45)).heap[gb709]? = some (.cells #[.slice Ao40 t698.length co40, .int .i64 t701, .slice Ao44 t702.length co44, .slice Ao45 t705.length co45] 26 (0, 0))) := ⟨by (with_reducible repeat first | apply bN | apply bd | apply ba); refine blk_put (cs := #[.slice Ao40 t698.length co40, .int .i64 t701, .slice Ao44 t702.length co44, .slice none 0 0]) ?_ 3 _ rfl; (with_reducible repeat first | apply bN | apply bd | apply ba); refine blk_put (cs := #[.slice Ao40 t698.length co40, .int .i64 t701, .slice none 0 0, .slice none 0 0]) ?_ 2 _ rfl; (with_reducible repeat first | apply bN | apply bd | apply ba); refine blk_put (cs := #[.slice Ao40 t698.length co40, .int .i64 0, .slice none 0 0, .slice none 0 0]) ?_ 1 _ rfl; (with_reducible repeat first | apply bN | apply bd | apply ba); refine blk_put (cs := #[.slice none 0 0, .int .i64 0, .slice none 0 0, .slice none 0 0]) ?_ 0 _ rfl; (with_reducible repeat first | apply bN | apply bd | apply ba); exact BK709.out⟩
       have n13_ : Aside0 (Below w.heap.size w ((((w39.setCell ⟨gb709, 0, none⟩ (.slice Ao40 t698.length co40)).setCell ⟨gb709, 1, none⟩ (.int .i64 t701)).setCell ⟨gb709, 2, none⟩ (.slice Ao44 t702.length co44)).setCell ⟨gb709, 3, none⟩ (.slice Ao45 t705.length co45))) := ⟨fW HB.out⟩
       (try clear HO662)
       (try clear HO666)
       (try clear HO669)
       (try clear HO672)
       (try clear HO675)
       (try clear HO679)
       (try clear HO682)
       (try clear HO700)
       (try clear HO704)
       (try clear HO707)
       (try clear BK657)
       (try clear BK684)
       (try clear BK709)
       (try clear HB)
       generalize ((((w39.setCell ⟨gb709, 0, none⟩ (.slice Ao40 t698.length co40)).setCell ⟨gb709, 1, none⟩ (.int .i64 t701)).setCell ⟨gb709, 2, none⟩ (.slice Ao44 t702.length co44)).setCell ⟨gb709, 3, none⟩ (.slice Ao45 t705.length co45)) = w59 at n0_ n1_ n2_ n3_ n4_ n5_ n6_ n7_ n8_ n9_ n10_ n11_ n12_ n13_ ⊢
       have HO662 := n0_
       have HO666 := n1_
       have HO669 := n2_
       have HO672 := n3_
       have HO675 := n4_
       have HO679 := n5_
       have HO682 := n6_
       have HO700 := n7_
       have HO704 := n8_
       have HO707 := n9_
       have BK657 := n10_
       have BK684 := n11_
       have BK709 := n12_
       have HB := n13_
       clear n0_ n1_ n2_ n3_ n4_ n5_ n6_ n7_ n8_ n9_ n10_ n11_ n12_ n13_
       have n0_ := am (Kd.V_drew HO662.out)
       have n1_ := am (Kd.V_drew HO666.out)
       have n2_ := am (Kd.V_drew HO669.out)
       have n3_ := am (Kd.R_drew HO672.out)
       have n4_ := am (Kd.S_drew HO675.out)
       have n5_ := am (Kd.R_drew HO679.out)
       have n6_ := am (Kd.R_drew HO682.out)
       have n7_ := am (Kd.V_drew HO700.out)
       have n8_ := am (Kd.R_drew HO704.out)
       have n9_ := am (Kd.V_drew HO707.out)
       have n10_ := am (bd BK657.out)
       have n11_ := am (bd BK684.out)
       have n12_ := am (bd BK709.out)
       have n13_ := am (below_drew1 HB.out)
       clear HO662 HO666 HO669 HO672 HO675 HO679 HO682 HO700 HO704 HO707 BK657 BK684 BK709 HB
       have HO662 := n0_
       have HO666 := n1_
       have HO669 := n2_
       have HO672 := n3_
       have HO675 := n4_
       have HO679 := n5_
       have HO682 := n6_
       have HO700 := n7_
       have HO704 := n8_
       have HO707 := n9_
       have BK657 := n10_
       have BK684 := n11_
       have BK709 := n12_
       have HB := n13_
       clear n0_ n1_ n2_ n3_ n4_ n5_ n6_ n7_ n8_ n9_ n10_ n11_ n12_ n13_
       refine start_ (n := 13) (S := fun w' => True) (ds := []) #[F,F,F,F,F,F,F,F,F,F,F,F,F] (by kernel_rfl) rfl rfl trivial (fun hHeld => ?_); refine with_tabW w_ReplaceApplies.tab8 w_ReplaceApplies.bits8 (fun HT_ HW_ => ?_)
       generalize w59.drew = w60 at HO662 HO666 HO669 HO672 HO675 HO679 HO682 HO700 HO704 HO707 BK657 BK684 BK709 HB hHeld ⊢
       refine one_ (i := 0) (N := some 49) (fl 13 1 []) rfl rfl (one_of HT_.out (by kernel_rfl)) (by decide) (fun K hK => ?_)
       refine goes_ Try.func11 (by kernel_rfl) rfl #[] (by rfl) rfl rfl (by (try simp only [pml]); first | done | rfl | (simp only [pdt]; rfl)) ?_
       with_reducible refine (w_awake.calls kj2  true _ A46.out).mono ?_
       rintro e w61 ⟨rfl, hb⟩
       refine ⟨_, rfl, ?_⟩
       have n0_ := dV HO662 hb
       have n1_ := dV HO666 hb
       have n2_ := dV HO669 hb
       have n3_ := dR HO672 hb
       have n4_ := am (Kd.S_below (by (with_reducible repeat (first | apply Kd.S_alloc | apply Kd.S_drewN | apply Kd.S_drew)); exact HO675.out) hb)
       have n5_ := dR HO679 hb
       have n6_ := dR HO682 hb
       have n7_ := dV HO700 hb
       have n8_ := dR HO704 hb
       have n9_ := dV HO707 hb
       have n10_ := bB BK657 hb
       have n11_ := bB BK684 hb
       have n12_ := bB BK709 hb
       have n13_ := bS HB hb
       clear HO662 HO666 HO669 HO672 HO675 HO679 HO682 HO700 HO704 HO707 BK657 BK684 BK709 HB
       have HO662 := n0_
       have HO666 := n1_
       have HO669 := n2_
       have HO672 := n3_
       have HO675 := n4_
       have HO679 := n5_
       have HO682 := n6_
       have HO700 := n7_
       have HO704 := n8_
       have HO707 := n9_
       have BK657 := n10_
       have BK684 := n11_
       have BK709 := n12_
       have HB := n13_
       clear n0_ n1_ n2_ n3_ n4_ n5_ n6_ n7_ n8_ n9_ n10_ n11_ n12_ n13_
       (try clear hb)
       (try clear hb2)
       (try clear hk)
       (try clear hi)
       refine hK.out _ _ trivial (fun hHeld => ?_)
       clear hK K
       refine norm_ (a' := ?_) ?_ ?_
       rotate_left
       ·show Act.put _ (some 49) _ = _
        simp only [Act.put, psl, i64_w, i32_w]
        rfl
       refine pu (i := 1) (N := some 50) (fl 13 2 []) HT_ ?_
       refine pu (i := 2) (N := some 51) (fl 13 3 []) HT_ ?_
       refine pu (i := 3) (N := some 52) (fl 13 4 []) HT_ ?_
       refine pu (i := 4) (N := some 53) (fl 13 5 []) HT_ ?_
       refine pu (i := 5) (N := some 54) (fl 13 6 []) HT_ ?_
       refine pu (i := 6) (N := some 55) (fl 13 7 []) HT_ ?_
       refine pure_ (i := 7) (N := some 56) (v := undef) (a' := ?_) #[T,T,T,T,T,T,T,T,F,F,F,F,F] rfl rfl (any_of HT_.out (by kernel_rfl)) (fun _ _ _ h => h) (Or.inr ⟨by rfl, rfl⟩) ?_ ?_
       rotate_left
       ·simp only [Act.put, psl, i64_w, i32_w]
        rfl
       refine pure_ (i := 8) (N := some 57) (v := undef) (a' := ?_) #[T,T,T,T,T,T,T,T,T,F,F,F,F] rfl rfl (any_of HT_.out (by kernel_rfl)) (fun _ _ _ h => h) (Or.inr ⟨by rfl, rfl⟩) ?_ ?_
       rotate_left
       ·simp only [Act.put, psl, i64_w, i32_w]
        rfl
       refine pure_ (i := 9) (N := some 58) (v := undef) (a' := ?_) #[T,T,T,T,T,T,T,T,T,T,F,F,F] rfl rfl (any_of HT_.out (by kernel_rfl)) (fun _ _ _ h => h) (Or.inr ⟨by rfl, rfl⟩) ?_ ?_
       rotate_left
       ·simp only [Act.put, psl, i64_w, i32_w]
        rfl
       refine pure_ (i := 10) (N := some 59) (v := undef) (a' := ?_) #[T,T,T,T,T,T,T,T,T,T,T,F,F] rfl rfl (any_of HT_.out (by kernel_rfl)) (fun _ _ _ h => h) (Or.inr ⟨by rfl, rfl⟩) ?_ ?_
       rotate_left
       ·simp only [Act.put, psl, i64_w, i32_w]
        rfl
       refine pu (i := 11) (N := some 60) (fl 13 12 []) HT_ ?_
       refine pu (i := 12) (N := some 4) (fl 13 13 []) HT_ ?_
       refine done_ (done_of HT_.out (by kernel_rfl)) ?_
       try go_wp2
       go_meet
       case rel => exact ⟨_, (false), sqD, H', ⟨by have := HJ2.out; first | omega | exact Nat.le_refl _⟩, ⟨by (with_reducible repeat (first | apply Kd.S_alloc | apply Kd.S_drewN | apply Kd.S_drew)); exact HO675.out⟩, ⟨fR HO679.out⟩, ⟨fR HO682.out⟩, ⟨by (with_reducible repeat (first | apply Kd.V_alloc | apply Kd.V_drewN | apply Kd.V_drew)); exact Kd.V_mono HO700.out (fun _ hk => ⟨hk.2.1, ⟨hk.2.2.1, ⟨hk.2.2.2.1, ⟨hk.2.2.2.2.1, ⟨hk.2.2.2.2.2.1, ⟨hk.2.2.2.2.2.2.1, hk.2.2.2.2.2.2.2⟩⟩⟩⟩⟩⟩)⟩, ⟨fR HO704.out⟩, ⟨by (with_reducible repeat (first | apply Kd.V_alloc | apply Kd.V_drewN | apply Kd.V_drew)); exact Kd.V_mono HO707.out (fun _ hk => ⟨hk.2.1, ⟨hk.2.2.1, ⟨hk.2.2.2.1, ⟨hk.2.2.2.2.1, ⟨hk.2.2.2.2.2.1, ⟨hk.2.2.2.2.2.2.1, hk.2.2.2.2.2.2.2⟩⟩⟩⟩⟩⟩)⟩, ⟨fb BK657.out⟩, ⟨fb BK684.out⟩, ⟨fb BK709.out⟩, ⟨fW HB.out⟩⟩
      rw [if_pos c48] at H
      have c48b0 : (t683 == t708) = true := beq_iff_eq.mpr c48
      have c48b1 : (t683 != t708) = false := bne_eq_false_iff_eq.mpr c48
      clear c48
      (first | rw [c48b0] | (simp only [i64_w, i32_w]; rw [c48b0]) | skip)
      replace H := Option.bind_eq_some_iff.mp H
      obtain ⟨⟨t711, t714, t715, t718⟩, A490, H⟩ := H
      replace H : ((r_Same.f kj2 t711 t714 t715 t718 t698 t701 t702 t705).bind fun t721 => (w_ReplaceApplies.j2 kj2 t721)) = some r := H
      have A49 := am A490
      clear A490
      replace H := Option.bind_eq_some_iff.mp H
      obtain ⟨t721, A500, H⟩ := H
      replace H : (w_ReplaceApplies.j2 kj2 t721) = some r := H
      have A50 := am A500
      clear A500
      have H' := am H
      clear H
      try go_wp2
      have n0_ : Aside0 (Kd.V (Kd.slice 3 (Kd.int .i64)) 23 ((((w39.setCell ⟨gb709, 0, none⟩ (.slice Ao40 t698.length co40)).setCell ⟨gb709, 1, none⟩ (.int .i64 t701)).setCell ⟨gb709, 2, none⟩ (.slice Ao44 t702.length co44)).setCell ⟨gb709, 3, none⟩ (.slice Ao45 t705.length co45)) w.heap.size (fun k_ => some k_ ≠ (.slice Ao27 t670.length co27 : Value).ownBlock ∧ some k_ ≠ (.slice Ao30 t673.length co30 : Value).ownBlock ∧ some k_ ≠ (.slice Ao33 t677.length co33 : Value).ownBlock ∧ some k_ ≠ (.slice Ao34 t680.length co34 : Value).ownBlock ∧ some k_ ≠ (.slice Ao44 t702.length co44 : Value).ownBlock ∧ k_ ≠ gb657 ∧ k_ ≠ gb684 ∧ k_ ≠ gb709) (.slice Ao24 t660.length co24) t660) := ⟨by (with_reducible repeat (first | apply Kd.V_alloc | apply Kd.V_drewN | apply Kd.V_drew)); exact Kd.V_mono (Kd.V_far (p := ⟨gb709, 3, none⟩) (Kd.V_far (p := ⟨gb709, 2, none⟩) (Kd.V_far (p := ⟨gb709, 1, none⟩) (Kd.V_far (p := ⟨gb709, 0, none⟩) (Kd.V_mono HO662.out (fun k_ hk => (⟨hk, hk.2⟩ : _ ∧ k_ ≠ gb709))) (fun _ hk => hk.2) (.slice Ao40 t698.length co40)) (fun _ hk => hk.2) (.int .i64 t701)) (fun _ hk => hk.2) (.slice Ao44 t702.length co44)) (fun _ hk => hk.2) (.slice Ao45 t705.length co45)) (fun _ hk => ⟨hk.1.1.1.1.1.1.1.2, ⟨hk.1.1.1.1.1.1.2, ⟨hk.1.1.1.1.1.2, ⟨hk.1.1.1.1.2, ⟨hk.1.1.2, ⟨hk.1.1.1.1.1.1.1.1, ⟨hk.1.1.1.2, hk.1.2⟩⟩⟩⟩⟩⟩⟩)⟩
      have n1_ : Aside0 (Kd.V (Kd.int .i64) 3 ((((w39.setCell ⟨gb709, 0, none⟩ (.slice Ao40 t698.length co40)).setCell ⟨gb709, 1, none⟩ (.int .i64 t701)).setCell ⟨gb709, 2, none⟩ (.slice Ao44 t702.length co44)).setCell ⟨gb709, 3, none⟩ (.slice Ao45 t705.length co45)) w.heap.size (fun k_ => some k_ ≠ (.slice Ao27 t670.length co27 : Value).ownBlock ∧ some k_ ≠ (.slice Ao30 t673.length co30 : Value).ownBlock ∧ some k_ ≠ (.slice Ao33 t677.length co33 : Value).ownBlock ∧ some k_ ≠ (.slice Ao34 t680.length co34 : Value).ownBlock ∧ some k_ ≠ (.slice Ao44 t702.length co44 : Value).ownBlock ∧ k_ ≠ gb657 ∧ k_ ≠ gb684 ∧ k_ ≠ gb709) (.slice Ao25 t664.length co25) t664) := ⟨by (with_reducible repeat (first | apply Kd.V_alloc | apply Kd.V_drewN | apply Kd.V_drew)); exact Kd.V_mono (Kd.V_far (p := ⟨gb709, 3, none⟩) (Kd.V_far (p := ⟨gb709, 2, none⟩) (Kd.V_far (p := ⟨gb709, 1, none⟩) (Kd.V_far (p := ⟨gb709, 0, none⟩) (Kd.V_mono HO666.out (fun k_ hk => (⟨hk, hk.2⟩ : _ ∧ k_ ≠ gb709))) (fun _ hk => hk.2) (.slice Ao40 t698.length co40)) (fun _ hk => hk.2) (.int .i64 t701)) (fun _ hk => hk.2) (.slice Ao44 t702.length co44)) (fun _ hk => hk.2) (.slice Ao45 t705.length co45)) (fun _ hk => ⟨hk.1.1.1.1.1.1.1.2, ⟨hk.1.1.1.1.1.1.2, ⟨hk.1.1.1.1.1.2, ⟨hk.1.1.1.1.2, ⟨hk.1.1.2, ⟨hk.1.1.1.1.1.1.1.1, ⟨hk.1.1.1.2, hk.1.2⟩⟩⟩⟩⟩⟩⟩)⟩
      have n2_ : Aside0 (Kd.V Kd.bool 4 ((((w39.setCell ⟨gb709, 0, none⟩ (.slice Ao40 t698.length co40)).setCell ⟨gb709, 1, none⟩ (.int .i64 t701)).setCell ⟨gb709, 2, none⟩ (.slice Ao44 t702.length co44)).setCell ⟨gb709, 3, none⟩ (.slice Ao45 t705.length co45)) w.heap.size (fun k_ => some k_ ≠ (.slice Ao27 t670.length co27 : Value).ownBlock ∧ some k_ ≠ (.slice Ao30 t673.length co30 : Value).ownBlock ∧ some k_ ≠ (.slice Ao33 t677.length co33 : Value).ownBlock ∧ some k_ ≠ (.slice Ao34 t680.length co34 : Value).ownBlock ∧ some k_ ≠ (.slice Ao44 t702.length co44 : Value).ownBlock ∧ k_ ≠ gb657 ∧ k_ ≠ gb684 ∧ k_ ≠ gb709) (.slice Ao26 t667.length co26) t667) := ⟨by (with_reducible repeat (first | apply Kd.V_alloc | apply Kd.V_drewN | apply Kd.V_drew)); exact Kd.V_mono (Kd.V_far (p := ⟨gb709, 3, none⟩) (Kd.V_far (p := ⟨gb709, 2, none⟩) (Kd.V_far (p := ⟨gb709, 1, none⟩) (Kd.V_far (p := ⟨gb709, 0, none⟩) (Kd.V_mono HO669.out (fun k_ hk => (⟨hk, hk.2⟩ : _ ∧ k_ ≠ gb709))) (fun _ hk => hk.2) (.slice Ao40 t698.length co40)) (fun _ hk => hk.2) (.int .i64 t701)) (fun _ hk => hk.2) (.slice Ao44 t702.length co44)) (fun _ hk => hk.2) (.slice Ao45 t705.length co45)) (fun _ hk => ⟨hk.1.1.1.1.1.1.1.2, ⟨hk.1.1.1.1.1.1.2, ⟨hk.1.1.1.1.1.2, ⟨hk.1.1.1.1.2, ⟨hk.1.1.2, ⟨hk.1.1.1.1.1.1.1.1, ⟨hk.1.1.1.2, hk.1.2⟩⟩⟩⟩⟩⟩⟩)⟩
      have n3_ : Aside0 (Kd.R k52 52 ((((w39.setCell ⟨gb709, 0, none⟩ (.slice Ao40 t698.length co40)).setCell ⟨gb709, 1, none⟩ (.int .i64 t701)).setCell ⟨gb709, 2, none⟩ (.slice Ao44 t702.length co44)).setCell ⟨gb709, 3, none⟩ (.slice Ao45 t705.length co45)) w.heap.size (fun _ => True) (.slice Ao27 t670.length co27) t670) := ⟨by (with_reducible repeat (first | apply Kd.R_alloc | apply Kd.R_drewN | apply Kd.R_drew)); exact Kd.R_mono (Kd.R_far (p := ⟨gb709, 3, none⟩) (Kd.R_far (p := ⟨gb709, 2, none⟩) (Kd.R_far (p := ⟨gb709, 1, none⟩) (Kd.R_far (p := ⟨gb709, 0, none⟩) (Kd.R_types HO672.out BK709.out (by decide)) (fun _ hk => hk.2) (.slice Ao40 t698.length co40)) (fun _ hk => hk.2) (.int .i64 t701)) (fun _ hk => hk.2) (.slice Ao44 t702.length co44)) (fun _ hk => hk.2) (.slice Ao45 t705.length co45)) (fun _ hk => trivial)⟩
      have n4_ : Aside0 (Kd.S (Kd.slice 3 (Kd.int .i64)) 23 ((((w39.setCell ⟨gb709, 0, none⟩ (.slice Ao40 t698.length co40)).setCell ⟨gb709, 1, none⟩ (.int .i64 t701)).setCell ⟨gb709, 2, none⟩ (.slice Ao44 t702.length co44)).setCell ⟨gb709, 3, none⟩ (.slice Ao45 t705.length co45)) w.heap.size (fun k_ => some k_ ≠ (.slice Ao33 t677.length co33 : Value).ownBlock ∧ some k_ ≠ (.slice Ao44 t702.length co44 : Value).ownBlock) (.slice Ao30 t673.length co30) t673) := ⟨by (with_reducible repeat (first | apply Kd.S_alloc | apply Kd.S_drewN | apply Kd.S_drew)); exact Kd.S_mono (Kd.S_far (p := ⟨gb709, 3, none⟩) (Kd.S_far (p := ⟨gb709, 2, none⟩) (Kd.S_far (p := ⟨gb709, 1, none⟩) (Kd.S_far (p := ⟨gb709, 0, none⟩) (Kd.S_types HO675.out BK709.out (by decide)) (fun _ hk => hk.2) (.slice Ao40 t698.length co40)) (fun _ hk => hk.2) (.int .i64 t701)) (fun _ hk => hk.2) (.slice Ao44 t702.length co44)) (fun _ hk => hk.2) (.slice Ao45 t705.length co45)) (fun _ hk => ⟨hk.1.1, hk.1.2⟩)⟩
      have n5_ : Aside0 (Kd.R (Kd.int .i64) 3 ((((w39.setCell ⟨gb709, 0, none⟩ (.slice Ao40 t698.length co40)).setCell ⟨gb709, 1, none⟩ (.int .i64 t701)).setCell ⟨gb709, 2, none⟩ (.slice Ao44 t702.length co44)).setCell ⟨gb709, 3, none⟩ (.slice Ao45 t705.length co45)) w.heap.size (fun k_ => some k_ ≠ (.slice Ao44 t702.length co44 : Value).ownBlock) (.slice Ao33 t677.length co33) t677) := ⟨by (with_reducible repeat (first | apply Kd.R_alloc | apply Kd.R_drewN | apply Kd.R_drew)); exact Kd.R_mono (Kd.R_far (p := ⟨gb709, 3, none⟩) (Kd.R_far (p := ⟨gb709, 2, none⟩) (Kd.R_far (p := ⟨gb709, 1, none⟩) (Kd.R_far (p := ⟨gb709, 0, none⟩) (Kd.R_types HO679.out BK709.out (by decide)) (fun _ hk => hk.2) (.slice Ao40 t698.length co40)) (fun _ hk => hk.2) (.int .i64 t701)) (fun _ hk => hk.2) (.slice Ao44 t702.length co44)) (fun _ hk => hk.2) (.slice Ao45 t705.length co45)) (fun _ hk => hk.1.2)⟩
      have n6_ : Aside0 (Kd.R Kd.bool 4 ((((w39.setCell ⟨gb709, 0, none⟩ (.slice Ao40 t698.length co40)).setCell ⟨gb709, 1, none⟩ (.int .i64 t701)).setCell ⟨gb709, 2, none⟩ (.slice Ao44 t702.length co44)).setCell ⟨gb709, 3, none⟩ (.slice Ao45 t705.length co45)) w.heap.size (fun _ => True) (.slice Ao34 t680.length co34) t680) := ⟨by (with_reducible repeat (first | apply Kd.R_alloc | apply Kd.R_drewN | apply Kd.R_drew)); exact Kd.R_mono (Kd.R_far (p := ⟨gb709, 3, none⟩) (Kd.R_far (p := ⟨gb709, 2, none⟩) (Kd.R_far (p := ⟨gb709, 1, none⟩) (Kd.R_far (p := ⟨gb709, 0, none⟩) (Kd.R_types HO682.out BK709.out (by decide)) (fun _ hk => hk.2) (.slice Ao40 t698.length co40)) (fun _ hk => hk.2) (.int .i64 t701)) (fun _ hk => hk.2) (.slice Ao44 t702.length co44)) (fun _ hk => hk.2) (.slice Ao45 t705.length co45)) (fun _ hk => trivial)⟩
      have n7_ : Aside0 (Kd.V (Kd.slice 3 (Kd.int .i64)) 23 ((((w39.setCell ⟨gb709, 0, none⟩ (.slice Ao40 t698.length co40)).setCell ⟨gb709, 1, none⟩ (.int .i64 t701)).setCell ⟨gb709, 2, none⟩ (.slice Ao44 t702.length co44)).setCell ⟨gb709, 3, none⟩ (.slice Ao45 t705.length co45)) w.heap.size (fun k_ => some k_ ≠ (.slice Ao27 t670.length co27 : Value).ownBlock ∧ some k_ ≠ (.slice Ao30 t673.length co30 : Value).ownBlock ∧ some k_ ≠ (.slice Ao33 t677.length co33 : Value).ownBlock ∧ some k_ ≠ (.slice Ao34 t680.length co34 : Value).ownBlock ∧ some k_ ≠ (.slice Ao44 t702.length co44 : Value).ownBlock ∧ k_ ≠ gb657 ∧ k_ ≠ gb684 ∧ k_ ≠ gb709) (.slice Ao40 t698.length co40) t698) := ⟨by (with_reducible repeat (first | apply Kd.V_alloc | apply Kd.V_drewN | apply Kd.V_drew)); exact Kd.V_mono (Kd.V_far (p := ⟨gb709, 3, none⟩) (Kd.V_far (p := ⟨gb709, 2, none⟩) (Kd.V_far (p := ⟨gb709, 1, none⟩) (Kd.V_far (p := ⟨gb709, 0, none⟩) (Kd.V_mono HO700.out (fun k_ hk => (⟨hk, hk.2⟩ : _ ∧ k_ ≠ gb709))) (fun _ hk => hk.2) (.slice Ao40 t698.length co40)) (fun _ hk => hk.2) (.int .i64 t701)) (fun _ hk => hk.2) (.slice Ao44 t702.length co44)) (fun _ hk => hk.2) (.slice Ao45 t705.length co45)) (fun _ hk => ⟨hk.1.1.2.1, ⟨hk.1.1.2.2.1, ⟨hk.1.1.2.2.2.1, ⟨hk.1.1.2.2.2.2.1, ⟨hk.1.1.1, ⟨hk.1.1.2.2.2.2.2.1, ⟨hk.1.1.2.2.2.2.2.2, hk.1.2⟩⟩⟩⟩⟩⟩⟩)⟩
      have n8_ : Aside0 (Kd.R (Kd.int .i64) 3 ((((w39.setCell ⟨gb709, 0, none⟩ (.slice Ao40 t698.length co40)).setCell ⟨gb709, 1, none⟩ (.int .i64 t701)).setCell ⟨gb709, 2, none⟩ (.slice Ao44 t702.length co44)).setCell ⟨gb709, 3, none⟩ (.slice Ao45 t705.length co45)) w.heap.size (fun k_ => some k_ ≠ (.slice Ao33 t677.length co33 : Value).ownBlock) (.slice Ao44 t702.length co44) t702) := ⟨by (with_reducible repeat (first | apply Kd.R_alloc | apply Kd.R_drewN | apply Kd.R_drew)); exact Kd.R_mono (Kd.R_far (p := ⟨gb709, 3, none⟩) (Kd.R_far (p := ⟨gb709, 2, none⟩) (Kd.R_far (p := ⟨gb709, 1, none⟩) (Kd.R_far (p := ⟨gb709, 0, none⟩) (Kd.R_types HO704.out BK709.out (by decide)) (fun _ hk => hk.2) (.slice Ao40 t698.length co40)) (fun _ hk => hk.2) (.int .i64 t701)) (fun _ hk => hk.2) (.slice Ao44 t702.length co44)) (fun _ hk => hk.2) (.slice Ao45 t705.length co45)) (fun _ hk => hk.1.2)⟩
      have n9_ : Aside0 (Kd.V Kd.bool 4 ((((w39.setCell ⟨gb709, 0, none⟩ (.slice Ao40 t698.length co40)).setCell ⟨gb709, 1, none⟩ (.int .i64 t701)).setCell ⟨gb709, 2, none⟩ (.slice Ao44 t702.length co44)).setCell ⟨gb709, 3, none⟩ (.slice Ao45 t705.length co45)) w.heap.size (fun k_ => some k_ ≠ (.slice Ao27 t670.length co27 : Value).ownBlock ∧ some k_ ≠ (.slice Ao30 t673.length co30 : Value).ownBlock ∧ some k_ ≠ (.slice Ao33 t677.length co33 : Value).ownBlock ∧ some k_ ≠ (.slice Ao34 t680.length co34 : Value).ownBlock ∧ some k_ ≠ (.slice Ao44 t702.length co44 : Value).ownBlock ∧ k_ ≠ gb657 ∧ k_ ≠ gb684 ∧ k_ ≠ gb709) (.slice Ao45 t705.length co45) t705) := ⟨by (with_reducible repeat (first | apply Kd.V_alloc | apply Kd.V_drewN | apply Kd.V_drew)); exact Kd.V_mono (Kd.V_far (p := ⟨gb709, 3, none⟩) (Kd.V_far (p := ⟨gb709, 2, none⟩) (Kd.V_far (p := ⟨gb709, 1, none⟩) (Kd.V_far (p := ⟨gb709, 0, none⟩) (Kd.V_mono HO707.out (fun k_ hk => (⟨hk, hk.2⟩ : _ ∧ k_ ≠ gb709))) (fun _ hk => hk.2) (.slice Ao40 t698.length co40)) (fun _ hk => hk.2) (.int .i64 t701)) (fun _ hk => hk.2) (.slice Ao44 t702.length co44)) (fun _ hk => hk.2) (.slice Ao45 t705.length co45)) (fun _ hk => ⟨hk.1.1.2.1, ⟨hk.1.1.2.2.1, ⟨hk.1.1.2.2.2.1, ⟨hk.1.1.2.2.2.2.1, ⟨hk.1.1.1, ⟨hk.1.1.2.2.2.2.2.1, ⟨hk.1.1.2.2.2.2.2.2, hk.1.2⟩⟩⟩⟩⟩⟩⟩)⟩
      have n10_ : Aside0 (((((w39.setCell ⟨gb709, 0, none⟩ (.slice Ao40 t698.length co40)).setCell ⟨gb709, 1, none⟩ (.int .i64 t701)).setCell ⟨gb709, 2, none⟩ (.slice Ao44 t702.length co44)).setCell ⟨gb709, 3, none⟩ (.slice Ao45 t705.length co45)).heap[gb657]? = some (.cells #[.slice A0_0 l0_0.length c0_0, .int .i64 a0_1, .slice A0_2 l0_2.length c0_2, .slice A0_3 l0_3.length c0_3] 26 (0, 0))) := ⟨by (with_reducible repeat first | apply bN | apply bd | apply ba); refine bF ?_ NB657_709.out _; (with_reducible repeat first | apply bN | apply bd | apply ba); refine bF ?_ NB657_709.out _; (with_reducible repeat first | apply bN | apply bd | apply ba); refine bF ?_ NB657_709.out _; (with_reducible repeat first | apply bN | apply bd | apply ba); refine bF ?_ NB657_709.out _; (with_reducible repeat first | apply bN | apply bd | apply ba); exact BK657.out⟩
      have n11_ : Aside0 (((((w39.setCell ⟨gb709, 0, none⟩ (.slice Ao40 t698.length co40)).setCell ⟨gb709, 1, none⟩ (.int .i64 t701)).setCell ⟨gb709, 2, none⟩ (.slice Ao44 t702.length co44)).setCell ⟨gb709, 3, none⟩ (.slice Ao45 t705.length co45)).heap[gb684]? = some (.cells #[.slice Ao30 t673.length co30, .int .i64 t676, .slice Ao33 t677.length co33, .slice Ao34 t680.length co34] 33 (0, 0))) := ⟨by (with_reducible repeat first | apply bN | apply bd | apply ba); refine bF ?_ NB684_709.out _; (with_reducible repeat first | apply bN | apply bd | apply ba); refine bF ?_ NB684_709.out _; (with_reducible repeat first | apply bN | apply bd | apply ba); refine bF ?_ NB684_709.out _; (with_reducible repeat first | apply bN | apply bd | apply ba); refine bF ?_ NB684_709.out _; (with_reducible repeat first | apply bN | apply bd | apply ba); exact BK684.out⟩
      have n12_ : Aside0 (((((w39.setCell ⟨gb709, 0, none⟩ (.slice Ao40 t698.length co40)).setCell ⟨gb709, 1, none⟩ (.int .i64 t701)).setCell ⟨gb709, 2, none⟩ (.slice Ao44 t702.length co44)).setCell ⟨gb709, 3, none⟩ (.slice Ao45 t705.length co45)).heap[gb709]? = some (.cells #[.slice Ao40 t698.length co40, .int .i64 t701, .slice Ao44 t702.length co44, .slice Ao45 t705.length co45] 26 (0, 0))) := ⟨by (with_reducible repeat first | apply bN | apply bd | apply ba); refine blk_put (cs := #[.slice Ao40 t698.length co40, .int .i64 t701, .slice Ao44 t702.length co44, .slice none 0 0]) ?_ 3 _ rfl; (with_reducible repeat first | apply bN | apply bd | apply ba); refine blk_put (cs := #[.slice Ao40 t698.length co40, .int .i64 t701, .slice none 0 0, .slice none 0 0]) ?_ 2 _ rfl; (with_reducible repeat first | apply bN | apply bd | apply ba); refine blk_put (cs := #[.slice Ao40 t698.length co40, .int .i64 0, .slice none 0 0, .slice none 0 0]) ?_ 1 _ rfl; (with_reducible repeat first | apply bN | apply bd | apply ba); refine blk_put (cs := #[.slice none 0 0, .int .i64 0, .slice none 0 0, .slice none 0 0]) ?_ 0 _ rfl; (with_reducible repeat first | apply bN | apply bd | apply ba); exact BK709.out⟩
      have n13_ : Aside0 (Below w.heap.size w ((((w39.setCell ⟨gb709, 0, none⟩ (.slice Ao40 t698.length co40)).setCell ⟨gb709, 1, none⟩ (.int .i64 t701)).setCell ⟨gb709, 2, none⟩ (.slice Ao44 t702.length co44)).setCell ⟨gb709, 3, none⟩ (.slice Ao45 t705.length co45))) := ⟨fW HB.out⟩
      (try clear HO662)
      (try clear HO666)
      (try clear HO669)
      (try clear HO672)
      (try clear HO675)
      (try clear HO679)
      (try clear HO682)
      (try clear HO700)
      (try clear HO704)
      (try clear HO707)
      (try clear BK657)
      (try clear BK684)
      (try clear BK709)
      (try clear HB)
      generalize ((((w39.setCell ⟨gb709, 0, none⟩ (.slice Ao40 t698.length co40)).setCell ⟨gb709, 1, none⟩ (.int .i64 t701)).setCell ⟨gb709, 2, none⟩ (.slice Ao44 t702.length co44)).setCell ⟨gb709, 3, none⟩ (.slice Ao45 t705.length co45)) = w51 at n0_ n1_ n2_ n3_ n4_ n5_ n6_ n7_ n8_ n9_ n10_ n11_ n12_ n13_ ⊢
      have HO662 := n0_
      have HO666 := n1_
      have HO669 := n2_
      have HO672 := n3_
      have HO675 := n4_
      have HO679 := n5_
      have HO682 := n6_
      have HO700 := n7_
      have HO704 := n8_
      have HO707 := n9_
      have BK657 := n10_
      have BK684 := n11_
      have BK709 := n12_
      have HB := n13_
      clear n0_ n1_ n2_ n3_ n4_ n5_ n6_ n7_ n8_ n9_ n10_ n11_ n12_ n13_
      have n0_ := am (Kd.V_drew HO662.out)
      have n1_ := am (Kd.V_drew HO666.out)
      have n2_ := am (Kd.V_drew HO669.out)
      have n3_ := am (Kd.R_drew HO672.out)
      have n4_ := am (Kd.S_drew HO675.out)
      have n5_ := am (Kd.R_drew HO679.out)
      have n6_ := am (Kd.R_drew HO682.out)
      have n7_ := am (Kd.V_drew HO700.out)
      have n8_ := am (Kd.R_drew HO704.out)
      have n9_ := am (Kd.V_drew HO707.out)
      have n10_ := am (bd BK657.out)
      have n11_ := am (bd BK684.out)
      have n12_ := am (bd BK709.out)
      have n13_ := am (below_drew1 HB.out)
      clear HO662 HO666 HO669 HO672 HO675 HO679 HO682 HO700 HO704 HO707 BK657 BK684 BK709 HB
      have HO662 := n0_
      have HO666 := n1_
      have HO669 := n2_
      have HO672 := n3_
      have HO675 := n4_
      have HO679 := n5_
      have HO682 := n6_
      have HO700 := n7_
      have HO704 := n8_
      have HO707 := n9_
      have BK657 := n10_
      have BK684 := n11_
      have BK709 := n12_
      have HB := n13_
      clear n0_ n1_ n2_ n3_ n4_ n5_ n6_ n7_ n8_ n9_ n10_ n11_ n12_ n13_
      refine start_ (n := 13) (S := fun w' => w'.cell? ⟨gb684, 0, none⟩ = some (.slice Ao30 t673.length co30) ∧ w'.cell? ⟨gb684, 1, none⟩ = some (.int .i64 t676) ∧ w'.cell? ⟨gb684, 2, none⟩ = some (.slice Ao33 t677.length co33) ∧ w'.cell? ⟨gb684, 3, none⟩ = some (.slice Ao34 t680.length co34) ∧ w'.cell? ⟨gb709, 0, none⟩ = some (.slice Ao40 t698.length co40) ∧ w'.cell? ⟨gb709, 1, none⟩ = some (.int .i64 t701) ∧ w'.cell? ⟨gb709, 2, none⟩ = some (.slice Ao44 t702.length co44) ∧ w'.cell? ⟨gb709, 3, none⟩ = some (.slice Ao45 t705.length co45)) (ds := []) #[F,F,F,F,F,F,F,F,F,F,F,F,F] (by kernel_rfl) rfl rfl ⟨(bc BK684.out 0).trans rfl, (bc BK684.out 1).trans rfl, (bc BK684.out 2).trans rfl, (bc BK684.out 3).trans rfl, (bc BK709.out 0).trans rfl, (bc BK709.out 1).trans rfl, (bc BK709.out 2).trans rfl, (bc BK709.out 3).trans rfl⟩ (fun hHeld => ?_); refine with_tabW w_ReplaceApplies.tab8 w_ReplaceApplies.bits8 (fun HT_ HW_ => ?_)
      generalize w51.drew = w52 at HO662 HO666 HO669 HO672 HO675 HO679 HO682 HO700 HO704 HO707 BK657 BK684 BK709 HB hHeld ⊢
      refine one_ (i := 0) (N := some 49) (fl 13 1 []) rfl rfl (one_of HT_.out (by kernel_rfl)) (by decide) (fun K hK => ?_)
      refine goes_ Try.func11 (by kernel_rfl) rfl #[] (by rfl) rfl rfl (by (try simp only [pml]); first | done | rfl | (simp only [pdt]; rfl)) ?_
      with_reducible refine (w_awake.calls kj2  true _ A46.out).mono ?_
      rintro e w53 ⟨rfl, hb⟩
      refine ⟨_, rfl, ?_⟩
      have n0_ := dV HO662 hb
      have n1_ := dV HO666 hb
      have n2_ := dV HO669 hb
      have n3_ := dR HO672 hb
      have n4_ := am (Kd.S_below (by (with_reducible repeat (first | apply Kd.S_alloc | apply Kd.S_drewN | apply Kd.S_drew)); exact HO675.out) hb)
      have n5_ := dR HO679 hb
      have n6_ := dR HO682 hb
      have n7_ := dV HO700 hb
      have n8_ := dR HO704 hb
      have n9_ := dV HO707 hb
      have n10_ := bB BK657 hb
      have n11_ := bB BK684 hb
      have n12_ := bB BK709 hb
      have n13_ := bS HB hb
      clear HO662 HO666 HO669 HO672 HO675 HO679 HO682 HO700 HO704 HO707 BK657 BK684 BK709 HB
      have HO662 := n0_
      have HO666 := n1_
      have HO669 := n2_
      have HO672 := n3_
      have HO675 := n4_
      have HO679 := n5_
      have HO682 := n6_
      have HO700 := n7_
      have HO704 := n8_
      have HO707 := n9_
      have BK657 := n10_
      have BK684 := n11_
      have BK709 := n12_
      have HB := n13_
      clear n0_ n1_ n2_ n3_ n4_ n5_ n6_ n7_ n8_ n9_ n10_ n11_ n12_ n13_
      (try clear hb)
      (try clear hb2)
      (try clear hk)
      (try clear hi)
      refine hK.out _ _ ⟨(bc BK684.out 0).trans rfl, (bc BK684.out 1).trans rfl, (bc BK684.out 2).trans rfl, (bc BK684.out 3).trans rfl, (bc BK709.out 0).trans rfl, (bc BK709.out 1).trans rfl, (bc BK709.out 2).trans rfl, (bc BK709.out 3).trans rfl⟩ (fun hHeld => ?_)
      clear hK K
      refine norm_ (a' := ?_) ?_ ?_
      rotate_left
      ·show Act.put _ (some 49) _ = _
       simp only [Act.put, psl, i64_w, i32_w]
       rfl
      refine pu (i := 1) (N := some 50) (fl 13 2 []) HT_ ?_
      refine pu (i := 2) (N := some 51) (fl 13 3 []) HT_ ?_
      refine pu (i := 3) (N := some 52) (fl 13 4 []) HT_ ?_
      refine pu (i := 4) (N := some 53) (fl 13 5 []) HT_ ?_
      refine pu (i := 5) (N := some 54) (fl 13 6 []) HT_ ?_
      refine pu (i := 6) (N := some 55) (fl 13 7 []) HT_ ?_
      refine tk (i := 7) (N := some 56) (fl 13 8 []) HT_ HW_ hHeld ?_
      refine tk (i := 9) (N := some 58) (fl 13 8 [9]) HT_ HW_ hHeld ?_
      refine one_ (i := 8) (N := some 57) (fl 13 10 []) rfl rfl (one_of HT_.out (by kernel_rfl)) (by decide) (fun K hK => ?_)
      refine goes_ Try.func27 (by kernel_rfl) rfl #[.agg #[.slice Ao30 t673.length co30, .int .i64 t676, .slice Ao33 t677.length co33, .slice Ao34 t680.length co34]] (by rfl) rfl rfl (by (try simp only [pml]); first | done | rfl | (simp only [pdt]; rfl)) ?_
      with_reducible refine (w_theirs.calls (fun k_ => ((((((some k_ ≠ (.slice Ao33 t677.length co33 : Value).ownBlock ∧ some k_ ≠ (.slice Ao44 t702.length co44 : Value).ownBlock) ∧ some k_ ≠ (.slice Ao27 t670.length co27 : Value).ownBlock) ∧ some k_ ≠ (.slice Ao34 t680.length co34 : Value).ownBlock) ∧ k_ ≠ gb657) ∧ k_ ≠ gb684) ∧ k_ ≠ gb709)) _ _ t673 t676 (fun k_ => some k_ = (.slice Ao33 t677.length co33 : Value).ownBlock) _ _ t677 (fun k_ => some k_ = (.slice Ao34 t680.length co34 : Value).ownBlock) _ _ t680 t711 t714 t715 t718 _ ?side1 ?side2 ?side3 A49.out).mono ?_
      (case side1 => exact Kd.S_V (Kd.S_types (Kd.S_types (Kd.S_types (Kd.S_apart' (Kd.S_apart' (HO675.out) (Kd.R_typed HO672.out) (by decide)) (Kd.R_typed HO682.out) (by decide)) BK657.out (by decide)) BK684.out (by decide)) BK709.out (by decide)))
      (case side2 => exact Kd.R_V (Kd.R_tight rfl (Kd.R_types (Kd.R_types (Kd.R_types (Kd.R_apart' (Kd.R_apart' (Kd.R_apart' (HO679.out) (Kd.R_typed HO672.out) (by decide)) (Kd.S_typed HO675.out) (by decide)) (Kd.R_typed HO682.out) (by decide)) BK657.out (by decide)) BK684.out (by decide)) BK709.out (by decide))))
      (case side3 => exact Kd.R_V (Kd.R_tight rfl (Kd.R_types (Kd.R_types (Kd.R_types (Kd.R_apart' (Kd.R_apart' (Kd.R_apart' (Kd.R_apart' (HO682.out) (Kd.R_typed HO672.out) (by decide)) (Kd.S_typed HO675.out) (by decide)) (Kd.R_typed HO679.out) (by decide)) (Kd.R_typed HO704.out) (by decide)) BK657.out (by decide)) BK684.out (by decide)) BK709.out (by decide))))
      rintro e w54 ⟨v712, v716, v719, rfl, ho0, ho1, ho2, hb⟩
      refine ⟨_, rfl, ?_⟩
      have n0_ := dV HO662 hb
      have n1_ := dV HO666 hb
      have n2_ := dV HO669 hb
      have n3_ := dR HO672 hb
      have n4_ := am (Kd.S_below (by (with_reducible repeat (first | apply Kd.S_alloc | apply Kd.S_drewN | apply Kd.S_drew)); exact HO675.out) hb)
      have n5_ := dR HO679 hb
      have n6_ := dR HO682 hb
      have n7_ := dV HO700 hb
      have n8_ := dR HO704 hb
      have n9_ := dV HO707 hb
      have n10_ := am (Kd.V_lower (Kd.V_mono (ok' := fun k_ => some k_ ≠ (.slice Ao27 t670.length co27 : Value).ownBlock ∧ some k_ ≠ (.slice Ao44 t702.length co44 : Value).ownBlock ∧ k_ ≠ gb657 ∧ k_ ≠ gb684 ∧ k_ ≠ gb709) ho0 (fun k_ hk_ => ⟨Or.elim hk_ (fun hs_ => Or.elim hs_ (fun hs_ => hs_.1.1.1.1.2) (fun hs_ => Or.elim hs_ (fun hs_ => ((Kd.R_types (Kd.R_types (Kd.R_types (Kd.R_apart' (Kd.R_apart' (Kd.R_apart' (HO679.out) (Kd.R_typed HO672.out) (by decide)) (Kd.S_typed HO675.out) (by decide)) (Kd.R_typed HO682.out) (by decide)) BK657.out (by decide)) BK684.out (by decide)) BK709.out (by decide)).1 k_ hs_.symm).1.1.1.1.1.2) (fun hs_ => ((Kd.R_types (Kd.R_types (Kd.R_types (Kd.R_apart' (Kd.R_apart' (Kd.R_apart' (Kd.R_apart' (HO682.out) (Kd.R_typed HO672.out) (by decide)) (Kd.S_typed HO675.out) (by decide)) (Kd.R_typed HO679.out) (by decide)) (Kd.R_typed HO704.out) (by decide)) BK657.out (by decide)) BK684.out (by decide)) BK709.out (by decide)).1 k_ hs_.symm).1.1.1.1.1.1.2))) (fun hn_ => (Kd.fresh' (Kd.R_lt (fR HO672.out)) k_ hn_)), Or.elim hk_ (fun hs_ => Or.elim hs_ (fun hs_ => hs_.1.1.1.1.1.2) (fun hs_ => Or.elim hs_ (fun hs_ => ((Kd.R_types (Kd.R_types (Kd.R_types (Kd.R_apart' (Kd.R_apart' (Kd.R_apart' (HO679.out) (Kd.R_typed HO672.out) (by decide)) (Kd.S_typed HO675.out) (by decide)) (Kd.R_typed HO682.out) (by decide)) BK657.out (by decide)) BK684.out (by decide)) BK709.out (by decide)).1 k_ hs_.symm).1.1.1.1.1.1) (fun hs_ => ((Kd.R_types (Kd.R_types (Kd.R_types (Kd.R_apart' (Kd.R_apart' (Kd.R_apart' (Kd.R_apart' (HO682.out) (Kd.R_typed HO672.out) (by decide)) (Kd.S_typed HO675.out) (by decide)) (Kd.R_typed HO679.out) (by decide)) (Kd.R_typed HO704.out) (by decide)) BK657.out (by decide)) BK684.out (by decide)) BK709.out (by decide)).1 k_ hs_.symm).1.1.1.2))) (fun hn_ => (Kd.fresh' (Kd.R_lt (fR HO704.out)) k_ hn_)), Or.elim hk_ (fun hs_ => Or.elim hs_ (fun hs_ => hs_.1.1.2) (fun hs_ => Or.elim hs_ (fun hs_ => ((Kd.R_types (Kd.R_types (Kd.R_types (Kd.R_apart' (Kd.R_apart' (Kd.R_apart' (HO679.out) (Kd.R_typed HO672.out) (by decide)) (Kd.S_typed HO675.out) (by decide)) (Kd.R_typed HO682.out) (by decide)) BK657.out (by decide)) BK684.out (by decide)) BK709.out (by decide)).1 k_ hs_.symm).1.1.2) (fun hs_ => ((Kd.R_types (Kd.R_types (Kd.R_types (Kd.R_apart' (Kd.R_apart' (Kd.R_apart' (Kd.R_apart' (HO682.out) (Kd.R_typed HO672.out) (by decide)) (Kd.S_typed HO675.out) (by decide)) (Kd.R_typed HO679.out) (by decide)) (Kd.R_typed HO704.out) (by decide)) BK657.out (by decide)) BK684.out (by decide)) BK709.out (by decide)).1 k_ hs_.symm).1.1.2))) (fun hn_ => (Kd.freshB (g := gb657) (o := .cells #[.slice A0_0 l0_0.length c0_0, .int .i64 a0_1, .slice A0_2 l0_2.length c0_2, .slice A0_3 l0_3.length c0_3] 26 (0, 0)) (fb BK657.out) k_ hn_)), Or.elim hk_ (fun hs_ => Or.elim hs_ (fun hs_ => hs_.1.2) (fun hs_ => Or.elim hs_ (fun hs_ => ((Kd.R_types (Kd.R_types (Kd.R_types (Kd.R_apart' (Kd.R_apart' (Kd.R_apart' (HO679.out) (Kd.R_typed HO672.out) (by decide)) (Kd.S_typed HO675.out) (by decide)) (Kd.R_typed HO682.out) (by decide)) BK657.out (by decide)) BK684.out (by decide)) BK709.out (by decide)).1 k_ hs_.symm).1.2) (fun hs_ => ((Kd.R_types (Kd.R_types (Kd.R_types (Kd.R_apart' (Kd.R_apart' (Kd.R_apart' (Kd.R_apart' (HO682.out) (Kd.R_typed HO672.out) (by decide)) (Kd.S_typed HO675.out) (by decide)) (Kd.R_typed HO679.out) (by decide)) (Kd.R_typed HO704.out) (by decide)) BK657.out (by decide)) BK684.out (by decide)) BK709.out (by decide)).1 k_ hs_.symm).1.2))) (fun hn_ => (Kd.freshB (g := gb684) (o := .cells #[.slice Ao30 t673.length co30, .int .i64 t676, .slice Ao33 t677.length co33, .slice Ao34 t680.length co34] 33 (0, 0)) (fb BK684.out) k_ hn_)), Or.elim hk_ (fun hs_ => Or.elim hs_ (fun hs_ => hs_.2) (fun hs_ => Or.elim hs_ (fun hs_ => ((Kd.R_types (Kd.R_types (Kd.R_types (Kd.R_apart' (Kd.R_apart' (Kd.R_apart' (HO679.out) (Kd.R_typed HO672.out) (by decide)) (Kd.S_typed HO675.out) (by decide)) (Kd.R_typed HO682.out) (by decide)) BK657.out (by decide)) BK684.out (by decide)) BK709.out (by decide)).1 k_ hs_.symm).2) (fun hs_ => ((Kd.R_types (Kd.R_types (Kd.R_types (Kd.R_apart' (Kd.R_apart' (Kd.R_apart' (Kd.R_apart' (HO682.out) (Kd.R_typed HO672.out) (by decide)) (Kd.S_typed HO675.out) (by decide)) (Kd.R_typed HO679.out) (by decide)) (Kd.R_typed HO704.out) (by decide)) BK657.out (by decide)) BK684.out (by decide)) BK709.out (by decide)).1 k_ hs_.symm).2))) (fun hn_ => (Kd.freshB (g := gb709) (o := .cells #[.slice Ao40 t698.length co40, .int .i64 t701, .slice Ao44 t702.length co44, .slice Ao45 t705.length co45] 26 (0, 0)) (fb BK709.out) k_ hn_))⟩)) (wz (fW HB.out)))
      have n11_ := am (Kd.V_lower (Kd.V_mono (ok' := fun k_ => some k_ ≠ (.slice Ao27 t670.length co27 : Value).ownBlock ∧ some k_ ≠ (.slice Ao44 t702.length co44 : Value).ownBlock ∧ k_ ≠ gb657 ∧ k_ ≠ gb684 ∧ k_ ≠ gb709) ho1 (fun k_ hk_ => ⟨Or.elim hk_ (fun hs_ => Or.elim hs_ (fun hs_ => hs_.1.1.1.1.2) (fun hs_ => Or.elim hs_ (fun hs_ => ((Kd.R_types (Kd.R_types (Kd.R_types (Kd.R_apart' (Kd.R_apart' (Kd.R_apart' (HO679.out) (Kd.R_typed HO672.out) (by decide)) (Kd.S_typed HO675.out) (by decide)) (Kd.R_typed HO682.out) (by decide)) BK657.out (by decide)) BK684.out (by decide)) BK709.out (by decide)).1 k_ hs_.symm).1.1.1.1.1.2) (fun hs_ => ((Kd.R_types (Kd.R_types (Kd.R_types (Kd.R_apart' (Kd.R_apart' (Kd.R_apart' (Kd.R_apart' (HO682.out) (Kd.R_typed HO672.out) (by decide)) (Kd.S_typed HO675.out) (by decide)) (Kd.R_typed HO679.out) (by decide)) (Kd.R_typed HO704.out) (by decide)) BK657.out (by decide)) BK684.out (by decide)) BK709.out (by decide)).1 k_ hs_.symm).1.1.1.1.1.1.2))) (fun hn_ => (Kd.fresh' (Kd.R_lt (fR HO672.out)) k_ hn_)), Or.elim hk_ (fun hs_ => Or.elim hs_ (fun hs_ => hs_.1.1.1.1.1.2) (fun hs_ => Or.elim hs_ (fun hs_ => ((Kd.R_types (Kd.R_types (Kd.R_types (Kd.R_apart' (Kd.R_apart' (Kd.R_apart' (HO679.out) (Kd.R_typed HO672.out) (by decide)) (Kd.S_typed HO675.out) (by decide)) (Kd.R_typed HO682.out) (by decide)) BK657.out (by decide)) BK684.out (by decide)) BK709.out (by decide)).1 k_ hs_.symm).1.1.1.1.1.1) (fun hs_ => ((Kd.R_types (Kd.R_types (Kd.R_types (Kd.R_apart' (Kd.R_apart' (Kd.R_apart' (Kd.R_apart' (HO682.out) (Kd.R_typed HO672.out) (by decide)) (Kd.S_typed HO675.out) (by decide)) (Kd.R_typed HO679.out) (by decide)) (Kd.R_typed HO704.out) (by decide)) BK657.out (by decide)) BK684.out (by decide)) BK709.out (by decide)).1 k_ hs_.symm).1.1.1.2))) (fun hn_ => (Kd.fresh' (Kd.R_lt (fR HO704.out)) k_ hn_)), Or.elim hk_ (fun hs_ => Or.elim hs_ (fun hs_ => hs_.1.1.2) (fun hs_ => Or.elim hs_ (fun hs_ => ((Kd.R_types (Kd.R_types (Kd.R_types (Kd.R_apart' (Kd.R_apart' (Kd.R_apart' (HO679.out) (Kd.R_typed HO672.out) (by decide)) (Kd.S_typed HO675.out) (by decide)) (Kd.R_typed HO682.out) (by decide)) BK657.out (by decide)) BK684.out (by decide)) BK709.out (by decide)).1 k_ hs_.symm).1.1.2) (fun hs_ => ((Kd.R_types (Kd.R_types (Kd.R_types (Kd.R_apart' (Kd.R_apart' (Kd.R_apart' (Kd.R_apart' (HO682.out) (Kd.R_typed HO672.out) (by decide)) (Kd.S_typed HO675.out) (by decide)) (Kd.R_typed HO679.out) (by decide)) (Kd.R_typed HO704.out) (by decide)) BK657.out (by decide)) BK684.out (by decide)) BK709.out (by decide)).1 k_ hs_.symm).1.1.2))) (fun hn_ => (Kd.freshB (g := gb657) (o := .cells #[.slice A0_0 l0_0.length c0_0, .int .i64 a0_1, .slice A0_2 l0_2.length c0_2, .slice A0_3 l0_3.length c0_3] 26 (0, 0)) (fb BK657.out) k_ hn_)), Or.elim hk_ (fun hs_ => Or.elim hs_ (fun hs_ => hs_.1.2) (fun hs_ => Or.elim hs_ (fun hs_ => ((Kd.R_types (Kd.R_types (Kd.R_types (Kd.R_apart' (Kd.R_apart' (Kd.R_apart' (HO679.out) (Kd.R_typed HO672.out) (by decide)) (Kd.S_typed HO675.out) (by decide)) (Kd.R_typed HO682.out) (by decide)) BK657.out (by decide)) BK684.out (by decide)) BK709.out (by decide)).1 k_ hs_.symm).1.2) (fun hs_ => ((Kd.R_types (Kd.R_types (Kd.R_types (Kd.R_apart' (Kd.R_apart' (Kd.R_apart' (Kd.R_apart' (HO682.out) (Kd.R_typed HO672.out) (by decide)) (Kd.S_typed HO675.out) (by decide)) (Kd.R_typed HO679.out) (by decide)) (Kd.R_typed HO704.out) (by decide)) BK657.out (by decide)) BK684.out (by decide)) BK709.out (by decide)).1 k_ hs_.symm).1.2))) (fun hn_ => (Kd.freshB (g := gb684) (o := .cells #[.slice Ao30 t673.length co30, .int .i64 t676, .slice Ao33 t677.length co33, .slice Ao34 t680.length co34] 33 (0, 0)) (fb BK684.out) k_ hn_)), Or.elim hk_ (fun hs_ => Or.elim hs_ (fun hs_ => hs_.2) (fun hs_ => Or.elim hs_ (fun hs_ => ((Kd.R_types (Kd.R_types (Kd.R_types (Kd.R_apart' (Kd.R_apart' (Kd.R_apart' (HO679.out) (Kd.R_typed HO672.out) (by decide)) (Kd.S_typed HO675.out) (by decide)) (Kd.R_typed HO682.out) (by decide)) BK657.out (by decide)) BK684.out (by decide)) BK709.out (by decide)).1 k_ hs_.symm).2) (fun hs_ => ((Kd.R_types (Kd.R_types (Kd.R_types (Kd.R_apart' (Kd.R_apart' (Kd.R_apart' (Kd.R_apart' (HO682.out) (Kd.R_typed HO672.out) (by decide)) (Kd.S_typed HO675.out) (by decide)) (Kd.R_typed HO679.out) (by decide)) (Kd.R_typed HO704.out) (by decide)) BK657.out (by decide)) BK684.out (by decide)) BK709.out (by decide)).1 k_ hs_.symm).2))) (fun hn_ => (Kd.freshB (g := gb709) (o := .cells #[.slice Ao40 t698.length co40, .int .i64 t701, .slice Ao44 t702.length co44, .slice Ao45 t705.length co45] 26 (0, 0)) (fb BK709.out) k_ hn_))⟩)) (wz (fW HB.out)))
      have n12_ := am (Kd.V_lower (Kd.V_mono (ok' := fun k_ => some k_ ≠ (.slice Ao27 t670.length co27 : Value).ownBlock ∧ some k_ ≠ (.slice Ao44 t702.length co44 : Value).ownBlock ∧ k_ ≠ gb657 ∧ k_ ≠ gb684 ∧ k_ ≠ gb709) ho2 (fun k_ hk_ => ⟨Or.elim hk_ (fun hs_ => Or.elim hs_ (fun hs_ => hs_.1.1.1.1.2) (fun hs_ => Or.elim hs_ (fun hs_ => ((Kd.R_types (Kd.R_types (Kd.R_types (Kd.R_apart' (Kd.R_apart' (Kd.R_apart' (HO679.out) (Kd.R_typed HO672.out) (by decide)) (Kd.S_typed HO675.out) (by decide)) (Kd.R_typed HO682.out) (by decide)) BK657.out (by decide)) BK684.out (by decide)) BK709.out (by decide)).1 k_ hs_.symm).1.1.1.1.1.2) (fun hs_ => ((Kd.R_types (Kd.R_types (Kd.R_types (Kd.R_apart' (Kd.R_apart' (Kd.R_apart' (Kd.R_apart' (HO682.out) (Kd.R_typed HO672.out) (by decide)) (Kd.S_typed HO675.out) (by decide)) (Kd.R_typed HO679.out) (by decide)) (Kd.R_typed HO704.out) (by decide)) BK657.out (by decide)) BK684.out (by decide)) BK709.out (by decide)).1 k_ hs_.symm).1.1.1.1.1.1.2))) (fun hn_ => (Kd.fresh' (Kd.R_lt (fR HO672.out)) k_ hn_)), Or.elim hk_ (fun hs_ => Or.elim hs_ (fun hs_ => hs_.1.1.1.1.1.2) (fun hs_ => Or.elim hs_ (fun hs_ => ((Kd.R_types (Kd.R_types (Kd.R_types (Kd.R_apart' (Kd.R_apart' (Kd.R_apart' (HO679.out) (Kd.R_typed HO672.out) (by decide)) (Kd.S_typed HO675.out) (by decide)) (Kd.R_typed HO682.out) (by decide)) BK657.out (by decide)) BK684.out (by decide)) BK709.out (by decide)).1 k_ hs_.symm).1.1.1.1.1.1) (fun hs_ => ((Kd.R_types (Kd.R_types (Kd.R_types (Kd.R_apart' (Kd.R_apart' (Kd.R_apart' (Kd.R_apart' (HO682.out) (Kd.R_typed HO672.out) (by decide)) (Kd.S_typed HO675.out) (by decide)) (Kd.R_typed HO679.out) (by decide)) (Kd.R_typed HO704.out) (by decide)) BK657.out (by decide)) BK684.out (by decide)) BK709.out (by decide)).1 k_ hs_.symm).1.1.1.2))) (fun hn_ => (Kd.fresh' (Kd.R_lt (fR HO704.out)) k_ hn_)), Or.elim hk_ (fun hs_ => Or.elim hs_ (fun hs_ => hs_.1.1.2) (fun hs_ => Or.elim hs_ (fun hs_ => ((Kd.R_types (Kd.R_types (Kd.R_types (Kd.R_apart' (Kd.R_apart' (Kd.R_apart' (HO679.out) (Kd.R_typed HO672.out) (by decide)) (Kd.S_typed HO675.out) (by decide)) (Kd.R_typed HO682.out) (by decide)) BK657.out (by decide)) BK684.out (by decide)) BK709.out (by decide)).1 k_ hs_.symm).1.1.2) (fun hs_ => ((Kd.R_types (Kd.R_types (Kd.R_types (Kd.R_apart' (Kd.R_apart' (Kd.R_apart' (Kd.R_apart' (HO682.out) (Kd.R_typed HO672.out) (by decide)) (Kd.S_typed HO675.out) (by decide)) (Kd.R_typed HO679.out) (by decide)) (Kd.R_typed HO704.out) (by decide)) BK657.out (by decide)) BK684.out (by decide)) BK709.out (by decide)).1 k_ hs_.symm).1.1.2))) (fun hn_ => (Kd.freshB (g := gb657) (o := .cells #[.slice A0_0 l0_0.length c0_0, .int .i64 a0_1, .slice A0_2 l0_2.length c0_2, .slice A0_3 l0_3.length c0_3] 26 (0, 0)) (fb BK657.out) k_ hn_)), Or.elim hk_ (fun hs_ => Or.elim hs_ (fun hs_ => hs_.1.2) (fun hs_ => Or.elim hs_ (fun hs_ => ((Kd.R_types (Kd.R_types (Kd.R_types (Kd.R_apart' (Kd.R_apart' (Kd.R_apart' (HO679.out) (Kd.R_typed HO672.out) (by decide)) (Kd.S_typed HO675.out) (by decide)) (Kd.R_typed HO682.out) (by decide)) BK657.out (by decide)) BK684.out (by decide)) BK709.out (by decide)).1 k_ hs_.symm).1.2) (fun hs_ => ((Kd.R_types (Kd.R_types (Kd.R_types (Kd.R_apart' (Kd.R_apart' (Kd.R_apart' (Kd.R_apart' (HO682.out) (Kd.R_typed HO672.out) (by decide)) (Kd.S_typed HO675.out) (by decide)) (Kd.R_typed HO679.out) (by decide)) (Kd.R_typed HO704.out) (by decide)) BK657.out (by decide)) BK684.out (by decide)) BK709.out (by decide)).1 k_ hs_.symm).1.2))) (fun hn_ => (Kd.freshB (g := gb684) (o := .cells #[.slice Ao30 t673.length co30, .int .i64 t676, .slice Ao33 t677.length co33, .slice Ao34 t680.length co34] 33 (0, 0)) (fb BK684.out) k_ hn_)), Or.elim hk_ (fun hs_ => Or.elim hs_ (fun hs_ => hs_.2) (fun hs_ => Or.elim hs_ (fun hs_ => ((Kd.R_types (Kd.R_types (Kd.R_types (Kd.R_apart' (Kd.R_apart' (Kd.R_apart' (HO679.out) (Kd.R_typed HO672.out) (by decide)) (Kd.S_typed HO675.out) (by decide)) (Kd.R_typed HO682.out) (by decide)) BK657.out (by decide)) BK684.out (by decide)) BK709.out (by decide)).1 k_ hs_.symm).2) (fun hs_ => ((Kd.R_types (Kd.R_types (Kd.R_types (Kd.R_apart' (Kd.R_apart' (Kd.R_apart' (Kd.R_apart' (HO682.out) (Kd.R_typed HO672.out) (by decide)) (Kd.S_typed HO675.out) (by decide)) (Kd.R_typed HO679.out) (by decide)) (Kd.R_typed HO704.out) (by decide)) BK657.out (by decide)) BK684.out (by decide)) BK709.out (by decide)).1 k_ hs_.symm).2))) (fun hn_ => (Kd.freshB (g := gb709) (o := .cells #[.slice Ao40 t698.length co40, .int .i64 t701, .slice Ao44 t702.length co44, .slice Ao45 t705.length co45] 26 (0, 0)) (fb BK709.out) k_ hn_))⟩)) (wz (fW HB.out)))
      have n13_ := bB BK657 hb
      have n14_ := bB BK684 hb
      have n15_ := bB BK709 hb
      have n16_ := bS HB hb
      clear HO662 HO666 HO669 HO672 HO675 HO679 HO682 HO700 HO704 HO707 BK657 BK684 BK709 HB
      have HO662 := n0_
      have HO666 := n1_
      have HO669 := n2_
      have HO672 := n3_
      have HO675 := n4_
      have HO679 := n5_
      have HO682 := n6_
      have HO700 := n7_
      have HO704 := n8_
      have HO707 := n9_
      have HO713 := n10_
      have HO717 := n11_
      have HO720 := n12_
      have BK657 := n13_
      have BK684 := n14_
      have BK709 := n15_
      have HB := n16_
      clear n0_ n1_ n2_ n3_ n4_ n5_ n6_ n7_ n8_ n9_ n10_ n11_ n12_ n13_ n14_ n15_ n16_
      (try clear hb)
      (try clear hb2)
      (try clear hk)
      (try clear hi)
      (try clear ho0)
      (try clear ho1)
      (try clear ho2)
      obtain ⟨Ao55, co55, eo55⟩ := Kd.V_slice HO713.out
      (first | subst eo55 | (injection eo55 with f1_ f2_ f3_; have f4_ := f1_.symm; have f5_ := f3_.symm; clear f1_ f2_ f3_; subst f4_; subst f5_))
      obtain ⟨Ao56, co56, eo56⟩ := Kd.V_slice HO717.out
      (first | subst eo56 | (injection eo56 with f1_ f2_ f3_; have f4_ := f1_.symm; have f5_ := f3_.symm; clear f1_ f2_ f3_; subst f4_; subst f5_))
      obtain ⟨Ao57, co57, eo57⟩ := Kd.V_slice HO720.out
      (first | subst eo57 | (injection eo57 with f1_ f2_ f3_; have f4_ := f1_.symm; have f5_ := f3_.symm; clear f1_ f2_ f3_; subst f4_; subst f5_))
      refine hK.out _ _ ⟨(bc BK684.out 0).trans rfl, (bc BK684.out 1).trans rfl, (bc BK684.out 2).trans rfl, (bc BK684.out 3).trans rfl, (bc BK709.out 0).trans rfl, (bc BK709.out 1).trans rfl, (bc BK709.out 2).trans rfl, (bc BK709.out 3).trans rfl⟩ (fun hHeld => ?_)
      clear hK K
      refine norm_ (a' := ?_) ?_ ?_
      rotate_left
      ·show Act.put _ (some 57) _ = _
       simp only [Act.put, psl, i64_w, i32_w]
       rfl
      refine one_ (i := 10) (N := some 59) (fl 13 11 []) rfl rfl (one_of HT_.out (by kernel_rfl)) (by decide) (fun K hK => ?_)
      refine goes_ Try.func26 (by kernel_rfl) rfl #[.agg #[.slice Ao55 t711.length co55, .int .i64 t714, .slice Ao56 t715.length co56, .slice Ao57 t718.length co57], .agg #[.slice Ao40 t698.length co40, .int .i64 t701, .slice Ao44 t702.length co44, .slice Ao45 t705.length co45]] (by rfl) rfl rfl (by (try simp only [pml]); first | done | rfl | (simp only [pdt]; rfl)) ?_
      with_reducible refine (r_Same.calls kj2 _ _ t711 t714 _ _ t715 _ _ t718 _ _ t698 t701 _ _ t702 _ _ t705 t721 _ ?side1 ?side2 ?side3 ?side4 ?side5 ?side6 ?side7 ?side8 ?side9 ?side10 ?side11 ?side12 A50.out).mono ?_
      (case side1 => repeat (first | exact (Kd.V_reads' HO713.out).2.2 | (with_reducible refine Kd.C_alloc ?_ _) | (with_reducible refine Kd.C_drewN ?_ _) | (with_reducible refine Kd.C_drew ?_)))
      (case side2 => exact (Kd.V_reads' HO713.out).2.1)
      (case side3 => repeat (first | exact (Kd.V_reads' HO717.out).2.2 | (with_reducible refine Kd.C_alloc ?_ _) | (with_reducible refine Kd.C_drewN ?_ _) | (with_reducible refine Kd.C_drew ?_)))
      (case side4 => exact (Kd.V_reads' HO717.out).2.1)
      (case side5 => repeat (first | exact (Kd.V_reads' HO720.out).2.2 | (with_reducible refine Kd.C_alloc ?_ _) | (with_reducible refine Kd.C_drewN ?_ _) | (with_reducible refine Kd.C_drew ?_)))
      (case side6 => exact (Kd.V_reads' HO720.out).2.1)
      (case side7 => repeat (first | exact (Kd.V_reads' HO700.out).2.2 | (with_reducible refine Kd.C_alloc ?_ _) | (with_reducible refine Kd.C_drewN ?_ _) | (with_reducible refine Kd.C_drew ?_)))
      (case side8 => exact (Kd.V_reads' HO700.out).2.1)
      (case side9 => repeat (first | exact (Kd.R_reads' HO704.out).2.2 | (with_reducible refine Kd.C_alloc ?_ _) | (with_reducible refine Kd.C_drewN ?_ _) | (with_reducible refine Kd.C_drew ?_)))
      (case side10 => exact (Kd.R_reads' HO704.out).2.1)
      (case side11 => repeat (first | exact (Kd.V_reads' HO707.out).2.2 | (with_reducible refine Kd.C_alloc ?_ _) | (with_reducible refine Kd.C_drewN ?_ _) | (with_reducible refine Kd.C_drew ?_)))
      (case side12 => exact (Kd.V_reads' HO707.out).2.1)
      rintro e w58 ⟨rfl, hb⟩
      refine ⟨_, rfl, ?_⟩
      have n0_ := dV HO662 hb
      have n1_ := dV HO666 hb
      have n2_ := dV HO669 hb
      have n3_ := dR HO672 hb
      have n4_ := am (Kd.S_below (by (with_reducible repeat (first | apply Kd.S_alloc | apply Kd.S_drewN | apply Kd.S_drew)); exact HO675.out) hb)
      have n5_ := dR HO679 hb
      have n6_ := dR HO682 hb
      have n7_ := dV HO700 hb
      have n8_ := dR HO704 hb
      have n9_ := dV HO707 hb
      have n10_ := dV HO713 hb
      have n11_ := dV HO717 hb
      have n12_ := dV HO720 hb
      have n13_ := bB BK657 hb
      have n14_ := bB BK684 hb
      have n15_ := bB BK709 hb
      have n16_ := bS HB hb
      clear HO662 HO666 HO669 HO672 HO675 HO679 HO682 HO700 HO704 HO707 HO713 HO717 HO720 BK657 BK684 BK709 HB
      have HO662 := n0_
      have HO666 := n1_
      have HO669 := n2_
      have HO672 := n3_
      have HO675 := n4_
      have HO679 := n5_
      have HO682 := n6_
      have HO700 := n7_
      have HO704 := n8_
      have HO707 := n9_
      have HO713 := n10_
      have HO717 := n11_
      have HO720 := n12_
      have BK657 := n13_
      have BK684 := n14_
      have BK709 := n15_
      have HB := n16_
      clear n0_ n1_ n2_ n3_ n4_ n5_ n6_ n7_ n8_ n9_ n10_ n11_ n12_ n13_ n14_ n15_ n16_
      (try clear hb)
      (try clear hb2)
      (try clear hk)
      (try clear hi)
      refine hK.out _ _ ⟨(bc BK684.out 0).trans rfl, (bc BK684.out 1).trans rfl, (bc BK684.out 2).trans rfl, (bc BK684.out 3).trans rfl, (bc BK709.out 0).trans rfl, (bc BK709.out 1).trans rfl, (bc BK709.out 2).trans rfl, (bc BK709.out 3).trans rfl⟩ (fun hHeld => ?_)
      clear hK K
      refine norm_ (a' := ?_) ?_ ?_
      rotate_left
      ·show Act.put _ (some 59) _ = _
       simp only [Act.put, psl, i64_w, i32_w]
       rfl
      refine pu (i := 11) (N := some 60) (fl 13 12 []) HT_ ?_
      refine pu (i := 12) (N := some 4) (fl 13 13 []) HT_ ?_
      refine done_ (done_of HT_.out (by kernel_rfl)) ?_
      try go_wp2
      go_meet
      case rel => exact ⟨_, (t721), sqD, H', ⟨by have := HJ2.out; first | omega | exact Nat.le_refl _⟩, ⟨by (with_reducible repeat (first | apply Kd.S_alloc | apply Kd.S_drewN | apply Kd.S_drew)); exact HO675.out⟩, ⟨fR HO679.out⟩, ⟨fR HO682.out⟩, ⟨by (with_reducible repeat (first | apply Kd.V_alloc | apply Kd.V_drewN | apply Kd.V_drew)); exact Kd.V_mono HO700.out (fun _ hk => ⟨hk.2.1, ⟨hk.2.2.1, ⟨hk.2.2.2.1, ⟨hk.2.2.2.2.1, ⟨hk.2.2.2.2.2.1, ⟨hk.2.2.2.2.2.2.1, hk.2.2.2.2.2.2.2⟩⟩⟩⟩⟩⟩)⟩, ⟨fR HO704.out⟩, ⟨by (with_reducible repeat (first | apply Kd.V_alloc | apply Kd.V_drewN | apply Kd.V_drew)); exact Kd.V_mono HO707.out (fun _ hk => ⟨hk.2.1, ⟨hk.2.2.1, ⟨hk.2.2.2.1, ⟨hk.2.2.2.2.1, ⟨hk.2.2.2.2.2.1, ⟨hk.2.2.2.2.2.2.1, hk.2.2.2.2.2.2.2⟩⟩⟩⟩⟩⟩)⟩, ⟨fb BK657.out⟩, ⟨fb BK684.out⟩, ⟨fb BK709.out⟩, ⟨fW HB.out⟩⟩
     case rest =>
      clear HC20
      try clear c1;try clear c2;try clear p2;try clear c4;try clear c11;try clear c26;try clear c47;try clear c48;try clear c48b0;try clear c48b1
      obtain ⟨kq, x4_19, rfl, HA, HJ19, HO_685000, HO_685002, HO_685003, HO_710000, HO_710002, HO_710003, BK657, BK684, BK709, HB⟩ := hcut
      cases kq with
      | zero => exact absurd HA.out (by simp [w_ReplaceApplies.j2])
      | succ kj19 =>
       have H := HA.out
       clear HA
       simp only [w_ReplaceApplies.j2] at H
       obtain rfl := Option.some.inj H
       go_wp2
       go_ret
       exact ⟨sqE, fW HB.out⟩
    ·rw [if_neg c18] at H
     have c18b0 : (t685 == 0) = false := beq_eq_false_iff_ne.mpr c18
     have c18b1 : (t685 != 0) = true := bne_iff_ne.mpr c18
     have HC65 := am H
     clear H
     have := yC1 BK657
     have := kC1 BK657
     have := kC2 BK657
     have := kC3 BK657
     have := bf BK657.out 0
     have := bf BK657.out 1
     have := bf BK657.out 2
     have := bf BK657.out 3
     go_upto_region 6 with (first | ((with_reducible refine gc (f := 13) rfl ?_); refine goesL_ (some 21) rfl rfl Try.func13 (by kernel_rfl) rfl #[.agg #[.slice A0_0 l0_0.length c0_0, .int .i64 a0_1, .slice A0_2 l0_2.length c0_2, .slice A0_3 l0_3.length c0_3]] rfl (by (try simp only [pml]); first | done | rfl | (simp only [pdt]; rfl)) ?_; (with_reducible refine (w_ours.calls (fun k_ => k_ < w.heap.size) _ _ l0_0 a0_1 (fun k_ => k_ < w.heap.size) _ _ l0_2 (fun k_ => k_ < w.heap.size) _ _ l0_3 t660 t663 t664 t667 _ ?side1 ?side2 ?side3 A14.out).mono ?_); (case side1 => exact Kd.V_mk HC0_0.out (Kd.F_below (Kd.C_F (Kd.heap_slice 3 (Kd.heap_int .i64)) HR0_0.out) (fW HB.out))); (case side2 => exact Kd.V_mk HC0_2.out (Kd.F_below (Kd.C_F (Kd.heap_int .i64) HR0_2.out) (fW HB.out))); (case side3 => exact Kd.V_mk HC0_3.out (Kd.F_below (Kd.C_F Kd.heap_bool HR0_3.out) (fW HB.out))); rintro e w67 ⟨v661, v665, v668, rfl, ho0, ho1, ho2, hb⟩; refine ⟨_, rfl, ?_⟩; have HO662 := am (Kd.V_lower (Kd.V_mono (ok' := fun k_ => k_ ≠ gb657) ho0 (fun k_ hk_ => Or.elim hk_ (fun hs_ => Or.elim hs_ (fun hs_ => fun e_ => Nat.not_le.2 hs_ (by rw [e_]; exact GW657.out)) (fun hs_ => Or.elim hs_ (fun hs_ => fun e_ => Nat.not_le.2 hs_ (by rw [e_]; exact GW657.out)) (fun hs_ => fun e_ => Nat.not_le.2 hs_ (by rw [e_]; exact GW657.out)))) (fun hn_ => (Kd.freshB (g := gb657) (o := .cells #[.slice A0_0 l0_0.length c0_0, .int .i64 a0_1, .slice A0_2 l0_2.length c0_2, .slice A0_3 l0_3.length c0_3] 26 (0, 0)) (fb BK657.out) k_ hn_)))) (wz (fW HB.out))); have HO666 := am (Kd.V_lower (Kd.V_mono (ok' := fun k_ => k_ ≠ gb657) ho1 (fun k_ hk_ => Or.elim hk_ (fun hs_ => Or.elim hs_ (fun hs_ => fun e_ => Nat.not_le.2 hs_ (by rw [e_]; exact GW657.out)) (fun hs_ => Or.elim hs_ (fun hs_ => fun e_ => Nat.not_le.2 hs_ (by rw [e_]; exact GW657.out)) (fun hs_ => fun e_ => Nat.not_le.2 hs_ (by rw [e_]; exact GW657.out)))) (fun hn_ => (Kd.freshB (g := gb657) (o := .cells #[.slice A0_0 l0_0.length c0_0, .int .i64 a0_1, .slice A0_2 l0_2.length c0_2, .slice A0_3 l0_3.length c0_3] 26 (0, 0)) (fb BK657.out) k_ hn_)))) (wz (fW HB.out))); have HO669 := am (Kd.V_lower (Kd.V_mono (ok' := fun k_ => k_ ≠ gb657) ho2 (fun k_ hk_ => Or.elim hk_ (fun hs_ => Or.elim hs_ (fun hs_ => fun e_ => Nat.not_le.2 hs_ (by rw [e_]; exact GW657.out)) (fun hs_ => Or.elim hs_ (fun hs_ => fun e_ => Nat.not_le.2 hs_ (by rw [e_]; exact GW657.out)) (fun hs_ => fun e_ => Nat.not_le.2 hs_ (by rw [e_]; exact GW657.out)))) (fun hn_ => (Kd.freshB (g := gb657) (o := .cells #[.slice A0_0 l0_0.length c0_0, .int .i64 a0_1, .slice A0_2 l0_2.length c0_2, .slice A0_3 l0_3.length c0_3] 26 (0, 0)) (fb BK657.out) k_ hn_)))) (wz (fW HB.out))); replace BK657 := bB BK657 hb; replace HB := bS HB hb; (try clear hb); (try clear hb2); (try clear hk); (try clear hi); (try clear ho0); (try clear ho1); (try clear ho2)) | ((with_reducible refine gc (f := 32) rfl ?_); refine goesL_ (some 23) rfl rfl Try.func32 (by kernel_rfl) rfl #[.slice A1 l1.length c1] rfl (by (try simp only [pml]); first | done | rfl | (simp only [pdt]; rfl)) ?_; (with_reducible refine (w_back.calls kj2 _ _ l1 t670 _ ?side1 ?side2 A15.out).mono ?_); (case side1 => repeat (first | exact (Kd.C_below HR1.out HB.out) | (with_reducible refine Kd.C_alloc ?_ _) | (with_reducible refine Kd.C_drewN ?_ _) | (with_reducible refine Kd.C_drew ?_))); (case side2 => exact HC1.out); rintro e w68 ⟨v671, rfl, ho0, hb⟩; refine ⟨_, rfl, ?_⟩; replace HO662 := am (Kd.V_elder' (fV HO662.out) (Kd.R_base ho0) hb); replace HO666 := am (Kd.V_elder' (fV HO666.out) (Kd.R_base ho0) hb); replace HO669 := am (Kd.V_elder' (fV HO669.out) (Kd.R_base ho0) hb); have HO672 := am (Kd.R_lower ho0 (wz (fW HB.out))); replace BK657 := bB BK657 hb; replace HB := bS HB hb; (try clear hb); (try clear hb2); (try clear hk); (try clear hi); (try clear ho0); obtain ⟨Ao69, co69, eo69⟩ := Kd.V_slice HO662.out; subst eo69; obtain ⟨Ao70, co70, eo70⟩ := Kd.V_slice HO666.out; subst eo70; obtain ⟨Ao71, co71, eo71⟩ := Kd.V_slice HO669.out; subst eo71; obtain ⟨Ao72, co72, eo72⟩ := Kd.R_slice HO672.out; subst eo72) | ((with_reducible refine gc (f := 31) rfl ?_); refine goesL_ (some 24) rfl rfl Try.func31 (by kernel_rfl) rfl #[.agg #[.slice Ao69 t660.length co69, .int .i64 t663, .slice Ao70 t664.length co70, .slice Ao71 t667.length co71], .slice Ao72 t670.length co72] rfl (by (try simp only [pml]); first | done | rfl | (simp only [pdt]; rfl)) ?_; (with_reducible refine (replace_Apply.calls _ _ t660 t663 _ _ t664 _ _ t667 _ _ t670 t673 t676 t677 t680 t683 _ ?side1 ?side2 ?side3 ?side4 ?side5 ?side6 ?side7 ?side8 A16.out).mono ?_); (case side1 => repeat (first | exact (Kd.V_reads' HO662.out).2.2 | (with_reducible refine Kd.C_alloc ?_ _) | (with_reducible refine Kd.C_drewN ?_ _) | (with_reducible refine Kd.C_drew ?_))); (case side2 => exact (Kd.V_reads' HO662.out).2.1); (case side3 => repeat (first | exact (Kd.V_reads' HO666.out).2.2 | (with_reducible refine Kd.C_alloc ?_ _) | (with_reducible refine Kd.C_drewN ?_ _) | (with_reducible refine Kd.C_drew ?_))); (case side4 => exact (Kd.V_reads' HO666.out).2.1); (case side5 => repeat (first | exact (Kd.V_reads' HO669.out).2.2 | (with_reducible refine Kd.C_alloc ?_ _) | (with_reducible refine Kd.C_drewN ?_ _) | (with_reducible refine Kd.C_drew ?_))); (case side6 => exact (Kd.V_reads' HO669.out).2.1); (case side7 => repeat (first | exact (Kd.R_reads' HO672.out).2.2 | (with_reducible refine Kd.C_alloc ?_ _) | (with_reducible refine Kd.C_drewN ?_ _) | (with_reducible refine Kd.C_drew ?_))); (case side8 => exact (Kd.R_reads' HO672.out).2.1); rintro e w73 ⟨v674, v678, v681, rfl, ho0, ho1, ho2, hb⟩; refine ⟨_, rfl, ?_⟩; replace HO662 := am (Kd.V_mono (Kd.V_told (Kd.V_told (Kd.V_told (Kd.V_old (fV HO662.out) hb) (Kd.S_base ho0)) (Kd.R_base ho1)) (Kd.R_base ho2)) (fun _ h_ => h_.1)); replace HO666 := am (Kd.V_mono (Kd.V_told (Kd.V_told (Kd.V_told (Kd.V_old (fV HO666.out) hb) (Kd.S_base ho0)) (Kd.R_base ho1)) (Kd.R_base ho2)) (fun _ h_ => h_.1)); replace HO669 := am (Kd.V_mono (Kd.V_told (Kd.V_told (Kd.V_told (Kd.V_old (fV HO669.out) hb) (Kd.S_base ho0)) (Kd.R_base ho1)) (Kd.R_base ho2)) (fun _ h_ => h_.1)); replace HO672 := dR HO672 hb; have HO675 := am (Kd.S_lower ho0 (wz (fW HB.out))); have HO679 := am (Kd.R_lower ho1 (wz (fW HB.out))); have HO682 := am (Kd.R_lower ho2 (wz (fW HB.out))); replace BK657 := bB BK657 hb; replace HB := bS HB hb; (try clear hb); (try clear hb2); (try clear hk); (try clear hi); (try clear ho0); (try clear ho1); (try clear ho2)) | ((with_reducible refine gate_dst (N := 5) rfl ?_); (try (refine gate_guard (by rfl) ?_; dsimp only)); refine box_event ?hg (N := 5) ?hd (cs := #[.slice none 0 0, .int .i64 0, .slice none 0 0, .slice none 0 0]) (t := 33) ?hr ?_; (case hd | hg => rfl); (case hr => first | (go_simp; done) | (go_simp; rfl)); intro gb684 hg w74 hbox hb; replace HO662 := eV HO662 hg hb; replace HO666 := eV HO666 hg hb; replace HO669 := eV HO669 hg hb; replace HO672 := dR HO672 hb; replace HO675 := am (Kd.S_below (by (with_reducible repeat (first | apply Kd.S_alloc | apply Kd.S_drewN | apply Kd.S_drew)); exact HO675.out) hb); replace HO679 := dR HO679 hb; replace HO682 := dR HO682 hb; have BK684 := am hbox; have GW684 := sG HB hg; have GE684 := sG HB hg; replace HB := bS HB hb; have NB657_684 := nL BK657 hg; have NB684_657 := nG BK657 hg; replace BK657 := bB BK657 hb; clear hb hbox hg; obtain ⟨Ao75, co75, eo75⟩ := Kd.S_slice HO675.out; subst eo75; have hnb76 := NB684_657.out; have hnc76 := NB657_684.out; obtain ⟨_, _, _, _, _, _, _, _⟩ := zC4 BK684; obtain ⟨Ao78, co78, eo78⟩ := Kd.R_slice HO679.out; subst eo78; obtain ⟨Ao79, co79, eo79⟩ := Kd.R_slice HO682.out; subst eo79; obtain ⟨_, _, _, _, _, _, _, _⟩ := zC4 BK657) | ((with_reducible refine gc (f := 14) rfl ?_); refine goesL_ (some 28) rfl rfl Try.func14 (by kernel_rfl) rfl #[.agg #[.slice A0_0 l0_0.length c0_0, .int .i64 a0_1, .slice A0_2 l0_2.length c0_2, .slice A0_3 l0_3.length c0_3]] rfl (by (try simp only [pml]); first | done | rfl | (simp only [pdt]; rfl)) ?_; (with_reducible refine (r_Check.calls _ _ l0_0 a0_1 _ _ l0_2 _ _ l0_3 t685 _ ?side1 ?side2 ?side3 ?side4 ?side5 ?side6 A17.out).mono ?_); (case side1 => exact Kd.C_below HR0_0.out (fW HB.out)); (case side2 => exact HC0_0.out); (case side3 => exact Kd.C_below HR0_2.out (fW HB.out)); (case side4 => exact HC0_2.out); (case side5 => exact Kd.C_below HR0_3.out (fW HB.out)); (case side6 => exact HC0_3.out); rintro e w81 ⟨rfl, hb⟩; refine ⟨_, rfl, ?_⟩; replace HO662 := am (Kd.V_below (by (with_reducible repeat (first | apply Kd.V_alloc | apply Kd.V_drewN | apply Kd.V_drew)); exact (Kd.V_mono (Kd.V_far (p := ⟨gb684, 3, none⟩) (Kd.V_far (p := ⟨gb684, 2, none⟩) (Kd.V_far (p := ⟨gb684, 1, none⟩) (Kd.V_far (p := ⟨gb684, 0, none⟩) (Kd.V_mono HO662.out (fun k_ hk => (⟨hk, hk.2⟩ : _ ∧ k_ ≠ gb684))) (fun _ hk => hk.2) (.slice Ao75 t673.length co75)) (fun _ hk => hk.2) (.int .i64 t676)) (fun _ hk => hk.2) (.slice Ao78 t677.length co78)) (fun _ hk => hk.2) (.slice Ao79 t680.length co79)) (fun _ h_ => h_.1))) hb); replace HO666 := am (Kd.V_below (by (with_reducible repeat (first | apply Kd.V_alloc | apply Kd.V_drewN | apply Kd.V_drew)); exact (Kd.V_mono (Kd.V_far (p := ⟨gb684, 3, none⟩) (Kd.V_far (p := ⟨gb684, 2, none⟩) (Kd.V_far (p := ⟨gb684, 1, none⟩) (Kd.V_far (p := ⟨gb684, 0, none⟩) (Kd.V_mono HO666.out (fun k_ hk => (⟨hk, hk.2⟩ : _ ∧ k_ ≠ gb684))) (fun _ hk => hk.2) (.slice Ao75 t673.length co75)) (fun _ hk => hk.2) (.int .i64 t676)) (fun _ hk => hk.2) (.slice Ao78 t677.length co78)) (fun _ hk => hk.2) (.slice Ao79 t680.length co79)) (fun _ h_ => h_.1))) hb); replace HO669 := am (Kd.V_below (by (with_reducible repeat (first | apply Kd.V_alloc | apply Kd.V_drewN | apply Kd.V_drew)); exact (Kd.V_mono (Kd.V_far (p := ⟨gb684, 3, none⟩) (Kd.V_far (p := ⟨gb684, 2, none⟩) (Kd.V_far (p := ⟨gb684, 1, none⟩) (Kd.V_far (p := ⟨gb684, 0, none⟩) (Kd.V_mono HO669.out (fun k_ hk => (⟨hk, hk.2⟩ : _ ∧ k_ ≠ gb684))) (fun _ hk => hk.2) (.slice Ao75 t673.length co75)) (fun _ hk => hk.2) (.int .i64 t676)) (fun _ hk => hk.2) (.slice Ao78 t677.length co78)) (fun _ hk => hk.2) (.slice Ao79 t680.length co79)) (fun _ h_ => h_.1))) hb); replace HO672 := am (Kd.R_below (by (with_reducible repeat (first | apply Kd.R_alloc | apply Kd.R_drewN | apply Kd.R_drew)); exact (Kd.R_mono (Kd.R_far (p := ⟨gb684, 3, none⟩) (Kd.R_far (p := ⟨gb684, 2, none⟩) (Kd.R_far (p := ⟨gb684, 1, none⟩) (Kd.R_far (p := ⟨gb684, 0, none⟩) (Kd.R_types HO672.out BK684.out (by decide)) (fun _ hk => hk.2) (.slice Ao75 t673.length co75)) (fun _ hk => hk.2) (.int .i64 t676)) (fun _ hk => hk.2) (.slice Ao78 t677.length co78)) (fun _ hk => hk.2) (.slice Ao79 t680.length co79)) (fun _ h_ => h_.1))) hb); replace HO675 := am (Kd.S_below (by (with_reducible repeat (first | apply Kd.S_alloc | apply Kd.S_drewN | apply Kd.S_drew)); exact (Kd.S_mono (Kd.S_far (p := ⟨gb684, 3, none⟩) (Kd.S_far (p := ⟨gb684, 2, none⟩) (Kd.S_far (p := ⟨gb684, 1, none⟩) (Kd.S_far (p := ⟨gb684, 0, none⟩) (Kd.S_types HO675.out BK684.out (by decide)) (fun _ hk => hk.2) (.slice Ao75 t673.length co75)) (fun _ hk => hk.2) (.int .i64 t676)) (fun _ hk => hk.2) (.slice Ao78 t677.length co78)) (fun _ hk => hk.2) (.slice Ao79 t680.length co79)) (fun _ h_ => h_.1))) hb); replace HO679 := am (Kd.R_below (by (with_reducible repeat (first | apply Kd.R_alloc | apply Kd.R_drewN | apply Kd.R_drew)); exact (Kd.R_mono (Kd.R_far (p := ⟨gb684, 3, none⟩) (Kd.R_far (p := ⟨gb684, 2, none⟩) (Kd.R_far (p := ⟨gb684, 1, none⟩) (Kd.R_far (p := ⟨gb684, 0, none⟩) (Kd.R_types HO679.out BK684.out (by decide)) (fun _ hk => hk.2) (.slice Ao75 t673.length co75)) (fun _ hk => hk.2) (.int .i64 t676)) (fun _ hk => hk.2) (.slice Ao78 t677.length co78)) (fun _ hk => hk.2) (.slice Ao79 t680.length co79)) (fun _ h_ => h_.1))) hb); replace HO682 := am (Kd.R_below (by (with_reducible repeat (first | apply Kd.R_alloc | apply Kd.R_drewN | apply Kd.R_drew)); exact (Kd.R_mono (Kd.R_far (p := ⟨gb684, 3, none⟩) (Kd.R_far (p := ⟨gb684, 2, none⟩) (Kd.R_far (p := ⟨gb684, 1, none⟩) (Kd.R_far (p := ⟨gb684, 0, none⟩) (Kd.R_types HO682.out BK684.out (by decide)) (fun _ hk => hk.2) (.slice Ao75 t673.length co75)) (fun _ hk => hk.2) (.int .i64 t676)) (fun _ hk => hk.2) (.slice Ao78 t677.length co78)) (fun _ hk => hk.2) (.slice Ao79 t680.length co79)) (fun _ h_ => h_.1))) hb); replace BK657 := xC1 (kfC BK657.out) hb; replace BK684 := xC1 (o := .cells #[.slice Ao75 t673.length co75, .int .i64 t676, .slice Ao78 t677.length co78, .slice Ao79 t680.length co79] 33 (0, 0)) (kkC BK684.out) hb; replace HB := bS HB hb; (try clear hb); (try clear hb2); (try clear hk); (try clear hi)))
     (try simp only [Act.put, psl])
     go_cut [4] (fun v4 wc => ∃ (kq : Nat) (x4_64 : Bool), v4 = .bool x4_64 ∧ Aside0 (w_ReplaceApplies.j1 kq x4_64 = some r) ∧ Aside0 (kq ≤ kj2) ∧ Aside0 (Kd.S (Kd.slice 3 (Kd.int .i64)) 23 wc w.heap.size (fun k_ => some k_ ≠ ((.slice Ao78 t677.length co78) : Value).ownBlock) (.slice Ao75 t673.length co75) t673) ∧ Aside0 (Kd.R (Kd.int .i64) 3 wc w.heap.size (fun _ => True) (.slice Ao78 t677.length co78) t677) ∧ Aside0 (Kd.R Kd.bool 4 wc w.heap.size (fun _ => True) (.slice Ao79 t680.length co79) t680) ∧ Aside0 (wc.heap[gb657]? = some (.cells #[(.slice A0_0 l0_0.length c0_0), .int .i64 a0_1, (.slice A0_2 l0_2.length c0_2), (.slice A0_3 l0_3.length c0_3)] 26 (0, 0))) ∧ Aside0 (wc.heap[gb684]? = some (.cells #[(.slice Ao75 t673.length co75), .int .i64 t676, (.slice Ao78 t677.length co78), (.slice Ao79 t680.length co79)] 33 (0, 0))) ∧ Aside0 (Below w.heap.size w wc))
     case first =>
      have H := HC65.out
      clear HC65
      replace H := Option.bind_eq_some_iff.mp H
      obtain ⟨t686, A820, H⟩ := H
      replace H : (if t686 = true then (if t683 = t685 then ((w_theirs.f t673 t676 t677 t680).bind fun bt687 => ((r_Same.f kj2 bt687.1 bt687.2.1 bt687.2.2.1 bt687.2.2.2 ([] : List (List Int)) 0 ([] : List Int) ([] : List Bool)).bind fun t697 => (w_ReplaceApplies.j1 kj2 t697))) else (w_ReplaceApplies.j1 kj2 false)) else (w_ReplaceApplies.j1 kj2 false)) = some r := H
      have A82 := am A820
      clear A820
      by_cases c83 : t686 = true
      rotate_left
      ·replace c83 := Bool.eq_false_iff.mpr c83
       subst c83
       have H1 : (w_ReplaceApplies.j1 kj2 false) = some r := by rw [if_neg (show ¬ (false = true) by decide)] at H; exact H
       clear H
       have H := H1
       clear H1
       have H' := am H
       clear H
       go_wp2_with (first | ((with_reducible refine gc (f := 11) rfl ?_); refine goesL_ (some 31) rfl rfl Try.func11 (by kernel_rfl) rfl #[] rfl (by (try simp only [pml]); first | done | rfl | (simp only [pdt]; rfl)) ?_; (with_reducible refine (w_awake.calls kj2  false _ A82.out).mono ?_); rintro e w96 ⟨rfl, hb⟩; refine ⟨_, rfl, ?_⟩; replace HO662 := dV HO662 hb; replace HO666 := dV HO666 hb; replace HO669 := dV HO669 hb; replace HO672 := dR HO672 hb; replace HO675 := am (Kd.S_below (by (with_reducible repeat (first | apply Kd.S_alloc | apply Kd.S_drewN | apply Kd.S_drew)); exact HO675.out) hb); replace HO679 := dR HO679 hb; replace HO682 := dR HO682 hb; replace BK657 := bB BK657 hb; replace BK684 := bB BK684 hb; replace HB := bS HB hb; (try clear hb); (try clear hb2); (try clear hk); (try clear hi)))
       go_meet
       case rel => exact ⟨_, (false), sqD, H', ⟨by have := HJ2.out; first | omega | exact Nat.le_refl _⟩, ⟨by (with_reducible repeat (first | apply Kd.S_alloc | apply Kd.S_drewN | apply Kd.S_drew)); exact HO675.out⟩, ⟨fR HO679.out⟩, ⟨fR HO682.out⟩, ⟨fb BK657.out⟩, ⟨fb BK684.out⟩, ⟨fW HB.out⟩⟩
      subst c83
      have H1 : (if t683 = t685 then ((w_theirs.f t673 t676 t677 t680).bind fun bt687 => ((r_Same.f kj2 bt687.1 bt687.2.1 bt687.2.2.1 bt687.2.2.2 ([] : List (List Int)) 0 ([] : List Int) ([] : List Bool)).bind fun t697 => (w_ReplaceApplies.j1 kj2 t697))) else (w_ReplaceApplies.j1 kj2 false)) = some r := by rw [if_pos rfl] at H; exact H
      clear H
      have H := H1
      clear H1
      by_cases c84 : t683 = t685
      rotate_left
      ·rw [if_neg c84] at H
       have c84b0 : (t683 == t685) = false := beq_eq_false_iff_ne.mpr c84
       have c84b1 : (t683 != t685) = true := bne_iff_ne.mpr c84
       (first | rw [c84b0] | (simp only [i64_w, i32_w]; rw [c84b0]) | skip)
       have H' := am H
       clear H
       go_wp2_with (first | ((with_reducible refine gc (f := 11) rfl ?_); refine goesL_ (some 31) rfl rfl Try.func11 (by kernel_rfl) rfl #[] rfl (by (try simp only [pml]); first | done | rfl | (simp only [pdt]; rfl)) ?_; (with_reducible refine (w_awake.calls kj2  true _ A82.out).mono ?_); rintro e w95 ⟨rfl, hb⟩; refine ⟨_, rfl, ?_⟩; replace HO662 := dV HO662 hb; replace HO666 := dV HO666 hb; replace HO669 := dV HO669 hb; replace HO672 := dR HO672 hb; replace HO675 := am (Kd.S_below (by (with_reducible repeat (first | apply Kd.S_alloc | apply Kd.S_drewN | apply Kd.S_drew)); exact HO675.out) hb); replace HO679 := dR HO679 hb; replace HO682 := dR HO682 hb; replace BK657 := bB BK657 hb; replace BK684 := bB BK684 hb; replace HB := bS HB hb; (try clear hb); (try clear hb2); (try clear hk); (try clear hi)))
       go_meet
       case rel => exact ⟨_, (false), sqD, H', ⟨by have := HJ2.out; first | omega | exact Nat.le_refl _⟩, ⟨by (with_reducible repeat (first | apply Kd.S_alloc | apply Kd.S_drewN | apply Kd.S_drew)); exact HO675.out⟩, ⟨fR HO679.out⟩, ⟨fR HO682.out⟩, ⟨fb BK657.out⟩, ⟨fb BK684.out⟩, ⟨fW HB.out⟩⟩
      rw [if_pos c84] at H
      have c84b0 : (t683 == t685) = true := beq_iff_eq.mpr c84
      have c84b1 : (t683 != t685) = false := bne_eq_false_iff_eq.mpr c84
      clear c84
      (first | rw [c84b0] | (simp only [i64_w, i32_w]; rw [c84b0]) | skip)
      replace H := Option.bind_eq_some_iff.mp H
      obtain ⟨⟨t687, t690, t691, t694⟩, A850, H⟩ := H
      replace H : ((r_Same.f kj2 t687 t690 t691 t694 ([] : List (List Int)) 0 ([] : List Int) ([] : List Bool)).bind fun t697 => (w_ReplaceApplies.j1 kj2 t697)) = some r := H
      have A85 := am A850
      clear A850
      replace H := Option.bind_eq_some_iff.mp H
      obtain ⟨t697, A860, H⟩ := H
      replace H : (w_ReplaceApplies.j1 kj2 t697) = some r := H
      have A86 := am A860
      clear A860
      have H' := am H
      clear H
      go_wp2_with (first | ((with_reducible refine gc (f := 11) rfl ?_); refine goesL_ (some 31) rfl rfl Try.func11 (by kernel_rfl) rfl #[] rfl (by (try simp only [pml]); first | done | rfl | (simp only [pdt]; rfl)) ?_; (with_reducible refine (w_awake.calls kj2  true _ A82.out).mono ?_); rintro e w87 ⟨rfl, hb⟩; refine ⟨_, rfl, ?_⟩; replace HO662 := dV HO662 hb; replace HO666 := dV HO666 hb; replace HO669 := dV HO669 hb; replace HO672 := dR HO672 hb; replace HO675 := am (Kd.S_below (by (with_reducible repeat (first | apply Kd.S_alloc | apply Kd.S_drewN | apply Kd.S_drew)); exact HO675.out) hb); replace HO679 := dR HO679 hb; replace HO682 := dR HO682 hb; replace BK657 := bB BK657 hb; replace BK684 := bB BK684 hb; replace HB := bS HB hb; (try clear hb); (try clear hb2); (try clear hk); (try clear hi); have hnb88 := NB684_657.out; have hnc88 := NB657_684.out; obtain ⟨_, _, _, _, _, _, _, _⟩ := zC4 BK684) | (go_at_call 27; (with_reducible refine (w_theirs.calls (fun k_ => ((((some k_ ≠ (.slice Ao78 t677.length co78 : Value).ownBlock ∧ some k_ ≠ (.slice Ao72 t670.length co72 : Value).ownBlock) ∧ some k_ ≠ (.slice Ao79 t680.length co79 : Value).ownBlock) ∧ k_ ≠ gb657) ∧ k_ ≠ gb684)) _ _ t673 t676 (fun k_ => some k_ = (.slice Ao78 t677.length co78 : Value).ownBlock) _ _ t677 (fun k_ => some k_ = (.slice Ao79 t680.length co79 : Value).ownBlock) _ _ t680 t687 t690 t691 t694 _ ?side1 ?side2 ?side3 A85.out).mono ?_); (case side1 => exact Kd.S_V (Kd.S_types (Kd.S_types (Kd.S_apart' (Kd.S_apart' (HO675.out) (Kd.R_typed HO672.out) (by decide)) (Kd.R_typed HO682.out) (by decide)) BK657.out (by decide)) BK684.out (by decide))); (case side2 => exact Kd.R_V (Kd.R_tight rfl (Kd.R_types (Kd.R_types (Kd.R_apart' (Kd.R_apart' (Kd.R_apart' (HO679.out) (Kd.R_typed HO672.out) (by decide)) (Kd.S_typed HO675.out) (by decide)) (Kd.R_typed HO682.out) (by decide)) BK657.out (by decide)) BK684.out (by decide)))); (case side3 => exact Kd.R_V (Kd.R_tight rfl (Kd.R_types (Kd.R_types (Kd.R_apart' (Kd.R_apart' (Kd.R_apart' (HO682.out) (Kd.R_typed HO672.out) (by decide)) (Kd.S_typed HO675.out) (by decide)) (Kd.R_typed HO679.out) (by decide)) BK657.out (by decide)) BK684.out (by decide)))); rintro e w90 ⟨v688, v692, v695, rfl, ho0, ho1, ho2, hb⟩; replace HO662 := dV HO662 hb; replace HO666 := dV HO666 hb; replace HO669 := dV HO669 hb; have HO689 := am (Kd.V_lower (Kd.V_mono (ok' := fun k_ => some k_ ≠ (.slice Ao72 t670.length co72 : Value).ownBlock ∧ k_ ≠ gb657 ∧ k_ ≠ gb684) ho0 (fun k_ hk_ => ⟨Or.elim hk_ (fun hs_ => Or.elim hs_ (fun hs_ => hs_.1.1.1.2) (fun hs_ => Or.elim hs_ (fun hs_ => ((Kd.R_types (Kd.R_types (Kd.R_apart' (Kd.R_apart' (Kd.R_apart' (HO679.out) (Kd.R_typed HO672.out) (by decide)) (Kd.S_typed HO675.out) (by decide)) (Kd.R_typed HO682.out) (by decide)) BK657.out (by decide)) BK684.out (by decide)).1 k_ hs_.symm).1.1.1.1.2) (fun hs_ => ((Kd.R_types (Kd.R_types (Kd.R_apart' (Kd.R_apart' (Kd.R_apart' (HO682.out) (Kd.R_typed HO672.out) (by decide)) (Kd.S_typed HO675.out) (by decide)) (Kd.R_typed HO679.out) (by decide)) BK657.out (by decide)) BK684.out (by decide)).1 k_ hs_.symm).1.1.1.1.2))) (fun hn_ => (Kd.fresh' (Kd.R_lt (fR HO672.out)) k_ hn_)), Or.elim hk_ (fun hs_ => Or.elim hs_ (fun hs_ => hs_.1.2) (fun hs_ => Or.elim hs_ (fun hs_ => ((Kd.R_types (Kd.R_types (Kd.R_apart' (Kd.R_apart' (Kd.R_apart' (HO679.out) (Kd.R_typed HO672.out) (by decide)) (Kd.S_typed HO675.out) (by decide)) (Kd.R_typed HO682.out) (by decide)) BK657.out (by decide)) BK684.out (by decide)).1 k_ hs_.symm).1.2) (fun hs_ => ((Kd.R_types (Kd.R_types (Kd.R_apart' (Kd.R_apart' (Kd.R_apart' (HO682.out) (Kd.R_typed HO672.out) (by decide)) (Kd.S_typed HO675.out) (by decide)) (Kd.R_typed HO679.out) (by decide)) BK657.out (by decide)) BK684.out (by decide)).1 k_ hs_.symm).1.2))) (fun hn_ => (Kd.freshB (g := gb657) (o := .cells #[.slice A0_0 l0_0.length c0_0, .int .i64 a0_1, .slice A0_2 l0_2.length c0_2, .slice A0_3 l0_3.length c0_3] 26 (0, 0)) (fb BK657.out) k_ hn_)), Or.elim hk_ (fun hs_ => Or.elim hs_ (fun hs_ => hs_.2) (fun hs_ => Or.elim hs_ (fun hs_ => ((Kd.R_types (Kd.R_types (Kd.R_apart' (Kd.R_apart' (Kd.R_apart' (HO679.out) (Kd.R_typed HO672.out) (by decide)) (Kd.S_typed HO675.out) (by decide)) (Kd.R_typed HO682.out) (by decide)) BK657.out (by decide)) BK684.out (by decide)).1 k_ hs_.symm).2) (fun hs_ => ((Kd.R_types (Kd.R_types (Kd.R_apart' (Kd.R_apart' (Kd.R_apart' (HO682.out) (Kd.R_typed HO672.out) (by decide)) (Kd.S_typed HO675.out) (by decide)) (Kd.R_typed HO679.out) (by decide)) BK657.out (by decide)) BK684.out (by decide)).1 k_ hs_.symm).2))) (fun hn_ => (Kd.freshB (g := gb684) (o := .cells #[.slice Ao75 t673.length co75, .int .i64 t676, .slice Ao78 t677.length co78, .slice Ao79 t680.length co79] 33 (0, 0)) (fb BK684.out) k_ hn_))⟩)) (wz (fW HB.out))); have HO693 := am (Kd.V_lower (Kd.V_mono (ok' := fun k_ => some k_ ≠ (.slice Ao72 t670.length co72 : Value).ownBlock ∧ k_ ≠ gb657 ∧ k_ ≠ gb684) ho1 (fun k_ hk_ => ⟨Or.elim hk_ (fun hs_ => Or.elim hs_ (fun hs_ => hs_.1.1.1.2) (fun hs_ => Or.elim hs_ (fun hs_ => ((Kd.R_types (Kd.R_types (Kd.R_apart' (Kd.R_apart' (Kd.R_apart' (HO679.out) (Kd.R_typed HO672.out) (by decide)) (Kd.S_typed HO675.out) (by decide)) (Kd.R_typed HO682.out) (by decide)) BK657.out (by decide)) BK684.out (by decide)).1 k_ hs_.symm).1.1.1.1.2) (fun hs_ => ((Kd.R_types (Kd.R_types (Kd.R_apart' (Kd.R_apart' (Kd.R_apart' (HO682.out) (Kd.R_typed HO672.out) (by decide)) (Kd.S_typed HO675.out) (by decide)) (Kd.R_typed HO679.out) (by decide)) BK657.out (by decide)) BK684.out (by decide)).1 k_ hs_.symm).1.1.1.1.2))) (fun hn_ => (Kd.fresh' (Kd.R_lt (fR HO672.out)) k_ hn_)), Or.elim hk_ (fun hs_ => Or.elim hs_ (fun hs_ => hs_.1.2) (fun hs_ => Or.elim hs_ (fun hs_ => ((Kd.R_types (Kd.R_types (Kd.R_apart' (Kd.R_apart' (Kd.R_apart' (HO679.out) (Kd.R_typed HO672.out) (by decide)) (Kd.S_typed HO675.out) (by decide)) (Kd.R_typed HO682.out) (by decide)) BK657.out (by decide)) BK684.out (by decide)).1 k_ hs_.symm).1.2) (fun hs_ => ((Kd.R_types (Kd.R_types (Kd.R_apart' (Kd.R_apart' (Kd.R_apart' (HO682.out) (Kd.R_typed HO672.out) (by decide)) (Kd.S_typed HO675.out) (by decide)) (Kd.R_typed HO679.out) (by decide)) BK657.out (by decide)) BK684.out (by decide)).1 k_ hs_.symm).1.2))) (fun hn_ => (Kd.freshB (g := gb657) (o := .cells #[.slice A0_0 l0_0.length c0_0, .int .i64 a0_1, .slice A0_2 l0_2.length c0_2, .slice A0_3 l0_3.length c0_3] 26 (0, 0)) (fb BK657.out) k_ hn_)), Or.elim hk_ (fun hs_ => Or.elim hs_ (fun hs_ => hs_.2) (fun hs_ => Or.elim hs_ (fun hs_ => ((Kd.R_types (Kd.R_types (Kd.R_apart' (Kd.R_apart' (Kd.R_apart' (HO679.out) (Kd.R_typed HO672.out) (by decide)) (Kd.S_typed HO675.out) (by decide)) (Kd.R_typed HO682.out) (by decide)) BK657.out (by decide)) BK684.out (by decide)).1 k_ hs_.symm).2) (fun hs_ => ((Kd.R_types (Kd.R_types (Kd.R_apart' (Kd.R_apart' (Kd.R_apart' (HO682.out) (Kd.R_typed HO672.out) (by decide)) (Kd.S_typed HO675.out) (by decide)) (Kd.R_typed HO679.out) (by decide)) BK657.out (by decide)) BK684.out (by decide)).1 k_ hs_.symm).2))) (fun hn_ => (Kd.freshB (g := gb684) (o := .cells #[.slice Ao75 t673.length co75, .int .i64 t676, .slice Ao78 t677.length co78, .slice Ao79 t680.length co79] 33 (0, 0)) (fb BK684.out) k_ hn_))⟩)) (wz (fW HB.out))); have HO696 := am (Kd.V_lower (Kd.V_mono (ok' := fun k_ => some k_ ≠ (.slice Ao72 t670.length co72 : Value).ownBlock ∧ k_ ≠ gb657 ∧ k_ ≠ gb684) ho2 (fun k_ hk_ => ⟨Or.elim hk_ (fun hs_ => Or.elim hs_ (fun hs_ => hs_.1.1.1.2) (fun hs_ => Or.elim hs_ (fun hs_ => ((Kd.R_types (Kd.R_types (Kd.R_apart' (Kd.R_apart' (Kd.R_apart' (HO679.out) (Kd.R_typed HO672.out) (by decide)) (Kd.S_typed HO675.out) (by decide)) (Kd.R_typed HO682.out) (by decide)) BK657.out (by decide)) BK684.out (by decide)).1 k_ hs_.symm).1.1.1.1.2) (fun hs_ => ((Kd.R_types (Kd.R_types (Kd.R_apart' (Kd.R_apart' (Kd.R_apart' (HO682.out) (Kd.R_typed HO672.out) (by decide)) (Kd.S_typed HO675.out) (by decide)) (Kd.R_typed HO679.out) (by decide)) BK657.out (by decide)) BK684.out (by decide)).1 k_ hs_.symm).1.1.1.1.2))) (fun hn_ => (Kd.fresh' (Kd.R_lt (fR HO672.out)) k_ hn_)), Or.elim hk_ (fun hs_ => Or.elim hs_ (fun hs_ => hs_.1.2) (fun hs_ => Or.elim hs_ (fun hs_ => ((Kd.R_types (Kd.R_types (Kd.R_apart' (Kd.R_apart' (Kd.R_apart' (HO679.out) (Kd.R_typed HO672.out) (by decide)) (Kd.S_typed HO675.out) (by decide)) (Kd.R_typed HO682.out) (by decide)) BK657.out (by decide)) BK684.out (by decide)).1 k_ hs_.symm).1.2) (fun hs_ => ((Kd.R_types (Kd.R_types (Kd.R_apart' (Kd.R_apart' (Kd.R_apart' (HO682.out) (Kd.R_typed HO672.out) (by decide)) (Kd.S_typed HO675.out) (by decide)) (Kd.R_typed HO679.out) (by decide)) BK657.out (by decide)) BK684.out (by decide)).1 k_ hs_.symm).1.2))) (fun hn_ => (Kd.freshB (g := gb657) (o := .cells #[.slice A0_0 l0_0.length c0_0, .int .i64 a0_1, .slice A0_2 l0_2.length c0_2, .slice A0_3 l0_3.length c0_3] 26 (0, 0)) (fb BK657.out) k_ hn_)), Or.elim hk_ (fun hs_ => Or.elim hs_ (fun hs_ => hs_.2) (fun hs_ => Or.elim hs_ (fun hs_ => ((Kd.R_types (Kd.R_types (Kd.R_apart' (Kd.R_apart' (Kd.R_apart' (HO679.out) (Kd.R_typed HO672.out) (by decide)) (Kd.S_typed HO675.out) (by decide)) (Kd.R_typed HO682.out) (by decide)) BK657.out (by decide)) BK684.out (by decide)).1 k_ hs_.symm).2) (fun hs_ => ((Kd.R_types (Kd.R_types (Kd.R_apart' (Kd.R_apart' (Kd.R_apart' (HO682.out) (Kd.R_typed HO672.out) (by decide)) (Kd.S_typed HO675.out) (by decide)) (Kd.R_typed HO679.out) (by decide)) BK657.out (by decide)) BK684.out (by decide)).1 k_ hs_.symm).2))) (fun hn_ => (Kd.freshB (g := gb684) (o := .cells #[.slice Ao75 t673.length co75, .int .i64 t676, .slice Ao78 t677.length co78, .slice Ao79 t680.length co79] 33 (0, 0)) (fb BK684.out) k_ hn_))⟩)) (wz (fW HB.out))); replace HO672 := dR HO672 hb; replace HO675 := am (Kd.S_below (by (with_reducible repeat (first | apply Kd.S_alloc | apply Kd.S_drewN | apply Kd.S_drew)); exact HO675.out) hb); replace HO679 := dR HO679 hb; replace HO682 := dR HO682 hb; replace BK657 := bB BK657 hb; replace BK684 := bB BK684 hb; replace HB := bS HB hb; (try clear hb); (try clear hb2); (try clear hk); (try clear hi); (try clear ho0); (try clear ho1); (try clear ho2); obtain ⟨Ao91, co91, eo91⟩ := Kd.V_slice HO689.out; subst eo91; obtain ⟨Ao92, co92, eo92⟩ := Kd.V_slice HO693.out; subst eo92; obtain ⟨Ao93, co93, eo93⟩ := Kd.V_slice HO696.out; subst eo93) | (go_at_call 26; (refine (r_Same.calls kj2 _ _ t687 t690 _ _ t691 _ _ t694 _ _ ([] : List (List Int)) 0 _ _ ([] : List Int) _ _ ([] : List Bool) t697 _ ?side1 ?side2 ?side3 ?side4 ?side5 ?side6 ?side7 ?side8 ?side9 ?side10 ?side11 ?side12 A86.out).mono ?_); (case side1 => repeat (first | exact (Kd.V_reads' HO689.out).2.2 | (with_reducible refine Kd.C_alloc ?_ _) | (with_reducible refine Kd.C_drewN ?_ _) | (with_reducible refine Kd.C_drew ?_))); (case side2 => exact (Kd.V_reads' HO689.out).2.1); (case side3 => repeat (first | exact (Kd.V_reads' HO693.out).2.2 | (with_reducible refine Kd.C_alloc ?_ _) | (with_reducible refine Kd.C_drewN ?_ _) | (with_reducible refine Kd.C_drew ?_))); (case side4 => exact (Kd.V_reads' HO693.out).2.1); (case side5 => repeat (first | exact (Kd.V_reads' HO696.out).2.2 | (with_reducible refine Kd.C_alloc ?_ _) | (with_reducible refine Kd.C_drewN ?_ _) | (with_reducible refine Kd.C_drew ?_))); (case side6 => exact (Kd.V_reads' HO696.out).2.1); (case side7 => exact Kd.C_nil _ _); (case side8 => exact Nat.le_refl _); (case side9 => exact Kd.C_nil _ _); (case side10 => exact Nat.le_refl _); (case side11 => exact Kd.C_nil _ _); (case side12 => exact Nat.le_refl _); rintro e w94 ⟨rfl, hb⟩; replace HO662 := dV HO662 hb; replace HO666 := dV HO666 hb; replace HO669 := dV HO669 hb; replace HO672 := dR HO672 hb; replace HO675 := am (Kd.S_below (by (with_reducible repeat (first | apply Kd.S_alloc | apply Kd.S_drewN | apply Kd.S_drew)); exact HO675.out) hb); replace HO679 := dR HO679 hb; replace HO682 := dR HO682 hb; replace HO689 := dV HO689 hb; replace HO693 := dV HO693 hb; replace HO696 := dV HO696 hb; replace BK657 := bB BK657 hb; replace BK684 := bB BK684 hb; replace HB := bS HB hb; (try clear hb); (try clear hb2); (try clear hk); (try clear hi)))
      go_meet
      case rel => exact ⟨_, (t697), sqD, H', ⟨by have := HJ2.out; first | omega | exact Nat.le_refl _⟩, ⟨by (with_reducible repeat (first | apply Kd.S_alloc | apply Kd.S_drewN | apply Kd.S_drew)); exact HO675.out⟩, ⟨fR HO679.out⟩, ⟨fR HO682.out⟩, ⟨fb BK657.out⟩, ⟨fb BK684.out⟩, ⟨fW HB.out⟩⟩
     case rest =>
      clear HC65
      try clear c1;try clear c2;try clear p2;try clear c3;try clear c4;try clear c7;try clear c8;try clear c11;try clear c13;try clear c14;try clear c18;try clear c18b0;try clear c18b1;try clear c26;try clear c31;try clear c32;try clear c47;try clear c48;try clear c48b0;try clear c48b1;try clear c76;try clear c83;try clear c84;try clear c84b0;try clear c84b1;try clear c88;try clear p2
      obtain ⟨kq, x4_64, rfl, HA, HJ64, HO_685000, HO_685002, HO_685003, BK657, BK684, HB⟩ := hcut
      cases kq with
      | zero => exact absurd HA.out (by simp [w_ReplaceApplies.j1])
      | succ kj64 =>
       have H := HA.out
       clear HA
       simp only [w_ReplaceApplies.j1] at H
       obtain rfl := Option.some.inj H
       go_wp2
       go_ret
       exact ⟨sqE, fW HB.out⟩

def w_ReplaceApplies.Pure : Prop := ∀ (l0_0 : List (List Int)) (a0_1 : Int) (l0_2 : List Int) (l0_3 : List Bool) (l1 : List (S69)), (l0_0.length ≤ maxLen ∧ ∀ e19_, e19_ ∈ l0_0 → e19_.length ≤ maxLen ∧ ∀ e20_, e20_ ∈ e19_ → (Lit.int .i64 e20_).wf = true) → ((Lit.int .i64 a0_1).wf = true) → (l0_2.length ≤ maxLen ∧ ∀ e21_, e21_ ∈ l0_2 → (Lit.int .i64 e21_).wf = true) → (l0_3.length ≤ maxLen) → (l1.length ≤ maxLen ∧ ∀ e23_, e23_ ∈ l1 → okS69 e23_) → ∃ k, w_ReplaceApplies.f k l0_0 a0_1 l0_2 l0_3 l1 = some true
theorem w_ReplaceApplies.walk (P_ : w_ReplaceApplies.Pure) (A0_0 : Option Addr) (c0_0 : Nat) (l0_0 : List (List Int)) (a0_1 : Int) (A0_2 : Option Addr) (c0_2 : Nat) (l0_2 : List Int) (A0_3 : Option Addr) (c0_3 : Nat) (l0_3 : List Bool) (A1 : Option Addr) (c1 : Nat) (l1 : List (S69)) (w : World) (hr0_0 : Kd.C (Kd.slice 3 (Kd.int .i64)) w A0_0 l0_0.length l0_0) (hc0_0 : l0_0.length ≤ c0_0) (hr0_2 : Kd.C (Kd.int .i64) w A0_2 l0_2.length l0_2) (hc0_2 : l0_2.length ≤ c0_2) (hr0_3 : Kd.C Kd.bool w A0_3 l0_3.length l0_3) (hc0_3 : l0_3.length ≤ c0_3) (hr1 : Kd.C k69 w A1 l1.length l1) (hc1 : l1.length ≤ c1) (o0 : (l0_0.length ≤ maxLen ∧ ∀ e19_, e19_ ∈ l0_0 → e19_.length ≤ maxLen ∧ ∀ e20_, e20_ ∈ e19_ → (Lit.int .i64 e20_).wf = true)) (o1 : ((Lit.int .i64 a0_1).wf = true)) (o2 : (l0_2.length ≤ maxLen ∧ ∀ e21_, e21_ ∈ l0_2 → (Lit.int .i64 e21_).wf = true)) (o3 : (l0_3.length ≤ maxLen)) (o4 : (l1.length ≤ maxLen ∧ ∀ e23_, e23_ ∈ l1 → okS69 e23_)) :
  Calls Try.prog 7 #[.agg #[.slice A0_0 l0_0.length c0_0, .int .i64 a0_1, .slice A0_2 l0_2.length c0_2, .slice A0_3 l0_3.length c0_3], .slice A1 l1.length c1] w fun e w' => e = .returned (.bool true) ∧ Below w.heap.size w w' := by
 obtain ⟨k, h⟩ := P_ l0_0 a0_1 l0_2 l0_3 l1 o0 o1 o2 o3 o4
 refine (w_ReplaceApplies.calls k A0_0 c0_0 l0_0 a0_1 A0_2 c0_2 l0_2 A0_3 c0_3 l0_3 A1 c1 l1 true w hr0_0 hc0_0 hr0_2 hc0_2 hr0_3 hc0_3 hr1 hc1 h).mono ?_
 rintro e w' ⟨rfl, hd⟩
 exact ⟨rfl, hd⟩

end Go.Proofs.Ytkeomlmlimkebaa.QA
