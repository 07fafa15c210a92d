import Derived.Test.YtcofgnbopodahaaKQAx0
import Derived.Test.YtcofgnbopodahaaKQAx8
import Derived.Test.YtcofgnbopodahaaKQAx9
import Derived.Test.YtcofgnbopodahaaKQAx11
import Derived.Test.YtcofgnbopodahaaKQAx22
namespace Go.Proofs.Ytcofgnbopodahaa.QA
open Go.RowKit Go.Proofs.YtcofgnbopodahaaW.PrintWords Go.Proofs.YtcofgnbopodahaaW.PrintLast Go.Proofs.YtcofgnbopodahaaW.PrintMore
open Go.Proofs.YtcofgnbopodahaaW.PrintWords renaming blk_drewN → bN, blk_drew → bd, blk_alloc → ba, blk_far → bF, gate_callee → gc, gate_guard → gG, box_event → be
open Aside0 renaming mk → am
attribute [local go_sem] max2_int min2_int max_two min_two max_three min_three max_four min_four
set_option linter.unusedVariables false
set_option linter.unusedSimpArgs false

mutual
def w_ModelClashes.j0 : Nat → List (S68) → ByteArray → Bool → Int → Int → Int → Int → Int → Int → Option (Bool)
 | 0, _, _, _, _, _, _, _, _, _ => none
 | k + 1, x0, x2, x26, x550000, x550001, x550002, x550003, x550004, x550005 => if x26 = true then (some true) else ((model_Clashes.f k x0).bind fun bt552 => ((model_Without.f k x0 x2).bind fun bt556 => ((model_Volume.f k x0 x550000 x550001 x550002 x550003 x550004 x550005 3).bind fun bt560 => (if bt552.2 = bt556.2 then (w_ModelClashes.l0 k x0 x2 bt552.1 bt552.2 bt556.1 bt560.1 bt560.2 0 x550000 x550001 x550002 x550003 x550004 x550005) else (some false)))))
def w_ModelClashes.l0 : Nat → List (S68) → ByteArray → List (S65) → Int → List (S68) → Int → Int → Int → Int → Int → Int → Int → Int → Int → Option (Bool)
 | 0, _, _, _, _, _, _, _, _, _, _, _, _, _, _ => none
 | k + 1, x0, x2, x7, x8, x9, x11, x12, x13, x550000, x550001, x550002, x550003, x550004, x550005 => if x13 < (x9.length : Int) then (if 0 ≤ x13 then (if ((rd_T68 x9 x13).f0).toList = x2.toList then (some false) else (w_ModelClashes.l0 k x0 x2 x7 x8 x9 x11 x12 (wrap64 (x13 + 1)) x550000 x550001 x550002 x550003 x550004 x550005)) else (none)) else (if x8 = 0 then (w_ModelClashes.j2 k x0 x7 x11 (x12 != 0) x550000 x550001 x550002 x550003 x550004 x550005) else (w_ModelClashes.j2 k x0 x7 x11 true x550000 x550001 x550002 x550003 x550004 x550005))
def w_ModelClashes.j2 : Nat → List (S68) → List (S65) → Int → Bool → Int → Int → Int → Int → Int → Int → Option (Bool)
 | 0, _, _, _, _, _, _, _, _, _, _ => none
 | k + 1, x0, x7, x11, x65, x550000, x550001, x550002, x550003, x550004, x550005 => if x65 = true then (some true) else (w_ModelClashes.l1 k x0 x7 x11 true 0 x550000 x550001 x550002 x550003 x550004 x550005)
def w_ModelClashes.l1 : Nat → List (S68) → List (S65) → Int → Bool → Int → Int → Int → Int → Int → Int → Int → Option (Bool)
 | 0, _, _, _, _, _, _, _, _, _, _, _ => none
 | k + 1, x0, x7, x11, x14, x15, x550000, x550001, x550002, x550003, x550004, x550005 => if x15 < (x0.length : Int) then (if 0 ≤ x15 then (if x14 = true then (if x550000 ≤ ((rd_T68 x0 x15).f1.f0.f0) then (if x550001 ≤ ((rd_T68 x0 x15).f1.f0.f1) then (if x550002 ≤ ((rd_T68 x0 x15).f1.f0.f2) then (if ((rd_T68 x0 x15).f1.f1.f0) ≤ x550003 then (if ((rd_T68 x0 x15).f1.f1.f1) ≤ x550004 then (w_ModelClashes.j4 k x0 x7 x11 (decide (((rd_T68 x0 x15).f1.f1.f2) ≤ x550005)) x15 x550000 x550001 x550002 x550003 x550004 x550005) else (w_ModelClashes.j4 k x0 x7 x11 false x15 x550000 x550001 x550002 x550003 x550004 x550005)) else (w_ModelClashes.j4 k x0 x7 x11 false x15 x550000 x550001 x550002 x550003 x550004 x550005)) else (w_ModelClashes.j4 k x0 x7 x11 false x15 x550000 x550001 x550002 x550003 x550004 x550005)) else (w_ModelClashes.j4 k x0 x7 x11 false x15 x550000 x550001 x550002 x550003 x550004 x550005)) else (w_ModelClashes.j4 k x0 x7 x11 false x15 x550000 x550001 x550002 x550003 x550004 x550005)) else (w_ModelClashes.j4 k x0 x7 x11 false x15 x550000 x550001 x550002 x550003 x550004 x550005)) else (none)) else (if (x7.length : Int) > 0 then (if x14 = true then (w_ModelClashes.j5 k ((decide ((x7.length : Int) > 0)) == (decide (x11 > 0)))) else (w_ModelClashes.j5 k true)) else (if x11 = 0 then (if x14 = true then (w_ModelClashes.j5 k ((decide ((x7.length : Int) > 0)) == (decide (x11 > 0)))) else (w_ModelClashes.j5 k true)) else (w_ModelClashes.j5 k false)))
def w_ModelClashes.j4 : Nat → List (S68) → List (S65) → Int → Bool → Int → Int → Int → Int → Int → Int → Int → Option (Bool)
 | 0, _, _, _, _, _, _, _, _, _, _, _ => none
 | k + 1, x0, x7, x11, x14, x15, x550000, x550001, x550002, x550003, x550004, x550005 => w_ModelClashes.l1 k x0 x7 x11 x14 (wrap64 (x15 + 1)) x550000 x550001 x550002 x550003 x550004 x550005
def w_ModelClashes.j5 : Nat → Bool → Option (Bool)
 | 0, _ => none
 | k + 1, x6 => some x6
end
def w_ModelClashes.f (k : Nat) (l0 : List (S68)) (a1_0 : Int) (a1_1 : Int) (a1_2 : Int) (a1_3 : Int) (a1_4 : Int) (a1_5 : Int) (a2 : ByteArray) : Option (Bool) := (w_awake.f).bind fun t550 => (if t550 = true then ((r_Small.f k l0 10).bind fun t551 => (if t551 = true then (w_ModelClashes.j0 k l0 a2 (decide ((a2.size : Int) > 60)) a1_0 a1_1 a1_2 a1_3 a1_4 a1_5) else (w_ModelClashes.j0 k l0 a2 true a1_0 a1_1 a1_2 a1_3 a1_4 a1_5))) else (some false))
set_option maxHeartbeats 8000000 in
set_option maxRecDepth 100000 in
theorem w_ModelClashes.calls (k : Nat) (A0 : Option Addr) (c0 : Nat) (l0 : List (S68)) (a1_0 : Int) (a1_1 : Int) (a1_2 : Int) (a1_3 : Int) (a1_4 : Int) (a1_5 : Int) (a2 : ByteArray) (r : Bool) (w : World) (hr0 : Kd.C k68 w A0 l0.length l0) (hc0 : l0.length ≤ c0) (h : w_ModelClashes.f k l0 a1_0 a1_1 a1_2 a1_3 a1_4 a1_5 a2 = some r) :
  Calls Try.prog 9 #[.slice A0 l0.length c0, .agg #[.int .i64 a1_0, .int .i64 a1_1, .int .i64 a1_2, .int .i64 a1_3, .int .i64 a1_4, .int .i64 a1_5], .string a2] w fun e w' => e = .returned (.bool r) ∧ Below w.heap.size w w' := by
 have hu43 := Try.underlying43
 have HR0 := am hr0
 have HC0 := am hc0
 clear hr0 hc0
 have HB := am (Below.refl w.heap.size w)
 have H : ((w_awake.f).bind fun t550 => (if t550 = true then ((r_Small.f k l0 10).bind fun t551 => (if t551 = true then (w_ModelClashes.j0 k l0 a2 (decide ((a2.size : Int) > 60)) a1_0 a1_1 a1_2 a1_3 a1_4 a1_5) else (w_ModelClashes.j0 k l0 a2 true a1_0 a1_1 a1_2 a1_3 a1_4 a1_5))) else (some false))) = some r := h
 clear h
 replace H := Option.bind_eq_some_iff.mp H
 obtain ⟨t550, A40, H⟩ := H
 replace H : (if t550 = true then ((r_Small.f k l0 10).bind fun t551 => (if t551 = true then (w_ModelClashes.j0 k l0 a2 (decide ((a2.size : Int) > 60)) a1_0 a1_1 a1_2 a1_3 a1_4 a1_5) else (w_ModelClashes.j0 k l0 a2 true a1_0 a1_1 a1_2 a1_3 a1_4 a1_5))) else (some false)) = some r := H
 have A4 := am A40
 clear A40
 by_cases c5 : t550 = true
 ·subst c5
  have H1 : ((r_Small.f k l0 10).bind fun t551 => (if t551 = true then (w_ModelClashes.j0 k l0 a2 (decide ((a2.size : Int) > 60)) a1_0 a1_1 a1_2 a1_3 a1_4 a1_5) else (w_ModelClashes.j0 k l0 a2 true a1_0 a1_1 a1_2 a1_3 a1_4 a1_5))) = some r := by rw [if_pos rfl] at H; exact H
  clear H
  have H := H1
  clear H1
  have HC6 := am H
  clear H
  go_enter Try.func9, Try.ntmps9
  go_upto_region 3 with (first | ((with_reducible refine gate_dst (N := 4) rfl ?_); (try (refine gG (by rfl) ?_; dsimp only)); refine be ?hg (N := 4) ?hd (cs := #[.int .i64 a1_0, .int .i64 a1_1, .int .i64 a1_2, .int .i64 a1_3, .int .i64 a1_4, .int .i64 a1_5]) (t := 43) ?hr ?_; (case hd | hg => rfl); (case hr => first | (go_simp; done) | (go_simp; rfl)); intro gb549 hg w7 hbox hb; have BK549 := am hbox; have GW549 := sG HB hg; have GE549 := sG HB hg; replace HB := bS HB hb; clear hb hbox hg) | ((with_reducible refine gc (f := 10) rfl ?_); refine goesL_ (some 17) rfl rfl Try.func10 (by kernel_rfl) rfl #[] rfl (by (try simp only [pml]); first | done | rfl | (simp only [pdt]; rfl)) ?_; (with_reducible refine (w_awake.calls  true _ A4.out).mono ?_); rintro e w8 ⟨rfl, hb⟩; refine ⟨_, rfl, ?_⟩; replace BK549 := bB BK549 hb; replace HB := bS HB hb; (try clear hb); (try clear hb2); (try clear hk); (try clear hi)))
  (try simp only [Act.put, psl])
  go_cut [26] (fun v26 wc => ∃ (kq : Nat) (x26_5 : Bool), v26 = .bool x26_5 ∧ Aside0 (w_ModelClashes.j0 kq l0 a2 x26_5 a1_0 a1_1 a1_2 a1_3 a1_4 a1_5 = some r) ∧ Aside0 (kq ≤ k) ∧ Aside0 (wc.heap[gb549]? = some (.cells #[.int .i64 a1_0, .int .i64 a1_1, .int .i64 a1_2, .int .i64 a1_3, .int .i64 a1_4, .int .i64 a1_5] 43 (0, 0))) ∧ Aside0 (Below w.heap.size w wc))
  case first =>
   have H := HC6.out
   clear HC6
   replace H := Option.bind_eq_some_iff.mp H
   obtain ⟨t551, A90, H⟩ := H
   replace H : (if t551 = true then (w_ModelClashes.j0 k l0 a2 (decide ((a2.size : Int) > 60)) a1_0 a1_1 a1_2 a1_3 a1_4 a1_5) else (w_ModelClashes.j0 k l0 a2 true a1_0 a1_1 a1_2 a1_3 a1_4 a1_5)) = some r := H
   have A9 := am A90
   clear A90
   by_cases c10 : t551 = true
   ·subst c10
    have H1 : (w_ModelClashes.j0 k l0 a2 (decide ((a2.size : Int) > 60)) a1_0 a1_1 a1_2 a1_3 a1_4 a1_5) = some r := by rw [if_pos rfl] at H; exact H
    clear H
    have H := H1
    clear H1
    have H' := am H
    clear H
    go_wp2_with (first | ((with_reducible refine gc (f := 11) rfl ?_); refine goesL_ (some 20) rfl rfl Try.func11 (by kernel_rfl) rfl #[.slice A0 l0.length c0, .int .i64 10] rfl (by (try simp only [pml]); first | done | rfl | (simp only [pdt]; rfl)) ?_; (with_reducible refine (r_Small.calls k _ _ l0 10 true _ ?side1 ?side2 A9.out).mono ?_); (case side1 => repeat (first | exact (Kd.C_below HR0.out HB.out) | (with_reducible refine Kd.C_alloc ?_ _) | (with_reducible refine Kd.C_drewN ?_ _) | (with_reducible refine Kd.C_drew ?_))); (case side2 => exact HC0.out); rintro e w' ⟨rfl, ⟨nd, rfl⟩⟩; refine ⟨_, rfl, ?_⟩))
    go_meet
    case rel => exact ⟨_, (decide ((a2.size : Int) > 60)), sqD, H', ⟨by first | omega | exact Nat.le_refl _⟩, ⟨fb BK549.out⟩, ⟨fW HB.out⟩⟩
   replace c10 := Bool.eq_false_iff.mpr c10
   subst c10
   have H1 : (w_ModelClashes.j0 k l0 a2 true a1_0 a1_1 a1_2 a1_3 a1_4 a1_5) = some r := by rw [if_neg (show ¬ (false = true) by decide)] at H; exact H
   clear H
   have H := H1
   clear H1
   have H' := am H
   clear H
   go_wp2_with (first | ((with_reducible refine gc (f := 11) rfl ?_); refine goesL_ (some 20) rfl rfl Try.func11 (by kernel_rfl) rfl #[.slice A0 l0.length c0, .int .i64 10] rfl (by (try simp only [pml]); first | done | rfl | (simp only [pdt]; rfl)) ?_; (with_reducible refine (r_Small.calls k _ _ l0 10 false _ ?side1 ?side2 A9.out).mono ?_); (case side1 => repeat (first | exact (Kd.C_below HR0.out HB.out) | (with_reducible refine Kd.C_alloc ?_ _) | (with_reducible refine Kd.C_drewN ?_ _) | (with_reducible refine Kd.C_drew ?_))); (case side2 => exact HC0.out); rintro e w' ⟨rfl, ⟨nd, rfl⟩⟩; refine ⟨_, rfl, ?_⟩))
   go_meet
   case rel => exact ⟨_, (true), sqD, H', ⟨by first | omega | exact Nat.le_refl _⟩, ⟨fb BK549.out⟩, ⟨fW HB.out⟩⟩
  case rest =>
   clear HC6
   try clear c1;try clear p2;try clear c5;try clear c9;try clear c10
   obtain ⟨kq, x26_5, rfl, HA, HJ5, BK549, HB⟩ := hcut
   cases kq with
   | zero => exact absurd HA.out (by simp [w_ModelClashes.j0])
   | succ kj5 =>
    have H := HA.out
    clear HA
    simp only [w_ModelClashes.j0] at H
    by_cases c11 : x26_5 = true
    ·subst c11
     have H1 : (some true) = some r := by rw [if_pos rfl] at H; exact H
     clear H
     have H := H1
     clear H1
     obtain rfl := Option.some.inj H
     go_wp2
     go_ret
     exact ⟨sqE, fW HB.out⟩
    replace c11 := Bool.eq_false_iff.mpr c11
    subst c11
    have H1 : ((model_Clashes.f kj5 l0).bind fun bt552 => ((model_Without.f kj5 l0 a2).bind fun bt556 => ((model_Volume.f kj5 l0 a1_0 a1_1 a1_2 a1_3 a1_4 a1_5 3).bind fun bt560 => (if bt552.2 = bt556.2 then (w_ModelClashes.l0 kj5 l0 a2 bt552.1 bt552.2 bt556.1 bt560.1 bt560.2 0 a1_0 a1_1 a1_2 a1_3 a1_4 a1_5) else (some false))))) = some r := by rw [if_neg (show ¬ (false = true) by decide)] at H; exact H
    clear H
    have H := H1
    clear H1
    replace H := Option.bind_eq_some_iff.mp H
    obtain ⟨⟨t552, t553⟩, A120, H⟩ := H
    replace H : ((model_Without.f kj5 l0 a2).bind fun bt556 => ((model_Volume.f kj5 l0 a1_0 a1_1 a1_2 a1_3 a1_4 a1_5 3).bind fun bt560 => (if t553 = bt556.2 then (w_ModelClashes.l0 kj5 l0 a2 t552 t553 bt556.1 bt560.1 bt560.2 0 a1_0 a1_1 a1_2 a1_3 a1_4 a1_5) else (some false)))) = some r := H
    have A12 := am A120
    clear A120
    replace H := Option.bind_eq_some_iff.mp H
    obtain ⟨⟨t556, t557⟩, A130, H⟩ := H
    replace H : ((model_Volume.f kj5 l0 a1_0 a1_1 a1_2 a1_3 a1_4 a1_5 3).bind fun bt560 => (if t553 = t557 then (w_ModelClashes.l0 kj5 l0 a2 t552 t553 t556 bt560.1 bt560.2 0 a1_0 a1_1 a1_2 a1_3 a1_4 a1_5) else (some false))) = some r := H
    have A13 := am A130
    clear A130
    replace H := Option.bind_eq_some_iff.mp H
    obtain ⟨⟨t560, t561⟩, A140, H⟩ := H
    replace H : (if t553 = t557 then (w_ModelClashes.l0 kj5 l0 a2 t552 t553 t556 t560 t561 0 a1_0 a1_1 a1_2 a1_3 a1_4 a1_5) else (some false)) = some r := H
    have A14 := am A140
    clear A140
    by_cases c15 : t553 = t557
    rotate_left
    ·rw [if_neg c15] at H
     have c15b0 : (t553 == t557) = false := beq_eq_false_iff_ne.mpr c15
     have c15b1 : (t553 != t557) = true := bne_iff_ne.mpr c15
     obtain rfl := Option.some.inj H
     go_wp2_with (first | ((with_reducible refine gc (f := 27) rfl ?_); refine goesL_ (some 29) rfl rfl Try.func27 (by kernel_rfl) rfl #[.slice A0 l0.length c0] rfl (by (try simp only [pml]); first | done | rfl | (simp only [pdt]; rfl)) ?_; (with_reducible refine (model_Clashes.calls kj5 _ _ l0 t552 t553 _ ?side1 ?side2 A12.out).mono ?_); (case side1 => repeat (first | exact (Kd.C_below HR0.out HB.out) | (with_reducible refine Kd.C_alloc ?_ _) | (with_reducible refine Kd.C_drewN ?_ _) | (with_reducible refine Kd.C_drew ?_))); (case side2 => exact HC0.out); rintro e w75 ⟨v554, rfl, ho0, hb⟩; refine ⟨_, rfl, ?_⟩; have HO555 := am (Kd.R_lower ho0 (below_size (fW HB.out))); replace BK549 := bB BK549 hb; replace HB := bS HB hb; (try clear hb); (try clear hb2); (try clear hk); (try clear hi); (try clear ho0)) | ((with_reducible refine gc (f := 28) rfl ?_); refine goesL_ (some 35) rfl rfl Try.func28 (by kernel_rfl) rfl #[.slice A0 l0.length c0, .string a2] rfl (by (try simp only [pml]); first | done | rfl | (simp only [pdt]; rfl)) ?_; (with_reducible refine (model_Without.calls kj5 _ _ l0 a2 t556 t557 _ ?side1 ?side2 A13.out).mono ?_); (case side1 => repeat (first | exact (Kd.C_below HR0.out HB.out) | (with_reducible refine Kd.C_alloc ?_ _) | (with_reducible refine Kd.C_drewN ?_ _) | (with_reducible refine Kd.C_drew ?_))); (case side2 => exact HC0.out); rintro e w76 ⟨v558, rfl, ho0, hb⟩; refine ⟨_, rfl, ?_⟩; replace HO555 := dR HO555 hb; have HO559 := am (Kd.R_lower ho0 (below_size (fW HB.out))); replace BK549 := bB BK549 hb; replace HB := bS HB hb; (try clear hb); (try clear hb2); (try clear hk); (try clear hi); (try clear ho0); obtain ⟨_, _, _, _, _, _, _, _, _, _, _, _⟩ := zC6 BK549) | ((with_reducible refine gc (f := 21) rfl ?_); refine goesL_ (some 41) rfl rfl Try.func21 (by kernel_rfl) rfl #[.slice A0 l0.length c0, .agg #[.int .i64 a1_0, .int .i64 a1_1, .int .i64 a1_2, .int .i64 a1_3, .int .i64 a1_4, .int .i64 a1_5], .int .i64 3] rfl (by (try simp only [pml]); first | done | rfl | (simp only [pdt]; rfl)) ?_; (with_reducible refine (model_Volume.calls kj5 _ _ l0 a1_0 a1_1 a1_2 a1_3 a1_4 a1_5 3 t560 t561 _ ?side1 ?side2 A14.out).mono ?_); (case side1 => repeat (first | exact (Kd.C_below HR0.out HB.out) | (with_reducible refine Kd.C_alloc ?_ _) | (with_reducible refine Kd.C_drewN ?_ _) | (with_reducible refine Kd.C_drew ?_))); (case side2 => exact HC0.out); rintro e w78 ⟨rfl, hb⟩; refine ⟨_, rfl, ?_⟩; replace HO555 := dR HO555 hb; replace HO559 := dR HO559 hb; replace BK549 := bB BK549 hb; replace HB := bS HB hb; (try clear hb); (try clear hb2); (try clear hk); (try clear hi)))
     go_ret
     exact ⟨sqE, fW HB.out⟩
    rw [if_pos c15] at H
    have c15b0 : (t553 == t557) = true := beq_iff_eq.mpr c15
    have c15b1 : (t553 != t557) = false := bne_eq_false_iff_eq.mpr c15
    clear c15
    have H' := am H
    clear H
    go_wp2_with (first | ((with_reducible refine gc (f := 27) rfl ?_); refine goesL_ (some 29) rfl rfl Try.func27 (by kernel_rfl) rfl #[.slice A0 l0.length c0] rfl (by (try simp only [pml]); first | done | rfl | (simp only [pdt]; rfl)) ?_; (with_reducible refine (model_Clashes.calls kj5 _ _ l0 t552 t553 _ ?side1 ?side2 A12.out).mono ?_); (case side1 => repeat (first | exact (Kd.C_below HR0.out HB.out) | (with_reducible refine Kd.C_alloc ?_ _) | (with_reducible refine Kd.C_drewN ?_ _) | (with_reducible refine Kd.C_drew ?_))); (case side2 => exact HC0.out); rintro e w16 ⟨v554, rfl, ho0, hb⟩; refine ⟨_, rfl, ?_⟩; have HO555 := am (Kd.R_lower ho0 (below_size (fW HB.out))); replace BK549 := bB BK549 hb; replace HB := bS HB hb; (try clear hb); (try clear hb2); (try clear hk); (try clear hi); (try clear ho0)) | ((with_reducible refine gc (f := 28) rfl ?_); refine goesL_ (some 35) rfl rfl Try.func28 (by kernel_rfl) rfl #[.slice A0 l0.length c0, .string a2] rfl (by (try simp only [pml]); first | done | rfl | (simp only [pdt]; rfl)) ?_; (with_reducible refine (model_Without.calls kj5 _ _ l0 a2 t556 t557 _ ?side1 ?side2 A13.out).mono ?_); (case side1 => repeat (first | exact (Kd.C_below HR0.out HB.out) | (with_reducible refine Kd.C_alloc ?_ _) | (with_reducible refine Kd.C_drewN ?_ _) | (with_reducible refine Kd.C_drew ?_))); (case side2 => exact HC0.out); rintro e w17 ⟨v558, rfl, ho0, hb⟩; refine ⟨_, rfl, ?_⟩; replace HO555 := dR HO555 hb; have HO559 := am (Kd.R_lower ho0 (below_size (fW HB.out))); replace BK549 := bB BK549 hb; replace HB := bS HB hb; (try clear hb); (try clear hb2); (try clear hk); (try clear hi); (try clear ho0); obtain ⟨_, _, _, _, _, _, _, _, _, _, _, _⟩ := zC6 BK549) | ((with_reducible refine gc (f := 21) rfl ?_); refine goesL_ (some 41) rfl rfl Try.func21 (by kernel_rfl) rfl #[.slice A0 l0.length c0, .agg #[.int .i64 a1_0, .int .i64 a1_1, .int .i64 a1_2, .int .i64 a1_3, .int .i64 a1_4, .int .i64 a1_5], .int .i64 3] rfl (by (try simp only [pml]); first | done | rfl | (simp only [pdt]; rfl)) ?_; (with_reducible refine (model_Volume.calls kj5 _ _ l0 a1_0 a1_1 a1_2 a1_3 a1_4 a1_5 3 t560 t561 _ ?side1 ?side2 A14.out).mono ?_); (case side1 => repeat (first | exact (Kd.C_below HR0.out HB.out) | (with_reducible refine Kd.C_alloc ?_ _) | (with_reducible refine Kd.C_drewN ?_ _) | (with_reducible refine Kd.C_drew ?_))); (case side2 => exact HC0.out); rintro e w19 ⟨rfl, hb⟩; refine ⟨_, rfl, ?_⟩; replace HO555 := dR HO555 hb; replace HO559 := dR HO559 hb; replace BK549 := bB BK549 hb; replace HB := bS HB hb; (try clear hb); (try clear hb2); (try clear hk); (try clear hi)))
    go_loopg [13] kj5 (fun kq v13 w' => ∃ (x13_2 : Int), v13 = .int .i64 x13_2 ∧ Aside0 (w_ModelClashes.l0 kq l0 a2 t552 t553 t556 t560 t561 x13_2 a1_0 a1_1 a1_2 a1_3 a1_4 a1_5 = some r) ∧ Aside0 (kq ≤ kj5) ∧ Aside0 (Kd.R k65 65 w' w.heap.size (fun _ => True) v554 t552) ∧ Aside0 (Kd.R k68 68 w' w.heap.size (fun _ => True) v558 t556) ∧ Aside0 (w'.heap[gb549]? = some (.cells #[.int .i64 a1_0, .int .i64 a1_1, .int .i64 a1_2, .int .i64 a1_3, .int .i64 a1_4, .int .i64 a1_5] 43 (0, 0))) ∧ Aside0 (Below w.heap.size w w'))
    case atStart => exact ⟨(0), sqD, H', ⟨Nat.le_refl _⟩, ⟨fR HO555.out⟩, ⟨fR HO559.out⟩, ⟨fb BK549.out⟩, ⟨fW HB.out⟩⟩
    case round =>
     clear H'
     try clear c1;try clear c2;try clear p2;try clear c5;try clear c9;try clear c10;try clear c11;try clear c15;try clear c15b0;try clear c15b1;try clear p2
     obtain ⟨x13_2, rfl, HA, HK2, HO_7, HO_9, BK549, HB⟩ := hrel
     cases gk with
     | zero => exact absurd HA.out (by simp [w_ModelClashes.l0])
     | succ k2 =>
      have H := HA.out
      clear HA
      simp only [w_ModelClashes.l0] at H
      by_cases c20 : x13_2 < (t556.length : Int)
      ·rw [if_pos c20] at H
       have c20b0 : decide (x13_2 < (t556.length : Int)) = true := decide_eq_true c20
       clear c20
       by_cases c21 : 0 ≤ x13_2
       rotate_left
       ·rw [if_neg c21] at H
        exact absurd H (by simp)
       rw [if_pos c21] at H
       have c21b0 : decide (0 ≤ x13_2) = true := decide_eq_true c21
       clear c21
       by_cases c22 : ((rd_T68 t556 x13_2).f0).toList = a2.toList
       ·rw [if_pos c22] at H
        have c22b0 : (((rd_T68 t556 x13_2).f0).toList == a2.toList) = true := beq_iff_eq.mpr c22
        have c22b1 : (((rd_T68 t556 x13_2).f0).toList != a2.toList) = false := bne_eq_false_iff_eq.mpr c22
        clear c22
        obtain rfl := Option.some.inj H
        obtain ⟨Ao23, co23, eo23⟩ := Kd.R_slice HO_9.out
        subst eo23
        have p562 : 0 ≤ (x13_2 : Int) := of_decide_eq_true (by assumption)
        have q562 : x13_2 < (t556.length : Int) := of_decide_eq_true (by assumption)
        obtain ⟨ad562, e562, hx562_0, hx562_1, hx562_2, hx562_3, hx562_4, hx562_5, hx562_6, hx562_7⟩ := at_T68 (Kd.R_reads' HO_9.out).2.2 x13_2 p562 q562
        cases e562
        replace p562 := eq_true p562
        replace q562 := eq_true q562
        go_wp2
        go_ret
        exact ⟨sqE, fW HB.out⟩
       rw [if_neg c22] at H
       have c22b0 : (((rd_T68 t556 x13_2).f0).toList == a2.toList) = false := beq_eq_false_iff_ne.mpr c22
       have c22b1 : (((rd_T68 t556 x13_2).f0).toList != a2.toList) = true := bne_iff_ne.mpr c22
       have H' := am H
       clear H
       obtain ⟨Ao24, co24, eo24⟩ := Kd.R_slice HO_9.out
       subst eo24
       have p562 : 0 ≤ (x13_2 : Int) := of_decide_eq_true (by assumption)
       have q562 : x13_2 < (t556.length : Int) := of_decide_eq_true (by assumption)
       obtain ⟨ad562, e562, hx562_0, hx562_1, hx562_2, hx562_3, hx562_4, hx562_5, hx562_6, hx562_7⟩ := at_T68 (Kd.R_reads' HO_9.out).2.2 x13_2 p562 q562
       cases e562
       replace p562 := eq_true p562
       replace q562 := eq_true q562
       go_wp2
       go_roundg k2
       case measure => have := HJ5.out; have := HK2.out; omega
       case rel => exact ⟨(wrap64 (x13_2 + 1)), sqD, H', ⟨by have := HJ5.out; have := HK2.out; omega⟩, ⟨fR HO_7.out⟩, ⟨fR HO_9.out⟩, ⟨fb BK549.out⟩, ⟨fW HB.out⟩⟩
      rw [if_neg c20] at H
      have c20b0 : decide (x13_2 < (t556.length : Int)) = false := decide_eq_false c20
      clear c20
      have HC25 := am H
      clear H
      obtain ⟨Ao26, co26, eo26⟩ := Kd.R_slice HO_9.out
      subst eo26
      go_upto_region 15 with (fail)
      go_cut [65] (fun v65 wc => ∃ (kq : Nat) (x65_24 : Bool), v65 = .bool x65_24 ∧ Aside0 (w_ModelClashes.j2 kq l0 t552 t560 x65_24 a1_0 a1_1 a1_2 a1_3 a1_4 a1_5 = some r) ∧ Aside0 (kq ≤ k2) ∧ Aside0 (Kd.R k65 65 wc w.heap.size (fun _ => True) v554 t552) ∧ Aside0 (wc.heap[gb549]? = some (.cells #[.int .i64 a1_0, .int .i64 a1_1, .int .i64 a1_2, .int .i64 a1_3, .int .i64 a1_4, .int .i64 a1_5] 43 (0, 0))) ∧ Aside0 (Below w.heap.size w wc))
      case first =>
       have H := HC25.out
       clear HC25
       by_cases c27 : t553 = 0
       ·rw [if_pos c27] at H
        have c27b0 : (t553 == 0) = true := beq_iff_eq.mpr c27
        have c27b1 : (t553 != 0) = false := bne_eq_false_iff_eq.mpr c27
        clear c27
        (first | rw [c27b0] | (simp only [i64_w, i32_w]; rw [c27b0]) | skip)
        have H' := am H
        clear H
        go_wp2
        go_meet
        case rel => exact ⟨_, ((t561 != 0)), sqD, H', ⟨by have := HJ5.out; have := HK2.out; first | omega | exact Nat.le_refl _⟩, ⟨fR HO_7.out⟩, ⟨fb BK549.out⟩, ⟨fW HB.out⟩⟩
       rw [if_neg c27] at H
       have c27b0 : (t553 == 0) = false := beq_eq_false_iff_ne.mpr c27
       have c27b1 : (t553 != 0) = true := bne_iff_ne.mpr c27
       (first | rw [c27b0] | (simp only [i64_w, i32_w]; rw [c27b0]) | skip)
       have H' := am H
       clear H
       go_wp2
       go_meet
       case rel => exact ⟨_, (true), sqD, H', ⟨by have := HJ5.out; have := HK2.out; first | omega | exact Nat.le_refl _⟩, ⟨fR HO_7.out⟩, ⟨fb BK549.out⟩, ⟨fW HB.out⟩⟩
      case rest =>
       clear HC25
       try clear c1;try clear c2;try clear p2;try clear c5;try clear p5;try clear q5;try clear hx5;try clear p6;try clear c9;try clear c10;try clear c11;try clear c15;try clear c15b0;try clear c15b1;try clear c20;try clear c20b0;try clear c21;try clear c21b0;try clear c22;try clear c22b0;try clear c22b1;try clear c27;try clear c27b0;try clear c27b1;try clear hx562_0;try clear hx562_1;try clear hx562_2;try clear hx562_3;try clear hx562_4;try clear hx562_5;try clear hx562_6;try clear hx562_7;try clear p2;try clear p562;try clear q562
       obtain ⟨kq, x65_24, rfl, HA, HJ24, HO_7, BK549, HB⟩ := hcut
       cases kq with
       | zero => exact absurd HA.out (by simp [w_ModelClashes.j2])
       | succ kj24 =>
        have H := HA.out
        clear HA
        simp only [w_ModelClashes.j2] at H
        by_cases c28 : x65_24 = true
        ·subst c28
         have H1 : (some true) = some r := by rw [if_pos rfl] at H; exact H
         clear H
         have H := H1
         clear H1
         obtain rfl := Option.some.inj H
         go_wp2
         go_ret
         exact ⟨sqE, fW HB.out⟩
        replace c28 := Bool.eq_false_iff.mpr c28
        subst c28
        have H1 : (w_ModelClashes.l1 kj24 l0 t552 t560 true 0 a1_0 a1_1 a1_2 a1_3 a1_4 a1_5) = some r := by rw [if_neg (show ¬ (false = true) by decide)] at H; exact H
        clear H
        have H := H1
        clear H1
        have H' := am H
        clear H
        go_wp2
        go_loopg [14, 15] kj24 (fun kq v14 v15 w' => ∃ (x14_4 : Bool) (x15_4 : Int), v14 = .bool x14_4 ∧ v15 = .int .i64 x15_4 ∧ Aside0 (w_ModelClashes.l1 kq l0 t552 t560 x14_4 x15_4 a1_0 a1_1 a1_2 a1_3 a1_4 a1_5 = some r) ∧ Aside0 (kq ≤ kj24) ∧ Aside0 (Kd.R k65 65 w' w.heap.size (fun _ => True) v554 t552) ∧ Aside0 (w'.heap[gb549]? = some (.cells #[.int .i64 a1_0, .int .i64 a1_1, .int .i64 a1_2, .int .i64 a1_3, .int .i64 a1_4, .int .i64 a1_5] 43 (0, 0))) ∧ Aside0 (Below w.heap.size w w'))
        case atStart => exact ⟨(true), (0), sqD, sqD, H', ⟨Nat.le_refl _⟩, ⟨fR HO_7.out⟩, ⟨fb BK549.out⟩, ⟨fW HB.out⟩⟩
        case round =>
         clear H'
         try clear c1;try clear c2;try clear p2;try clear c5;try clear p5;try clear q5;try clear hx5;try clear p6;try clear c9;try clear c10;try clear c11;try clear c15;try clear c15b0;try clear c15b1;try clear c20;try clear c20b0;try clear c21;try clear c21b0;try clear c22;try clear c22b0;try clear c22b1;try clear c27;try clear c27b0;try clear c27b1;try clear c28;try clear hx562_0;try clear hx562_1;try clear hx562_2;try clear hx562_3;try clear hx562_4;try clear hx562_5;try clear hx562_6;try clear hx562_7;try clear p2;try clear p5;try clear p562;try clear p6;try clear q5;try clear q562
         obtain ⟨x14_4, x15_4, rfl, rfl, HA, HK4, HO_7, BK549, HB⟩ := hrel
         cases gk with
         | zero => exact absurd HA.out (by simp [w_ModelClashes.l1])
         | succ k4 =>
          have H := HA.out
          clear HA
          simp only [w_ModelClashes.l1] at H
          by_cases c29 : x15_4 < (l0.length : Int)
          rotate_left
          ·rw [if_neg c29] at H
           have c29b0 : decide (x15_4 < (l0.length : Int)) = false := decide_eq_false c29
           clear c29
           have HC65 := am H
           clear H
           go_upto_region 23 with (fail)
           go_cut [6] (fun v6 wc => ∃ (kq : Nat) (x6_64 : Bool), v6 = .bool x6_64 ∧ Aside0 (w_ModelClashes.j5 kq x6_64 = some r) ∧ Aside0 (kq ≤ k4) ∧ Aside0 (wc.heap[gb549]? = some (.cells #[.int .i64 a1_0, .int .i64 a1_1, .int .i64 a1_2, .int .i64 a1_3, .int .i64 a1_4, .int .i64 a1_5] 43 (0, 0))) ∧ Aside0 (Below w.heap.size w wc))
           case first =>
            have H := HC65.out
            clear HC65
            by_cases c66 : (t552.length : Int) > 0
            ·rw [if_pos c66] at H
             have c66b0 : decide (0 < (t552.length : Int)) = true := decide_eq_true c66
             have c66b1 : decide (0 < t552.length) = true := decide_eq_true (by omega)
             clear c66
             (first | rw [c66b0] | (simp only [i64_w, i32_w]; rw [c66b0]) | skip)
             by_cases c67 : x14_4 = true
             ·subst c67
              have H1 : (w_ModelClashes.j5 k4 ((decide ((t552.length : Int) > 0)) == (decide (t560 > 0)))) = some r := by rw [if_pos rfl] at H; exact H
              clear H
              have H := H1
              clear H1
              have H' := am H
              clear H
              obtain ⟨Ao68, co68, eo68⟩ := Kd.R_slice HO_7.out
              subst eo68
              go_wp2
              go_meet
              case rel => exact ⟨_, (((decide ((t552.length : Int) > 0)) == (decide (t560 > 0)))), sqD, H', ⟨by have := HJ5.out; have := HK2.out; have := HJ24.out; have := HK4.out; first | omega | exact Nat.le_refl _⟩, ⟨fb BK549.out⟩, ⟨fW HB.out⟩⟩
             replace c67 := Bool.eq_false_iff.mpr c67
             subst c67
             have H1 : (w_ModelClashes.j5 k4 true) = some r := by rw [if_neg (show ¬ (false = true) by decide)] at H; exact H
             clear H
             have H := H1
             clear H1
             have H' := am H
             clear H
             obtain ⟨Ao69, co69, eo69⟩ := Kd.R_slice HO_7.out
             subst eo69
             go_wp2
             go_meet
             case rel => exact ⟨_, (true), sqD, H', ⟨by have := HJ5.out; have := HK2.out; have := HJ24.out; have := HK4.out; first | omega | exact Nat.le_refl _⟩, ⟨fb BK549.out⟩, ⟨fW HB.out⟩⟩
            rw [if_neg c66] at H
            have c66b0 : decide (0 < (t552.length : Int)) = false := decide_eq_false c66
            have c66b1 : decide (0 < t552.length) = false := decide_eq_false (by omega)
            clear c66
            (first | rw [c66b0] | (simp only [i64_w, i32_w]; rw [c66b0]) | skip)
            by_cases c70 : t560 = 0
            rotate_left
            ·rw [if_neg c70] at H
             have c70b0 : (t560 == 0) = false := beq_eq_false_iff_ne.mpr c70
             have c70b1 : (t560 != 0) = true := bne_iff_ne.mpr c70
             have H' := am H
             clear H
             obtain ⟨Ao74, co74, eo74⟩ := Kd.R_slice HO_7.out
             subst eo74
             go_wp2
             go_meet
             case rel => exact ⟨_, (false), sqD, H', ⟨by have := HJ5.out; have := HK2.out; have := HJ24.out; have := HK4.out; first | omega | exact Nat.le_refl _⟩, ⟨fb BK549.out⟩, ⟨fW HB.out⟩⟩
            rw [if_pos c70] at H
            have c70b0 : (t560 == 0) = true := beq_iff_eq.mpr c70
            have c70b1 : (t560 != 0) = false := bne_eq_false_iff_eq.mpr c70
            clear c70
            by_cases c71 : x14_4 = true
            ·subst c71
             have H1 : (w_ModelClashes.j5 k4 ((decide ((t552.length : Int) > 0)) == (decide (t560 > 0)))) = some r := by rw [if_pos rfl] at H; exact H
             clear H
             have H := H1
             clear H1
             have H' := am H
             clear H
             obtain ⟨Ao72, co72, eo72⟩ := Kd.R_slice HO_7.out
             subst eo72
             go_wp2
             go_meet
             case rel => exact ⟨_, (((decide ((t552.length : Int) > 0)) == (decide (t560 > 0)))), sqD, H', ⟨by have := HJ5.out; have := HK2.out; have := HJ24.out; have := HK4.out; first | omega | exact Nat.le_refl _⟩, ⟨fb BK549.out⟩, ⟨fW HB.out⟩⟩
            replace c71 := Bool.eq_false_iff.mpr c71
            subst c71
            have H1 : (w_ModelClashes.j5 k4 true) = some r := by rw [if_neg (show ¬ (false = true) by decide)] at H; exact H
            clear H
            have H := H1
            clear H1
            have H' := am H
            clear H
            obtain ⟨Ao73, co73, eo73⟩ := Kd.R_slice HO_7.out
            subst eo73
            go_wp2
            go_meet
            case rel => exact ⟨_, (true), sqD, H', ⟨by have := HJ5.out; have := HK2.out; have := HJ24.out; have := HK4.out; first | omega | exact Nat.le_refl _⟩, ⟨fb BK549.out⟩, ⟨fW HB.out⟩⟩
           case rest =>
            clear HC65
            try clear c1;try clear c2;try clear p2;try clear c3;try clear c4;try clear c5;try clear p5;try clear q5;try clear hx5;try clear c6;try clear p6;try clear c7;try clear c9;try clear c10;try clear c11;try clear c15;try clear c15b0;try clear c15b1;try clear c20;try clear c20b0;try clear c21;try clear c21b0;try clear c22;try clear c22b0;try clear c22b1;try clear c27;try clear c27b0;try clear c27b1;try clear c28;try clear c29;try clear c29b0;try clear c31;try clear c31b0;try clear c32;try clear c33;try clear c33b0;try clear c34;try clear c34b0;try clear c35;try clear c35b0;try clear c36;try clear c36b0;try clear c37;try clear c37b0;try clear c39;try clear c43;try clear c47;try clear c51;try clear c55;try clear p56;try clear q56;try clear hx56;try clear c59;try clear c63;try clear p64;try clear c66;try clear c66b0;try clear c66b1;try clear c67;try clear c70;try clear c70b0;try clear c70b1;try clear c71;try clear hx562_0;try clear hx562_1;try clear hx562_2;try clear hx562_3;try clear hx562_4;try clear hx562_5;try clear hx562_6;try clear hx562_7;try clear hx563_0;try clear hx563_1;try clear hx563_2;try clear hx563_3;try clear hx563_4;try clear hx563_5;try clear hx563_6;try clear hx563_7;try clear p2;try clear p5;try clear p56;try clear p562;try clear p563;try clear p6;try clear p64;try clear q5;try clear q56;try clear q562;try clear q563
            obtain ⟨kq, x6_64, rfl, HA, HJ64, BK549, HB⟩ := hcut
            cases kq with
            | zero => exact absurd HA.out (by simp [w_ModelClashes.j5])
            | succ kj64 =>
             have H := HA.out
             clear HA
             simp only [w_ModelClashes.j5] at H
             obtain rfl := Option.some.inj H
             go_wp2
             go_ret
             exact ⟨sqE, fW HB.out⟩
          rw [if_pos c29] at H
          have c29b0 : decide (x15_4 < (l0.length : Int)) = true := decide_eq_true c29
          clear c29
          have HC30 := am H
          clear H
          go_upto_block 3 with (fail)
          go_cut [14] (fun v14 wc => ∃ (kq : Nat) (x14_29 : Bool), v14 = .bool x14_29 ∧ Aside0 (w_ModelClashes.j4 kq l0 t552 t560 x14_29 x15_4 a1_0 a1_1 a1_2 a1_3 a1_4 a1_5 = some r) ∧ Aside0 (kq ≤ k4) ∧ Aside0 (Kd.R k65 65 wc w.heap.size (fun _ => True) v554 t552) ∧ Aside0 (wc.heap[gb549]? = some (.cells #[.int .i64 a1_0, .int .i64 a1_1, .int .i64 a1_2, .int .i64 a1_3, .int .i64 a1_4, .int .i64 a1_5] 43 (0, 0))) ∧ Aside0 (Below w.heap.size w wc))
          case first =>
           have H := HC30.out
           clear HC30
           by_cases c31 : 0 ≤ x15_4
           rotate_left
           ·rw [if_neg c31] at H
            exact absurd H (by simp)
           rw [if_pos c31] at H
           have c31b0 : decide (0 ≤ x15_4) = true := decide_eq_true c31
           clear c31
           (first | rw [c31b0] | (simp only [i64_w, i32_w]; rw [c31b0]) | skip)
           by_cases c32 : x14_4 = true
           rotate_left
           ·replace c32 := Bool.eq_false_iff.mpr c32
            subst c32
            have H1 : (w_ModelClashes.j4 k4 l0 t552 t560 false x15_4 a1_0 a1_1 a1_2 a1_3 a1_4 a1_5) = some r := by rw [if_neg (show ¬ (false = true) by decide)] at H; exact H
            clear H
            have H := H1
            clear H1
            have H' := am H
            clear H
            have p563 : 0 ≤ (x15_4 : Int) := of_decide_eq_true (by assumption)
            have q563 : x15_4 < (l0.length : Int) := of_decide_eq_true (by assumption)
            obtain ⟨ad563, e563, hx563_0, hx563_1, hx563_2, hx563_3, hx563_4, hx563_5, hx563_6, hx563_7⟩ := at_T68 HR0.out x15_4 p563 q563
            cases e563
            replace hx563_0 := cl HB hx563_0
            replace hx563_1 := cl HB hx563_1
            replace hx563_2 := cl HB hx563_2
            replace hx563_3 := cl HB hx563_3
            replace hx563_4 := cl HB hx563_4
            replace hx563_5 := cl HB hx563_5
            replace hx563_6 := cl HB hx563_6
            replace hx563_7 := cl HB hx563_7
            replace p563 := eq_true p563
            replace q563 := eq_true q563
            go_wp2_with (first | ((with_reducible refine gate_dst (N := 16) rfl ?_); (try (refine gG (by rfl) ?_; dsimp only)); refine be ?hg (N := 16) ?hd (cs := #[.int .i64 0, .int .i64 0, .int .i64 0, .int .i64 0, .int .i64 0, .int .i64 0]) (t := 43) ?hr ?_; (case hd | hg => rfl); (case hr => first | (go_simp; done) | (go_simp; rfl)); intro gb564 hg w62 hbox hb; replace HO_7 := dR HO_7 hb; have BK564 := am hbox; have GW564 := sG HB hg; have GE564 := sG HB hg; replace HB := bS HB hb; have NB549_564 := nL BK549 hg; have NB564_549 := nG BK549 hg; replace BK549 := bB BK549 hb; clear hb hbox hg; have hnb63 := NB564_549.out; have hnc63 := NB549_564.out; obtain ⟨_, _, _, _, _, _, _, _, _, _, _, _⟩ := zC6 BK564))
            go_meet
            case rel => exact ⟨_, (false), sqD, H', ⟨by have := HJ5.out; have := HK2.out; have := HJ24.out; have := HK4.out; first | omega | exact Nat.le_refl _⟩, ⟨by (with_reducible repeat (first | apply Kd.R_alloc | apply Kd.R_drewN | apply Kd.R_drew)); exact Kd.R_mono (Kd.R_far (p := ⟨gb564, 5, none⟩) (Kd.R_far (p := ⟨gb564, 4, none⟩) (Kd.R_far (p := ⟨gb564, 3, none⟩) (Kd.R_far (p := ⟨gb564, 2, none⟩) (Kd.R_far (p := ⟨gb564, 1, none⟩) (Kd.R_far (p := ⟨gb564, 0, none⟩) (Kd.R_types HO_7.out BK564.out (by decide)) (fun _ hk => hk.2) (.int .i64 ((rd_T68 l0 x15_4).f1.f0.f0))) (fun _ hk => hk.2) (.int .i64 ((rd_T68 l0 x15_4).f1.f0.f1))) (fun _ hk => hk.2) (.int .i64 ((rd_T68 l0 x15_4).f1.f0.f2))) (fun _ hk => hk.2) (.int .i64 ((rd_T68 l0 x15_4).f1.f1.f0))) (fun _ hk => hk.2) (.int .i64 ((rd_T68 l0 x15_4).f1.f1.f1))) (fun _ hk => hk.2) (.int .i64 ((rd_T68 l0 x15_4).f1.f1.f2))) (fun _ hk => trivial)⟩, ⟨by (with_reducible repeat first | apply bN | apply bd | apply ba); refine bF ?_ NB549_564.out _; (with_reducible repeat first | apply bN | apply bd | apply ba); refine bF ?_ NB549_564.out _; (with_reducible repeat first | apply bN | apply bd | apply ba); refine bF ?_ NB549_564.out _; (with_reducible repeat first | apply bN | apply bd | apply ba); refine bF ?_ NB549_564.out _; (with_reducible repeat first | apply bN | apply bd | apply ba); refine bF ?_ NB549_564.out _; (with_reducible repeat first | apply bN | apply bd | apply ba); refine bF ?_ NB549_564.out _; (with_reducible repeat first | apply bN | apply bd | apply ba); exact BK549.out⟩, ⟨fW HB.out⟩⟩
           subst c32
           have H1 : (if a1_0 ≤ ((rd_T68 l0 x15_4).f1.f0.f0) then (if a1_1 ≤ ((rd_T68 l0 x15_4).f1.f0.f1) then (if a1_2 ≤ ((rd_T68 l0 x15_4).f1.f0.f2) then (if ((rd_T68 l0 x15_4).f1.f1.f0) ≤ a1_3 then (if ((rd_T68 l0 x15_4).f1.f1.f1) ≤ a1_4 then (w_ModelClashes.j4 k4 l0 t552 t560 (decide (((rd_T68 l0 x15_4).f1.f1.f2) ≤ a1_5)) x15_4 a1_0 a1_1 a1_2 a1_3 a1_4 a1_5) else (w_ModelClashes.j4 k4 l0 t552 t560 false x15_4 a1_0 a1_1 a1_2 a1_3 a1_4 a1_5)) else (w_ModelClashes.j4 k4 l0 t552 t560 false x15_4 a1_0 a1_1 a1_2 a1_3 a1_4 a1_5)) else (w_ModelClashes.j4 k4 l0 t552 t560 false x15_4 a1_0 a1_1 a1_2 a1_3 a1_4 a1_5)) else (w_ModelClashes.j4 k4 l0 t552 t560 false x15_4 a1_0 a1_1 a1_2 a1_3 a1_4 a1_5)) else (w_ModelClashes.j4 k4 l0 t552 t560 false x15_4 a1_0 a1_1 a1_2 a1_3 a1_4 a1_5)) = some r := by rw [if_pos rfl] at H; exact H
           clear H
           have H := H1
           clear H1
           by_cases c33 : a1_0 ≤ ((rd_T68 l0 x15_4).f1.f0.f0)
           rotate_left
           ·rw [if_neg c33] at H
            have c33b0 : decide (a1_0 ≤ ((rd_T68 l0 x15_4).f1.f0.f0)) = false := decide_eq_false c33
            clear c33
            have H' := am H
            clear H
            have p563 : 0 ≤ (x15_4 : Int) := of_decide_eq_true (by assumption)
            have q563 : x15_4 < (l0.length : Int) := of_decide_eq_true (by assumption)
            obtain ⟨ad563, e563, hx563_0, hx563_1, hx563_2, hx563_3, hx563_4, hx563_5, hx563_6, hx563_7⟩ := at_T68 HR0.out x15_4 p563 q563
            cases e563
            replace hx563_0 := cl HB hx563_0
            replace hx563_1 := cl HB hx563_1
            replace hx563_2 := cl HB hx563_2
            replace hx563_3 := cl HB hx563_3
            replace hx563_4 := cl HB hx563_4
            replace hx563_5 := cl HB hx563_5
            replace hx563_6 := cl HB hx563_6
            replace hx563_7 := cl HB hx563_7
            replace p563 := eq_true p563
            replace q563 := eq_true q563
            go_wp2_with (first | ((with_reducible refine gate_dst (N := 16) rfl ?_); (try (refine gG (by rfl) ?_; dsimp only)); refine be ?hg (N := 16) ?hd (cs := #[.int .i64 0, .int .i64 0, .int .i64 0, .int .i64 0, .int .i64 0, .int .i64 0]) (t := 43) ?hr ?_; (case hd | hg => rfl); (case hr => first | (go_simp; done) | (go_simp; rfl)); intro gb564 hg w58 hbox hb; replace HO_7 := dR HO_7 hb; have BK564 := am hbox; have GW564 := sG HB hg; have GE564 := sG HB hg; replace HB := bS HB hb; have NB549_564 := nL BK549 hg; have NB564_549 := nG BK549 hg; replace BK549 := bB BK549 hb; clear hb hbox hg; have hnb59 := NB564_549.out; have hnc59 := NB549_564.out; obtain ⟨_, _, _, _, _, _, _, _, _, _, _, _⟩ := zC6 BK564; obtain ⟨_, _, _, _, _, _, _, _, _, _, _, _⟩ := zC6 BK549))
            go_meet
            case rel => exact ⟨_, (false), sqD, H', ⟨by have := HJ5.out; have := HK2.out; have := HJ24.out; have := HK4.out; first | omega | exact Nat.le_refl _⟩, ⟨by (with_reducible repeat (first | apply Kd.R_alloc | apply Kd.R_drewN | apply Kd.R_drew)); exact Kd.R_mono (Kd.R_far (p := ⟨gb564, 5, none⟩) (Kd.R_far (p := ⟨gb564, 4, none⟩) (Kd.R_far (p := ⟨gb564, 3, none⟩) (Kd.R_far (p := ⟨gb564, 2, none⟩) (Kd.R_far (p := ⟨gb564, 1, none⟩) (Kd.R_far (p := ⟨gb564, 0, none⟩) (Kd.R_types HO_7.out BK564.out (by decide)) (fun _ hk => hk.2) (.int .i64 ((rd_T68 l0 x15_4).f1.f0.f0))) (fun _ hk => hk.2) (.int .i64 ((rd_T68 l0 x15_4).f1.f0.f1))) (fun _ hk => hk.2) (.int .i64 ((rd_T68 l0 x15_4).f1.f0.f2))) (fun _ hk => hk.2) (.int .i64 ((rd_T68 l0 x15_4).f1.f1.f0))) (fun _ hk => hk.2) (.int .i64 ((rd_T68 l0 x15_4).f1.f1.f1))) (fun _ hk => hk.2) (.int .i64 ((rd_T68 l0 x15_4).f1.f1.f2))) (fun _ hk => trivial)⟩, ⟨by (with_reducible repeat first | apply bN | apply bd | apply ba); refine bF ?_ NB549_564.out _; (with_reducible repeat first | apply bN | apply bd | apply ba); refine bF ?_ NB549_564.out _; (with_reducible repeat first | apply bN | apply bd | apply ba); refine bF ?_ NB549_564.out _; (with_reducible repeat first | apply bN | apply bd | apply ba); refine bF ?_ NB549_564.out _; (with_reducible repeat first | apply bN | apply bd | apply ba); refine bF ?_ NB549_564.out _; (with_reducible repeat first | apply bN | apply bd | apply ba); refine bF ?_ NB549_564.out _; (with_reducible repeat first | apply bN | apply bd | apply ba); exact BK549.out⟩, ⟨fW HB.out⟩⟩
           rw [if_pos c33] at H
           have c33b0 : decide (a1_0 ≤ ((rd_T68 l0 x15_4).f1.f0.f0)) = true := decide_eq_true c33
           clear c33
           by_cases c34 : a1_1 ≤ ((rd_T68 l0 x15_4).f1.f0.f1)
           rotate_left
           ·rw [if_neg c34] at H
            have c34b0 : decide (a1_1 ≤ ((rd_T68 l0 x15_4).f1.f0.f1)) = false := decide_eq_false c34
            clear c34
            have H' := am H
            clear H
            have p563 : 0 ≤ (x15_4 : Int) := of_decide_eq_true (by assumption)
            have q563 : x15_4 < (l0.length : Int) := of_decide_eq_true (by assumption)
            obtain ⟨ad563, e563, hx563_0, hx563_1, hx563_2, hx563_3, hx563_4, hx563_5, hx563_6, hx563_7⟩ := at_T68 HR0.out x15_4 p563 q563
            cases e563
            replace hx563_0 := cl HB hx563_0
            replace hx563_1 := cl HB hx563_1
            replace hx563_2 := cl HB hx563_2
            replace hx563_3 := cl HB hx563_3
            replace hx563_4 := cl HB hx563_4
            replace hx563_5 := cl HB hx563_5
            replace hx563_6 := cl HB hx563_6
            replace hx563_7 := cl HB hx563_7
            replace p563 := eq_true p563
            replace q563 := eq_true q563
            go_wp2_with (first | ((with_reducible refine gate_dst (N := 16) rfl ?_); (try (refine gG (by rfl) ?_; dsimp only)); refine be ?hg (N := 16) ?hd (cs := #[.int .i64 0, .int .i64 0, .int .i64 0, .int .i64 0, .int .i64 0, .int .i64 0]) (t := 43) ?hr ?_; (case hd | hg => rfl); (case hr => first | (go_simp; done) | (go_simp; rfl)); intro gb564 hg w54 hbox hb; replace HO_7 := dR HO_7 hb; have BK564 := am hbox; have GW564 := sG HB hg; have GE564 := sG HB hg; replace HB := bS HB hb; have NB549_564 := nL BK549 hg; have NB564_549 := nG BK549 hg; replace BK549 := bB BK549 hb; clear hb hbox hg; have hnb55 := NB564_549.out; have hnc55 := NB549_564.out; obtain ⟨_, _, _, _, _, _, _, _, _, _, _, _⟩ := zC6 BK564; obtain ⟨_, _, _, _, _, _, _, _, _, _, _, _⟩ := zC6 BK549))
            go_meet
            case rel => exact ⟨_, (false), sqD, H', ⟨by have := HJ5.out; have := HK2.out; have := HJ24.out; have := HK4.out; first | omega | exact Nat.le_refl _⟩, ⟨by (with_reducible repeat (first | apply Kd.R_alloc | apply Kd.R_drewN | apply Kd.R_drew)); exact Kd.R_mono (Kd.R_far (p := ⟨gb564, 5, none⟩) (Kd.R_far (p := ⟨gb564, 4, none⟩) (Kd.R_far (p := ⟨gb564, 3, none⟩) (Kd.R_far (p := ⟨gb564, 2, none⟩) (Kd.R_far (p := ⟨gb564, 1, none⟩) (Kd.R_far (p := ⟨gb564, 0, none⟩) (Kd.R_types HO_7.out BK564.out (by decide)) (fun _ hk => hk.2) (.int .i64 ((rd_T68 l0 x15_4).f1.f0.f0))) (fun _ hk => hk.2) (.int .i64 ((rd_T68 l0 x15_4).f1.f0.f1))) (fun _ hk => hk.2) (.int .i64 ((rd_T68 l0 x15_4).f1.f0.f2))) (fun _ hk => hk.2) (.int .i64 ((rd_T68 l0 x15_4).f1.f1.f0))) (fun _ hk => hk.2) (.int .i64 ((rd_T68 l0 x15_4).f1.f1.f1))) (fun _ hk => hk.2) (.int .i64 ((rd_T68 l0 x15_4).f1.f1.f2))) (fun _ hk => trivial)⟩, ⟨by (with_reducible repeat first | apply bN | apply bd | apply ba); refine bF ?_ NB549_564.out _; (with_reducible repeat first | apply bN | apply bd | apply ba); refine bF ?_ NB549_564.out _; (with_reducible repeat first | apply bN | apply bd | apply ba); refine bF ?_ NB549_564.out _; (with_reducible repeat first | apply bN | apply bd | apply ba); refine bF ?_ NB549_564.out _; (with_reducible repeat first | apply bN | apply bd | apply ba); refine bF ?_ NB549_564.out _; (with_reducible repeat first | apply bN | apply bd | apply ba); refine bF ?_ NB549_564.out _; (with_reducible repeat first | apply bN | apply bd | apply ba); exact BK549.out⟩, ⟨fW HB.out⟩⟩
           rw [if_pos c34] at H
           have c34b0 : decide (a1_1 ≤ ((rd_T68 l0 x15_4).f1.f0.f1)) = true := decide_eq_true c34
           clear c34
           by_cases c35 : a1_2 ≤ ((rd_T68 l0 x15_4).f1.f0.f2)
           rotate_left
           ·rw [if_neg c35] at H
            have c35b0 : decide (a1_2 ≤ ((rd_T68 l0 x15_4).f1.f0.f2)) = false := decide_eq_false c35
            clear c35
            have H' := am H
            clear H
            have p563 : 0 ≤ (x15_4 : Int) := of_decide_eq_true (by assumption)
            have q563 : x15_4 < (l0.length : Int) := of_decide_eq_true (by assumption)
            obtain ⟨ad563, e563, hx563_0, hx563_1, hx563_2, hx563_3, hx563_4, hx563_5, hx563_6, hx563_7⟩ := at_T68 HR0.out x15_4 p563 q563
            cases e563
            replace hx563_0 := cl HB hx563_0
            replace hx563_1 := cl HB hx563_1
            replace hx563_2 := cl HB hx563_2
            replace hx563_3 := cl HB hx563_3
            replace hx563_4 := cl HB hx563_4
            replace hx563_5 := cl HB hx563_5
            replace hx563_6 := cl HB hx563_6
            replace hx563_7 := cl HB hx563_7
            replace p563 := eq_true p563
            replace q563 := eq_true q563
            go_wp2_with (first | ((with_reducible refine gate_dst (N := 16) rfl ?_); (try (refine gG (by rfl) ?_; dsimp only)); refine be ?hg (N := 16) ?hd (cs := #[.int .i64 0, .int .i64 0, .int .i64 0, .int .i64 0, .int .i64 0, .int .i64 0]) (t := 43) ?hr ?_; (case hd | hg => rfl); (case hr => first | (go_simp; done) | (go_simp; rfl)); intro gb564 hg w50 hbox hb; replace HO_7 := dR HO_7 hb; have BK564 := am hbox; have GW564 := sG HB hg; have GE564 := sG HB hg; replace HB := bS HB hb; have NB549_564 := nL BK549 hg; have NB564_549 := nG BK549 hg; replace BK549 := bB BK549 hb; clear hb hbox hg; have hnb51 := NB564_549.out; have hnc51 := NB549_564.out; obtain ⟨_, _, _, _, _, _, _, _, _, _, _, _⟩ := zC6 BK564; obtain ⟨_, _, _, _, _, _, _, _, _, _, _, _⟩ := zC6 BK549))
            go_meet
            case rel => exact ⟨_, (false), sqD, H', ⟨by have := HJ5.out; have := HK2.out; have := HJ24.out; have := HK4.out; first | omega | exact Nat.le_refl _⟩, ⟨by (with_reducible repeat (first | apply Kd.R_alloc | apply Kd.R_drewN | apply Kd.R_drew)); exact Kd.R_mono (Kd.R_far (p := ⟨gb564, 5, none⟩) (Kd.R_far (p := ⟨gb564, 4, none⟩) (Kd.R_far (p := ⟨gb564, 3, none⟩) (Kd.R_far (p := ⟨gb564, 2, none⟩) (Kd.R_far (p := ⟨gb564, 1, none⟩) (Kd.R_far (p := ⟨gb564, 0, none⟩) (Kd.R_types HO_7.out BK564.out (by decide)) (fun _ hk => hk.2) (.int .i64 ((rd_T68 l0 x15_4).f1.f0.f0))) (fun _ hk => hk.2) (.int .i64 ((rd_T68 l0 x15_4).f1.f0.f1))) (fun _ hk => hk.2) (.int .i64 ((rd_T68 l0 x15_4).f1.f0.f2))) (fun _ hk => hk.2) (.int .i64 ((rd_T68 l0 x15_4).f1.f1.f0))) (fun _ hk => hk.2) (.int .i64 ((rd_T68 l0 x15_4).f1.f1.f1))) (fun _ hk => hk.2) (.int .i64 ((rd_T68 l0 x15_4).f1.f1.f2))) (fun _ hk => trivial)⟩, ⟨by (with_reducible repeat first | apply bN | apply bd | apply ba); refine bF ?_ NB549_564.out _; (with_reducible repeat first | apply bN | apply bd | apply ba); refine bF ?_ NB549_564.out _; (with_reducible repeat first | apply bN | apply bd | apply ba); refine bF ?_ NB549_564.out _; (with_reducible repeat first | apply bN | apply bd | apply ba); refine bF ?_ NB549_564.out _; (with_reducible repeat first | apply bN | apply bd | apply ba); refine bF ?_ NB549_564.out _; (with_reducible repeat first | apply bN | apply bd | apply ba); refine bF ?_ NB549_564.out _; (with_reducible repeat first | apply bN | apply bd | apply ba); exact BK549.out⟩, ⟨fW HB.out⟩⟩
           rw [if_pos c35] at H
           have c35b0 : decide (a1_2 ≤ ((rd_T68 l0 x15_4).f1.f0.f2)) = true := decide_eq_true c35
           clear c35
           by_cases c36 : ((rd_T68 l0 x15_4).f1.f1.f0) ≤ a1_3
           rotate_left
           ·rw [if_neg c36] at H
            have c36b0 : decide (((rd_T68 l0 x15_4).f1.f1.f0) ≤ a1_3) = false := decide_eq_false c36
            clear c36
            have H' := am H
            clear H
            have p563 : 0 ≤ (x15_4 : Int) := of_decide_eq_true (by assumption)
            have q563 : x15_4 < (l0.length : Int) := of_decide_eq_true (by assumption)
            obtain ⟨ad563, e563, hx563_0, hx563_1, hx563_2, hx563_3, hx563_4, hx563_5, hx563_6, hx563_7⟩ := at_T68 HR0.out x15_4 p563 q563
            cases e563
            replace hx563_0 := cl HB hx563_0
            replace hx563_1 := cl HB hx563_1
            replace hx563_2 := cl HB hx563_2
            replace hx563_3 := cl HB hx563_3
            replace hx563_4 := cl HB hx563_4
            replace hx563_5 := cl HB hx563_5
            replace hx563_6 := cl HB hx563_6
            replace hx563_7 := cl HB hx563_7
            replace p563 := eq_true p563
            replace q563 := eq_true q563
            go_wp2_with (first | ((with_reducible refine gate_dst (N := 16) rfl ?_); (try (refine gG (by rfl) ?_; dsimp only)); refine be ?hg (N := 16) ?hd (cs := #[.int .i64 0, .int .i64 0, .int .i64 0, .int .i64 0, .int .i64 0, .int .i64 0]) (t := 43) ?hr ?_; (case hd | hg => rfl); (case hr => first | (go_simp; done) | (go_simp; rfl)); intro gb564 hg w46 hbox hb; replace HO_7 := dR HO_7 hb; have BK564 := am hbox; have GW564 := sG HB hg; have GE564 := sG HB hg; replace HB := bS HB hb; have NB549_564 := nL BK549 hg; have NB564_549 := nG BK549 hg; replace BK549 := bB BK549 hb; clear hb hbox hg; have hnb47 := NB564_549.out; have hnc47 := NB549_564.out; obtain ⟨_, _, _, _, _, _, _, _, _, _, _, _⟩ := zC6 BK564; obtain ⟨_, _, _, _, _, _, _, _, _, _, _, _⟩ := zC6 BK549))
            go_meet
            case rel => exact ⟨_, (false), sqD, H', ⟨by have := HJ5.out; have := HK2.out; have := HJ24.out; have := HK4.out; first | omega | exact Nat.le_refl _⟩, ⟨by (with_reducible repeat (first | apply Kd.R_alloc | apply Kd.R_drewN | apply Kd.R_drew)); exact Kd.R_mono (Kd.R_far (p := ⟨gb564, 5, none⟩) (Kd.R_far (p := ⟨gb564, 4, none⟩) (Kd.R_far (p := ⟨gb564, 3, none⟩) (Kd.R_far (p := ⟨gb564, 2, none⟩) (Kd.R_far (p := ⟨gb564, 1, none⟩) (Kd.R_far (p := ⟨gb564, 0, none⟩) (Kd.R_types HO_7.out BK564.out (by decide)) (fun _ hk => hk.2) (.int .i64 ((rd_T68 l0 x15_4).f1.f0.f0))) (fun _ hk => hk.2) (.int .i64 ((rd_T68 l0 x15_4).f1.f0.f1))) (fun _ hk => hk.2) (.int .i64 ((rd_T68 l0 x15_4).f1.f0.f2))) (fun _ hk => hk.2) (.int .i64 ((rd_T68 l0 x15_4).f1.f1.f0))) (fun _ hk => hk.2) (.int .i64 ((rd_T68 l0 x15_4).f1.f1.f1))) (fun _ hk => hk.2) (.int .i64 ((rd_T68 l0 x15_4).f1.f1.f2))) (fun _ hk => trivial)⟩, ⟨by (with_reducible repeat first | apply bN | apply bd | apply ba); refine bF ?_ NB549_564.out _; (with_reducible repeat first | apply bN | apply bd | apply ba); refine bF ?_ NB549_564.out _; (with_reducible repeat first | apply bN | apply bd | apply ba); refine bF ?_ NB549_564.out _; (with_reducible repeat first | apply bN | apply bd | apply ba); refine bF ?_ NB549_564.out _; (with_reducible repeat first | apply bN | apply bd | apply ba); refine bF ?_ NB549_564.out _; (with_reducible repeat first | apply bN | apply bd | apply ba); refine bF ?_ NB549_564.out _; (with_reducible repeat first | apply bN | apply bd | apply ba); exact BK549.out⟩, ⟨fW HB.out⟩⟩
           rw [if_pos c36] at H
           have c36b0 : decide (((rd_T68 l0 x15_4).f1.f1.f0) ≤ a1_3) = true := decide_eq_true c36
           clear c36
           by_cases c37 : ((rd_T68 l0 x15_4).f1.f1.f1) ≤ a1_4
           ·rw [if_pos c37] at H
            have c37b0 : decide (((rd_T68 l0 x15_4).f1.f1.f1) ≤ a1_4) = true := decide_eq_true c37
            clear c37
            have H' := am H
            clear H
            have p563 : 0 ≤ (x15_4 : Int) := of_decide_eq_true (by assumption)
            have q563 : x15_4 < (l0.length : Int) := of_decide_eq_true (by assumption)
            obtain ⟨ad563, e563, hx563_0, hx563_1, hx563_2, hx563_3, hx563_4, hx563_5, hx563_6, hx563_7⟩ := at_T68 HR0.out x15_4 p563 q563
            cases e563
            replace hx563_0 := cl HB hx563_0
            replace hx563_1 := cl HB hx563_1
            replace hx563_2 := cl HB hx563_2
            replace hx563_3 := cl HB hx563_3
            replace hx563_4 := cl HB hx563_4
            replace hx563_5 := cl HB hx563_5
            replace hx563_6 := cl HB hx563_6
            replace hx563_7 := cl HB hx563_7
            replace p563 := eq_true p563
            replace q563 := eq_true q563
            go_wp2_with (first | ((with_reducible refine gate_dst (N := 16) rfl ?_); (try (refine gG (by rfl) ?_; dsimp only)); refine be ?hg (N := 16) ?hd (cs := #[.int .i64 0, .int .i64 0, .int .i64 0, .int .i64 0, .int .i64 0, .int .i64 0]) (t := 43) ?hr ?_; (case hd | hg => rfl); (case hr => first | (go_simp; done) | (go_simp; rfl)); intro gb564 hg w38 hbox hb; replace HO_7 := dR HO_7 hb; have BK564 := am hbox; have GW564 := sG HB hg; have GE564 := sG HB hg; replace HB := bS HB hb; have NB549_564 := nL BK549 hg; have NB564_549 := nG BK549 hg; replace BK549 := bB BK549 hb; clear hb hbox hg; have hnb39 := NB564_549.out; have hnc39 := NB549_564.out; obtain ⟨_, _, _, _, _, _, _, _, _, _, _, _⟩ := zC6 BK564; obtain ⟨_, _, _, _, _, _, _, _, _, _, _, _⟩ := zC6 BK549))
            go_meet
            case rel => exact ⟨_, (decide (((rd_T68 l0 x15_4).f1.f1.f2) ≤ a1_5)), sqD, H', ⟨by have := HJ5.out; have := HK2.out; have := HJ24.out; have := HK4.out; first | omega | exact Nat.le_refl _⟩, ⟨by (with_reducible repeat (first | apply Kd.R_alloc | apply Kd.R_drewN | apply Kd.R_drew)); exact Kd.R_mono (Kd.R_far (p := ⟨gb564, 5, none⟩) (Kd.R_far (p := ⟨gb564, 4, none⟩) (Kd.R_far (p := ⟨gb564, 3, none⟩) (Kd.R_far (p := ⟨gb564, 2, none⟩) (Kd.R_far (p := ⟨gb564, 1, none⟩) (Kd.R_far (p := ⟨gb564, 0, none⟩) (Kd.R_types HO_7.out BK564.out (by decide)) (fun _ hk => hk.2) (.int .i64 ((rd_T68 l0 x15_4).f1.f0.f0))) (fun _ hk => hk.2) (.int .i64 ((rd_T68 l0 x15_4).f1.f0.f1))) (fun _ hk => hk.2) (.int .i64 ((rd_T68 l0 x15_4).f1.f0.f2))) (fun _ hk => hk.2) (.int .i64 ((rd_T68 l0 x15_4).f1.f1.f0))) (fun _ hk => hk.2) (.int .i64 ((rd_T68 l0 x15_4).f1.f1.f1))) (fun _ hk => hk.2) (.int .i64 ((rd_T68 l0 x15_4).f1.f1.f2))) (fun _ hk => trivial)⟩, ⟨by (with_reducible repeat first | apply bN | apply bd | apply ba); refine bF ?_ NB549_564.out _; (with_reducible repeat first | apply bN | apply bd | apply ba); refine bF ?_ NB549_564.out _; (with_reducible repeat first | apply bN | apply bd | apply ba); refine bF ?_ NB549_564.out _; (with_reducible repeat first | apply bN | apply bd | apply ba); refine bF ?_ NB549_564.out _; (with_reducible repeat first | apply bN | apply bd | apply ba); refine bF ?_ NB549_564.out _; (with_reducible repeat first | apply bN | apply bd | apply ba); refine bF ?_ NB549_564.out _; (with_reducible repeat first | apply bN | apply bd | apply ba); exact BK549.out⟩, ⟨fW HB.out⟩⟩
           rw [if_neg c37] at H
           have c37b0 : decide (((rd_T68 l0 x15_4).f1.f1.f1) ≤ a1_4) = false := decide_eq_false c37
           clear c37
           have H' := am H
           clear H
           have p563 : 0 ≤ (x15_4 : Int) := of_decide_eq_true (by assumption)
           have q563 : x15_4 < (l0.length : Int) := of_decide_eq_true (by assumption)
           obtain ⟨ad563, e563, hx563_0, hx563_1, hx563_2, hx563_3, hx563_4, hx563_5, hx563_6, hx563_7⟩ := at_T68 HR0.out x15_4 p563 q563
           cases e563
           replace hx563_0 := cl HB hx563_0
           replace hx563_1 := cl HB hx563_1
           replace hx563_2 := cl HB hx563_2
           replace hx563_3 := cl HB hx563_3
           replace hx563_4 := cl HB hx563_4
           replace hx563_5 := cl HB hx563_5
           replace hx563_6 := cl HB hx563_6
           replace hx563_7 := cl HB hx563_7
           replace p563 := eq_true p563
           replace q563 := eq_true q563
           go_wp2_with (first | ((with_reducible refine gate_dst (N := 16) rfl ?_); (try (refine gG (by rfl) ?_; dsimp only)); refine be ?hg (N := 16) ?hd (cs := #[.int .i64 0, .int .i64 0, .int .i64 0, .int .i64 0, .int .i64 0, .int .i64 0]) (t := 43) ?hr ?_; (case hd | hg => rfl); (case hr => first | (go_simp; done) | (go_simp; rfl)); intro gb564 hg w42 hbox hb; replace HO_7 := dR HO_7 hb; have BK564 := am hbox; have GW564 := sG HB hg; have GE564 := sG HB hg; replace HB := bS HB hb; have NB549_564 := nL BK549 hg; have NB564_549 := nG BK549 hg; replace BK549 := bB BK549 hb; clear hb hbox hg; have hnb43 := NB564_549.out; have hnc43 := NB549_564.out; obtain ⟨_, _, _, _, _, _, _, _, _, _, _, _⟩ := zC6 BK564; obtain ⟨_, _, _, _, _, _, _, _, _, _, _, _⟩ := zC6 BK549))
           go_meet
           case rel => exact ⟨_, (false), sqD, H', ⟨by have := HJ5.out; have := HK2.out; have := HJ24.out; have := HK4.out; first | omega | exact Nat.le_refl _⟩, ⟨by (with_reducible repeat (first | apply Kd.R_alloc | apply Kd.R_drewN | apply Kd.R_drew)); exact Kd.R_mono (Kd.R_far (p := ⟨gb564, 5, none⟩) (Kd.R_far (p := ⟨gb564, 4, none⟩) (Kd.R_far (p := ⟨gb564, 3, none⟩) (Kd.R_far (p := ⟨gb564, 2, none⟩) (Kd.R_far (p := ⟨gb564, 1, none⟩) (Kd.R_far (p := ⟨gb564, 0, none⟩) (Kd.R_types HO_7.out BK564.out (by decide)) (fun _ hk => hk.2) (.int .i64 ((rd_T68 l0 x15_4).f1.f0.f0))) (fun _ hk => hk.2) (.int .i64 ((rd_T68 l0 x15_4).f1.f0.f1))) (fun _ hk => hk.2) (.int .i64 ((rd_T68 l0 x15_4).f1.f0.f2))) (fun _ hk => hk.2) (.int .i64 ((rd_T68 l0 x15_4).f1.f1.f0))) (fun _ hk => hk.2) (.int .i64 ((rd_T68 l0 x15_4).f1.f1.f1))) (fun _ hk => hk.2) (.int .i64 ((rd_T68 l0 x15_4).f1.f1.f2))) (fun _ hk => trivial)⟩, ⟨by (with_reducible repeat first | apply bN | apply bd | apply ba); refine bF ?_ NB549_564.out _; (with_reducible repeat first | apply bN | apply bd | apply ba); refine bF ?_ NB549_564.out _; (with_reducible repeat first | apply bN | apply bd | apply ba); refine bF ?_ NB549_564.out _; (with_reducible repeat first | apply bN | apply bd | apply ba); refine bF ?_ NB549_564.out _; (with_reducible repeat first | apply bN | apply bd | apply ba); refine bF ?_ NB549_564.out _; (with_reducible repeat first | apply bN | apply bd | apply ba); refine bF ?_ NB549_564.out _; (with_reducible repeat first | apply bN | apply bd | apply ba); exact BK549.out⟩, ⟨fW HB.out⟩⟩
          case rest =>
           clear HC30
           try clear c1;try clear c2;try clear p2;try clear c3;try clear c4;try clear c5;try clear p5;try clear q5;try clear hx5;try clear c6;try clear p6;try clear c9;try clear c10;try clear c11;try clear c15;try clear c15b0;try clear c15b1;try clear c20;try clear c20b0;try clear c21;try clear c21b0;try clear c22;try clear c22b0;try clear c22b1;try clear c27;try clear c27b0;try clear c27b1;try clear c28;try clear c29;try clear c29b0;try clear c31;try clear c31b0;try clear c32;try clear c33;try clear c33b0;try clear c34;try clear c34b0;try clear c35;try clear c35b0;try clear c36;try clear c36b0;try clear c37;try clear c37b0;try clear c39;try clear c43;try clear c47;try clear c51;try clear c55;try clear p56;try clear q56;try clear hx56;try clear c59;try clear c63;try clear p64;try clear hx562_0;try clear hx562_1;try clear hx562_2;try clear hx562_3;try clear hx562_4;try clear hx562_5;try clear hx562_6;try clear hx562_7;try clear hx563_0;try clear hx563_1;try clear hx563_2;try clear hx563_3;try clear hx563_4;try clear hx563_5;try clear hx563_6;try clear hx563_7;try clear p2;try clear p5;try clear p562;try clear p563;try clear p6;try clear q5;try clear q562;try clear q563
           obtain ⟨kq, x14_29, rfl, HA, HJ29, HO_7, BK549, HB⟩ := hcut
           cases kq with
           | zero => exact absurd HA.out (by simp [w_ModelClashes.j4])
           | succ kj29 =>
            have H := HA.out
            clear HA
            simp only [w_ModelClashes.j4] at H
            have H' := am H
            clear H
            go_wp2
            go_roundg kj29
            case measure => have := HJ5.out; have := HK2.out; have := HJ24.out; have := HK4.out; have := HJ29.out; omega
            case rel => exact ⟨(x14_29), (wrap64 (x15_4 + 1)), sqD, sqD, H', ⟨by have := HJ5.out; have := HK2.out; have := HJ24.out; have := HK4.out; have := HJ29.out; omega⟩, ⟨fR HO_7.out⟩, ⟨fb BK549.out⟩, ⟨fW HB.out⟩⟩
 ·replace c5 := Bool.eq_false_iff.mpr c5
  subst c5
  have H1 : (some false) = some r := by rw [if_neg (show ¬ (false = true) by decide)] at H; exact H
  clear H
  have H := H1
  clear H1
  obtain rfl := Option.some.inj H
  go_enter Try.func9, Try.ntmps9
  go_wp2_with (first | ((with_reducible refine gate_dst (N := 4) rfl ?_); (try (refine gG (by rfl) ?_; dsimp only)); refine be ?hg (N := 4) ?hd (cs := #[.int .i64 a1_0, .int .i64 a1_1, .int .i64 a1_2, .int .i64 a1_3, .int .i64 a1_4, .int .i64 a1_5]) (t := 43) ?hr ?_; (case hd | hg => rfl); (case hr => first | (go_simp; done) | (go_simp; rfl)); intro gb549 hg w79 hbox hb; have BK549 := am hbox; have GW549 := sG HB hg; have GE549 := sG HB hg; replace HB := bS HB hb; clear hb hbox hg) | ((with_reducible refine gc (f := 10) rfl ?_); refine goesL_ (some 17) rfl rfl Try.func10 (by kernel_rfl) rfl #[] rfl (by (try simp only [pml]); first | done | rfl | (simp only [pdt]; rfl)) ?_; (with_reducible refine (w_awake.calls  false _ A4.out).mono ?_); rintro e w80 ⟨rfl, hb⟩; refine ⟨_, rfl, ?_⟩; replace BK549 := bB BK549 hb; replace HB := bS HB hb; (try clear hb); (try clear hb2); (try clear hk); (try clear hi)))
  go_ret
  exact ⟨sqE, fW HB.out⟩

def w_ModelClashes.Pure : Prop := ∀ (l0 : List (S68)) (a1_0 : Int) (a1_1 : Int) (a1_2 : Int) (a1_3 : Int) (a1_4 : Int) (a1_5 : Int) (a2 : ByteArray), (l0.length ≤ maxLen ∧ ∀ e4_, e4_ ∈ l0 → okS68 e4_) → ((Lit.int .i64 a1_0).wf = true) → ((Lit.int .i64 a1_1).wf = true) → ((Lit.int .i64 a1_2).wf = true) → ((Lit.int .i64 a1_3).wf = true) → ((Lit.int .i64 a1_4).wf = true) → ((Lit.int .i64 a1_5).wf = true) → (a2.size ≤ maxLen) → ∃ k, w_ModelClashes.f k l0 a1_0 a1_1 a1_2 a1_3 a1_4 a1_5 a2 = some true
theorem w_ModelClashes.walk (P_ : w_ModelClashes.Pure) (A0 : Option Addr) (c0 : Nat) (l0 : List (S68)) (a1_0 : Int) (a1_1 : Int) (a1_2 : Int) (a1_3 : Int) (a1_4 : Int) (a1_5 : Int) (a2 : ByteArray) (w : World) (hr0 : Kd.C k68 w A0 l0.length l0) (hc0 : l0.length ≤ c0) (o0 : (l0.length ≤ maxLen ∧ ∀ e4_, e4_ ∈ l0 → okS68 e4_)) (o1 : ((Lit.int .i64 a1_0).wf = true)) (o2 : ((Lit.int .i64 a1_1).wf = true)) (o3 : ((Lit.int .i64 a1_2).wf = true)) (o4 : ((Lit.int .i64 a1_3).wf = true)) (o5 : ((Lit.int .i64 a1_4).wf = true)) (o6 : ((Lit.int .i64 a1_5).wf = true)) (o7 : (a2.size ≤ maxLen)) :
  Calls Try.prog 9 #[.slice A0 l0.length c0, .agg #[.int .i64 a1_0, .int .i64 a1_1, .int .i64 a1_2, .int .i64 a1_3, .int .i64 a1_4, .int .i64 a1_5], .string a2] w fun e w' => e = .returned (.bool true) ∧ Below w.heap.size w w' := by
 obtain ⟨k, h⟩ := P_ l0 a1_0 a1_1 a1_2 a1_3 a1_4 a1_5 a2 o0 o1 o2 o3 o4 o5 o6 o7
 refine (w_ModelClashes.calls k A0 c0 l0 a1_0 a1_1 a1_2 a1_3 a1_4 a1_5 a2 true w hr0 hc0 h).mono ?_
 rintro e w' ⟨rfl, hd⟩
 exact ⟨rfl, hd⟩

end Go.Proofs.Ytcofgnbopodahaa.QA
