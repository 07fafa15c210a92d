import Derived.Test.YtcofgnbopodahaaZQAx0
import Derived.Test.YtcofgnbopodahaaZQAx6
import Derived.Test.YtcofgnbopodahaaZQAx8
import Derived.Test.YtcofgnbopodahaaZQAx9
import Derived.Test.YtcofgnbopodahaaZQAx11
import Derived.Test.YtcofgnbopodahaaZQAx18
namespace Go.Proofs.Ytcofgnbopodahaa.QA
open Go.RowKit Go.Proofs.YtcofgnbopodahaaW.PrintWords Go.Proofs.YtcofgnbopodahaaW.PrintLast Go.Proofs.YtcofgnbopodahaaW.PrintMore
open Go.Proofs.YtcofgnbopodahaaW.PrintWords renaming blk_drewN → bN, blk_drew → bd, blk_alloc → ba, blk_frozen → bf, gate_callee → gc
open Aside0 renaming mk → am
attribute [local go_sem] max2_int min2_int max_two min_two max_three min_three max_four min_four
set_option linter.unusedVariables false
set_option linter.unusedSimpArgs false

mutual
def w_ModelSums.l0 : Nat → List (S68) → Int → Int → Int → Int → Int → Int → Int → Int → Option (Bool)
 | 0, _, _, _, _, _, _, _, _, _ => none
 | k + 1, x0, x5, x6, x473000, x473001, x473002, x473003, x473004, x473005 => if x6 ≤ 3 then ((model_Volume.f k x0 x473000 x473001 x473002 x473003 x473004 x473005 x6).bind fun bt475 => (if bt475.2 = 0 then ((model_All.f k x0 x473000 x473001 x473002 x473003 x473004 x473005 x6).bind fun bt477 => ((model_First.f k x0 x473000 x473001 x473002 x473003 x473004 x473005 x6).bind fun bt479 => (if bt475.1 < 0 then (w_ModelSums.j1 k x0 x5 x6 bt475.1 bt479.2.2.2 (wrap64 ((wrap64 ((wrap64 (x473003 - x473000)) * (wrap64 (x473004 - x473001)))) * (wrap64 (x473005 - x473002)))) true x473000 x473001 x473002 x473003 x473004 x473005 bt479.1 bt479.2.1 bt479.2.2.1) else (if bt477.2 = 0 then (if (bt477.1 != (bt475.1 == (wrap64 ((wrap64 ((wrap64 (x473003 - x473000)) * (wrap64 (x473004 - x473001)))) * (wrap64 (x473005 - x473002)))))) = true then (w_ModelSums.j1 k x0 x5 x6 bt475.1 bt479.2.2.2 (wrap64 ((wrap64 ((wrap64 (x473003 - x473000)) * (wrap64 (x473004 - x473001)))) * (wrap64 (x473005 - x473002)))) true x473000 x473001 x473002 x473003 x473004 x473005 bt479.1 bt479.2.1 bt479.2.2.1) else (w_ModelSums.j1 k x0 x5 x6 bt475.1 bt479.2.2.2 (wrap64 ((wrap64 ((wrap64 (x473003 - x473000)) * (wrap64 (x473004 - x473001)))) * (wrap64 (x473005 - x473002)))) ((bt479.2.2.2 == 0) != (decide (bt475.1 > 0))) x473000 x473001 x473002 x473003 x473004 x473005 bt479.1 bt479.2.1 bt479.2.2.1)) else (w_ModelSums.j1 k x0 x5 x6 bt475.1 bt479.2.2.2 (wrap64 ((wrap64 ((wrap64 (x473003 - x473000)) * (wrap64 (x473004 - x473001)))) * (wrap64 (x473005 - x473002)))) true x473000 x473001 x473002 x473003 x473004 x473005 bt479.1 bt479.2.1 bt479.2.2.1))))) else (some (bt475.1 == 0)))) else (some true)
def w_ModelSums.j4 : Nat → List (S68) → Int → Int → Int → Int → Int → Int → Int → Int → Option (Bool)
 | 0, _, _, _, _, _, _, _, _, _ => none
 | k + 1, x0, x5, x6, x473000, x473001, x473002, x473003, x473004, x473005 => w_ModelSums.l0 k x0 x5 (wrap64 (x6 + 1)) x473000 x473001 x473002 x473003 x473004 x473005
def w_ModelSums.j1 : Nat → List (S68) → Int → Int → Int → Int → Int → Bool → Int → Int → Int → Int → Int → Int → Int → Int → Int → Option (Bool)
 | 0, _, _, _, _, _, _, _, _, _, _, _, _, _, _, _, _ => none
 | k + 1, x0, x5, x6, x7, x12, x13, x92, x473000, x473001, x473002, x473003, x473004, x473005, x484000, x484001, x484002 => if x92 = true then (some false) else (if x12 = 0 then ((model_State.f k x0 x484000 x484001 x484002).bind fun bt484 => (if bt484.2 = 0 then (if bt484.1 = x6 then (if x484000 < x473000 then (w_ModelSums.j2 k x0 x5 x6 x7 x13 true x473000 x473001 x473002 x473003 x473004 x473005) else (if x484001 < x473001 then (w_ModelSums.j2 k x0 x5 x6 x7 x13 true x473000 x473001 x473002 x473003 x473004 x473005) else (if x484002 < x473002 then (w_ModelSums.j2 k x0 x5 x6 x7 x13 true x473000 x473001 x473002 x473003 x473004 x473005) else (if x484000 ≥ x473003 then (w_ModelSums.j2 k x0 x5 x6 x7 x13 true x473000 x473001 x473002 x473003 x473004 x473005) else (if x484001 ≥ x473004 then (w_ModelSums.j2 k x0 x5 x6 x7 x13 true x473000 x473001 x473002 x473003 x473004 x473005) else (w_ModelSums.j2 k x0 x5 x6 x7 x13 (decide (x484002 ≥ x473005)) x473000 x473001 x473002 x473003 x473004 x473005)))))) else (w_ModelSums.j2 k x0 x5 x6 x7 x13 true x473000 x473001 x473002 x473003 x473004 x473005)) else (w_ModelSums.j2 k x0 x5 x6 x7 x13 true x473000 x473001 x473002 x473003 x473004 x473005))) else (w_ModelSums.j3 k x0 x5 x6 x7 x13 x473000 x473001 x473002 x473003 x473004 x473005))
def w_ModelSums.j3 : Nat → List (S68) → Int → Int → Int → Int → Int → Int → Int → Int → Int → Int → Option (Bool)
 | 0, _, _, _, _, _, _, _, _, _, _, _ => none
 | k + 1, x0, x5, x6, x7, x13, x473000, x473001, x473002, x473003, x473004, x473005 => if x6 = 3 then (if (wrap64 (x5 + x7)) = x13 then (w_ModelSums.j4 k x0 (wrap64 (x5 + x7)) x6 x473000 x473001 x473002 x473003 x473004 x473005) else (some false)) else (w_ModelSums.j4 k x0 (wrap64 (x5 + x7)) x6 x473000 x473001 x473002 x473003 x473004 x473005)
def w_ModelSums.j2 : Nat → List (S68) → Int → Int → Int → Int → Bool → Int → Int → Int → Int → Int → Int → Option (Bool)
 | 0, _, _, _, _, _, _, _, _, _, _, _, _ => none
 | k + 1, x0, x5, x6, x7, x13, x155, x473000, x473001, x473002, x473003, x473004, x473005 => if x155 = true then (some false) else (w_ModelSums.j3 k x0 x5 x6 x7 x13 x473000 x473001 x473002 x473003 x473004 x473005)
end
def w_ModelSums.f (k : Nat) (l0 : List (S68)) (a1_0 : Int) (a1_1 : Int) (a1_2 : Int) (a1_3 : Int) (a1_4 : Int) (a1_5 : Int) : Option (Bool) := (w_awake.f).bind fun t473 => (if t473 = true then ((r_Small.f k l0 10).bind fun t474 => (if t474 = true then (w_ModelSums.l0 k l0 0 0 a1_0 a1_1 a1_2 a1_3 a1_4 a1_5) else (some true))) else (some false))
set_option maxHeartbeats 8000000 in
set_option maxRecDepth 100000 in
theorem w_ModelSums.calls (k : Nat) (A0 : Option Addr) (c0 : Nat) (l0 : List (S68)) (a1_0 : Int) (a1_1 : Int) (a1_2 : Int) (a1_3 : Int) (a1_4 : Int) (a1_5 : Int) (r : Bool) (w : World) (hr0 : Kd.C k68 w A0 l0.length l0) (hc0 : l0.length ≤ c0) (h : w_ModelSums.f k l0 a1_0 a1_1 a1_2 a1_3 a1_4 a1_5 = some r) :
  Calls Try.prog 7 #[.slice A0 l0.length c0, .agg #[.int .i64 a1_0, .int .i64 a1_1, .int .i64 a1_2, .int .i64 a1_3, .int .i64 a1_4, .int .i64 a1_5]] w fun e w' => e = .returned (.bool r) ∧ Below w.heap.size w w' := by
 have hu43 := Try.underlying43
 have hu24 := Try.underlying24
 have HR0 := am hr0
 have HC0 := am hc0
 clear hr0 hc0
 have HB := am (Below.refl w.heap.size w)
 have H : ((w_awake.f).bind fun t473 => (if t473 = true then ((r_Small.f k l0 10).bind fun t474 => (if t474 = true then (w_ModelSums.l0 k l0 0 0 a1_0 a1_1 a1_2 a1_3 a1_4 a1_5) else (some true))) else (some false))) = some r := h
 clear h
 replace H := Option.bind_eq_some_iff.mp H
 obtain ⟨t473, A30, H⟩ := H
 replace H : (if t473 = true then ((r_Small.f k l0 10).bind fun t474 => (if t474 = true then (w_ModelSums.l0 k l0 0 0 a1_0 a1_1 a1_2 a1_3 a1_4 a1_5) else (some true))) else (some false)) = some r := H
 have A3 := am A30
 clear A30
 by_cases c4 : t473 = true
 ·subst c4
  have H1 : ((r_Small.f k l0 10).bind fun t474 => (if t474 = true then (w_ModelSums.l0 k l0 0 0 a1_0 a1_1 a1_2 a1_3 a1_4 a1_5) else (some true))) = some r := by rw [if_pos rfl] at H; exact H
  clear H
  have H := H1
  clear H1
  replace H := Option.bind_eq_some_iff.mp H
  obtain ⟨t474, A50, H⟩ := H
  replace H : (if t474 = true then (w_ModelSums.l0 k l0 0 0 a1_0 a1_1 a1_2 a1_3 a1_4 a1_5) else (some true)) = some r := H
  have A5 := am A50
  clear A50
  by_cases c6 : t474 = true
  rotate_left
  ·replace c6 := Bool.eq_false_iff.mpr c6
   subst c6
   have H1 : (some true) = some r := by rw [if_neg (show ¬ (false = true) by decide)] at H; exact H
   clear H
   have H := H1
   clear H1
   obtain rfl := Option.some.inj H
   go_enter Try.func7, Try.ntmps7
   go_wp2_with (first | ((with_reducible refine gate_dst (N := 3) rfl ?_); refine box_event ?hg (N := 3) ?hd (cs := #[.int .i64 a1_0, .int .i64 a1_1, .int .i64 a1_2, .int .i64 a1_3, .int .i64 a1_4, .int .i64 a1_5]) (t := 43) ?hr ?_; (case hd | hg => rfl); (case hr => first | (go_simp; done) | (go_simp; rfl)); intro gb472 hg w67 hbox hb; have BK472 := am hbox; have GW472 := sG HB hg; have GE472 := sG HB hg; replace HB := bS HB hb; clear hb hbox hg) | ((with_reducible refine gc (f := 10) rfl ?_); refine goesL_ (some 16) rfl rfl Try.func10 (by kernel_rfl) rfl #[] rfl (by (try simp only [pml]); first | done | rfl | (simp only [pdt]; rfl)) ?_; (with_reducible refine (w_awake.calls  true _ A3.out).mono ?_); rintro e w68 ⟨rfl, hb⟩; refine ⟨_, rfl, ?_⟩; replace BK472 := bB BK472 hb; replace HB := bS HB hb; (try clear hb); (try clear hb2); (try clear hk); (try clear hi)) | ((with_reducible refine gc (f := 11) rfl ?_); refine goesL_ (some 19) rfl rfl Try.func11 (by kernel_rfl) rfl #[.slice A0 l0.length c0, .int .i64 10] rfl (by (try simp only [pml]); first | done | rfl | (simp only [pdt]; rfl)) ?_; (with_reducible refine (r_Small.calls k _ _ l0 10 false _ ?side1 ?side2 A5.out).mono ?_); (case side1 => repeat (first | exact (Kd.C_below HR0.out HB.out) | (with_reducible refine Kd.C_alloc ?_ _) | (with_reducible refine Kd.C_drewN ?_ _) | (with_reducible refine Kd.C_drew ?_))); (case side2 => exact HC0.out); rintro e w' ⟨rfl, ⟨nd, rfl⟩⟩; refine ⟨_, rfl, ?_⟩))
   go_ret
   exact ⟨sqE, fW HB.out⟩
  subst c6
  have H1 : (w_ModelSums.l0 k l0 0 0 a1_0 a1_1 a1_2 a1_3 a1_4 a1_5) = some r := by rw [if_pos rfl] at H; exact H
  clear H
  have H := H1
  clear H1
  have H' := am H
  clear H
  go_enter Try.func7, Try.ntmps7
  go_wp2_with (first | ((with_reducible refine gate_dst (N := 3) rfl ?_); refine box_event ?hg (N := 3) ?hd (cs := #[.int .i64 a1_0, .int .i64 a1_1, .int .i64 a1_2, .int .i64 a1_3, .int .i64 a1_4, .int .i64 a1_5]) (t := 43) ?hr ?_; (case hd | hg => rfl); (case hr => first | (go_simp; done) | (go_simp; rfl)); intro gb472 hg w7 hbox hb; have BK472 := am hbox; have GW472 := sG HB hg; have GE472 := sG HB hg; replace HB := bS HB hb; clear hb hbox hg) | ((with_reducible refine gc (f := 10) rfl ?_); refine goesL_ (some 16) rfl rfl Try.func10 (by kernel_rfl) rfl #[] rfl (by (try simp only [pml]); first | done | rfl | (simp only [pdt]; rfl)) ?_; (with_reducible refine (w_awake.calls  true _ A3.out).mono ?_); rintro e w8 ⟨rfl, hb⟩; refine ⟨_, rfl, ?_⟩; replace BK472 := bB BK472 hb; replace HB := bS HB hb; (try clear hb); (try clear hb2); (try clear hk); (try clear hi)) | ((with_reducible refine gc (f := 11) rfl ?_); refine goesL_ (some 19) rfl rfl Try.func11 (by kernel_rfl) rfl #[.slice A0 l0.length c0, .int .i64 10] rfl (by (try simp only [pml]); first | done | rfl | (simp only [pdt]; rfl)) ?_; (with_reducible refine (r_Small.calls k _ _ l0 10 true _ ?side1 ?side2 A5.out).mono ?_); (case side1 => repeat (first | exact (Kd.C_below HR0.out HB.out) | (with_reducible refine Kd.C_alloc ?_ _) | (with_reducible refine Kd.C_drewN ?_ _) | (with_reducible refine Kd.C_drew ?_))); (case side2 => exact HC0.out); rintro e w' ⟨rfl, ⟨nd, rfl⟩⟩; refine ⟨_, rfl, ?_⟩))
  go_loopg [5, 6] k (fun kq v5 v6 w' => ∃ (x5_1 : Int) (x6_1 : Int), v5 = .int .i64 x5_1 ∧ v6 = .int .i64 x6_1 ∧ Aside0 (w_ModelSums.l0 kq l0 x5_1 x6_1 a1_0 a1_1 a1_2 a1_3 a1_4 a1_5 = some r) ∧ Aside0 (kq ≤ k) ∧ Aside0 (w'.heap[gb472]? = some (.cells #[.int .i64 a1_0, .int .i64 a1_1, .int .i64 a1_2, .int .i64 a1_3, .int .i64 a1_4, .int .i64 a1_5] 43 (0, 0))) ∧ Aside0 (Below w.heap.size w w'))
  case atStart => exact ⟨(0), (0), sqD, sqD, H', ⟨Nat.le_refl _⟩, ⟨fb BK472.out⟩, ⟨fW HB.out⟩⟩
  case round =>
   clear H'
   try clear c1;try clear p2;try clear c4;try clear c6;try clear c7
   obtain ⟨x5_1, x6_1, rfl, rfl, HA, HK1, BK472, HB⟩ := hrel
   cases gk with
   | zero => exact absurd HA.out (by simp [w_ModelSums.l0])
   | succ k1 =>
    have H := HA.out
    clear HA
    simp only [w_ModelSums.l0] at H
    by_cases c9 : x6_1 ≤ 3
    rotate_left
    ·rw [if_neg c9] at H
     have c9b0 : decide (x6_1 ≤ 3) = false := decide_eq_false c9
     clear c9
     obtain rfl := Option.some.inj H
     go_wp2
     go_ret
     exact ⟨sqE, fW HB.out⟩
    rw [if_pos c9] at H
    have c9b0 : decide (x6_1 ≤ 3) = true := decide_eq_true c9
    clear c9
    have HC10 := am H
    clear H
    go_upto_block 1 with (fail)
    go_cut [5] (fun v5 wc => ∃ (kq : Nat) (x5_9 : Int), v5 = .int .i64 x5_9 ∧ Aside0 (w_ModelSums.j4 kq l0 x5_9 x6_1 a1_0 a1_1 a1_2 a1_3 a1_4 a1_5 = some r) ∧ Aside0 (kq ≤ k1) ∧ Aside0 (wc.heap[gb472]? = some (.cells #[.int .i64 a1_0, .int .i64 a1_1, .int .i64 a1_2, .int .i64 a1_3, .int .i64 a1_4, .int .i64 a1_5] 43 (0, 0))) ∧ Aside0 (Below w.heap.size w wc))
    case first =>
     have H := HC10.out
     clear HC10
     replace H := Option.bind_eq_some_iff.mp H
     obtain ⟨⟨t475, t476⟩, A110, H⟩ := H
     replace H : (if t476 = 0 then ((model_All.f k1 l0 a1_0 a1_1 a1_2 a1_3 a1_4 a1_5 x6_1).bind fun bt477 => ((model_First.f k1 l0 a1_0 a1_1 a1_2 a1_3 a1_4 a1_5 x6_1).bind fun bt479 => (if t475 < 0 then (w_ModelSums.j1 k1 l0 x5_1 x6_1 t475 bt479.2.2.2 (wrap64 ((wrap64 ((wrap64 (a1_3 - a1_0)) * (wrap64 (a1_4 - a1_1)))) * (wrap64 (a1_5 - a1_2)))) true a1_0 a1_1 a1_2 a1_3 a1_4 a1_5 bt479.1 bt479.2.1 bt479.2.2.1) else (if bt477.2 = 0 then (if (bt477.1 != (t475 == (wrap64 ((wrap64 ((wrap64 (a1_3 - a1_0)) * (wrap64 (a1_4 - a1_1)))) * (wrap64 (a1_5 - a1_2)))))) = true then (w_ModelSums.j1 k1 l0 x5_1 x6_1 t475 bt479.2.2.2 (wrap64 ((wrap64 ((wrap64 (a1_3 - a1_0)) * (wrap64 (a1_4 - a1_1)))) * (wrap64 (a1_5 - a1_2)))) true a1_0 a1_1 a1_2 a1_3 a1_4 a1_5 bt479.1 bt479.2.1 bt479.2.2.1) else (w_ModelSums.j1 k1 l0 x5_1 x6_1 t475 bt479.2.2.2 (wrap64 ((wrap64 ((wrap64 (a1_3 - a1_0)) * (wrap64 (a1_4 - a1_1)))) * (wrap64 (a1_5 - a1_2)))) ((bt479.2.2.2 == 0) != (decide (t475 > 0))) a1_0 a1_1 a1_2 a1_3 a1_4 a1_5 bt479.1 bt479.2.1 bt479.2.2.1)) else (w_ModelSums.j1 k1 l0 x5_1 x6_1 t475 bt479.2.2.2 (wrap64 ((wrap64 ((wrap64 (a1_3 - a1_0)) * (wrap64 (a1_4 - a1_1)))) * (wrap64 (a1_5 - a1_2)))) true a1_0 a1_1 a1_2 a1_3 a1_4 a1_5 bt479.1 bt479.2.1 bt479.2.2.1))))) else (some (t475 == 0))) = some r := H
     have A11 := am A110
     clear A110
     by_cases c12 : t476 = 0
     rotate_left
     ·rw [if_neg c12] at H
      have c12b0 : (t476 == 0) = false := beq_eq_false_iff_ne.mpr c12
      have c12b1 : (t476 != 0) = true := bne_iff_ne.mpr c12
      (first | rw [c12b0] | (simp only [i64_w, i32_w]; rw [c12b0]) | skip)
      obtain rfl := Option.some.inj H
      have := yC1 BK472
      have := kC1 BK472
      have := kC2 BK472
      have := kC3 BK472
      have := kC4 BK472
      have := kC5 BK472
      have := bf BK472.out 0
      have := bf BK472.out 1
      have := bf BK472.out 2
      have := bf BK472.out 3
      have := bf BK472.out 4
      have := bf BK472.out 5
      go_wp2_with (first | ((with_reducible refine gc (f := 21) rfl ?_); refine goesL_ (some 29) rfl rfl Try.func21 (by kernel_rfl) rfl #[.slice A0 l0.length c0, .agg #[.int .i64 a1_0, .int .i64 a1_1, .int .i64 a1_2, .int .i64 a1_3, .int .i64 a1_4, .int .i64 a1_5], .int .i64 x6_1] rfl (by (try simp only [pml]); first | done | rfl | (simp only [pdt]; rfl)) ?_; (with_reducible refine (model_Volume.calls k1 _ _ l0 a1_0 a1_1 a1_2 a1_3 a1_4 a1_5 x6_1 t475 t476 _ ?side1 ?side2 A11.out).mono ?_); (case side1 => repeat (first | exact (Kd.C_below HR0.out HB.out) | (with_reducible refine Kd.C_alloc ?_ _) | (with_reducible refine Kd.C_drewN ?_ _) | (with_reducible refine Kd.C_drew ?_))); (case side2 => exact HC0.out); rintro e w66 ⟨rfl, hb⟩; refine ⟨_, rfl, ?_⟩; replace BK472 := bB BK472 hb; replace HB := bS HB hb; (try clear hb); (try clear hb2); (try clear hk); (try clear hi)))
      go_ret
      exact ⟨sqE, fW HB.out⟩
     rw [if_pos c12] at H
     have c12b0 : (t476 == 0) = true := beq_iff_eq.mpr c12
     have c12b1 : (t476 != 0) = false := bne_eq_false_iff_eq.mpr c12
     clear c12
     (first | rw [c12b0] | (simp only [i64_w, i32_w]; rw [c12b0]) | skip)
     replace H := Option.bind_eq_some_iff.mp H
     obtain ⟨⟨t477, t478⟩, A130, H⟩ := H
     replace H : ((model_First.f k1 l0 a1_0 a1_1 a1_2 a1_3 a1_4 a1_5 x6_1).bind fun bt479 => (if t475 < 0 then (w_ModelSums.j1 k1 l0 x5_1 x6_1 t475 bt479.2.2.2 (wrap64 ((wrap64 ((wrap64 (a1_3 - a1_0)) * (wrap64 (a1_4 - a1_1)))) * (wrap64 (a1_5 - a1_2)))) true a1_0 a1_1 a1_2 a1_3 a1_4 a1_5 bt479.1 bt479.2.1 bt479.2.2.1) else (if t478 = 0 then (if (t477 != (t475 == (wrap64 ((wrap64 ((wrap64 (a1_3 - a1_0)) * (wrap64 (a1_4 - a1_1)))) * (wrap64 (a1_5 - a1_2)))))) = true then (w_ModelSums.j1 k1 l0 x5_1 x6_1 t475 bt479.2.2.2 (wrap64 ((wrap64 ((wrap64 (a1_3 - a1_0)) * (wrap64 (a1_4 - a1_1)))) * (wrap64 (a1_5 - a1_2)))) true a1_0 a1_1 a1_2 a1_3 a1_4 a1_5 bt479.1 bt479.2.1 bt479.2.2.1) else (w_ModelSums.j1 k1 l0 x5_1 x6_1 t475 bt479.2.2.2 (wrap64 ((wrap64 ((wrap64 (a1_3 - a1_0)) * (wrap64 (a1_4 - a1_1)))) * (wrap64 (a1_5 - a1_2)))) ((bt479.2.2.2 == 0) != (decide (t475 > 0))) a1_0 a1_1 a1_2 a1_3 a1_4 a1_5 bt479.1 bt479.2.1 bt479.2.2.1)) else (w_ModelSums.j1 k1 l0 x5_1 x6_1 t475 bt479.2.2.2 (wrap64 ((wrap64 ((wrap64 (a1_3 - a1_0)) * (wrap64 (a1_4 - a1_1)))) * (wrap64 (a1_5 - a1_2)))) true a1_0 a1_1 a1_2 a1_3 a1_4 a1_5 bt479.1 bt479.2.1 bt479.2.2.1)))) = some r := H
     have A13 := am A130
     clear A130
     replace H := Option.bind_eq_some_iff.mp H
     obtain ⟨⟨t479, t480, t481, t482⟩, A140, H⟩ := H
     replace H : (if t475 < 0 then (w_ModelSums.j1 k1 l0 x5_1 x6_1 t475 t482 (wrap64 ((wrap64 ((wrap64 (a1_3 - a1_0)) * (wrap64 (a1_4 - a1_1)))) * (wrap64 (a1_5 - a1_2)))) true a1_0 a1_1 a1_2 a1_3 a1_4 a1_5 t479 t480 t481) else (if t478 = 0 then (if (t477 != (t475 == (wrap64 ((wrap64 ((wrap64 (a1_3 - a1_0)) * (wrap64 (a1_4 - a1_1)))) * (wrap64 (a1_5 - a1_2)))))) = true then (w_ModelSums.j1 k1 l0 x5_1 x6_1 t475 t482 (wrap64 ((wrap64 ((wrap64 (a1_3 - a1_0)) * (wrap64 (a1_4 - a1_1)))) * (wrap64 (a1_5 - a1_2)))) true a1_0 a1_1 a1_2 a1_3 a1_4 a1_5 t479 t480 t481) else (w_ModelSums.j1 k1 l0 x5_1 x6_1 t475 t482 (wrap64 ((wrap64 ((wrap64 (a1_3 - a1_0)) * (wrap64 (a1_4 - a1_1)))) * (wrap64 (a1_5 - a1_2)))) ((t482 == 0) != (decide (t475 > 0))) a1_0 a1_1 a1_2 a1_3 a1_4 a1_5 t479 t480 t481)) else (w_ModelSums.j1 k1 l0 x5_1 x6_1 t475 t482 (wrap64 ((wrap64 ((wrap64 (a1_3 - a1_0)) * (wrap64 (a1_4 - a1_1)))) * (wrap64 (a1_5 - a1_2)))) true a1_0 a1_1 a1_2 a1_3 a1_4 a1_5 t479 t480 t481))) = some r := H
     have A14 := am A140
     clear A140
     have HC15 := am H
     clear H
     have := yC1 BK472
     have := kC1 BK472
     have := kC2 BK472
     have := kC3 BK472
     have := kC4 BK472
     have := kC5 BK472
     have := bf BK472.out 0
     have := bf BK472.out 1
     have := bf BK472.out 2
     have := bf BK472.out 3
     have := bf BK472.out 4
     have := bf BK472.out 5
     go_upto_region 15 with (first | ((with_reducible refine gc (f := 21) rfl ?_); refine goesL_ (some 29) rfl rfl Try.func21 (by kernel_rfl) rfl #[.slice A0 l0.length c0, .agg #[.int .i64 a1_0, .int .i64 a1_1, .int .i64 a1_2, .int .i64 a1_3, .int .i64 a1_4, .int .i64 a1_5], .int .i64 x6_1] rfl (by (try simp only [pml]); first | done | rfl | (simp only [pdt]; rfl)) ?_; (with_reducible refine (model_Volume.calls k1 _ _ l0 a1_0 a1_1 a1_2 a1_3 a1_4 a1_5 x6_1 t475 t476 _ ?side1 ?side2 A11.out).mono ?_); (case side1 => repeat (first | exact (Kd.C_below HR0.out HB.out) | (with_reducible refine Kd.C_alloc ?_ _) | (with_reducible refine Kd.C_drewN ?_ _) | (with_reducible refine Kd.C_drew ?_))); (case side2 => exact HC0.out); rintro e w17 ⟨rfl, hb⟩; refine ⟨_, rfl, ?_⟩; replace BK472 := bB BK472 hb; replace HB := bS HB hb; (try clear hb); (try clear hb2); (try clear hk); (try clear hi); obtain ⟨_, _, _, _, _, _, _, _, _, _, _, _⟩ := zC6 BK472) | ((with_reducible refine gc (f := 23) rfl ?_); refine goesL_ (some 40) rfl rfl Try.func23 (by kernel_rfl) rfl #[.slice A0 l0.length c0, .agg #[.int .i64 a1_0, .int .i64 a1_1, .int .i64 a1_2, .int .i64 a1_3, .int .i64 a1_4, .int .i64 a1_5], .int .i64 x6_1] rfl (by (try simp only [pml]); first | done | rfl | (simp only [pdt]; rfl)) ?_; (with_reducible refine (model_All.calls k1 _ _ l0 a1_0 a1_1 a1_2 a1_3 a1_4 a1_5 x6_1 t477 t478 _ ?side1 ?side2 A13.out).mono ?_); (case side1 => repeat (first | exact (Kd.C_below HR0.out HB.out) | (with_reducible refine Kd.C_alloc ?_ _) | (with_reducible refine Kd.C_drewN ?_ _) | (with_reducible refine Kd.C_drew ?_))); (case side2 => exact HC0.out); rintro e w19 ⟨rfl, hb⟩; refine ⟨_, rfl, ?_⟩; replace BK472 := bB BK472 hb; replace HB := bS HB hb; (try clear hb); (try clear hb2); (try clear hk); (try clear hi); obtain ⟨_, _, _, _, _, _, _, _, _, _, _, _⟩ := zC6 BK472) | ((with_reducible refine gc (f := 22) rfl ?_); refine goesL_ (some 47) rfl rfl Try.func22 (by kernel_rfl) rfl #[.slice A0 l0.length c0, .agg #[.int .i64 a1_0, .int .i64 a1_1, .int .i64 a1_2, .int .i64 a1_3, .int .i64 a1_4, .int .i64 a1_5], .int .i64 x6_1] rfl (by (try simp only [pml]); first | done | rfl | (simp only [pdt]; rfl)) ?_; (with_reducible refine (model_First.calls k1 _ _ l0 a1_0 a1_1 a1_2 a1_3 a1_4 a1_5 x6_1 t479 t480 t481 t482 _ ?side1 ?side2 A14.out).mono ?_); (case side1 => repeat (first | exact (Kd.C_below HR0.out HB.out) | (with_reducible refine Kd.C_alloc ?_ _) | (with_reducible refine Kd.C_drewN ?_ _) | (with_reducible refine Kd.C_drew ?_))); (case side2 => exact HC0.out); rintro e w21 ⟨rfl, hb⟩; refine ⟨_, rfl, ?_⟩; replace BK472 := bB BK472 hb; replace HB := bS HB hb; (try clear hb); (try clear hb2); (try clear hk); (try clear hi)) | ((with_reducible refine gate_dst (N := 11) rfl ?_); refine box_event ?hg (N := 11) ?hd (cs := #[.int .i64 0, .int .i64 0, .int .i64 0]) (t := 24) ?hr ?_; (case hd | hg => rfl); (case hr => first | (go_simp; done) | (go_simp; rfl)); intro gb483 hg w22 hbox hb; have BK483 := am hbox; have GW483 := sG HB hg; have GE483 := sG HB hg; replace HB := bS HB hb; have NB472_483 := nL BK472 hg; have NB483_472 := nG BK472 hg; replace BK472 := bB BK472 hb; clear hb hbox hg; have hnb23 := NB483_472.out; have hnc23 := NB472_483.out; obtain ⟨_, _, _, _, _, _⟩ := zC3 BK483; obtain ⟨_, _, _, _, _, _, _, _, _, _, _, _⟩ := zC6 BK472))
     (try simp only [Act.put, psl])
     go_cut [92] (fun v92 wc => ∃ (kq : Nat) (x92_14 : Bool), v92 = .bool x92_14 ∧ Aside0 (w_ModelSums.j1 kq l0 x5_1 x6_1 t475 t482 (wrap64 ((wrap64 ((wrap64 (a1_3 - a1_0)) * (wrap64 (a1_4 - a1_1)))) * (wrap64 (a1_5 - a1_2)))) x92_14 a1_0 a1_1 a1_2 a1_3 a1_4 a1_5 t479 t480 t481 = some r) ∧ Aside0 (kq ≤ k1) ∧ Aside0 (wc.heap[gb472]? = some (.cells #[.int .i64 a1_0, .int .i64 a1_1, .int .i64 a1_2, .int .i64 a1_3, .int .i64 a1_4, .int .i64 a1_5] 43 (0, 0))) ∧ Aside0 (wc.heap[gb483]? = some (.cells #[.int .i64 t479, .int .i64 t480, .int .i64 t481] 24 (0, 0))) ∧ Aside0 (Below w.heap.size w wc))
     case first =>
      have H := HC15.out
      clear HC15
      by_cases c26 : t475 < 0
      ·rw [if_pos c26] at H
       have c26b0 : decide (t475 < 0) = true := decide_eq_true c26
       clear c26
       (first | rw [c26b0] | (simp only [i64_w, i32_w]; rw [c26b0]) | skip)
       have H' := am H
       clear H
       go_wp2
       go_meet
       case rel => exact ⟨_, (true), sqD, H', ⟨by have := HK1.out; first | omega | exact Nat.le_refl _⟩, ⟨by (with_reducible repeat first | apply bN | apply bd | apply ba); refine blk_far ?_ NB472_483.out _; (with_reducible repeat first | apply bN | apply bd | apply ba); refine blk_far ?_ NB472_483.out _; (with_reducible repeat first | apply bN | apply bd | apply ba); refine blk_far ?_ NB472_483.out _; (with_reducible repeat first | apply bN | apply bd | apply ba); exact BK472.out⟩, ⟨by (with_reducible repeat first | apply bN | apply bd | apply ba); refine blk_put (cs := #[.int .i64 t479, .int .i64 t480, .int .i64 0]) ?_ 2 _ rfl; (with_reducible repeat first | apply bN | apply bd | apply ba); refine blk_put (cs := #[.int .i64 t479, .int .i64 0, .int .i64 0]) ?_ 1 _ rfl; (with_reducible repeat first | apply bN | apply bd | apply ba); refine blk_put (cs := #[.int .i64 0, .int .i64 0, .int .i64 0]) ?_ 0 _ rfl; (with_reducible repeat first | apply bN | apply bd | apply ba); exact BK483.out⟩, ⟨fW HB.out⟩⟩
      rw [if_neg c26] at H
      have c26b0 : decide (t475 < 0) = false := decide_eq_false c26
      clear c26
      (first | rw [c26b0] | (simp only [i64_w, i32_w]; rw [c26b0]) | skip)
      by_cases c27 : t478 = 0
      rotate_left
      ·rw [if_neg c27] at H
       have c27b0 : (t478 == 0) = false := beq_eq_false_iff_ne.mpr c27
       have c27b1 : (t478 != 0) = true := bne_iff_ne.mpr c27
       have H' := am H
       clear H
       go_wp2
       go_meet
       case rel => exact ⟨_, (true), sqD, H', ⟨by have := HK1.out; first | omega | exact Nat.le_refl _⟩, ⟨by (with_reducible repeat first | apply bN | apply bd | apply ba); refine blk_far ?_ NB472_483.out _; (with_reducible repeat first | apply bN | apply bd | apply ba); refine blk_far ?_ NB472_483.out _; (with_reducible repeat first | apply bN | apply bd | apply ba); refine blk_far ?_ NB472_483.out _; (with_reducible repeat first | apply bN | apply bd | apply ba); exact BK472.out⟩, ⟨by (with_reducible repeat first | apply bN | apply bd | apply ba); refine blk_put (cs := #[.int .i64 t479, .int .i64 t480, .int .i64 0]) ?_ 2 _ rfl; (with_reducible repeat first | apply bN | apply bd | apply ba); refine blk_put (cs := #[.int .i64 t479, .int .i64 0, .int .i64 0]) ?_ 1 _ rfl; (with_reducible repeat first | apply bN | apply bd | apply ba); refine blk_put (cs := #[.int .i64 0, .int .i64 0, .int .i64 0]) ?_ 0 _ rfl; (with_reducible repeat first | apply bN | apply bd | apply ba); exact BK483.out⟩, ⟨fW HB.out⟩⟩
      rw [if_pos c27] at H
      have c27b0 : (t478 == 0) = true := beq_iff_eq.mpr c27
      have c27b1 : (t478 != 0) = false := bne_eq_false_iff_eq.mpr c27
      clear c27
      by_cases c28 : (t477 != (t475 == (wrap64 ((wrap64 ((wrap64 (a1_3 - a1_0)) * (wrap64 (a1_4 - a1_1)))) * (wrap64 (a1_5 - a1_2)))))) = true
      ·rw [if_pos c28] at H
       have c28b0 : (t477 != (t475 == (wrap64 ((wrap64 ((wrap64 (a1_3 - a1_0)) * (wrap64 (a1_4 - a1_1)))) * (wrap64 (a1_5 - a1_2)))))) = true := c28
       (try (have c28b1 : decide (t477 = (t475 == (wrap64 ((wrap64 ((wrap64 (a1_3 - a1_0)) * (wrap64 (a1_4 - a1_1)))) * (wrap64 (a1_5 - a1_2)))))) = false := by simpa using c28))
       (try (have c28b2 : (t477 == (t475 == (wrap64 ((wrap64 ((wrap64 (a1_3 - a1_0)) * (wrap64 (a1_4 - a1_1)))) * (wrap64 (a1_5 - a1_2)))))) = false := by simpa using c28))
       (try (have c28b3 : ¬ (t477 = (t475 == (wrap64 ((wrap64 ((wrap64 (a1_3 - a1_0)) * (wrap64 (a1_4 - a1_1)))) * (wrap64 (a1_5 - a1_2)))))) := by simpa using c28))
       clear c28
       have H' := am H
       clear H
       go_wp2
       go_meet
       case rel => exact ⟨_, (true), sqD, H', ⟨by have := HK1.out; first | omega | exact Nat.le_refl _⟩, ⟨by (with_reducible repeat first | apply bN | apply bd | apply ba); refine blk_far ?_ NB472_483.out _; (with_reducible repeat first | apply bN | apply bd | apply ba); refine blk_far ?_ NB472_483.out _; (with_reducible repeat first | apply bN | apply bd | apply ba); refine blk_far ?_ NB472_483.out _; (with_reducible repeat first | apply bN | apply bd | apply ba); exact BK472.out⟩, ⟨by (with_reducible repeat first | apply bN | apply bd | apply ba); refine blk_put (cs := #[.int .i64 t479, .int .i64 t480, .int .i64 0]) ?_ 2 _ rfl; (with_reducible repeat first | apply bN | apply bd | apply ba); refine blk_put (cs := #[.int .i64 t479, .int .i64 0, .int .i64 0]) ?_ 1 _ rfl; (with_reducible repeat first | apply bN | apply bd | apply ba); refine blk_put (cs := #[.int .i64 0, .int .i64 0, .int .i64 0]) ?_ 0 _ rfl; (with_reducible repeat first | apply bN | apply bd | apply ba); exact BK483.out⟩, ⟨fW HB.out⟩⟩
      rw [if_neg c28] at H
      have c28b0 : (t477 != (t475 == (wrap64 ((wrap64 ((wrap64 (a1_3 - a1_0)) * (wrap64 (a1_4 - a1_1)))) * (wrap64 (a1_5 - a1_2)))))) = false := by simpa using c28
      (try (have c28b1 : decide (t477 = (t475 == (wrap64 ((wrap64 ((wrap64 (a1_3 - a1_0)) * (wrap64 (a1_4 - a1_1)))) * (wrap64 (a1_5 - a1_2)))))) = true := by simpa using c28))
      (try (have c28b2 : (t477 == (t475 == (wrap64 ((wrap64 ((wrap64 (a1_3 - a1_0)) * (wrap64 (a1_4 - a1_1)))) * (wrap64 (a1_5 - a1_2)))))) = true := by simpa using c28))
      clear c28
      have H' := am H
      clear H
      go_wp2
      go_meet
      case rel => exact ⟨_, (((t482 == 0) != (decide (t475 > 0)))), sqD, H', ⟨by have := HK1.out; first | omega | exact Nat.le_refl _⟩, ⟨by (with_reducible repeat first | apply bN | apply bd | apply ba); refine blk_far ?_ NB472_483.out _; (with_reducible repeat first | apply bN | apply bd | apply ba); refine blk_far ?_ NB472_483.out _; (with_reducible repeat first | apply bN | apply bd | apply ba); refine blk_far ?_ NB472_483.out _; (with_reducible repeat first | apply bN | apply bd | apply ba); exact BK472.out⟩, ⟨by (with_reducible repeat first | apply bN | apply bd | apply ba); refine blk_put (cs := #[.int .i64 t479, .int .i64 t480, .int .i64 0]) ?_ 2 _ rfl; (with_reducible repeat first | apply bN | apply bd | apply ba); refine blk_put (cs := #[.int .i64 t479, .int .i64 0, .int .i64 0]) ?_ 1 _ rfl; (with_reducible repeat first | apply bN | apply bd | apply ba); refine blk_put (cs := #[.int .i64 0, .int .i64 0, .int .i64 0]) ?_ 0 _ rfl; (with_reducible repeat first | apply bN | apply bd | apply ba); exact BK483.out⟩, ⟨fW HB.out⟩⟩
     case rest =>
      clear HC15
      try clear c1;try clear c2;try clear p2;try clear c4;try clear c6;try clear p6;try clear c7;try clear c9;try clear c9b0;try clear c10;try clear c11;try clear c12;try clear c12b0;try clear c12b1;try clear c21;try clear c22;try clear c23;try clear c26;try clear c26b0;try clear c27;try clear c27b0;try clear c27b1;try clear c28;try clear c28b0;try clear c28b1;try clear c28b2;try clear p2
      obtain ⟨kq, x92_14, rfl, HA, HJ14, BK472, BK483, HB⟩ := hcut
      cases kq with
      | zero => exact absurd HA.out (by simp [w_ModelSums.j1])
      | succ kj14 =>
       have H := HA.out
       clear HA
       simp only [w_ModelSums.j1] at H
       by_cases c29 : x92_14 = true
       ·subst c29
        have H1 : (some false) = some r := by rw [if_pos rfl] at H; exact H
        clear H
        have H := H1
        clear H1
        obtain rfl := Option.some.inj H
        go_wp2
        go_ret
        exact ⟨sqE, fW HB.out⟩
       replace c29 := Bool.eq_false_iff.mpr c29
       subst c29
       have H1 : (if t482 = 0 then ((model_State.f kj14 l0 t479 t480 t481).bind fun bt484 => (if bt484.2 = 0 then (if bt484.1 = x6_1 then (if t479 < a1_0 then (w_ModelSums.j2 kj14 l0 x5_1 x6_1 t475 (wrap64 ((wrap64 ((wrap64 (a1_3 - a1_0)) * (wrap64 (a1_4 - a1_1)))) * (wrap64 (a1_5 - a1_2)))) true a1_0 a1_1 a1_2 a1_3 a1_4 a1_5) else (if t480 < a1_1 then (w_ModelSums.j2 kj14 l0 x5_1 x6_1 t475 (wrap64 ((wrap64 ((wrap64 (a1_3 - a1_0)) * (wrap64 (a1_4 - a1_1)))) * (wrap64 (a1_5 - a1_2)))) true a1_0 a1_1 a1_2 a1_3 a1_4 a1_5) else (if t481 < a1_2 then (w_ModelSums.j2 kj14 l0 x5_1 x6_1 t475 (wrap64 ((wrap64 ((wrap64 (a1_3 - a1_0)) * (wrap64 (a1_4 - a1_1)))) * (wrap64 (a1_5 - a1_2)))) true a1_0 a1_1 a1_2 a1_3 a1_4 a1_5) else (if t479 ≥ a1_3 then (w_ModelSums.j2 kj14 l0 x5_1 x6_1 t475 (wrap64 ((wrap64 ((wrap64 (a1_3 - a1_0)) * (wrap64 (a1_4 - a1_1)))) * (wrap64 (a1_5 - a1_2)))) true a1_0 a1_1 a1_2 a1_3 a1_4 a1_5) else (if t480 ≥ a1_4 then (w_ModelSums.j2 kj14 l0 x5_1 x6_1 t475 (wrap64 ((wrap64 ((wrap64 (a1_3 - a1_0)) * (wrap64 (a1_4 - a1_1)))) * (wrap64 (a1_5 - a1_2)))) true a1_0 a1_1 a1_2 a1_3 a1_4 a1_5) else (w_ModelSums.j2 kj14 l0 x5_1 x6_1 t475 (wrap64 ((wrap64 ((wrap64 (a1_3 - a1_0)) * (wrap64 (a1_4 - a1_1)))) * (wrap64 (a1_5 - a1_2)))) (decide (t481 ≥ a1_5)) a1_0 a1_1 a1_2 a1_3 a1_4 a1_5)))))) else (w_ModelSums.j2 kj14 l0 x5_1 x6_1 t475 (wrap64 ((wrap64 ((wrap64 (a1_3 - a1_0)) * (wrap64 (a1_4 - a1_1)))) * (wrap64 (a1_5 - a1_2)))) true a1_0 a1_1 a1_2 a1_3 a1_4 a1_5)) else (w_ModelSums.j2 kj14 l0 x5_1 x6_1 t475 (wrap64 ((wrap64 ((wrap64 (a1_3 - a1_0)) * (wrap64 (a1_4 - a1_1)))) * (wrap64 (a1_5 - a1_2)))) true a1_0 a1_1 a1_2 a1_3 a1_4 a1_5))) else (w_ModelSums.j3 kj14 l0 x5_1 x6_1 t475 (wrap64 ((wrap64 ((wrap64 (a1_3 - a1_0)) * (wrap64 (a1_4 - a1_1)))) * (wrap64 (a1_5 - a1_2)))) a1_0 a1_1 a1_2 a1_3 a1_4 a1_5)) = some r := by rw [if_neg (show ¬ (false = true) by decide)] at H; exact H
       clear H
       have H := H1
       clear H1
       have HC30 := am H
       clear H
       go_upto_if 94 with (fail)
       go_cut [] (fun wc => ∃ (kq : Nat), Aside0 (w_ModelSums.j3 kq l0 x5_1 x6_1 t475 (wrap64 ((wrap64 ((wrap64 (a1_3 - a1_0)) * (wrap64 (a1_4 - a1_1)))) * (wrap64 (a1_5 - a1_2)))) a1_0 a1_1 a1_2 a1_3 a1_4 a1_5 = some r) ∧ Aside0 (kq ≤ kj14) ∧ Aside0 (wc.heap[gb472]? = some (.cells #[.int .i64 a1_0, .int .i64 a1_1, .int .i64 a1_2, .int .i64 a1_3, .int .i64 a1_4, .int .i64 a1_5] 43 (0, 0))) ∧ Aside0 (wc.heap[gb483]? = some (.cells #[.int .i64 t479, .int .i64 t480, .int .i64 t481] 24 (0, 0))) ∧ Aside0 (Below w.heap.size w wc))
       case first =>
        have H := HC30.out
        clear HC30
        by_cases c31 : t482 = 0
        rotate_left
        ·rw [if_neg c31] at H
         have c31b0 : (t482 == 0) = false := beq_eq_false_iff_ne.mpr c31
         have c31b1 : (t482 != 0) = true := bne_iff_ne.mpr c31
         (first | rw [c31b0] | (simp only [i64_w, i32_w]; rw [c31b0]) | skip)
         have H' := am H
         clear H
         go_wp2
         go_meet
         case rel => exact ⟨_, H', ⟨by have := HK1.out; have := HJ14.out; first | omega | exact Nat.le_refl _⟩, ⟨fb BK472.out⟩, ⟨fb BK483.out⟩, ⟨fW HB.out⟩⟩
        rw [if_pos c31] at H
        have c31b0 : (t482 == 0) = true := beq_iff_eq.mpr c31
        have c31b1 : (t482 != 0) = false := bne_eq_false_iff_eq.mpr c31
        clear c31
        (first | rw [c31b0] | (simp only [i64_w, i32_w]; rw [c31b0]) | skip)
        replace H := Option.bind_eq_some_iff.mp H
        obtain ⟨⟨t484, t485⟩, A320, H⟩ := H
        replace H : (if t485 = 0 then (if t484 = x6_1 then (if t479 < a1_0 then (w_ModelSums.j2 kj14 l0 x5_1 x6_1 t475 (wrap64 ((wrap64 ((wrap64 (a1_3 - a1_0)) * (wrap64 (a1_4 - a1_1)))) * (wrap64 (a1_5 - a1_2)))) true a1_0 a1_1 a1_2 a1_3 a1_4 a1_5) else (if t480 < a1_1 then (w_ModelSums.j2 kj14 l0 x5_1 x6_1 t475 (wrap64 ((wrap64 ((wrap64 (a1_3 - a1_0)) * (wrap64 (a1_4 - a1_1)))) * (wrap64 (a1_5 - a1_2)))) true a1_0 a1_1 a1_2 a1_3 a1_4 a1_5) else (if t481 < a1_2 then (w_ModelSums.j2 kj14 l0 x5_1 x6_1 t475 (wrap64 ((wrap64 ((wrap64 (a1_3 - a1_0)) * (wrap64 (a1_4 - a1_1)))) * (wrap64 (a1_5 - a1_2)))) true a1_0 a1_1 a1_2 a1_3 a1_4 a1_5) else (if t479 ≥ a1_3 then (w_ModelSums.j2 kj14 l0 x5_1 x6_1 t475 (wrap64 ((wrap64 ((wrap64 (a1_3 - a1_0)) * (wrap64 (a1_4 - a1_1)))) * (wrap64 (a1_5 - a1_2)))) true a1_0 a1_1 a1_2 a1_3 a1_4 a1_5) else (if t480 ≥ a1_4 then (w_ModelSums.j2 kj14 l0 x5_1 x6_1 t475 (wrap64 ((wrap64 ((wrap64 (a1_3 - a1_0)) * (wrap64 (a1_4 - a1_1)))) * (wrap64 (a1_5 - a1_2)))) true a1_0 a1_1 a1_2 a1_3 a1_4 a1_5) else (w_ModelSums.j2 kj14 l0 x5_1 x6_1 t475 (wrap64 ((wrap64 ((wrap64 (a1_3 - a1_0)) * (wrap64 (a1_4 - a1_1)))) * (wrap64 (a1_5 - a1_2)))) (decide (t481 ≥ a1_5)) a1_0 a1_1 a1_2 a1_3 a1_4 a1_5)))))) else (w_ModelSums.j2 kj14 l0 x5_1 x6_1 t475 (wrap64 ((wrap64 ((wrap64 (a1_3 - a1_0)) * (wrap64 (a1_4 - a1_1)))) * (wrap64 (a1_5 - a1_2)))) true a1_0 a1_1 a1_2 a1_3 a1_4 a1_5)) else (w_ModelSums.j2 kj14 l0 x5_1 x6_1 t475 (wrap64 ((wrap64 ((wrap64 (a1_3 - a1_0)) * (wrap64 (a1_4 - a1_1)))) * (wrap64 (a1_5 - a1_2)))) true a1_0 a1_1 a1_2 a1_3 a1_4 a1_5)) = some r := H
        have A32 := am A320
        clear A320
        have HC33 := am H
        clear H
        have hnb34 := NB483_472.out
        have hnc34 := NB472_483.out
        have := yC1 BK483
        have := kC1 BK483
        have := kC2 BK483
        have := bf BK483.out 0
        have := bf BK483.out 1
        have := bf BK483.out 2
        go_upto_region 19 with (first | ((with_reducible refine gc (f := 13) rfl ?_); refine goesL_ (some 98) rfl rfl Try.func13 (by kernel_rfl) rfl #[.slice A0 l0.length c0, .agg #[.int .i64 t479, .int .i64 t480, .int .i64 t481]] rfl (by (try simp only [pml]); first | done | rfl | (simp only [pdt]; rfl)) ?_; (with_reducible refine (model_State.calls kj14 _ _ l0 t479 t480 t481 t484 t485 _ ?side1 ?side2 A32.out).mono ?_); (case side1 => repeat (first | exact (Kd.C_below HR0.out HB.out) | (with_reducible refine Kd.C_alloc ?_ _) | (with_reducible refine Kd.C_drewN ?_ _) | (with_reducible refine Kd.C_drew ?_))); (case side2 => exact HC0.out); rintro e w36 ⟨rfl, hb⟩; refine ⟨_, rfl, ?_⟩; replace BK472 := bB BK472 hb; replace BK483 := bB BK483 hb; replace HB := bS HB hb; (try clear hb); (try clear hb2); (try clear hk); (try clear hi)))
        (try simp only [Act.put, psl])
        go_cut [155] (fun v155 wc => ∃ (kq : Nat) (x155_32 : Bool), v155 = .bool x155_32 ∧ Aside0 (w_ModelSums.j2 kq l0 x5_1 x6_1 t475 (wrap64 ((wrap64 ((wrap64 (a1_3 - a1_0)) * (wrap64 (a1_4 - a1_1)))) * (wrap64 (a1_5 - a1_2)))) x155_32 a1_0 a1_1 a1_2 a1_3 a1_4 a1_5 = some r) ∧ Aside0 (kq ≤ kj14) ∧ Aside0 (wc.heap[gb472]? = some (.cells #[.int .i64 a1_0, .int .i64 a1_1, .int .i64 a1_2, .int .i64 a1_3, .int .i64 a1_4, .int .i64 a1_5] 43 (0, 0))) ∧ Aside0 (wc.heap[gb483]? = some (.cells #[.int .i64 t479, .int .i64 t480, .int .i64 t481] 24 (0, 0))) ∧ Aside0 (Below w.heap.size w wc))
        case first =>
         have H := HC33.out
         clear HC33
         by_cases c37 : t485 = 0
         rotate_left
         ·rw [if_neg c37] at H
          have c37b0 : (t485 == 0) = false := beq_eq_false_iff_ne.mpr c37
          have c37b1 : (t485 != 0) = true := bne_iff_ne.mpr c37
          (first | rw [c37b0] | (simp only [i64_w, i32_w]; rw [c37b0]) | skip)
          have H' := am H
          clear H
          go_wp2
          go_meet
          case rel => exact ⟨_, (true), sqD, H', ⟨by have := HK1.out; have := HJ14.out; first | omega | exact Nat.le_refl _⟩, ⟨fb BK472.out⟩, ⟨fb BK483.out⟩, ⟨fW HB.out⟩⟩
         rw [if_pos c37] at H
         have c37b0 : (t485 == 0) = true := beq_iff_eq.mpr c37
         have c37b1 : (t485 != 0) = false := bne_eq_false_iff_eq.mpr c37
         clear c37
         (first | rw [c37b0] | (simp only [i64_w, i32_w]; rw [c37b0]) | skip)
         by_cases c38 : t484 = x6_1
         rotate_left
         ·rw [if_neg c38] at H
          have c38b0 : (t484 == x6_1) = false := beq_eq_false_iff_ne.mpr c38
          have c38b1 : (t484 != x6_1) = true := bne_iff_ne.mpr c38
          have H' := am H
          clear H
          go_wp2
          go_meet
          case rel => exact ⟨_, (true), sqD, H', ⟨by have := HK1.out; have := HJ14.out; first | omega | exact Nat.le_refl _⟩, ⟨fb BK472.out⟩, ⟨fb BK483.out⟩, ⟨fW HB.out⟩⟩
         rw [if_pos c38] at H
         have c38b0 : (t484 == x6_1) = true := beq_iff_eq.mpr c38
         have c38b1 : (t484 != x6_1) = false := bne_eq_false_iff_eq.mpr c38
         clear c38
         by_cases c39 : t479 < a1_0
         ·rw [if_pos c39] at H
          have c39b0 : decide (t479 < a1_0) = true := decide_eq_true c39
          clear c39
          have H' := am H
          clear H
          have hnb40 := NB483_472.out
          have hnc40 := NB472_483.out
          have := yC1 BK483
          have := kC1 BK483
          have := kC2 BK483
          have := bf BK483.out 0
          have := bf BK483.out 1
          have := bf BK483.out 2
          have := yC1 BK472
          have := kC1 BK472
          have := kC2 BK472
          have := kC3 BK472
          have := kC4 BK472
          have := kC5 BK472
          have := bf BK472.out 0
          have := bf BK472.out 1
          have := bf BK472.out 2
          have := bf BK472.out 3
          have := bf BK472.out 4
          have := bf BK472.out 5
          go_wp2
          go_meet
          case rel => exact ⟨_, (true), sqD, H', ⟨by have := HK1.out; have := HJ14.out; first | omega | exact Nat.le_refl _⟩, ⟨fb BK472.out⟩, ⟨fb BK483.out⟩, ⟨fW HB.out⟩⟩
         rw [if_neg c39] at H
         have c39b0 : decide (t479 < a1_0) = false := decide_eq_false c39
         clear c39
         by_cases c43 : t480 < a1_1
         ·rw [if_pos c43] at H
          have c43b0 : decide (t480 < a1_1) = true := decide_eq_true c43
          clear c43
          have H' := am H
          clear H
          have hnb44 := NB483_472.out
          have hnc44 := NB472_483.out
          have := yC1 BK483
          have := kC1 BK483
          have := kC2 BK483
          have := bf BK483.out 0
          have := bf BK483.out 1
          have := bf BK483.out 2
          have := yC1 BK472
          have := kC1 BK472
          have := kC2 BK472
          have := kC3 BK472
          have := kC4 BK472
          have := kC5 BK472
          have := bf BK472.out 0
          have := bf BK472.out 1
          have := bf BK472.out 2
          have := bf BK472.out 3
          have := bf BK472.out 4
          have := bf BK472.out 5
          go_wp2
          go_meet
          case rel => exact ⟨_, (true), sqD, H', ⟨by have := HK1.out; have := HJ14.out; first | omega | exact Nat.le_refl _⟩, ⟨fb BK472.out⟩, ⟨fb BK483.out⟩, ⟨fW HB.out⟩⟩
         rw [if_neg c43] at H
         have c43b0 : decide (t480 < a1_1) = false := decide_eq_false c43
         clear c43
         by_cases c47 : t481 < a1_2
         ·rw [if_pos c47] at H
          have c47b0 : decide (t481 < a1_2) = true := decide_eq_true c47
          clear c47
          have H' := am H
          clear H
          have hnb48 := NB483_472.out
          have hnc48 := NB472_483.out
          have := yC1 BK483
          have := kC1 BK483
          have := kC2 BK483
          have := bf BK483.out 0
          have := bf BK483.out 1
          have := bf BK483.out 2
          have := yC1 BK472
          have := kC1 BK472
          have := kC2 BK472
          have := kC3 BK472
          have := kC4 BK472
          have := kC5 BK472
          have := bf BK472.out 0
          have := bf BK472.out 1
          have := bf BK472.out 2
          have := bf BK472.out 3
          have := bf BK472.out 4
          have := bf BK472.out 5
          go_wp2
          go_meet
          case rel => exact ⟨_, (true), sqD, H', ⟨by have := HK1.out; have := HJ14.out; first | omega | exact Nat.le_refl _⟩, ⟨fb BK472.out⟩, ⟨fb BK483.out⟩, ⟨fW HB.out⟩⟩
         rw [if_neg c47] at H
         have c47b0 : decide (t481 < a1_2) = false := decide_eq_false c47
         clear c47
         by_cases c51 : t479 ≥ a1_3
         ·rw [if_pos c51] at H
          have c51b0 : decide (a1_3 ≤ t479) = true := decide_eq_true c51
          clear c51
          have H' := am H
          clear H
          have hnb52 := NB483_472.out
          have hnc52 := NB472_483.out
          have := yC1 BK483
          have := kC1 BK483
          have := kC2 BK483
          have := bf BK483.out 0
          have := bf BK483.out 1
          have := bf BK483.out 2
          have := yC1 BK472
          have := kC1 BK472
          have := kC2 BK472
          have := kC3 BK472
          have := kC4 BK472
          have := kC5 BK472
          have := bf BK472.out 0
          have := bf BK472.out 1
          have := bf BK472.out 2
          have := bf BK472.out 3
          have := bf BK472.out 4
          have := bf BK472.out 5
          go_wp2
          go_meet
          case rel => exact ⟨_, (true), sqD, H', ⟨by have := HK1.out; have := HJ14.out; first | omega | exact Nat.le_refl _⟩, ⟨fb BK472.out⟩, ⟨fb BK483.out⟩, ⟨fW HB.out⟩⟩
         rw [if_neg c51] at H
         have c51b0 : decide (a1_3 ≤ t479) = false := decide_eq_false c51
         clear c51
         by_cases c55 : t480 ≥ a1_4
         ·rw [if_pos c55] at H
          have c55b0 : decide (a1_4 ≤ t480) = true := decide_eq_true c55
          clear c55
          have H' := am H
          clear H
          have hnb56 := NB483_472.out
          have hnc56 := NB472_483.out
          have := yC1 BK483
          have := kC1 BK483
          have := kC2 BK483
          have := bf BK483.out 0
          have := bf BK483.out 1
          have := bf BK483.out 2
          have := yC1 BK472
          have := kC1 BK472
          have := kC2 BK472
          have := kC3 BK472
          have := kC4 BK472
          have := kC5 BK472
          have := bf BK472.out 0
          have := bf BK472.out 1
          have := bf BK472.out 2
          have := bf BK472.out 3
          have := bf BK472.out 4
          have := bf BK472.out 5
          go_wp2
          go_meet
          case rel => exact ⟨_, (true), sqD, H', ⟨by have := HK1.out; have := HJ14.out; first | omega | exact Nat.le_refl _⟩, ⟨fb BK472.out⟩, ⟨fb BK483.out⟩, ⟨fW HB.out⟩⟩
         rw [if_neg c55] at H
         have c55b0 : decide (a1_4 ≤ t480) = false := decide_eq_false c55
         clear c55
         have H' := am H
         clear H
         have hnb59 := NB483_472.out
         have hnc59 := NB472_483.out
         have := yC1 BK483
         have := kC1 BK483
         have := kC2 BK483
         have := bf BK483.out 0
         have := bf BK483.out 1
         have := bf BK483.out 2
         have := yC1 BK472
         have := kC1 BK472
         have := kC2 BK472
         have := kC3 BK472
         have := kC4 BK472
         have := kC5 BK472
         have := bf BK472.out 0
         have := bf BK472.out 1
         have := bf BK472.out 2
         have := bf BK472.out 3
         have := bf BK472.out 4
         have := bf BK472.out 5
         go_wp2
         go_meet
         case rel => exact ⟨_, (decide (t481 ≥ a1_5)), sqD, H', ⟨by have := HK1.out; have := HJ14.out; first | omega | exact Nat.le_refl _⟩, ⟨fb BK472.out⟩, ⟨fb BK483.out⟩, ⟨fW HB.out⟩⟩
        case rest =>
         clear HC33
         try clear c1;try clear c2;try clear p2;try clear c3;try clear c4;try clear c5;try clear c6;try clear p6;try clear c7;try clear c9;try clear c9b0;try clear c10;try clear c11;try clear c12;try clear c12b0;try clear c12b1;try clear c13;try clear c21;try clear c22;try clear c23;try clear c26;try clear c26b0;try clear c27;try clear c27b0;try clear c27b1;try clear c28;try clear c28b0;try clear c28b1;try clear c28b2;try clear c29;try clear c31;try clear c31b0;try clear c31b1;try clear c34;try clear c37;try clear c37b0;try clear c37b1;try clear c38;try clear c38b0;try clear c38b1;try clear c39;try clear c39b0;try clear c40;try clear c43;try clear c43b0;try clear c44;try clear c47;try clear c47b0;try clear c48;try clear c51;try clear c51b0;try clear c52;try clear c55;try clear c55b0;try clear c56;try clear c59;try clear p2;try clear p6
         obtain ⟨kq, x155_32, rfl, HA, HJ32, BK472, BK483, HB⟩ := hcut
         cases kq with
         | zero => exact absurd HA.out (by simp [w_ModelSums.j2])
         | succ kj32 =>
          have H := HA.out
          clear HA
          simp only [w_ModelSums.j2] at H
          by_cases c62 : x155_32 = true
          ·subst c62
           have H1 : (some false) = some r := by rw [if_pos rfl] at H; exact H
           clear H
           have H := H1
           clear H1
           obtain rfl := Option.some.inj H
           go_wp2
           go_ret
           exact ⟨sqE, fW HB.out⟩
          replace c62 := Bool.eq_false_iff.mpr c62
          subst c62
          have H1 : (w_ModelSums.j3 kj32 l0 x5_1 x6_1 t475 (wrap64 ((wrap64 ((wrap64 (a1_3 - a1_0)) * (wrap64 (a1_4 - a1_1)))) * (wrap64 (a1_5 - a1_2)))) a1_0 a1_1 a1_2 a1_3 a1_4 a1_5) = some r := by rw [if_neg (show ¬ (false = true) by decide)] at H; exact H
          clear H
          have H := H1
          clear H1
          have H' := am H
          clear H
          go_wp2
          go_meet
          case rel => exact ⟨_, H', ⟨by have := HK1.out; have := HJ14.out; have := HJ32.out; first | omega | exact Nat.le_refl _⟩, ⟨fb BK472.out⟩, ⟨fb BK483.out⟩, ⟨fW HB.out⟩⟩
       case rest =>
        clear HC30
        try clear c1;try clear c2;try clear p2;try clear c3;try clear c4;try clear c5;try clear c6;try clear p6;try clear c7;try clear c9;try clear c9b0;try clear c10;try clear c11;try clear c12;try clear c12b0;try clear c12b1;try clear c13;try clear c21;try clear c22;try clear c23;try clear c26;try clear c26b0;try clear c27;try clear c27b0;try clear c27b1;try clear c28;try clear c28b0;try clear c28b1;try clear c28b2;try clear c29;try clear c31;try clear c31b0;try clear c31b1;try clear c34;try clear c37;try clear c37b0;try clear c37b1;try clear c38;try clear c38b0;try clear c38b1;try clear c39;try clear c39b0;try clear c40;try clear c43;try clear c43b0;try clear c44;try clear c47;try clear c47b0;try clear c48;try clear c51;try clear c51b0;try clear c52;try clear c55;try clear c55b0;try clear c56;try clear c59;try clear c62;try clear p2;try clear p6
        obtain ⟨kq, HA, HJ29, BK472, BK483, HB⟩ := hcut
        cases kq with
        | zero => exact absurd HA.out (by simp [w_ModelSums.j3])
        | succ kj29 =>
         have H := HA.out
         clear HA
         simp only [w_ModelSums.j3] at H
         by_cases c63 : x6_1 = 3
         rotate_left
         ·rw [if_neg c63] at H
          have c63b0 : (x6_1 == 3) = false := beq_eq_false_iff_ne.mpr c63
          have c63b1 : (x6_1 != 3) = true := bne_iff_ne.mpr c63
          have H' := am H
          clear H
          go_wp2
          go_meet
          case rel => exact ⟨_, (wrap64 (x5_1 + t475)), sqD, H', ⟨by have := HK1.out; have := HJ14.out; have := HJ29.out; first | omega | exact Nat.le_refl _⟩, ⟨fb BK472.out⟩, ⟨fW HB.out⟩⟩
         rw [if_pos c63] at H
         have c63b0 : (x6_1 == 3) = true := beq_iff_eq.mpr c63
         have c63b1 : (x6_1 != 3) = false := bne_eq_false_iff_eq.mpr c63
         clear c63
         by_cases c64 : (wrap64 (x5_1 + t475)) = (wrap64 ((wrap64 ((wrap64 (a1_3 - a1_0)) * (wrap64 (a1_4 - a1_1)))) * (wrap64 (a1_5 - a1_2))))
         ·rw [if_pos c64] at H
          have c64b0 : ((wrap64 (x5_1 + t475)) == (wrap64 ((wrap64 ((wrap64 (a1_3 - a1_0)) * (wrap64 (a1_4 - a1_1)))) * (wrap64 (a1_5 - a1_2))))) = true := beq_iff_eq.mpr c64
          have c64b1 : ((wrap64 (x5_1 + t475)) != (wrap64 ((wrap64 ((wrap64 (a1_3 - a1_0)) * (wrap64 (a1_4 - a1_1)))) * (wrap64 (a1_5 - a1_2))))) = false := bne_eq_false_iff_eq.mpr c64
          clear c64
          have H' := am H
          clear H
          go_wp2
          go_meet
          case rel => exact ⟨_, (wrap64 (x5_1 + t475)), sqD, H', ⟨by have := HK1.out; have := HJ14.out; have := HJ29.out; first | omega | exact Nat.le_refl _⟩, ⟨fb BK472.out⟩, ⟨fW HB.out⟩⟩
         rw [if_neg c64] at H
         have c64b0 : ((wrap64 (x5_1 + t475)) == (wrap64 ((wrap64 ((wrap64 (a1_3 - a1_0)) * (wrap64 (a1_4 - a1_1)))) * (wrap64 (a1_5 - a1_2))))) = false := beq_eq_false_iff_ne.mpr c64
         have c64b1 : ((wrap64 (x5_1 + t475)) != (wrap64 ((wrap64 ((wrap64 (a1_3 - a1_0)) * (wrap64 (a1_4 - a1_1)))) * (wrap64 (a1_5 - a1_2))))) = true := bne_iff_ne.mpr c64
         obtain rfl := Option.some.inj H
         go_wp2
         go_ret
         exact ⟨sqE, fW HB.out⟩
    case rest =>
     clear HC10
     try clear c1;try clear c2;try clear p2;try clear c3;try clear c4;try clear c5;try clear c6;try clear p6;try clear c7;try clear c9;try clear c9b0;try clear c10;try clear c11;try clear c12;try clear c12b0;try clear c12b1;try clear c13;try clear c21;try clear c22;try clear c23;try clear c26;try clear c26b0;try clear c27;try clear c27b0;try clear c27b1;try clear c28;try clear c28b0;try clear c28b1;try clear c28b2;try clear c29;try clear c31;try clear c31b0;try clear c31b1;try clear c34;try clear c37;try clear c37b0;try clear c37b1;try clear c38;try clear c38b0;try clear c38b1;try clear c39;try clear c39b0;try clear c40;try clear c43;try clear c43b0;try clear c44;try clear c47;try clear c47b0;try clear c48;try clear c51;try clear c51b0;try clear c52;try clear c55;try clear c55b0;try clear c56;try clear c59;try clear c62;try clear c63;try clear c63b0;try clear c63b1;try clear c64;try clear c64b0;try clear c64b1;try clear p64;try clear p2;try clear p6
     obtain ⟨kq, x5_9, rfl, HA, HJ9, BK472, HB⟩ := hcut
     cases kq with
     | zero => exact absurd HA.out (by simp [w_ModelSums.j4])
     | succ kj9 =>
      have H := HA.out
      clear HA
      simp only [w_ModelSums.j4] at H
      have H' := am H
      clear H
      go_wp2
      go_roundg kj9
      case measure => have := HK1.out; have := HJ9.out; omega
      case rel => exact ⟨(x5_9), (wrap64 (x6_1 + 1)), sqD, sqD, H', ⟨by have := HK1.out; have := HJ9.out; omega⟩, ⟨fb BK472.out⟩, ⟨fW HB.out⟩⟩
 ·replace c4 := Bool.eq_false_iff.mpr c4
  subst c4
  have H1 : (some false) = some r := by rw [if_neg (show ¬ (false = true) by decide)] at H; exact H
  clear H
  have H := H1
  clear H1
  obtain rfl := Option.some.inj H
  go_enter Try.func7, Try.ntmps7
  go_wp2_with (first | ((with_reducible refine gate_dst (N := 3) rfl ?_); refine box_event ?hg (N := 3) ?hd (cs := #[.int .i64 a1_0, .int .i64 a1_1, .int .i64 a1_2, .int .i64 a1_3, .int .i64 a1_4, .int .i64 a1_5]) (t := 43) ?hr ?_; (case hd | hg => rfl); (case hr => first | (go_simp; done) | (go_simp; rfl)); intro gb472 hg w69 hbox hb; have BK472 := am hbox; have GW472 := sG HB hg; have GE472 := sG HB hg; replace HB := bS HB hb; clear hb hbox hg) | ((with_reducible refine gc (f := 10) rfl ?_); refine goesL_ (some 16) rfl rfl Try.func10 (by kernel_rfl) rfl #[] rfl (by (try simp only [pml]); first | done | rfl | (simp only [pdt]; rfl)) ?_; (with_reducible refine (w_awake.calls  false _ A3.out).mono ?_); rintro e w70 ⟨rfl, hb⟩; refine ⟨_, rfl, ?_⟩; replace BK472 := bB BK472 hb; replace HB := bS HB hb; (try clear hb); (try clear hb2); (try clear hk); (try clear hi)))
  go_ret
  exact ⟨sqE, fW HB.out⟩

def w_ModelSums.Pure : Prop := ∀ (l0 : List (S68)) (a1_0 : Int) (a1_1 : Int) (a1_2 : Int) (a1_3 : Int) (a1_4 : Int) (a1_5 : Int), (l0.length ≤ maxLen ∧ ∀ e3_, e3_ ∈ l0 → okS68 e3_) → ((Lit.int .i64 a1_0).wf = true) → ((Lit.int .i64 a1_1).wf = true) → ((Lit.int .i64 a1_2).wf = true) → ((Lit.int .i64 a1_3).wf = true) → ((Lit.int .i64 a1_4).wf = true) → ((Lit.int .i64 a1_5).wf = true) → ∃ k, w_ModelSums.f k l0 a1_0 a1_1 a1_2 a1_3 a1_4 a1_5 = some true
theorem w_ModelSums.walk (P_ : w_ModelSums.Pure) (A0 : Option Addr) (c0 : Nat) (l0 : List (S68)) (a1_0 : Int) (a1_1 : Int) (a1_2 : Int) (a1_3 : Int) (a1_4 : Int) (a1_5 : Int) (w : World) (hr0 : Kd.C k68 w A0 l0.length l0) (hc0 : l0.length ≤ c0) (o0 : (l0.length ≤ maxLen ∧ ∀ e3_, e3_ ∈ l0 → okS68 e3_)) (o1 : ((Lit.int .i64 a1_0).wf = true)) (o2 : ((Lit.int .i64 a1_1).wf = true)) (o3 : ((Lit.int .i64 a1_2).wf = true)) (o4 : ((Lit.int .i64 a1_3).wf = true)) (o5 : ((Lit.int .i64 a1_4).wf = true)) (o6 : ((Lit.int .i64 a1_5).wf = true)) :
  Calls Try.prog 7 #[.slice A0 l0.length c0, .agg #[.int .i64 a1_0, .int .i64 a1_1, .int .i64 a1_2, .int .i64 a1_3, .int .i64 a1_4, .int .i64 a1_5]] w fun e w' => e = .returned (.bool true) ∧ Below w.heap.size w w' := by
 obtain ⟨k, h⟩ := P_ l0 a1_0 a1_1 a1_2 a1_3 a1_4 a1_5 o0 o1 o2 o3 o4 o5 o6
 refine (w_ModelSums.calls k A0 c0 l0 a1_0 a1_1 a1_2 a1_3 a1_4 a1_5 true w hr0 hc0 h).mono ?_
 rintro e w' ⟨rfl, hd⟩
 exact ⟨rfl, hd⟩

end Go.Proofs.Ytcofgnbopodahaa.QA
