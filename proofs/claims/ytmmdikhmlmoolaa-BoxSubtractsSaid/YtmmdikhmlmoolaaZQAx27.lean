import Derived.Test.YtmmdikhmlmoolaaZQAx0
import Derived.Test.YtmmdikhmlmoolaaZQAx3
import Derived.Test.YtmmdikhmlmoolaaZQAx5
import Derived.Test.YtmmdikhmlmoolaaZQAx13
import Derived.Test.YtmmdikhmlmoolaaZQAx15
import Derived.Test.YtmmdikhmlmoolaaZQAx18
import Derived.Test.YtmmdikhmlmoolaaZQAx20
import Derived.Test.YtmmdikhmlmoolaaZQAx26
namespace Go.Proofs.Ytmmdikhmlmoolaa.QA
open Go.RowKit Go.Proofs.YtmmdikhmlmoolaaW.PrintWords Go.Proofs.YtmmdikhmlmoolaaW.PrintLast Go.Proofs.YtmmdikhmlmoolaaW.PrintMore
open Go.Proofs.YtmmdikhmlmoolaaW.PrintWords renaming blk_drewN → bN, blk_drew → bd, blk_alloc → ba, below_alloc → wa, pw_below_drewN → wN, below_drew1 → wd, below_set → ws, blk_frozen → bf, below_size → wz, gate_callee → gc
open Aside0 renaming mk → am
attribute [local go_sem] max2_int min2_int max_two min_two max_three min_three max_four min_four
set_option linter.unusedVariables false
set_option linter.unusedSimpArgs false

mutual
def w_BoxSubtracts.j0 : Nat → List (S25) → Bool → Int → Int → Int → Int → Int → Int → Int → Int → Int → Int → Int → Int → Option (Bool)
 | 0, _, _, _, _, _, _, _, _, _, _, _, _, _, _ => none
 | k + 1, x2, x29, x631000, x631001, x631002, x631003, x631004, x631005, x632000, x632001, x632002, x632003, x632004, x632005 => if x29 = true then (some true) else ((box_Subtract.f k x631000 x631001 x631002 x631003 x631004 x631005 x632000 x632001 x632002 x632003 x632004 x632005).bind fun bt633 => ((w_both.f k x631000 x631001 x631002 x631003 x631004 x631005 x632000 x632001 x632002 x632003 x632004 x632005).bind fun t637 => (if t637 = 0 then (if bt633.2 = 0 then ((r_Subtract.f k x631000 x631001 x631002 x631003 x631004 x631005 x632000 x632001 x632002 x632003 x632004 x632005).bind fun t638 => ((r_Same.f k bt633.1 t638).bind fun t641 => (if t641 = true then (w_BoxSubtracts.j1 k x2 x631000 x631001 x631002 x631003 x631004 x631005) else (some false)))) else (some false)) else (if bt633.2 = t637 then (if (bt633.1.length : Int) = 0 then (w_BoxSubtracts.j1 k x2 x631000 x631001 x631002 x631003 x631004 x631005) else (some false)) else (some false)))))
def w_BoxSubtracts.j1 : Nat → List (S25) → Int → Int → Int → Int → Int → Int → Option (Bool)
 | 0, _, _, _, _, _, _, _ => none
 | k + 1, x2, x631000, x631001, x631002, x631003, x631004, x631005 => (box_Rest.f k x631000 x631001 x631002 x631003 x631004 x631005 x2).bind fun bt642 => (if (x2.length : Int) > 256 then (if bt642.2 = 7 then (some ((bt642.1.length : Int) == 0)) else (some false)) else ((r_Check.f k x631000 x631001 x631002 x631003 x631004 x631005).bind fun t646 => (if t646 = 0 then ((r_CheckAll.f k x2).bind fun t647 => (w_BoxSubtracts.j2 k x2 bt642.1 bt642.2 t647 x631000 x631001 x631002 x631003 x631004 x631005)) else (w_BoxSubtracts.j2 k x2 bt642.1 bt642.2 t646 x631000 x631001 x631002 x631003 x631004 x631005))))
def w_BoxSubtracts.j2 : Nat → List (S25) → List (S25) → Int → Int → Int → Int → Int → Int → Int → Int → Option (Bool)
 | 0, _, _, _, _, _, _, _, _, _, _ => none
 | k + 1, x2, x10, x11, x12, x631000, x631001, x631002, x631003, x631004, x631005 => if x12 = 0 then ((r_Rest.f k x631000 x631001 x631002 x631003 x631004 x631005 x2).bind fun bt648 => (if x11 = bt648.2 then ((r_Same.f k x10 bt648.1).bind fun t652 => (some t652)) else (some false))) else (if x11 = x12 then (some ((x10.length : Int) == 0)) else (some false))
end
def w_BoxSubtracts.f (k : Nat) (a0_0 : Int) (a0_1 : Int) (a0_2 : Int) (a0_3 : Int) (a0_4 : Int) (a0_5 : Int) (a1_0 : Int) (a1_1 : Int) (a1_2 : Int) (a1_3 : Int) (a1_4 : Int) (a1_5 : Int) (l2 : List (S25)) : Option (Bool) := (w_awake.f).bind fun t632 => (if t632 = true then (if (l2.length : Int) > 7 then (if (l2.length : Int) ≤ 256 then (w_BoxSubtracts.j0 k l2 true a0_0 a0_1 a0_2 a0_3 a0_4 a0_5 a1_0 a1_1 a1_2 a1_3 a1_4 a1_5) else (w_BoxSubtracts.j0 k l2 (decide ((l2.length : Int) > 1000)) a0_0 a0_1 a0_2 a0_3 a0_4 a0_5 a1_0 a1_1 a1_2 a1_3 a1_4 a1_5)) else (w_BoxSubtracts.j0 k l2 (decide ((l2.length : Int) > 1000)) a0_0 a0_1 a0_2 a0_3 a0_4 a0_5 a1_0 a1_1 a1_2 a1_3 a1_4 a1_5)) else (some false))
set_option maxHeartbeats 8000000 in
set_option maxRecDepth 100000 in
theorem w_BoxSubtracts.calls (k : Nat) (a0_0 : Int) (a0_1 : Int) (a0_2 : Int) (a0_3 : Int) (a0_4 : Int) (a0_5 : Int) (a1_0 : Int) (a1_1 : Int) (a1_2 : Int) (a1_3 : Int) (a1_4 : Int) (a1_5 : Int) (A2 : Option Addr) (c2 : Nat) (l2 : List (S25)) (r : Bool) (w : World) (hr2 : Kd.C k25 w A2 l2.length l2) (hc2 : l2.length ≤ c2) (h : w_BoxSubtracts.f k a0_0 a0_1 a0_2 a0_3 a0_4 a0_5 a1_0 a1_1 a1_2 a1_3 a1_4 a1_5 l2 = some r) :
  Calls Try.prog 7 #[.agg #[.int .i64 a0_0, .int .i64 a0_1, .int .i64 a0_2, .int .i64 a0_3, .int .i64 a0_4, .int .i64 a0_5], .agg #[.int .i64 a1_0, .int .i64 a1_1, .int .i64 a1_2, .int .i64 a1_3, .int .i64 a1_4, .int .i64 a1_5], .slice A2 l2.length c2] w fun e w' => e = .returned (.bool r) ∧ Below w.heap.size w w' := by
 have hu25 := Try.underlying25
 have HR2 := am hr2
 have HC2 := am hc2
 clear hr2 hc2
 have HB := am (Below.refl w.heap.size w)
 have H : ((w_awake.f).bind fun t632 => (if t632 = true then (if (l2.length : Int) > 7 then (if (l2.length : Int) ≤ 256 then (w_BoxSubtracts.j0 k l2 true a0_0 a0_1 a0_2 a0_3 a0_4 a0_5 a1_0 a1_1 a1_2 a1_3 a1_4 a1_5) else (w_BoxSubtracts.j0 k l2 (decide ((l2.length : Int) > 1000)) a0_0 a0_1 a0_2 a0_3 a0_4 a0_5 a1_0 a1_1 a1_2 a1_3 a1_4 a1_5)) else (w_BoxSubtracts.j0 k l2 (decide ((l2.length : Int) > 1000)) a0_0 a0_1 a0_2 a0_3 a0_4 a0_5 a1_0 a1_1 a1_2 a1_3 a1_4 a1_5)) else (some false))) = some r := h
 clear h
 replace H := Option.bind_eq_some_iff.mp H
 obtain ⟨t632, A40, H⟩ := H
 replace H : (if t632 = true then (if (l2.length : Int) > 7 then (if (l2.length : Int) ≤ 256 then (w_BoxSubtracts.j0 k l2 true a0_0 a0_1 a0_2 a0_3 a0_4 a0_5 a1_0 a1_1 a1_2 a1_3 a1_4 a1_5) else (w_BoxSubtracts.j0 k l2 (decide ((l2.length : Int) > 1000)) a0_0 a0_1 a0_2 a0_3 a0_4 a0_5 a1_0 a1_1 a1_2 a1_3 a1_4 a1_5)) else (w_BoxSubtracts.j0 k l2 (decide ((l2.length : Int) > 1000)) a0_0 a0_1 a0_2 a0_3 a0_4 a0_5 a1_0 a1_1 a1_2 a1_3 a1_4 a1_5)) else (some false)) = some r := H
 have A4 := am A40
 clear A40
 by_cases c5 : t632 = true
 ·subst c5
  have H1 : (if (l2.length : Int) > 7 then (if (l2.length : Int) ≤ 256 then (w_BoxSubtracts.j0 k l2 true a0_0 a0_1 a0_2 a0_3 a0_4 a0_5 a1_0 a1_1 a1_2 a1_3 a1_4 a1_5) else (w_BoxSubtracts.j0 k l2 (decide ((l2.length : Int) > 1000)) a0_0 a0_1 a0_2 a0_3 a0_4 a0_5 a1_0 a1_1 a1_2 a1_3 a1_4 a1_5)) else (w_BoxSubtracts.j0 k l2 (decide ((l2.length : Int) > 1000)) a0_0 a0_1 a0_2 a0_3 a0_4 a0_5 a1_0 a1_1 a1_2 a1_3 a1_4 a1_5)) = some r := by rw [if_pos rfl] at H; exact H
  clear H
  have H := H1
  clear H1
  have HC6 := am H
  clear H
  go_enter Try.func7, Try.ntmps7
  go_upto_region 3 with (first | ((with_reducible refine gate_dst (N := 3) rfl ?_); (try (refine gate_guard (by rfl) ?_; dsimp only)); refine box_event ?hg (N := 3) ?hd (cs := #[.int .i64 a0_0, .int .i64 a0_1, .int .i64 a0_2, .int .i64 a0_3, .int .i64 a0_4, .int .i64 a0_5]) (t := 25) ?hr ?_; (case hd | hg => rfl); (case hr => first | (go_simp; done) | (go_simp; rfl)); intro gb630 hg w7 hbox hb; have BK630 := am hbox; have GW630 := sG HB hg; have GE630 := sG HB hg; replace HB := bS HB hb; clear hb hbox hg) | ((with_reducible refine gate_dst (N := 4) rfl ?_); (try (refine gate_guard (by rfl) ?_; dsimp only)); refine box_event ?hg (N := 4) ?hd (cs := #[.int .i64 a1_0, .int .i64 a1_1, .int .i64 a1_2, .int .i64 a1_3, .int .i64 a1_4, .int .i64 a1_5]) (t := 25) ?hr ?_; (case hd | hg => rfl); (case hr => first | (go_simp; done) | (go_simp; rfl)); intro gb631 hg w8 hbox hb; have BK631 := am hbox; have GW631 := sG HB hg; have GE631 := sG HB hg; replace HB := bS HB hb; have NB630_631 := nL BK630 hg; have NB631_630 := nG BK630 hg; replace BK630 := bB BK630 hb; clear hb hbox hg) | ((with_reducible refine gc (f := 11) rfl ?_); refine goesL_ (some 15) rfl rfl Try.func11 (by kernel_rfl) rfl #[] rfl (by (try simp only [pml]); first | done | rfl | (simp only [pdt]; rfl)) ?_; (with_reducible refine (w_awake.calls  true _ A4.out).mono ?_); rintro e w9 ⟨rfl, hb⟩; refine ⟨_, rfl, ?_⟩; replace BK630 := bB BK630 hb; replace BK631 := bB BK631 hb; replace HB := bS HB hb; (try clear hb); (try clear hb2); (try clear hk); (try clear hi)))
  (try simp only [Act.put, psl])
  go_cut [29] (fun v29 wc => ∃ (kq : Nat) (x29_5 : Bool), v29 = .bool x29_5 ∧ Aside0 (w_BoxSubtracts.j0 kq l2 x29_5 a0_0 a0_1 a0_2 a0_3 a0_4 a0_5 a1_0 a1_1 a1_2 a1_3 a1_4 a1_5 = some r) ∧ Aside0 (kq ≤ k) ∧ Aside0 (wc.heap[gb630]? = some (.cells #[.int .i64 a0_0, .int .i64 a0_1, .int .i64 a0_2, .int .i64 a0_3, .int .i64 a0_4, .int .i64 a0_5] 25 (0, 0))) ∧ Aside0 (wc.heap[gb631]? = some (.cells #[.int .i64 a1_0, .int .i64 a1_1, .int .i64 a1_2, .int .i64 a1_3, .int .i64 a1_4, .int .i64 a1_5] 25 (0, 0))) ∧ Aside0 (Below w.heap.size w wc))
  case first =>
   have H := HC6.out
   clear HC6
   by_cases c10 : (l2.length : Int) > 7
   rotate_left
   ·rw [if_neg c10] at H
    have c10b0 : decide (7 < (l2.length : Int)) = false := decide_eq_false c10
    have c10b1 : decide (7 < l2.length) = false := decide_eq_false (by omega)
    clear c10
    (first | rw [c10b0] | (simp only [i64_w, i32_w]; rw [c10b0]) | skip)
    have H' := am H
    clear H
    go_wp2
    go_meet
    case rel => exact ⟨_, (decide ((l2.length : Int) > 1000)), (by first | rfl | (simp; done) | (simp [*]; done)), H', ⟨by first | omega | exact Nat.le_refl _⟩, ⟨by (with_reducible repeat first | apply bN | apply bd | apply ba); exact BK630.out⟩, ⟨by (with_reducible repeat first | apply bN | apply bd | apply ba); exact BK631.out⟩, ⟨by repeat (first | (with_reducible first | exact HB.out | apply wa | apply wN | apply wd | refine ws ?_ GE630.out | refine ws ?_ GE631.out) | exact HB.out)⟩⟩
   rw [if_pos c10] at H
   have c10b0 : decide (7 < (l2.length : Int)) = true := decide_eq_true c10
   have c10b1 : decide (7 < l2.length) = true := decide_eq_true (by omega)
   clear c10
   (first | rw [c10b0] | (simp only [i64_w, i32_w]; rw [c10b0]) | skip)
   by_cases c11 : (l2.length : Int) ≤ 256
   ·rw [if_pos c11] at H
    have c11b0 : decide ((l2.length : Int) ≤ 256) = true := decide_eq_true c11
    have c11b1 : decide (l2.length ≤ 256) = true := decide_eq_true (by omega)
    clear c11
    have H' := am H
    clear H
    go_wp2
    go_meet
    case rel => exact ⟨_, (true), (by first | rfl | (simp; done) | (simp [*]; done)), H', ⟨by first | omega | exact Nat.le_refl _⟩, ⟨by (with_reducible repeat first | apply bN | apply bd | apply ba); exact BK630.out⟩, ⟨by (with_reducible repeat first | apply bN | apply bd | apply ba); exact BK631.out⟩, ⟨by repeat (first | (with_reducible first | exact HB.out | apply wa | apply wN | apply wd | refine ws ?_ GE630.out | refine ws ?_ GE631.out) | exact HB.out)⟩⟩
   rw [if_neg c11] at H
   have c11b0 : decide ((l2.length : Int) ≤ 256) = false := decide_eq_false c11
   have c11b1 : decide (l2.length ≤ 256) = false := decide_eq_false (by omega)
   clear c11
   have H' := am H
   clear H
   go_wp2
   go_meet
   case rel => exact ⟨_, (decide ((l2.length : Int) > 1000)), (by first | rfl | (simp; done) | (simp [*]; done)), H', ⟨by first | omega | exact Nat.le_refl _⟩, ⟨by (with_reducible repeat first | apply bN | apply bd | apply ba); exact BK630.out⟩, ⟨by (with_reducible repeat first | apply bN | apply bd | apply ba); exact BK631.out⟩, ⟨by repeat (first | (with_reducible first | exact HB.out | apply wa | apply wN | apply wd | refine ws ?_ GE630.out | refine ws ?_ GE631.out) | exact HB.out)⟩⟩
  case rest =>
   clear HC6
   try clear c1;try clear c2;try clear p2;try clear c5;try clear c7;try clear c10;try clear c10b0;try clear c10b1;try clear c11;try clear c11b0;try clear c11b1
   obtain ⟨kq, x29_5, rfl, HA, HJ5, BK630, BK631, HB⟩ := hcut
   cases kq with
   | zero => exact absurd HA.out (by simp [w_BoxSubtracts.j0])
   | succ kj5 =>
    have H := HA.out
    clear HA
    simp only [w_BoxSubtracts.j0] at H
    by_cases c12 : x29_5 = true
    ·subst c12
     have H1 : (some true) = some r := by rw [if_pos rfl] at H; exact H
     clear H
     have H := H1
     clear H1
     obtain rfl := Option.some.inj H
     go_wp2
     go_ret
     exact ⟨by first | rfl | (simp [errW_none, errW_some] <;> rfl) | (simp [*, errW_none, errW_some] <;> rfl), by repeat (first | (with_reducible first | exact HB.out | apply wa | apply wN | apply wd | refine ws ?_ GE630.out | refine ws ?_ GE631.out) | exact HB.out)⟩
    replace c12 := Bool.eq_false_iff.mpr c12
    subst c12
    have H1 : ((box_Subtract.f kj5 a0_0 a0_1 a0_2 a0_3 a0_4 a0_5 a1_0 a1_1 a1_2 a1_3 a1_4 a1_5).bind fun bt633 => ((w_both.f kj5 a0_0 a0_1 a0_2 a0_3 a0_4 a0_5 a1_0 a1_1 a1_2 a1_3 a1_4 a1_5).bind fun t637 => (if t637 = 0 then (if bt633.2 = 0 then ((r_Subtract.f kj5 a0_0 a0_1 a0_2 a0_3 a0_4 a0_5 a1_0 a1_1 a1_2 a1_3 a1_4 a1_5).bind fun t638 => ((r_Same.f kj5 bt633.1 t638).bind fun t641 => (if t641 = true then (w_BoxSubtracts.j1 kj5 l2 a0_0 a0_1 a0_2 a0_3 a0_4 a0_5) else (some false)))) else (some false)) else (if bt633.2 = t637 then (if (bt633.1.length : Int) = 0 then (w_BoxSubtracts.j1 kj5 l2 a0_0 a0_1 a0_2 a0_3 a0_4 a0_5) else (some false)) else (some false))))) = some r := by rw [if_neg (show ¬ (false = true) by decide)] at H; exact H
    clear H
    have H := H1
    clear H1
    replace H := Option.bind_eq_some_iff.mp H
    obtain ⟨⟨t633, t636⟩, A130, H⟩ := H
    replace H : ((w_both.f kj5 a0_0 a0_1 a0_2 a0_3 a0_4 a0_5 a1_0 a1_1 a1_2 a1_3 a1_4 a1_5).bind fun t637 => (if t637 = 0 then (if t636 = 0 then ((r_Subtract.f kj5 a0_0 a0_1 a0_2 a0_3 a0_4 a0_5 a1_0 a1_1 a1_2 a1_3 a1_4 a1_5).bind fun t638 => ((r_Same.f kj5 t633 t638).bind fun t641 => (if t641 = true then (w_BoxSubtracts.j1 kj5 l2 a0_0 a0_1 a0_2 a0_3 a0_4 a0_5) else (some false)))) else (some false)) else (if t636 = t637 then (if (t633.length : Int) = 0 then (w_BoxSubtracts.j1 kj5 l2 a0_0 a0_1 a0_2 a0_3 a0_4 a0_5) else (some false)) else (some false)))) = some r := H
    have A13 := am A130
    clear A130
    replace H := Option.bind_eq_some_iff.mp H
    obtain ⟨t637, A140, H⟩ := H
    replace H : (if t637 = 0 then (if t636 = 0 then ((r_Subtract.f kj5 a0_0 a0_1 a0_2 a0_3 a0_4 a0_5 a1_0 a1_1 a1_2 a1_3 a1_4 a1_5).bind fun t638 => ((r_Same.f kj5 t633 t638).bind fun t641 => (if t641 = true then (w_BoxSubtracts.j1 kj5 l2 a0_0 a0_1 a0_2 a0_3 a0_4 a0_5) else (some false)))) else (some false)) else (if t636 = t637 then (if (t633.length : Int) = 0 then (w_BoxSubtracts.j1 kj5 l2 a0_0 a0_1 a0_2 a0_3 a0_4 a0_5) else (some false)) else (some false))) = some r := H
    have A14 := am A140
    clear A140
    have HC15 := am H
    clear H
    have hnb16 := NB630_631.out
    have hnc16 := NB631_630.out
    have := yC1 BK630
    have hcz17_1 := kC1 BK630
    have hcz17_2 := kC2 BK630
    have hcz17_3 := kC3 BK630
    have hcz17_4 := kC4 BK630
    have hcz17_5 := kC5 BK630
    have hfz17_0 := bf BK630.out 0
    have hfz17_1 := bf BK630.out 1
    have hfz17_2 := bf BK630.out 2
    have hfz17_3 := bf BK630.out 3
    have hfz17_4 := bf BK630.out 4
    have hfz17_5 := bf BK630.out 5
    have := yC1 BK631
    have hcz18_1 := kC1 BK631
    have hcz18_2 := kC2 BK631
    have hcz18_3 := kC3 BK631
    have hcz18_4 := kC4 BK631
    have hcz18_5 := kC5 BK631
    have hfz18_0 := bf BK631.out 0
    have hfz18_1 := bf BK631.out 1
    have hfz18_2 := bf BK631.out 2
    have hfz18_3 := bf BK631.out 3
    have hfz18_4 := bf BK631.out 4
    have hfz18_5 := bf BK631.out 5
    go_upto_if 40 with (first | ((with_reducible refine gc (f := 35) rfl ?_); refine goesL_ (some 33) rfl rfl Try.func35 (by kernel_rfl) rfl #[.agg #[.int .i64 a0_0, .int .i64 a0_1, .int .i64 a0_2, .int .i64 a0_3, .int .i64 a0_4, .int .i64 a0_5], .agg #[.int .i64 a1_0, .int .i64 a1_1, .int .i64 a1_2, .int .i64 a1_3, .int .i64 a1_4, .int .i64 a1_5]] rfl (by (try simp only [pml]); first | done | rfl | (simp only [pdt]; rfl)) ?_; (with_reducible refine (box_Subtract.calls kj5 a0_0 a0_1 a0_2 a0_3 a0_4 a0_5 a1_0 a1_1 a1_2 a1_3 a1_4 a1_5 t633 t636 _ A13.out).mono ?_); rintro e w19 ⟨v634, rfl, ho0, hb⟩; refine ⟨_, rfl, ?_⟩; have HO635 := am (Kd.R_lower (Kd.R_newB (Kd.R_newB ho0 (g := gb630) (o := .cells #[.int .i64 a0_0, .int .i64 a0_1, .int .i64 a0_2, .int .i64 a0_3, .int .i64 a0_4, .int .i64 a0_5] 25 (0, 0)) (fb BK630.out)) (g := gb631) (o := .cells #[.int .i64 a1_0, .int .i64 a1_1, .int .i64 a1_2, .int .i64 a1_3, .int .i64 a1_4, .int .i64 a1_5] 25 (0, 0)) (fb BK631.out)) (wz (fW HB.out))); replace BK630 := bB BK630 hb; replace BK631 := bB BK631 hb; replace HB := bS HB hb; (try clear hb); (try clear hb2); (try clear hk); (try clear hi); (try clear ho0); obtain ⟨_, _, _, _, _, _, _, _, _, _, _, _⟩ := zC6 BK630; obtain ⟨_, _, _, _, _, _, _, _, _, _, _, _⟩ := zC6 BK631) | ((with_reducible refine gc (f := 27) rfl ?_); refine goesL_ (some 38) rfl rfl Try.func27 (by kernel_rfl) rfl #[.agg #[.int .i64 a0_0, .int .i64 a0_1, .int .i64 a0_2, .int .i64 a0_3, .int .i64 a0_4, .int .i64 a0_5], .agg #[.int .i64 a1_0, .int .i64 a1_1, .int .i64 a1_2, .int .i64 a1_3, .int .i64 a1_4, .int .i64 a1_5]] rfl (by (try simp only [pml]); first | done | rfl | (simp only [pdt]; rfl)) ?_; (with_reducible refine (w_both.calls kj5 a0_0 a0_1 a0_2 a0_3 a0_4 a0_5 a1_0 a1_1 a1_2 a1_3 a1_4 a1_5 t637 _ A14.out).mono ?_); rintro e w22 ⟨rfl, hb⟩; refine ⟨_, rfl, ?_⟩; replace HO635 := dR HO635 hb; replace BK630 := bB BK630 hb; replace BK631 := bB BK631 hb; replace HB := bS HB hb; (try clear hb); (try clear hb2); (try clear hk); (try clear hi)))
    (try simp only [Act.put, psl])
    go_cut [] (fun wc => ∃ (kq : Nat), Aside0 (w_BoxSubtracts.j1 kq l2 a0_0 a0_1 a0_2 a0_3 a0_4 a0_5 = some r) ∧ Aside0 (kq ≤ kj5) ∧ Aside0 (wc.heap[gb630]? = some (.cells #[.int .i64 a0_0, .int .i64 a0_1, .int .i64 a0_2, .int .i64 a0_3, .int .i64 a0_4, .int .i64 a0_5] 25 (0, 0))) ∧ Aside0 (wc.heap[gb631]? = some (.cells #[.int .i64 a1_0, .int .i64 a1_1, .int .i64 a1_2, .int .i64 a1_3, .int .i64 a1_4, .int .i64 a1_5] 25 (0, 0))) ∧ Aside0 (Below w.heap.size w wc))
    case first =>
     have H := HC15.out
     clear HC15
     by_cases c23 : t637 = 0
     rotate_left
     ·rw [if_neg c23] at H
      have c23b0 : (t637 == 0) = false := beq_eq_false_iff_ne.mpr c23
      have c23b1 : (t637 != 0) = true := bne_iff_ne.mpr c23
      (first | rw [c23b0] | (simp only [i64_w, i32_w]; rw [c23b0]) | skip)
      by_cases c40 : t636 = t637
      rotate_left
      ·rw [if_neg c40] at H
       have c40b0 : (t636 == t637) = false := beq_eq_false_iff_ne.mpr c40
       have c40b1 : (t636 != t637) = true := bne_iff_ne.mpr c40
       obtain rfl := Option.some.inj H
       go_wp2
       go_ret
       exact ⟨by first | rfl | (simp [errW_none, errW_some] <;> rfl) | (simp [*, errW_none, errW_some] <;> rfl), by repeat (first | (with_reducible first | exact HB.out | apply wa | apply wN | apply wd | refine ws ?_ GE630.out | refine ws ?_ GE631.out) | exact HB.out)⟩
      rw [if_pos c40] at H
      have c40b0 : (t636 == t637) = true := beq_iff_eq.mpr c40
      have c40b1 : (t636 != t637) = false := bne_eq_false_iff_eq.mpr c40
      clear c40
      by_cases c41 : (t633.length : Int) = 0
      ·rw [if_pos c41] at H
       have c41b0 : ((t633.length : Int) == 0) = true := beq_iff_eq.mpr c41
       have c41b1 : ((t633.length : Int) != 0) = false := bne_eq_false_iff_eq.mpr c41
       clear c41
       have H' := am H
       clear H
       obtain ⟨Ao42, co42, eo42⟩ := Kd.R_slice HO635.out
       subst eo42
       go_wp2
       go_meet
       case rel => exact ⟨_, H', ⟨by have := HJ5.out; first | omega | exact Nat.le_refl _⟩, ⟨by (with_reducible repeat first | apply bN | apply bd | apply ba); exact BK630.out⟩, ⟨by (with_reducible repeat first | apply bN | apply bd | apply ba); exact BK631.out⟩, ⟨by repeat (first | (with_reducible first | exact HB.out | apply wa | apply wN | apply wd | refine ws ?_ GE630.out | refine ws ?_ GE631.out) | exact HB.out)⟩⟩
      rw [if_neg c41] at H
      have c41b0 : ((t633.length : Int) == 0) = false := beq_eq_false_iff_ne.mpr c41
      have c41b1 : ((t633.length : Int) != 0) = true := bne_iff_ne.mpr c41
      have c41b2 : ¬ (t633 = []) := fun h_ => c41 (by rw [h_]; rfl)
      obtain rfl := Option.some.inj H
      obtain ⟨Ao43, co43, eo43⟩ := Kd.R_slice HO635.out
      subst eo43
      go_wp2
      go_ret
      exact ⟨by first | rfl | (simp [errW_none, errW_some] <;> rfl) | (simp [*, errW_none, errW_some] <;> rfl), by repeat (first | (with_reducible first | exact HB.out | apply wa | apply wN | apply wd | refine ws ?_ GE630.out | refine ws ?_ GE631.out) | exact HB.out)⟩
     rw [if_pos c23] at H
     have c23b0 : (t637 == 0) = true := beq_iff_eq.mpr c23
     have c23b1 : (t637 != 0) = false := bne_eq_false_iff_eq.mpr c23
     clear c23
     (first | rw [c23b0] | (simp only [i64_w, i32_w]; rw [c23b0]) | skip)
     by_cases c24 : t636 = 0
     rotate_left
     ·rw [if_neg c24] at H
      have c24b0 : (t636 == 0) = false := beq_eq_false_iff_ne.mpr c24
      have c24b1 : (t636 != 0) = true := bne_iff_ne.mpr c24
      obtain rfl := Option.some.inj H
      go_wp2
      go_ret
      exact ⟨by first | rfl | (simp [errW_none, errW_some] <;> rfl) | (simp [*, errW_none, errW_some] <;> rfl), by repeat (first | (with_reducible first | exact HB.out | apply wa | apply wN | apply wd | refine ws ?_ GE630.out | refine ws ?_ GE631.out) | exact HB.out)⟩
     rw [if_pos c24] at H
     have c24b0 : (t636 == 0) = true := beq_iff_eq.mpr c24
     have c24b1 : (t636 != 0) = false := bne_eq_false_iff_eq.mpr c24
     clear c24
     replace H := Option.bind_eq_some_iff.mp H
     obtain ⟨t638, A250, H⟩ := H
     replace H : ((r_Same.f kj5 t633 t638).bind fun t641 => (if t641 = true then (w_BoxSubtracts.j1 kj5 l2 a0_0 a0_1 a0_2 a0_3 a0_4 a0_5) else (some false))) = some r := H
     have A25 := am A250
     clear A250
     replace H := Option.bind_eq_some_iff.mp H
     obtain ⟨t641, A260, H⟩ := H
     replace H : (if t641 = true then (w_BoxSubtracts.j1 kj5 l2 a0_0 a0_1 a0_2 a0_3 a0_4 a0_5) else (some false)) = some r := H
     have A26 := am A260
     clear A260
     by_cases c27 : t641 = true
     ·subst c27
      have H1 : (w_BoxSubtracts.j1 kj5 l2 a0_0 a0_1 a0_2 a0_3 a0_4 a0_5) = some r := by rw [if_pos rfl] at H; exact H
      clear H
      have H := H1
      clear H1
      have H' := am H
      clear H
      have hnb28 := NB630_631.out
      have hnc28 := NB631_630.out
      have := yC1 BK630
      have hcz29_1 := kC1 BK630
      have hcz29_2 := kC2 BK630
      have hcz29_3 := kC3 BK630
      have hcz29_4 := kC4 BK630
      have hcz29_5 := kC5 BK630
      have hfz29_0 := bf BK630.out 0
      have hfz29_1 := bf BK630.out 1
      have hfz29_2 := bf BK630.out 2
      have hfz29_3 := bf BK630.out 3
      have hfz29_4 := bf BK630.out 4
      have hfz29_5 := bf BK630.out 5
      have := yC1 BK631
      have hcz30_1 := kC1 BK631
      have hcz30_2 := kC2 BK631
      have hcz30_3 := kC3 BK631
      have hcz30_4 := kC4 BK631
      have hcz30_5 := kC5 BK631
      have hfz30_0 := bf BK631.out 0
      have hfz30_1 := bf BK631.out 1
      have hfz30_2 := bf BK631.out 2
      have hfz30_3 := bf BK631.out 3
      have hfz30_4 := bf BK631.out 4
      have hfz30_5 := bf BK631.out 5
      go_wp2_with (first | (go_at_call 37; (with_reducible refine (r_Subtract.calls kj5 a0_0 a0_1 a0_2 a0_3 a0_4 a0_5 a1_0 a1_1 a1_2 a1_3 a1_4 a1_5 t638 _ A25.out).mono ?_); rintro e w31 ⟨v639, rfl, ho0, hb⟩; have HO640 := am (Kd.R_lower (Kd.R_newB (Kd.R_newB (Kd.R_new' ho0 (Kd.R_lt (fR HO635.out))) (g := gb630) (o := .cells #[.int .i64 a0_0, .int .i64 a0_1, .int .i64 a0_2, .int .i64 a0_3, .int .i64 a0_4, .int .i64 a0_5] 25 (0, 0)) (fb BK630.out)) (g := gb631) (o := .cells #[.int .i64 a1_0, .int .i64 a1_1, .int .i64 a1_2, .int .i64 a1_3, .int .i64 a1_4, .int .i64 a1_5] 25 (0, 0)) (fb BK631.out)) (wz (fW HB.out))); replace HO635 := am (Kd.R_elder' (fR HO635.out) (Kd.R_base ho0) hb); replace BK630 := bB BK630 hb; replace BK631 := bB BK631 hb; replace HB := bS HB hb; (try clear hb); (try clear hb2); (try clear hk); (try clear hi); (try clear ho0); obtain ⟨Ao32, co32, eo32⟩ := Kd.R_slice HO635.out; subst eo32; obtain ⟨Ao33, co33, eo33⟩ := Kd.R_slice HO640.out; subst eo33) | (go_at_call 36; (with_reducible refine (r_Same.calls kj5 _ _ t633 _ _ t638 true _ ?side1 ?side2 ?side3 ?side4 A26.out).mono ?_); (case side1 => repeat (first | exact (Kd.R_reads' HO635.out).2.2 | (with_reducible refine Kd.C_alloc ?_ _) | (with_reducible refine Kd.C_drewN ?_ _) | (with_reducible refine Kd.C_drew ?_))); (case side2 => exact (Kd.R_reads' HO635.out).2.1); (case side3 => repeat (first | exact (Kd.R_reads' HO640.out).2.2 | (with_reducible refine Kd.C_alloc ?_ _) | (with_reducible refine Kd.C_drewN ?_ _) | (with_reducible refine Kd.C_drew ?_))); (case side4 => exact (Kd.R_reads' HO640.out).2.1); rintro e w' ⟨rfl, ⟨nd, rfl⟩⟩))
      go_meet
      case rel => exact ⟨_, H', ⟨by have := HJ5.out; first | omega | exact Nat.le_refl _⟩, ⟨by (with_reducible repeat first | apply bN | apply bd | apply ba); exact BK630.out⟩, ⟨by (with_reducible repeat first | apply bN | apply bd | apply ba); exact BK631.out⟩, ⟨by repeat (first | (with_reducible first | exact HB.out | apply wa | apply wN | apply wd | refine ws ?_ GE630.out | refine ws ?_ GE631.out) | exact HB.out)⟩⟩
     replace c27 := Bool.eq_false_iff.mpr c27
     subst c27
     have H1 : (some false) = some r := by rw [if_neg (show ¬ (false = true) by decide)] at H; exact H
     clear H
     have H := H1
     clear H1
     obtain rfl := Option.some.inj H
     have hnb34 := NB630_631.out
     have hnc34 := NB631_630.out
     have := yC1 BK630
     have hcz35_1 := kC1 BK630
     have hcz35_2 := kC2 BK630
     have hcz35_3 := kC3 BK630
     have hcz35_4 := kC4 BK630
     have hcz35_5 := kC5 BK630
     have hfz35_0 := bf BK630.out 0
     have hfz35_1 := bf BK630.out 1
     have hfz35_2 := bf BK630.out 2
     have hfz35_3 := bf BK630.out 3
     have hfz35_4 := bf BK630.out 4
     have hfz35_5 := bf BK630.out 5
     have := yC1 BK631
     have hcz36_1 := kC1 BK631
     have hcz36_2 := kC2 BK631
     have hcz36_3 := kC3 BK631
     have hcz36_4 := kC4 BK631
     have hcz36_5 := kC5 BK631
     have hfz36_0 := bf BK631.out 0
     have hfz36_1 := bf BK631.out 1
     have hfz36_2 := bf BK631.out 2
     have hfz36_3 := bf BK631.out 3
     have hfz36_4 := bf BK631.out 4
     have hfz36_5 := bf BK631.out 5
     go_wp2_with (first | (go_at_call 37; (with_reducible refine (r_Subtract.calls kj5 a0_0 a0_1 a0_2 a0_3 a0_4 a0_5 a1_0 a1_1 a1_2 a1_3 a1_4 a1_5 t638 _ A25.out).mono ?_); rintro e w37 ⟨v639, rfl, ho0, hb⟩; have HO640 := am (Kd.R_lower (Kd.R_newB (Kd.R_newB (Kd.R_new' ho0 (Kd.R_lt (fR HO635.out))) (g := gb630) (o := .cells #[.int .i64 a0_0, .int .i64 a0_1, .int .i64 a0_2, .int .i64 a0_3, .int .i64 a0_4, .int .i64 a0_5] 25 (0, 0)) (fb BK630.out)) (g := gb631) (o := .cells #[.int .i64 a1_0, .int .i64 a1_1, .int .i64 a1_2, .int .i64 a1_3, .int .i64 a1_4, .int .i64 a1_5] 25 (0, 0)) (fb BK631.out)) (wz (fW HB.out))); replace HO635 := am (Kd.R_elder' (fR HO635.out) (Kd.R_base ho0) hb); replace BK630 := bB BK630 hb; replace BK631 := bB BK631 hb; replace HB := bS HB hb; (try clear hb); (try clear hb2); (try clear hk); (try clear hi); (try clear ho0); obtain ⟨Ao38, co38, eo38⟩ := Kd.R_slice HO635.out; subst eo38; obtain ⟨Ao39, co39, eo39⟩ := Kd.R_slice HO640.out; subst eo39) | (go_at_call 36; (with_reducible refine (r_Same.calls kj5 _ _ t633 _ _ t638 false _ ?side1 ?side2 ?side3 ?side4 A26.out).mono ?_); (case side1 => repeat (first | exact (Kd.R_reads' HO635.out).2.2 | (with_reducible refine Kd.C_alloc ?_ _) | (with_reducible refine Kd.C_drewN ?_ _) | (with_reducible refine Kd.C_drew ?_))); (case side2 => exact (Kd.R_reads' HO635.out).2.1); (case side3 => repeat (first | exact (Kd.R_reads' HO640.out).2.2 | (with_reducible refine Kd.C_alloc ?_ _) | (with_reducible refine Kd.C_drewN ?_ _) | (with_reducible refine Kd.C_drew ?_))); (case side4 => exact (Kd.R_reads' HO640.out).2.1); rintro e w' ⟨rfl, ⟨nd, rfl⟩⟩))
     go_ret
     exact ⟨by first | rfl | (simp [errW_none, errW_some] <;> rfl) | (simp [*, errW_none, errW_some] <;> rfl), by repeat (first | (with_reducible first | exact HB.out | apply wa | apply wN | apply wd | refine ws ?_ GE630.out | refine ws ?_ GE631.out) | exact HB.out)⟩
    case rest =>
     clear HC15
     try clear c1;try clear c2;try clear p2;try clear c3;try clear c4;try clear c5;try clear c7;try clear c10;try clear c10b0;try clear c10b1;try clear c11;try clear c11b0;try clear c11b1;try clear c12;try clear c16;try clear c23;try clear c23b0;try clear c23b1;try clear c24;try clear c24b0;try clear c24b1;try clear c27;try clear c28;try clear c34;try clear c35;try clear c40;try clear c40b0;try clear c40b1;try clear c41;try clear c41b0;try clear c41b1;try clear c41b2;try clear hcz17_0;try clear hcz17_1;try clear hcz17_2;try clear hcz17_3;try clear hcz17_4;try clear hcz17_5;try clear hcz18_0;try clear hcz18_1;try clear hcz18_2;try clear hcz18_3;try clear hcz18_4;try clear hcz18_5;try clear hcz20_0;try clear hcz20_1;try clear hcz20_2;try clear hcz20_3;try clear hcz20_4;try clear hcz20_5;try clear hcz21_0;try clear hcz21_1;try clear hcz21_2;try clear hcz21_3;try clear hcz21_4;try clear hcz21_5;try clear hcz29_0;try clear hcz29_1;try clear hcz29_2;try clear hcz29_3;try clear hcz29_4;try clear hcz29_5;try clear hcz30_0;try clear hcz30_1;try clear hcz30_2;try clear hcz30_3;try clear hcz30_4;try clear hcz30_5;try clear hcz35_0;try clear hcz35_1;try clear hcz35_2;try clear hcz35_3;try clear hcz35_4;try clear hcz35_5;try clear hcz36_0;try clear hcz36_1;try clear hcz36_2;try clear hcz36_3;try clear hcz36_4;try clear hcz36_5;try clear hfz17_0;try clear hfz17_1;try clear hfz17_2;try clear hfz17_3;try clear hfz17_4;try clear hfz17_5;try clear hfz18_0;try clear hfz18_1;try clear hfz18_2;try clear hfz18_3;try clear hfz18_4;try clear hfz18_5;try clear hfz20_0;try clear hfz20_1;try clear hfz20_2;try clear hfz20_3;try clear hfz20_4;try clear hfz20_5;try clear hfz21_0;try clear hfz21_1;try clear hfz21_2;try clear hfz21_3;try clear hfz21_4;try clear hfz21_5;try clear hfz29_0;try clear hfz29_1;try clear hfz29_2;try clear hfz29_3;try clear hfz29_4;try clear hfz29_5;try clear hfz30_0;try clear hfz30_1;try clear hfz30_2;try clear hfz30_3;try clear hfz30_4;try clear hfz30_5;try clear hfz35_0;try clear hfz35_1;try clear hfz35_2;try clear hfz35_3;try clear hfz35_4;try clear hfz35_5;try clear hfz36_0;try clear hfz36_1;try clear hfz36_2;try clear hfz36_3;try clear hfz36_4;try clear hfz36_5;try clear p2
     obtain ⟨kq, HA, HJ14, BK630, BK631, HB⟩ := hcut
     cases kq with
     | zero => exact absurd HA.out (by simp [w_BoxSubtracts.j1])
     | succ kj14 =>
      have H := HA.out
      clear HA
      simp only [w_BoxSubtracts.j1] at H
      replace H := Option.bind_eq_some_iff.mp H
      obtain ⟨⟨t642, t645⟩, A440, H⟩ := H
      replace H : (if (l2.length : Int) > 256 then (if t645 = 7 then (some ((t642.length : Int) == 0)) else (some false)) else ((r_Check.f kj14 a0_0 a0_1 a0_2 a0_3 a0_4 a0_5).bind fun t646 => (if t646 = 0 then ((r_CheckAll.f kj14 l2).bind fun t647 => (w_BoxSubtracts.j2 kj14 l2 t642 t645 t647 a0_0 a0_1 a0_2 a0_3 a0_4 a0_5)) else (w_BoxSubtracts.j2 kj14 l2 t642 t645 t646 a0_0 a0_1 a0_2 a0_3 a0_4 a0_5)))) = some r := H
      have A44 := am A440
      clear A440
      by_cases c45 : (l2.length : Int) > 256
      ·rw [if_pos c45] at H
       have c45b0 : decide (256 < (l2.length : Int)) = true := decide_eq_true c45
       have c45b1 : decide (256 < l2.length) = true := decide_eq_true (by omega)
       clear c45
       by_cases c46 : t645 = 7
       ·rw [if_pos c46] at H
        have c46b0 : (t645 == 7) = true := beq_iff_eq.mpr c46
        have c46b1 : (t645 != 7) = false := bne_eq_false_iff_eq.mpr c46
        clear c46
        obtain rfl := Option.some.inj H
        have hnb47 := NB630_631.out
        have hnc47 := NB631_630.out
        have := yC1 BK630
        have hcz48_1 := kC1 BK630
        have hcz48_2 := kC2 BK630
        have hcz48_3 := kC3 BK630
        have hcz48_4 := kC4 BK630
        have hcz48_5 := kC5 BK630
        have hfz48_0 := bf BK630.out 0
        have hfz48_1 := bf BK630.out 1
        have hfz48_2 := bf BK630.out 2
        have hfz48_3 := bf BK630.out 3
        have hfz48_4 := bf BK630.out 4
        have hfz48_5 := bf BK630.out 5
        go_wp2_with (first | ((with_reducible refine gc (f := 13) rfl ?_); refine goesL_ (some 62) rfl rfl Try.func13 (by kernel_rfl) rfl #[.agg #[.int .i64 a0_0, .int .i64 a0_1, .int .i64 a0_2, .int .i64 a0_3, .int .i64 a0_4, .int .i64 a0_5], .slice A2 l2.length c2] rfl (by (try simp only [pml]); first | done | rfl | (simp only [pdt]; rfl)) ?_; (with_reducible refine (box_Rest.calls kj14 a0_0 a0_1 a0_2 a0_3 a0_4 a0_5 _ _ l2 t642 t645 _ ?side1 ?side2 A44.out).mono ?_); (case side1 => repeat (first | exact (Kd.C_below HR2.out HB.out) | (with_reducible refine Kd.C_alloc ?_ _) | (with_reducible refine Kd.C_drewN ?_ _) | (with_reducible refine Kd.C_drew ?_))); (case side2 => exact HC2.out); rintro e w49 ⟨v643, rfl, ho0, hb⟩; refine ⟨_, rfl, ?_⟩; have HO644 := am (Kd.R_lower (Kd.R_newB (Kd.R_newB ho0 (g := gb630) (o := .cells #[.int .i64 a0_0, .int .i64 a0_1, .int .i64 a0_2, .int .i64 a0_3, .int .i64 a0_4, .int .i64 a0_5] 25 (0, 0)) (fb BK630.out)) (g := gb631) (o := .cells #[.int .i64 a1_0, .int .i64 a1_1, .int .i64 a1_2, .int .i64 a1_3, .int .i64 a1_4, .int .i64 a1_5] 25 (0, 0)) (fb BK631.out)) (wz (fW HB.out))); replace BK630 := bB BK630 hb; replace BK631 := bB BK631 hb; replace HB := bS HB hb; (try clear hb); (try clear hb2); (try clear hk); (try clear hi); (try clear ho0); obtain ⟨Ao50, co50, eo50⟩ := Kd.R_slice HO644.out; subst eo50))
        go_ret
        exact ⟨by first | rfl | (simp [errW_none, errW_some] <;> rfl) | (simp [*, errW_none, errW_some] <;> rfl), by repeat (first | (with_reducible first | exact HB.out | apply wa | apply wN | apply wd | refine ws ?_ GE630.out | refine ws ?_ GE631.out) | exact HB.out)⟩
       rw [if_neg c46] at H
       have c46b0 : (t645 == 7) = false := beq_eq_false_iff_ne.mpr c46
       have c46b1 : (t645 != 7) = true := bne_iff_ne.mpr c46
       obtain rfl := Option.some.inj H
       have hnb51 := NB630_631.out
       have hnc51 := NB631_630.out
       have := yC1 BK630
       have hcz52_1 := kC1 BK630
       have hcz52_2 := kC2 BK630
       have hcz52_3 := kC3 BK630
       have hcz52_4 := kC4 BK630
       have hcz52_5 := kC5 BK630
       have hfz52_0 := bf BK630.out 0
       have hfz52_1 := bf BK630.out 1
       have hfz52_2 := bf BK630.out 2
       have hfz52_3 := bf BK630.out 3
       have hfz52_4 := bf BK630.out 4
       have hfz52_5 := bf BK630.out 5
       go_wp2_with (first | ((with_reducible refine gc (f := 13) rfl ?_); refine goesL_ (some 62) rfl rfl Try.func13 (by kernel_rfl) rfl #[.agg #[.int .i64 a0_0, .int .i64 a0_1, .int .i64 a0_2, .int .i64 a0_3, .int .i64 a0_4, .int .i64 a0_5], .slice A2 l2.length c2] rfl (by (try simp only [pml]); first | done | rfl | (simp only [pdt]; rfl)) ?_; (with_reducible refine (box_Rest.calls kj14 a0_0 a0_1 a0_2 a0_3 a0_4 a0_5 _ _ l2 t642 t645 _ ?side1 ?side2 A44.out).mono ?_); (case side1 => repeat (first | exact (Kd.C_below HR2.out HB.out) | (with_reducible refine Kd.C_alloc ?_ _) | (with_reducible refine Kd.C_drewN ?_ _) | (with_reducible refine Kd.C_drew ?_))); (case side2 => exact HC2.out); rintro e w53 ⟨v643, rfl, ho0, hb⟩; refine ⟨_, rfl, ?_⟩; have HO644 := am (Kd.R_lower (Kd.R_newB (Kd.R_newB ho0 (g := gb630) (o := .cells #[.int .i64 a0_0, .int .i64 a0_1, .int .i64 a0_2, .int .i64 a0_3, .int .i64 a0_4, .int .i64 a0_5] 25 (0, 0)) (fb BK630.out)) (g := gb631) (o := .cells #[.int .i64 a1_0, .int .i64 a1_1, .int .i64 a1_2, .int .i64 a1_3, .int .i64 a1_4, .int .i64 a1_5] 25 (0, 0)) (fb BK631.out)) (wz (fW HB.out))); replace BK630 := bB BK630 hb; replace BK631 := bB BK631 hb; replace HB := bS HB hb; (try clear hb); (try clear hb2); (try clear hk); (try clear hi); (try clear ho0)))
       go_ret
       exact ⟨by first | rfl | (simp [errW_none, errW_some] <;> rfl) | (simp [*, errW_none, errW_some] <;> rfl), by repeat (first | (with_reducible first | exact HB.out | apply wa | apply wN | apply wd | refine ws ?_ GE630.out | refine ws ?_ GE631.out) | exact HB.out)⟩
      rw [if_neg c45] at H
      have c45b0 : decide (256 < (l2.length : Int)) = false := decide_eq_false c45
      have c45b1 : decide (256 < l2.length) = false := decide_eq_false (by omega)
      clear c45
      replace H := Option.bind_eq_some_iff.mp H
      obtain ⟨t646, A540, H⟩ := H
      replace H : (if t646 = 0 then ((r_CheckAll.f kj14 l2).bind fun t647 => (w_BoxSubtracts.j2 kj14 l2 t642 t645 t647 a0_0 a0_1 a0_2 a0_3 a0_4 a0_5)) else (w_BoxSubtracts.j2 kj14 l2 t642 t645 t646 a0_0 a0_1 a0_2 a0_3 a0_4 a0_5)) = some r := H
      have A54 := am A540
      clear A540
      have HC55 := am H
      clear H
      have hnb56 := NB630_631.out
      have hnc56 := NB631_630.out
      have := yC1 BK630
      have hcz57_1 := kC1 BK630
      have hcz57_2 := kC2 BK630
      have hcz57_3 := kC3 BK630
      have hcz57_4 := kC4 BK630
      have hcz57_5 := kC5 BK630
      have hfz57_0 := bf BK630.out 0
      have hfz57_1 := bf BK630.out 1
      have hfz57_2 := bf BK630.out 2
      have hfz57_3 := bf BK630.out 3
      have hfz57_4 := bf BK630.out 4
      have hfz57_5 := bf BK630.out 5
      go_upto_if 78 with (first | ((with_reducible refine gc (f := 13) rfl ?_); refine goesL_ (some 62) rfl rfl Try.func13 (by kernel_rfl) rfl #[.agg #[.int .i64 a0_0, .int .i64 a0_1, .int .i64 a0_2, .int .i64 a0_3, .int .i64 a0_4, .int .i64 a0_5], .slice A2 l2.length c2] rfl (by (try simp only [pml]); first | done | rfl | (simp only [pdt]; rfl)) ?_; (with_reducible refine (box_Rest.calls kj14 a0_0 a0_1 a0_2 a0_3 a0_4 a0_5 _ _ l2 t642 t645 _ ?side1 ?side2 A44.out).mono ?_); (case side1 => repeat (first | exact (Kd.C_below HR2.out HB.out) | (with_reducible refine Kd.C_alloc ?_ _) | (with_reducible refine Kd.C_drewN ?_ _) | (with_reducible refine Kd.C_drew ?_))); (case side2 => exact HC2.out); rintro e w58 ⟨v643, rfl, ho0, hb⟩; refine ⟨_, rfl, ?_⟩; have HO644 := am (Kd.R_lower (Kd.R_newB (Kd.R_newB ho0 (g := gb630) (o := .cells #[.int .i64 a0_0, .int .i64 a0_1, .int .i64 a0_2, .int .i64 a0_3, .int .i64 a0_4, .int .i64 a0_5] 25 (0, 0)) (fb BK630.out)) (g := gb631) (o := .cells #[.int .i64 a1_0, .int .i64 a1_1, .int .i64 a1_2, .int .i64 a1_3, .int .i64 a1_4, .int .i64 a1_5] 25 (0, 0)) (fb BK631.out)) (wz (fW HB.out))); replace BK630 := bB BK630 hb; replace BK631 := bB BK631 hb; replace HB := bS HB hb; (try clear hb); (try clear hb2); (try clear hk); (try clear hi); (try clear ho0); obtain ⟨_, _, _, _, _, _, _, _, _, _, _, _⟩ := zC6 BK630) | ((with_reducible refine gc (f := 19) rfl ?_); refine goesL_ (some 76) rfl rfl Try.func19 (by kernel_rfl) rfl #[.agg #[.int .i64 a0_0, .int .i64 a0_1, .int .i64 a0_2, .int .i64 a0_3, .int .i64 a0_4, .int .i64 a0_5]] rfl (by (try simp only [pml]); first | done | rfl | (simp only [pdt]; rfl)) ?_; (with_reducible refine (r_Check.calls kj14 a0_0 a0_1 a0_2 a0_3 a0_4 a0_5 t646 _ A54.out).mono ?_); rintro e w60 ⟨rfl, hb⟩; refine ⟨_, rfl, ?_⟩; replace HO644 := dR HO644 hb; replace BK630 := bB BK630 hb; replace BK631 := bB BK631 hb; replace HB := bS HB hb; (try clear hb); (try clear hb2); (try clear hk); (try clear hi)))
      (try simp only [Act.put, psl])
      go_cut [12] (fun v12 wc => ∃ (kq : Nat) (x12_54 : Int), v12 = .int .i64 x12_54 ∧ Aside0 (w_BoxSubtracts.j2 kq l2 t642 t645 x12_54 a0_0 a0_1 a0_2 a0_3 a0_4 a0_5 = some r) ∧ Aside0 (kq ≤ kj14) ∧ Aside0 (Kd.R k25 25 wc w.heap.size (fun k_ => k_ ≠ gb630 ∧ k_ ≠ gb631) v643 t642) ∧ Aside0 (wc.heap[gb630]? = some (.cells #[.int .i64 a0_0, .int .i64 a0_1, .int .i64 a0_2, .int .i64 a0_3, .int .i64 a0_4, .int .i64 a0_5] 25 (0, 0))) ∧ Aside0 (wc.heap[gb631]? = some (.cells #[.int .i64 a1_0, .int .i64 a1_1, .int .i64 a1_2, .int .i64 a1_3, .int .i64 a1_4, .int .i64 a1_5] 25 (0, 0))) ∧ Aside0 (Below w.heap.size w wc))
      case first =>
       have H := HC55.out
       clear HC55
       by_cases c61 : t646 = 0
       ·rw [if_pos c61] at H
        have c61b0 : (t646 == 0) = true := beq_iff_eq.mpr c61
        have c61b1 : (t646 != 0) = false := bne_eq_false_iff_eq.mpr c61
        clear c61
        (first | rw [c61b0] | (simp only [i64_w, i32_w]; rw [c61b0]) | skip)
        replace H := Option.bind_eq_some_iff.mp H
        obtain ⟨t647, A620, H⟩ := H
        replace H : (w_BoxSubtracts.j2 kj14 l2 t642 t645 t647 a0_0 a0_1 a0_2 a0_3 a0_4 a0_5) = some r := H
        have A62 := am A620
        clear A620
        have H' := am H
        clear H
        go_wp2_with (first | ((with_reducible refine gc (f := 38) rfl ?_); refine goesL_ (some 80) rfl rfl Try.func38 (by kernel_rfl) rfl #[.slice A2 l2.length c2] rfl (by (try simp only [pml]); first | done | rfl | (simp only [pdt]; rfl)) ?_; (with_reducible refine (r_CheckAll.calls kj14 _ _ l2 t647 _ ?side1 ?side2 A62.out).mono ?_); (case side1 => repeat (first | exact (Kd.C_below HR2.out HB.out) | (with_reducible refine Kd.C_alloc ?_ _) | (with_reducible refine Kd.C_drewN ?_ _) | (with_reducible refine Kd.C_drew ?_))); (case side2 => exact HC2.out); rintro e w63 ⟨rfl, hb⟩; refine ⟨_, rfl, ?_⟩; replace HO644 := dR HO644 hb; replace BK630 := bB BK630 hb; replace BK631 := bB BK631 hb; replace HB := bS HB hb; (try clear hb); (try clear hb2); (try clear hk); (try clear hi)))
        go_meet
        case rel => exact ⟨_, (t647), (by first | rfl | (simp; done) | (simp [*]; done)), H', ⟨by have := HJ5.out; have := HJ14.out; first | omega | exact Nat.le_refl _⟩, ⟨by (with_reducible repeat (first | apply Kd.R_alloc | apply Kd.R_drewN | apply Kd.R_drew)); exact Kd.R_mono HO644.out (fun _ hk => ⟨hk.1.2, hk.2⟩)⟩, ⟨by (with_reducible repeat first | apply bN | apply bd | apply ba); exact BK630.out⟩, ⟨by (with_reducible repeat first | apply bN | apply bd | apply ba); exact BK631.out⟩, ⟨by repeat (first | (with_reducible first | exact HB.out | apply wa | apply wN | apply wd | refine ws ?_ GE630.out | refine ws ?_ GE631.out) | exact HB.out)⟩⟩
       rw [if_neg c61] at H
       have c61b0 : (t646 == 0) = false := beq_eq_false_iff_ne.mpr c61
       have c61b1 : (t646 != 0) = true := bne_iff_ne.mpr c61
       (first | rw [c61b0] | (simp only [i64_w, i32_w]; rw [c61b0]) | skip)
       have H' := am H
       clear H
       go_wp2
       go_meet
       case rel => exact ⟨_, (t646), (by first | rfl | (simp; done) | (simp [*]; done)), H', ⟨by have := HJ5.out; have := HJ14.out; first | omega | exact Nat.le_refl _⟩, ⟨by (with_reducible repeat (first | apply Kd.R_alloc | apply Kd.R_drewN | apply Kd.R_drew)); exact Kd.R_mono HO644.out (fun _ hk => ⟨hk.1.2, hk.2⟩)⟩, ⟨by (with_reducible repeat first | apply bN | apply bd | apply ba); exact BK630.out⟩, ⟨by (with_reducible repeat first | apply bN | apply bd | apply ba); exact BK631.out⟩, ⟨by repeat (first | (with_reducible first | exact HB.out | apply wa | apply wN | apply wd | refine ws ?_ GE630.out | refine ws ?_ GE631.out) | exact HB.out)⟩⟩
      case rest =>
       clear HC55
       try clear c1;try clear c2;try clear p2;try clear c3;try clear c4;try clear c5;try clear c6;try clear c7;try clear c10;try clear c10b0;try clear c10b1;try clear c11;try clear c11b0;try clear c11b1;try clear c12;try clear c13;try clear c16;try clear c19;try clear c23;try clear c23b0;try clear c23b1;try clear c24;try clear c24b0;try clear c24b1;try clear c27;try clear c28;try clear c34;try clear c35;try clear c38;try clear c40;try clear c40b0;try clear c40b1;try clear c41;try clear c41b0;try clear c41b1;try clear c41b2;try clear c45;try clear c45b0;try clear c45b1;try clear c46;try clear c46b0;try clear c46b1;try clear c47;try clear c51;try clear c56;try clear c61;try clear c61b0;try clear c61b1;try clear hcz17_0;try clear hcz17_1;try clear hcz17_2;try clear hcz17_3;try clear hcz17_4;try clear hcz17_5;try clear hcz18_0;try clear hcz18_1;try clear hcz18_2;try clear hcz18_3;try clear hcz18_4;try clear hcz18_5;try clear hcz20_0;try clear hcz20_1;try clear hcz20_2;try clear hcz20_3;try clear hcz20_4;try clear hcz20_5;try clear hcz21_0;try clear hcz21_1;try clear hcz21_2;try clear hcz21_3;try clear hcz21_4;try clear hcz21_5;try clear hcz29_0;try clear hcz29_1;try clear hcz29_2;try clear hcz29_3;try clear hcz29_4;try clear hcz29_5;try clear hcz30_0;try clear hcz30_1;try clear hcz30_2;try clear hcz30_3;try clear hcz30_4;try clear hcz30_5;try clear hcz35_0;try clear hcz35_1;try clear hcz35_2;try clear hcz35_3;try clear hcz35_4;try clear hcz35_5;try clear hcz36_0;try clear hcz36_1;try clear hcz36_2;try clear hcz36_3;try clear hcz36_4;try clear hcz36_5;try clear hcz48_0;try clear hcz48_1;try clear hcz48_2;try clear hcz48_3;try clear hcz48_4;try clear hcz48_5;try clear hcz52_0;try clear hcz52_1;try clear hcz52_2;try clear hcz52_3;try clear hcz52_4;try clear hcz52_5;try clear hcz57_0;try clear hcz57_1;try clear hcz57_2;try clear hcz57_3;try clear hcz57_4;try clear hcz57_5;try clear hcz59_0;try clear hcz59_1;try clear hcz59_2;try clear hcz59_3;try clear hcz59_4;try clear hcz59_5;try clear hfz17_0;try clear hfz17_1;try clear hfz17_2;try clear hfz17_3;try clear hfz17_4;try clear hfz17_5;try clear hfz18_0;try clear hfz18_1;try clear hfz18_2;try clear hfz18_3;try clear hfz18_4;try clear hfz18_5;try clear hfz20_0;try clear hfz20_1;try clear hfz20_2;try clear hfz20_3;try clear hfz20_4;try clear hfz20_5;try clear hfz21_0;try clear hfz21_1;try clear hfz21_2;try clear hfz21_3;try clear hfz21_4;try clear hfz21_5;try clear hfz29_0;try clear hfz29_1;try clear hfz29_2;try clear hfz29_3;try clear hfz29_4;try clear hfz29_5;try clear hfz30_0;try clear hfz30_1;try clear hfz30_2;try clear hfz30_3;try clear hfz30_4;try clear hfz30_5;try clear hfz35_0;try clear hfz35_1;try clear hfz35_2;try clear hfz35_3;try clear hfz35_4;try clear hfz35_5;try clear hfz36_0;try clear hfz36_1;try clear hfz36_2;try clear hfz36_3;try clear hfz36_4;try clear hfz36_5;try clear hfz48_0;try clear hfz48_1;try clear hfz48_2;try clear hfz48_3;try clear hfz48_4;try clear hfz48_5;try clear hfz52_0;try clear hfz52_1;try clear hfz52_2;try clear hfz52_3;try clear hfz52_4;try clear hfz52_5;try clear hfz57_0;try clear hfz57_1;try clear hfz57_2;try clear hfz57_3;try clear hfz57_4;try clear hfz57_5;try clear hfz59_0;try clear hfz59_1;try clear hfz59_2;try clear hfz59_3;try clear hfz59_4;try clear hfz59_5;try clear p2
       obtain ⟨kq, x12_54, rfl, HA, HJ54, HO_10, BK630, BK631, HB⟩ := hcut
       cases kq with
       | zero => exact absurd HA.out (by simp [w_BoxSubtracts.j2])
       | succ kj54 =>
        have H := HA.out
        clear HA
        simp only [w_BoxSubtracts.j2] at H
        by_cases c64 : x12_54 = 0
        rotate_left
        ·rw [if_neg c64] at H
         have c64b0 : (x12_54 == 0) = false := beq_eq_false_iff_ne.mpr c64
         have c64b1 : (x12_54 != 0) = true := bne_iff_ne.mpr c64
         by_cases c76 : t645 = x12_54
         ·rw [if_pos c76] at H
          have c76b0 : (t645 == x12_54) = true := beq_iff_eq.mpr c76
          have c76b1 : (t645 != x12_54) = false := bne_eq_false_iff_eq.mpr c76
          clear c76
          obtain rfl := Option.some.inj H
          obtain ⟨Ao77, co77, eo77⟩ := Kd.R_slice HO_10.out
          subst eo77
          go_wp2
          go_ret
          exact ⟨by first | rfl | (simp [errW_none, errW_some] <;> rfl) | (simp [*, errW_none, errW_some] <;> rfl), by repeat (first | (with_reducible first | exact HB.out | apply wa | apply wN | apply wd | refine ws ?_ GE630.out | refine ws ?_ GE631.out) | exact HB.out)⟩
         rw [if_neg c76] at H
         have c76b0 : (t645 == x12_54) = false := beq_eq_false_iff_ne.mpr c76
         have c76b1 : (t645 != x12_54) = true := bne_iff_ne.mpr c76
         obtain rfl := Option.some.inj H
         go_wp2
         go_ret
         exact ⟨by first | rfl | (simp [errW_none, errW_some] <;> rfl) | (simp [*, errW_none, errW_some] <;> rfl), by repeat (first | (with_reducible first | exact HB.out | apply wa | apply wN | apply wd | refine ws ?_ GE630.out | refine ws ?_ GE631.out) | exact HB.out)⟩
        rw [if_pos c64] at H
        have c64b0 : (x12_54 == 0) = true := beq_iff_eq.mpr c64
        have c64b1 : (x12_54 != 0) = false := bne_eq_false_iff_eq.mpr c64
        clear c64
        replace H := Option.bind_eq_some_iff.mp H
        obtain ⟨⟨t648, t651⟩, A650, H⟩ := H
        replace H : (if t645 = t651 then ((r_Same.f kj54 t642 t648).bind fun t652 => (some t652)) else (some false)) = some r := H
        have A65 := am A650
        clear A650
        by_cases c66 : t645 = t651
        ·rw [if_pos c66] at H
         have c66b0 : (t645 == t651) = true := beq_iff_eq.mpr c66
         have c66b1 : (t645 != t651) = false := bne_eq_false_iff_eq.mpr c66
         clear c66
         replace H := Option.bind_eq_some_iff.mp H
         obtain ⟨t652, A670, H⟩ := H
         replace H : (some t652) = some r := H
         have A67 := am A670
         clear A670
         obtain rfl := Option.some.inj H
         have hnb68 := NB630_631.out
         have hnc68 := NB631_630.out
         have := yC1 BK630
         have hcz69_1 := kC1 BK630
         have hcz69_2 := kC2 BK630
         have hcz69_3 := kC3 BK630
         have hcz69_4 := kC4 BK630
         have hcz69_5 := kC5 BK630
         have hfz69_0 := bf BK630.out 0
         have hfz69_1 := bf BK630.out 1
         have hfz69_2 := bf BK630.out 2
         have hfz69_3 := bf BK630.out 3
         have hfz69_4 := bf BK630.out 4
         have hfz69_5 := bf BK630.out 5
         go_wp2_with (first | ((with_reducible refine gc (f := 39) rfl ?_); refine goesL_ (some 94) rfl rfl Try.func39 (by kernel_rfl) rfl #[.agg #[.int .i64 a0_0, .int .i64 a0_1, .int .i64 a0_2, .int .i64 a0_3, .int .i64 a0_4, .int .i64 a0_5], .slice A2 l2.length c2] rfl (by (try simp only [pml]); first | done | rfl | (simp only [pdt]; rfl)) ?_; (with_reducible refine (r_Rest.calls kj54 a0_0 a0_1 a0_2 a0_3 a0_4 a0_5 _ _ l2 t648 t651 _ ?side1 ?side2 A65.out).mono ?_); (case side1 => repeat (first | exact (Kd.C_below HR2.out HB.out) | (with_reducible refine Kd.C_alloc ?_ _) | (with_reducible refine Kd.C_drewN ?_ _) | (with_reducible refine Kd.C_drew ?_))); (case side2 => exact HC2.out); rintro e w70 ⟨v649, rfl, ho0, hb⟩; refine ⟨_, rfl, ?_⟩; have HO650 := am (Kd.R_lower (Kd.R_newB (Kd.R_newB (Kd.R_new' ho0 (Kd.R_lt (fR HO_10.out))) (g := gb630) (o := .cells #[.int .i64 a0_0, .int .i64 a0_1, .int .i64 a0_2, .int .i64 a0_3, .int .i64 a0_4, .int .i64 a0_5] 25 (0, 0)) (fb BK630.out)) (g := gb631) (o := .cells #[.int .i64 a1_0, .int .i64 a1_1, .int .i64 a1_2, .int .i64 a1_3, .int .i64 a1_4, .int .i64 a1_5] 25 (0, 0)) (fb BK631.out)) (wz (fW HB.out))); replace HO_10 := am (Kd.R_elder' (fR HO_10.out) (Kd.R_base ho0) hb); replace BK630 := bB BK630 hb; replace BK631 := bB BK631 hb; replace HB := bS HB hb; (try clear hb); (try clear hb2); (try clear hk); (try clear hi); (try clear ho0); obtain ⟨Ao71, co71, eo71⟩ := Kd.R_slice HO_10.out; subst eo71; obtain ⟨Ao72, co72, eo72⟩ := Kd.R_slice HO650.out; subst eo72) | (go_at_call 36; (with_reducible refine (r_Same.calls kj54 _ _ t642 _ _ t648 t652 _ ?side1 ?side2 ?side3 ?side4 A67.out).mono ?_); (case side1 => repeat (first | exact (Kd.R_reads' HO_10.out).2.2 | (with_reducible refine Kd.C_alloc ?_ _) | (with_reducible refine Kd.C_drewN ?_ _) | (with_reducible refine Kd.C_drew ?_))); (case side2 => exact (Kd.R_reads' HO_10.out).2.1); (case side3 => repeat (first | exact (Kd.R_reads' HO650.out).2.2 | (with_reducible refine Kd.C_alloc ?_ _) | (with_reducible refine Kd.C_drewN ?_ _) | (with_reducible refine Kd.C_drew ?_))); (case side4 => exact (Kd.R_reads' HO650.out).2.1); rintro e w' ⟨rfl, ⟨nd, rfl⟩⟩))
         go_ret
         exact ⟨by first | rfl | (simp [errW_none, errW_some] <;> rfl) | (simp [*, errW_none, errW_some] <;> rfl), by repeat (first | (with_reducible first | exact HB.out | apply wa | apply wN | apply wd | refine ws ?_ GE630.out | refine ws ?_ GE631.out) | exact HB.out)⟩
        rw [if_neg c66] at H
        have c66b0 : (t645 == t651) = false := beq_eq_false_iff_ne.mpr c66
        have c66b1 : (t645 != t651) = true := bne_iff_ne.mpr c66
        obtain rfl := Option.some.inj H
        have hnb73 := NB630_631.out
        have hnc73 := NB631_630.out
        have := yC1 BK630
        have hcz74_1 := kC1 BK630
        have hcz74_2 := kC2 BK630
        have hcz74_3 := kC3 BK630
        have hcz74_4 := kC4 BK630
        have hcz74_5 := kC5 BK630
        have hfz74_0 := bf BK630.out 0
        have hfz74_1 := bf BK630.out 1
        have hfz74_2 := bf BK630.out 2
        have hfz74_3 := bf BK630.out 3
        have hfz74_4 := bf BK630.out 4
        have hfz74_5 := bf BK630.out 5
        go_wp2_with (first | ((with_reducible refine gc (f := 39) rfl ?_); refine goesL_ (some 94) rfl rfl Try.func39 (by kernel_rfl) rfl #[.agg #[.int .i64 a0_0, .int .i64 a0_1, .int .i64 a0_2, .int .i64 a0_3, .int .i64 a0_4, .int .i64 a0_5], .slice A2 l2.length c2] rfl (by (try simp only [pml]); first | done | rfl | (simp only [pdt]; rfl)) ?_; (with_reducible refine (r_Rest.calls kj54 a0_0 a0_1 a0_2 a0_3 a0_4 a0_5 _ _ l2 t648 t651 _ ?side1 ?side2 A65.out).mono ?_); (case side1 => repeat (first | exact (Kd.C_below HR2.out HB.out) | (with_reducible refine Kd.C_alloc ?_ _) | (with_reducible refine Kd.C_drewN ?_ _) | (with_reducible refine Kd.C_drew ?_))); (case side2 => exact HC2.out); rintro e w75 ⟨v649, rfl, ho0, hb⟩; refine ⟨_, rfl, ?_⟩; have HO650 := am (Kd.R_lower (Kd.R_newB (Kd.R_newB (Kd.R_new' ho0 (Kd.R_lt (fR HO_10.out))) (g := gb630) (o := .cells #[.int .i64 a0_0, .int .i64 a0_1, .int .i64 a0_2, .int .i64 a0_3, .int .i64 a0_4, .int .i64 a0_5] 25 (0, 0)) (fb BK630.out)) (g := gb631) (o := .cells #[.int .i64 a1_0, .int .i64 a1_1, .int .i64 a1_2, .int .i64 a1_3, .int .i64 a1_4, .int .i64 a1_5] 25 (0, 0)) (fb BK631.out)) (wz (fW HB.out))); replace HO_10 := am (Kd.R_elder' (fR HO_10.out) (Kd.R_base ho0) hb); replace BK630 := bB BK630 hb; replace BK631 := bB BK631 hb; replace HB := bS HB hb; (try clear hb); (try clear hb2); (try clear hk); (try clear hi); (try clear ho0)))
        go_ret
        exact ⟨by first | rfl | (simp [errW_none, errW_some] <;> rfl) | (simp [*, errW_none, errW_some] <;> rfl), by repeat (first | (with_reducible first | exact HB.out | apply wa | apply wN | apply wd | refine ws ?_ GE630.out | refine ws ?_ GE631.out) | exact HB.out)⟩
 ·replace c5 := Bool.eq_false_iff.mpr c5
  subst c5
  have H1 : (some false) = some r := by rw [if_neg (show ¬ (false = true) by decide)] at H; exact H
  clear H
  have H := H1
  clear H1
  obtain rfl := Option.some.inj H
  go_enter Try.func7, Try.ntmps7
  go_wp2_with (first | ((with_reducible refine gate_dst (N := 3) rfl ?_); (try (refine gate_guard (by rfl) ?_; dsimp only)); refine box_event ?hg (N := 3) ?hd (cs := #[.int .i64 a0_0, .int .i64 a0_1, .int .i64 a0_2, .int .i64 a0_3, .int .i64 a0_4, .int .i64 a0_5]) (t := 25) ?hr ?_; (case hd | hg => rfl); (case hr => first | (go_simp; done) | (go_simp; rfl)); intro gb630 hg w78 hbox hb; have BK630 := am hbox; have GW630 := sG HB hg; have GE630 := sG HB hg; replace HB := bS HB hb; clear hb hbox hg) | ((with_reducible refine gate_dst (N := 4) rfl ?_); (try (refine gate_guard (by rfl) ?_; dsimp only)); refine box_event ?hg (N := 4) ?hd (cs := #[.int .i64 a1_0, .int .i64 a1_1, .int .i64 a1_2, .int .i64 a1_3, .int .i64 a1_4, .int .i64 a1_5]) (t := 25) ?hr ?_; (case hd | hg => rfl); (case hr => first | (go_simp; done) | (go_simp; rfl)); intro gb631 hg w79 hbox hb; have BK631 := am hbox; have GW631 := sG HB hg; have GE631 := sG HB hg; replace HB := bS HB hb; have NB630_631 := nL BK630 hg; have NB631_630 := nG BK630 hg; replace BK630 := bB BK630 hb; clear hb hbox hg) | ((with_reducible refine gc (f := 11) rfl ?_); refine goesL_ (some 15) rfl rfl Try.func11 (by kernel_rfl) rfl #[] rfl (by (try simp only [pml]); first | done | rfl | (simp only [pdt]; rfl)) ?_; (with_reducible refine (w_awake.calls  false _ A4.out).mono ?_); rintro e w80 ⟨rfl, hb⟩; refine ⟨_, rfl, ?_⟩; replace BK630 := bB BK630 hb; replace BK631 := bB BK631 hb; replace HB := bS HB hb; (try clear hb); (try clear hb2); (try clear hk); (try clear hi)))
  go_ret
  exact ⟨by first | rfl | (simp [errW_none, errW_some] <;> rfl) | (simp [*, errW_none, errW_some] <;> rfl), by repeat (first | (with_reducible first | exact HB.out | apply wa | apply wN | apply wd | refine ws ?_ GE630.out | refine ws ?_ GE631.out) | exact HB.out)⟩

def w_BoxSubtracts.Pure : Prop := ∀ (a0_0 : Int) (a0_1 : Int) (a0_2 : Int) (a0_3 : Int) (a0_4 : Int) (a0_5 : Int) (a1_0 : Int) (a1_1 : Int) (a1_2 : Int) (a1_3 : Int) (a1_4 : Int) (a1_5 : Int) (l2 : List (S25)), ((Lit.int .i64 a0_0).wf = true) → ((Lit.int .i64 a0_1).wf = true) → ((Lit.int .i64 a0_2).wf = true) → ((Lit.int .i64 a0_3).wf = true) → ((Lit.int .i64 a0_4).wf = true) → ((Lit.int .i64 a0_5).wf = true) → ((Lit.int .i64 a1_0).wf = true) → ((Lit.int .i64 a1_1).wf = true) → ((Lit.int .i64 a1_2).wf = true) → ((Lit.int .i64 a1_3).wf = true) → ((Lit.int .i64 a1_4).wf = true) → ((Lit.int .i64 a1_5).wf = true) → (l2.length ≤ maxLen ∧ ∀ e2_, e2_ ∈ l2 → okS25 e2_) → ∃ k, w_BoxSubtracts.f k a0_0 a0_1 a0_2 a0_3 a0_4 a0_5 a1_0 a1_1 a1_2 a1_3 a1_4 a1_5 l2 = some true
theorem w_BoxSubtracts.walk (P_ : w_BoxSubtracts.Pure) (a0_0 : Int) (a0_1 : Int) (a0_2 : Int) (a0_3 : Int) (a0_4 : Int) (a0_5 : Int) (a1_0 : Int) (a1_1 : Int) (a1_2 : Int) (a1_3 : Int) (a1_4 : Int) (a1_5 : Int) (A2 : Option Addr) (c2 : Nat) (l2 : List (S25)) (w : World) (hr2 : Kd.C k25 w A2 l2.length l2) (hc2 : l2.length ≤ c2) (o0 : ((Lit.int .i64 a0_0).wf = true)) (o1 : ((Lit.int .i64 a0_1).wf = true)) (o2 : ((Lit.int .i64 a0_2).wf = true)) (o3 : ((Lit.int .i64 a0_3).wf = true)) (o4 : ((Lit.int .i64 a0_4).wf = true)) (o5 : ((Lit.int .i64 a0_5).wf = true)) (o6 : ((Lit.int .i64 a1_0).wf = true)) (o7 : ((Lit.int .i64 a1_1).wf = true)) (o8 : ((Lit.int .i64 a1_2).wf = true)) (o9 : ((Lit.int .i64 a1_3).wf = true)) (o10 : ((Lit.int .i64 a1_4).wf = true)) (o11 : ((Lit.int .i64 a1_5).wf = true)) (o12 : (l2.length ≤ maxLen ∧ ∀ e2_, e2_ ∈ l2 → okS25 e2_)) :
  Calls Try.prog 7 #[.agg #[.int .i64 a0_0, .int .i64 a0_1, .int .i64 a0_2, .int .i64 a0_3, .int .i64 a0_4, .int .i64 a0_5], .agg #[.int .i64 a1_0, .int .i64 a1_1, .int .i64 a1_2, .int .i64 a1_3, .int .i64 a1_4, .int .i64 a1_5], .slice A2 l2.length c2] w fun e w' => e = .returned (.bool true) ∧ Below w.heap.size w w' := by
 obtain ⟨k, h⟩ := P_ a0_0 a0_1 a0_2 a0_3 a0_4 a0_5 a1_0 a1_1 a1_2 a1_3 a1_4 a1_5 l2 o0 o1 o2 o3 o4 o5 o6 o7 o8 o9 o10 o11 o12
 refine (w_BoxSubtracts.calls k a0_0 a0_1 a0_2 a0_3 a0_4 a0_5 a1_0 a1_1 a1_2 a1_3 a1_4 a1_5 A2 c2 l2 true w hr2 hc2 h).mono ?_
 rintro e w' ⟨rfl, hd⟩
 exact ⟨rfl, hd⟩

end Go.Proofs.Ytmmdikhmlmoolaa.QA
