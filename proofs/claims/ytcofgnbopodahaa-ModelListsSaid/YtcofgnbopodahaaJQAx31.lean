import Derived.Test.YtcofgnbopodahaaJQAx0
import Derived.Test.YtcofgnbopodahaaJQAx2
import Derived.Test.YtcofgnbopodahaaJQAx9
import Derived.Test.YtcofgnbopodahaaJQAx10
import Derived.Test.YtcofgnbopodahaaJQAx11
import Derived.Test.YtcofgnbopodahaaJQAx13
import Derived.Test.YtcofgnbopodahaaJQAx27
import Derived.Test.YtcofgnbopodahaaJQAx28
import Derived.Test.YtcofgnbopodahaaJQAx29
import Derived.Test.YtcofgnbopodahaaJQAx30
namespace Go.Proofs.Ytcofgnbopodahaa.QA
open Go.RowKit Go.Proofs.YtcofgnbopodahaaW.PrintWords Go.Proofs.YtcofgnbopodahaaW.PrintLast Go.Proofs.YtcofgnbopodahaaW.PrintMore
open Go.Proofs.YtcofgnbopodahaaW.PrintWords renaming below_size → wz
open Aside0 renaming mk → am
attribute [local go_sem] max2_int min2_int max_two min_two max_three min_three max_four min_four
set_option linter.unusedVariables false
set_option linter.unusedSimpArgs false

attribute [local go_sem high] eqA65
mutual
def w_ModelLists.j0 : Nat → List (S68) → ByteArray → Int → Bool → Option (Bool)
 | 0, _, _, _, _ => none
 | k + 1, x0, x1, x2, x25 => if x25 = true then (some true) else ((model_Clashes.f k x0).bind fun bt579 => ((model_Without.f k x0 x1).bind fun bt583 => ((model_Useless.f k x0 x2).bind fun bt587 => ((r_Check.f k x0).bind fun t589 => (if t589 = 0 then ((r_Clashes.f k x0).bind fun t590 => (if bt579.2 = 0 then (if bt583.2 = 0 then (if (bt579.1.length : Int) = (t590.length : Int) then ((r_Without.f k x0 x1).bind fun t593 => ((r_Same.f k bt583.1 t593).bind fun t596 => (w_ModelLists.j2 k x0 x2 bt579.1 bt587.1 bt587.2 t590 (!t596)))) else (w_ModelLists.j2 k x0 x2 bt579.1 bt587.1 bt587.2 t590 true)) else (w_ModelLists.j2 k x0 x2 bt579.1 bt587.1 bt587.2 t590 true)) else (w_ModelLists.j2 k x0 x2 bt579.1 bt587.1 bt587.2 t590 true))) else (if bt579.2 = t589 then (if bt583.2 = t589 then (if bt587.2 = t589 then (if (bt579.1.length : Int) = 0 then (if (bt583.1.length : Int) = 0 then (w_ModelLists.j1 k (!bt587.1)) else (w_ModelLists.j1 k false)) else (w_ModelLists.j1 k false)) else (w_ModelLists.j1 k false)) else (w_ModelLists.j1 k false)) else (w_ModelLists.j1 k false)))))))
def w_ModelLists.j2 : Nat → List (S68) → Int → List (S65) → Bool → Int → List (S65) → Bool → Option (Bool)
 | 0, _, _, _, _, _, _, _ => none
 | k + 1, x0, x2, x7, x11, x12, x14, x96 => if x96 = true then (some false) else (w_ModelLists.l0 k x0 x2 x7 x11 x12 x14 0)
def w_ModelLists.l0 : Nat → List (S68) → Int → List (S65) → Bool → Int → List (S65) → Int → Option (Bool)
 | 0, _, _, _, _, _, _, _ => none
 | k + 1, x0, x2, x7, x11, x12, x14, x15 => if x15 < (x7.length : Int) then (if 0 ≤ x15 then (if x15 < (x14.length : Int) then (if (!(((rd_T65 x7 x15).f0) == ((rd_T65 x14 x15).f0)) || (!(((rd_T65 x7 x15).f1) == ((rd_T65 x14 x15).f1)))) = true then (some false) else (w_ModelLists.l0 k x0 x2 x7 x11 x12 x14 (wrap64 (x15 + 1)))) else (none)) else (none)) else (if x2 < 0 then (if x12 = 6 then (some (!x11)) else (some false)) else (if x2 ≥ (x0.length : Int) then (if x12 = 6 then (some (!x11)) else (some false)) else (if x12 = 0 then ((r_Useless.f k x0 x2).bind fun t599 => (some (x11 == t599))) else (some false))))
def w_ModelLists.j1 : Nat → Bool → Option (Bool)
 | 0, _ => none
 | k + 1, x6 => some x6
end
def w_ModelLists.f (k : Nat) (l0 : List (S68)) (a1 : ByteArray) (a2 : Int) : Option (Bool) := (w_awake.f).bind fun t577 => (if t577 = true then ((r_Small.f k l0 10).bind fun t578 => (if t578 = true then (w_ModelLists.j0 k l0 a1 a2 (decide ((a1.size : Int) > 60))) else (w_ModelLists.j0 k l0 a1 a2 true))) else (some false))
set_option maxHeartbeats 8000000 in
set_option maxRecDepth 100000 in
theorem w_ModelLists.calls (k : Nat) (A0 : Option Addr) (c0 : Nat) (l0 : List (S68)) (a1 : ByteArray) (a2 : Int) (r : Bool) (w : World) (hr0 : Kd.C k68 w A0 l0.length l0) (hc0 : l0.length ≤ c0) (h : w_ModelLists.f k l0 a1 a2 = some r) :
  Calls Try.prog 8 #[.slice A0 l0.length c0, .string a1, .int .i64 a2] w fun e w' => e = .returned (.bool r) ∧ Below w.heap.size w w' := by
 have hu65 := Try.underlying65
 have HR0 := am hr0
 have HC0 := am hc0
 clear hr0 hc0
 have HB := am (Below.refl w.heap.size w)
 have H : ((w_awake.f).bind fun t577 => (if t577 = true then ((r_Small.f k l0 10).bind fun t578 => (if t578 = true then (w_ModelLists.j0 k l0 a1 a2 (decide ((a1.size : Int) > 60))) else (w_ModelLists.j0 k l0 a1 a2 true))) else (some false))) = some r := h
 clear h
 replace H := Option.bind_eq_some_iff.mp H
 obtain ⟨t577, A40, H⟩ := H
 replace H : (if t577 = true then ((r_Small.f k l0 10).bind fun t578 => (if t578 = true then (w_ModelLists.j0 k l0 a1 a2 (decide ((a1.size : Int) > 60))) else (w_ModelLists.j0 k l0 a1 a2 true))) else (some false)) = some r := H
 have A4 := am A40
 clear A40
 by_cases c5 : t577 = true
 ·subst c5
  have H1 : ((r_Small.f k l0 10).bind fun t578 => (if t578 = true then (w_ModelLists.j0 k l0 a1 a2 (decide ((a1.size : Int) > 60))) else (w_ModelLists.j0 k l0 a1 a2 true))) = some r := by rw [if_pos rfl] at H; exact H
  clear H
  have H := H1
  clear H1
  have HC6 := am H
  clear H
  go_enter Try.func8, Try.ntmps8
  go_upto_region 3 with (first | (go_at_call 10; (with_reducible refine (w_awake.calls  true _ A4.out).mono ?_); rintro e w7 ⟨rfl, hb⟩; replace HB := bS HB hb; (try clear hb); (try clear hb2); (try clear hk); (try clear hi)))
  repeat (go_quiet (first | (go_at_call 10; (with_reducible refine (w_awake.calls  true _ A4.out).mono ?_); rintro e w7 ⟨rfl, hb⟩; replace HB := bS HB hb; (try clear hb); (try clear hb2); (try clear hk); (try clear hi))); go_upto_region 3 with (first | (go_at_call 10; (with_reducible refine (w_awake.calls  true _ A4.out).mono ?_); rintro e w7 ⟨rfl, hb⟩; replace HB := bS HB hb; (try clear hb); (try clear hb2); (try clear hk); (try clear hi))))
  (try simp only [Act.put, psl])
  go_cut [25] (fun v25 wc => ∃ (kq : Nat) (x25_5 : Bool), v25 = .bool x25_5 ∧ Aside0 (w_ModelLists.j0 kq l0 a1 a2 x25_5 = some r) ∧ Aside0 (kq ≤ k) ∧ Aside0 (Below w.heap.size w wc))
  case first =>
   have H := HC6.out
   clear HC6
   replace H := Option.bind_eq_some_iff.mp H
   obtain ⟨t578, A80, H⟩ := H
   replace H : (if t578 = true then (w_ModelLists.j0 k l0 a1 a2 (decide ((a1.size : Int) > 60))) else (w_ModelLists.j0 k l0 a1 a2 true)) = some r := H
   have A8 := am A80
   clear A80
   by_cases c9 : t578 = true
   ·subst c9
    have H1 : (w_ModelLists.j0 k l0 a1 a2 (decide ((a1.size : Int) > 60))) = some r := by rw [if_pos rfl] at H; exact H
    clear H
    have H := H1
    clear H1
    have H' := am H
    clear H
    go_wp2_with (first | (go_at_call 11; (with_reducible refine (r_Small.calls k _ _ l0 10 true _ ?side1 ?side2 A8.out).mono ?_); (case side1 => repeat (first | exact (Kd.C_below HR0.out HB.out) | (with_reducible refine Kd.C_alloc ?_ _) | (with_reducible refine Kd.C_drewN ?_ _) | (with_reducible refine Kd.C_drew ?_))); (case side2 => exact HC0.out); rintro e w' ⟨rfl, ⟨nd, rfl⟩⟩; (try first | exact ⟨rfl, _, World.drewN_drewN _ _ _⟩ | exact ⟨rfl, _, Eq.trans (World.drewN_drewN _ _ _) (congrArg (World.drewN _) (Nat.add_assoc _ _ _))⟩)))
    repeat (go_quiet (first | (go_at_call 11; (with_reducible refine (r_Small.calls k _ _ l0 10 true _ ?side1 ?side2 A8.out).mono ?_); (case side1 => repeat (first | exact (Kd.C_below HR0.out HB.out) | (with_reducible refine Kd.C_alloc ?_ _) | (with_reducible refine Kd.C_drewN ?_ _) | (with_reducible refine Kd.C_drew ?_))); (case side2 => exact HC0.out); rintro e w' ⟨rfl, ⟨nd, rfl⟩⟩; (try first | exact ⟨rfl, _, World.drewN_drewN _ _ _⟩ | exact ⟨rfl, _, Eq.trans (World.drewN_drewN _ _ _) (congrArg (World.drewN _) (Nat.add_assoc _ _ _))⟩))); try go_wp2_with (first | (go_at_call 11; (with_reducible refine (r_Small.calls k _ _ l0 10 true _ ?side1 ?side2 A8.out).mono ?_); (case side1 => repeat (first | exact (Kd.C_below HR0.out HB.out) | (with_reducible refine Kd.C_alloc ?_ _) | (with_reducible refine Kd.C_drewN ?_ _) | (with_reducible refine Kd.C_drew ?_))); (case side2 => exact HC0.out); rintro e w' ⟨rfl, ⟨nd, rfl⟩⟩; (try first | exact ⟨rfl, _, World.drewN_drewN _ _ _⟩ | exact ⟨rfl, _, Eq.trans (World.drewN_drewN _ _ _) (congrArg (World.drewN _) (Nat.add_assoc _ _ _))⟩))))
    go_meet
    case rel => exact ⟨_, (decide ((a1.size : Int) > 60)), sqD, H', ⟨by first | omega | exact Nat.le_refl _⟩, ⟨fW HB.out⟩⟩
   replace c9 := Bool.eq_false_iff.mpr c9
   subst c9
   have H1 : (w_ModelLists.j0 k l0 a1 a2 true) = some r := by rw [if_neg (show ¬ (false = true) by decide)] at H; exact H
   clear H
   have H := H1
   clear H1
   have H' := am H
   clear H
   go_wp2_with (first | (go_at_call 11; (with_reducible refine (r_Small.calls k _ _ l0 10 false _ ?side1 ?side2 A8.out).mono ?_); (case side1 => repeat (first | exact (Kd.C_below HR0.out HB.out) | (with_reducible refine Kd.C_alloc ?_ _) | (with_reducible refine Kd.C_drewN ?_ _) | (with_reducible refine Kd.C_drew ?_))); (case side2 => exact HC0.out); rintro e w' ⟨rfl, ⟨nd, rfl⟩⟩; (try first | exact ⟨rfl, _, World.drewN_drewN _ _ _⟩ | exact ⟨rfl, _, Eq.trans (World.drewN_drewN _ _ _) (congrArg (World.drewN _) (Nat.add_assoc _ _ _))⟩)))
   repeat (go_quiet (first | (go_at_call 11; (with_reducible refine (r_Small.calls k _ _ l0 10 false _ ?side1 ?side2 A8.out).mono ?_); (case side1 => repeat (first | exact (Kd.C_below HR0.out HB.out) | (with_reducible refine Kd.C_alloc ?_ _) | (with_reducible refine Kd.C_drewN ?_ _) | (with_reducible refine Kd.C_drew ?_))); (case side2 => exact HC0.out); rintro e w' ⟨rfl, ⟨nd, rfl⟩⟩; (try first | exact ⟨rfl, _, World.drewN_drewN _ _ _⟩ | exact ⟨rfl, _, Eq.trans (World.drewN_drewN _ _ _) (congrArg (World.drewN _) (Nat.add_assoc _ _ _))⟩))); try go_wp2_with (first | (go_at_call 11; (with_reducible refine (r_Small.calls k _ _ l0 10 false _ ?side1 ?side2 A8.out).mono ?_); (case side1 => repeat (first | exact (Kd.C_below HR0.out HB.out) | (with_reducible refine Kd.C_alloc ?_ _) | (with_reducible refine Kd.C_drewN ?_ _) | (with_reducible refine Kd.C_drew ?_))); (case side2 => exact HC0.out); rintro e w' ⟨rfl, ⟨nd, rfl⟩⟩; (try first | exact ⟨rfl, _, World.drewN_drewN _ _ _⟩ | exact ⟨rfl, _, Eq.trans (World.drewN_drewN _ _ _) (congrArg (World.drewN _) (Nat.add_assoc _ _ _))⟩))))
   go_meet
   case rel => exact ⟨_, (true), sqD, H', ⟨by first | omega | exact Nat.le_refl _⟩, ⟨fW HB.out⟩⟩
  case rest =>
   clear HC6
   try clear p2;try clear c5;try clear c8;try clear c9
   obtain ⟨kq, x25_5, rfl, HA, HJ5, HB⟩ := hcut
   cases kq with
   | zero => exact absurd HA.out (by simp [w_ModelLists.j0])
   | succ kj5 =>
    have H := HA.out
    clear HA
    simp only [w_ModelLists.j0] at H
    by_cases c10 : x25_5 = true
    ·subst c10
     have H1 : (some true) = some r := by rw [if_pos rfl] at H; exact H
     clear H
     have H := H1
     clear H1
     obtain rfl := Option.some.inj H
     go_wp2
     repeat (go_quiet (fail); try go_wp2)
     go_ret
     exact ⟨sqE, fW HB.out⟩
    replace c10 := Bool.eq_false_iff.mpr c10
    subst c10
    have H1 : ((model_Clashes.f kj5 l0).bind fun bt579 => ((model_Without.f kj5 l0 a1).bind fun bt583 => ((model_Useless.f kj5 l0 a2).bind fun bt587 => ((r_Check.f kj5 l0).bind fun t589 => (if t589 = 0 then ((r_Clashes.f kj5 l0).bind fun t590 => (if bt579.2 = 0 then (if bt583.2 = 0 then (if (bt579.1.length : Int) = (t590.length : Int) then ((r_Without.f kj5 l0 a1).bind fun t593 => ((r_Same.f kj5 bt583.1 t593).bind fun t596 => (w_ModelLists.j2 kj5 l0 a2 bt579.1 bt587.1 bt587.2 t590 (!t596)))) else (w_ModelLists.j2 kj5 l0 a2 bt579.1 bt587.1 bt587.2 t590 true)) else (w_ModelLists.j2 kj5 l0 a2 bt579.1 bt587.1 bt587.2 t590 true)) else (w_ModelLists.j2 kj5 l0 a2 bt579.1 bt587.1 bt587.2 t590 true))) else (if bt579.2 = t589 then (if bt583.2 = t589 then (if bt587.2 = t589 then (if (bt579.1.length : Int) = 0 then (if (bt583.1.length : Int) = 0 then (w_ModelLists.j1 kj5 (!bt587.1)) else (w_ModelLists.j1 kj5 false)) else (w_ModelLists.j1 kj5 false)) else (w_ModelLists.j1 kj5 false)) else (w_ModelLists.j1 kj5 false)) else (w_ModelLists.j1 kj5 false))))))) = some r := by rw [if_neg (show ¬ (false = true) by decide)] at H; exact H
    clear H
    have H := H1
    clear H1
    replace H := Option.bind_eq_some_iff.mp H
    obtain ⟨⟨t579, t580⟩, A110, H⟩ := H
    replace H : ((model_Without.f kj5 l0 a1).bind fun bt583 => ((model_Useless.f kj5 l0 a2).bind fun bt587 => ((r_Check.f kj5 l0).bind fun t589 => (if t589 = 0 then ((r_Clashes.f kj5 l0).bind fun t590 => (if t580 = 0 then (if bt583.2 = 0 then (if (t579.length : Int) = (t590.length : Int) then ((r_Without.f kj5 l0 a1).bind fun t593 => ((r_Same.f kj5 bt583.1 t593).bind fun t596 => (w_ModelLists.j2 kj5 l0 a2 t579 bt587.1 bt587.2 t590 (!t596)))) else (w_ModelLists.j2 kj5 l0 a2 t579 bt587.1 bt587.2 t590 true)) else (w_ModelLists.j2 kj5 l0 a2 t579 bt587.1 bt587.2 t590 true)) else (w_ModelLists.j2 kj5 l0 a2 t579 bt587.1 bt587.2 t590 true))) else (if t580 = t589 then (if bt583.2 = t589 then (if bt587.2 = t589 then (if (t579.length : Int) = 0 then (if (bt583.1.length : Int) = 0 then (w_ModelLists.j1 kj5 (!bt587.1)) else (w_ModelLists.j1 kj5 false)) else (w_ModelLists.j1 kj5 false)) else (w_ModelLists.j1 kj5 false)) else (w_ModelLists.j1 kj5 false)) else (w_ModelLists.j1 kj5 false)))))) = some r := H
    have A11 := am A110
    clear A110
    replace H := Option.bind_eq_some_iff.mp H
    obtain ⟨⟨t583, t584⟩, A120, H⟩ := H
    replace H : ((model_Useless.f kj5 l0 a2).bind fun bt587 => ((r_Check.f kj5 l0).bind fun t589 => (if t589 = 0 then ((r_Clashes.f kj5 l0).bind fun t590 => (if t580 = 0 then (if t584 = 0 then (if (t579.length : Int) = (t590.length : Int) then ((r_Without.f kj5 l0 a1).bind fun t593 => ((r_Same.f kj5 t583 t593).bind fun t596 => (w_ModelLists.j2 kj5 l0 a2 t579 bt587.1 bt587.2 t590 (!t596)))) else (w_ModelLists.j2 kj5 l0 a2 t579 bt587.1 bt587.2 t590 true)) else (w_ModelLists.j2 kj5 l0 a2 t579 bt587.1 bt587.2 t590 true)) else (w_ModelLists.j2 kj5 l0 a2 t579 bt587.1 bt587.2 t590 true))) else (if t580 = t589 then (if t584 = t589 then (if bt587.2 = t589 then (if (t579.length : Int) = 0 then (if (t583.length : Int) = 0 then (w_ModelLists.j1 kj5 (!bt587.1)) else (w_ModelLists.j1 kj5 false)) else (w_ModelLists.j1 kj5 false)) else (w_ModelLists.j1 kj5 false)) else (w_ModelLists.j1 kj5 false)) else (w_ModelLists.j1 kj5 false))))) = some r := H
    have A12 := am A120
    clear A120
    replace H := Option.bind_eq_some_iff.mp H
    obtain ⟨⟨t587, t588⟩, A130, H⟩ := H
    replace H : ((r_Check.f kj5 l0).bind fun t589 => (if t589 = 0 then ((r_Clashes.f kj5 l0).bind fun t590 => (if t580 = 0 then (if t584 = 0 then (if (t579.length : Int) = (t590.length : Int) then ((r_Without.f kj5 l0 a1).bind fun t593 => ((r_Same.f kj5 t583 t593).bind fun t596 => (w_ModelLists.j2 kj5 l0 a2 t579 t587 t588 t590 (!t596)))) else (w_ModelLists.j2 kj5 l0 a2 t579 t587 t588 t590 true)) else (w_ModelLists.j2 kj5 l0 a2 t579 t587 t588 t590 true)) else (w_ModelLists.j2 kj5 l0 a2 t579 t587 t588 t590 true))) else (if t580 = t589 then (if t584 = t589 then (if t588 = t589 then (if (t579.length : Int) = 0 then (if (t583.length : Int) = 0 then (w_ModelLists.j1 kj5 (!t587)) else (w_ModelLists.j1 kj5 false)) else (w_ModelLists.j1 kj5 false)) else (w_ModelLists.j1 kj5 false)) else (w_ModelLists.j1 kj5 false)) else (w_ModelLists.j1 kj5 false)))) = some r := H
    have A13 := am A130
    clear A130
    replace H := Option.bind_eq_some_iff.mp H
    obtain ⟨t589, A140, H⟩ := H
    replace H : (if t589 = 0 then ((r_Clashes.f kj5 l0).bind fun t590 => (if t580 = 0 then (if t584 = 0 then (if (t579.length : Int) = (t590.length : Int) then ((r_Without.f kj5 l0 a1).bind fun t593 => ((r_Same.f kj5 t583 t593).bind fun t596 => (w_ModelLists.j2 kj5 l0 a2 t579 t587 t588 t590 (!t596)))) else (w_ModelLists.j2 kj5 l0 a2 t579 t587 t588 t590 true)) else (w_ModelLists.j2 kj5 l0 a2 t579 t587 t588 t590 true)) else (w_ModelLists.j2 kj5 l0 a2 t579 t587 t588 t590 true))) else (if t580 = t589 then (if t584 = t589 then (if t588 = t589 then (if (t579.length : Int) = 0 then (if (t583.length : Int) = 0 then (w_ModelLists.j1 kj5 (!t587)) else (w_ModelLists.j1 kj5 false)) else (w_ModelLists.j1 kj5 false)) else (w_ModelLists.j1 kj5 false)) else (w_ModelLists.j1 kj5 false)) else (w_ModelLists.j1 kj5 false))) = some r := H
    have A14 := am A140
    clear A140
    by_cases c15 : t589 = 0
    rotate_left
    ·rw [if_neg c15] at H
     have c15b0 : (t589 == 0) = false := beq_eq_false_iff_ne.mpr c15
     have c15b1 : (t589 != 0) = true := bne_iff_ne.mpr c15
     have HC57 := am H
     clear H
     go_upto_region 10 with (first | (go_at_call 27; (with_reducible refine (model_Clashes.calls kj5 _ _ l0 t579 t580 _ ?side1 ?side2 A11.out).mono ?_); (case side1 => repeat (first | exact (Kd.C_below HR0.out HB.out) | (with_reducible refine Kd.C_alloc ?_ _) | (with_reducible refine Kd.C_drewN ?_ _) | (with_reducible refine Kd.C_drew ?_))); (case side2 => exact HC0.out); rintro e w58 ⟨v581, rfl, ho0, hb⟩; have HO582 := am (Kd.R_lower ho0 (wz (fW HB.out))); replace HB := bS HB hb; (try clear hb); (try clear hb2); (try clear hk); (try clear hi); (try clear ho0)) | (go_at_call 28; (with_reducible refine (model_Without.calls kj5 _ _ l0 a1 t583 t584 _ ?side1 ?side2 A12.out).mono ?_); (case side1 => repeat (first | exact (Kd.C_below HR0.out HB.out) | (with_reducible refine Kd.C_alloc ?_ _) | (with_reducible refine Kd.C_drewN ?_ _) | (with_reducible refine Kd.C_drew ?_))); (case side2 => exact HC0.out); rintro e w59 ⟨v585, rfl, ho0, hb⟩; replace HO582 := dR HO582 hb; have HO586 := am (Kd.R_lower ho0 (wz (fW HB.out))); replace HB := bS HB hb; (try clear hb); (try clear hb2); (try clear hk); (try clear hi); (try clear ho0)) | (go_at_call 29; (with_reducible refine (model_Useless.calls kj5 _ _ l0 a2 t587 t588 _ ?side1 ?side2 A13.out).mono ?_); (case side1 => repeat (first | exact (Kd.C_below HR0.out HB.out) | (with_reducible refine Kd.C_alloc ?_ _) | (with_reducible refine Kd.C_drewN ?_ _) | (with_reducible refine Kd.C_drew ?_))); (case side2 => exact HC0.out); rintro e w60 ⟨rfl, hb⟩; replace HO582 := dR HO582 hb; replace HO586 := dR HO586 hb; replace HB := bS HB hb; (try clear hb); (try clear hb2); (try clear hk); (try clear hi)) | (go_at_call 12; (with_reducible refine (r_Check.calls kj5 _ _ l0 t589 _ ?side1 ?side2 A14.out).mono ?_); (case side1 => repeat (first | exact (Kd.C_below HR0.out HB.out) | (with_reducible refine Kd.C_alloc ?_ _) | (with_reducible refine Kd.C_drewN ?_ _) | (with_reducible refine Kd.C_drew ?_))); (case side2 => exact HC0.out); rintro e w61 ⟨rfl, hb⟩; replace HO582 := dR HO582 hb; replace HO586 := dR HO586 hb; replace HB := bS HB hb; (try clear hb); (try clear hb2); (try clear hk); (try clear hi)))
     repeat (go_quiet (first | (go_at_call 27; (with_reducible refine (model_Clashes.calls kj5 _ _ l0 t579 t580 _ ?side1 ?side2 A11.out).mono ?_); (case side1 => repeat (first | exact (Kd.C_below HR0.out HB.out) | (with_reducible refine Kd.C_alloc ?_ _) | (with_reducible refine Kd.C_drewN ?_ _) | (with_reducible refine Kd.C_drew ?_))); (case side2 => exact HC0.out); rintro e w58 ⟨v581, rfl, ho0, hb⟩; have HO582 := am (Kd.R_lower ho0 (wz (fW HB.out))); replace HB := bS HB hb; (try clear hb); (try clear hb2); (try clear hk); (try clear hi); (try clear ho0)) | (go_at_call 28; (with_reducible refine (model_Without.calls kj5 _ _ l0 a1 t583 t584 _ ?side1 ?side2 A12.out).mono ?_); (case side1 => repeat (first | exact (Kd.C_below HR0.out HB.out) | (with_reducible refine Kd.C_alloc ?_ _) | (with_reducible refine Kd.C_drewN ?_ _) | (with_reducible refine Kd.C_drew ?_))); (case side2 => exact HC0.out); rintro e w59 ⟨v585, rfl, ho0, hb⟩; replace HO582 := dR HO582 hb; have HO586 := am (Kd.R_lower ho0 (wz (fW HB.out))); replace HB := bS HB hb; (try clear hb); (try clear hb2); (try clear hk); (try clear hi); (try clear ho0)) | (go_at_call 29; (with_reducible refine (model_Useless.calls kj5 _ _ l0 a2 t587 t588 _ ?side1 ?side2 A13.out).mono ?_); (case side1 => repeat (first | exact (Kd.C_below HR0.out HB.out) | (with_reducible refine Kd.C_alloc ?_ _) | (with_reducible refine Kd.C_drewN ?_ _) | (with_reducible refine Kd.C_drew ?_))); (case side2 => exact HC0.out); rintro e w60 ⟨rfl, hb⟩; replace HO582 := dR HO582 hb; replace HO586 := dR HO586 hb; replace HB := bS HB hb; (try clear hb); (try clear hb2); (try clear hk); (try clear hi)) | (go_at_call 12; (with_reducible refine (r_Check.calls kj5 _ _ l0 t589 _ ?side1 ?side2 A14.out).mono ?_); (case side1 => repeat (first | exact (Kd.C_below HR0.out HB.out) | (with_reducible refine Kd.C_alloc ?_ _) | (with_reducible refine Kd.C_drewN ?_ _) | (with_reducible refine Kd.C_drew ?_))); (case side2 => exact HC0.out); rintro e w61 ⟨rfl, hb⟩; replace HO582 := dR HO582 hb; replace HO586 := dR HO586 hb; replace HB := bS HB hb; (try clear hb); (try clear hb2); (try clear hk); (try clear hi))); go_upto_region 10 with (first | (go_at_call 27; (with_reducible refine (model_Clashes.calls kj5 _ _ l0 t579 t580 _ ?side1 ?side2 A11.out).mono ?_); (case side1 => repeat (first | exact (Kd.C_below HR0.out HB.out) | (with_reducible refine Kd.C_alloc ?_ _) | (with_reducible refine Kd.C_drewN ?_ _) | (with_reducible refine Kd.C_drew ?_))); (case side2 => exact HC0.out); rintro e w58 ⟨v581, rfl, ho0, hb⟩; have HO582 := am (Kd.R_lower ho0 (wz (fW HB.out))); replace HB := bS HB hb; (try clear hb); (try clear hb2); (try clear hk); (try clear hi); (try clear ho0)) | (go_at_call 28; (with_reducible refine (model_Without.calls kj5 _ _ l0 a1 t583 t584 _ ?side1 ?side2 A12.out).mono ?_); (case side1 => repeat (first | exact (Kd.C_below HR0.out HB.out) | (with_reducible refine Kd.C_alloc ?_ _) | (with_reducible refine Kd.C_drewN ?_ _) | (with_reducible refine Kd.C_drew ?_))); (case side2 => exact HC0.out); rintro e w59 ⟨v585, rfl, ho0, hb⟩; replace HO582 := dR HO582 hb; have HO586 := am (Kd.R_lower ho0 (wz (fW HB.out))); replace HB := bS HB hb; (try clear hb); (try clear hb2); (try clear hk); (try clear hi); (try clear ho0)) | (go_at_call 29; (with_reducible refine (model_Useless.calls kj5 _ _ l0 a2 t587 t588 _ ?side1 ?side2 A13.out).mono ?_); (case side1 => repeat (first | exact (Kd.C_below HR0.out HB.out) | (with_reducible refine Kd.C_alloc ?_ _) | (with_reducible refine Kd.C_drewN ?_ _) | (with_reducible refine Kd.C_drew ?_))); (case side2 => exact HC0.out); rintro e w60 ⟨rfl, hb⟩; replace HO582 := dR HO582 hb; replace HO586 := dR HO586 hb; replace HB := bS HB hb; (try clear hb); (try clear hb2); (try clear hk); (try clear hi)) | (go_at_call 12; (with_reducible refine (r_Check.calls kj5 _ _ l0 t589 _ ?side1 ?side2 A14.out).mono ?_); (case side1 => repeat (first | exact (Kd.C_below HR0.out HB.out) | (with_reducible refine Kd.C_alloc ?_ _) | (with_reducible refine Kd.C_drewN ?_ _) | (with_reducible refine Kd.C_drew ?_))); (case side2 => exact HC0.out); rintro e w61 ⟨rfl, hb⟩; replace HO582 := dR HO582 hb; replace HO586 := dR HO586 hb; replace HB := bS HB hb; (try clear hb); (try clear hb2); (try clear hk); (try clear hi))))
     (try simp only [Act.put, psl])
     go_cut [6] (fun v6 wc => ∃ (kq : Nat) (x6_56 : Bool), v6 = .bool x6_56 ∧ Aside0 (w_ModelLists.j1 kq x6_56 = some r) ∧ Aside0 (kq ≤ kj5) ∧ Aside0 (Below w.heap.size w wc))
     case first =>
      have H := HC57.out
      clear HC57
      by_cases c62 : t580 = t589
      rotate_left
      ·rw [if_neg c62] at H
       have c62b0 : (t580 == t589) = false := beq_eq_false_iff_ne.mpr c62
       have c62b1 : (t580 != t589) = true := bne_iff_ne.mpr c62
       (first | rw [c62b0] | (simp only [i64_w, i32_w]; rw [c62b0]) | skip)
       have H' := am H
       clear H
       go_wp2
       repeat (go_quiet (fail); try go_wp2)
       go_meet
       case rel => exact ⟨_, (false), sqD, H', ⟨by have := HJ5.out; first | omega | exact Nat.le_refl _⟩, ⟨fW HB.out⟩⟩
      rw [if_pos c62] at H
      have c62b0 : (t580 == t589) = true := beq_iff_eq.mpr c62
      have c62b1 : (t580 != t589) = false := bne_eq_false_iff_eq.mpr c62
      clear c62
      (first | rw [c62b0] | (simp only [i64_w, i32_w]; rw [c62b0]) | skip)
      by_cases c63 : t584 = t589
      rotate_left
      ·rw [if_neg c63] at H
       have c63b0 : (t584 == t589) = false := beq_eq_false_iff_ne.mpr c63
       have c63b1 : (t584 != t589) = true := bne_iff_ne.mpr c63
       have H' := am H
       clear H
       go_wp2
       repeat (go_quiet (fail); try go_wp2)
       go_meet
       case rel => exact ⟨_, (false), sqD, H', ⟨by have := HJ5.out; first | omega | exact Nat.le_refl _⟩, ⟨fW HB.out⟩⟩
      rw [if_pos c63] at H
      have c63b0 : (t584 == t589) = true := beq_iff_eq.mpr c63
      have c63b1 : (t584 != t589) = false := bne_eq_false_iff_eq.mpr c63
      clear c63
      by_cases c64 : t588 = t589
      rotate_left
      ·rw [if_neg c64] at H
       have c64b0 : (t588 == t589) = false := beq_eq_false_iff_ne.mpr c64
       have c64b1 : (t588 != t589) = true := bne_iff_ne.mpr c64
       have H' := am H
       clear H
       go_wp2
       repeat (go_quiet (fail); try go_wp2)
       go_meet
       case rel => exact ⟨_, (false), sqD, H', ⟨by have := HJ5.out; first | omega | exact Nat.le_refl _⟩, ⟨fW HB.out⟩⟩
      rw [if_pos c64] at H
      have c64b0 : (t588 == t589) = true := beq_iff_eq.mpr c64
      have c64b1 : (t588 != t589) = false := bne_eq_false_iff_eq.mpr c64
      clear c64
      by_cases c65 : (t579.length : Int) = 0
      rotate_left
      ·rw [if_neg c65] at H
       have c65b0 : ((t579.length : Int) == 0) = false := beq_eq_false_iff_ne.mpr c65
       have c65b1 : ((t579.length : Int) != 0) = true := bne_iff_ne.mpr c65
       have c65b2 : ¬ (t579 = []) := fun h_ => c65 (by rw [h_]; rfl)
       have H' := am H
       clear H
       obtain ⟨Ao71, co71, eo71⟩ := Kd.R_slice HO582.out
       subst eo71
       go_wp2
       repeat (go_quiet (fail); try go_wp2)
       go_meet
       case rel => exact ⟨_, (false), sqD, H', ⟨by have := HJ5.out; first | omega | exact Nat.le_refl _⟩, ⟨fW HB.out⟩⟩
      rw [if_pos c65] at H
      have c65b0 : ((t579.length : Int) == 0) = true := beq_iff_eq.mpr c65
      have c65b1 : ((t579.length : Int) != 0) = false := bne_eq_false_iff_eq.mpr c65
      clear c65
      by_cases c66 : (t583.length : Int) = 0
      ·rw [if_pos c66] at H
       have c66b0 : ((t583.length : Int) == 0) = true := beq_iff_eq.mpr c66
       have c66b1 : ((t583.length : Int) != 0) = false := bne_eq_false_iff_eq.mpr c66
       clear c66
       have H' := am H
       clear H
       obtain ⟨Ao67, co67, eo67⟩ := Kd.R_slice HO582.out
       subst eo67
       obtain ⟨Ao68, co68, eo68⟩ := Kd.R_slice HO586.out
       subst eo68
       go_wp2
       repeat (go_quiet (fail); try go_wp2)
       go_meet
       case rel => exact ⟨_, (!t587), sqD, H', ⟨by have := HJ5.out; first | omega | exact Nat.le_refl _⟩, ⟨fW HB.out⟩⟩
      rw [if_neg c66] at H
      have c66b0 : ((t583.length : Int) == 0) = false := beq_eq_false_iff_ne.mpr c66
      have c66b1 : ((t583.length : Int) != 0) = true := bne_iff_ne.mpr c66
      have c66b2 : ¬ (t583 = []) := fun h_ => c66 (by rw [h_]; rfl)
      have H' := am H
      clear H
      obtain ⟨Ao69, co69, eo69⟩ := Kd.R_slice HO582.out
      subst eo69
      obtain ⟨Ao70, co70, eo70⟩ := Kd.R_slice HO586.out
      subst eo70
      go_wp2
      repeat (go_quiet (fail); try go_wp2)
      go_meet
      case rel => exact ⟨_, (false), sqD, H', ⟨by have := HJ5.out; first | omega | exact Nat.le_refl _⟩, ⟨fW HB.out⟩⟩
     case rest =>
      clear HC57
      try clear c1;try clear c2;try clear p2;try clear c3;try clear c4;try clear c5;try clear p5;try clear q5;try clear hx5;try clear c6;try clear p6;try clear c8;try clear c9;try clear c10;try clear c15;try clear c15b0;try clear c15b1;try clear c23;try clear c23b0;try clear c23b1;try clear c24;try clear c24b0;try clear c24b1;try clear c25;try clear c25b0;try clear c25b1;try clear c25b2;try clear c35;try clear c36;try clear c36b0;try clear c37;try clear c37b0;try clear c38;try clear c38b0;try clear c39;try clear c39b0;try clear c44;try clear c44b0;try clear c45;try clear c45b0;try clear c45b1;try clear c48;try clear c48b0;try clear c49;try clear c49b0;try clear c49b1;try clear c52;try clear c52b0;try clear c52b1;try clear p59;try clear q59;try clear hx59;try clear c62;try clear c62b0;try clear c62b1;try clear c63;try clear c63b0;try clear c63b1;try clear c64;try clear c64b0;try clear c64b1;try clear p64;try clear c65;try clear c65b0;try clear c65b1;try clear c65b2;try clear c66;try clear c66b0;try clear c66b1;try clear c66b2;try clear hx597_0;try clear hx597_1;try clear hx598_0;try clear hx598_1;try clear p2;try clear p597;try clear p598;try clear q597;try clear q598
      obtain ⟨kq, x6_56, rfl, HA, HJ56, HB⟩ := hcut
      cases kq with
      | zero => exact absurd HA.out (by simp [w_ModelLists.j1])
      | succ kj56 =>
       have H := HA.out
       clear HA
       simp only [w_ModelLists.j1] at H
       obtain rfl := Option.some.inj H
       go_wp2
       repeat (go_quiet (fail); try go_wp2)
       go_ret
       exact ⟨sqE, fW HB.out⟩
    rw [if_pos c15] at H
    have c15b0 : (t589 == 0) = true := beq_iff_eq.mpr c15
    have c15b1 : (t589 != 0) = false := bne_eq_false_iff_eq.mpr c15
    clear c15
    replace H := Option.bind_eq_some_iff.mp H
    obtain ⟨t590, A160, H⟩ := H
    replace H : (if t580 = 0 then (if t584 = 0 then (if (t579.length : Int) = (t590.length : Int) then ((r_Without.f kj5 l0 a1).bind fun t593 => ((r_Same.f kj5 t583 t593).bind fun t596 => (w_ModelLists.j2 kj5 l0 a2 t579 t587 t588 t590 (!t596)))) else (w_ModelLists.j2 kj5 l0 a2 t579 t587 t588 t590 true)) else (w_ModelLists.j2 kj5 l0 a2 t579 t587 t588 t590 true)) else (w_ModelLists.j2 kj5 l0 a2 t579 t587 t588 t590 true)) = some r := H
    have A16 := am A160
    clear A160
    have HC17 := am H
    clear H
    go_upto_region 12 with (first | (go_at_call 27; (with_reducible refine (model_Clashes.calls kj5 _ _ l0 t579 t580 _ ?side1 ?side2 A11.out).mono ?_); (case side1 => repeat (first | exact (Kd.C_below HR0.out HB.out) | (with_reducible refine Kd.C_alloc ?_ _) | (with_reducible refine Kd.C_drewN ?_ _) | (with_reducible refine Kd.C_drew ?_))); (case side2 => exact HC0.out); rintro e w18 ⟨v581, rfl, ho0, hb⟩; have HO582 := am (Kd.R_lower ho0 (wz (fW HB.out))); replace HB := bS HB hb; (try clear hb); (try clear hb2); (try clear hk); (try clear hi); (try clear ho0)) | (go_at_call 28; (with_reducible refine (model_Without.calls kj5 _ _ l0 a1 t583 t584 _ ?side1 ?side2 A12.out).mono ?_); (case side1 => repeat (first | exact (Kd.C_below HR0.out HB.out) | (with_reducible refine Kd.C_alloc ?_ _) | (with_reducible refine Kd.C_drewN ?_ _) | (with_reducible refine Kd.C_drew ?_))); (case side2 => exact HC0.out); rintro e w19 ⟨v585, rfl, ho0, hb⟩; replace HO582 := dR HO582 hb; have HO586 := am (Kd.R_lower ho0 (wz (fW HB.out))); replace HB := bS HB hb; (try clear hb); (try clear hb2); (try clear hk); (try clear hi); (try clear ho0)) | (go_at_call 29; (with_reducible refine (model_Useless.calls kj5 _ _ l0 a2 t587 t588 _ ?side1 ?side2 A13.out).mono ?_); (case side1 => repeat (first | exact (Kd.C_below HR0.out HB.out) | (with_reducible refine Kd.C_alloc ?_ _) | (with_reducible refine Kd.C_drewN ?_ _) | (with_reducible refine Kd.C_drew ?_))); (case side2 => exact HC0.out); rintro e w20 ⟨rfl, hb⟩; replace HO582 := dR HO582 hb; replace HO586 := dR HO586 hb; replace HB := bS HB hb; (try clear hb); (try clear hb2); (try clear hk); (try clear hi)) | (go_at_call 12; (with_reducible refine (r_Check.calls kj5 _ _ l0 t589 _ ?side1 ?side2 A14.out).mono ?_); (case side1 => repeat (first | exact (Kd.C_below HR0.out HB.out) | (with_reducible refine Kd.C_alloc ?_ _) | (with_reducible refine Kd.C_drewN ?_ _) | (with_reducible refine Kd.C_drew ?_))); (case side2 => exact HC0.out); rintro e w21 ⟨rfl, hb⟩; replace HO582 := dR HO582 hb; replace HO586 := dR HO586 hb; replace HB := bS HB hb; (try clear hb); (try clear hb2); (try clear hk); (try clear hi)) | (go_at_call 30; (with_reducible refine (r_Clashes.calls kj5 _ _ l0 t590 _ ?side1 ?side2 A16.out).mono ?_); (case side1 => repeat (first | exact (Kd.C_below HR0.out HB.out) | (with_reducible refine Kd.C_alloc ?_ _) | (with_reducible refine Kd.C_drewN ?_ _) | (with_reducible refine Kd.C_drew ?_))); (case side2 => exact HC0.out); rintro e w22 ⟨v591, rfl, ho0, hb⟩; replace HO586 := dR HO586 hb; have HO592 := am (Kd.R_lower (Kd.R_new' ho0 (Kd.R_lt (fR HO582.out))) (wz (fW HB.out))); replace HO582 := am (Kd.R_elder' (fR HO582.out) (Kd.R_base ho0) hb); replace HB := bS HB hb; (try clear hb); (try clear hb2); (try clear hk); (try clear hi); (try clear ho0)))
    repeat (go_quiet (first | (go_at_call 27; (with_reducible refine (model_Clashes.calls kj5 _ _ l0 t579 t580 _ ?side1 ?side2 A11.out).mono ?_); (case side1 => repeat (first | exact (Kd.C_below HR0.out HB.out) | (with_reducible refine Kd.C_alloc ?_ _) | (with_reducible refine Kd.C_drewN ?_ _) | (with_reducible refine Kd.C_drew ?_))); (case side2 => exact HC0.out); rintro e w18 ⟨v581, rfl, ho0, hb⟩; have HO582 := am (Kd.R_lower ho0 (wz (fW HB.out))); replace HB := bS HB hb; (try clear hb); (try clear hb2); (try clear hk); (try clear hi); (try clear ho0)) | (go_at_call 28; (with_reducible refine (model_Without.calls kj5 _ _ l0 a1 t583 t584 _ ?side1 ?side2 A12.out).mono ?_); (case side1 => repeat (first | exact (Kd.C_below HR0.out HB.out) | (with_reducible refine Kd.C_alloc ?_ _) | (with_reducible refine Kd.C_drewN ?_ _) | (with_reducible refine Kd.C_drew ?_))); (case side2 => exact HC0.out); rintro e w19 ⟨v585, rfl, ho0, hb⟩; replace HO582 := dR HO582 hb; have HO586 := am (Kd.R_lower ho0 (wz (fW HB.out))); replace HB := bS HB hb; (try clear hb); (try clear hb2); (try clear hk); (try clear hi); (try clear ho0)) | (go_at_call 29; (with_reducible refine (model_Useless.calls kj5 _ _ l0 a2 t587 t588 _ ?side1 ?side2 A13.out).mono ?_); (case side1 => repeat (first | exact (Kd.C_below HR0.out HB.out) | (with_reducible refine Kd.C_alloc ?_ _) | (with_reducible refine Kd.C_drewN ?_ _) | (with_reducible refine Kd.C_drew ?_))); (case side2 => exact HC0.out); rintro e w20 ⟨rfl, hb⟩; replace HO582 := dR HO582 hb; replace HO586 := dR HO586 hb; replace HB := bS HB hb; (try clear hb); (try clear hb2); (try clear hk); (try clear hi)) | (go_at_call 12; (with_reducible refine (r_Check.calls kj5 _ _ l0 t589 _ ?side1 ?side2 A14.out).mono ?_); (case side1 => repeat (first | exact (Kd.C_below HR0.out HB.out) | (with_reducible refine Kd.C_alloc ?_ _) | (with_reducible refine Kd.C_drewN ?_ _) | (with_reducible refine Kd.C_drew ?_))); (case side2 => exact HC0.out); rintro e w21 ⟨rfl, hb⟩; replace HO582 := dR HO582 hb; replace HO586 := dR HO586 hb; replace HB := bS HB hb; (try clear hb); (try clear hb2); (try clear hk); (try clear hi)) | (go_at_call 30; (with_reducible refine (r_Clashes.calls kj5 _ _ l0 t590 _ ?side1 ?side2 A16.out).mono ?_); (case side1 => repeat (first | exact (Kd.C_below HR0.out HB.out) | (with_reducible refine Kd.C_alloc ?_ _) | (with_reducible refine Kd.C_drewN ?_ _) | (with_reducible refine Kd.C_drew ?_))); (case side2 => exact HC0.out); rintro e w22 ⟨v591, rfl, ho0, hb⟩; replace HO586 := dR HO586 hb; have HO592 := am (Kd.R_lower (Kd.R_new' ho0 (Kd.R_lt (fR HO582.out))) (wz (fW HB.out))); replace HO582 := am (Kd.R_elder' (fR HO582.out) (Kd.R_base ho0) hb); replace HB := bS HB hb; (try clear hb); (try clear hb2); (try clear hk); (try clear hi); (try clear ho0))); go_upto_region 12 with (first | (go_at_call 27; (with_reducible refine (model_Clashes.calls kj5 _ _ l0 t579 t580 _ ?side1 ?side2 A11.out).mono ?_); (case side1 => repeat (first | exact (Kd.C_below HR0.out HB.out) | (with_reducible refine Kd.C_alloc ?_ _) | (with_reducible refine Kd.C_drewN ?_ _) | (with_reducible refine Kd.C_drew ?_))); (case side2 => exact HC0.out); rintro e w18 ⟨v581, rfl, ho0, hb⟩; have HO582 := am (Kd.R_lower ho0 (wz (fW HB.out))); replace HB := bS HB hb; (try clear hb); (try clear hb2); (try clear hk); (try clear hi); (try clear ho0)) | (go_at_call 28; (with_reducible refine (model_Without.calls kj5 _ _ l0 a1 t583 t584 _ ?side1 ?side2 A12.out).mono ?_); (case side1 => repeat (first | exact (Kd.C_below HR0.out HB.out) | (with_reducible refine Kd.C_alloc ?_ _) | (with_reducible refine Kd.C_drewN ?_ _) | (with_reducible refine Kd.C_drew ?_))); (case side2 => exact HC0.out); rintro e w19 ⟨v585, rfl, ho0, hb⟩; replace HO582 := dR HO582 hb; have HO586 := am (Kd.R_lower ho0 (wz (fW HB.out))); replace HB := bS HB hb; (try clear hb); (try clear hb2); (try clear hk); (try clear hi); (try clear ho0)) | (go_at_call 29; (with_reducible refine (model_Useless.calls kj5 _ _ l0 a2 t587 t588 _ ?side1 ?side2 A13.out).mono ?_); (case side1 => repeat (first | exact (Kd.C_below HR0.out HB.out) | (with_reducible refine Kd.C_alloc ?_ _) | (with_reducible refine Kd.C_drewN ?_ _) | (with_reducible refine Kd.C_drew ?_))); (case side2 => exact HC0.out); rintro e w20 ⟨rfl, hb⟩; replace HO582 := dR HO582 hb; replace HO586 := dR HO586 hb; replace HB := bS HB hb; (try clear hb); (try clear hb2); (try clear hk); (try clear hi)) | (go_at_call 12; (with_reducible refine (r_Check.calls kj5 _ _ l0 t589 _ ?side1 ?side2 A14.out).mono ?_); (case side1 => repeat (first | exact (Kd.C_below HR0.out HB.out) | (with_reducible refine Kd.C_alloc ?_ _) | (with_reducible refine Kd.C_drewN ?_ _) | (with_reducible refine Kd.C_drew ?_))); (case side2 => exact HC0.out); rintro e w21 ⟨rfl, hb⟩; replace HO582 := dR HO582 hb; replace HO586 := dR HO586 hb; replace HB := bS HB hb; (try clear hb); (try clear hb2); (try clear hk); (try clear hi)) | (go_at_call 30; (with_reducible refine (r_Clashes.calls kj5 _ _ l0 t590 _ ?side1 ?side2 A16.out).mono ?_); (case side1 => repeat (first | exact (Kd.C_below HR0.out HB.out) | (with_reducible refine Kd.C_alloc ?_ _) | (with_reducible refine Kd.C_drewN ?_ _) | (with_reducible refine Kd.C_drew ?_))); (case side2 => exact HC0.out); rintro e w22 ⟨v591, rfl, ho0, hb⟩; replace HO586 := dR HO586 hb; have HO592 := am (Kd.R_lower (Kd.R_new' ho0 (Kd.R_lt (fR HO582.out))) (wz (fW HB.out))); replace HO582 := am (Kd.R_elder' (fR HO582.out) (Kd.R_base ho0) hb); replace HB := bS HB hb; (try clear hb); (try clear hb2); (try clear hk); (try clear hi); (try clear ho0))))
    (try simp only [Act.put, psl])
    go_cut [96] (fun v96 wc => ∃ (kq : Nat) (x96_16 : Bool), v96 = .bool x96_16 ∧ Aside0 (w_ModelLists.j2 kq l0 a2 t579 t587 t588 t590 x96_16 = some r) ∧ Aside0 (kq ≤ kj5) ∧ Aside0 (Kd.R k65 65 wc w.heap.size (fun k_ => some k_ ≠ (v591 : Value).ownBlock) v581 t579) ∧ Aside0 (Kd.R k65 65 wc w.heap.size (fun k_ => some k_ ≠ (v581 : Value).ownBlock) v591 t590) ∧ Aside0 (Below w.heap.size w wc))
    case first =>
     have H := HC17.out
     clear HC17
     by_cases c23 : t580 = 0
     rotate_left
     ·rw [if_neg c23] at H
      have c23b0 : (t580 == 0) = false := beq_eq_false_iff_ne.mpr c23
      have c23b1 : (t580 != 0) = true := bne_iff_ne.mpr c23
      (first | rw [c23b0] | (simp only [i64_w, i32_w]; rw [c23b0]) | skip)
      have H' := am H
      clear H
      go_wp2
      repeat (go_quiet (fail); try go_wp2)
      go_meet
      case rel => exact ⟨_, (true), sqD, H', ⟨by have := HJ5.out; first | omega | exact Nat.le_refl _⟩, ⟨by (with_reducible repeat (first | apply Kd.R_alloc | apply Kd.R_drewN | apply Kd.R_drew)); exact Kd.R_mono HO582.out (fun _ hk => hk.2)⟩, ⟨by (with_reducible repeat (first | apply Kd.R_alloc | apply Kd.R_drewN | apply Kd.R_drew)); exact Kd.R_mono HO592.out (fun _ hk => hk.2)⟩, ⟨fW HB.out⟩⟩
     rw [if_pos c23] at H
     have c23b0 : (t580 == 0) = true := beq_iff_eq.mpr c23
     have c23b1 : (t580 != 0) = false := bne_eq_false_iff_eq.mpr c23
     clear c23
     (first | rw [c23b0] | (simp only [i64_w, i32_w]; rw [c23b0]) | skip)
     by_cases c24 : t584 = 0
     rotate_left
     ·rw [if_neg c24] at H
      have c24b0 : (t584 == 0) = false := beq_eq_false_iff_ne.mpr c24
      have c24b1 : (t584 != 0) = true := bne_iff_ne.mpr c24
      have H' := am H
      clear H
      go_wp2
      repeat (go_quiet (fail); try go_wp2)
      go_meet
      case rel => exact ⟨_, (true), sqD, H', ⟨by have := HJ5.out; first | omega | exact Nat.le_refl _⟩, ⟨by (with_reducible repeat (first | apply Kd.R_alloc | apply Kd.R_drewN | apply Kd.R_drew)); exact Kd.R_mono HO582.out (fun _ hk => hk.2)⟩, ⟨by (with_reducible repeat (first | apply Kd.R_alloc | apply Kd.R_drewN | apply Kd.R_drew)); exact Kd.R_mono HO592.out (fun _ hk => hk.2)⟩, ⟨fW HB.out⟩⟩
     rw [if_pos c24] at H
     have c24b0 : (t584 == 0) = true := beq_iff_eq.mpr c24
     have c24b1 : (t584 != 0) = false := bne_eq_false_iff_eq.mpr c24
     clear c24
     by_cases c25 : (t579.length : Int) = (t590.length : Int)
     rotate_left
     ·rw [if_neg c25] at H
      have c25b0 : ((t579.length : Int) == (t590.length : Int)) = false := beq_eq_false_iff_ne.mpr c25
      have c25b1 : ((t579.length : Int) != (t590.length : Int)) = true := bne_iff_ne.mpr c25
      have c25b2 : (t579.length == t590.length) = false := by first | simpa using c25 | (simp at c25 ⊢; omega)
      have H' := am H
      clear H
      obtain ⟨Ao33, co33, eo33⟩ := Kd.R_slice HO582.out
      subst eo33
      obtain ⟨Ao34, co34, eo34⟩ := Kd.R_slice HO592.out
      subst eo34
      go_wp2
      repeat (go_quiet (fail); try go_wp2)
      go_meet
      case rel => exact ⟨_, (true), sqD, H', ⟨by have := HJ5.out; first | omega | exact Nat.le_refl _⟩, ⟨by (with_reducible repeat (first | apply Kd.R_alloc | apply Kd.R_drewN | apply Kd.R_drew)); exact Kd.R_mono HO582.out (fun _ hk => hk.2)⟩, ⟨by (with_reducible repeat (first | apply Kd.R_alloc | apply Kd.R_drewN | apply Kd.R_drew)); exact Kd.R_mono HO592.out (fun _ hk => hk.2)⟩, ⟨fW HB.out⟩⟩
     rw [if_pos c25] at H
     have c25b0 : ((t579.length : Int) == (t590.length : Int)) = true := beq_iff_eq.mpr c25
     have c25b1 : ((t579.length : Int) != (t590.length : Int)) = false := bne_eq_false_iff_eq.mpr c25
     have c25b2 : (t579.length == t590.length) = true := by first | simpa using c25 | (simp at c25 ⊢; omega)
     clear c25
     replace H := Option.bind_eq_some_iff.mp H
     obtain ⟨t593, A260, H⟩ := H
     replace H : ((r_Same.f kj5 t583 t593).bind fun t596 => (w_ModelLists.j2 kj5 l0 a2 t579 t587 t588 t590 (!t596))) = some r := H
     have A26 := am A260
     clear A260
     replace H := Option.bind_eq_some_iff.mp H
     obtain ⟨t596, A270, H⟩ := H
     replace H : (w_ModelLists.j2 kj5 l0 a2 t579 t587 t588 t590 (!t596)) = some r := H
     have A27 := am A270
     clear A270
     have H' := am H
     clear H
     obtain ⟨Ao28, co28, eo28⟩ := Kd.R_slice HO582.out
     subst eo28
     obtain ⟨Ao29, co29, eo29⟩ := Kd.R_slice HO592.out
     subst eo29
     go_wp2_with (first | (go_at_call 32; (with_reducible refine (r_Without.calls kj5 _ _ l0 a1 t593 _ ?side1 ?side2 A26.out).mono ?_); (case side1 => repeat (first | exact (Kd.C_below HR0.out HB.out) | (with_reducible refine Kd.C_alloc ?_ _) | (with_reducible refine Kd.C_drewN ?_ _) | (with_reducible refine Kd.C_drew ?_))); (case side2 => exact HC0.out); rintro e w30 ⟨v594, rfl, ho0, hb⟩; replace HO582 := dR HO582 hb; replace HO592 := dR HO592 hb; have HO595 := am (Kd.R_lower (Kd.R_new' ho0 (Kd.R_lt (fR HO586.out))) (wz (fW HB.out))); replace HO586 := am (Kd.R_elder' (fR HO586.out) (Kd.R_base ho0) hb); replace HB := bS HB hb; (try clear hb); (try clear hb2); (try clear hk); (try clear hi); (try clear ho0); obtain ⟨Ao31, co31, eo31⟩ := Kd.R_slice HO586.out; subst eo31; obtain ⟨Ao32, co32, eo32⟩ := Kd.R_slice HO595.out; subst eo32) | (go_at_call 31; (with_reducible refine (r_Same.calls kj5 _ _ t583 _ _ t593 t596 _ ?side1 ?side2 ?side3 ?side4 A27.out).mono ?_); (case side1 => repeat (first | exact (Kd.R_reads' HO586.out).2.2 | (with_reducible refine Kd.C_alloc ?_ _) | (with_reducible refine Kd.C_drewN ?_ _) | (with_reducible refine Kd.C_drew ?_))); (case side2 => exact (Kd.R_reads' HO586.out).2.1); (case side3 => repeat (first | exact (Kd.R_reads' HO595.out).2.2 | (with_reducible refine Kd.C_alloc ?_ _) | (with_reducible refine Kd.C_drewN ?_ _) | (with_reducible refine Kd.C_drew ?_))); (case side4 => exact (Kd.R_reads' HO595.out).2.1); rintro e w' ⟨rfl, ⟨nd, rfl⟩⟩; (try first | exact ⟨rfl, _, World.drewN_drewN _ _ _⟩ | exact ⟨rfl, _, Eq.trans (World.drewN_drewN _ _ _) (congrArg (World.drewN _) (Nat.add_assoc _ _ _))⟩)))
     repeat (go_quiet (first | (go_at_call 32; (with_reducible refine (r_Without.calls kj5 _ _ l0 a1 t593 _ ?side1 ?side2 A26.out).mono ?_); (case side1 => repeat (first | exact (Kd.C_below HR0.out HB.out) | (with_reducible refine Kd.C_alloc ?_ _) | (with_reducible refine Kd.C_drewN ?_ _) | (with_reducible refine Kd.C_drew ?_))); (case side2 => exact HC0.out); rintro e w30 ⟨v594, rfl, ho0, hb⟩; replace HO582 := dR HO582 hb; replace HO592 := dR HO592 hb; have HO595 := am (Kd.R_lower (Kd.R_new' ho0 (Kd.R_lt (fR HO586.out))) (wz (fW HB.out))); replace HO586 := am (Kd.R_elder' (fR HO586.out) (Kd.R_base ho0) hb); replace HB := bS HB hb; (try clear hb); (try clear hb2); (try clear hk); (try clear hi); (try clear ho0); obtain ⟨Ao31, co31, eo31⟩ := Kd.R_slice HO586.out; subst eo31; obtain ⟨Ao32, co32, eo32⟩ := Kd.R_slice HO595.out; subst eo32) | (go_at_call 31; (with_reducible refine (r_Same.calls kj5 _ _ t583 _ _ t593 t596 _ ?side1 ?side2 ?side3 ?side4 A27.out).mono ?_); (case side1 => repeat (first | exact (Kd.R_reads' HO586.out).2.2 | (with_reducible refine Kd.C_alloc ?_ _) | (with_reducible refine Kd.C_drewN ?_ _) | (with_reducible refine Kd.C_drew ?_))); (case side2 => exact (Kd.R_reads' HO586.out).2.1); (case side3 => repeat (first | exact (Kd.R_reads' HO595.out).2.2 | (with_reducible refine Kd.C_alloc ?_ _) | (with_reducible refine Kd.C_drewN ?_ _) | (with_reducible refine Kd.C_drew ?_))); (case side4 => exact (Kd.R_reads' HO595.out).2.1); rintro e w' ⟨rfl, ⟨nd, rfl⟩⟩; (try first | exact ⟨rfl, _, World.drewN_drewN _ _ _⟩ | exact ⟨rfl, _, Eq.trans (World.drewN_drewN _ _ _) (congrArg (World.drewN _) (Nat.add_assoc _ _ _))⟩))); try go_wp2_with (first | (go_at_call 32; (with_reducible refine (r_Without.calls kj5 _ _ l0 a1 t593 _ ?side1 ?side2 A26.out).mono ?_); (case side1 => repeat (first | exact (Kd.C_below HR0.out HB.out) | (with_reducible refine Kd.C_alloc ?_ _) | (with_reducible refine Kd.C_drewN ?_ _) | (with_reducible refine Kd.C_drew ?_))); (case side2 => exact HC0.out); rintro e w30 ⟨v594, rfl, ho0, hb⟩; replace HO582 := dR HO582 hb; replace HO592 := dR HO592 hb; have HO595 := am (Kd.R_lower (Kd.R_new' ho0 (Kd.R_lt (fR HO586.out))) (wz (fW HB.out))); replace HO586 := am (Kd.R_elder' (fR HO586.out) (Kd.R_base ho0) hb); replace HB := bS HB hb; (try clear hb); (try clear hb2); (try clear hk); (try clear hi); (try clear ho0); obtain ⟨Ao31, co31, eo31⟩ := Kd.R_slice HO586.out; subst eo31; obtain ⟨Ao32, co32, eo32⟩ := Kd.R_slice HO595.out; subst eo32) | (go_at_call 31; (with_reducible refine (r_Same.calls kj5 _ _ t583 _ _ t593 t596 _ ?side1 ?side2 ?side3 ?side4 A27.out).mono ?_); (case side1 => repeat (first | exact (Kd.R_reads' HO586.out).2.2 | (with_reducible refine Kd.C_alloc ?_ _) | (with_reducible refine Kd.C_drewN ?_ _) | (with_reducible refine Kd.C_drew ?_))); (case side2 => exact (Kd.R_reads' HO586.out).2.1); (case side3 => repeat (first | exact (Kd.R_reads' HO595.out).2.2 | (with_reducible refine Kd.C_alloc ?_ _) | (with_reducible refine Kd.C_drewN ?_ _) | (with_reducible refine Kd.C_drew ?_))); (case side4 => exact (Kd.R_reads' HO595.out).2.1); rintro e w' ⟨rfl, ⟨nd, rfl⟩⟩; (try first | exact ⟨rfl, _, World.drewN_drewN _ _ _⟩ | exact ⟨rfl, _, Eq.trans (World.drewN_drewN _ _ _) (congrArg (World.drewN _) (Nat.add_assoc _ _ _))⟩))))
     go_meet
     case rel => exact ⟨_, (!t596), sqD, H', ⟨by have := HJ5.out; first | omega | exact Nat.le_refl _⟩, ⟨by (with_reducible repeat (first | apply Kd.R_alloc | apply Kd.R_drewN | apply Kd.R_drew)); exact Kd.R_mono HO582.out (fun _ hk => hk.2)⟩, ⟨by (with_reducible repeat (first | apply Kd.R_alloc | apply Kd.R_drewN | apply Kd.R_drew)); exact Kd.R_mono HO592.out (fun _ hk => hk.2)⟩, ⟨fW HB.out⟩⟩
    case rest =>
     clear HC17
     try clear c1;try clear c2;try clear p2;try clear c5;try clear c8;try clear c9;try clear c10;try clear c15;try clear c15b0;try clear c15b1;try clear c23;try clear c23b0;try clear c23b1;try clear c24;try clear c24b0;try clear c24b1;try clear c25;try clear c25b0;try clear c25b1;try clear c25b2;try clear p2
     obtain ⟨kq, x96_16, rfl, HA, HJ16, HO_7, HO_14, HB⟩ := hcut
     cases kq with
     | zero => exact absurd HA.out (by simp [w_ModelLists.j2])
     | succ kj16 =>
      have H := HA.out
      clear HA
      simp only [w_ModelLists.j2] at H
      by_cases c35 : x96_16 = true
      ·subst c35
       have H1 : (some false) = some r := by rw [if_pos rfl] at H; exact H
       clear H
       have H := H1
       clear H1
       obtain rfl := Option.some.inj H
       go_wp2
       repeat (go_quiet (fail); try go_wp2)
       go_ret
       exact ⟨sqE, fW HB.out⟩
      replace c35 := Bool.eq_false_iff.mpr c35
      subst c35
      have H1 : (w_ModelLists.l0 kj16 l0 a2 t579 t587 t588 t590 0) = some r := by rw [if_neg (show ¬ (false = true) by decide)] at H; exact H
      clear H
      have H := H1
      clear H1
      have H' := am H
      clear H
      go_wp2
      repeat (go_quiet (fail); try go_wp2)
      go_loopg [15] kj16 (fun kq v15 w' => ∃ (x15_3 : Int), v15 = .int .i64 x15_3 ∧ Aside0 (w_ModelLists.l0 kq l0 a2 t579 t587 t588 t590 x15_3 = some r) ∧ Aside0 (kq ≤ kj16) ∧ Aside0 (Kd.R k65 65 w' w.heap.size (fun k_ => some k_ ≠ (v591 : Value).ownBlock) v581 t579) ∧ Aside0 (Kd.R k65 65 w' w.heap.size (fun k_ => some k_ ≠ (v581 : Value).ownBlock) v591 t590) ∧ Aside0 (Below w.heap.size w w'))
      case atStart => exact ⟨(0), sqD, H', ⟨Nat.le_refl _⟩, ⟨fR HO_7.out⟩, ⟨fR HO_14.out⟩, ⟨fW HB.out⟩⟩
      case round =>
       clear H'
       try clear c1;try clear c2;try clear p2;try clear c3;try clear c5;try clear c8;try clear c9;try clear c10;try clear c15;try clear c15b0;try clear c15b1;try clear c23;try clear c23b0;try clear c23b1;try clear c24;try clear c24b0;try clear c24b1;try clear c25;try clear c25b0;try clear c25b1;try clear c25b2;try clear c35;try clear p2
       obtain ⟨x15_3, rfl, HA, HK3, HO_7, HO_14, HB⟩ := hrel
       cases gk with
       | zero => exact absurd HA.out (by simp [w_ModelLists.l0])
       | succ k3 =>
        have H := HA.out
        clear HA
        simp only [w_ModelLists.l0] at H
        by_cases c36 : x15_3 < (t579.length : Int)
        ·rw [if_pos c36] at H
         have c36b0 : decide (x15_3 < (t579.length : Int)) = true := decide_eq_true c36
         clear c36
         by_cases c37 : 0 ≤ x15_3
         rotate_left
         ·rw [if_neg c37] at H
          exact absurd H (by simp)
         rw [if_pos c37] at H
         have c37b0 : decide (0 ≤ x15_3) = true := decide_eq_true c37
         clear c37
         by_cases c38 : x15_3 < (t590.length : Int)
         rotate_left
         ·rw [if_neg c38] at H
          exact absurd H (by simp)
         rw [if_pos c38] at H
         have c38b0 : decide (x15_3 < (t590.length : Int)) = true := decide_eq_true c38
         clear c38
         by_cases c39 : (!(((rd_T65 t579 x15_3).f0) == ((rd_T65 t590 x15_3).f0)) || (!(((rd_T65 t579 x15_3).f1) == ((rd_T65 t590 x15_3).f1)))) = true
         ·rw [if_pos c39] at H
          have c39b0 : (!(((rd_T65 t579 x15_3).f0) == ((rd_T65 t590 x15_3).f0)) || (!(((rd_T65 t579 x15_3).f1) == ((rd_T65 t590 x15_3).f1)))) = true := c39
          clear c39
          obtain rfl := Option.some.inj H
          obtain ⟨Ao40, co40, eo40⟩ := Kd.R_slice HO_7.out
          subst eo40
          have p597 : 0 ≤ (x15_3 : Int) := of_decide_eq_true (by assumption)
          have q597 : x15_3 < (t579.length : Int) := of_decide_eq_true (by assumption)
          obtain ⟨ad597, e597, hx597_0, hx597_1⟩ := at_T65 (Kd.R_reads' HO_7.out).2.2 x15_3 p597 q597
          cases e597
          replace p597 := eq_true p597
          replace q597 := eq_true q597
          obtain ⟨Ao41, co41, eo41⟩ := Kd.R_slice HO_14.out
          subst eo41
          have p598 : 0 ≤ (x15_3 : Int) := of_decide_eq_true (by assumption)
          have q598 : x15_3 < (t590.length : Int) := of_decide_eq_true (by assumption)
          obtain ⟨ad598, e598, hx598_0, hx598_1⟩ := at_T65 (Kd.R_reads' HO_14.out).2.2 x15_3 p598 q598
          cases e598
          replace p598 := eq_true p598
          replace q598 := eq_true q598
          go_wp2
          repeat (go_quiet (fail); try go_wp2)
          go_ret
          exact ⟨sqE, fW HB.out⟩
         rw [if_neg c39] at H
         have c39b0 : (!(((rd_T65 t579 x15_3).f0) == ((rd_T65 t590 x15_3).f0)) || (!(((rd_T65 t579 x15_3).f1) == ((rd_T65 t590 x15_3).f1)))) = false := by simpa using c39
         clear c39
         have H' := am H
         clear H
         obtain ⟨Ao42, co42, eo42⟩ := Kd.R_slice HO_7.out
         subst eo42
         have p597 : 0 ≤ (x15_3 : Int) := of_decide_eq_true (by assumption)
         have q597 : x15_3 < (t579.length : Int) := of_decide_eq_true (by assumption)
         obtain ⟨ad597, e597, hx597_0, hx597_1⟩ := at_T65 (Kd.R_reads' HO_7.out).2.2 x15_3 p597 q597
         cases e597
         replace p597 := eq_true p597
         replace q597 := eq_true q597
         obtain ⟨Ao43, co43, eo43⟩ := Kd.R_slice HO_14.out
         subst eo43
         have p598 : 0 ≤ (x15_3 : Int) := of_decide_eq_true (by assumption)
         have q598 : x15_3 < (t590.length : Int) := of_decide_eq_true (by assumption)
         obtain ⟨ad598, e598, hx598_0, hx598_1⟩ := at_T65 (Kd.R_reads' HO_14.out).2.2 x15_3 p598 q598
         cases e598
         replace p598 := eq_true p598
         replace q598 := eq_true q598
         go_wp2
         repeat (go_quiet (fail); try go_wp2)
         go_roundg k3
         case measure => have := HJ5.out; have := HJ16.out; have := HK3.out; omega
         case rel => exact ⟨(wrap64 (x15_3 + 1)), sqD, H', ⟨by have := HJ5.out; have := HJ16.out; have := HK3.out; omega⟩, ⟨fR HO_7.out⟩, ⟨fR HO_14.out⟩, ⟨fW HB.out⟩⟩
        rw [if_neg c36] at H
        have c36b0 : decide (x15_3 < (t579.length : Int)) = false := decide_eq_false c36
        clear c36
        by_cases c44 : a2 < 0
        ·rw [if_pos c44] at H
         have c44b0 : decide (a2 < 0) = true := decide_eq_true c44
         clear c44
         by_cases c45 : t588 = 6
         ·rw [if_pos c45] at H
          have c45b0 : (t588 == 6) = true := beq_iff_eq.mpr c45
          have c45b1 : (t588 != 6) = false := bne_eq_false_iff_eq.mpr c45
          clear c45
          obtain rfl := Option.some.inj H
          obtain ⟨Ao46, co46, eo46⟩ := Kd.R_slice HO_7.out
          subst eo46
          go_wp2
          repeat (go_quiet (fail); try go_wp2)
          go_ret
          exact ⟨sqE, fW HB.out⟩
         rw [if_neg c45] at H
         have c45b0 : (t588 == 6) = false := beq_eq_false_iff_ne.mpr c45
         have c45b1 : (t588 != 6) = true := bne_iff_ne.mpr c45
         obtain rfl := Option.some.inj H
         obtain ⟨Ao47, co47, eo47⟩ := Kd.R_slice HO_7.out
         subst eo47
         go_wp2
         repeat (go_quiet (fail); try go_wp2)
         go_ret
         exact ⟨sqE, fW HB.out⟩
        rw [if_neg c44] at H
        have c44b0 : decide (a2 < 0) = false := decide_eq_false c44
        clear c44
        by_cases c48 : a2 ≥ (l0.length : Int)
        ·rw [if_pos c48] at H
         have c48b0 : decide ((l0.length : Int) ≤ a2) = true := decide_eq_true c48
         clear c48
         by_cases c49 : t588 = 6
         ·rw [if_pos c49] at H
          have c49b0 : (t588 == 6) = true := beq_iff_eq.mpr c49
          have c49b1 : (t588 != 6) = false := bne_eq_false_iff_eq.mpr c49
          clear c49
          obtain rfl := Option.some.inj H
          obtain ⟨Ao50, co50, eo50⟩ := Kd.R_slice HO_7.out
          subst eo50
          go_wp2
          repeat (go_quiet (fail); try go_wp2)
          go_ret
          exact ⟨sqE, fW HB.out⟩
         rw [if_neg c49] at H
         have c49b0 : (t588 == 6) = false := beq_eq_false_iff_ne.mpr c49
         have c49b1 : (t588 != 6) = true := bne_iff_ne.mpr c49
         obtain rfl := Option.some.inj H
         obtain ⟨Ao51, co51, eo51⟩ := Kd.R_slice HO_7.out
         subst eo51
         go_wp2
         repeat (go_quiet (fail); try go_wp2)
         go_ret
         exact ⟨sqE, fW HB.out⟩
        rw [if_neg c48] at H
        have c48b0 : decide ((l0.length : Int) ≤ a2) = false := decide_eq_false c48
        clear c48
        by_cases c52 : t588 = 0
        ·rw [if_pos c52] at H
         have c52b0 : (t588 == 0) = true := beq_iff_eq.mpr c52
         have c52b1 : (t588 != 0) = false := bne_eq_false_iff_eq.mpr c52
         clear c52
         replace H := Option.bind_eq_some_iff.mp H
         obtain ⟨t599, A530, H⟩ := H
         replace H : (some (t587 == t599)) = some r := H
         have A53 := am A530
         clear A530
         obtain rfl := Option.some.inj H
         obtain ⟨Ao54, co54, eo54⟩ := Kd.R_slice HO_7.out
         subst eo54
         go_wp2_with (first | (go_at_call 33; (with_reducible refine (r_Useless.calls k3 _ _ l0 a2 t599 _ ?side1 ?side2 A53.out).mono ?_); (case side1 => repeat (first | exact (Kd.C_below HR0.out HB.out) | (with_reducible refine Kd.C_alloc ?_ _) | (with_reducible refine Kd.C_drewN ?_ _) | (with_reducible refine Kd.C_drew ?_))); (case side2 => exact HC0.out); rintro e w55 ⟨rfl, hb⟩; replace HO_7 := dR HO_7 hb; replace HO_14 := dR HO_14 hb; replace HB := bS HB hb; (try clear hb); (try clear hb2); (try clear hk); (try clear hi)))
         repeat (go_quiet (first | (go_at_call 33; (with_reducible refine (r_Useless.calls k3 _ _ l0 a2 t599 _ ?side1 ?side2 A53.out).mono ?_); (case side1 => repeat (first | exact (Kd.C_below HR0.out HB.out) | (with_reducible refine Kd.C_alloc ?_ _) | (with_reducible refine Kd.C_drewN ?_ _) | (with_reducible refine Kd.C_drew ?_))); (case side2 => exact HC0.out); rintro e w55 ⟨rfl, hb⟩; replace HO_7 := dR HO_7 hb; replace HO_14 := dR HO_14 hb; replace HB := bS HB hb; (try clear hb); (try clear hb2); (try clear hk); (try clear hi))); try go_wp2_with (first | (go_at_call 33; (with_reducible refine (r_Useless.calls k3 _ _ l0 a2 t599 _ ?side1 ?side2 A53.out).mono ?_); (case side1 => repeat (first | exact (Kd.C_below HR0.out HB.out) | (with_reducible refine Kd.C_alloc ?_ _) | (with_reducible refine Kd.C_drewN ?_ _) | (with_reducible refine Kd.C_drew ?_))); (case side2 => exact HC0.out); rintro e w55 ⟨rfl, hb⟩; replace HO_7 := dR HO_7 hb; replace HO_14 := dR HO_14 hb; replace HB := bS HB hb; (try clear hb); (try clear hb2); (try clear hk); (try clear hi))))
         go_ret
         exact ⟨sqE, fW HB.out⟩
        rw [if_neg c52] at H
        have c52b0 : (t588 == 0) = false := beq_eq_false_iff_ne.mpr c52
        have c52b1 : (t588 != 0) = true := bne_iff_ne.mpr c52
        obtain rfl := Option.some.inj H
        obtain ⟨Ao56, co56, eo56⟩ := Kd.R_slice HO_7.out
        subst eo56
        go_wp2
        repeat (go_quiet (fail); try go_wp2)
        go_ret
        exact ⟨sqE, fW HB.out⟩
 ·replace c5 := Bool.eq_false_iff.mpr c5
  subst c5
  have H1 : (some false) = some r := by rw [if_neg (show ¬ (false = true) by decide)] at H; exact H
  clear H
  have H := H1
  clear H1
  obtain rfl := Option.some.inj H
  go_enter Try.func8, Try.ntmps8
  go_wp2_with (first | (go_at_call 10; (with_reducible refine (w_awake.calls  false _ A4.out).mono ?_); rintro e w72 ⟨rfl, hb⟩; replace HB := bS HB hb; (try clear hb); (try clear hb2); (try clear hk); (try clear hi)))
  repeat (go_quiet (first | (go_at_call 10; (with_reducible refine (w_awake.calls  false _ A4.out).mono ?_); rintro e w72 ⟨rfl, hb⟩; replace HB := bS HB hb; (try clear hb); (try clear hb2); (try clear hk); (try clear hi))); try go_wp2_with (first | (go_at_call 10; (with_reducible refine (w_awake.calls  false _ A4.out).mono ?_); rintro e w72 ⟨rfl, hb⟩; replace HB := bS HB hb; (try clear hb); (try clear hb2); (try clear hk); (try clear hi))))
  go_ret
  exact ⟨sqE, fW HB.out⟩

def w_ModelLists.Pure : Prop := ∀ (l0 : List (S68)) (a1 : ByteArray) (a2 : Int), (l0.length ≤ maxLen ∧ ∀ e6_, e6_ ∈ l0 → okS68 e6_) → (a1.size ≤ maxLen) → ((Lit.int .i64 a2).wf = true) → ∃ k, w_ModelLists.f k l0 a1 a2 = some true
theorem w_ModelLists.walk (P_ : w_ModelLists.Pure) (A0 : Option Addr) (c0 : Nat) (l0 : List (S68)) (a1 : ByteArray) (a2 : Int) (w : World) (hr0 : Kd.C k68 w A0 l0.length l0) (hc0 : l0.length ≤ c0) (o0 : (l0.length ≤ maxLen ∧ ∀ e6_, e6_ ∈ l0 → okS68 e6_)) (o1 : (a1.size ≤ maxLen)) (o2 : ((Lit.int .i64 a2).wf = true)) :
  Calls Try.prog 8 #[.slice A0 l0.length c0, .string a1, .int .i64 a2] w fun e w' => e = .returned (.bool true) ∧ Below w.heap.size w w' := by
 obtain ⟨k, h⟩ := P_ l0 a1 a2 o0 o1 o2
 refine (w_ModelLists.calls k A0 c0 l0 a1 a2 true w hr0 hc0 h).mono ?_
 rintro e w' ⟨rfl, hd⟩
 exact ⟨rfl, hd⟩

end Go.Proofs.Ytcofgnbopodahaa.QA
