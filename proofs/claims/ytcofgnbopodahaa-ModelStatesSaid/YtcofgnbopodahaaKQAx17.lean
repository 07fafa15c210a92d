import Derived.Test.YtcofgnbopodahaaKQAx0
import Derived.Test.YtcofgnbopodahaaKQAx5
import Derived.Test.YtcofgnbopodahaaKQAx6
import Derived.Test.YtcofgnbopodahaaKQAx10
import Derived.Test.YtcofgnbopodahaaKQAx11
import Derived.Test.YtcofgnbopodahaaKQAx13
import Derived.Test.YtcofgnbopodahaaKQAx15
import Derived.Test.YtcofgnbopodahaaKQAx16
namespace Go.Proofs.Ytcofgnbopodahaa.QA
open Go.RowKit Go.Proofs.YtcofgnbopodahaaW.PrintWords Go.Proofs.YtcofgnbopodahaaW.PrintLast Go.Proofs.YtcofgnbopodahaaW.PrintMore
open Go.Proofs.YtcofgnbopodahaaW.PrintWords renaming blk_frozen → bf, below_size → wz
open Aside0 renaming mk → am
attribute [local go_sem] max2_int min2_int max_two min_two max_three min_three max_four min_four
set_option linter.unusedVariables false
set_option linter.unusedSimpArgs false

mutual
def w_ModelStates.j0 : Nat → List (S68) → Bool → Int → Int → Int → Option (Bool)
 | 0, _, _, _, _, _ => none
 | k + 1, x0, x21, x263000, x263001, x263002 => if x21 = true then (some true) else ((r_Check.f k x0).bind fun t265 => ((model_State.f k x0 x263000 x263001 x263002).bind fun bt266 => ((model_Sources.f k x0 x263000 x263001 x263002).bind fun bt268 => ((model_Check.f k x0).bind fun t272 => (if t272 = t265 then (if t265 = 0 then ((r_Cell.f k x263000 x263001 x263002).bind fun t273 => (w_ModelStates.j1 k x0 t265 bt266.1 bt266.2 bt268.1 bt268.2 (!t273) x263000 x263001 x263002)) else (w_ModelStates.j1 k x0 t265 bt266.1 bt266.2 bt268.1 bt268.2 false x263000 x263001 x263002)) else (some false))))))
def w_ModelStates.j1 : Nat → List (S68) → Int → Int → Int → List ByteArray → Int → Bool → Int → Int → Int → Option (Bool)
 | 0, _, _, _, _, _, _, _, _, _, _ => none
 | k + 1, x0, x5, x6, x7, x8, x9, x46, x263000, x263001, x263002 => if x46 = true then (w_ModelStates.j2 k x0 6 x6 x7 x8 x9 x263000 x263001 x263002) else (w_ModelStates.j2 k x0 x5 x6 x7 x8 x9 x263000 x263001 x263002)
def w_ModelStates.j2 : Nat → List (S68) → Int → Int → Int → List ByteArray → Int → Int → Int → Int → Option (Bool)
 | 0, _, _, _, _, _, _, _, _, _ => none
 | k + 1, x0, x5, x6, x7, x8, x9, x263000, x263001, x263002 => if x5 = 0 then ((r_Sources.f k x0 x263000 x263001 x263002).bind fun t274 => (if x7 = 0 then (if x9 = 0 then ((r_State.f k x0 x263000 x263001 x263002).bind fun t277 => (if x6 = t277 then (w_ModelStates.j4 k x8 t274 ((x8.length : Int) != (t274.length : Int))) else (w_ModelStates.j4 k x8 t274 true))) else (w_ModelStates.j4 k x8 t274 true)) else (w_ModelStates.j4 k x8 t274 true))) else (if x7 = x5 then (if x9 = x5 then (if x6 = 0 then (w_ModelStates.j3 k ((x8.length : Int) == 0)) else (w_ModelStates.j3 k false)) else (w_ModelStates.j3 k false)) else (w_ModelStates.j3 k false))
def w_ModelStates.j4 : Nat → List ByteArray → List ByteArray → Bool → Option (Bool)
 | 0, _, _, _ => none
 | k + 1, x8, x10, x88 => if x88 = true then (some false) else (w_ModelStates.l0 k x8 x10 0)
def w_ModelStates.l0 : Nat → List ByteArray → List ByteArray → Int → Option (Bool)
 | 0, _, _, _ => none
 | k + 1, x8, x10, x11 => if x11 < (x8.length : Int) then (if 0 ≤ x11 then (if x11 < (x10.length : Int) then (if (rdOf ByteArray.empty x8 x11).toList = (rdOf ByteArray.empty x10 x11).toList then (w_ModelStates.l0 k x8 x10 (wrap64 (x11 + 1))) else (some false)) else (none)) else (none)) else (some true)
def w_ModelStates.j3 : Nat → Bool → Option (Bool)
 | 0, _ => none
 | k + 1, x4 => some x4
end
def w_ModelStates.f (k : Nat) (l0 : List (S68)) (a1_0 : Int) (a1_1 : Int) (a1_2 : Int) : Option (Bool) := (w_awake.f).bind fun t263 => (if t263 = true then ((r_Small.f k l0 20).bind fun t264 => (if t264 = true then (w_ModelStates.j0 k l0 false a1_0 a1_1 a1_2) else (w_ModelStates.j0 k l0 (decide ((l0.length : Int) ≤ 256)) a1_0 a1_1 a1_2))) else (some false))
set_option maxHeartbeats 8000000 in
set_option maxRecDepth 100000 in
theorem w_ModelStates.calls (k : Nat) (A0 : Option Addr) (c0 : Nat) (l0 : List (S68)) (a1_0 : Int) (a1_1 : Int) (a1_2 : Int) (r : Bool) (w : World) (hr0 : Kd.C k68 w A0 l0.length l0) (hc0 : l0.length ≤ c0) (h : w_ModelStates.f k l0 a1_0 a1_1 a1_2 = some r) :
  Calls Try.prog 3 #[.slice A0 l0.length c0, .agg #[.int .i64 a1_0, .int .i64 a1_1, .int .i64 a1_2]] w fun e w' => e = .returned (.bool r) ∧ Below w.heap.size w w' := by
 have hu24 := Try.underlying24
 have HR0 := am hr0
 have HC0 := am hc0
 clear hr0 hc0
 have HB := am (Below.refl w.heap.size w)
 have H : ((w_awake.f).bind fun t263 => (if t263 = true then ((r_Small.f k l0 20).bind fun t264 => (if t264 = true then (w_ModelStates.j0 k l0 false a1_0 a1_1 a1_2) else (w_ModelStates.j0 k l0 (decide ((l0.length : Int) ≤ 256)) a1_0 a1_1 a1_2))) else (some false))) = some r := h
 clear h
 replace H := Option.bind_eq_some_iff.mp H
 obtain ⟨t263, A30, H⟩ := H
 replace H : (if t263 = true then ((r_Small.f k l0 20).bind fun t264 => (if t264 = true then (w_ModelStates.j0 k l0 false a1_0 a1_1 a1_2) else (w_ModelStates.j0 k l0 (decide ((l0.length : Int) ≤ 256)) a1_0 a1_1 a1_2))) else (some false)) = some r := H
 have A3 := am A30
 clear A30
 by_cases c4 : t263 = true
 ·subst c4
  have H1 : ((r_Small.f k l0 20).bind fun t264 => (if t264 = true then (w_ModelStates.j0 k l0 false a1_0 a1_1 a1_2) else (w_ModelStates.j0 k l0 (decide ((l0.length : Int) ≤ 256)) a1_0 a1_1 a1_2))) = some r := by rw [if_pos rfl] at H; exact H
  clear H
  have H := H1
  clear H1
  have HC5 := am H
  clear H
  go_enter Try.func3, Try.ntmps3
  go_upto_region 3 with (first | ((with_reducible refine gate_dst (N := 3) rfl ?_); (try (refine gate_guard (by rfl) ?_; dsimp only)); refine box_event ?hg (N := 3) ?hd (cs := #[.int .i64 a1_0, .int .i64 a1_1, .int .i64 a1_2]) (t := 24) ?hr ?_; (case hd | hg => rfl); (case hr => first | (go_simp; done) | (go_simp; rfl)); intro gb262 hg w6 hbox hb; have BK262 := am hbox; have GW262 := sG HB hg; have GE262 := sG HB hg; replace HB := bS HB hb; clear hb hbox hg) | (go_at_call 10; (with_reducible refine (w_awake.calls  true _ A3.out).mono ?_); rintro e w7 ⟨rfl, hb⟩; replace BK262 := bB BK262 hb; replace HB := bS HB hb; (try clear hb); (try clear hb2); (try clear hk); (try clear hi)))
  repeat (go_quiet (first | ((with_reducible refine gate_dst (N := 3) rfl ?_); (try (refine gate_guard (by rfl) ?_; dsimp only)); refine box_event ?hg (N := 3) ?hd (cs := #[.int .i64 a1_0, .int .i64 a1_1, .int .i64 a1_2]) (t := 24) ?hr ?_; (case hd | hg => rfl); (case hr => first | (go_simp; done) | (go_simp; rfl)); intro gb262 hg w6 hbox hb; have BK262 := am hbox; have GW262 := sG HB hg; have GE262 := sG HB hg; replace HB := bS HB hb; clear hb hbox hg) | (go_at_call 10; (with_reducible refine (w_awake.calls  true _ A3.out).mono ?_); rintro e w7 ⟨rfl, hb⟩; replace BK262 := bB BK262 hb; replace HB := bS HB hb; (try clear hb); (try clear hb2); (try clear hk); (try clear hi))); go_upto_region 3 with (first | ((with_reducible refine gate_dst (N := 3) rfl ?_); (try (refine gate_guard (by rfl) ?_; dsimp only)); refine box_event ?hg (N := 3) ?hd (cs := #[.int .i64 a1_0, .int .i64 a1_1, .int .i64 a1_2]) (t := 24) ?hr ?_; (case hd | hg => rfl); (case hr => first | (go_simp; done) | (go_simp; rfl)); intro gb262 hg w6 hbox hb; have BK262 := am hbox; have GW262 := sG HB hg; have GE262 := sG HB hg; replace HB := bS HB hb; clear hb hbox hg) | (go_at_call 10; (with_reducible refine (w_awake.calls  true _ A3.out).mono ?_); rintro e w7 ⟨rfl, hb⟩; replace BK262 := bB BK262 hb; replace HB := bS HB hb; (try clear hb); (try clear hb2); (try clear hk); (try clear hi))))
  (try simp only [Act.put, psl])
  go_cut [21] (fun v21 wc => ∃ (kq : Nat) (x21_4 : Bool), v21 = .bool x21_4 ∧ Aside0 (w_ModelStates.j0 kq l0 x21_4 a1_0 a1_1 a1_2 = some r) ∧ Aside0 (kq ≤ k) ∧ Aside0 (wc.heap[gb262]? = some (.cells #[.int .i64 a1_0, .int .i64 a1_1, .int .i64 a1_2] 24 (0, 0))) ∧ Aside0 (Below w.heap.size w wc))
  case first =>
   have H := HC5.out
   clear HC5
   replace H := Option.bind_eq_some_iff.mp H
   obtain ⟨t264, A80, H⟩ := H
   replace H : (if t264 = true then (w_ModelStates.j0 k l0 false a1_0 a1_1 a1_2) else (w_ModelStates.j0 k l0 (decide ((l0.length : Int) ≤ 256)) a1_0 a1_1 a1_2)) = some r := H
   have A8 := am A80
   clear A80
   by_cases c9 : t264 = true
   ·subst c9
    have H1 : (w_ModelStates.j0 k l0 false a1_0 a1_1 a1_2) = some r := by rw [if_pos rfl] at H; exact H
    clear H
    have H := H1
    clear H1
    have H' := am H
    clear H
    go_wp2_with (first | (go_at_call 11; (with_reducible refine (r_Small.calls k _ _ l0 20 true _ ?side1 ?side2 A8.out).mono ?_); (case side1 => repeat (first | exact (Kd.C_below HR0.out HB.out) | (with_reducible refine Kd.C_alloc ?_ _) | (with_reducible refine Kd.C_drewN ?_ _) | (with_reducible refine Kd.C_drew ?_))); (case side2 => exact HC0.out); rintro e w' ⟨rfl, ⟨nd, rfl⟩⟩; (try first | exact ⟨rfl, _, World.drewN_drewN _ _ _⟩ | exact ⟨rfl, _, Eq.trans (World.drewN_drewN _ _ _) (congrArg (World.drewN _) (Nat.add_assoc _ _ _))⟩)))
    repeat (go_quiet (first | (go_at_call 11; (with_reducible refine (r_Small.calls k _ _ l0 20 true _ ?side1 ?side2 A8.out).mono ?_); (case side1 => repeat (first | exact (Kd.C_below HR0.out HB.out) | (with_reducible refine Kd.C_alloc ?_ _) | (with_reducible refine Kd.C_drewN ?_ _) | (with_reducible refine Kd.C_drew ?_))); (case side2 => exact HC0.out); rintro e w' ⟨rfl, ⟨nd, rfl⟩⟩; (try first | exact ⟨rfl, _, World.drewN_drewN _ _ _⟩ | exact ⟨rfl, _, Eq.trans (World.drewN_drewN _ _ _) (congrArg (World.drewN _) (Nat.add_assoc _ _ _))⟩))); try go_wp2_with (first | (go_at_call 11; (with_reducible refine (r_Small.calls k _ _ l0 20 true _ ?side1 ?side2 A8.out).mono ?_); (case side1 => repeat (first | exact (Kd.C_below HR0.out HB.out) | (with_reducible refine Kd.C_alloc ?_ _) | (with_reducible refine Kd.C_drewN ?_ _) | (with_reducible refine Kd.C_drew ?_))); (case side2 => exact HC0.out); rintro e w' ⟨rfl, ⟨nd, rfl⟩⟩; (try first | exact ⟨rfl, _, World.drewN_drewN _ _ _⟩ | exact ⟨rfl, _, Eq.trans (World.drewN_drewN _ _ _) (congrArg (World.drewN _) (Nat.add_assoc _ _ _))⟩))))
    go_meet
    case rel => exact ⟨_, (false), sqD, H', ⟨by first | omega | exact Nat.le_refl _⟩, ⟨fb BK262.out⟩, ⟨fW HB.out⟩⟩
   replace c9 := Bool.eq_false_iff.mpr c9
   subst c9
   have H1 : (w_ModelStates.j0 k l0 (decide ((l0.length : Int) ≤ 256)) a1_0 a1_1 a1_2) = some r := by rw [if_neg (show ¬ (false = true) by decide)] at H; exact H
   clear H
   have H := H1
   clear H1
   have H' := am H
   clear H
   go_wp2_with (first | (go_at_call 11; (with_reducible refine (r_Small.calls k _ _ l0 20 false _ ?side1 ?side2 A8.out).mono ?_); (case side1 => repeat (first | exact (Kd.C_below HR0.out HB.out) | (with_reducible refine Kd.C_alloc ?_ _) | (with_reducible refine Kd.C_drewN ?_ _) | (with_reducible refine Kd.C_drew ?_))); (case side2 => exact HC0.out); rintro e w' ⟨rfl, ⟨nd, rfl⟩⟩; (try first | exact ⟨rfl, _, World.drewN_drewN _ _ _⟩ | exact ⟨rfl, _, Eq.trans (World.drewN_drewN _ _ _) (congrArg (World.drewN _) (Nat.add_assoc _ _ _))⟩)))
   repeat (go_quiet (first | (go_at_call 11; (with_reducible refine (r_Small.calls k _ _ l0 20 false _ ?side1 ?side2 A8.out).mono ?_); (case side1 => repeat (first | exact (Kd.C_below HR0.out HB.out) | (with_reducible refine Kd.C_alloc ?_ _) | (with_reducible refine Kd.C_drewN ?_ _) | (with_reducible refine Kd.C_drew ?_))); (case side2 => exact HC0.out); rintro e w' ⟨rfl, ⟨nd, rfl⟩⟩; (try first | exact ⟨rfl, _, World.drewN_drewN _ _ _⟩ | exact ⟨rfl, _, Eq.trans (World.drewN_drewN _ _ _) (congrArg (World.drewN _) (Nat.add_assoc _ _ _))⟩))); try go_wp2_with (first | (go_at_call 11; (with_reducible refine (r_Small.calls k _ _ l0 20 false _ ?side1 ?side2 A8.out).mono ?_); (case side1 => repeat (first | exact (Kd.C_below HR0.out HB.out) | (with_reducible refine Kd.C_alloc ?_ _) | (with_reducible refine Kd.C_drewN ?_ _) | (with_reducible refine Kd.C_drew ?_))); (case side2 => exact HC0.out); rintro e w' ⟨rfl, ⟨nd, rfl⟩⟩; (try first | exact ⟨rfl, _, World.drewN_drewN _ _ _⟩ | exact ⟨rfl, _, Eq.trans (World.drewN_drewN _ _ _) (congrArg (World.drewN _) (Nat.add_assoc _ _ _))⟩))))
   go_meet
   case rel => exact ⟨_, (decide ((l0.length : Int) ≤ 256)), sqD, H', ⟨by first | omega | exact Nat.le_refl _⟩, ⟨fb BK262.out⟩, ⟨fW HB.out⟩⟩
  case rest =>
   clear HC5
   try clear p2;try clear c3;try clear c4;try clear c9
   obtain ⟨kq, x21_4, rfl, HA, HJ4, BK262, HB⟩ := hcut
   cases kq with
   | zero => exact absurd HA.out (by simp [w_ModelStates.j0])
   | succ kj4 =>
    have H := HA.out
    clear HA
    simp only [w_ModelStates.j0] at H
    by_cases c10 : x21_4 = true
    ·subst c10
     have H1 : (some true) = some r := by rw [if_pos rfl] at H; exact H
     clear H
     have H := H1
     clear H1
     obtain rfl := Option.some.inj H
     go_wp2
     repeat (go_quiet (fail); try go_wp2)
     go_ret
     exact ⟨sqE, fW HB.out⟩
    replace c10 := Bool.eq_false_iff.mpr c10
    subst c10
    have H1 : ((r_Check.f kj4 l0).bind fun t265 => ((model_State.f kj4 l0 a1_0 a1_1 a1_2).bind fun bt266 => ((model_Sources.f kj4 l0 a1_0 a1_1 a1_2).bind fun bt268 => ((model_Check.f kj4 l0).bind fun t272 => (if t272 = t265 then (if t265 = 0 then ((r_Cell.f kj4 a1_0 a1_1 a1_2).bind fun t273 => (w_ModelStates.j1 kj4 l0 t265 bt266.1 bt266.2 bt268.1 bt268.2 (!t273) a1_0 a1_1 a1_2)) else (w_ModelStates.j1 kj4 l0 t265 bt266.1 bt266.2 bt268.1 bt268.2 false a1_0 a1_1 a1_2)) else (some false)))))) = some r := by rw [if_neg (show ¬ (false = true) by decide)] at H; exact H
    clear H
    have H := H1
    clear H1
    replace H := Option.bind_eq_some_iff.mp H
    obtain ⟨t265, A110, H⟩ := H
    replace H : ((model_State.f kj4 l0 a1_0 a1_1 a1_2).bind fun bt266 => ((model_Sources.f kj4 l0 a1_0 a1_1 a1_2).bind fun bt268 => ((model_Check.f kj4 l0).bind fun t272 => (if t272 = t265 then (if t265 = 0 then ((r_Cell.f kj4 a1_0 a1_1 a1_2).bind fun t273 => (w_ModelStates.j1 kj4 l0 t265 bt266.1 bt266.2 bt268.1 bt268.2 (!t273) a1_0 a1_1 a1_2)) else (w_ModelStates.j1 kj4 l0 t265 bt266.1 bt266.2 bt268.1 bt268.2 false a1_0 a1_1 a1_2)) else (some false))))) = some r := H
    have A11 := am A110
    clear A110
    replace H := Option.bind_eq_some_iff.mp H
    obtain ⟨⟨t266, t267⟩, A120, H⟩ := H
    replace H : ((model_Sources.f kj4 l0 a1_0 a1_1 a1_2).bind fun bt268 => ((model_Check.f kj4 l0).bind fun t272 => (if t272 = t265 then (if t265 = 0 then ((r_Cell.f kj4 a1_0 a1_1 a1_2).bind fun t273 => (w_ModelStates.j1 kj4 l0 t265 t266 t267 bt268.1 bt268.2 (!t273) a1_0 a1_1 a1_2)) else (w_ModelStates.j1 kj4 l0 t265 t266 t267 bt268.1 bt268.2 false a1_0 a1_1 a1_2)) else (some false)))) = some r := H
    have A12 := am A120
    clear A120
    replace H := Option.bind_eq_some_iff.mp H
    obtain ⟨⟨t268, t271⟩, A130, H⟩ := H
    replace H : ((model_Check.f kj4 l0).bind fun t272 => (if t272 = t265 then (if t265 = 0 then ((r_Cell.f kj4 a1_0 a1_1 a1_2).bind fun t273 => (w_ModelStates.j1 kj4 l0 t265 t266 t267 t268 t271 (!t273) a1_0 a1_1 a1_2)) else (w_ModelStates.j1 kj4 l0 t265 t266 t267 t268 t271 false a1_0 a1_1 a1_2)) else (some false))) = some r := H
    have A13 := am A130
    clear A130
    replace H := Option.bind_eq_some_iff.mp H
    obtain ⟨t272, A140, H⟩ := H
    replace H : (if t272 = t265 then (if t265 = 0 then ((r_Cell.f kj4 a1_0 a1_1 a1_2).bind fun t273 => (w_ModelStates.j1 kj4 l0 t265 t266 t267 t268 t271 (!t273) a1_0 a1_1 a1_2)) else (w_ModelStates.j1 kj4 l0 t265 t266 t267 t268 t271 false a1_0 a1_1 a1_2)) else (some false)) = some r := H
    have A14 := am A140
    clear A140
    by_cases c15 : t272 = t265
    rotate_left
    ·rw [if_neg c15] at H
     have c15b0 : (t272 == t265) = false := beq_eq_false_iff_ne.mpr c15
     have c15b1 : (t272 != t265) = true := bne_iff_ne.mpr c15
     obtain rfl := Option.some.inj H
     go_wp2_with (first | (go_at_call 12; (with_reducible refine (r_Check.calls kj4 _ _ l0 t265 _ ?side1 ?side2 A11.out).mono ?_); (case side1 => repeat (first | exact (Kd.C_below HR0.out HB.out) | (with_reducible refine Kd.C_alloc ?_ _) | (with_reducible refine Kd.C_drewN ?_ _) | (with_reducible refine Kd.C_drew ?_))); (case side2 => exact HC0.out); rintro e w59 ⟨rfl, hb⟩; replace BK262 := bB BK262 hb; replace HB := bS HB hb; (try clear hb); (try clear hb2); (try clear hk); (try clear hi); obtain ⟨_, _, _, _, _, _⟩ := zC3 BK262) | (go_at_call 13; (with_reducible refine (model_State.calls kj4 _ _ l0 a1_0 a1_1 a1_2 t266 t267 _ ?side1 ?side2 A12.out).mono ?_); (case side1 => repeat (first | exact (Kd.C_below HR0.out HB.out) | (with_reducible refine Kd.C_alloc ?_ _) | (with_reducible refine Kd.C_drewN ?_ _) | (with_reducible refine Kd.C_drew ?_))); (case side2 => exact HC0.out); rintro e w61 ⟨rfl, hb⟩; replace BK262 := bB BK262 hb; replace HB := bS HB hb; (try clear hb); (try clear hb2); (try clear hk); (try clear hi); obtain ⟨_, _, _, _, _, _⟩ := zC3 BK262) | (go_at_call 14; (with_reducible refine (model_Sources.calls kj4 _ _ l0 a1_0 a1_1 a1_2 t268 t271 _ ?side1 ?side2 A13.out).mono ?_); (case side1 => repeat (first | exact (Kd.C_below HR0.out HB.out) | (with_reducible refine Kd.C_alloc ?_ _) | (with_reducible refine Kd.C_drewN ?_ _) | (with_reducible refine Kd.C_drew ?_))); (case side2 => exact HC0.out); rintro e w63 ⟨v269, rfl, ho0, hb⟩; have HO270 := am (Kd.R_lower ho0 (wz (fW HB.out))); replace BK262 := bB BK262 hb; replace HB := bS HB hb; (try clear hb); (try clear hb2); (try clear hk); (try clear hi); (try clear ho0)) | (go_at_call 15; (with_reducible refine (model_Check.calls kj4 _ _ l0 t272 _ ?side1 ?side2 A14.out).mono ?_); (case side1 => repeat (first | exact (Kd.C_below HR0.out HB.out) | (with_reducible refine Kd.C_alloc ?_ _) | (with_reducible refine Kd.C_drewN ?_ _) | (with_reducible refine Kd.C_drew ?_))); (case side2 => exact HC0.out); rintro e w64 ⟨rfl, hb⟩; replace HO270 := dR HO270 hb; replace BK262 := bB BK262 hb; replace HB := bS HB hb; (try clear hb); (try clear hb2); (try clear hk); (try clear hi)))
     repeat (go_quiet (first | (go_at_call 12; (with_reducible refine (r_Check.calls kj4 _ _ l0 t265 _ ?side1 ?side2 A11.out).mono ?_); (case side1 => repeat (first | exact (Kd.C_below HR0.out HB.out) | (with_reducible refine Kd.C_alloc ?_ _) | (with_reducible refine Kd.C_drewN ?_ _) | (with_reducible refine Kd.C_drew ?_))); (case side2 => exact HC0.out); rintro e w59 ⟨rfl, hb⟩; replace BK262 := bB BK262 hb; replace HB := bS HB hb; (try clear hb); (try clear hb2); (try clear hk); (try clear hi); obtain ⟨_, _, _, _, _, _⟩ := zC3 BK262) | (go_at_call 13; (with_reducible refine (model_State.calls kj4 _ _ l0 a1_0 a1_1 a1_2 t266 t267 _ ?side1 ?side2 A12.out).mono ?_); (case side1 => repeat (first | exact (Kd.C_below HR0.out HB.out) | (with_reducible refine Kd.C_alloc ?_ _) | (with_reducible refine Kd.C_drewN ?_ _) | (with_reducible refine Kd.C_drew ?_))); (case side2 => exact HC0.out); rintro e w61 ⟨rfl, hb⟩; replace BK262 := bB BK262 hb; replace HB := bS HB hb; (try clear hb); (try clear hb2); (try clear hk); (try clear hi); obtain ⟨_, _, _, _, _, _⟩ := zC3 BK262) | (go_at_call 14; (with_reducible refine (model_Sources.calls kj4 _ _ l0 a1_0 a1_1 a1_2 t268 t271 _ ?side1 ?side2 A13.out).mono ?_); (case side1 => repeat (first | exact (Kd.C_below HR0.out HB.out) | (with_reducible refine Kd.C_alloc ?_ _) | (with_reducible refine Kd.C_drewN ?_ _) | (with_reducible refine Kd.C_drew ?_))); (case side2 => exact HC0.out); rintro e w63 ⟨v269, rfl, ho0, hb⟩; have HO270 := am (Kd.R_lower ho0 (wz (fW HB.out))); replace BK262 := bB BK262 hb; replace HB := bS HB hb; (try clear hb); (try clear hb2); (try clear hk); (try clear hi); (try clear ho0)) | (go_at_call 15; (with_reducible refine (model_Check.calls kj4 _ _ l0 t272 _ ?side1 ?side2 A14.out).mono ?_); (case side1 => repeat (first | exact (Kd.C_below HR0.out HB.out) | (with_reducible refine Kd.C_alloc ?_ _) | (with_reducible refine Kd.C_drewN ?_ _) | (with_reducible refine Kd.C_drew ?_))); (case side2 => exact HC0.out); rintro e w64 ⟨rfl, hb⟩; replace HO270 := dR HO270 hb; replace BK262 := bB BK262 hb; replace HB := bS HB hb; (try clear hb); (try clear hb2); (try clear hk); (try clear hi))); try go_wp2_with (first | (go_at_call 12; (with_reducible refine (r_Check.calls kj4 _ _ l0 t265 _ ?side1 ?side2 A11.out).mono ?_); (case side1 => repeat (first | exact (Kd.C_below HR0.out HB.out) | (with_reducible refine Kd.C_alloc ?_ _) | (with_reducible refine Kd.C_drewN ?_ _) | (with_reducible refine Kd.C_drew ?_))); (case side2 => exact HC0.out); rintro e w59 ⟨rfl, hb⟩; replace BK262 := bB BK262 hb; replace HB := bS HB hb; (try clear hb); (try clear hb2); (try clear hk); (try clear hi); obtain ⟨_, _, _, _, _, _⟩ := zC3 BK262) | (go_at_call 13; (with_reducible refine (model_State.calls kj4 _ _ l0 a1_0 a1_1 a1_2 t266 t267 _ ?side1 ?side2 A12.out).mono ?_); (case side1 => repeat (first | exact (Kd.C_below HR0.out HB.out) | (with_reducible refine Kd.C_alloc ?_ _) | (with_reducible refine Kd.C_drewN ?_ _) | (with_reducible refine Kd.C_drew ?_))); (case side2 => exact HC0.out); rintro e w61 ⟨rfl, hb⟩; replace BK262 := bB BK262 hb; replace HB := bS HB hb; (try clear hb); (try clear hb2); (try clear hk); (try clear hi); obtain ⟨_, _, _, _, _, _⟩ := zC3 BK262) | (go_at_call 14; (with_reducible refine (model_Sources.calls kj4 _ _ l0 a1_0 a1_1 a1_2 t268 t271 _ ?side1 ?side2 A13.out).mono ?_); (case side1 => repeat (first | exact (Kd.C_below HR0.out HB.out) | (with_reducible refine Kd.C_alloc ?_ _) | (with_reducible refine Kd.C_drewN ?_ _) | (with_reducible refine Kd.C_drew ?_))); (case side2 => exact HC0.out); rintro e w63 ⟨v269, rfl, ho0, hb⟩; have HO270 := am (Kd.R_lower ho0 (wz (fW HB.out))); replace BK262 := bB BK262 hb; replace HB := bS HB hb; (try clear hb); (try clear hb2); (try clear hk); (try clear hi); (try clear ho0)) | (go_at_call 15; (with_reducible refine (model_Check.calls kj4 _ _ l0 t272 _ ?side1 ?side2 A14.out).mono ?_); (case side1 => repeat (first | exact (Kd.C_below HR0.out HB.out) | (with_reducible refine Kd.C_alloc ?_ _) | (with_reducible refine Kd.C_drewN ?_ _) | (with_reducible refine Kd.C_drew ?_))); (case side2 => exact HC0.out); rintro e w64 ⟨rfl, hb⟩; replace HO270 := dR HO270 hb; replace BK262 := bB BK262 hb; replace HB := bS HB hb; (try clear hb); (try clear hb2); (try clear hk); (try clear hi))))
     go_ret
     exact ⟨sqE, fW HB.out⟩
    rw [if_pos c15] at H
    have c15b0 : (t272 == t265) = true := beq_iff_eq.mpr c15
    have c15b1 : (t272 != t265) = false := bne_eq_false_iff_eq.mpr c15
    clear c15
    have HC16 := am H
    clear H
    go_upto_region 10 with (first | (go_at_call 12; (with_reducible refine (r_Check.calls kj4 _ _ l0 t265 _ ?side1 ?side2 A11.out).mono ?_); (case side1 => repeat (first | exact (Kd.C_below HR0.out HB.out) | (with_reducible refine Kd.C_alloc ?_ _) | (with_reducible refine Kd.C_drewN ?_ _) | (with_reducible refine Kd.C_drew ?_))); (case side2 => exact HC0.out); rintro e w17 ⟨rfl, hb⟩; replace BK262 := bB BK262 hb; replace HB := bS HB hb; (try clear hb); (try clear hb2); (try clear hk); (try clear hi); obtain ⟨_, _, _, _, _, _⟩ := zC3 BK262) | (go_at_call 13; (with_reducible refine (model_State.calls kj4 _ _ l0 a1_0 a1_1 a1_2 t266 t267 _ ?side1 ?side2 A12.out).mono ?_); (case side1 => repeat (first | exact (Kd.C_below HR0.out HB.out) | (with_reducible refine Kd.C_alloc ?_ _) | (with_reducible refine Kd.C_drewN ?_ _) | (with_reducible refine Kd.C_drew ?_))); (case side2 => exact HC0.out); rintro e w19 ⟨rfl, hb⟩; replace BK262 := bB BK262 hb; replace HB := bS HB hb; (try clear hb); (try clear hb2); (try clear hk); (try clear hi); obtain ⟨_, _, _, _, _, _⟩ := zC3 BK262) | (go_at_call 14; (with_reducible refine (model_Sources.calls kj4 _ _ l0 a1_0 a1_1 a1_2 t268 t271 _ ?side1 ?side2 A13.out).mono ?_); (case side1 => repeat (first | exact (Kd.C_below HR0.out HB.out) | (with_reducible refine Kd.C_alloc ?_ _) | (with_reducible refine Kd.C_drewN ?_ _) | (with_reducible refine Kd.C_drew ?_))); (case side2 => exact HC0.out); rintro e w21 ⟨v269, rfl, ho0, hb⟩; have HO270 := am (Kd.R_lower ho0 (wz (fW HB.out))); replace BK262 := bB BK262 hb; replace HB := bS HB hb; (try clear hb); (try clear hb2); (try clear hk); (try clear hi); (try clear ho0)) | (go_at_call 15; (with_reducible refine (model_Check.calls kj4 _ _ l0 t272 _ ?side1 ?side2 A14.out).mono ?_); (case side1 => repeat (first | exact (Kd.C_below HR0.out HB.out) | (with_reducible refine Kd.C_alloc ?_ _) | (with_reducible refine Kd.C_drewN ?_ _) | (with_reducible refine Kd.C_drew ?_))); (case side2 => exact HC0.out); rintro e w22 ⟨rfl, hb⟩; replace HO270 := dR HO270 hb; replace BK262 := bB BK262 hb; replace HB := bS HB hb; (try clear hb); (try clear hb2); (try clear hk); (try clear hi)))
    repeat (go_quiet (first | (go_at_call 12; (with_reducible refine (r_Check.calls kj4 _ _ l0 t265 _ ?side1 ?side2 A11.out).mono ?_); (case side1 => repeat (first | exact (Kd.C_below HR0.out HB.out) | (with_reducible refine Kd.C_alloc ?_ _) | (with_reducible refine Kd.C_drewN ?_ _) | (with_reducible refine Kd.C_drew ?_))); (case side2 => exact HC0.out); rintro e w17 ⟨rfl, hb⟩; replace BK262 := bB BK262 hb; replace HB := bS HB hb; (try clear hb); (try clear hb2); (try clear hk); (try clear hi); obtain ⟨_, _, _, _, _, _⟩ := zC3 BK262) | (go_at_call 13; (with_reducible refine (model_State.calls kj4 _ _ l0 a1_0 a1_1 a1_2 t266 t267 _ ?side1 ?side2 A12.out).mono ?_); (case side1 => repeat (first | exact (Kd.C_below HR0.out HB.out) | (with_reducible refine Kd.C_alloc ?_ _) | (with_reducible refine Kd.C_drewN ?_ _) | (with_reducible refine Kd.C_drew ?_))); (case side2 => exact HC0.out); rintro e w19 ⟨rfl, hb⟩; replace BK262 := bB BK262 hb; replace HB := bS HB hb; (try clear hb); (try clear hb2); (try clear hk); (try clear hi); obtain ⟨_, _, _, _, _, _⟩ := zC3 BK262) | (go_at_call 14; (with_reducible refine (model_Sources.calls kj4 _ _ l0 a1_0 a1_1 a1_2 t268 t271 _ ?side1 ?side2 A13.out).mono ?_); (case side1 => repeat (first | exact (Kd.C_below HR0.out HB.out) | (with_reducible refine Kd.C_alloc ?_ _) | (with_reducible refine Kd.C_drewN ?_ _) | (with_reducible refine Kd.C_drew ?_))); (case side2 => exact HC0.out); rintro e w21 ⟨v269, rfl, ho0, hb⟩; have HO270 := am (Kd.R_lower ho0 (wz (fW HB.out))); replace BK262 := bB BK262 hb; replace HB := bS HB hb; (try clear hb); (try clear hb2); (try clear hk); (try clear hi); (try clear ho0)) | (go_at_call 15; (with_reducible refine (model_Check.calls kj4 _ _ l0 t272 _ ?side1 ?side2 A14.out).mono ?_); (case side1 => repeat (first | exact (Kd.C_below HR0.out HB.out) | (with_reducible refine Kd.C_alloc ?_ _) | (with_reducible refine Kd.C_drewN ?_ _) | (with_reducible refine Kd.C_drew ?_))); (case side2 => exact HC0.out); rintro e w22 ⟨rfl, hb⟩; replace HO270 := dR HO270 hb; replace BK262 := bB BK262 hb; replace HB := bS HB hb; (try clear hb); (try clear hb2); (try clear hk); (try clear hi))); go_upto_region 10 with (first | (go_at_call 12; (with_reducible refine (r_Check.calls kj4 _ _ l0 t265 _ ?side1 ?side2 A11.out).mono ?_); (case side1 => repeat (first | exact (Kd.C_below HR0.out HB.out) | (with_reducible refine Kd.C_alloc ?_ _) | (with_reducible refine Kd.C_drewN ?_ _) | (with_reducible refine Kd.C_drew ?_))); (case side2 => exact HC0.out); rintro e w17 ⟨rfl, hb⟩; replace BK262 := bB BK262 hb; replace HB := bS HB hb; (try clear hb); (try clear hb2); (try clear hk); (try clear hi); obtain ⟨_, _, _, _, _, _⟩ := zC3 BK262) | (go_at_call 13; (with_reducible refine (model_State.calls kj4 _ _ l0 a1_0 a1_1 a1_2 t266 t267 _ ?side1 ?side2 A12.out).mono ?_); (case side1 => repeat (first | exact (Kd.C_below HR0.out HB.out) | (with_reducible refine Kd.C_alloc ?_ _) | (with_reducible refine Kd.C_drewN ?_ _) | (with_reducible refine Kd.C_drew ?_))); (case side2 => exact HC0.out); rintro e w19 ⟨rfl, hb⟩; replace BK262 := bB BK262 hb; replace HB := bS HB hb; (try clear hb); (try clear hb2); (try clear hk); (try clear hi); obtain ⟨_, _, _, _, _, _⟩ := zC3 BK262) | (go_at_call 14; (with_reducible refine (model_Sources.calls kj4 _ _ l0 a1_0 a1_1 a1_2 t268 t271 _ ?side1 ?side2 A13.out).mono ?_); (case side1 => repeat (first | exact (Kd.C_below HR0.out HB.out) | (with_reducible refine Kd.C_alloc ?_ _) | (with_reducible refine Kd.C_drewN ?_ _) | (with_reducible refine Kd.C_drew ?_))); (case side2 => exact HC0.out); rintro e w21 ⟨v269, rfl, ho0, hb⟩; have HO270 := am (Kd.R_lower ho0 (wz (fW HB.out))); replace BK262 := bB BK262 hb; replace HB := bS HB hb; (try clear hb); (try clear hb2); (try clear hk); (try clear hi); (try clear ho0)) | (go_at_call 15; (with_reducible refine (model_Check.calls kj4 _ _ l0 t272 _ ?side1 ?side2 A14.out).mono ?_); (case side1 => repeat (first | exact (Kd.C_below HR0.out HB.out) | (with_reducible refine Kd.C_alloc ?_ _) | (with_reducible refine Kd.C_drewN ?_ _) | (with_reducible refine Kd.C_drew ?_))); (case side2 => exact HC0.out); rintro e w22 ⟨rfl, hb⟩; replace HO270 := dR HO270 hb; replace BK262 := bB BK262 hb; replace HB := bS HB hb; (try clear hb); (try clear hb2); (try clear hk); (try clear hi))))
    (try simp only [Act.put, psl])
    go_cut [46] (fun v46 wc => ∃ (kq : Nat) (x46_15 : Bool), v46 = .bool x46_15 ∧ Aside0 (w_ModelStates.j1 kq l0 t265 t266 t267 t268 t271 x46_15 a1_0 a1_1 a1_2 = some r) ∧ Aside0 (kq ≤ kj4) ∧ Aside0 (Kd.R Kd.string 9 wc w.heap.size (fun _ => True) v269 t268) ∧ Aside0 (wc.heap[gb262]? = some (.cells #[.int .i64 a1_0, .int .i64 a1_1, .int .i64 a1_2] 24 (0, 0))) ∧ Aside0 (Below w.heap.size w wc))
    case first =>
     have H := HC16.out
     clear HC16
     by_cases c23 : t265 = 0
     rotate_left
     ·rw [if_neg c23] at H
      have c23b0 : (t265 == 0) = false := beq_eq_false_iff_ne.mpr c23
      have c23b1 : (t265 != 0) = true := bne_iff_ne.mpr c23
      (first | rw [c23b0] | (simp only [i64_w, i32_w]; rw [c23b0]) | skip)
      have H' := am H
      clear H
      go_wp2
      repeat (go_quiet (fail); try go_wp2)
      go_meet
      case rel => exact ⟨_, (false), sqD, H', ⟨by have := HJ4.out; first | omega | exact Nat.le_refl _⟩, ⟨fR HO270.out⟩, ⟨fb BK262.out⟩, ⟨fW HB.out⟩⟩
     rw [if_pos c23] at H
     have c23b0 : (t265 == 0) = true := beq_iff_eq.mpr c23
     have c23b1 : (t265 != 0) = false := bne_eq_false_iff_eq.mpr c23
     clear c23
     (first | rw [c23b0] | (simp only [i64_w, i32_w]; rw [c23b0]) | skip)
     replace H := Option.bind_eq_some_iff.mp H
     obtain ⟨t273, A240, H⟩ := H
     replace H : (w_ModelStates.j1 kj4 l0 t265 t266 t267 t268 t271 (!t273) a1_0 a1_1 a1_2) = some r := H
     have A24 := am A240
     clear A240
     have H' := am H
     clear H
     have := yC1 BK262
     have := kC1 BK262
     have := kC2 BK262
     have := bf BK262.out 0
     have := bf BK262.out 1
     have := bf BK262.out 2
     go_wp2_with (first | (go_at_call 16; (with_reducible refine (r_Cell.calls kj4 a1_0 a1_1 a1_2 t273 _ A24.out).mono ?_); rintro e w26 ⟨rfl, hb⟩; replace HO270 := dR HO270 hb; replace BK262 := bB BK262 hb; replace HB := bS HB hb; (try clear hb); (try clear hb2); (try clear hk); (try clear hi)))
     repeat (go_quiet (first | (go_at_call 16; (with_reducible refine (r_Cell.calls kj4 a1_0 a1_1 a1_2 t273 _ A24.out).mono ?_); rintro e w26 ⟨rfl, hb⟩; replace HO270 := dR HO270 hb; replace BK262 := bB BK262 hb; replace HB := bS HB hb; (try clear hb); (try clear hb2); (try clear hk); (try clear hi))); try go_wp2_with (first | (go_at_call 16; (with_reducible refine (r_Cell.calls kj4 a1_0 a1_1 a1_2 t273 _ A24.out).mono ?_); rintro e w26 ⟨rfl, hb⟩; replace HO270 := dR HO270 hb; replace BK262 := bB BK262 hb; replace HB := bS HB hb; (try clear hb); (try clear hb2); (try clear hk); (try clear hi))))
     go_meet
     case rel => exact ⟨_, (!t273), sqD, H', ⟨by have := HJ4.out; first | omega | exact Nat.le_refl _⟩, ⟨fR HO270.out⟩, ⟨fb BK262.out⟩, ⟨fW HB.out⟩⟩
    case rest =>
     clear HC16
     try clear c1;try clear c2;try clear p2;try clear c3;try clear c4;try clear c9;try clear c10;try clear c15;try clear c15b0;try clear c15b1;try clear c23;try clear c23b0;try clear c23b1;try clear p2
     obtain ⟨kq, x46_15, rfl, HA, HJ15, HO_8, BK262, HB⟩ := hcut
     cases kq with
     | zero => exact absurd HA.out (by simp [w_ModelStates.j1])
     | succ kj15 =>
      have H := HA.out
      clear HA
      simp only [w_ModelStates.j1] at H
      have HC27 := am H
      clear H
      go_upto_if 46 with (fail)
      repeat (go_quiet (fail); go_upto_if 46 with (fail))
      go_cut [5] (fun v5 wc => ∃ (kq : Nat) (x5_26 : Int), v5 = .int .i64 x5_26 ∧ Aside0 (w_ModelStates.j2 kq l0 x5_26 t266 t267 t268 t271 a1_0 a1_1 a1_2 = some r) ∧ Aside0 (kq ≤ kj15) ∧ Aside0 (Kd.R Kd.string 9 wc w.heap.size (fun _ => True) v269 t268) ∧ Aside0 (wc.heap[gb262]? = some (.cells #[.int .i64 a1_0, .int .i64 a1_1, .int .i64 a1_2] 24 (0, 0))) ∧ Aside0 (Below w.heap.size w wc))
      case first =>
       have H := HC27.out
       clear HC27
       by_cases c28 : x46_15 = true
       ·subst c28
        have H1 : (w_ModelStates.j2 kj15 l0 6 t266 t267 t268 t271 a1_0 a1_1 a1_2) = some r := by rw [if_pos rfl] at H; exact H
        clear H
        have H := H1
        clear H1
        have H' := am H
        clear H
        go_wp2
        repeat (go_quiet (fail); try go_wp2)
        go_meet
        case rel => exact ⟨_, (6), sqD, H', ⟨by have := HJ4.out; have := HJ15.out; first | omega | exact Nat.le_refl _⟩, ⟨fR HO_8.out⟩, ⟨fb BK262.out⟩, ⟨fW HB.out⟩⟩
       replace c28 := Bool.eq_false_iff.mpr c28
       subst c28
       have H1 : (w_ModelStates.j2 kj15 l0 t265 t266 t267 t268 t271 a1_0 a1_1 a1_2) = some r := by rw [if_neg (show ¬ (false = true) by decide)] at H; exact H
       clear H
       have H := H1
       clear H1
       have H' := am H
       clear H
       go_wp2
       repeat (go_quiet (fail); try go_wp2)
       go_meet
       case rel => exact ⟨_, (t265), sqD, H', ⟨by have := HJ4.out; have := HJ15.out; first | omega | exact Nat.le_refl _⟩, ⟨fR HO_8.out⟩, ⟨fb BK262.out⟩, ⟨fW HB.out⟩⟩
      case rest =>
       clear HC27
       try clear c1;try clear c2;try clear p2;try clear c3;try clear c4;try clear c9;try clear c10;try clear c15;try clear c15b0;try clear c15b1;try clear c23;try clear c23b0;try clear c23b1;try clear c28;try clear p2
       obtain ⟨kq, x5_26, rfl, HA, HJ26, HO_8, BK262, HB⟩ := hcut
       cases kq with
       | zero => exact absurd HA.out (by simp [w_ModelStates.j2])
       | succ kj26 =>
        have H := HA.out
        clear HA
        simp only [w_ModelStates.j2] at H
        by_cases c29 : x5_26 = 0
        rotate_left
        ·rw [if_neg c29] at H
         have c29b0 : (x5_26 == 0) = false := beq_eq_false_iff_ne.mpr c29
         have c29b1 : (x5_26 != 0) = true := bne_iff_ne.mpr c29
         have HC54 := am H
         clear H
         go_upto_region 13 with (fail)
         repeat (go_quiet (fail); go_upto_region 13 with (fail))
         go_cut [4] (fun v4 wc => ∃ (kq : Nat) (x4_53 : Bool), v4 = .bool x4_53 ∧ Aside0 (w_ModelStates.j3 kq x4_53 = some r) ∧ Aside0 (kq ≤ kj26) ∧ Aside0 (wc.heap[gb262]? = some (.cells #[.int .i64 a1_0, .int .i64 a1_1, .int .i64 a1_2] 24 (0, 0))) ∧ Aside0 (Below w.heap.size w wc))
         case first =>
          have H := HC54.out
          clear HC54
          by_cases c55 : t267 = x5_26
          rotate_left
          ·rw [if_neg c55] at H
           have c55b0 : (t267 == x5_26) = false := beq_eq_false_iff_ne.mpr c55
           have c55b1 : (t267 != x5_26) = true := bne_iff_ne.mpr c55
           (first | rw [c55b0] | (simp only [i64_w, i32_w]; rw [c55b0]) | skip)
           have H' := am H
           clear H
           go_wp2
           repeat (go_quiet (fail); try go_wp2)
           go_meet
           case rel => exact ⟨_, (false), sqD, H', ⟨by have := HJ4.out; have := HJ15.out; have := HJ26.out; first | omega | exact Nat.le_refl _⟩, ⟨fb BK262.out⟩, ⟨fW HB.out⟩⟩
          rw [if_pos c55] at H
          have c55b0 : (t267 == x5_26) = true := beq_iff_eq.mpr c55
          have c55b1 : (t267 != x5_26) = false := bne_eq_false_iff_eq.mpr c55
          clear c55
          (first | rw [c55b0] | (simp only [i64_w, i32_w]; rw [c55b0]) | skip)
          by_cases c56 : t271 = x5_26
          rotate_left
          ·rw [if_neg c56] at H
           have c56b0 : (t271 == x5_26) = false := beq_eq_false_iff_ne.mpr c56
           have c56b1 : (t271 != x5_26) = true := bne_iff_ne.mpr c56
           have H' := am H
           clear H
           go_wp2
           repeat (go_quiet (fail); try go_wp2)
           go_meet
           case rel => exact ⟨_, (false), sqD, H', ⟨by have := HJ4.out; have := HJ15.out; have := HJ26.out; first | omega | exact Nat.le_refl _⟩, ⟨fb BK262.out⟩, ⟨fW HB.out⟩⟩
          rw [if_pos c56] at H
          have c56b0 : (t271 == x5_26) = true := beq_iff_eq.mpr c56
          have c56b1 : (t271 != x5_26) = false := bne_eq_false_iff_eq.mpr c56
          clear c56
          by_cases c57 : t266 = 0
          ·rw [if_pos c57] at H
           have c57b0 : (t266 == 0) = true := beq_iff_eq.mpr c57
           have c57b1 : (t266 != 0) = false := bne_eq_false_iff_eq.mpr c57
           clear c57
           have H' := am H
           clear H
           obtain ⟨Ao58, co58, eo58⟩ := Kd.R_slice HO_8.out
           subst eo58
           go_wp2
           repeat (go_quiet (fail); try go_wp2)
           go_meet
           case rel => exact ⟨_, (((t268.length : Int) == 0)), sqD, H', ⟨by have := HJ4.out; have := HJ15.out; have := HJ26.out; first | omega | exact Nat.le_refl _⟩, ⟨fb BK262.out⟩, ⟨fW HB.out⟩⟩
          rw [if_neg c57] at H
          have c57b0 : (t266 == 0) = false := beq_eq_false_iff_ne.mpr c57
          have c57b1 : (t266 != 0) = true := bne_iff_ne.mpr c57
          have H' := am H
          clear H
          go_wp2
          repeat (go_quiet (fail); try go_wp2)
          go_meet
          case rel => exact ⟨_, (false), sqD, H', ⟨by have := HJ4.out; have := HJ15.out; have := HJ26.out; first | omega | exact Nat.le_refl _⟩, ⟨fb BK262.out⟩, ⟨fW HB.out⟩⟩
         case rest =>
          clear HC54
          try clear c1;try clear c2;try clear p2;try clear q2;try clear hx2;try clear c3;try clear c4;try clear c5;try clear p6;try clear c9;try clear c10;try clear c15;try clear c15b0;try clear c15b1;try clear c23;try clear c23b0;try clear c23b1;try clear p27;try clear q27;try clear hx27;try clear c28;try clear c29;try clear c29b0;try clear c29b1;try clear c34;try clear c34b0;try clear c34b1;try clear c35;try clear c35b0;try clear c35b1;try clear c37;try clear c37b0;try clear c37b1;try clear c44;try clear c45;try clear c45b0;try clear c46;try clear c46b0;try clear c47;try clear c47b0;try clear c48;try clear c48b0;try clear c48b1;try clear c55;try clear c55b0;try clear c55b1;try clear c56;try clear c56b0;try clear c56b1;try clear c57;try clear c57b0;try clear c57b1;try clear hx278_0;try clear hx279_0;try clear p2;try clear p278;try clear p279;try clear q278;try clear q279
          obtain ⟨kq, x4_53, rfl, HA, HJ53, BK262, HB⟩ := hcut
          cases kq with
          | zero => exact absurd HA.out (by simp [w_ModelStates.j3])
          | succ kj53 =>
           have H := HA.out
           clear HA
           simp only [w_ModelStates.j3] at H
           obtain rfl := Option.some.inj H
           go_wp2
           repeat (go_quiet (fail); try go_wp2)
           go_ret
           exact ⟨sqE, fW HB.out⟩
        rw [if_pos c29] at H
        have c29b0 : (x5_26 == 0) = true := beq_iff_eq.mpr c29
        have c29b1 : (x5_26 != 0) = false := bne_eq_false_iff_eq.mpr c29
        clear c29
        replace H := Option.bind_eq_some_iff.mp H
        obtain ⟨t274, A300, H⟩ := H
        replace H : (if t267 = 0 then (if t271 = 0 then ((r_State.f kj26 l0 a1_0 a1_1 a1_2).bind fun t277 => (if t266 = t277 then (w_ModelStates.j4 kj26 t268 t274 ((t268.length : Int) != (t274.length : Int))) else (w_ModelStates.j4 kj26 t268 t274 true))) else (w_ModelStates.j4 kj26 t268 t274 true)) else (w_ModelStates.j4 kj26 t268 t274 true)) = some r := H
        have A30 := am A300
        clear A300
        have HC31 := am H
        clear H
        have := yC1 BK262
        have := kC1 BK262
        have := kC2 BK262
        have := bf BK262.out 0
        have := bf BK262.out 1
        have := bf BK262.out 2
        go_upto_region 15 with (first | (go_at_call 17; (with_reducible refine (r_Sources.calls kj26 _ _ l0 a1_0 a1_1 a1_2 t274 _ ?side1 ?side2 A30.out).mono ?_); (case side1 => repeat (first | exact (Kd.C_below HR0.out HB.out) | (with_reducible refine Kd.C_alloc ?_ _) | (with_reducible refine Kd.C_drewN ?_ _) | (with_reducible refine Kd.C_drew ?_))); (case side2 => exact HC0.out); rintro e w33 ⟨v275, rfl, ho0, hb⟩; have HO276 := am (Kd.V_lower (Kd.V_mono (ok' := fun k_ => some k_ ≠ (v269 : Value).ownBlock ∧ k_ ≠ gb262) ho0 (fun k_ hk_ => ⟨(Kd.fresh' (Kd.R_lt (fR HO_8.out)) k_ hk_), (Kd.freshB (g := gb262) (o := .cells #[.int .i64 a1_0, .int .i64 a1_1, .int .i64 a1_2] 24 (0, 0)) (fb BK262.out) k_ hk_)⟩)) (wz (fW HB.out))); replace HO_8 := dR HO_8 hb; replace BK262 := bB BK262 hb; replace HB := bS HB hb; (try clear hb); (try clear hb2); (try clear hk); (try clear hi); (try clear ho0)))
        repeat (go_quiet (first | (go_at_call 17; (with_reducible refine (r_Sources.calls kj26 _ _ l0 a1_0 a1_1 a1_2 t274 _ ?side1 ?side2 A30.out).mono ?_); (case side1 => repeat (first | exact (Kd.C_below HR0.out HB.out) | (with_reducible refine Kd.C_alloc ?_ _) | (with_reducible refine Kd.C_drewN ?_ _) | (with_reducible refine Kd.C_drew ?_))); (case side2 => exact HC0.out); rintro e w33 ⟨v275, rfl, ho0, hb⟩; have HO276 := am (Kd.V_lower (Kd.V_mono (ok' := fun k_ => some k_ ≠ (v269 : Value).ownBlock ∧ k_ ≠ gb262) ho0 (fun k_ hk_ => ⟨(Kd.fresh' (Kd.R_lt (fR HO_8.out)) k_ hk_), (Kd.freshB (g := gb262) (o := .cells #[.int .i64 a1_0, .int .i64 a1_1, .int .i64 a1_2] 24 (0, 0)) (fb BK262.out) k_ hk_)⟩)) (wz (fW HB.out))); replace HO_8 := dR HO_8 hb; replace BK262 := bB BK262 hb; replace HB := bS HB hb; (try clear hb); (try clear hb2); (try clear hk); (try clear hi); (try clear ho0))); go_upto_region 15 with (first | (go_at_call 17; (with_reducible refine (r_Sources.calls kj26 _ _ l0 a1_0 a1_1 a1_2 t274 _ ?side1 ?side2 A30.out).mono ?_); (case side1 => repeat (first | exact (Kd.C_below HR0.out HB.out) | (with_reducible refine Kd.C_alloc ?_ _) | (with_reducible refine Kd.C_drewN ?_ _) | (with_reducible refine Kd.C_drew ?_))); (case side2 => exact HC0.out); rintro e w33 ⟨v275, rfl, ho0, hb⟩; have HO276 := am (Kd.V_lower (Kd.V_mono (ok' := fun k_ => some k_ ≠ (v269 : Value).ownBlock ∧ k_ ≠ gb262) ho0 (fun k_ hk_ => ⟨(Kd.fresh' (Kd.R_lt (fR HO_8.out)) k_ hk_), (Kd.freshB (g := gb262) (o := .cells #[.int .i64 a1_0, .int .i64 a1_1, .int .i64 a1_2] 24 (0, 0)) (fb BK262.out) k_ hk_)⟩)) (wz (fW HB.out))); replace HO_8 := dR HO_8 hb; replace BK262 := bB BK262 hb; replace HB := bS HB hb; (try clear hb); (try clear hb2); (try clear hk); (try clear hi); (try clear ho0))))
        (try simp only [Act.put, psl])
        go_cut [88] (fun v88 wc => ∃ (kq : Nat) (x88_30 : Bool), v88 = .bool x88_30 ∧ Aside0 (w_ModelStates.j4 kq t268 t274 x88_30 = some r) ∧ Aside0 (kq ≤ kj26) ∧ Aside0 (Kd.R Kd.string 9 wc w.heap.size (fun _ => True) v269 t268) ∧ Aside0 (Kd.V Kd.string 9 wc w.heap.size (fun k_ => some k_ ≠ (v269 : Value).ownBlock ∧ k_ ≠ gb262) v275 t274) ∧ Aside0 (wc.heap[gb262]? = some (.cells #[.int .i64 a1_0, .int .i64 a1_1, .int .i64 a1_2] 24 (0, 0))) ∧ Aside0 (Below w.heap.size w wc))
        case first =>
         have H := HC31.out
         clear HC31
         by_cases c34 : t267 = 0
         rotate_left
         ·rw [if_neg c34] at H
          have c34b0 : (t267 == 0) = false := beq_eq_false_iff_ne.mpr c34
          have c34b1 : (t267 != 0) = true := bne_iff_ne.mpr c34
          (first | rw [c34b0] | (simp only [i64_w, i32_w]; rw [c34b0]) | skip)
          have H' := am H
          clear H
          go_wp2
          repeat (go_quiet (fail); try go_wp2)
          go_meet
          case rel => exact ⟨_, (true), sqD, H', ⟨by have := HJ4.out; have := HJ15.out; have := HJ26.out; first | omega | exact Nat.le_refl _⟩, ⟨fR HO_8.out⟩, ⟨by (with_reducible repeat (first | apply Kd.V_alloc | apply Kd.V_drewN | apply Kd.V_drew)); exact HO276.out⟩, ⟨fb BK262.out⟩, ⟨fW HB.out⟩⟩
         rw [if_pos c34] at H
         have c34b0 : (t267 == 0) = true := beq_iff_eq.mpr c34
         have c34b1 : (t267 != 0) = false := bne_eq_false_iff_eq.mpr c34
         clear c34
         (first | rw [c34b0] | (simp only [i64_w, i32_w]; rw [c34b0]) | skip)
         by_cases c35 : t271 = 0
         rotate_left
         ·rw [if_neg c35] at H
          have c35b0 : (t271 == 0) = false := beq_eq_false_iff_ne.mpr c35
          have c35b1 : (t271 != 0) = true := bne_iff_ne.mpr c35
          have H' := am H
          clear H
          go_wp2
          repeat (go_quiet (fail); try go_wp2)
          go_meet
          case rel => exact ⟨_, (true), sqD, H', ⟨by have := HJ4.out; have := HJ15.out; have := HJ26.out; first | omega | exact Nat.le_refl _⟩, ⟨fR HO_8.out⟩, ⟨by (with_reducible repeat (first | apply Kd.V_alloc | apply Kd.V_drewN | apply Kd.V_drew)); exact HO276.out⟩, ⟨fb BK262.out⟩, ⟨fW HB.out⟩⟩
         rw [if_pos c35] at H
         have c35b0 : (t271 == 0) = true := beq_iff_eq.mpr c35
         have c35b1 : (t271 != 0) = false := bne_eq_false_iff_eq.mpr c35
         clear c35
         replace H := Option.bind_eq_some_iff.mp H
         obtain ⟨t277, A360, H⟩ := H
         replace H : (if t266 = t277 then (w_ModelStates.j4 kj26 t268 t274 ((t268.length : Int) != (t274.length : Int))) else (w_ModelStates.j4 kj26 t268 t274 true)) = some r := H
         have A36 := am A360
         clear A360
         by_cases c37 : t266 = t277
         ·rw [if_pos c37] at H
          have c37b0 : (t266 == t277) = true := beq_iff_eq.mpr c37
          have c37b1 : (t266 != t277) = false := bne_eq_false_iff_eq.mpr c37
          clear c37
          have H' := am H
          clear H
          have := yC1 BK262
          have := kC1 BK262
          have := kC2 BK262
          have := bf BK262.out 0
          have := bf BK262.out 1
          have := bf BK262.out 2
          go_wp2_with (first | (go_at_call 18; (with_reducible refine (r_State.calls kj26 _ _ l0 a1_0 a1_1 a1_2 t277 _ ?side1 ?side2 A36.out).mono ?_); (case side1 => repeat (first | exact (Kd.C_below HR0.out HB.out) | (with_reducible refine Kd.C_alloc ?_ _) | (with_reducible refine Kd.C_drewN ?_ _) | (with_reducible refine Kd.C_drew ?_))); (case side2 => exact HC0.out); rintro e w39 ⟨rfl, hb⟩; replace HO_8 := dR HO_8 hb; replace HO276 := dV HO276 hb; replace BK262 := bB BK262 hb; replace HB := bS HB hb; (try clear hb); (try clear hb2); (try clear hk); (try clear hi); obtain ⟨Ao40, co40, eo40⟩ := Kd.R_slice HO_8.out; subst eo40; obtain ⟨Ao41, co41, eo41⟩ := Kd.V_slice HO276.out; subst eo41))
          repeat (go_quiet (first | (go_at_call 18; (with_reducible refine (r_State.calls kj26 _ _ l0 a1_0 a1_1 a1_2 t277 _ ?side1 ?side2 A36.out).mono ?_); (case side1 => repeat (first | exact (Kd.C_below HR0.out HB.out) | (with_reducible refine Kd.C_alloc ?_ _) | (with_reducible refine Kd.C_drewN ?_ _) | (with_reducible refine Kd.C_drew ?_))); (case side2 => exact HC0.out); rintro e w39 ⟨rfl, hb⟩; replace HO_8 := dR HO_8 hb; replace HO276 := dV HO276 hb; replace BK262 := bB BK262 hb; replace HB := bS HB hb; (try clear hb); (try clear hb2); (try clear hk); (try clear hi); obtain ⟨Ao40, co40, eo40⟩ := Kd.R_slice HO_8.out; subst eo40; obtain ⟨Ao41, co41, eo41⟩ := Kd.V_slice HO276.out; subst eo41)); try go_wp2_with (first | (go_at_call 18; (with_reducible refine (r_State.calls kj26 _ _ l0 a1_0 a1_1 a1_2 t277 _ ?side1 ?side2 A36.out).mono ?_); (case side1 => repeat (first | exact (Kd.C_below HR0.out HB.out) | (with_reducible refine Kd.C_alloc ?_ _) | (with_reducible refine Kd.C_drewN ?_ _) | (with_reducible refine Kd.C_drew ?_))); (case side2 => exact HC0.out); rintro e w39 ⟨rfl, hb⟩; replace HO_8 := dR HO_8 hb; replace HO276 := dV HO276 hb; replace BK262 := bB BK262 hb; replace HB := bS HB hb; (try clear hb); (try clear hb2); (try clear hk); (try clear hi); obtain ⟨Ao40, co40, eo40⟩ := Kd.R_slice HO_8.out; subst eo40; obtain ⟨Ao41, co41, eo41⟩ := Kd.V_slice HO276.out; subst eo41)))
          go_meet
          case rel => exact ⟨_, (((t268.length : Int) != (t274.length : Int))), sqD, H', ⟨by have := HJ4.out; have := HJ15.out; have := HJ26.out; first | omega | exact Nat.le_refl _⟩, ⟨fR HO_8.out⟩, ⟨by (with_reducible repeat (first | apply Kd.V_alloc | apply Kd.V_drewN | apply Kd.V_drew)); exact HO276.out⟩, ⟨fb BK262.out⟩, ⟨fW HB.out⟩⟩
         rw [if_neg c37] at H
         have c37b0 : (t266 == t277) = false := beq_eq_false_iff_ne.mpr c37
         have c37b1 : (t266 != t277) = true := bne_iff_ne.mpr c37
         have H' := am H
         clear H
         have := yC1 BK262
         have := kC1 BK262
         have := kC2 BK262
         have := bf BK262.out 0
         have := bf BK262.out 1
         have := bf BK262.out 2
         go_wp2_with (first | (go_at_call 18; (with_reducible refine (r_State.calls kj26 _ _ l0 a1_0 a1_1 a1_2 t277 _ ?side1 ?side2 A36.out).mono ?_); (case side1 => repeat (first | exact (Kd.C_below HR0.out HB.out) | (with_reducible refine Kd.C_alloc ?_ _) | (with_reducible refine Kd.C_drewN ?_ _) | (with_reducible refine Kd.C_drew ?_))); (case side2 => exact HC0.out); rintro e w43 ⟨rfl, hb⟩; replace HO_8 := dR HO_8 hb; replace HO276 := dV HO276 hb; replace BK262 := bB BK262 hb; replace HB := bS HB hb; (try clear hb); (try clear hb2); (try clear hk); (try clear hi)))
         repeat (go_quiet (first | (go_at_call 18; (with_reducible refine (r_State.calls kj26 _ _ l0 a1_0 a1_1 a1_2 t277 _ ?side1 ?side2 A36.out).mono ?_); (case side1 => repeat (first | exact (Kd.C_below HR0.out HB.out) | (with_reducible refine Kd.C_alloc ?_ _) | (with_reducible refine Kd.C_drewN ?_ _) | (with_reducible refine Kd.C_drew ?_))); (case side2 => exact HC0.out); rintro e w43 ⟨rfl, hb⟩; replace HO_8 := dR HO_8 hb; replace HO276 := dV HO276 hb; replace BK262 := bB BK262 hb; replace HB := bS HB hb; (try clear hb); (try clear hb2); (try clear hk); (try clear hi))); try go_wp2_with (first | (go_at_call 18; (with_reducible refine (r_State.calls kj26 _ _ l0 a1_0 a1_1 a1_2 t277 _ ?side1 ?side2 A36.out).mono ?_); (case side1 => repeat (first | exact (Kd.C_below HR0.out HB.out) | (with_reducible refine Kd.C_alloc ?_ _) | (with_reducible refine Kd.C_drewN ?_ _) | (with_reducible refine Kd.C_drew ?_))); (case side2 => exact HC0.out); rintro e w43 ⟨rfl, hb⟩; replace HO_8 := dR HO_8 hb; replace HO276 := dV HO276 hb; replace BK262 := bB BK262 hb; replace HB := bS HB hb; (try clear hb); (try clear hb2); (try clear hk); (try clear hi))))
         go_meet
         case rel => exact ⟨_, (true), sqD, H', ⟨by have := HJ4.out; have := HJ15.out; have := HJ26.out; first | omega | exact Nat.le_refl _⟩, ⟨fR HO_8.out⟩, ⟨by (with_reducible repeat (first | apply Kd.V_alloc | apply Kd.V_drewN | apply Kd.V_drew)); exact HO276.out⟩, ⟨fb BK262.out⟩, ⟨fW HB.out⟩⟩
        case rest =>
         clear HC31
         try clear c1;try clear c2;try clear p2;try clear c3;try clear c4;try clear c9;try clear c10;try clear c15;try clear c15b0;try clear c15b1;try clear c23;try clear c23b0;try clear c23b1;try clear c28;try clear c29;try clear c29b0;try clear c29b1;try clear c34;try clear c34b0;try clear c34b1;try clear c35;try clear c35b0;try clear c35b1;try clear c37;try clear c37b0;try clear c37b1;try clear p2
         obtain ⟨kq, x88_30, rfl, HA, HJ30, HO_8, HO_10, BK262, HB⟩ := hcut
         cases kq with
         | zero => exact absurd HA.out (by simp [w_ModelStates.j4])
         | succ kj30 =>
          have H := HA.out
          clear HA
          simp only [w_ModelStates.j4] at H
          by_cases c44 : x88_30 = true
          ·subst c44
           have H1 : (some false) = some r := by rw [if_pos rfl] at H; exact H
           clear H
           have H := H1
           clear H1
           obtain rfl := Option.some.inj H
           go_wp2
           repeat (go_quiet (fail); try go_wp2)
           go_ret
           exact ⟨sqE, fW HB.out⟩
          replace c44 := Bool.eq_false_iff.mpr c44
          subst c44
          have H1 : (w_ModelStates.l0 kj30 t268 t274 0) = some r := by rw [if_neg (show ¬ (false = true) by decide)] at H; exact H
          clear H
          have H := H1
          clear H1
          have H' := am H
          clear H
          go_wp2
          repeat (go_quiet (fail); try go_wp2)
          go_loopg [11] kj30 (fun kq v11 w' => ∃ (x11_5 : Int), v11 = .int .i64 x11_5 ∧ Aside0 (w_ModelStates.l0 kq t268 t274 x11_5 = some r) ∧ Aside0 (kq ≤ kj30) ∧ Aside0 (Kd.R Kd.string 9 w' w.heap.size (fun _ => True) v269 t268) ∧ Aside0 (Kd.V Kd.string 9 w' w.heap.size (fun k_ => some k_ ≠ (v269 : Value).ownBlock ∧ k_ ≠ gb262) v275 t274) ∧ Aside0 (w'.heap[gb262]? = some (.cells #[.int .i64 a1_0, .int .i64 a1_1, .int .i64 a1_2] 24 (0, 0))) ∧ Aside0 (Below w.heap.size w w'))
          case atStart => exact ⟨(0), sqD, H', ⟨Nat.le_refl _⟩, ⟨fR HO_8.out⟩, ⟨by (with_reducible repeat (first | apply Kd.V_alloc | apply Kd.V_drewN | apply Kd.V_drew)); exact HO_10.out⟩, ⟨fb BK262.out⟩, ⟨fW HB.out⟩⟩
          case round =>
           clear H'
           try clear c1;try clear c2;try clear p2;try clear c3;try clear c4;try clear c9;try clear c10;try clear c15;try clear c15b0;try clear c15b1;try clear c23;try clear c23b0;try clear c23b1;try clear c28;try clear c29;try clear c29b0;try clear c29b1;try clear c34;try clear c34b0;try clear c34b1;try clear c35;try clear c35b0;try clear c35b1;try clear c37;try clear c37b0;try clear c37b1;try clear c44;try clear p2
           obtain ⟨x11_5, rfl, HA, HK5, HO_8, HO_10, BK262, HB⟩ := hrel
           cases gk with
           | zero => exact absurd HA.out (by simp [w_ModelStates.l0])
           | succ k5 =>
            have H := HA.out
            clear HA
            simp only [w_ModelStates.l0] at H
            by_cases c45 : x11_5 < (t268.length : Int)
            rotate_left
            ·rw [if_neg c45] at H
             have c45b0 : decide (x11_5 < (t268.length : Int)) = false := decide_eq_false c45
             clear c45
             obtain rfl := Option.some.inj H
             obtain ⟨Ao53, co53, eo53⟩ := Kd.R_slice HO_8.out
             subst eo53
             go_wp2
             repeat (go_quiet (fail); try go_wp2)
             go_ret
             exact ⟨sqE, fW HB.out⟩
            rw [if_pos c45] at H
            have c45b0 : decide (x11_5 < (t268.length : Int)) = true := decide_eq_true c45
            clear c45
            by_cases c46 : 0 ≤ x11_5
            rotate_left
            ·rw [if_neg c46] at H
             exact absurd H (by simp)
            rw [if_pos c46] at H
            have c46b0 : decide (0 ≤ x11_5) = true := decide_eq_true c46
            clear c46
            by_cases c47 : x11_5 < (t274.length : Int)
            rotate_left
            ·rw [if_neg c47] at H
             exact absurd H (by simp)
            rw [if_pos c47] at H
            have c47b0 : decide (x11_5 < (t274.length : Int)) = true := decide_eq_true c47
            clear c47
            by_cases c48 : (rdOf ByteArray.empty t268 x11_5).toList = (rdOf ByteArray.empty t274 x11_5).toList
            ·rw [if_pos c48] at H
             have c48b0 : ((rdOf ByteArray.empty t268 x11_5).toList == (rdOf ByteArray.empty t274 x11_5).toList) = true := beq_iff_eq.mpr c48
             have c48b1 : ((rdOf ByteArray.empty t268 x11_5).toList != (rdOf ByteArray.empty t274 x11_5).toList) = false := bne_eq_false_iff_eq.mpr c48
             clear c48
             have H' := am H
             clear H
             obtain ⟨Ao49, co49, eo49⟩ := Kd.R_slice HO_8.out
             subst eo49
             have p278 : 0 ≤ (x11_5 : Int) := of_decide_eq_true (by assumption)
             have q278 : x11_5 < (t268.length : Int) := of_decide_eq_true (by assumption)
             obtain ⟨ad278, e278, hx278_0⟩ := Kd.at_string (Kd.R_reads' HO_8.out).2.2 x11_5 p278 q278
             cases e278
             replace p278 := eq_true p278
             replace q278 := eq_true q278
             obtain ⟨Ao50, co50, eo50⟩ := Kd.V_slice HO_10.out
             subst eo50
             have p279 : 0 ≤ (x11_5 : Int) := of_decide_eq_true (by assumption)
             have q279 : x11_5 < (t274.length : Int) := of_decide_eq_true (by assumption)
             obtain ⟨ad279, e279, hx279_0⟩ := Kd.at_string (Kd.V_reads' HO_10.out).2.2 x11_5 p279 q279
             cases e279
             replace p279 := eq_true p279
             replace q279 := eq_true q279
             go_wp2
             repeat (go_quiet (fail); try go_wp2)
             go_roundg k5
             case measure => have := HJ4.out; have := HJ15.out; have := HJ26.out; have := HJ30.out; have := HK5.out; omega
             case rel => exact ⟨(wrap64 (x11_5 + 1)), sqD, H', ⟨by have := HJ4.out; have := HJ15.out; have := HJ26.out; have := HJ30.out; have := HK5.out; omega⟩, ⟨fR HO_8.out⟩, ⟨by (with_reducible repeat (first | apply Kd.V_alloc | apply Kd.V_drewN | apply Kd.V_drew)); exact HO_10.out⟩, ⟨fb BK262.out⟩, ⟨fW HB.out⟩⟩
            rw [if_neg c48] at H
            have c48b0 : ((rdOf ByteArray.empty t268 x11_5).toList == (rdOf ByteArray.empty t274 x11_5).toList) = false := beq_eq_false_iff_ne.mpr c48
            have c48b1 : ((rdOf ByteArray.empty t268 x11_5).toList != (rdOf ByteArray.empty t274 x11_5).toList) = true := bne_iff_ne.mpr c48
            obtain rfl := Option.some.inj H
            obtain ⟨Ao51, co51, eo51⟩ := Kd.R_slice HO_8.out
            subst eo51
            have p278 : 0 ≤ (x11_5 : Int) := of_decide_eq_true (by assumption)
            have q278 : x11_5 < (t268.length : Int) := of_decide_eq_true (by assumption)
            obtain ⟨ad278, e278, hx278_0⟩ := Kd.at_string (Kd.R_reads' HO_8.out).2.2 x11_5 p278 q278
            cases e278
            replace p278 := eq_true p278
            replace q278 := eq_true q278
            obtain ⟨Ao52, co52, eo52⟩ := Kd.V_slice HO_10.out
            subst eo52
            have p279 : 0 ≤ (x11_5 : Int) := of_decide_eq_true (by assumption)
            have q279 : x11_5 < (t274.length : Int) := of_decide_eq_true (by assumption)
            obtain ⟨ad279, e279, hx279_0⟩ := Kd.at_string (Kd.V_reads' HO_10.out).2.2 x11_5 p279 q279
            cases e279
            replace p279 := eq_true p279
            replace q279 := eq_true q279
            go_wp2
            repeat (go_quiet (fail); try go_wp2)
            go_ret
            exact ⟨sqE, fW HB.out⟩
 ·replace c4 := Bool.eq_false_iff.mpr c4
  subst c4
  have H1 : (some false) = some r := by rw [if_neg (show ¬ (false = true) by decide)] at H; exact H
  clear H
  have H := H1
  clear H1
  obtain rfl := Option.some.inj H
  go_enter Try.func3, Try.ntmps3
  go_wp2_with (first | ((with_reducible refine gate_dst (N := 3) rfl ?_); (try (refine gate_guard (by rfl) ?_; dsimp only)); refine box_event ?hg (N := 3) ?hd (cs := #[.int .i64 a1_0, .int .i64 a1_1, .int .i64 a1_2]) (t := 24) ?hr ?_; (case hd | hg => rfl); (case hr => first | (go_simp; done) | (go_simp; rfl)); intro gb262 hg w65 hbox hb; have BK262 := am hbox; have GW262 := sG HB hg; have GE262 := sG HB hg; replace HB := bS HB hb; clear hb hbox hg) | (go_at_call 10; (with_reducible refine (w_awake.calls  false _ A3.out).mono ?_); rintro e w66 ⟨rfl, hb⟩; replace BK262 := bB BK262 hb; replace HB := bS HB hb; (try clear hb); (try clear hb2); (try clear hk); (try clear hi)))
  repeat (go_quiet (first | ((with_reducible refine gate_dst (N := 3) rfl ?_); (try (refine gate_guard (by rfl) ?_; dsimp only)); refine box_event ?hg (N := 3) ?hd (cs := #[.int .i64 a1_0, .int .i64 a1_1, .int .i64 a1_2]) (t := 24) ?hr ?_; (case hd | hg => rfl); (case hr => first | (go_simp; done) | (go_simp; rfl)); intro gb262 hg w65 hbox hb; have BK262 := am hbox; have GW262 := sG HB hg; have GE262 := sG HB hg; replace HB := bS HB hb; clear hb hbox hg) | (go_at_call 10; (with_reducible refine (w_awake.calls  false _ A3.out).mono ?_); rintro e w66 ⟨rfl, hb⟩; replace BK262 := bB BK262 hb; replace HB := bS HB hb; (try clear hb); (try clear hb2); (try clear hk); (try clear hi))); try go_wp2_with (first | ((with_reducible refine gate_dst (N := 3) rfl ?_); (try (refine gate_guard (by rfl) ?_; dsimp only)); refine box_event ?hg (N := 3) ?hd (cs := #[.int .i64 a1_0, .int .i64 a1_1, .int .i64 a1_2]) (t := 24) ?hr ?_; (case hd | hg => rfl); (case hr => first | (go_simp; done) | (go_simp; rfl)); intro gb262 hg w65 hbox hb; have BK262 := am hbox; have GW262 := sG HB hg; have GE262 := sG HB hg; replace HB := bS HB hb; clear hb hbox hg) | (go_at_call 10; (with_reducible refine (w_awake.calls  false _ A3.out).mono ?_); rintro e w66 ⟨rfl, hb⟩; replace BK262 := bB BK262 hb; replace HB := bS HB hb; (try clear hb); (try clear hb2); (try clear hk); (try clear hi))))
  go_ret
  exact ⟨sqE, fW HB.out⟩

def w_ModelStates.Pure : Prop := ∀ (l0 : List (S68)) (a1_0 : Int) (a1_1 : Int) (a1_2 : Int), (l0.length ≤ maxLen ∧ ∀ e1_, e1_ ∈ l0 → okS68 e1_) → ((Lit.int .i64 a1_0).wf = true) → ((Lit.int .i64 a1_1).wf = true) → ((Lit.int .i64 a1_2).wf = true) → ∃ k, w_ModelStates.f k l0 a1_0 a1_1 a1_2 = some true
theorem w_ModelStates.walk (P_ : w_ModelStates.Pure) (A0 : Option Addr) (c0 : Nat) (l0 : List (S68)) (a1_0 : Int) (a1_1 : Int) (a1_2 : Int) (w : World) (hr0 : Kd.C k68 w A0 l0.length l0) (hc0 : l0.length ≤ c0) (o0 : (l0.length ≤ maxLen ∧ ∀ e1_, e1_ ∈ l0 → okS68 e1_)) (o1 : ((Lit.int .i64 a1_0).wf = true)) (o2 : ((Lit.int .i64 a1_1).wf = true)) (o3 : ((Lit.int .i64 a1_2).wf = true)) :
  Calls Try.prog 3 #[.slice A0 l0.length c0, .agg #[.int .i64 a1_0, .int .i64 a1_1, .int .i64 a1_2]] w fun e w' => e = .returned (.bool true) ∧ Below w.heap.size w w' := by
 obtain ⟨k, h⟩ := P_ l0 a1_0 a1_1 a1_2 o0 o1 o2 o3
 refine (w_ModelStates.calls k A0 c0 l0 a1_0 a1_1 a1_2 true w hr0 hc0 h).mono ?_
 rintro e w' ⟨rfl, hd⟩
 exact ⟨rfl, hd⟩

end Go.Proofs.Ytcofgnbopodahaa.QA
