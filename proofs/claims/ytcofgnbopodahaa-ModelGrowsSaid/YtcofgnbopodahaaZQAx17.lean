import Derived.Test.YtcofgnbopodahaaZQAx0
import Derived.Test.YtcofgnbopodahaaZQAx6
import Derived.Test.YtcofgnbopodahaaZQAx11
import Derived.Test.YtcofgnbopodahaaZQAx16
namespace Go.Proofs.Ytcofgnbopodahaa.QA
open Go.RowKit Go.Proofs.YtcofgnbopodahaaW.PrintWords Go.Proofs.YtcofgnbopodahaaW.PrintLast Go.Proofs.YtcofgnbopodahaaW.PrintMore
open Go.Proofs.YtcofgnbopodahaaW.PrintWords renaming blk_drew → bd, below_drew1 → wd, blk_frozen → bf, blk_cell → bc, below_size → wz, gate_callee → gc
open Aside0 renaming mk → am
attribute [local go_sem] max2_int min2_int max_two min_two max_three min_three max_four min_four
set_option linter.unusedVariables false
set_option linter.unusedSimpArgs false

mutual
def w_ModelGrows.j0 : Nat → List (S68) → List (S68) → Bool → Int → Int → Int → Option (Bool)
 | 0, _, _, _, _, _, _ => none
 | k + 1, x0, x1, x24, x288000, x288001, x288002 => if x24 = true then (some true) else ((model_State.f k x0 x288000 x288001 x288002).bind fun bt291 => ((some (([] : List (S68)) : List (S68))).bind fun y293 => (if y293.length + x0.length < 1954687338268 then ((some (y293 ++ x0 : List (S68))).bind fun y296 => (if y296.length + x1.length < 1954687338268 then ((model_State.f k (y296 ++ x1) x288000 x288001 x288002).bind fun bt302 => ((some (([] : List (S68)) : List (S68))).bind fun y304 => (if y304.length + x1.length < 1954687338268 then ((some (y304 ++ x1 : List (S68))).bind fun y307 => (if y307.length + x0.length < 1954687338268 then ((model_State.f k (y307 ++ x0) x288000 x288001 x288002).bind fun bt313 => ((some (([] : List (S68)) : List (S68))).bind fun y315 => (if y315.length + x1.length < 1954687338268 then ((some (y315 ++ x1 : List (S68))).bind fun y318 => (if y318.length + x0.length < 1954687338268 then ((some (y318 ++ x0 : List (S68))).bind fun y321 => (if y321.length + x1.length < 1954687338268 then ((model_State.f k (y321 ++ x1) x288000 x288001 x288002).bind fun bt327 => (if bt291.2 = 0 then (if bt302.2 = 0 then (if bt313.2 = 0 then (if bt327.2 = 0 then ((w_above.f k bt302.1 bt291.1).bind fun t329 => (if t329 = true then (if bt302.1 = bt313.1 then (w_ModelGrows.j1 k (bt302.1 == bt327.1)) else (w_ModelGrows.j1 k false)) else (w_ModelGrows.j1 k false))) else (w_ModelGrows.j1 k false)) else (w_ModelGrows.j1 k false)) else (if bt291.1 = 0 then (some true) else (some (bt302.2 != 0)))) else (if bt291.1 = 0 then (some true) else (some (bt302.2 != 0))))) else (none))) else (none))) else (none)))) else (none))) else (none)))) else (none))) else (none))))
def w_ModelGrows.j1 : Nat → Bool → Option (Bool)
 | 0, _ => none
 | k + 1, x6 => some x6
end
def w_ModelGrows.f (k : Nat) (l0 : List (S68)) (l1 : List (S68)) (a2_0 : Int) (a2_1 : Int) (a2_2 : Int) : Option (Bool) := (w_awake.f).bind fun t288 => (if t288 = true then ((r_Small.f k l0 16).bind fun t289 => (if t289 = true then ((r_Small.f k l1 16).bind fun t290 => (w_ModelGrows.j0 k l0 l1 (!t290) a2_0 a2_1 a2_2)) else (w_ModelGrows.j0 k l0 l1 true a2_0 a2_1 a2_2))) else (some false))
def w_ModelGrows.T6 : Bool × List (List Nat × List Nat) := (true, [([], []), ([], []), ([0, 1], [0, 1]), ([], []), ([2, 3, 2], [2, 3]), ([], []), ([4, 5, 4], [4, 5]), ([6], [6]), ([7], [7]), ([7], [7]), ([8, 6, 0, 1, 2, 3, 4, 5, 6, 7, 8], [8]), ([9, 10, 0, 1, 2, 3, 4, 5, 6, 7, 8, 9, 10], [9])])
def w_ModelGrows.B6 : List Nat := [0, 0, 3, 0, 15, 0, 63, 127, 255, 255, 511, 2047]
theorem w_ModelGrows.tab6 : rtab .any (opsOf Try.f5 6) = w_ModelGrows.T6 := by kernel_rfl
theorem w_ModelGrows.bits6 : waitsOk w_ModelGrows.T6.2 w_ModelGrows.B6 = true := by kernel_rfl
def w_ModelGrows.T7 : Bool × List (List Nat × List Nat) := (true, [([], []), ([], []), ([0, 1], [0, 1]), ([], []), ([2, 3, 2], [2, 3]), ([], []), ([4, 5, 4], [4, 5]), ([6], [6]), ([7], [7]), ([7], [7]), ([8, 6, 0, 1, 2, 3, 4, 5, 6, 7, 8], [8]), ([9, 10, 0, 1, 2, 3, 4, 5, 6, 7, 8, 9, 10], [9])])
def w_ModelGrows.B7 : List Nat := [0, 0, 3, 0, 15, 0, 63, 127, 255, 255, 511, 2047]
theorem w_ModelGrows.tab7 : rtab .any (opsOf Try.f5 7) = w_ModelGrows.T7 := by kernel_rfl
theorem w_ModelGrows.bits7 : waitsOk w_ModelGrows.T7.2 w_ModelGrows.B7 = true := by kernel_rfl
def w_ModelGrows.T8 : Bool × List (List Nat × List Nat) := (true, [([], []), ([], []), ([0, 1], [0, 1]), ([], []), ([2, 3, 2], [2, 3]), ([], []), ([4, 5, 4], [4, 5]), ([], []), ([6, 7, 6], [6, 7]), ([8], [8]), ([9], [9]), ([9], [9]), ([10, 8, 0, 1, 2, 3, 4, 5, 6, 7, 8, 9, 10], [10]), ([11, 12, 0, 1, 2, 3, 4, 5, 6, 7, 8, 9, 10, 11, 12], [11])])
def w_ModelGrows.B8 : List Nat := [0, 0, 3, 0, 15, 0, 63, 0, 255, 511, 1023, 1023, 2047, 8191]
theorem w_ModelGrows.tab8 : rtab .any (opsOf Try.f5 8) = w_ModelGrows.T8 := by kernel_rfl
theorem w_ModelGrows.bits8 : waitsOk w_ModelGrows.T8.2 w_ModelGrows.B8 = true := by kernel_rfl
set_option maxHeartbeats 8000000 in
set_option maxRecDepth 100000 in
theorem w_ModelGrows.calls (k : Nat) (A0 : Option Addr) (c0 : Nat) (l0 : List (S68)) (A1 : Option Addr) (c1 : Nat) (l1 : List (S68)) (a2_0 : Int) (a2_1 : Int) (a2_2 : Int) (r : Bool) (w : World) (hr0 : Kd.C k68 w A0 l0.length l0) (hc0 : l0.length ≤ c0) (hr1 : Kd.C k68 w A1 l1.length l1) (hc1 : l1.length ≤ c1) (h : w_ModelGrows.f k l0 l1 a2_0 a2_1 a2_2 = some r) :
  Calls Try.prog 5 #[.slice A0 l0.length c0, .slice A1 l1.length c1, .agg #[.int .i64 a2_0, .int .i64 a2_1, .int .i64 a2_2]] w fun e w' => e = .returned (.bool r) ∧ Below w.heap.size w w' := by
 have hu24 := Try.underlying24
 have HR0 := am hr0
 have HC0 := am hc0
 clear hr0 hc0
 have HR1 := am hr1
 have HC1 := am hc1
 clear hr1 hc1
 have HB := am (Below.refl w.heap.size w)
 have H : ((w_awake.f).bind fun t288 => (if t288 = true then ((r_Small.f k l0 16).bind fun t289 => (if t289 = true then ((r_Small.f k l1 16).bind fun t290 => (w_ModelGrows.j0 k l0 l1 (!t290) a2_0 a2_1 a2_2)) else (w_ModelGrows.j0 k l0 l1 true a2_0 a2_1 a2_2))) else (some false))) = some r := h
 clear h
 replace H := Option.bind_eq_some_iff.mp H
 obtain ⟨t288, A40, H⟩ := H
 replace H : (if t288 = true then ((r_Small.f k l0 16).bind fun t289 => (if t289 = true then ((r_Small.f k l1 16).bind fun t290 => (w_ModelGrows.j0 k l0 l1 (!t290) a2_0 a2_1 a2_2)) else (w_ModelGrows.j0 k l0 l1 true a2_0 a2_1 a2_2))) else (some false)) = some r := H
 have A4 := am A40
 clear A40
 by_cases c5 : t288 = true
 ·subst c5
  have H1 : ((r_Small.f k l0 16).bind fun t289 => (if t289 = true then ((r_Small.f k l1 16).bind fun t290 => (w_ModelGrows.j0 k l0 l1 (!t290) a2_0 a2_1 a2_2)) else (w_ModelGrows.j0 k l0 l1 true a2_0 a2_1 a2_2))) = some r := by rw [if_pos rfl] at H; exact H
  clear H
  have H := H1
  clear H1
  have HC6 := am H
  clear H
  go_enter Try.func5, Try.ntmps5
  go_upto_region 3 with (first | ((with_reducible refine gate_dst (N := 5) rfl ?_); refine box_event ?hg (N := 5) ?hd (cs := #[.int .i64 a2_0, .int .i64 a2_1, .int .i64 a2_2]) (t := 24) ?hr ?_; (case hd | hg => rfl); (case hr => first | (go_simp; done) | (go_simp; rfl)); intro gb287 hg w7 hbox hb; have BK287 := am hbox; have GW287 := sG HB hg; have GE287 := sG HB hg; replace HB := bS HB hb; clear hb hbox hg) | ((with_reducible refine gc (f := 10) rfl ?_); refine goesL_ (some 15) rfl rfl Try.func10 (by kernel_rfl) rfl #[] rfl (by (try simp only [pml]); first | done | rfl | (simp only [pdt]; rfl)) ?_; (with_reducible refine (w_awake.calls  true _ A4.out).mono ?_); rintro e w8 ⟨rfl, hb⟩; refine ⟨_, rfl, ?_⟩; replace BK287 := bB BK287 hb; replace HB := bS HB hb; (try clear hb); (try clear hb2); (try clear hk); (try clear hi)))
  (try simp only [Act.put, psl])
  go_cut [24] (fun v24 wc => ∃ (kq : Nat) (x24_5 : Bool), v24 = .bool x24_5 ∧ Aside0 (w_ModelGrows.j0 kq l0 l1 x24_5 a2_0 a2_1 a2_2 = some r) ∧ Aside0 (kq ≤ k) ∧ Aside0 (wc.heap[gb287]? = some (.cells #[.int .i64 a2_0, .int .i64 a2_1, .int .i64 a2_2] 24 (0, 0))) ∧ Aside0 (Below w.heap.size w wc))
  case first =>
   have H := HC6.out
   clear HC6
   replace H := Option.bind_eq_some_iff.mp H
   obtain ⟨t289, A90, H⟩ := H
   replace H : (if t289 = true then ((r_Small.f k l1 16).bind fun t290 => (w_ModelGrows.j0 k l0 l1 (!t290) a2_0 a2_1 a2_2)) else (w_ModelGrows.j0 k l0 l1 true a2_0 a2_1 a2_2)) = some r := H
   have A9 := am A90
   clear A90
   by_cases c10 : t289 = true
   ·subst c10
    have H1 : ((r_Small.f k l1 16).bind fun t290 => (w_ModelGrows.j0 k l0 l1 (!t290) a2_0 a2_1 a2_2)) = some r := by rw [if_pos rfl] at H; exact H
    clear H
    have H := H1
    clear H1
    replace H := Option.bind_eq_some_iff.mp H
    obtain ⟨t290, A110, H⟩ := H
    replace H : (w_ModelGrows.j0 k l0 l1 (!t290) a2_0 a2_1 a2_2) = some r := H
    have A11 := am A110
    clear A110
    have H' := am H
    clear H
    go_wp2_with (first | ((with_reducible refine gc (f := 11) rfl ?_); refine goesL_ (some 18) rfl rfl Try.func11 (by kernel_rfl) rfl #[.slice A0 l0.length c0, .int .i64 16] rfl (by (try simp only [pml]); first | done | rfl | (simp only [pdt]; rfl)) ?_; (with_reducible refine (r_Small.calls k _ _ l0 16 true _ ?side1 ?side2 A9.out).mono ?_); (case side1 => repeat (first | exact (Kd.C_below HR0.out HB.out) | (with_reducible refine Kd.C_alloc ?_ _) | (with_reducible refine Kd.C_drewN ?_ _) | (with_reducible refine Kd.C_drew ?_))); (case side2 => exact HC0.out); rintro e w' ⟨rfl, ⟨nd, rfl⟩⟩; refine ⟨_, rfl, ?_⟩) | (go_at_call 11; (with_reducible refine (r_Small.calls k _ _ l1 16 t290 _ ?side1 ?side2 A11.out).mono ?_); (case side1 => repeat (first | exact (Kd.C_below HR1.out (fW HB.out)) | (with_reducible refine Kd.C_alloc ?_ _) | (with_reducible refine Kd.C_drewN ?_ _) | (with_reducible refine Kd.C_drew ?_))); (case side2 => exact HC1.out); rintro e w' ⟨rfl, ⟨nd, rfl⟩⟩))
    go_meet
    case rel => exact ⟨_, (!t290), sqD, H', ⟨by first | omega | exact Nat.le_refl _⟩, ⟨fb BK287.out⟩, ⟨fW HB.out⟩⟩
   replace c10 := Bool.eq_false_iff.mpr c10
   subst c10
   have H1 : (w_ModelGrows.j0 k l0 l1 true a2_0 a2_1 a2_2) = some r := by rw [if_neg (show ¬ (false = true) by decide)] at H; exact H
   clear H
   have H := H1
   clear H1
   have H' := am H
   clear H
   go_wp2_with (first | ((with_reducible refine gc (f := 11) rfl ?_); refine goesL_ (some 18) rfl rfl Try.func11 (by kernel_rfl) rfl #[.slice A0 l0.length c0, .int .i64 16] rfl (by (try simp only [pml]); first | done | rfl | (simp only [pdt]; rfl)) ?_; (with_reducible refine (r_Small.calls k _ _ l0 16 false _ ?side1 ?side2 A9.out).mono ?_); (case side1 => repeat (first | exact (Kd.C_below HR0.out HB.out) | (with_reducible refine Kd.C_alloc ?_ _) | (with_reducible refine Kd.C_drewN ?_ _) | (with_reducible refine Kd.C_drew ?_))); (case side2 => exact HC0.out); rintro e w' ⟨rfl, ⟨nd, rfl⟩⟩; refine ⟨_, rfl, ?_⟩))
   go_meet
   case rel => exact ⟨_, (true), sqD, H', ⟨by first | omega | exact Nat.le_refl _⟩, ⟨fb BK287.out⟩, ⟨fW HB.out⟩⟩
  case rest =>
   clear HC6
   try clear c1;try clear p2;try clear c5;try clear c10;try clear c11
   obtain ⟨kq, x24_5, rfl, HA, HJ5, BK287, HB⟩ := hcut
   cases kq with
   | zero => exact absurd HA.out (by simp [w_ModelGrows.j0])
   | succ kj5 =>
    have H := HA.out
    clear HA
    simp only [w_ModelGrows.j0] at H
    by_cases c12 : x24_5 = true
    ·subst c12
     have H1 : (some true) = some r := by rw [if_pos rfl] at H; exact H
     clear H
     have H := H1
     clear H1
     obtain rfl := Option.some.inj H
     go_wp2
     go_ret
     exact ⟨sqE, fW HB.out⟩
    replace c12 := Bool.eq_false_iff.mpr c12
    subst c12
    have H1 : ((model_State.f kj5 l0 a2_0 a2_1 a2_2).bind fun bt291 => ((some (([] : List (S68)) : List (S68))).bind fun y293 => (if y293.length + l0.length < 1954687338268 then ((some (y293 ++ l0 : List (S68))).bind fun y296 => (if y296.length + l1.length < 1954687338268 then ((model_State.f kj5 (y296 ++ l1) a2_0 a2_1 a2_2).bind fun bt302 => ((some (([] : List (S68)) : List (S68))).bind fun y304 => (if y304.length + l1.length < 1954687338268 then ((some (y304 ++ l1 : List (S68))).bind fun y307 => (if y307.length + l0.length < 1954687338268 then ((model_State.f kj5 (y307 ++ l0) a2_0 a2_1 a2_2).bind fun bt313 => ((some (([] : List (S68)) : List (S68))).bind fun y315 => (if y315.length + l1.length < 1954687338268 then ((some (y315 ++ l1 : List (S68))).bind fun y318 => (if y318.length + l0.length < 1954687338268 then ((some (y318 ++ l0 : List (S68))).bind fun y321 => (if y321.length + l1.length < 1954687338268 then ((model_State.f kj5 (y321 ++ l1) a2_0 a2_1 a2_2).bind fun bt327 => (if bt291.2 = 0 then (if bt302.2 = 0 then (if bt313.2 = 0 then (if bt327.2 = 0 then ((w_above.f kj5 bt302.1 bt291.1).bind fun t329 => (if t329 = true then (if bt302.1 = bt313.1 then (w_ModelGrows.j1 kj5 (bt302.1 == bt327.1)) else (w_ModelGrows.j1 kj5 false)) else (w_ModelGrows.j1 kj5 false))) else (w_ModelGrows.j1 kj5 false)) else (w_ModelGrows.j1 kj5 false)) else (if bt291.1 = 0 then (some true) else (some (bt302.2 != 0)))) else (if bt291.1 = 0 then (some true) else (some (bt302.2 != 0))))) else (none))) else (none))) else (none)))) else (none))) else (none)))) else (none))) else (none)))) = some r := by rw [if_neg (show ¬ (false = true) by decide)] at H; exact H
    clear H
    have H := H1
    clear H1
    replace H := Option.bind_eq_some_iff.mp H
    obtain ⟨⟨t291, t292⟩, A130, H⟩ := H
    replace H : ((some (([] : List (S68)) : List (S68))).bind fun y293 => (if y293.length + l0.length < 1954687338268 then ((some (y293 ++ l0 : List (S68))).bind fun y296 => (if y296.length + l1.length < 1954687338268 then ((model_State.f kj5 (y296 ++ l1) a2_0 a2_1 a2_2).bind fun bt302 => ((some (([] : List (S68)) : List (S68))).bind fun y304 => (if y304.length + l1.length < 1954687338268 then ((some (y304 ++ l1 : List (S68))).bind fun y307 => (if y307.length + l0.length < 1954687338268 then ((model_State.f kj5 (y307 ++ l0) a2_0 a2_1 a2_2).bind fun bt313 => ((some (([] : List (S68)) : List (S68))).bind fun y315 => (if y315.length + l1.length < 1954687338268 then ((some (y315 ++ l1 : List (S68))).bind fun y318 => (if y318.length + l0.length < 1954687338268 then ((some (y318 ++ l0 : List (S68))).bind fun y321 => (if y321.length + l1.length < 1954687338268 then ((model_State.f kj5 (y321 ++ l1) a2_0 a2_1 a2_2).bind fun bt327 => (if t292 = 0 then (if bt302.2 = 0 then (if bt313.2 = 0 then (if bt327.2 = 0 then ((w_above.f kj5 bt302.1 t291).bind fun t329 => (if t329 = true then (if bt302.1 = bt313.1 then (w_ModelGrows.j1 kj5 (bt302.1 == bt327.1)) else (w_ModelGrows.j1 kj5 false)) else (w_ModelGrows.j1 kj5 false))) else (w_ModelGrows.j1 kj5 false)) else (w_ModelGrows.j1 kj5 false)) else (if t291 = 0 then (some true) else (some (bt302.2 != 0)))) else (if t291 = 0 then (some true) else (some (bt302.2 != 0))))) else (none))) else (none))) else (none)))) else (none))) else (none)))) else (none))) else (none))) = some r := H
    have A13 := am A130
    clear A130
    obtain ⟨y293, hy293⟩ : ∃ y_ : List (S68), y_ = (([] : List (S68))) := ⟨_, rfl⟩
    replace H : (if y293.length + l0.length < 1954687338268 then ((some (y293 ++ l0 : List (S68))).bind fun y296 => (if y296.length + l1.length < 1954687338268 then ((model_State.f kj5 (y296 ++ l1) a2_0 a2_1 a2_2).bind fun bt302 => ((some (([] : List (S68)) : List (S68))).bind fun y304 => (if y304.length + l1.length < 1954687338268 then ((some (y304 ++ l1 : List (S68))).bind fun y307 => (if y307.length + l0.length < 1954687338268 then ((model_State.f kj5 (y307 ++ l0) a2_0 a2_1 a2_2).bind fun bt313 => ((some (([] : List (S68)) : List (S68))).bind fun y315 => (if y315.length + l1.length < 1954687338268 then ((some (y315 ++ l1 : List (S68))).bind fun y318 => (if y318.length + l0.length < 1954687338268 then ((some (y318 ++ l0 : List (S68))).bind fun y321 => (if y321.length + l1.length < 1954687338268 then ((model_State.f kj5 (y321 ++ l1) a2_0 a2_1 a2_2).bind fun bt327 => (if t292 = 0 then (if bt302.2 = 0 then (if bt313.2 = 0 then (if bt327.2 = 0 then ((w_above.f kj5 bt302.1 t291).bind fun t329 => (if t329 = true then (if bt302.1 = bt313.1 then (w_ModelGrows.j1 kj5 (bt302.1 == bt327.1)) else (w_ModelGrows.j1 kj5 false)) else (w_ModelGrows.j1 kj5 false))) else (w_ModelGrows.j1 kj5 false)) else (w_ModelGrows.j1 kj5 false)) else (if t291 = 0 then (some true) else (some (bt302.2 != 0)))) else (if t291 = 0 then (some true) else (some (bt302.2 != 0))))) else (none))) else (none))) else (none)))) else (none))) else (none)))) else (none))) else (none)) = some r := by first | (rw [hy293]; with_reducible exact H) | (have H2_ := (Option.bind_some _ _).symm.trans H; rw [hy293]; with_reducible exact H2_) | (have H2_ := (Option.bind_some _ _).symm.trans H; with_reducible exact H2_) | with_reducible exact H | (rw [hy293]; exact H) | exact H
    have Ny293 := am hy293
    clear hy293
    by_cases c14 : y293.length + l0.length < 1954687338268
    rotate_left
    ·rw [if_neg c14] at H
     exact absurd H (by simp)
    rw [if_pos c14] at H
    have LMc14 := am c14
    clear c14
    obtain ⟨y296, hy296⟩ : ∃ y_ : List (S68), y_ = (y293 ++ l0) := ⟨_, rfl⟩
    replace H : (if y296.length + l1.length < 1954687338268 then ((model_State.f kj5 (y296 ++ l1) a2_0 a2_1 a2_2).bind fun bt302 => ((some (([] : List (S68)) : List (S68))).bind fun y304 => (if y304.length + l1.length < 1954687338268 then ((some (y304 ++ l1 : List (S68))).bind fun y307 => (if y307.length + l0.length < 1954687338268 then ((model_State.f kj5 (y307 ++ l0) a2_0 a2_1 a2_2).bind fun bt313 => ((some (([] : List (S68)) : List (S68))).bind fun y315 => (if y315.length + l1.length < 1954687338268 then ((some (y315 ++ l1 : List (S68))).bind fun y318 => (if y318.length + l0.length < 1954687338268 then ((some (y318 ++ l0 : List (S68))).bind fun y321 => (if y321.length + l1.length < 1954687338268 then ((model_State.f kj5 (y321 ++ l1) a2_0 a2_1 a2_2).bind fun bt327 => (if t292 = 0 then (if bt302.2 = 0 then (if bt313.2 = 0 then (if bt327.2 = 0 then ((w_above.f kj5 bt302.1 t291).bind fun t329 => (if t329 = true then (if bt302.1 = bt313.1 then (w_ModelGrows.j1 kj5 (bt302.1 == bt327.1)) else (w_ModelGrows.j1 kj5 false)) else (w_ModelGrows.j1 kj5 false))) else (w_ModelGrows.j1 kj5 false)) else (w_ModelGrows.j1 kj5 false)) else (if t291 = 0 then (some true) else (some (bt302.2 != 0)))) else (if t291 = 0 then (some true) else (some (bt302.2 != 0))))) else (none))) else (none))) else (none)))) else (none))) else (none)))) else (none)) = some r := by first | (rw [hy296]; with_reducible exact H) | (have H2_ := (Option.bind_some _ _).symm.trans H; rw [hy296]; with_reducible exact H2_) | (have H2_ := (Option.bind_some _ _).symm.trans H; with_reducible exact H2_) | with_reducible exact H | (rw [hy296]; exact H) | exact H
    have Ny296 := am hy296
    clear hy296
    by_cases c15 : y296.length + l1.length < 1954687338268
    rotate_left
    ·rw [if_neg c15] at H
     exact absurd H (by simp)
    rw [if_pos c15] at H
    have LMc15 := am c15
    clear c15
    obtain ⟨y299, hy299⟩ : ∃ y_ : List (S68), y_ = (y296 ++ l1) := ⟨_, rfl⟩
    replace H : ((model_State.f kj5 y299 a2_0 a2_1 a2_2).bind fun bt302 => ((some (([] : List (S68)) : List (S68))).bind fun y304 => (if y304.length + l1.length < 1954687338268 then ((some (y304 ++ l1 : List (S68))).bind fun y307 => (if y307.length + l0.length < 1954687338268 then ((model_State.f kj5 (y307 ++ l0) a2_0 a2_1 a2_2).bind fun bt313 => ((some (([] : List (S68)) : List (S68))).bind fun y315 => (if y315.length + l1.length < 1954687338268 then ((some (y315 ++ l1 : List (S68))).bind fun y318 => (if y318.length + l0.length < 1954687338268 then ((some (y318 ++ l0 : List (S68))).bind fun y321 => (if y321.length + l1.length < 1954687338268 then ((model_State.f kj5 (y321 ++ l1) a2_0 a2_1 a2_2).bind fun bt327 => (if t292 = 0 then (if bt302.2 = 0 then (if bt313.2 = 0 then (if bt327.2 = 0 then ((w_above.f kj5 bt302.1 t291).bind fun t329 => (if t329 = true then (if bt302.1 = bt313.1 then (w_ModelGrows.j1 kj5 (bt302.1 == bt327.1)) else (w_ModelGrows.j1 kj5 false)) else (w_ModelGrows.j1 kj5 false))) else (w_ModelGrows.j1 kj5 false)) else (w_ModelGrows.j1 kj5 false)) else (if t291 = 0 then (some true) else (some (bt302.2 != 0)))) else (if t291 = 0 then (some true) else (some (bt302.2 != 0))))) else (none))) else (none))) else (none)))) else (none))) else (none)))) = some r := by first | (rw [hy299]; with_reducible exact H) | (have H2_ := (Option.bind_some _ _).symm.trans H; rw [hy299]; with_reducible exact H2_) | (have H2_ := (Option.bind_some _ _).symm.trans H; with_reducible exact H2_) | with_reducible exact H | (rw [hy299]; exact H) | exact H
    have Ny299 := am hy299
    clear hy299
    replace H := Option.bind_eq_some_iff.mp H
    obtain ⟨⟨t302, t303⟩, A160, H⟩ := H
    replace H : ((some (([] : List (S68)) : List (S68))).bind fun y304 => (if y304.length + l1.length < 1954687338268 then ((some (y304 ++ l1 : List (S68))).bind fun y307 => (if y307.length + l0.length < 1954687338268 then ((model_State.f kj5 (y307 ++ l0) a2_0 a2_1 a2_2).bind fun bt313 => ((some (([] : List (S68)) : List (S68))).bind fun y315 => (if y315.length + l1.length < 1954687338268 then ((some (y315 ++ l1 : List (S68))).bind fun y318 => (if y318.length + l0.length < 1954687338268 then ((some (y318 ++ l0 : List (S68))).bind fun y321 => (if y321.length + l1.length < 1954687338268 then ((model_State.f kj5 (y321 ++ l1) a2_0 a2_1 a2_2).bind fun bt327 => (if t292 = 0 then (if t303 = 0 then (if bt313.2 = 0 then (if bt327.2 = 0 then ((w_above.f kj5 t302 t291).bind fun t329 => (if t329 = true then (if t302 = bt313.1 then (w_ModelGrows.j1 kj5 (t302 == bt327.1)) else (w_ModelGrows.j1 kj5 false)) else (w_ModelGrows.j1 kj5 false))) else (w_ModelGrows.j1 kj5 false)) else (w_ModelGrows.j1 kj5 false)) else (if t291 = 0 then (some true) else (some (t303 != 0)))) else (if t291 = 0 then (some true) else (some (t303 != 0))))) else (none))) else (none))) else (none)))) else (none))) else (none))) = some r := H
    have A16 := am A160
    clear A160
    obtain ⟨y304, hy304⟩ : ∃ y_ : List (S68), y_ = (([] : List (S68))) := ⟨_, rfl⟩
    replace H : (if y304.length + l1.length < 1954687338268 then ((some (y304 ++ l1 : List (S68))).bind fun y307 => (if y307.length + l0.length < 1954687338268 then ((model_State.f kj5 (y307 ++ l0) a2_0 a2_1 a2_2).bind fun bt313 => ((some (([] : List (S68)) : List (S68))).bind fun y315 => (if y315.length + l1.length < 1954687338268 then ((some (y315 ++ l1 : List (S68))).bind fun y318 => (if y318.length + l0.length < 1954687338268 then ((some (y318 ++ l0 : List (S68))).bind fun y321 => (if y321.length + l1.length < 1954687338268 then ((model_State.f kj5 (y321 ++ l1) a2_0 a2_1 a2_2).bind fun bt327 => (if t292 = 0 then (if t303 = 0 then (if bt313.2 = 0 then (if bt327.2 = 0 then ((w_above.f kj5 t302 t291).bind fun t329 => (if t329 = true then (if t302 = bt313.1 then (w_ModelGrows.j1 kj5 (t302 == bt327.1)) else (w_ModelGrows.j1 kj5 false)) else (w_ModelGrows.j1 kj5 false))) else (w_ModelGrows.j1 kj5 false)) else (w_ModelGrows.j1 kj5 false)) else (if t291 = 0 then (some true) else (some (t303 != 0)))) else (if t291 = 0 then (some true) else (some (t303 != 0))))) else (none))) else (none))) else (none)))) else (none))) else (none)) = some r := by first | (rw [hy304]; with_reducible exact H) | (have H2_ := (Option.bind_some _ _).symm.trans H; rw [hy304]; with_reducible exact H2_) | (have H2_ := (Option.bind_some _ _).symm.trans H; with_reducible exact H2_) | with_reducible exact H | (rw [hy304]; exact H) | exact H
    have Ny304 := am hy304
    clear hy304
    by_cases c17 : y304.length + l1.length < 1954687338268
    rotate_left
    ·rw [if_neg c17] at H
     exact absurd H (by simp)
    rw [if_pos c17] at H
    have LMc17 := am c17
    clear c17
    obtain ⟨y307, hy307⟩ : ∃ y_ : List (S68), y_ = (y304 ++ l1) := ⟨_, rfl⟩
    replace H : (if y307.length + l0.length < 1954687338268 then ((model_State.f kj5 (y307 ++ l0) a2_0 a2_1 a2_2).bind fun bt313 => ((some (([] : List (S68)) : List (S68))).bind fun y315 => (if y315.length + l1.length < 1954687338268 then ((some (y315 ++ l1 : List (S68))).bind fun y318 => (if y318.length + l0.length < 1954687338268 then ((some (y318 ++ l0 : List (S68))).bind fun y321 => (if y321.length + l1.length < 1954687338268 then ((model_State.f kj5 (y321 ++ l1) a2_0 a2_1 a2_2).bind fun bt327 => (if t292 = 0 then (if t303 = 0 then (if bt313.2 = 0 then (if bt327.2 = 0 then ((w_above.f kj5 t302 t291).bind fun t329 => (if t329 = true then (if t302 = bt313.1 then (w_ModelGrows.j1 kj5 (t302 == bt327.1)) else (w_ModelGrows.j1 kj5 false)) else (w_ModelGrows.j1 kj5 false))) else (w_ModelGrows.j1 kj5 false)) else (w_ModelGrows.j1 kj5 false)) else (if t291 = 0 then (some true) else (some (t303 != 0)))) else (if t291 = 0 then (some true) else (some (t303 != 0))))) else (none))) else (none))) else (none)))) else (none)) = some r := by first | (rw [hy307]; with_reducible exact H) | (have H2_ := (Option.bind_some _ _).symm.trans H; rw [hy307]; with_reducible exact H2_) | (have H2_ := (Option.bind_some _ _).symm.trans H; with_reducible exact H2_) | with_reducible exact H | (rw [hy307]; exact H) | exact H
    have Ny307 := am hy307
    clear hy307
    by_cases c18 : y307.length + l0.length < 1954687338268
    rotate_left
    ·rw [if_neg c18] at H
     exact absurd H (by simp)
    rw [if_pos c18] at H
    have LMc18 := am c18
    clear c18
    obtain ⟨y310, hy310⟩ : ∃ y_ : List (S68), y_ = (y307 ++ l0) := ⟨_, rfl⟩
    replace H : ((model_State.f kj5 y310 a2_0 a2_1 a2_2).bind fun bt313 => ((some (([] : List (S68)) : List (S68))).bind fun y315 => (if y315.length + l1.length < 1954687338268 then ((some (y315 ++ l1 : List (S68))).bind fun y318 => (if y318.length + l0.length < 1954687338268 then ((some (y318 ++ l0 : List (S68))).bind fun y321 => (if y321.length + l1.length < 1954687338268 then ((model_State.f kj5 (y321 ++ l1) a2_0 a2_1 a2_2).bind fun bt327 => (if t292 = 0 then (if t303 = 0 then (if bt313.2 = 0 then (if bt327.2 = 0 then ((w_above.f kj5 t302 t291).bind fun t329 => (if t329 = true then (if t302 = bt313.1 then (w_ModelGrows.j1 kj5 (t302 == bt327.1)) else (w_ModelGrows.j1 kj5 false)) else (w_ModelGrows.j1 kj5 false))) else (w_ModelGrows.j1 kj5 false)) else (w_ModelGrows.j1 kj5 false)) else (if t291 = 0 then (some true) else (some (t303 != 0)))) else (if t291 = 0 then (some true) else (some (t303 != 0))))) else (none))) else (none))) else (none)))) = some r := by first | (rw [hy310]; with_reducible exact H) | (have H2_ := (Option.bind_some _ _).symm.trans H; rw [hy310]; with_reducible exact H2_) | (have H2_ := (Option.bind_some _ _).symm.trans H; with_reducible exact H2_) | with_reducible exact H | (rw [hy310]; exact H) | exact H
    have Ny310 := am hy310
    clear hy310
    replace H := Option.bind_eq_some_iff.mp H
    obtain ⟨⟨t313, t314⟩, A190, H⟩ := H
    replace H : ((some (([] : List (S68)) : List (S68))).bind fun y315 => (if y315.length + l1.length < 1954687338268 then ((some (y315 ++ l1 : List (S68))).bind fun y318 => (if y318.length + l0.length < 1954687338268 then ((some (y318 ++ l0 : List (S68))).bind fun y321 => (if y321.length + l1.length < 1954687338268 then ((model_State.f kj5 (y321 ++ l1) a2_0 a2_1 a2_2).bind fun bt327 => (if t292 = 0 then (if t303 = 0 then (if t314 = 0 then (if bt327.2 = 0 then ((w_above.f kj5 t302 t291).bind fun t329 => (if t329 = true then (if t302 = t313 then (w_ModelGrows.j1 kj5 (t302 == bt327.1)) else (w_ModelGrows.j1 kj5 false)) else (w_ModelGrows.j1 kj5 false))) else (w_ModelGrows.j1 kj5 false)) else (w_ModelGrows.j1 kj5 false)) else (if t291 = 0 then (some true) else (some (t303 != 0)))) else (if t291 = 0 then (some true) else (some (t303 != 0))))) else (none))) else (none))) else (none))) = some r := H
    have A19 := am A190
    clear A190
    obtain ⟨y315, hy315⟩ : ∃ y_ : List (S68), y_ = (([] : List (S68))) := ⟨_, rfl⟩
    replace H : (if y315.length + l1.length < 1954687338268 then ((some (y315 ++ l1 : List (S68))).bind fun y318 => (if y318.length + l0.length < 1954687338268 then ((some (y318 ++ l0 : List (S68))).bind fun y321 => (if y321.length + l1.length < 1954687338268 then ((model_State.f kj5 (y321 ++ l1) a2_0 a2_1 a2_2).bind fun bt327 => (if t292 = 0 then (if t303 = 0 then (if t314 = 0 then (if bt327.2 = 0 then ((w_above.f kj5 t302 t291).bind fun t329 => (if t329 = true then (if t302 = t313 then (w_ModelGrows.j1 kj5 (t302 == bt327.1)) else (w_ModelGrows.j1 kj5 false)) else (w_ModelGrows.j1 kj5 false))) else (w_ModelGrows.j1 kj5 false)) else (w_ModelGrows.j1 kj5 false)) else (if t291 = 0 then (some true) else (some (t303 != 0)))) else (if t291 = 0 then (some true) else (some (t303 != 0))))) else (none))) else (none))) else (none)) = some r := by first | (rw [hy315]; with_reducible exact H) | (have H2_ := (Option.bind_some _ _).symm.trans H; rw [hy315]; with_reducible exact H2_) | (have H2_ := (Option.bind_some _ _).symm.trans H; with_reducible exact H2_) | with_reducible exact H | (rw [hy315]; exact H) | exact H
    have Ny315 := am hy315
    clear hy315
    by_cases c20 : y315.length + l1.length < 1954687338268
    rotate_left
    ·rw [if_neg c20] at H
     exact absurd H (by simp)
    rw [if_pos c20] at H
    have LMc20 := am c20
    clear c20
    obtain ⟨y318, hy318⟩ : ∃ y_ : List (S68), y_ = (y315 ++ l1) := ⟨_, rfl⟩
    replace H : (if y318.length + l0.length < 1954687338268 then ((some (y318 ++ l0 : List (S68))).bind fun y321 => (if y321.length + l1.length < 1954687338268 then ((model_State.f kj5 (y321 ++ l1) a2_0 a2_1 a2_2).bind fun bt327 => (if t292 = 0 then (if t303 = 0 then (if t314 = 0 then (if bt327.2 = 0 then ((w_above.f kj5 t302 t291).bind fun t329 => (if t329 = true then (if t302 = t313 then (w_ModelGrows.j1 kj5 (t302 == bt327.1)) else (w_ModelGrows.j1 kj5 false)) else (w_ModelGrows.j1 kj5 false))) else (w_ModelGrows.j1 kj5 false)) else (w_ModelGrows.j1 kj5 false)) else (if t291 = 0 then (some true) else (some (t303 != 0)))) else (if t291 = 0 then (some true) else (some (t303 != 0))))) else (none))) else (none)) = some r := by first | (rw [hy318]; with_reducible exact H) | (have H2_ := (Option.bind_some _ _).symm.trans H; rw [hy318]; with_reducible exact H2_) | (have H2_ := (Option.bind_some _ _).symm.trans H; with_reducible exact H2_) | with_reducible exact H | (rw [hy318]; exact H) | exact H
    have Ny318 := am hy318
    clear hy318
    by_cases c21 : y318.length + l0.length < 1954687338268
    rotate_left
    ·rw [if_neg c21] at H
     exact absurd H (by simp)
    rw [if_pos c21] at H
    have LMc21 := am c21
    clear c21
    obtain ⟨y321, hy321⟩ : ∃ y_ : List (S68), y_ = (y318 ++ l0) := ⟨_, rfl⟩
    replace H : (if y321.length + l1.length < 1954687338268 then ((model_State.f kj5 (y321 ++ l1) a2_0 a2_1 a2_2).bind fun bt327 => (if t292 = 0 then (if t303 = 0 then (if t314 = 0 then (if bt327.2 = 0 then ((w_above.f kj5 t302 t291).bind fun t329 => (if t329 = true then (if t302 = t313 then (w_ModelGrows.j1 kj5 (t302 == bt327.1)) else (w_ModelGrows.j1 kj5 false)) else (w_ModelGrows.j1 kj5 false))) else (w_ModelGrows.j1 kj5 false)) else (w_ModelGrows.j1 kj5 false)) else (if t291 = 0 then (some true) else (some (t303 != 0)))) else (if t291 = 0 then (some true) else (some (t303 != 0))))) else (none)) = some r := by first | (rw [hy321]; with_reducible exact H) | (have H2_ := (Option.bind_some _ _).symm.trans H; rw [hy321]; with_reducible exact H2_) | (have H2_ := (Option.bind_some _ _).symm.trans H; with_reducible exact H2_) | with_reducible exact H | (rw [hy321]; exact H) | exact H
    have Ny321 := am hy321
    clear hy321
    by_cases c22 : y321.length + l1.length < 1954687338268
    rotate_left
    ·rw [if_neg c22] at H
     exact absurd H (by simp)
    rw [if_pos c22] at H
    have LMc22 := am c22
    clear c22
    obtain ⟨y324, hy324⟩ : ∃ y_ : List (S68), y_ = (y321 ++ l1) := ⟨_, rfl⟩
    replace H : ((model_State.f kj5 y324 a2_0 a2_1 a2_2).bind fun bt327 => (if t292 = 0 then (if t303 = 0 then (if t314 = 0 then (if bt327.2 = 0 then ((w_above.f kj5 t302 t291).bind fun t329 => (if t329 = true then (if t302 = t313 then (w_ModelGrows.j1 kj5 (t302 == bt327.1)) else (w_ModelGrows.j1 kj5 false)) else (w_ModelGrows.j1 kj5 false))) else (w_ModelGrows.j1 kj5 false)) else (w_ModelGrows.j1 kj5 false)) else (if t291 = 0 then (some true) else (some (t303 != 0)))) else (if t291 = 0 then (some true) else (some (t303 != 0))))) = some r := by first | (rw [hy324]; with_reducible exact H) | (have H2_ := (Option.bind_some _ _).symm.trans H; rw [hy324]; with_reducible exact H2_) | (have H2_ := (Option.bind_some _ _).symm.trans H; with_reducible exact H2_) | with_reducible exact H | (rw [hy324]; exact H) | exact H
    have Ny324 := am hy324
    clear hy324
    replace H := Option.bind_eq_some_iff.mp H
    obtain ⟨⟨t327, t328⟩, A230, H⟩ := H
    replace H : (if t292 = 0 then (if t303 = 0 then (if t314 = 0 then (if t328 = 0 then ((w_above.f kj5 t302 t291).bind fun t329 => (if t329 = true then (if t302 = t313 then (w_ModelGrows.j1 kj5 (t302 == t327)) else (w_ModelGrows.j1 kj5 false)) else (w_ModelGrows.j1 kj5 false))) else (w_ModelGrows.j1 kj5 false)) else (w_ModelGrows.j1 kj5 false)) else (if t291 = 0 then (some true) else (some (t303 != 0)))) else (if t291 = 0 then (some true) else (some (t303 != 0)))) = some r := H
    have A23 := am A230
    clear A230
    by_cases c24 : t292 = 0
    rotate_left
    ·rw [if_neg c24] at H
     have c24b0 : (t292 == 0) = false := beq_eq_false_iff_ne.mpr c24
     have c24b1 : (t292 != 0) = true := bne_iff_ne.mpr c24
     by_cases c105 : t291 = 0
     ·rw [if_pos c105] at H
      have c105b0 : (t291 == 0) = true := beq_iff_eq.mpr c105
      have c105b1 : (t291 != 0) = false := bne_eq_false_iff_eq.mpr c105
      clear c105
      obtain rfl := Option.some.inj H
      have := yC1 BK287
      have := kC1 BK287
      have := kC2 BK287
      have := bf BK287.out 0
      have := bf BK287.out 1
      have := bf BK287.out 2
      try go_wp2_with (first | ((with_reducible refine gc (f := 13) rfl ?_); refine goesL_ (some 28) rfl rfl Try.func13 (by kernel_rfl) rfl #[.slice A0 l0.length c0, .agg #[.int .i64 a2_0, .int .i64 a2_1, .int .i64 a2_2]] rfl (by (try simp only [pml]); first | done | rfl | (simp only [pdt]; rfl)) ?_; (with_reducible refine (model_State.calls kj5 _ _ l0 a2_0 a2_1 a2_2 t291 t292 _ ?side1 ?side2 A13.out).mono ?_); (case side1 => repeat (first | exact (Kd.C_below HR0.out HB.out) | (with_reducible refine Kd.C_alloc ?_ _) | (with_reducible refine Kd.C_drewN ?_ _) | (with_reducible refine Kd.C_drew ?_))); (case side2 => exact HC0.out); rintro e w107 ⟨rfl, hb⟩; refine ⟨_, rfl, ?_⟩; replace BK287 := bB BK287 hb; replace HB := bS HB hb; (try clear hb); (try clear hb2); (try clear hk); (try clear hi)))
      have n0_ := am (bd BK287.out)
      have n1_ := am (wd HB.out)
      clear BK287 HB
      have BK287 := n0_
      have HB := n1_
      clear n0_ n1_
      refine start_ (n := 12) (S := fun w' => w'.cell? ⟨gb287, 0, none⟩ = some (.int .i64 a2_0) ∧ w'.cell? ⟨gb287, 1, none⟩ = some (.int .i64 a2_1) ∧ w'.cell? ⟨gb287, 2, none⟩ = some (.int .i64 a2_2)) (ds := []) #[F,F,F,F,F,F,F,F,F,F,F,F] (by kernel_rfl) rfl rfl ⟨(bc BK287.out 0).trans rfl, (bc BK287.out 1).trans rfl, (bc BK287.out 2).trans rfl⟩ (fun hHeld => ?_); refine with_tabW w_ModelGrows.tab6 w_ModelGrows.bits6 (fun HT_ HW_ => ?_)
      generalize w107.drew = w108 at BK287 HB hHeld ⊢
      refine pu (i := 1) (N := some 33) (fl 12 0 [1]) HT_ ?_
      refine pu (i := 3) (N := some 35) (fl 12 0 [1, 3]) HT_ ?_
      refine tk (i := 5) (N := some 37) (fl 12 0 [1, 3, 5]) HT_ HW_ hHeld ?_
      refine one_ (i := 0) (N := some 32) (fl 12 2 [3, 5]) rfl rfl (one_of HT_.out (by kernel_rfl)) (by decide) (fun K hK => ?_)
      refine Kd.R_lit_step k68 _ 68 ?hg (N := 32) ?hd (xs := ([] : List (S68))) (inner := []) (ok := fun _ => True) (okp := fun _ => True) ?hr ?hp (fun _ hk => hk) trivial (Below.refl _ _) (Nat.le_refl _) (by simp) ?_; (case hd | hg => rfl); (case hr => first | (go_simp; done) | (go_simp; rfl)); (case hp => exact (Reps.none _ _))
      intro v294 w109 ho110 hb hg_ hnew_
      clear hg_ hnew_
      (first | rw [← Ny293.out] at ho110 | (simp only [Int.reduceToNat] at ho110; rw [← Ny293.out] at ho110))
      have n0_ := am (Kd.R_lower ho110 (wz (fW HB.out)))
      have n1_ := bB BK287 hb
      have n2_ := bS HB hb
      clear BK287 HB
      have HO295 := n0_
      have BK287 := n1_
      have HB := n2_
      clear n0_ n1_ n2_ hb ho110
      refine hK.out _ _ ⟨(bc BK287.out 0).trans rfl, (bc BK287.out 1).trans rfl, (bc BK287.out 2).trans rfl⟩ (fun hHeld => ?_)
      clear hK K
      refine norm_ (a' := ?_) ?_ ?_
      rotate_left
      ·show Act.put _ (some 32) _ = _
       simp only [Act.put, psl, i64_w, i32_w]
       rfl
      refine one_ (i := 2) (N := some 34) (fl 12 4 [5]) rfl rfl (one_of HT_.out (by kernel_rfl)) (by decide) (fun K hK => ?_)
      refine Kd.R_append_rows_step k68 (w0 := w) w.heap.size (by rfl) (.tmp 32) (.tmp 33) 22 68 (.agg #[(.string ⟨#[]⟩), (.int .i64 0), (.int .i64 0), (.int .i64 0), (.int .i64 0), (.int .i64 0), (.int .i64 0), (.int .i64 0)]) 72 rfl Try.underlying22 info68 rfl (by decide) (by omega) v294 y293 l0 _ _ _ (fun _ => True) (fun _ => False) rfl rfl ?aO ?aR (fun _ _ h => h) (fun _ h => h.elim) ?aF ?aB ?aS ?aL ?_
      (case aR => repeat (first | exact (Kd.C_below HR0.out HB.out) | (with_reducible refine Kd.C_alloc ?_ _) | (with_reducible refine Kd.C_drewN ?_ _) | (with_reducible refine Kd.C_drew ?_)))
      (case aB => exact (fW HB.out))
      (case aF => exact (fun _ _ => trivial))
      (case aO => exact (fR HO295.out))
      (case aS => exact (wz (fW HB.out)))
      (case aL => have := LMc14.out; omega)
      intro v297 w111 ho hb hg hat
      rw [← Ny296.out] at ho
      have n0_ := am (blk_grown (g := gb287) (o := .cells #[.int .i64 a2_0, .int .i64 a2_1, .int .i64 a2_2] 24 (0, 0)) (fb BK287.out) hg (Kd.R_ne HO295.out BK287.out (by decide)))
      have n1_ := am (hb)
      have n2_ := am (ho)
      clear BK287 HB HO295
      have BK287 := n0_
      have HB := n1_
      have HO298 := n2_
      clear n0_ n1_ n2_ ho hb hg hat
      refine hK.out _ _ ⟨(bc BK287.out 0).trans rfl, (bc BK287.out 1).trans rfl, (bc BK287.out 2).trans rfl⟩ (fun hHeld => ?_)
      clear hK K
      refine norm_ (a' := ?_) ?_ ?_
      rotate_left
      ·show Act.put _ (some 34) _ = _
       simp only [Act.put, psl, i64_w, i32_w]
       rfl
      refine one_ (i := 4) (N := some 36) (fl 12 6 []) rfl rfl (one_of HT_.out (by kernel_rfl)) (by decide) (fun K hK => ?_)
      refine Kd.R_append_rows_step k68 (w0 := w) w.heap.size (by rfl) (.tmp 34) (.tmp 35) 22 68 (.agg #[(.string ⟨#[]⟩), (.int .i64 0), (.int .i64 0), (.int .i64 0), (.int .i64 0), (.int .i64 0), (.int .i64 0), (.int .i64 0)]) 72 rfl Try.underlying22 info68 rfl (by decide) (by omega) v297 y296 l1 _ _ _ (fun _ => True) (fun _ => False) rfl rfl ?aO ?aR (fun _ _ h => h) (fun _ h => h.elim) ?aF ?aB ?aS ?aL ?_
      (case aR => repeat (first | exact (Kd.C_below HR1.out HB.out) | (with_reducible refine Kd.C_alloc ?_ _) | (with_reducible refine Kd.C_drewN ?_ _) | (with_reducible refine Kd.C_drew ?_)))
      (case aB => exact (fW HB.out))
      (case aF => exact (fun _ _ => trivial))
      (case aO => exact (fR HO298.out))
      (case aS => exact (wz (fW HB.out)))
      (case aL => have := LMc15.out; omega)
      intro v300 w112 ho hb hg hat
      rw [← Ny299.out] at ho
      have n0_ := am (blk_grown (g := gb287) (o := .cells #[.int .i64 a2_0, .int .i64 a2_1, .int .i64 a2_2] 24 (0, 0)) (fb BK287.out) hg (Kd.R_ne HO298.out BK287.out (by decide)))
      have n1_ := am (hb)
      have n2_ := am (ho)
      clear BK287 HB HO298
      have BK287 := n0_
      have HB := n1_
      have HO301 := n2_
      clear n0_ n1_ n2_ ho hb hg hat
      obtain ⟨Ao113, co113, eo113⟩ := Kd.R_slice HO301.out
      (first | subst eo113 | (injection eo113 with f1_ f2_ f3_; have f4_ := f1_.symm; have f5_ := f3_.symm; clear f1_ f2_ f3_; subst f4_; subst f5_))
      refine hK.out _ _ ⟨(bc BK287.out 0).trans rfl, (bc BK287.out 1).trans rfl, (bc BK287.out 2).trans rfl⟩ (fun hHeld => ?_)
      clear hK K
      refine norm_ (a' := ?_) ?_ ?_
      rotate_left
      ·show Act.put _ (some 36) _ = _
       simp only [Act.put, psl, i64_w, i32_w]
       rfl
      refine one_ (i := 6) (N := some 38) (fl 12 7 []) rfl rfl (one_of HT_.out (by kernel_rfl)) (by decide) (fun K hK => ?_)
      refine goes_ Try.func13 (by kernel_rfl) rfl #[.slice Ao113 y299.length co113, .agg #[.int .i64 a2_0, .int .i64 a2_1, .int .i64 a2_2]] (by rfl) rfl rfl (by (try simp only [pml]); first | done | rfl | (simp only [pdt]; rfl)) ?_
      with_reducible refine (model_State.calls kj5 _ _ y299 a2_0 a2_1 a2_2 t302 t303 _ ?side1 ?side2 A16.out).mono ?_
      (case side1 => repeat (first | exact (Kd.R_reads' HO301.out).2.2 | (with_reducible refine Kd.C_alloc ?_ _) | (with_reducible refine Kd.C_drewN ?_ _) | (with_reducible refine Kd.C_drew ?_)))
      (case side2 => exact (Kd.R_reads' HO301.out).2.1)
      rintro e w114 ⟨rfl, hb⟩
      refine ⟨_, rfl, ?_⟩
      have n0_ := dR HO301 hb
      have n1_ := bB BK287 hb
      have n2_ := bS HB hb
      clear HO301 BK287 HB
      have HO301 := n0_
      have BK287 := n1_
      have HB := n2_
      clear n0_ n1_ n2_
      (try clear hb)
      (try clear hb2)
      (try clear hk)
      (try clear hi)
      refine hK.out _ _ ⟨(bc BK287.out 0).trans rfl, (bc BK287.out 1).trans rfl, (bc BK287.out 2).trans rfl⟩ (fun hHeld => ?_)
      clear hK K
      refine norm_ (a' := ?_) ?_ ?_
      rotate_left
      ·show Act.put _ (some 38) _ = _
       simp only [Act.put, psl, i64_w, i32_w]
       rfl
      refine pu (i := 7) (N := some 31) (fl 12 8 []) HT_ ?_
      refine pu (i := 8) (N := some 39) (fl 12 9 []) HT_ ?_
      refine pu (i := 9) (N := some 40) (fl 12 10 []) HT_ ?_
      refine pu (i := 10) (N := some 9) (fl 12 11 []) HT_ ?_
      refine pu (i := 11) (N := some 10) (fl 12 12 []) HT_ ?_
      refine done_ (done_of HT_.out (by kernel_rfl)) ?_
      try go_wp2
      have n0_ := am (Kd.R_drew HO301.out)
      have n1_ := am (bd BK287.out)
      have n2_ := am (wd HB.out)
      clear HO301 BK287 HB
      have HO301 := n0_
      have BK287 := n1_
      have HB := n2_
      clear n0_ n1_ n2_
      refine start_ (n := 12) (S := fun w' => w'.cell? ⟨gb287, 0, none⟩ = some (.int .i64 a2_0) ∧ w'.cell? ⟨gb287, 1, none⟩ = some (.int .i64 a2_1) ∧ w'.cell? ⟨gb287, 2, none⟩ = some (.int .i64 a2_2)) (ds := []) #[F,F,F,F,F,F,F,F,F,F,F,F] (by kernel_rfl) rfl rfl ⟨(bc BK287.out 0).trans rfl, (bc BK287.out 1).trans rfl, (bc BK287.out 2).trans rfl⟩ (fun hHeld => ?_); refine with_tabW w_ModelGrows.tab7 w_ModelGrows.bits7 (fun HT_ HW_ => ?_)
      generalize w114.drew = w115 at HO301 BK287 HB hHeld ⊢
      refine pu (i := 1) (N := some 43) (fl 12 0 [1]) HT_ ?_
      refine pu (i := 3) (N := some 45) (fl 12 0 [1, 3]) HT_ ?_
      refine tk (i := 5) (N := some 47) (fl 12 0 [1, 3, 5]) HT_ HW_ hHeld ?_
      refine one_ (i := 0) (N := some 42) (fl 12 2 [3, 5]) rfl rfl (one_of HT_.out (by kernel_rfl)) (by decide) (fun K hK => ?_)
      refine Kd.R_lit_step k68 _ 68 ?hg (N := 42) ?hd (xs := ([] : List (S68))) (inner := []) (ok := fun _ => True) (okp := fun _ => True) ?hr ?hp (fun _ hk => hk) trivial (Below.refl _ _) (Nat.le_refl _) (by simp) ?_; (case hd | hg => rfl); (case hr => first | (go_simp; done) | (go_simp; rfl)); (case hp => exact (Reps.none _ _))
      intro v305 w116 ho117 hb hg_ hnew_
      clear hg_ hnew_
      (first | rw [← Ny304.out] at ho117 | (simp only [Int.reduceToNat] at ho117; rw [← Ny304.out] at ho117))
      have n0_ := am (Kd.R_elder' (fR HO301.out) (Kd.R_base ho117) hb)
      have n1_ := am (Kd.R_lower (Kd.R_new' ho117 (Kd.R_lt (fR HO301.out))) (wz (fW HB.out)))
      have n2_ := bB BK287 hb
      have n3_ := bS HB hb
      clear HO301 BK287 HB
      have HO301 := n0_
      have HO306 := n1_
      have BK287 := n2_
      have HB := n3_
      clear n0_ n1_ n2_ n3_ hb ho117
      refine hK.out _ _ ⟨(bc BK287.out 0).trans rfl, (bc BK287.out 1).trans rfl, (bc BK287.out 2).trans rfl⟩ (fun hHeld => ?_)
      clear hK K
      refine norm_ (a' := ?_) ?_ ?_
      rotate_left
      ·show Act.put _ (some 42) _ = _
       simp only [Act.put, psl, i64_w, i32_w]
       rfl
      refine one_ (i := 2) (N := some 44) (fl 12 4 [5]) rfl rfl (one_of HT_.out (by kernel_rfl)) (by decide) (fun K hK => ?_)
      refine Kd.R_append_rows_step k68 (w0 := w) w.heap.size (by rfl) (.tmp 42) (.tmp 43) 22 68 (.agg #[(.string ⟨#[]⟩), (.int .i64 0), (.int .i64 0), (.int .i64 0), (.int .i64 0), (.int .i64 0), (.int .i64 0), (.int .i64 0)]) 72 rfl Try.underlying22 info68 rfl (by decide) (by omega) v305 y304 l1 _ _ _ (fun k_ => some k_ ≠ (.slice Ao113 y299.length co113 : Value).ownBlock) (fun _ => False) rfl rfl ?aO ?aR (fun _ _ h => h) (fun _ h => h.elim) ?aF ?aB ?aS ?aL ?_
      (case aR => repeat (first | exact (Kd.C_below HR1.out HB.out) | (with_reducible refine Kd.C_alloc ?_ _) | (with_reducible refine Kd.C_drewN ?_ _) | (with_reducible refine Kd.C_drew ?_)))
      (case aB => exact (fW HB.out))
      (case aF => exact (fun k_ hk => Kd.fresh' (Kd.R_lt (fR HO301.out)) k_ hk))
      (case aO => exact (by (with_reducible repeat (first | apply Kd.R_alloc | apply Kd.R_drewN | apply Kd.R_drew)); exact Kd.R_mono HO306.out (fun _ hk => hk.2)))
      (case aS => exact (wz (fW HB.out)))
      (case aL => have := LMc17.out; omega)
      intro v308 w118 ho hb hg hat
      rw [← Ny307.out] at ho
      have n0_ := am (blk_grown (g := gb287) (o := .cells #[.int .i64 a2_0, .int .i64 a2_1, .int .i64 a2_2] 24 (0, 0)) (fb BK287.out) hg (Kd.R_ne HO306.out BK287.out (by decide)))
      have n1_ := am (Kd.R_after (ok := (fun _ => True)) (fR HO301.out) hg hat)
      have n2_ := am (hb)
      have n3_ := am (ho)
      clear BK287 HO301 HB HO306
      have BK287 := n0_
      have HO301 := n1_
      have HB := n2_
      have HO309 := n3_
      clear n0_ n1_ n2_ n3_ ho hb hg hat
      refine hK.out _ _ ⟨(bc BK287.out 0).trans rfl, (bc BK287.out 1).trans rfl, (bc BK287.out 2).trans rfl⟩ (fun hHeld => ?_)
      clear hK K
      refine norm_ (a' := ?_) ?_ ?_
      rotate_left
      ·show Act.put _ (some 44) _ = _
       simp only [Act.put, psl, i64_w, i32_w]
       rfl
      refine one_ (i := 4) (N := some 46) (fl 12 6 []) rfl rfl (one_of HT_.out (by kernel_rfl)) (by decide) (fun K hK => ?_)
      refine Kd.R_append_rows_step k68 (w0 := w) w.heap.size (by rfl) (.tmp 44) (.tmp 45) 22 68 (.agg #[(.string ⟨#[]⟩), (.int .i64 0), (.int .i64 0), (.int .i64 0), (.int .i64 0), (.int .i64 0), (.int .i64 0), (.int .i64 0)]) 72 rfl Try.underlying22 info68 rfl (by decide) (by omega) v308 y307 l0 _ _ _ (fun k_ => some k_ ≠ (.slice Ao113 y299.length co113 : Value).ownBlock) (fun _ => False) rfl rfl ?aO ?aR (fun _ _ h => h) (fun _ h => h.elim) ?aF ?aB ?aS ?aL ?_
      (case aR => repeat (first | exact (Kd.C_below HR0.out HB.out) | (with_reducible refine Kd.C_alloc ?_ _) | (with_reducible refine Kd.C_drewN ?_ _) | (with_reducible refine Kd.C_drew ?_)))
      (case aB => exact (fW HB.out))
      (case aF => exact (fun k_ hk => Kd.fresh' (Kd.R_lt (fR HO301.out)) k_ hk))
      (case aO => exact (fR HO309.out))
      (case aS => exact (wz (fW HB.out)))
      (case aL => have := LMc18.out; omega)
      intro v311 w119 ho hb hg hat
      rw [← Ny310.out] at ho
      have n0_ := am (blk_grown (g := gb287) (o := .cells #[.int .i64 a2_0, .int .i64 a2_1, .int .i64 a2_2] 24 (0, 0)) (fb BK287.out) hg (Kd.R_ne HO309.out BK287.out (by decide)))
      have n1_ := am (Kd.R_after (ok := (fun _ => True)) (fR HO301.out) hg hat)
      have n2_ := am (hb)
      have n3_ := am (ho)
      clear BK287 HO301 HB HO309
      have BK287 := n0_
      have HO301 := n1_
      have HB := n2_
      have HO312 := n3_
      clear n0_ n1_ n2_ n3_ ho hb hg hat
      obtain ⟨Ao120, co120, eo120⟩ := Kd.R_slice HO312.out
      (first | subst eo120 | (injection eo120 with f1_ f2_ f3_; have f4_ := f1_.symm; have f5_ := f3_.symm; clear f1_ f2_ f3_; subst f4_; subst f5_))
      refine hK.out _ _ ⟨(bc BK287.out 0).trans rfl, (bc BK287.out 1).trans rfl, (bc BK287.out 2).trans rfl⟩ (fun hHeld => ?_)
      clear hK K
      refine norm_ (a' := ?_) ?_ ?_
      rotate_left
      ·show Act.put _ (some 46) _ = _
       simp only [Act.put, psl, i64_w, i32_w]
       rfl
      refine one_ (i := 6) (N := some 48) (fl 12 7 []) rfl rfl (one_of HT_.out (by kernel_rfl)) (by decide) (fun K hK => ?_)
      refine goes_ Try.func13 (by kernel_rfl) rfl #[.slice Ao120 y310.length co120, .agg #[.int .i64 a2_0, .int .i64 a2_1, .int .i64 a2_2]] (by rfl) rfl rfl (by (try simp only [pml]); first | done | rfl | (simp only [pdt]; rfl)) ?_
      with_reducible refine (model_State.calls kj5 _ _ y310 a2_0 a2_1 a2_2 t313 t314 _ ?side1 ?side2 A19.out).mono ?_
      (case side1 => repeat (first | exact (Kd.R_reads' HO312.out).2.2 | (with_reducible refine Kd.C_alloc ?_ _) | (with_reducible refine Kd.C_drewN ?_ _) | (with_reducible refine Kd.C_drew ?_)))
      (case side2 => exact (Kd.R_reads' HO312.out).2.1)
      rintro e w121 ⟨rfl, hb⟩
      refine ⟨_, rfl, ?_⟩
      have n0_ := dR HO301 hb
      have n1_ := dR HO312 hb
      have n2_ := bB BK287 hb
      have n3_ := bS HB hb
      clear HO301 HO312 BK287 HB
      have HO301 := n0_
      have HO312 := n1_
      have BK287 := n2_
      have HB := n3_
      clear n0_ n1_ n2_ n3_
      (try clear hb)
      (try clear hb2)
      (try clear hk)
      (try clear hi)
      refine hK.out _ _ ⟨(bc BK287.out 0).trans rfl, (bc BK287.out 1).trans rfl, (bc BK287.out 2).trans rfl⟩ (fun hHeld => ?_)
      clear hK K
      refine norm_ (a' := ?_) ?_ ?_
      rotate_left
      ·show Act.put _ (some 48) _ = _
       simp only [Act.put, psl, i64_w, i32_w]
       rfl
      refine pu (i := 7) (N := some 41) (fl 12 8 []) HT_ ?_
      refine pu (i := 8) (N := some 49) (fl 12 9 []) HT_ ?_
      refine pu (i := 9) (N := some 50) (fl 12 10 []) HT_ ?_
      refine pu (i := 10) (N := some 11) (fl 12 11 []) HT_ ?_
      refine pu (i := 11) (N := some 12) (fl 12 12 []) HT_ ?_
      refine done_ (done_of HT_.out (by kernel_rfl)) ?_
      try go_wp2
      have n0_ := am (Kd.R_drew HO301.out)
      have n1_ := am (Kd.R_drew HO312.out)
      have n2_ := am (bd BK287.out)
      have n3_ := am (wd HB.out)
      clear HO301 HO312 BK287 HB
      have HO301 := n0_
      have HO312 := n1_
      have BK287 := n2_
      have HB := n3_
      clear n0_ n1_ n2_ n3_
      refine start_ (n := 14) (S := fun w' => w'.cell? ⟨gb287, 0, none⟩ = some (.int .i64 a2_0) ∧ w'.cell? ⟨gb287, 1, none⟩ = some (.int .i64 a2_1) ∧ w'.cell? ⟨gb287, 2, none⟩ = some (.int .i64 a2_2)) (ds := []) #[F,F,F,F,F,F,F,F,F,F,F,F,F,F] (by kernel_rfl) rfl rfl ⟨(bc BK287.out 0).trans rfl, (bc BK287.out 1).trans rfl, (bc BK287.out 2).trans rfl⟩ (fun hHeld => ?_); refine with_tabW w_ModelGrows.tab8 w_ModelGrows.bits8 (fun HT_ HW_ => ?_)
      generalize w121.drew = w122 at HO301 HO312 BK287 HB hHeld ⊢
      refine pu (i := 1) (N := some 53) (fl 14 0 [1]) HT_ ?_
      refine pu (i := 3) (N := some 55) (fl 14 0 [1, 3]) HT_ ?_
      refine pu (i := 5) (N := some 57) (fl 14 0 [1, 3, 5]) HT_ ?_
      refine tk (i := 7) (N := some 59) (fl 14 0 [1, 3, 5, 7]) HT_ HW_ hHeld ?_
      refine one_ (i := 0) (N := some 52) (fl 14 2 [3, 5, 7]) rfl rfl (one_of HT_.out (by kernel_rfl)) (by decide) (fun K hK => ?_)
      refine Kd.R_lit_step k68 _ 68 ?hg (N := 52) ?hd (xs := ([] : List (S68))) (inner := []) (ok := fun _ => True) (okp := fun _ => True) ?hr ?hp (fun _ hk => hk) trivial (Below.refl _ _) (Nat.le_refl _) (by simp) ?_; (case hd | hg => rfl); (case hr => first | (go_simp; done) | (go_simp; rfl)); (case hp => exact (Reps.none _ _))
      intro v316 w123 ho124 hb hg_ hnew_
      clear hg_ hnew_
      (first | rw [← Ny315.out] at ho124 | (simp only [Int.reduceToNat] at ho124; rw [← Ny315.out] at ho124))
      have n0_ := am (Kd.R_elder' (fR HO301.out) (Kd.R_base ho124) hb)
      have n1_ := am (Kd.R_elder' (fR HO312.out) (Kd.R_base ho124) hb)
      have n2_ := am (Kd.R_lower (Kd.R_new' (Kd.R_new' ho124 (Kd.R_lt (fR HO301.out))) (Kd.R_lt (fR HO312.out))) (wz (fW HB.out)))
      have n3_ := bB BK287 hb
      have n4_ := bS HB hb
      clear HO301 HO312 BK287 HB
      have HO301 := n0_
      have HO312 := n1_
      have HO317 := n2_
      have BK287 := n3_
      have HB := n4_
      clear n0_ n1_ n2_ n3_ n4_ hb ho124
      refine hK.out _ _ ⟨(bc BK287.out 0).trans rfl, (bc BK287.out 1).trans rfl, (bc BK287.out 2).trans rfl⟩ (fun hHeld => ?_)
      clear hK K
      refine norm_ (a' := ?_) ?_ ?_
      rotate_left
      ·show Act.put _ (some 52) _ = _
       simp only [Act.put, psl, i64_w, i32_w]
       rfl
      refine one_ (i := 2) (N := some 54) (fl 14 4 [5, 7]) rfl rfl (one_of HT_.out (by kernel_rfl)) (by decide) (fun K hK => ?_)
      refine Kd.R_append_rows_step k68 (w0 := w) w.heap.size (by rfl) (.tmp 52) (.tmp 53) 22 68 (.agg #[(.string ⟨#[]⟩), (.int .i64 0), (.int .i64 0), (.int .i64 0), (.int .i64 0), (.int .i64 0), (.int .i64 0), (.int .i64 0)]) 72 rfl Try.underlying22 info68 rfl (by decide) (by omega) v316 y315 l1 _ _ _ (fun k_ => some k_ ≠ (.slice Ao113 y299.length co113 : Value).ownBlock ∧ some k_ ≠ (.slice Ao120 y310.length co120 : Value).ownBlock) (fun _ => False) rfl rfl ?aO ?aR (fun _ _ h => h) (fun _ h => h.elim) ?aF ?aB ?aS ?aL ?_
      (case aR => repeat (first | exact (Kd.C_below HR1.out HB.out) | (with_reducible refine Kd.C_alloc ?_ _) | (with_reducible refine Kd.C_drewN ?_ _) | (with_reducible refine Kd.C_drew ?_)))
      (case aB => exact (fW HB.out))
      (case aF => exact (fun k_ hk => ⟨Kd.fresh' (Kd.R_lt (fR HO301.out)) k_ hk, Kd.fresh' (Kd.R_lt (fR HO312.out)) k_ hk⟩))
      (case aO => exact (by (with_reducible repeat (first | apply Kd.R_alloc | apply Kd.R_drewN | apply Kd.R_drew)); exact Kd.R_mono HO317.out (fun _ hk => ⟨hk.1.2, hk.2⟩)))
      (case aS => exact (wz (fW HB.out)))
      (case aL => have := LMc20.out; omega)
      intro v319 w125 ho hb hg hat
      rw [← Ny318.out] at ho
      have n0_ := am (blk_grown (g := gb287) (o := .cells #[.int .i64 a2_0, .int .i64 a2_1, .int .i64 a2_2] 24 (0, 0)) (fb BK287.out) hg (Kd.R_ne HO317.out BK287.out (by decide)))
      have n1_ := am (Kd.R_after (ok := (fun k_ => some k_ ≠ (.slice Ao120 y310.length co120 : Value).ownBlock)) (by (with_reducible repeat (first | apply Kd.R_alloc | apply Kd.R_drewN | apply Kd.R_drew)); exact Kd.R_mono HO301.out (fun _ hk => ⟨hk.1.2, hk.2⟩)) hg hat)
      have n2_ := am (Kd.R_after (ok := (fun k_ => some k_ ≠ (.slice Ao113 y299.length co113 : Value).ownBlock)) (fR HO312.out) hg hat)
      have n3_ := am (hb)
      have n4_ := am (ho)
      clear BK287 HO301 HO312 HB HO317
      have BK287 := n0_
      have HO301 := n1_
      have HO312 := n2_
      have HB := n3_
      have HO320 := n4_
      clear n0_ n1_ n2_ n3_ n4_ ho hb hg hat
      refine hK.out _ _ ⟨(bc BK287.out 0).trans rfl, (bc BK287.out 1).trans rfl, (bc BK287.out 2).trans rfl⟩ (fun hHeld => ?_)
      clear hK K
      refine norm_ (a' := ?_) ?_ ?_
      rotate_left
      ·show Act.put _ (some 54) _ = _
       simp only [Act.put, psl, i64_w, i32_w]
       rfl
      refine one_ (i := 4) (N := some 56) (fl 14 6 [7]) rfl rfl (one_of HT_.out (by kernel_rfl)) (by decide) (fun K hK => ?_)
      refine Kd.R_append_rows_step k68 (w0 := w) w.heap.size (by rfl) (.tmp 54) (.tmp 55) 22 68 (.agg #[(.string ⟨#[]⟩), (.int .i64 0), (.int .i64 0), (.int .i64 0), (.int .i64 0), (.int .i64 0), (.int .i64 0), (.int .i64 0)]) 72 rfl Try.underlying22 info68 rfl (by decide) (by omega) v319 y318 l0 _ _ _ (fun k_ => some k_ ≠ (.slice Ao113 y299.length co113 : Value).ownBlock ∧ some k_ ≠ (.slice Ao120 y310.length co120 : Value).ownBlock) (fun _ => False) rfl rfl ?aO ?aR (fun _ _ h => h) (fun _ h => h.elim) ?aF ?aB ?aS ?aL ?_
      (case aR => repeat (first | exact (Kd.C_below HR0.out HB.out) | (with_reducible refine Kd.C_alloc ?_ _) | (with_reducible refine Kd.C_drewN ?_ _) | (with_reducible refine Kd.C_drew ?_)))
      (case aB => exact (fW HB.out))
      (case aF => exact (fun k_ hk => ⟨Kd.fresh' (Kd.R_lt (fR HO301.out)) k_ hk, Kd.fresh' (Kd.R_lt (fR HO312.out)) k_ hk⟩))
      (case aO => exact (fR HO320.out))
      (case aS => exact (wz (fW HB.out)))
      (case aL => have := LMc21.out; omega)
      intro v322 w126 ho hb hg hat
      rw [← Ny321.out] at ho
      have n0_ := am (blk_grown (g := gb287) (o := .cells #[.int .i64 a2_0, .int .i64 a2_1, .int .i64 a2_2] 24 (0, 0)) (fb BK287.out) hg (Kd.R_ne HO320.out BK287.out (by decide)))
      have n1_ := am (Kd.R_after (ok := (fun k_ => some k_ ≠ (.slice Ao120 y310.length co120 : Value).ownBlock)) (fR HO301.out) hg hat)
      have n2_ := am (Kd.R_after (ok := (fun k_ => some k_ ≠ (.slice Ao113 y299.length co113 : Value).ownBlock)) (fR HO312.out) hg hat)
      have n3_ := am (hb)
      have n4_ := am (ho)
      clear BK287 HO301 HO312 HB HO320
      have BK287 := n0_
      have HO301 := n1_
      have HO312 := n2_
      have HB := n3_
      have HO323 := n4_
      clear n0_ n1_ n2_ n3_ n4_ ho hb hg hat
      refine hK.out _ _ ⟨(bc BK287.out 0).trans rfl, (bc BK287.out 1).trans rfl, (bc BK287.out 2).trans rfl⟩ (fun hHeld => ?_)
      clear hK K
      refine norm_ (a' := ?_) ?_ ?_
      rotate_left
      ·show Act.put _ (some 56) _ = _
       simp only [Act.put, psl, i64_w, i32_w]
       rfl
      refine one_ (i := 6) (N := some 58) (fl 14 8 []) rfl rfl (one_of HT_.out (by kernel_rfl)) (by decide) (fun K hK => ?_)
      refine Kd.R_append_rows_step k68 (w0 := w) w.heap.size (by rfl) (.tmp 56) (.tmp 57) 22 68 (.agg #[(.string ⟨#[]⟩), (.int .i64 0), (.int .i64 0), (.int .i64 0), (.int .i64 0), (.int .i64 0), (.int .i64 0), (.int .i64 0)]) 72 rfl Try.underlying22 info68 rfl (by decide) (by omega) v322 y321 l1 _ _ _ (fun k_ => some k_ ≠ (.slice Ao113 y299.length co113 : Value).ownBlock ∧ some k_ ≠ (.slice Ao120 y310.length co120 : Value).ownBlock) (fun _ => False) rfl rfl ?aO ?aR (fun _ _ h => h) (fun _ h => h.elim) ?aF ?aB ?aS ?aL ?_
      (case aR => repeat (first | exact (Kd.C_below HR1.out HB.out) | (with_reducible refine Kd.C_alloc ?_ _) | (with_reducible refine Kd.C_drewN ?_ _) | (with_reducible refine Kd.C_drew ?_)))
      (case aB => exact (fW HB.out))
      (case aF => exact (fun k_ hk => ⟨Kd.fresh' (Kd.R_lt (fR HO301.out)) k_ hk, Kd.fresh' (Kd.R_lt (fR HO312.out)) k_ hk⟩))
      (case aO => exact (fR HO323.out))
      (case aS => exact (wz (fW HB.out)))
      (case aL => have := LMc22.out; omega)
      intro v325 w127 ho hb hg hat
      rw [← Ny324.out] at ho
      have n0_ := am (blk_grown (g := gb287) (o := .cells #[.int .i64 a2_0, .int .i64 a2_1, .int .i64 a2_2] 24 (0, 0)) (fb BK287.out) hg (Kd.R_ne HO323.out BK287.out (by decide)))
      have n1_ := am (Kd.R_after (ok := (fun k_ => some k_ ≠ (.slice Ao120 y310.length co120 : Value).ownBlock)) (fR HO301.out) hg hat)
      have n2_ := am (Kd.R_after (ok := (fun k_ => some k_ ≠ (.slice Ao113 y299.length co113 : Value).ownBlock)) (fR HO312.out) hg hat)
      have n3_ := am (hb)
      have n4_ := am (ho)
      clear BK287 HO301 HO312 HB HO323
      have BK287 := n0_
      have HO301 := n1_
      have HO312 := n2_
      have HB := n3_
      have HO326 := n4_
      clear n0_ n1_ n2_ n3_ n4_ ho hb hg hat
      obtain ⟨Ao128, co128, eo128⟩ := Kd.R_slice HO326.out
      (first | subst eo128 | (injection eo128 with f1_ f2_ f3_; have f4_ := f1_.symm; have f5_ := f3_.symm; clear f1_ f2_ f3_; subst f4_; subst f5_))
      refine hK.out _ _ ⟨(bc BK287.out 0).trans rfl, (bc BK287.out 1).trans rfl, (bc BK287.out 2).trans rfl⟩ (fun hHeld => ?_)
      clear hK K
      refine norm_ (a' := ?_) ?_ ?_
      rotate_left
      ·show Act.put _ (some 58) _ = _
       simp only [Act.put, psl, i64_w, i32_w]
       rfl
      refine one_ (i := 8) (N := some 60) (fl 14 9 []) rfl rfl (one_of HT_.out (by kernel_rfl)) (by decide) (fun K hK => ?_)
      refine goes_ Try.func13 (by kernel_rfl) rfl #[.slice Ao128 y324.length co128, .agg #[.int .i64 a2_0, .int .i64 a2_1, .int .i64 a2_2]] (by rfl) rfl rfl (by (try simp only [pml]); first | done | rfl | (simp only [pdt]; rfl)) ?_
      with_reducible refine (model_State.calls kj5 _ _ y324 a2_0 a2_1 a2_2 t327 t328 _ ?side1 ?side2 A23.out).mono ?_
      (case side1 => repeat (first | exact (Kd.R_reads' HO326.out).2.2 | (with_reducible refine Kd.C_alloc ?_ _) | (with_reducible refine Kd.C_drewN ?_ _) | (with_reducible refine Kd.C_drew ?_)))
      (case side2 => exact (Kd.R_reads' HO326.out).2.1)
      rintro e w129 ⟨rfl, hb⟩
      refine ⟨_, rfl, ?_⟩
      have n0_ := dR HO301 hb
      have n1_ := dR HO312 hb
      have n2_ := dR HO326 hb
      have n3_ := bB BK287 hb
      have n4_ := bS HB hb
      clear HO301 HO312 HO326 BK287 HB
      have HO301 := n0_
      have HO312 := n1_
      have HO326 := n2_
      have BK287 := n3_
      have HB := n4_
      clear n0_ n1_ n2_ n3_ n4_
      (try clear hb)
      (try clear hb2)
      (try clear hk)
      (try clear hi)
      refine hK.out _ _ ⟨(bc BK287.out 0).trans rfl, (bc BK287.out 1).trans rfl, (bc BK287.out 2).trans rfl⟩ (fun hHeld => ?_)
      clear hK K
      refine norm_ (a' := ?_) ?_ ?_
      rotate_left
      ·show Act.put _ (some 60) _ = _
       simp only [Act.put, psl, i64_w, i32_w]
       rfl
      refine pu (i := 9) (N := some 51) (fl 14 10 []) HT_ ?_
      refine pu (i := 10) (N := some 61) (fl 14 11 []) HT_ ?_
      refine pu (i := 11) (N := some 62) (fl 14 12 []) HT_ ?_
      refine pu (i := 12) (N := some 13) (fl 14 13 []) HT_ ?_
      refine pu (i := 13) (N := some 14) (fl 14 14 []) HT_ ?_
      refine done_ (done_of HT_.out (by kernel_rfl)) ?_
      try go_wp2
      go_ret
      exact ⟨sqE, fW HB.out⟩
     rw [if_neg c105] at H
     have c105b0 : (t291 == 0) = false := beq_eq_false_iff_ne.mpr c105
     have c105b1 : (t291 != 0) = true := bne_iff_ne.mpr c105
     obtain rfl := Option.some.inj H
     have := yC1 BK287
     have := kC1 BK287
     have := kC2 BK287
     have := bf BK287.out 0
     have := bf BK287.out 1
     have := bf BK287.out 2
     try go_wp2_with (first | ((with_reducible refine gc (f := 13) rfl ?_); refine goesL_ (some 28) rfl rfl Try.func13 (by kernel_rfl) rfl #[.slice A0 l0.length c0, .agg #[.int .i64 a2_0, .int .i64 a2_1, .int .i64 a2_2]] rfl (by (try simp only [pml]); first | done | rfl | (simp only [pdt]; rfl)) ?_; (with_reducible refine (model_State.calls kj5 _ _ l0 a2_0 a2_1 a2_2 t291 t292 _ ?side1 ?side2 A13.out).mono ?_); (case side1 => repeat (first | exact (Kd.C_below HR0.out HB.out) | (with_reducible refine Kd.C_alloc ?_ _) | (with_reducible refine Kd.C_drewN ?_ _) | (with_reducible refine Kd.C_drew ?_))); (case side2 => exact HC0.out); rintro e w131 ⟨rfl, hb⟩; refine ⟨_, rfl, ?_⟩; replace BK287 := bB BK287 hb; replace HB := bS HB hb; (try clear hb); (try clear hb2); (try clear hk); (try clear hi)))
     have n0_ := am (bd BK287.out)
     have n1_ := am (wd HB.out)
     clear BK287 HB
     have BK287 := n0_
     have HB := n1_
     clear n0_ n1_
     refine start_ (n := 12) (S := fun w' => w'.cell? ⟨gb287, 0, none⟩ = some (.int .i64 a2_0) ∧ w'.cell? ⟨gb287, 1, none⟩ = some (.int .i64 a2_1) ∧ w'.cell? ⟨gb287, 2, none⟩ = some (.int .i64 a2_2)) (ds := []) #[F,F,F,F,F,F,F,F,F,F,F,F] (by kernel_rfl) rfl rfl ⟨(bc BK287.out 0).trans rfl, (bc BK287.out 1).trans rfl, (bc BK287.out 2).trans rfl⟩ (fun hHeld => ?_); refine with_tabW w_ModelGrows.tab6 w_ModelGrows.bits6 (fun HT_ HW_ => ?_)
     generalize w131.drew = w132 at BK287 HB hHeld ⊢
     refine pu (i := 1) (N := some 33) (fl 12 0 [1]) HT_ ?_
     refine pu (i := 3) (N := some 35) (fl 12 0 [1, 3]) HT_ ?_
     refine tk (i := 5) (N := some 37) (fl 12 0 [1, 3, 5]) HT_ HW_ hHeld ?_
     refine one_ (i := 0) (N := some 32) (fl 12 2 [3, 5]) rfl rfl (one_of HT_.out (by kernel_rfl)) (by decide) (fun K hK => ?_)
     refine Kd.R_lit_step k68 _ 68 ?hg (N := 32) ?hd (xs := ([] : List (S68))) (inner := []) (ok := fun _ => True) (okp := fun _ => True) ?hr ?hp (fun _ hk => hk) trivial (Below.refl _ _) (Nat.le_refl _) (by simp) ?_; (case hd | hg => rfl); (case hr => first | (go_simp; done) | (go_simp; rfl)); (case hp => exact (Reps.none _ _))
     intro v294 w133 ho134 hb hg_ hnew_
     clear hg_ hnew_
     (first | rw [← Ny293.out] at ho134 | (simp only [Int.reduceToNat] at ho134; rw [← Ny293.out] at ho134))
     have n0_ := am (Kd.R_lower ho134 (wz (fW HB.out)))
     have n1_ := bB BK287 hb
     have n2_ := bS HB hb
     clear BK287 HB
     have HO295 := n0_
     have BK287 := n1_
     have HB := n2_
     clear n0_ n1_ n2_ hb ho134
     refine hK.out _ _ ⟨(bc BK287.out 0).trans rfl, (bc BK287.out 1).trans rfl, (bc BK287.out 2).trans rfl⟩ (fun hHeld => ?_)
     clear hK K
     refine norm_ (a' := ?_) ?_ ?_
     rotate_left
     ·show Act.put _ (some 32) _ = _
      simp only [Act.put, psl, i64_w, i32_w]
      rfl
     refine one_ (i := 2) (N := some 34) (fl 12 4 [5]) rfl rfl (one_of HT_.out (by kernel_rfl)) (by decide) (fun K hK => ?_)
     refine Kd.R_append_rows_step k68 (w0 := w) w.heap.size (by rfl) (.tmp 32) (.tmp 33) 22 68 (.agg #[(.string ⟨#[]⟩), (.int .i64 0), (.int .i64 0), (.int .i64 0), (.int .i64 0), (.int .i64 0), (.int .i64 0), (.int .i64 0)]) 72 rfl Try.underlying22 info68 rfl (by decide) (by omega) v294 y293 l0 _ _ _ (fun _ => True) (fun _ => False) rfl rfl ?aO ?aR (fun _ _ h => h) (fun _ h => h.elim) ?aF ?aB ?aS ?aL ?_
     (case aR => repeat (first | exact (Kd.C_below HR0.out HB.out) | (with_reducible refine Kd.C_alloc ?_ _) | (with_reducible refine Kd.C_drewN ?_ _) | (with_reducible refine Kd.C_drew ?_)))
     (case aB => exact (fW HB.out))
     (case aF => exact (fun _ _ => trivial))
     (case aO => exact (fR HO295.out))
     (case aS => exact (wz (fW HB.out)))
     (case aL => have := LMc14.out; omega)
     intro v297 w135 ho hb hg hat
     rw [← Ny296.out] at ho
     have n0_ := am (blk_grown (g := gb287) (o := .cells #[.int .i64 a2_0, .int .i64 a2_1, .int .i64 a2_2] 24 (0, 0)) (fb BK287.out) hg (Kd.R_ne HO295.out BK287.out (by decide)))
     have n1_ := am (hb)
     have n2_ := am (ho)
     clear BK287 HB HO295
     have BK287 := n0_
     have HB := n1_
     have HO298 := n2_
     clear n0_ n1_ n2_ ho hb hg hat
     refine hK.out _ _ ⟨(bc BK287.out 0).trans rfl, (bc BK287.out 1).trans rfl, (bc BK287.out 2).trans rfl⟩ (fun hHeld => ?_)
     clear hK K
     refine norm_ (a' := ?_) ?_ ?_
     rotate_left
     ·show Act.put _ (some 34) _ = _
      simp only [Act.put, psl, i64_w, i32_w]
      rfl
     refine one_ (i := 4) (N := some 36) (fl 12 6 []) rfl rfl (one_of HT_.out (by kernel_rfl)) (by decide) (fun K hK => ?_)
     refine Kd.R_append_rows_step k68 (w0 := w) w.heap.size (by rfl) (.tmp 34) (.tmp 35) 22 68 (.agg #[(.string ⟨#[]⟩), (.int .i64 0), (.int .i64 0), (.int .i64 0), (.int .i64 0), (.int .i64 0), (.int .i64 0), (.int .i64 0)]) 72 rfl Try.underlying22 info68 rfl (by decide) (by omega) v297 y296 l1 _ _ _ (fun _ => True) (fun _ => False) rfl rfl ?aO ?aR (fun _ _ h => h) (fun _ h => h.elim) ?aF ?aB ?aS ?aL ?_
     (case aR => repeat (first | exact (Kd.C_below HR1.out HB.out) | (with_reducible refine Kd.C_alloc ?_ _) | (with_reducible refine Kd.C_drewN ?_ _) | (with_reducible refine Kd.C_drew ?_)))
     (case aB => exact (fW HB.out))
     (case aF => exact (fun _ _ => trivial))
     (case aO => exact (fR HO298.out))
     (case aS => exact (wz (fW HB.out)))
     (case aL => have := LMc15.out; omega)
     intro v300 w136 ho hb hg hat
     rw [← Ny299.out] at ho
     have n0_ := am (blk_grown (g := gb287) (o := .cells #[.int .i64 a2_0, .int .i64 a2_1, .int .i64 a2_2] 24 (0, 0)) (fb BK287.out) hg (Kd.R_ne HO298.out BK287.out (by decide)))
     have n1_ := am (hb)
     have n2_ := am (ho)
     clear BK287 HB HO298
     have BK287 := n0_
     have HB := n1_
     have HO301 := n2_
     clear n0_ n1_ n2_ ho hb hg hat
     obtain ⟨Ao137, co137, eo137⟩ := Kd.R_slice HO301.out
     (first | subst eo137 | (injection eo137 with f1_ f2_ f3_; have f4_ := f1_.symm; have f5_ := f3_.symm; clear f1_ f2_ f3_; subst f4_; subst f5_))
     refine hK.out _ _ ⟨(bc BK287.out 0).trans rfl, (bc BK287.out 1).trans rfl, (bc BK287.out 2).trans rfl⟩ (fun hHeld => ?_)
     clear hK K
     refine norm_ (a' := ?_) ?_ ?_
     rotate_left
     ·show Act.put _ (some 36) _ = _
      simp only [Act.put, psl, i64_w, i32_w]
      rfl
     refine one_ (i := 6) (N := some 38) (fl 12 7 []) rfl rfl (one_of HT_.out (by kernel_rfl)) (by decide) (fun K hK => ?_)
     refine goes_ Try.func13 (by kernel_rfl) rfl #[.slice Ao137 y299.length co137, .agg #[.int .i64 a2_0, .int .i64 a2_1, .int .i64 a2_2]] (by rfl) rfl rfl (by (try simp only [pml]); first | done | rfl | (simp only [pdt]; rfl)) ?_
     with_reducible refine (model_State.calls kj5 _ _ y299 a2_0 a2_1 a2_2 t302 t303 _ ?side1 ?side2 A16.out).mono ?_
     (case side1 => repeat (first | exact (Kd.R_reads' HO301.out).2.2 | (with_reducible refine Kd.C_alloc ?_ _) | (with_reducible refine Kd.C_drewN ?_ _) | (with_reducible refine Kd.C_drew ?_)))
     (case side2 => exact (Kd.R_reads' HO301.out).2.1)
     rintro e w138 ⟨rfl, hb⟩
     refine ⟨_, rfl, ?_⟩
     have n0_ := dR HO301 hb
     have n1_ := bB BK287 hb
     have n2_ := bS HB hb
     clear HO301 BK287 HB
     have HO301 := n0_
     have BK287 := n1_
     have HB := n2_
     clear n0_ n1_ n2_
     (try clear hb)
     (try clear hb2)
     (try clear hk)
     (try clear hi)
     refine hK.out _ _ ⟨(bc BK287.out 0).trans rfl, (bc BK287.out 1).trans rfl, (bc BK287.out 2).trans rfl⟩ (fun hHeld => ?_)
     clear hK K
     refine norm_ (a' := ?_) ?_ ?_
     rotate_left
     ·show Act.put _ (some 38) _ = _
      simp only [Act.put, psl, i64_w, i32_w]
      rfl
     refine pu (i := 7) (N := some 31) (fl 12 8 []) HT_ ?_
     refine pu (i := 8) (N := some 39) (fl 12 9 []) HT_ ?_
     refine pu (i := 9) (N := some 40) (fl 12 10 []) HT_ ?_
     refine pu (i := 10) (N := some 9) (fl 12 11 []) HT_ ?_
     refine pu (i := 11) (N := some 10) (fl 12 12 []) HT_ ?_
     refine done_ (done_of HT_.out (by kernel_rfl)) ?_
     try go_wp2
     have n0_ := am (Kd.R_drew HO301.out)
     have n1_ := am (bd BK287.out)
     have n2_ := am (wd HB.out)
     clear HO301 BK287 HB
     have HO301 := n0_
     have BK287 := n1_
     have HB := n2_
     clear n0_ n1_ n2_
     refine start_ (n := 12) (S := fun w' => w'.cell? ⟨gb287, 0, none⟩ = some (.int .i64 a2_0) ∧ w'.cell? ⟨gb287, 1, none⟩ = some (.int .i64 a2_1) ∧ w'.cell? ⟨gb287, 2, none⟩ = some (.int .i64 a2_2)) (ds := []) #[F,F,F,F,F,F,F,F,F,F,F,F] (by kernel_rfl) rfl rfl ⟨(bc BK287.out 0).trans rfl, (bc BK287.out 1).trans rfl, (bc BK287.out 2).trans rfl⟩ (fun hHeld => ?_); refine with_tabW w_ModelGrows.tab7 w_ModelGrows.bits7 (fun HT_ HW_ => ?_)
     generalize w138.drew = w139 at HO301 BK287 HB hHeld ⊢
     refine pu (i := 1) (N := some 43) (fl 12 0 [1]) HT_ ?_
     refine pu (i := 3) (N := some 45) (fl 12 0 [1, 3]) HT_ ?_
     refine tk (i := 5) (N := some 47) (fl 12 0 [1, 3, 5]) HT_ HW_ hHeld ?_
     refine one_ (i := 0) (N := some 42) (fl 12 2 [3, 5]) rfl rfl (one_of HT_.out (by kernel_rfl)) (by decide) (fun K hK => ?_)
     refine Kd.R_lit_step k68 _ 68 ?hg (N := 42) ?hd (xs := ([] : List (S68))) (inner := []) (ok := fun _ => True) (okp := fun _ => True) ?hr ?hp (fun _ hk => hk) trivial (Below.refl _ _) (Nat.le_refl _) (by simp) ?_; (case hd | hg => rfl); (case hr => first | (go_simp; done) | (go_simp; rfl)); (case hp => exact (Reps.none _ _))
     intro v305 w140 ho141 hb hg_ hnew_
     clear hg_ hnew_
     (first | rw [← Ny304.out] at ho141 | (simp only [Int.reduceToNat] at ho141; rw [← Ny304.out] at ho141))
     have n0_ := am (Kd.R_elder' (fR HO301.out) (Kd.R_base ho141) hb)
     have n1_ := am (Kd.R_lower (Kd.R_new' ho141 (Kd.R_lt (fR HO301.out))) (wz (fW HB.out)))
     have n2_ := bB BK287 hb
     have n3_ := bS HB hb
     clear HO301 BK287 HB
     have HO301 := n0_
     have HO306 := n1_
     have BK287 := n2_
     have HB := n3_
     clear n0_ n1_ n2_ n3_ hb ho141
     refine hK.out _ _ ⟨(bc BK287.out 0).trans rfl, (bc BK287.out 1).trans rfl, (bc BK287.out 2).trans rfl⟩ (fun hHeld => ?_)
     clear hK K
     refine norm_ (a' := ?_) ?_ ?_
     rotate_left
     ·show Act.put _ (some 42) _ = _
      simp only [Act.put, psl, i64_w, i32_w]
      rfl
     refine one_ (i := 2) (N := some 44) (fl 12 4 [5]) rfl rfl (one_of HT_.out (by kernel_rfl)) (by decide) (fun K hK => ?_)
     refine Kd.R_append_rows_step k68 (w0 := w) w.heap.size (by rfl) (.tmp 42) (.tmp 43) 22 68 (.agg #[(.string ⟨#[]⟩), (.int .i64 0), (.int .i64 0), (.int .i64 0), (.int .i64 0), (.int .i64 0), (.int .i64 0), (.int .i64 0)]) 72 rfl Try.underlying22 info68 rfl (by decide) (by omega) v305 y304 l1 _ _ _ (fun k_ => some k_ ≠ (.slice Ao137 y299.length co137 : Value).ownBlock) (fun _ => False) rfl rfl ?aO ?aR (fun _ _ h => h) (fun _ h => h.elim) ?aF ?aB ?aS ?aL ?_
     (case aR => repeat (first | exact (Kd.C_below HR1.out HB.out) | (with_reducible refine Kd.C_alloc ?_ _) | (with_reducible refine Kd.C_drewN ?_ _) | (with_reducible refine Kd.C_drew ?_)))
     (case aB => exact (fW HB.out))
     (case aF => exact (fun k_ hk => Kd.fresh' (Kd.R_lt (fR HO301.out)) k_ hk))
     (case aO => exact (by (with_reducible repeat (first | apply Kd.R_alloc | apply Kd.R_drewN | apply Kd.R_drew)); exact Kd.R_mono HO306.out (fun _ hk => hk.2)))
     (case aS => exact (wz (fW HB.out)))
     (case aL => have := LMc17.out; omega)
     intro v308 w142 ho hb hg hat
     rw [← Ny307.out] at ho
     have n0_ := am (blk_grown (g := gb287) (o := .cells #[.int .i64 a2_0, .int .i64 a2_1, .int .i64 a2_2] 24 (0, 0)) (fb BK287.out) hg (Kd.R_ne HO306.out BK287.out (by decide)))
     have n1_ := am (Kd.R_after (ok := (fun _ => True)) (fR HO301.out) hg hat)
     have n2_ := am (hb)
     have n3_ := am (ho)
     clear BK287 HO301 HB HO306
     have BK287 := n0_
     have HO301 := n1_
     have HB := n2_
     have HO309 := n3_
     clear n0_ n1_ n2_ n3_ ho hb hg hat
     refine hK.out _ _ ⟨(bc BK287.out 0).trans rfl, (bc BK287.out 1).trans rfl, (bc BK287.out 2).trans rfl⟩ (fun hHeld => ?_)
     clear hK K
     refine norm_ (a' := ?_) ?_ ?_
     rotate_left
     ·show Act.put _ (some 44) _ = _
      simp only [Act.put, psl, i64_w, i32_w]
      rfl
     refine one_ (i := 4) (N := some 46) (fl 12 6 []) rfl rfl (one_of HT_.out (by kernel_rfl)) (by decide) (fun K hK => ?_)
     refine Kd.R_append_rows_step k68 (w0 := w) w.heap.size (by rfl) (.tmp 44) (.tmp 45) 22 68 (.agg #[(.string ⟨#[]⟩), (.int .i64 0), (.int .i64 0), (.int .i64 0), (.int .i64 0), (.int .i64 0), (.int .i64 0), (.int .i64 0)]) 72 rfl Try.underlying22 info68 rfl (by decide) (by omega) v308 y307 l0 _ _ _ (fun k_ => some k_ ≠ (.slice Ao137 y299.length co137 : Value).ownBlock) (fun _ => False) rfl rfl ?aO ?aR (fun _ _ h => h) (fun _ h => h.elim) ?aF ?aB ?aS ?aL ?_
     (case aR => repeat (first | exact (Kd.C_below HR0.out HB.out) | (with_reducible refine Kd.C_alloc ?_ _) | (with_reducible refine Kd.C_drewN ?_ _) | (with_reducible refine Kd.C_drew ?_)))
     (case aB => exact (fW HB.out))
     (case aF => exact (fun k_ hk => Kd.fresh' (Kd.R_lt (fR HO301.out)) k_ hk))
     (case aO => exact (fR HO309.out))
     (case aS => exact (wz (fW HB.out)))
     (case aL => have := LMc18.out; omega)
     intro v311 w143 ho hb hg hat
     rw [← Ny310.out] at ho
     have n0_ := am (blk_grown (g := gb287) (o := .cells #[.int .i64 a2_0, .int .i64 a2_1, .int .i64 a2_2] 24 (0, 0)) (fb BK287.out) hg (Kd.R_ne HO309.out BK287.out (by decide)))
     have n1_ := am (Kd.R_after (ok := (fun _ => True)) (fR HO301.out) hg hat)
     have n2_ := am (hb)
     have n3_ := am (ho)
     clear BK287 HO301 HB HO309
     have BK287 := n0_
     have HO301 := n1_
     have HB := n2_
     have HO312 := n3_
     clear n0_ n1_ n2_ n3_ ho hb hg hat
     obtain ⟨Ao144, co144, eo144⟩ := Kd.R_slice HO312.out
     (first | subst eo144 | (injection eo144 with f1_ f2_ f3_; have f4_ := f1_.symm; have f5_ := f3_.symm; clear f1_ f2_ f3_; subst f4_; subst f5_))
     refine hK.out _ _ ⟨(bc BK287.out 0).trans rfl, (bc BK287.out 1).trans rfl, (bc BK287.out 2).trans rfl⟩ (fun hHeld => ?_)
     clear hK K
     refine norm_ (a' := ?_) ?_ ?_
     rotate_left
     ·show Act.put _ (some 46) _ = _
      simp only [Act.put, psl, i64_w, i32_w]
      rfl
     refine one_ (i := 6) (N := some 48) (fl 12 7 []) rfl rfl (one_of HT_.out (by kernel_rfl)) (by decide) (fun K hK => ?_)
     refine goes_ Try.func13 (by kernel_rfl) rfl #[.slice Ao144 y310.length co144, .agg #[.int .i64 a2_0, .int .i64 a2_1, .int .i64 a2_2]] (by rfl) rfl rfl (by (try simp only [pml]); first | done | rfl | (simp only [pdt]; rfl)) ?_
     with_reducible refine (model_State.calls kj5 _ _ y310 a2_0 a2_1 a2_2 t313 t314 _ ?side1 ?side2 A19.out).mono ?_
     (case side1 => repeat (first | exact (Kd.R_reads' HO312.out).2.2 | (with_reducible refine Kd.C_alloc ?_ _) | (with_reducible refine Kd.C_drewN ?_ _) | (with_reducible refine Kd.C_drew ?_)))
     (case side2 => exact (Kd.R_reads' HO312.out).2.1)
     rintro e w145 ⟨rfl, hb⟩
     refine ⟨_, rfl, ?_⟩
     have n0_ := dR HO301 hb
     have n1_ := dR HO312 hb
     have n2_ := bB BK287 hb
     have n3_ := bS HB hb
     clear HO301 HO312 BK287 HB
     have HO301 := n0_
     have HO312 := n1_
     have BK287 := n2_
     have HB := n3_
     clear n0_ n1_ n2_ n3_
     (try clear hb)
     (try clear hb2)
     (try clear hk)
     (try clear hi)
     refine hK.out _ _ ⟨(bc BK287.out 0).trans rfl, (bc BK287.out 1).trans rfl, (bc BK287.out 2).trans rfl⟩ (fun hHeld => ?_)
     clear hK K
     refine norm_ (a' := ?_) ?_ ?_
     rotate_left
     ·show Act.put _ (some 48) _ = _
      simp only [Act.put, psl, i64_w, i32_w]
      rfl
     refine pu (i := 7) (N := some 41) (fl 12 8 []) HT_ ?_
     refine pu (i := 8) (N := some 49) (fl 12 9 []) HT_ ?_
     refine pu (i := 9) (N := some 50) (fl 12 10 []) HT_ ?_
     refine pu (i := 10) (N := some 11) (fl 12 11 []) HT_ ?_
     refine pu (i := 11) (N := some 12) (fl 12 12 []) HT_ ?_
     refine done_ (done_of HT_.out (by kernel_rfl)) ?_
     try go_wp2
     have n0_ := am (Kd.R_drew HO301.out)
     have n1_ := am (Kd.R_drew HO312.out)
     have n2_ := am (bd BK287.out)
     have n3_ := am (wd HB.out)
     clear HO301 HO312 BK287 HB
     have HO301 := n0_
     have HO312 := n1_
     have BK287 := n2_
     have HB := n3_
     clear n0_ n1_ n2_ n3_
     refine start_ (n := 14) (S := fun w' => w'.cell? ⟨gb287, 0, none⟩ = some (.int .i64 a2_0) ∧ w'.cell? ⟨gb287, 1, none⟩ = some (.int .i64 a2_1) ∧ w'.cell? ⟨gb287, 2, none⟩ = some (.int .i64 a2_2)) (ds := []) #[F,F,F,F,F,F,F,F,F,F,F,F,F,F] (by kernel_rfl) rfl rfl ⟨(bc BK287.out 0).trans rfl, (bc BK287.out 1).trans rfl, (bc BK287.out 2).trans rfl⟩ (fun hHeld => ?_); refine with_tabW w_ModelGrows.tab8 w_ModelGrows.bits8 (fun HT_ HW_ => ?_)
     generalize w145.drew = w146 at HO301 HO312 BK287 HB hHeld ⊢
     refine pu (i := 1) (N := some 53) (fl 14 0 [1]) HT_ ?_
     refine pu (i := 3) (N := some 55) (fl 14 0 [1, 3]) HT_ ?_
     refine pu (i := 5) (N := some 57) (fl 14 0 [1, 3, 5]) HT_ ?_
     refine tk (i := 7) (N := some 59) (fl 14 0 [1, 3, 5, 7]) HT_ HW_ hHeld ?_
     refine one_ (i := 0) (N := some 52) (fl 14 2 [3, 5, 7]) rfl rfl (one_of HT_.out (by kernel_rfl)) (by decide) (fun K hK => ?_)
     refine Kd.R_lit_step k68 _ 68 ?hg (N := 52) ?hd (xs := ([] : List (S68))) (inner := []) (ok := fun _ => True) (okp := fun _ => True) ?hr ?hp (fun _ hk => hk) trivial (Below.refl _ _) (Nat.le_refl _) (by simp) ?_; (case hd | hg => rfl); (case hr => first | (go_simp; done) | (go_simp; rfl)); (case hp => exact (Reps.none _ _))
     intro v316 w147 ho148 hb hg_ hnew_
     clear hg_ hnew_
     (first | rw [← Ny315.out] at ho148 | (simp only [Int.reduceToNat] at ho148; rw [← Ny315.out] at ho148))
     have n0_ := am (Kd.R_elder' (fR HO301.out) (Kd.R_base ho148) hb)
     have n1_ := am (Kd.R_elder' (fR HO312.out) (Kd.R_base ho148) hb)
     have n2_ := am (Kd.R_lower (Kd.R_new' (Kd.R_new' ho148 (Kd.R_lt (fR HO301.out))) (Kd.R_lt (fR HO312.out))) (wz (fW HB.out)))
     have n3_ := bB BK287 hb
     have n4_ := bS HB hb
     clear HO301 HO312 BK287 HB
     have HO301 := n0_
     have HO312 := n1_
     have HO317 := n2_
     have BK287 := n3_
     have HB := n4_
     clear n0_ n1_ n2_ n3_ n4_ hb ho148
     refine hK.out _ _ ⟨(bc BK287.out 0).trans rfl, (bc BK287.out 1).trans rfl, (bc BK287.out 2).trans rfl⟩ (fun hHeld => ?_)
     clear hK K
     refine norm_ (a' := ?_) ?_ ?_
     rotate_left
     ·show Act.put _ (some 52) _ = _
      simp only [Act.put, psl, i64_w, i32_w]
      rfl
     refine one_ (i := 2) (N := some 54) (fl 14 4 [5, 7]) rfl rfl (one_of HT_.out (by kernel_rfl)) (by decide) (fun K hK => ?_)
     refine Kd.R_append_rows_step k68 (w0 := w) w.heap.size (by rfl) (.tmp 52) (.tmp 53) 22 68 (.agg #[(.string ⟨#[]⟩), (.int .i64 0), (.int .i64 0), (.int .i64 0), (.int .i64 0), (.int .i64 0), (.int .i64 0), (.int .i64 0)]) 72 rfl Try.underlying22 info68 rfl (by decide) (by omega) v316 y315 l1 _ _ _ (fun k_ => some k_ ≠ (.slice Ao137 y299.length co137 : Value).ownBlock ∧ some k_ ≠ (.slice Ao144 y310.length co144 : Value).ownBlock) (fun _ => False) rfl rfl ?aO ?aR (fun _ _ h => h) (fun _ h => h.elim) ?aF ?aB ?aS ?aL ?_
     (case aR => repeat (first | exact (Kd.C_below HR1.out HB.out) | (with_reducible refine Kd.C_alloc ?_ _) | (with_reducible refine Kd.C_drewN ?_ _) | (with_reducible refine Kd.C_drew ?_)))
     (case aB => exact (fW HB.out))
     (case aF => exact (fun k_ hk => ⟨Kd.fresh' (Kd.R_lt (fR HO301.out)) k_ hk, Kd.fresh' (Kd.R_lt (fR HO312.out)) k_ hk⟩))
     (case aO => exact (by (with_reducible repeat (first | apply Kd.R_alloc | apply Kd.R_drewN | apply Kd.R_drew)); exact Kd.R_mono HO317.out (fun _ hk => ⟨hk.1.2, hk.2⟩)))
     (case aS => exact (wz (fW HB.out)))
     (case aL => have := LMc20.out; omega)
     intro v319 w149 ho hb hg hat
     rw [← Ny318.out] at ho
     have n0_ := am (blk_grown (g := gb287) (o := .cells #[.int .i64 a2_0, .int .i64 a2_1, .int .i64 a2_2] 24 (0, 0)) (fb BK287.out) hg (Kd.R_ne HO317.out BK287.out (by decide)))
     have n1_ := am (Kd.R_after (ok := (fun k_ => some k_ ≠ (.slice Ao144 y310.length co144 : Value).ownBlock)) (by (with_reducible repeat (first | apply Kd.R_alloc | apply Kd.R_drewN | apply Kd.R_drew)); exact Kd.R_mono HO301.out (fun _ hk => ⟨hk.1.2, hk.2⟩)) hg hat)
     have n2_ := am (Kd.R_after (ok := (fun k_ => some k_ ≠ (.slice Ao137 y299.length co137 : Value).ownBlock)) (fR HO312.out) hg hat)
     have n3_ := am (hb)
     have n4_ := am (ho)
     clear BK287 HO301 HO312 HB HO317
     have BK287 := n0_
     have HO301 := n1_
     have HO312 := n2_
     have HB := n3_
     have HO320 := n4_
     clear n0_ n1_ n2_ n3_ n4_ ho hb hg hat
     refine hK.out _ _ ⟨(bc BK287.out 0).trans rfl, (bc BK287.out 1).trans rfl, (bc BK287.out 2).trans rfl⟩ (fun hHeld => ?_)
     clear hK K
     refine norm_ (a' := ?_) ?_ ?_
     rotate_left
     ·show Act.put _ (some 54) _ = _
      simp only [Act.put, psl, i64_w, i32_w]
      rfl
     refine one_ (i := 4) (N := some 56) (fl 14 6 [7]) rfl rfl (one_of HT_.out (by kernel_rfl)) (by decide) (fun K hK => ?_)
     refine Kd.R_append_rows_step k68 (w0 := w) w.heap.size (by rfl) (.tmp 54) (.tmp 55) 22 68 (.agg #[(.string ⟨#[]⟩), (.int .i64 0), (.int .i64 0), (.int .i64 0), (.int .i64 0), (.int .i64 0), (.int .i64 0), (.int .i64 0)]) 72 rfl Try.underlying22 info68 rfl (by decide) (by omega) v319 y318 l0 _ _ _ (fun k_ => some k_ ≠ (.slice Ao137 y299.length co137 : Value).ownBlock ∧ some k_ ≠ (.slice Ao144 y310.length co144 : Value).ownBlock) (fun _ => False) rfl rfl ?aO ?aR (fun _ _ h => h) (fun _ h => h.elim) ?aF ?aB ?aS ?aL ?_
     (case aR => repeat (first | exact (Kd.C_below HR0.out HB.out) | (with_reducible refine Kd.C_alloc ?_ _) | (with_reducible refine Kd.C_drewN ?_ _) | (with_reducible refine Kd.C_drew ?_)))
     (case aB => exact (fW HB.out))
     (case aF => exact (fun k_ hk => ⟨Kd.fresh' (Kd.R_lt (fR HO301.out)) k_ hk, Kd.fresh' (Kd.R_lt (fR HO312.out)) k_ hk⟩))
     (case aO => exact (fR HO320.out))
     (case aS => exact (wz (fW HB.out)))
     (case aL => have := LMc21.out; omega)
     intro v322 w150 ho hb hg hat
     rw [← Ny321.out] at ho
     have n0_ := am (blk_grown (g := gb287) (o := .cells #[.int .i64 a2_0, .int .i64 a2_1, .int .i64 a2_2] 24 (0, 0)) (fb BK287.out) hg (Kd.R_ne HO320.out BK287.out (by decide)))
     have n1_ := am (Kd.R_after (ok := (fun k_ => some k_ ≠ (.slice Ao144 y310.length co144 : Value).ownBlock)) (fR HO301.out) hg hat)
     have n2_ := am (Kd.R_after (ok := (fun k_ => some k_ ≠ (.slice Ao137 y299.length co137 : Value).ownBlock)) (fR HO312.out) hg hat)
     have n3_ := am (hb)
     have n4_ := am (ho)
     clear BK287 HO301 HO312 HB HO320
     have BK287 := n0_
     have HO301 := n1_
     have HO312 := n2_
     have HB := n3_
     have HO323 := n4_
     clear n0_ n1_ n2_ n3_ n4_ ho hb hg hat
     refine hK.out _ _ ⟨(bc BK287.out 0).trans rfl, (bc BK287.out 1).trans rfl, (bc BK287.out 2).trans rfl⟩ (fun hHeld => ?_)
     clear hK K
     refine norm_ (a' := ?_) ?_ ?_
     rotate_left
     ·show Act.put _ (some 56) _ = _
      simp only [Act.put, psl, i64_w, i32_w]
      rfl
     refine one_ (i := 6) (N := some 58) (fl 14 8 []) rfl rfl (one_of HT_.out (by kernel_rfl)) (by decide) (fun K hK => ?_)
     refine Kd.R_append_rows_step k68 (w0 := w) w.heap.size (by rfl) (.tmp 56) (.tmp 57) 22 68 (.agg #[(.string ⟨#[]⟩), (.int .i64 0), (.int .i64 0), (.int .i64 0), (.int .i64 0), (.int .i64 0), (.int .i64 0), (.int .i64 0)]) 72 rfl Try.underlying22 info68 rfl (by decide) (by omega) v322 y321 l1 _ _ _ (fun k_ => some k_ ≠ (.slice Ao137 y299.length co137 : Value).ownBlock ∧ some k_ ≠ (.slice Ao144 y310.length co144 : Value).ownBlock) (fun _ => False) rfl rfl ?aO ?aR (fun _ _ h => h) (fun _ h => h.elim) ?aF ?aB ?aS ?aL ?_
     (case aR => repeat (first | exact (Kd.C_below HR1.out HB.out) | (with_reducible refine Kd.C_alloc ?_ _) | (with_reducible refine Kd.C_drewN ?_ _) | (with_reducible refine Kd.C_drew ?_)))
     (case aB => exact (fW HB.out))
     (case aF => exact (fun k_ hk => ⟨Kd.fresh' (Kd.R_lt (fR HO301.out)) k_ hk, Kd.fresh' (Kd.R_lt (fR HO312.out)) k_ hk⟩))
     (case aO => exact (fR HO323.out))
     (case aS => exact (wz (fW HB.out)))
     (case aL => have := LMc22.out; omega)
     intro v325 w151 ho hb hg hat
     rw [← Ny324.out] at ho
     have n0_ := am (blk_grown (g := gb287) (o := .cells #[.int .i64 a2_0, .int .i64 a2_1, .int .i64 a2_2] 24 (0, 0)) (fb BK287.out) hg (Kd.R_ne HO323.out BK287.out (by decide)))
     have n1_ := am (Kd.R_after (ok := (fun k_ => some k_ ≠ (.slice Ao144 y310.length co144 : Value).ownBlock)) (fR HO301.out) hg hat)
     have n2_ := am (Kd.R_after (ok := (fun k_ => some k_ ≠ (.slice Ao137 y299.length co137 : Value).ownBlock)) (fR HO312.out) hg hat)
     have n3_ := am (hb)
     have n4_ := am (ho)
     clear BK287 HO301 HO312 HB HO323
     have BK287 := n0_
     have HO301 := n1_
     have HO312 := n2_
     have HB := n3_
     have HO326 := n4_
     clear n0_ n1_ n2_ n3_ n4_ ho hb hg hat
     obtain ⟨Ao152, co152, eo152⟩ := Kd.R_slice HO326.out
     (first | subst eo152 | (injection eo152 with f1_ f2_ f3_; have f4_ := f1_.symm; have f5_ := f3_.symm; clear f1_ f2_ f3_; subst f4_; subst f5_))
     refine hK.out _ _ ⟨(bc BK287.out 0).trans rfl, (bc BK287.out 1).trans rfl, (bc BK287.out 2).trans rfl⟩ (fun hHeld => ?_)
     clear hK K
     refine norm_ (a' := ?_) ?_ ?_
     rotate_left
     ·show Act.put _ (some 58) _ = _
      simp only [Act.put, psl, i64_w, i32_w]
      rfl
     refine one_ (i := 8) (N := some 60) (fl 14 9 []) rfl rfl (one_of HT_.out (by kernel_rfl)) (by decide) (fun K hK => ?_)
     refine goes_ Try.func13 (by kernel_rfl) rfl #[.slice Ao152 y324.length co152, .agg #[.int .i64 a2_0, .int .i64 a2_1, .int .i64 a2_2]] (by rfl) rfl rfl (by (try simp only [pml]); first | done | rfl | (simp only [pdt]; rfl)) ?_
     with_reducible refine (model_State.calls kj5 _ _ y324 a2_0 a2_1 a2_2 t327 t328 _ ?side1 ?side2 A23.out).mono ?_
     (case side1 => repeat (first | exact (Kd.R_reads' HO326.out).2.2 | (with_reducible refine Kd.C_alloc ?_ _) | (with_reducible refine Kd.C_drewN ?_ _) | (with_reducible refine Kd.C_drew ?_)))
     (case side2 => exact (Kd.R_reads' HO326.out).2.1)
     rintro e w153 ⟨rfl, hb⟩
     refine ⟨_, rfl, ?_⟩
     have n0_ := dR HO301 hb
     have n1_ := dR HO312 hb
     have n2_ := dR HO326 hb
     have n3_ := bB BK287 hb
     have n4_ := bS HB hb
     clear HO301 HO312 HO326 BK287 HB
     have HO301 := n0_
     have HO312 := n1_
     have HO326 := n2_
     have BK287 := n3_
     have HB := n4_
     clear n0_ n1_ n2_ n3_ n4_
     (try clear hb)
     (try clear hb2)
     (try clear hk)
     (try clear hi)
     refine hK.out _ _ ⟨(bc BK287.out 0).trans rfl, (bc BK287.out 1).trans rfl, (bc BK287.out 2).trans rfl⟩ (fun hHeld => ?_)
     clear hK K
     refine norm_ (a' := ?_) ?_ ?_
     rotate_left
     ·show Act.put _ (some 60) _ = _
      simp only [Act.put, psl, i64_w, i32_w]
      rfl
     refine pu (i := 9) (N := some 51) (fl 14 10 []) HT_ ?_
     refine pu (i := 10) (N := some 61) (fl 14 11 []) HT_ ?_
     refine pu (i := 11) (N := some 62) (fl 14 12 []) HT_ ?_
     refine pu (i := 12) (N := some 13) (fl 14 13 []) HT_ ?_
     refine pu (i := 13) (N := some 14) (fl 14 14 []) HT_ ?_
     refine done_ (done_of HT_.out (by kernel_rfl)) ?_
     try go_wp2
     go_ret
     exact ⟨sqE, fW HB.out⟩
    rw [if_pos c24] at H
    have c24b0 : (t292 == 0) = true := beq_iff_eq.mpr c24
    have c24b1 : (t292 != 0) = false := bne_eq_false_iff_eq.mpr c24
    clear c24
    by_cases c25 : t303 = 0
    ·rw [if_pos c25] at H
     have c25b0 : (t303 == 0) = true := beq_iff_eq.mpr c25
     have c25b1 : (t303 != 0) = false := bne_eq_false_iff_eq.mpr c25
     clear c25
     have HC26 := am H
     clear H
     have := yC1 BK287
     have := kC1 BK287
     have := kC2 BK287
     have := bf BK287.out 0
     have := bf BK287.out 1
     have := bf BK287.out 2
     try go_wp2_with (first | ((with_reducible refine gc (f := 13) rfl ?_); refine goesL_ (some 28) rfl rfl Try.func13 (by kernel_rfl) rfl #[.slice A0 l0.length c0, .agg #[.int .i64 a2_0, .int .i64 a2_1, .int .i64 a2_2]] rfl (by (try simp only [pml]); first | done | rfl | (simp only [pdt]; rfl)) ?_; (with_reducible refine (model_State.calls kj5 _ _ l0 a2_0 a2_1 a2_2 t291 t292 _ ?side1 ?side2 A13.out).mono ?_); (case side1 => repeat (first | exact (Kd.C_below HR0.out HB.out) | (with_reducible refine Kd.C_alloc ?_ _) | (with_reducible refine Kd.C_drewN ?_ _) | (with_reducible refine Kd.C_drew ?_))); (case side2 => exact HC0.out); rintro e w28 ⟨rfl, hb⟩; refine ⟨_, rfl, ?_⟩; replace BK287 := bB BK287 hb; replace HB := bS HB hb; (try clear hb); (try clear hb2); (try clear hk); (try clear hi)))
     have n0_ := am (bd BK287.out)
     have n1_ := am (wd HB.out)
     clear BK287 HB
     have BK287 := n0_
     have HB := n1_
     clear n0_ n1_
     refine start_ (n := 12) (S := fun w' => w'.cell? ⟨gb287, 0, none⟩ = some (.int .i64 a2_0) ∧ w'.cell? ⟨gb287, 1, none⟩ = some (.int .i64 a2_1) ∧ w'.cell? ⟨gb287, 2, none⟩ = some (.int .i64 a2_2)) (ds := []) #[F,F,F,F,F,F,F,F,F,F,F,F] (by kernel_rfl) rfl rfl ⟨(bc BK287.out 0).trans rfl, (bc BK287.out 1).trans rfl, (bc BK287.out 2).trans rfl⟩ (fun hHeld => ?_); refine with_tabW w_ModelGrows.tab6 w_ModelGrows.bits6 (fun HT_ HW_ => ?_)
     generalize w28.drew = w29 at BK287 HB hHeld ⊢
     refine pu (i := 1) (N := some 33) (fl 12 0 [1]) HT_ ?_
     refine pu (i := 3) (N := some 35) (fl 12 0 [1, 3]) HT_ ?_
     refine tk (i := 5) (N := some 37) (fl 12 0 [1, 3, 5]) HT_ HW_ hHeld ?_
     refine one_ (i := 0) (N := some 32) (fl 12 2 [3, 5]) rfl rfl (one_of HT_.out (by kernel_rfl)) (by decide) (fun K hK => ?_)
     refine Kd.R_lit_step k68 _ 68 ?hg (N := 32) ?hd (xs := ([] : List (S68))) (inner := []) (ok := fun _ => True) (okp := fun _ => True) ?hr ?hp (fun _ hk => hk) trivial (Below.refl _ _) (Nat.le_refl _) (by simp) ?_; (case hd | hg => rfl); (case hr => first | (go_simp; done) | (go_simp; rfl)); (case hp => exact (Reps.none _ _))
     intro v294 w30 ho31 hb hg_ hnew_
     clear hg_ hnew_
     (first | rw [← Ny293.out] at ho31 | (simp only [Int.reduceToNat] at ho31; rw [← Ny293.out] at ho31))
     have n0_ := am (Kd.R_lower ho31 (wz (fW HB.out)))
     have n1_ := bB BK287 hb
     have n2_ := bS HB hb
     clear BK287 HB
     have HO295 := n0_
     have BK287 := n1_
     have HB := n2_
     clear n0_ n1_ n2_ hb ho31
     refine hK.out _ _ ⟨(bc BK287.out 0).trans rfl, (bc BK287.out 1).trans rfl, (bc BK287.out 2).trans rfl⟩ (fun hHeld => ?_)
     clear hK K
     refine norm_ (a' := ?_) ?_ ?_
     rotate_left
     ·show Act.put _ (some 32) _ = _
      simp only [Act.put, psl, i64_w, i32_w]
      rfl
     refine one_ (i := 2) (N := some 34) (fl 12 4 [5]) rfl rfl (one_of HT_.out (by kernel_rfl)) (by decide) (fun K hK => ?_)
     refine Kd.R_append_rows_step k68 (w0 := w) w.heap.size (by rfl) (.tmp 32) (.tmp 33) 22 68 (.agg #[(.string ⟨#[]⟩), (.int .i64 0), (.int .i64 0), (.int .i64 0), (.int .i64 0), (.int .i64 0), (.int .i64 0), (.int .i64 0)]) 72 rfl Try.underlying22 info68 rfl (by decide) (by omega) v294 y293 l0 _ _ _ (fun _ => True) (fun _ => False) rfl rfl ?aO ?aR (fun _ _ h => h) (fun _ h => h.elim) ?aF ?aB ?aS ?aL ?_
     (case aR => repeat (first | exact (Kd.C_below HR0.out HB.out) | (with_reducible refine Kd.C_alloc ?_ _) | (with_reducible refine Kd.C_drewN ?_ _) | (with_reducible refine Kd.C_drew ?_)))
     (case aB => exact (fW HB.out))
     (case aF => exact (fun _ _ => trivial))
     (case aO => exact (fR HO295.out))
     (case aS => exact (wz (fW HB.out)))
     (case aL => have := LMc14.out; omega)
     intro v297 w32 ho hb hg hat
     rw [← Ny296.out] at ho
     have n0_ := am (blk_grown (g := gb287) (o := .cells #[.int .i64 a2_0, .int .i64 a2_1, .int .i64 a2_2] 24 (0, 0)) (fb BK287.out) hg (Kd.R_ne HO295.out BK287.out (by decide)))
     have n1_ := am (hb)
     have n2_ := am (ho)
     clear BK287 HB HO295
     have BK287 := n0_
     have HB := n1_
     have HO298 := n2_
     clear n0_ n1_ n2_ ho hb hg hat
     refine hK.out _ _ ⟨(bc BK287.out 0).trans rfl, (bc BK287.out 1).trans rfl, (bc BK287.out 2).trans rfl⟩ (fun hHeld => ?_)
     clear hK K
     refine norm_ (a' := ?_) ?_ ?_
     rotate_left
     ·show Act.put _ (some 34) _ = _
      simp only [Act.put, psl, i64_w, i32_w]
      rfl
     refine one_ (i := 4) (N := some 36) (fl 12 6 []) rfl rfl (one_of HT_.out (by kernel_rfl)) (by decide) (fun K hK => ?_)
     refine Kd.R_append_rows_step k68 (w0 := w) w.heap.size (by rfl) (.tmp 34) (.tmp 35) 22 68 (.agg #[(.string ⟨#[]⟩), (.int .i64 0), (.int .i64 0), (.int .i64 0), (.int .i64 0), (.int .i64 0), (.int .i64 0), (.int .i64 0)]) 72 rfl Try.underlying22 info68 rfl (by decide) (by omega) v297 y296 l1 _ _ _ (fun _ => True) (fun _ => False) rfl rfl ?aO ?aR (fun _ _ h => h) (fun _ h => h.elim) ?aF ?aB ?aS ?aL ?_
     (case aR => repeat (first | exact (Kd.C_below HR1.out HB.out) | (with_reducible refine Kd.C_alloc ?_ _) | (with_reducible refine Kd.C_drewN ?_ _) | (with_reducible refine Kd.C_drew ?_)))
     (case aB => exact (fW HB.out))
     (case aF => exact (fun _ _ => trivial))
     (case aO => exact (fR HO298.out))
     (case aS => exact (wz (fW HB.out)))
     (case aL => have := LMc15.out; omega)
     intro v300 w33 ho hb hg hat
     rw [← Ny299.out] at ho
     have n0_ := am (blk_grown (g := gb287) (o := .cells #[.int .i64 a2_0, .int .i64 a2_1, .int .i64 a2_2] 24 (0, 0)) (fb BK287.out) hg (Kd.R_ne HO298.out BK287.out (by decide)))
     have n1_ := am (hb)
     have n2_ := am (ho)
     clear BK287 HB HO298
     have BK287 := n0_
     have HB := n1_
     have HO301 := n2_
     clear n0_ n1_ n2_ ho hb hg hat
     obtain ⟨Ao34, co34, eo34⟩ := Kd.R_slice HO301.out
     (first | subst eo34 | (injection eo34 with f1_ f2_ f3_; have f4_ := f1_.symm; have f5_ := f3_.symm; clear f1_ f2_ f3_; subst f4_; subst f5_))
     refine hK.out _ _ ⟨(bc BK287.out 0).trans rfl, (bc BK287.out 1).trans rfl, (bc BK287.out 2).trans rfl⟩ (fun hHeld => ?_)
     clear hK K
     refine norm_ (a' := ?_) ?_ ?_
     rotate_left
     ·show Act.put _ (some 36) _ = _
      simp only [Act.put, psl, i64_w, i32_w]
      rfl
     refine one_ (i := 6) (N := some 38) (fl 12 7 []) rfl rfl (one_of HT_.out (by kernel_rfl)) (by decide) (fun K hK => ?_)
     refine goes_ Try.func13 (by kernel_rfl) rfl #[.slice Ao34 y299.length co34, .agg #[.int .i64 a2_0, .int .i64 a2_1, .int .i64 a2_2]] (by rfl) rfl rfl (by (try simp only [pml]); first | done | rfl | (simp only [pdt]; rfl)) ?_
     with_reducible refine (model_State.calls kj5 _ _ y299 a2_0 a2_1 a2_2 t302 t303 _ ?side1 ?side2 A16.out).mono ?_
     (case side1 => repeat (first | exact (Kd.R_reads' HO301.out).2.2 | (with_reducible refine Kd.C_alloc ?_ _) | (with_reducible refine Kd.C_drewN ?_ _) | (with_reducible refine Kd.C_drew ?_)))
     (case side2 => exact (Kd.R_reads' HO301.out).2.1)
     rintro e w35 ⟨rfl, hb⟩
     refine ⟨_, rfl, ?_⟩
     have n0_ := dR HO301 hb
     have n1_ := bB BK287 hb
     have n2_ := bS HB hb
     clear HO301 BK287 HB
     have HO301 := n0_
     have BK287 := n1_
     have HB := n2_
     clear n0_ n1_ n2_
     (try clear hb)
     (try clear hb2)
     (try clear hk)
     (try clear hi)
     refine hK.out _ _ ⟨(bc BK287.out 0).trans rfl, (bc BK287.out 1).trans rfl, (bc BK287.out 2).trans rfl⟩ (fun hHeld => ?_)
     clear hK K
     refine norm_ (a' := ?_) ?_ ?_
     rotate_left
     ·show Act.put _ (some 38) _ = _
      simp only [Act.put, psl, i64_w, i32_w]
      rfl
     refine pu (i := 7) (N := some 31) (fl 12 8 []) HT_ ?_
     refine pu (i := 8) (N := some 39) (fl 12 9 []) HT_ ?_
     refine pu (i := 9) (N := some 40) (fl 12 10 []) HT_ ?_
     refine pu (i := 10) (N := some 9) (fl 12 11 []) HT_ ?_
     refine pu (i := 11) (N := some 10) (fl 12 12 []) HT_ ?_
     refine done_ (done_of HT_.out (by kernel_rfl)) ?_
     try go_wp2
     have n0_ := am (Kd.R_drew HO301.out)
     have n1_ := am (bd BK287.out)
     have n2_ := am (wd HB.out)
     clear HO301 BK287 HB
     have HO301 := n0_
     have BK287 := n1_
     have HB := n2_
     clear n0_ n1_ n2_
     refine start_ (n := 12) (S := fun w' => w'.cell? ⟨gb287, 0, none⟩ = some (.int .i64 a2_0) ∧ w'.cell? ⟨gb287, 1, none⟩ = some (.int .i64 a2_1) ∧ w'.cell? ⟨gb287, 2, none⟩ = some (.int .i64 a2_2)) (ds := []) #[F,F,F,F,F,F,F,F,F,F,F,F] (by kernel_rfl) rfl rfl ⟨(bc BK287.out 0).trans rfl, (bc BK287.out 1).trans rfl, (bc BK287.out 2).trans rfl⟩ (fun hHeld => ?_); refine with_tabW w_ModelGrows.tab7 w_ModelGrows.bits7 (fun HT_ HW_ => ?_)
     generalize w35.drew = w36 at HO301 BK287 HB hHeld ⊢
     refine pu (i := 1) (N := some 43) (fl 12 0 [1]) HT_ ?_
     refine pu (i := 3) (N := some 45) (fl 12 0 [1, 3]) HT_ ?_
     refine tk (i := 5) (N := some 47) (fl 12 0 [1, 3, 5]) HT_ HW_ hHeld ?_
     refine one_ (i := 0) (N := some 42) (fl 12 2 [3, 5]) rfl rfl (one_of HT_.out (by kernel_rfl)) (by decide) (fun K hK => ?_)
     refine Kd.R_lit_step k68 _ 68 ?hg (N := 42) ?hd (xs := ([] : List (S68))) (inner := []) (ok := fun _ => True) (okp := fun _ => True) ?hr ?hp (fun _ hk => hk) trivial (Below.refl _ _) (Nat.le_refl _) (by simp) ?_; (case hd | hg => rfl); (case hr => first | (go_simp; done) | (go_simp; rfl)); (case hp => exact (Reps.none _ _))
     intro v305 w37 ho38 hb hg_ hnew_
     clear hg_ hnew_
     (first | rw [← Ny304.out] at ho38 | (simp only [Int.reduceToNat] at ho38; rw [← Ny304.out] at ho38))
     have n0_ := am (Kd.R_elder' (fR HO301.out) (Kd.R_base ho38) hb)
     have n1_ := am (Kd.R_lower (Kd.R_new' ho38 (Kd.R_lt (fR HO301.out))) (wz (fW HB.out)))
     have n2_ := bB BK287 hb
     have n3_ := bS HB hb
     clear HO301 BK287 HB
     have HO301 := n0_
     have HO306 := n1_
     have BK287 := n2_
     have HB := n3_
     clear n0_ n1_ n2_ n3_ hb ho38
     refine hK.out _ _ ⟨(bc BK287.out 0).trans rfl, (bc BK287.out 1).trans rfl, (bc BK287.out 2).trans rfl⟩ (fun hHeld => ?_)
     clear hK K
     refine norm_ (a' := ?_) ?_ ?_
     rotate_left
     ·show Act.put _ (some 42) _ = _
      simp only [Act.put, psl, i64_w, i32_w]
      rfl
     refine one_ (i := 2) (N := some 44) (fl 12 4 [5]) rfl rfl (one_of HT_.out (by kernel_rfl)) (by decide) (fun K hK => ?_)
     refine Kd.R_append_rows_step k68 (w0 := w) w.heap.size (by rfl) (.tmp 42) (.tmp 43) 22 68 (.agg #[(.string ⟨#[]⟩), (.int .i64 0), (.int .i64 0), (.int .i64 0), (.int .i64 0), (.int .i64 0), (.int .i64 0), (.int .i64 0)]) 72 rfl Try.underlying22 info68 rfl (by decide) (by omega) v305 y304 l1 _ _ _ (fun k_ => some k_ ≠ (.slice Ao34 y299.length co34 : Value).ownBlock) (fun _ => False) rfl rfl ?aO ?aR (fun _ _ h => h) (fun _ h => h.elim) ?aF ?aB ?aS ?aL ?_
     (case aR => repeat (first | exact (Kd.C_below HR1.out HB.out) | (with_reducible refine Kd.C_alloc ?_ _) | (with_reducible refine Kd.C_drewN ?_ _) | (with_reducible refine Kd.C_drew ?_)))
     (case aB => exact (fW HB.out))
     (case aF => exact (fun k_ hk => Kd.fresh' (Kd.R_lt (fR HO301.out)) k_ hk))
     (case aO => exact (by (with_reducible repeat (first | apply Kd.R_alloc | apply Kd.R_drewN | apply Kd.R_drew)); exact Kd.R_mono HO306.out (fun _ hk => hk.2)))
     (case aS => exact (wz (fW HB.out)))
     (case aL => have := LMc17.out; omega)
     intro v308 w39 ho hb hg hat
     rw [← Ny307.out] at ho
     have n0_ := am (blk_grown (g := gb287) (o := .cells #[.int .i64 a2_0, .int .i64 a2_1, .int .i64 a2_2] 24 (0, 0)) (fb BK287.out) hg (Kd.R_ne HO306.out BK287.out (by decide)))
     have n1_ := am (Kd.R_after (ok := (fun _ => True)) (fR HO301.out) hg hat)
     have n2_ := am (hb)
     have n3_ := am (ho)
     clear BK287 HO301 HB HO306
     have BK287 := n0_
     have HO301 := n1_
     have HB := n2_
     have HO309 := n3_
     clear n0_ n1_ n2_ n3_ ho hb hg hat
     refine hK.out _ _ ⟨(bc BK287.out 0).trans rfl, (bc BK287.out 1).trans rfl, (bc BK287.out 2).trans rfl⟩ (fun hHeld => ?_)
     clear hK K
     refine norm_ (a' := ?_) ?_ ?_
     rotate_left
     ·show Act.put _ (some 44) _ = _
      simp only [Act.put, psl, i64_w, i32_w]
      rfl
     refine one_ (i := 4) (N := some 46) (fl 12 6 []) rfl rfl (one_of HT_.out (by kernel_rfl)) (by decide) (fun K hK => ?_)
     refine Kd.R_append_rows_step k68 (w0 := w) w.heap.size (by rfl) (.tmp 44) (.tmp 45) 22 68 (.agg #[(.string ⟨#[]⟩), (.int .i64 0), (.int .i64 0), (.int .i64 0), (.int .i64 0), (.int .i64 0), (.int .i64 0), (.int .i64 0)]) 72 rfl Try.underlying22 info68 rfl (by decide) (by omega) v308 y307 l0 _ _ _ (fun k_ => some k_ ≠ (.slice Ao34 y299.length co34 : Value).ownBlock) (fun _ => False) rfl rfl ?aO ?aR (fun _ _ h => h) (fun _ h => h.elim) ?aF ?aB ?aS ?aL ?_
     (case aR => repeat (first | exact (Kd.C_below HR0.out HB.out) | (with_reducible refine Kd.C_alloc ?_ _) | (with_reducible refine Kd.C_drewN ?_ _) | (with_reducible refine Kd.C_drew ?_)))
     (case aB => exact (fW HB.out))
     (case aF => exact (fun k_ hk => Kd.fresh' (Kd.R_lt (fR HO301.out)) k_ hk))
     (case aO => exact (fR HO309.out))
     (case aS => exact (wz (fW HB.out)))
     (case aL => have := LMc18.out; omega)
     intro v311 w40 ho hb hg hat
     rw [← Ny310.out] at ho
     have n0_ := am (blk_grown (g := gb287) (o := .cells #[.int .i64 a2_0, .int .i64 a2_1, .int .i64 a2_2] 24 (0, 0)) (fb BK287.out) hg (Kd.R_ne HO309.out BK287.out (by decide)))
     have n1_ := am (Kd.R_after (ok := (fun _ => True)) (fR HO301.out) hg hat)
     have n2_ := am (hb)
     have n3_ := am (ho)
     clear BK287 HO301 HB HO309
     have BK287 := n0_
     have HO301 := n1_
     have HB := n2_
     have HO312 := n3_
     clear n0_ n1_ n2_ n3_ ho hb hg hat
     obtain ⟨Ao41, co41, eo41⟩ := Kd.R_slice HO312.out
     (first | subst eo41 | (injection eo41 with f1_ f2_ f3_; have f4_ := f1_.symm; have f5_ := f3_.symm; clear f1_ f2_ f3_; subst f4_; subst f5_))
     refine hK.out _ _ ⟨(bc BK287.out 0).trans rfl, (bc BK287.out 1).trans rfl, (bc BK287.out 2).trans rfl⟩ (fun hHeld => ?_)
     clear hK K
     refine norm_ (a' := ?_) ?_ ?_
     rotate_left
     ·show Act.put _ (some 46) _ = _
      simp only [Act.put, psl, i64_w, i32_w]
      rfl
     refine one_ (i := 6) (N := some 48) (fl 12 7 []) rfl rfl (one_of HT_.out (by kernel_rfl)) (by decide) (fun K hK => ?_)
     refine goes_ Try.func13 (by kernel_rfl) rfl #[.slice Ao41 y310.length co41, .agg #[.int .i64 a2_0, .int .i64 a2_1, .int .i64 a2_2]] (by rfl) rfl rfl (by (try simp only [pml]); first | done | rfl | (simp only [pdt]; rfl)) ?_
     with_reducible refine (model_State.calls kj5 _ _ y310 a2_0 a2_1 a2_2 t313 t314 _ ?side1 ?side2 A19.out).mono ?_
     (case side1 => repeat (first | exact (Kd.R_reads' HO312.out).2.2 | (with_reducible refine Kd.C_alloc ?_ _) | (with_reducible refine Kd.C_drewN ?_ _) | (with_reducible refine Kd.C_drew ?_)))
     (case side2 => exact (Kd.R_reads' HO312.out).2.1)
     rintro e w42 ⟨rfl, hb⟩
     refine ⟨_, rfl, ?_⟩
     have n0_ := dR HO301 hb
     have n1_ := dR HO312 hb
     have n2_ := bB BK287 hb
     have n3_ := bS HB hb
     clear HO301 HO312 BK287 HB
     have HO301 := n0_
     have HO312 := n1_
     have BK287 := n2_
     have HB := n3_
     clear n0_ n1_ n2_ n3_
     (try clear hb)
     (try clear hb2)
     (try clear hk)
     (try clear hi)
     refine hK.out _ _ ⟨(bc BK287.out 0).trans rfl, (bc BK287.out 1).trans rfl, (bc BK287.out 2).trans rfl⟩ (fun hHeld => ?_)
     clear hK K
     refine norm_ (a' := ?_) ?_ ?_
     rotate_left
     ·show Act.put _ (some 48) _ = _
      simp only [Act.put, psl, i64_w, i32_w]
      rfl
     refine pu (i := 7) (N := some 41) (fl 12 8 []) HT_ ?_
     refine pu (i := 8) (N := some 49) (fl 12 9 []) HT_ ?_
     refine pu (i := 9) (N := some 50) (fl 12 10 []) HT_ ?_
     refine pu (i := 10) (N := some 11) (fl 12 11 []) HT_ ?_
     refine pu (i := 11) (N := some 12) (fl 12 12 []) HT_ ?_
     refine done_ (done_of HT_.out (by kernel_rfl)) ?_
     try go_wp2
     have n0_ := am (Kd.R_drew HO301.out)
     have n1_ := am (Kd.R_drew HO312.out)
     have n2_ := am (bd BK287.out)
     have n3_ := am (wd HB.out)
     clear HO301 HO312 BK287 HB
     have HO301 := n0_
     have HO312 := n1_
     have BK287 := n2_
     have HB := n3_
     clear n0_ n1_ n2_ n3_
     refine start_ (n := 14) (S := fun w' => w'.cell? ⟨gb287, 0, none⟩ = some (.int .i64 a2_0) ∧ w'.cell? ⟨gb287, 1, none⟩ = some (.int .i64 a2_1) ∧ w'.cell? ⟨gb287, 2, none⟩ = some (.int .i64 a2_2)) (ds := []) #[F,F,F,F,F,F,F,F,F,F,F,F,F,F] (by kernel_rfl) rfl rfl ⟨(bc BK287.out 0).trans rfl, (bc BK287.out 1).trans rfl, (bc BK287.out 2).trans rfl⟩ (fun hHeld => ?_); refine with_tabW w_ModelGrows.tab8 w_ModelGrows.bits8 (fun HT_ HW_ => ?_)
     generalize w42.drew = w43 at HO301 HO312 BK287 HB hHeld ⊢
     refine pu (i := 1) (N := some 53) (fl 14 0 [1]) HT_ ?_
     refine pu (i := 3) (N := some 55) (fl 14 0 [1, 3]) HT_ ?_
     refine pu (i := 5) (N := some 57) (fl 14 0 [1, 3, 5]) HT_ ?_
     refine tk (i := 7) (N := some 59) (fl 14 0 [1, 3, 5, 7]) HT_ HW_ hHeld ?_
     refine one_ (i := 0) (N := some 52) (fl 14 2 [3, 5, 7]) rfl rfl (one_of HT_.out (by kernel_rfl)) (by decide) (fun K hK => ?_)
     refine Kd.R_lit_step k68 _ 68 ?hg (N := 52) ?hd (xs := ([] : List (S68))) (inner := []) (ok := fun _ => True) (okp := fun _ => True) ?hr ?hp (fun _ hk => hk) trivial (Below.refl _ _) (Nat.le_refl _) (by simp) ?_; (case hd | hg => rfl); (case hr => first | (go_simp; done) | (go_simp; rfl)); (case hp => exact (Reps.none _ _))
     intro v316 w44 ho45 hb hg_ hnew_
     clear hg_ hnew_
     (first | rw [← Ny315.out] at ho45 | (simp only [Int.reduceToNat] at ho45; rw [← Ny315.out] at ho45))
     have n0_ := am (Kd.R_elder' (fR HO301.out) (Kd.R_base ho45) hb)
     have n1_ := am (Kd.R_elder' (fR HO312.out) (Kd.R_base ho45) hb)
     have n2_ := am (Kd.R_lower (Kd.R_new' (Kd.R_new' ho45 (Kd.R_lt (fR HO301.out))) (Kd.R_lt (fR HO312.out))) (wz (fW HB.out)))
     have n3_ := bB BK287 hb
     have n4_ := bS HB hb
     clear HO301 HO312 BK287 HB
     have HO301 := n0_
     have HO312 := n1_
     have HO317 := n2_
     have BK287 := n3_
     have HB := n4_
     clear n0_ n1_ n2_ n3_ n4_ hb ho45
     refine hK.out _ _ ⟨(bc BK287.out 0).trans rfl, (bc BK287.out 1).trans rfl, (bc BK287.out 2).trans rfl⟩ (fun hHeld => ?_)
     clear hK K
     refine norm_ (a' := ?_) ?_ ?_
     rotate_left
     ·show Act.put _ (some 52) _ = _
      simp only [Act.put, psl, i64_w, i32_w]
      rfl
     refine one_ (i := 2) (N := some 54) (fl 14 4 [5, 7]) rfl rfl (one_of HT_.out (by kernel_rfl)) (by decide) (fun K hK => ?_)
     refine Kd.R_append_rows_step k68 (w0 := w) w.heap.size (by rfl) (.tmp 52) (.tmp 53) 22 68 (.agg #[(.string ⟨#[]⟩), (.int .i64 0), (.int .i64 0), (.int .i64 0), (.int .i64 0), (.int .i64 0), (.int .i64 0), (.int .i64 0)]) 72 rfl Try.underlying22 info68 rfl (by decide) (by omega) v316 y315 l1 _ _ _ (fun k_ => some k_ ≠ (.slice Ao34 y299.length co34 : Value).ownBlock ∧ some k_ ≠ (.slice Ao41 y310.length co41 : Value).ownBlock) (fun _ => False) rfl rfl ?aO ?aR (fun _ _ h => h) (fun _ h => h.elim) ?aF ?aB ?aS ?aL ?_
     (case aR => repeat (first | exact (Kd.C_below HR1.out HB.out) | (with_reducible refine Kd.C_alloc ?_ _) | (with_reducible refine Kd.C_drewN ?_ _) | (with_reducible refine Kd.C_drew ?_)))
     (case aB => exact (fW HB.out))
     (case aF => exact (fun k_ hk => ⟨Kd.fresh' (Kd.R_lt (fR HO301.out)) k_ hk, Kd.fresh' (Kd.R_lt (fR HO312.out)) k_ hk⟩))
     (case aO => exact (by (with_reducible repeat (first | apply Kd.R_alloc | apply Kd.R_drewN | apply Kd.R_drew)); exact Kd.R_mono HO317.out (fun _ hk => ⟨hk.1.2, hk.2⟩)))
     (case aS => exact (wz (fW HB.out)))
     (case aL => have := LMc20.out; omega)
     intro v319 w46 ho hb hg hat
     rw [← Ny318.out] at ho
     have n0_ := am (blk_grown (g := gb287) (o := .cells #[.int .i64 a2_0, .int .i64 a2_1, .int .i64 a2_2] 24 (0, 0)) (fb BK287.out) hg (Kd.R_ne HO317.out BK287.out (by decide)))
     have n1_ := am (Kd.R_after (ok := (fun k_ => some k_ ≠ (.slice Ao41 y310.length co41 : Value).ownBlock)) (by (with_reducible repeat (first | apply Kd.R_alloc | apply Kd.R_drewN | apply Kd.R_drew)); exact Kd.R_mono HO301.out (fun _ hk => ⟨hk.1.2, hk.2⟩)) hg hat)
     have n2_ := am (Kd.R_after (ok := (fun k_ => some k_ ≠ (.slice Ao34 y299.length co34 : Value).ownBlock)) (fR HO312.out) hg hat)
     have n3_ := am (hb)
     have n4_ := am (ho)
     clear BK287 HO301 HO312 HB HO317
     have BK287 := n0_
     have HO301 := n1_
     have HO312 := n2_
     have HB := n3_
     have HO320 := n4_
     clear n0_ n1_ n2_ n3_ n4_ ho hb hg hat
     refine hK.out _ _ ⟨(bc BK287.out 0).trans rfl, (bc BK287.out 1).trans rfl, (bc BK287.out 2).trans rfl⟩ (fun hHeld => ?_)
     clear hK K
     refine norm_ (a' := ?_) ?_ ?_
     rotate_left
     ·show Act.put _ (some 54) _ = _
      simp only [Act.put, psl, i64_w, i32_w]
      rfl
     refine one_ (i := 4) (N := some 56) (fl 14 6 [7]) rfl rfl (one_of HT_.out (by kernel_rfl)) (by decide) (fun K hK => ?_)
     refine Kd.R_append_rows_step k68 (w0 := w) w.heap.size (by rfl) (.tmp 54) (.tmp 55) 22 68 (.agg #[(.string ⟨#[]⟩), (.int .i64 0), (.int .i64 0), (.int .i64 0), (.int .i64 0), (.int .i64 0), (.int .i64 0), (.int .i64 0)]) 72 rfl Try.underlying22 info68 rfl (by decide) (by omega) v319 y318 l0 _ _ _ (fun k_ => some k_ ≠ (.slice Ao34 y299.length co34 : Value).ownBlock ∧ some k_ ≠ (.slice Ao41 y310.length co41 : Value).ownBlock) (fun _ => False) rfl rfl ?aO ?aR (fun _ _ h => h) (fun _ h => h.elim) ?aF ?aB ?aS ?aL ?_
     (case aR => repeat (first | exact (Kd.C_below HR0.out HB.out) | (with_reducible refine Kd.C_alloc ?_ _) | (with_reducible refine Kd.C_drewN ?_ _) | (with_reducible refine Kd.C_drew ?_)))
     (case aB => exact (fW HB.out))
     (case aF => exact (fun k_ hk => ⟨Kd.fresh' (Kd.R_lt (fR HO301.out)) k_ hk, Kd.fresh' (Kd.R_lt (fR HO312.out)) k_ hk⟩))
     (case aO => exact (fR HO320.out))
     (case aS => exact (wz (fW HB.out)))
     (case aL => have := LMc21.out; omega)
     intro v322 w47 ho hb hg hat
     rw [← Ny321.out] at ho
     have n0_ := am (blk_grown (g := gb287) (o := .cells #[.int .i64 a2_0, .int .i64 a2_1, .int .i64 a2_2] 24 (0, 0)) (fb BK287.out) hg (Kd.R_ne HO320.out BK287.out (by decide)))
     have n1_ := am (Kd.R_after (ok := (fun k_ => some k_ ≠ (.slice Ao41 y310.length co41 : Value).ownBlock)) (fR HO301.out) hg hat)
     have n2_ := am (Kd.R_after (ok := (fun k_ => some k_ ≠ (.slice Ao34 y299.length co34 : Value).ownBlock)) (fR HO312.out) hg hat)
     have n3_ := am (hb)
     have n4_ := am (ho)
     clear BK287 HO301 HO312 HB HO320
     have BK287 := n0_
     have HO301 := n1_
     have HO312 := n2_
     have HB := n3_
     have HO323 := n4_
     clear n0_ n1_ n2_ n3_ n4_ ho hb hg hat
     refine hK.out _ _ ⟨(bc BK287.out 0).trans rfl, (bc BK287.out 1).trans rfl, (bc BK287.out 2).trans rfl⟩ (fun hHeld => ?_)
     clear hK K
     refine norm_ (a' := ?_) ?_ ?_
     rotate_left
     ·show Act.put _ (some 56) _ = _
      simp only [Act.put, psl, i64_w, i32_w]
      rfl
     refine one_ (i := 6) (N := some 58) (fl 14 8 []) rfl rfl (one_of HT_.out (by kernel_rfl)) (by decide) (fun K hK => ?_)
     refine Kd.R_append_rows_step k68 (w0 := w) w.heap.size (by rfl) (.tmp 56) (.tmp 57) 22 68 (.agg #[(.string ⟨#[]⟩), (.int .i64 0), (.int .i64 0), (.int .i64 0), (.int .i64 0), (.int .i64 0), (.int .i64 0), (.int .i64 0)]) 72 rfl Try.underlying22 info68 rfl (by decide) (by omega) v322 y321 l1 _ _ _ (fun k_ => some k_ ≠ (.slice Ao34 y299.length co34 : Value).ownBlock ∧ some k_ ≠ (.slice Ao41 y310.length co41 : Value).ownBlock) (fun _ => False) rfl rfl ?aO ?aR (fun _ _ h => h) (fun _ h => h.elim) ?aF ?aB ?aS ?aL ?_
     (case aR => repeat (first | exact (Kd.C_below HR1.out HB.out) | (with_reducible refine Kd.C_alloc ?_ _) | (with_reducible refine Kd.C_drewN ?_ _) | (with_reducible refine Kd.C_drew ?_)))
     (case aB => exact (fW HB.out))
     (case aF => exact (fun k_ hk => ⟨Kd.fresh' (Kd.R_lt (fR HO301.out)) k_ hk, Kd.fresh' (Kd.R_lt (fR HO312.out)) k_ hk⟩))
     (case aO => exact (fR HO323.out))
     (case aS => exact (wz (fW HB.out)))
     (case aL => have := LMc22.out; omega)
     intro v325 w48 ho hb hg hat
     rw [← Ny324.out] at ho
     have n0_ := am (blk_grown (g := gb287) (o := .cells #[.int .i64 a2_0, .int .i64 a2_1, .int .i64 a2_2] 24 (0, 0)) (fb BK287.out) hg (Kd.R_ne HO323.out BK287.out (by decide)))
     have n1_ := am (Kd.R_after (ok := (fun k_ => some k_ ≠ (.slice Ao41 y310.length co41 : Value).ownBlock)) (fR HO301.out) hg hat)
     have n2_ := am (Kd.R_after (ok := (fun k_ => some k_ ≠ (.slice Ao34 y299.length co34 : Value).ownBlock)) (fR HO312.out) hg hat)
     have n3_ := am (hb)
     have n4_ := am (ho)
     clear BK287 HO301 HO312 HB HO323
     have BK287 := n0_
     have HO301 := n1_
     have HO312 := n2_
     have HB := n3_
     have HO326 := n4_
     clear n0_ n1_ n2_ n3_ n4_ ho hb hg hat
     obtain ⟨Ao49, co49, eo49⟩ := Kd.R_slice HO326.out
     (first | subst eo49 | (injection eo49 with f1_ f2_ f3_; have f4_ := f1_.symm; have f5_ := f3_.symm; clear f1_ f2_ f3_; subst f4_; subst f5_))
     refine hK.out _ _ ⟨(bc BK287.out 0).trans rfl, (bc BK287.out 1).trans rfl, (bc BK287.out 2).trans rfl⟩ (fun hHeld => ?_)
     clear hK K
     refine norm_ (a' := ?_) ?_ ?_
     rotate_left
     ·show Act.put _ (some 58) _ = _
      simp only [Act.put, psl, i64_w, i32_w]
      rfl
     refine one_ (i := 8) (N := some 60) (fl 14 9 []) rfl rfl (one_of HT_.out (by kernel_rfl)) (by decide) (fun K hK => ?_)
     refine goes_ Try.func13 (by kernel_rfl) rfl #[.slice Ao49 y324.length co49, .agg #[.int .i64 a2_0, .int .i64 a2_1, .int .i64 a2_2]] (by rfl) rfl rfl (by (try simp only [pml]); first | done | rfl | (simp only [pdt]; rfl)) ?_
     with_reducible refine (model_State.calls kj5 _ _ y324 a2_0 a2_1 a2_2 t327 t328 _ ?side1 ?side2 A23.out).mono ?_
     (case side1 => repeat (first | exact (Kd.R_reads' HO326.out).2.2 | (with_reducible refine Kd.C_alloc ?_ _) | (with_reducible refine Kd.C_drewN ?_ _) | (with_reducible refine Kd.C_drew ?_)))
     (case side2 => exact (Kd.R_reads' HO326.out).2.1)
     rintro e w50 ⟨rfl, hb⟩
     refine ⟨_, rfl, ?_⟩
     have n0_ := dR HO301 hb
     have n1_ := dR HO312 hb
     have n2_ := dR HO326 hb
     have n3_ := bB BK287 hb
     have n4_ := bS HB hb
     clear HO301 HO312 HO326 BK287 HB
     have HO301 := n0_
     have HO312 := n1_
     have HO326 := n2_
     have BK287 := n3_
     have HB := n4_
     clear n0_ n1_ n2_ n3_ n4_
     (try clear hb)
     (try clear hb2)
     (try clear hk)
     (try clear hi)
     refine hK.out _ _ ⟨(bc BK287.out 0).trans rfl, (bc BK287.out 1).trans rfl, (bc BK287.out 2).trans rfl⟩ (fun hHeld => ?_)
     clear hK K
     refine norm_ (a' := ?_) ?_ ?_
     rotate_left
     ·show Act.put _ (some 60) _ = _
      simp only [Act.put, psl, i64_w, i32_w]
      rfl
     refine pu (i := 9) (N := some 51) (fl 14 10 []) HT_ ?_
     refine pu (i := 10) (N := some 61) (fl 14 11 []) HT_ ?_
     refine pu (i := 11) (N := some 62) (fl 14 12 []) HT_ ?_
     refine pu (i := 12) (N := some 13) (fl 14 13 []) HT_ ?_
     refine pu (i := 13) (N := some 14) (fl 14 14 []) HT_ ?_
     refine done_ (done_of HT_.out (by kernel_rfl)) ?_
     go_upto_region 11 with (fail)
     go_cut [6] (fun v6 wc => ∃ (kq : Nat) (x6_25 : Bool), v6 = .bool x6_25 ∧ Aside0 (w_ModelGrows.j1 kq x6_25 = some r) ∧ Aside0 (kq ≤ kj5) ∧ Aside0 (wc.heap[gb287]? = some (.cells #[.int .i64 a2_0, .int .i64 a2_1, .int .i64 a2_2] 24 (0, 0))) ∧ Aside0 (Below w.heap.size w wc))
     case first =>
      have H := HC26.out
      clear HC26
      by_cases c51 : t314 = 0
      rotate_left
      ·rw [if_neg c51] at H
       have c51b0 : (t314 == 0) = false := beq_eq_false_iff_ne.mpr c51
       have c51b1 : (t314 != 0) = true := bne_iff_ne.mpr c51
       (first | rw [c51b0] | (simp only [i64_w, i32_w]; rw [c51b0]) | skip)
       have H' := am H
       clear H
       go_wp2
       go_meet
       case rel => exact ⟨_, (false), sqD, H', ⟨by have := HJ5.out; first | omega | exact Nat.le_refl _⟩, ⟨fb BK287.out⟩, ⟨fW HB.out⟩⟩
      rw [if_pos c51] at H
      have c51b0 : (t314 == 0) = true := beq_iff_eq.mpr c51
      have c51b1 : (t314 != 0) = false := bne_eq_false_iff_eq.mpr c51
      clear c51
      (first | rw [c51b0] | (simp only [i64_w, i32_w]; rw [c51b0]) | skip)
      by_cases c52 : t328 = 0
      rotate_left
      ·rw [if_neg c52] at H
       have c52b0 : (t328 == 0) = false := beq_eq_false_iff_ne.mpr c52
       have c52b1 : (t328 != 0) = true := bne_iff_ne.mpr c52
       have H' := am H
       clear H
       go_wp2
       go_meet
       case rel => exact ⟨_, (false), sqD, H', ⟨by have := HJ5.out; first | omega | exact Nat.le_refl _⟩, ⟨fb BK287.out⟩, ⟨fW HB.out⟩⟩
      rw [if_pos c52] at H
      have c52b0 : (t328 == 0) = true := beq_iff_eq.mpr c52
      have c52b1 : (t328 != 0) = false := bne_eq_false_iff_eq.mpr c52
      clear c52
      replace H := Option.bind_eq_some_iff.mp H
      obtain ⟨t329, A530, H⟩ := H
      replace H : (if t329 = true then (if t302 = t313 then (w_ModelGrows.j1 kj5 (t302 == t327)) else (w_ModelGrows.j1 kj5 false)) else (w_ModelGrows.j1 kj5 false)) = some r := H
      have A53 := am A530
      clear A530
      by_cases c54 : t329 = true
      rotate_left
      ·replace c54 := Bool.eq_false_iff.mpr c54
       subst c54
       have H1 : (w_ModelGrows.j1 kj5 false) = some r := by rw [if_neg (show ¬ (false = true) by decide)] at H; exact H
       clear H
       have H := H1
       clear H1
       have H' := am H
       clear H
       go_wp2_with (first | (go_at_call 20; (with_reducible refine (w_above.calls kj5 t302 t291 false _ A53.out).mono ?_); rintro e w' ⟨rfl, ⟨nd, rfl⟩⟩))
       go_meet
       case rel => exact ⟨_, (false), sqD, H', ⟨by have := HJ5.out; first | omega | exact Nat.le_refl _⟩, ⟨fb BK287.out⟩, ⟨fW HB.out⟩⟩
      subst c54
      have H1 : (if t302 = t313 then (w_ModelGrows.j1 kj5 (t302 == t327)) else (w_ModelGrows.j1 kj5 false)) = some r := by rw [if_pos rfl] at H; exact H
      clear H
      have H := H1
      clear H1
      by_cases c55 : t302 = t313
      ·rw [if_pos c55] at H
       have c55b0 : (t302 == t313) = true := beq_iff_eq.mpr c55
       have c55b1 : (t302 != t313) = false := bne_eq_false_iff_eq.mpr c55
       clear c55
       have H' := am H
       clear H
       go_wp2_with (first | (go_at_call 20; (with_reducible refine (w_above.calls kj5 t302 t291 true _ A53.out).mono ?_); rintro e w' ⟨rfl, ⟨nd, rfl⟩⟩))
       go_meet
       case rel => exact ⟨_, ((t302 == t327)), sqD, H', ⟨by have := HJ5.out; first | omega | exact Nat.le_refl _⟩, ⟨fb BK287.out⟩, ⟨fW HB.out⟩⟩
      rw [if_neg c55] at H
      have c55b0 : (t302 == t313) = false := beq_eq_false_iff_ne.mpr c55
      have c55b1 : (t302 != t313) = true := bne_iff_ne.mpr c55
      have H' := am H
      clear H
      go_wp2_with (first | (go_at_call 20; (with_reducible refine (w_above.calls kj5 t302 t291 true _ A53.out).mono ?_); rintro e w' ⟨rfl, ⟨nd, rfl⟩⟩))
      go_meet
      case rel => exact ⟨_, (false), sqD, H', ⟨by have := HJ5.out; first | omega | exact Nat.le_refl _⟩, ⟨fb BK287.out⟩, ⟨fW HB.out⟩⟩
     case rest =>
      clear HC26
      try clear c1;try clear c2;try clear p2;try clear c5;try clear c13;try clear c17;try clear c18;try clear c20;try clear c21;try clear c22;try clear c51;try clear c51b0;try clear c51b1;try clear c52;try clear c52b0;try clear c52b1;try clear c54;try clear c55;try clear c55b0;try clear c55b1
      obtain ⟨kq, x6_25, rfl, HA, HJ25, BK287, HB⟩ := hcut
      cases kq with
      | zero => exact absurd HA.out (by simp [w_ModelGrows.j1])
      | succ kj25 =>
       have H := HA.out
       clear HA
       simp only [w_ModelGrows.j1] at H
       obtain rfl := Option.some.inj H
       go_wp2
       go_ret
       exact ⟨sqE, fW HB.out⟩
    rw [if_neg c25] at H
    have c25b0 : (t303 == 0) = false := beq_eq_false_iff_ne.mpr c25
    have c25b1 : (t303 != 0) = true := bne_iff_ne.mpr c25
    by_cases c56 : t291 = 0
    ·rw [if_pos c56] at H
     have c56b0 : (t291 == 0) = true := beq_iff_eq.mpr c56
     have c56b1 : (t291 != 0) = false := bne_eq_false_iff_eq.mpr c56
     clear c56
     obtain rfl := Option.some.inj H
     have := yC1 BK287
     have := kC1 BK287
     have := kC2 BK287
     have := bf BK287.out 0
     have := bf BK287.out 1
     have := bf BK287.out 2
     try go_wp2_with (first | ((with_reducible refine gc (f := 13) rfl ?_); refine goesL_ (some 28) rfl rfl Try.func13 (by kernel_rfl) rfl #[.slice A0 l0.length c0, .agg #[.int .i64 a2_0, .int .i64 a2_1, .int .i64 a2_2]] rfl (by (try simp only [pml]); first | done | rfl | (simp only [pdt]; rfl)) ?_; (with_reducible refine (model_State.calls kj5 _ _ l0 a2_0 a2_1 a2_2 t291 t292 _ ?side1 ?side2 A13.out).mono ?_); (case side1 => repeat (first | exact (Kd.C_below HR0.out HB.out) | (with_reducible refine Kd.C_alloc ?_ _) | (with_reducible refine Kd.C_drewN ?_ _) | (with_reducible refine Kd.C_drew ?_))); (case side2 => exact HC0.out); rintro e w58 ⟨rfl, hb⟩; refine ⟨_, rfl, ?_⟩; replace BK287 := bB BK287 hb; replace HB := bS HB hb; (try clear hb); (try clear hb2); (try clear hk); (try clear hi)))
     have n0_ := am (bd BK287.out)
     have n1_ := am (wd HB.out)
     clear BK287 HB
     have BK287 := n0_
     have HB := n1_
     clear n0_ n1_
     refine start_ (n := 12) (S := fun w' => w'.cell? ⟨gb287, 0, none⟩ = some (.int .i64 a2_0) ∧ w'.cell? ⟨gb287, 1, none⟩ = some (.int .i64 a2_1) ∧ w'.cell? ⟨gb287, 2, none⟩ = some (.int .i64 a2_2)) (ds := []) #[F,F,F,F,F,F,F,F,F,F,F,F] (by kernel_rfl) rfl rfl ⟨(bc BK287.out 0).trans rfl, (bc BK287.out 1).trans rfl, (bc BK287.out 2).trans rfl⟩ (fun hHeld => ?_); refine with_tabW w_ModelGrows.tab6 w_ModelGrows.bits6 (fun HT_ HW_ => ?_)
     generalize w58.drew = w59 at BK287 HB hHeld ⊢
     refine pu (i := 1) (N := some 33) (fl 12 0 [1]) HT_ ?_
     refine pu (i := 3) (N := some 35) (fl 12 0 [1, 3]) HT_ ?_
     refine tk (i := 5) (N := some 37) (fl 12 0 [1, 3, 5]) HT_ HW_ hHeld ?_
     refine one_ (i := 0) (N := some 32) (fl 12 2 [3, 5]) rfl rfl (one_of HT_.out (by kernel_rfl)) (by decide) (fun K hK => ?_)
     refine Kd.R_lit_step k68 _ 68 ?hg (N := 32) ?hd (xs := ([] : List (S68))) (inner := []) (ok := fun _ => True) (okp := fun _ => True) ?hr ?hp (fun _ hk => hk) trivial (Below.refl _ _) (Nat.le_refl _) (by simp) ?_; (case hd | hg => rfl); (case hr => first | (go_simp; done) | (go_simp; rfl)); (case hp => exact (Reps.none _ _))
     intro v294 w60 ho61 hb hg_ hnew_
     clear hg_ hnew_
     (first | rw [← Ny293.out] at ho61 | (simp only [Int.reduceToNat] at ho61; rw [← Ny293.out] at ho61))
     have n0_ := am (Kd.R_lower ho61 (wz (fW HB.out)))
     have n1_ := bB BK287 hb
     have n2_ := bS HB hb
     clear BK287 HB
     have HO295 := n0_
     have BK287 := n1_
     have HB := n2_
     clear n0_ n1_ n2_ hb ho61
     refine hK.out _ _ ⟨(bc BK287.out 0).trans rfl, (bc BK287.out 1).trans rfl, (bc BK287.out 2).trans rfl⟩ (fun hHeld => ?_)
     clear hK K
     refine norm_ (a' := ?_) ?_ ?_
     rotate_left
     ·show Act.put _ (some 32) _ = _
      simp only [Act.put, psl, i64_w, i32_w]
      rfl
     refine one_ (i := 2) (N := some 34) (fl 12 4 [5]) rfl rfl (one_of HT_.out (by kernel_rfl)) (by decide) (fun K hK => ?_)
     refine Kd.R_append_rows_step k68 (w0 := w) w.heap.size (by rfl) (.tmp 32) (.tmp 33) 22 68 (.agg #[(.string ⟨#[]⟩), (.int .i64 0), (.int .i64 0), (.int .i64 0), (.int .i64 0), (.int .i64 0), (.int .i64 0), (.int .i64 0)]) 72 rfl Try.underlying22 info68 rfl (by decide) (by omega) v294 y293 l0 _ _ _ (fun _ => True) (fun _ => False) rfl rfl ?aO ?aR (fun _ _ h => h) (fun _ h => h.elim) ?aF ?aB ?aS ?aL ?_
     (case aR => repeat (first | exact (Kd.C_below HR0.out HB.out) | (with_reducible refine Kd.C_alloc ?_ _) | (with_reducible refine Kd.C_drewN ?_ _) | (with_reducible refine Kd.C_drew ?_)))
     (case aB => exact (fW HB.out))
     (case aF => exact (fun _ _ => trivial))
     (case aO => exact (fR HO295.out))
     (case aS => exact (wz (fW HB.out)))
     (case aL => have := LMc14.out; omega)
     intro v297 w62 ho hb hg hat
     rw [← Ny296.out] at ho
     have n0_ := am (blk_grown (g := gb287) (o := .cells #[.int .i64 a2_0, .int .i64 a2_1, .int .i64 a2_2] 24 (0, 0)) (fb BK287.out) hg (Kd.R_ne HO295.out BK287.out (by decide)))
     have n1_ := am (hb)
     have n2_ := am (ho)
     clear BK287 HB HO295
     have BK287 := n0_
     have HB := n1_
     have HO298 := n2_
     clear n0_ n1_ n2_ ho hb hg hat
     refine hK.out _ _ ⟨(bc BK287.out 0).trans rfl, (bc BK287.out 1).trans rfl, (bc BK287.out 2).trans rfl⟩ (fun hHeld => ?_)
     clear hK K
     refine norm_ (a' := ?_) ?_ ?_
     rotate_left
     ·show Act.put _ (some 34) _ = _
      simp only [Act.put, psl, i64_w, i32_w]
      rfl
     refine one_ (i := 4) (N := some 36) (fl 12 6 []) rfl rfl (one_of HT_.out (by kernel_rfl)) (by decide) (fun K hK => ?_)
     refine Kd.R_append_rows_step k68 (w0 := w) w.heap.size (by rfl) (.tmp 34) (.tmp 35) 22 68 (.agg #[(.string ⟨#[]⟩), (.int .i64 0), (.int .i64 0), (.int .i64 0), (.int .i64 0), (.int .i64 0), (.int .i64 0), (.int .i64 0)]) 72 rfl Try.underlying22 info68 rfl (by decide) (by omega) v297 y296 l1 _ _ _ (fun _ => True) (fun _ => False) rfl rfl ?aO ?aR (fun _ _ h => h) (fun _ h => h.elim) ?aF ?aB ?aS ?aL ?_
     (case aR => repeat (first | exact (Kd.C_below HR1.out HB.out) | (with_reducible refine Kd.C_alloc ?_ _) | (with_reducible refine Kd.C_drewN ?_ _) | (with_reducible refine Kd.C_drew ?_)))
     (case aB => exact (fW HB.out))
     (case aF => exact (fun _ _ => trivial))
     (case aO => exact (fR HO298.out))
     (case aS => exact (wz (fW HB.out)))
     (case aL => have := LMc15.out; omega)
     intro v300 w63 ho hb hg hat
     rw [← Ny299.out] at ho
     have n0_ := am (blk_grown (g := gb287) (o := .cells #[.int .i64 a2_0, .int .i64 a2_1, .int .i64 a2_2] 24 (0, 0)) (fb BK287.out) hg (Kd.R_ne HO298.out BK287.out (by decide)))
     have n1_ := am (hb)
     have n2_ := am (ho)
     clear BK287 HB HO298
     have BK287 := n0_
     have HB := n1_
     have HO301 := n2_
     clear n0_ n1_ n2_ ho hb hg hat
     obtain ⟨Ao64, co64, eo64⟩ := Kd.R_slice HO301.out
     (first | subst eo64 | (injection eo64 with f1_ f2_ f3_; have f4_ := f1_.symm; have f5_ := f3_.symm; clear f1_ f2_ f3_; subst f4_; subst f5_))
     refine hK.out _ _ ⟨(bc BK287.out 0).trans rfl, (bc BK287.out 1).trans rfl, (bc BK287.out 2).trans rfl⟩ (fun hHeld => ?_)
     clear hK K
     refine norm_ (a' := ?_) ?_ ?_
     rotate_left
     ·show Act.put _ (some 36) _ = _
      simp only [Act.put, psl, i64_w, i32_w]
      rfl
     refine one_ (i := 6) (N := some 38) (fl 12 7 []) rfl rfl (one_of HT_.out (by kernel_rfl)) (by decide) (fun K hK => ?_)
     refine goes_ Try.func13 (by kernel_rfl) rfl #[.slice Ao64 y299.length co64, .agg #[.int .i64 a2_0, .int .i64 a2_1, .int .i64 a2_2]] (by rfl) rfl rfl (by (try simp only [pml]); first | done | rfl | (simp only [pdt]; rfl)) ?_
     with_reducible refine (model_State.calls kj5 _ _ y299 a2_0 a2_1 a2_2 t302 t303 _ ?side1 ?side2 A16.out).mono ?_
     (case side1 => repeat (first | exact (Kd.R_reads' HO301.out).2.2 | (with_reducible refine Kd.C_alloc ?_ _) | (with_reducible refine Kd.C_drewN ?_ _) | (with_reducible refine Kd.C_drew ?_)))
     (case side2 => exact (Kd.R_reads' HO301.out).2.1)
     rintro e w65 ⟨rfl, hb⟩
     refine ⟨_, rfl, ?_⟩
     have n0_ := dR HO301 hb
     have n1_ := bB BK287 hb
     have n2_ := bS HB hb
     clear HO301 BK287 HB
     have HO301 := n0_
     have BK287 := n1_
     have HB := n2_
     clear n0_ n1_ n2_
     (try clear hb)
     (try clear hb2)
     (try clear hk)
     (try clear hi)
     refine hK.out _ _ ⟨(bc BK287.out 0).trans rfl, (bc BK287.out 1).trans rfl, (bc BK287.out 2).trans rfl⟩ (fun hHeld => ?_)
     clear hK K
     refine norm_ (a' := ?_) ?_ ?_
     rotate_left
     ·show Act.put _ (some 38) _ = _
      simp only [Act.put, psl, i64_w, i32_w]
      rfl
     refine pu (i := 7) (N := some 31) (fl 12 8 []) HT_ ?_
     refine pu (i := 8) (N := some 39) (fl 12 9 []) HT_ ?_
     refine pu (i := 9) (N := some 40) (fl 12 10 []) HT_ ?_
     refine pu (i := 10) (N := some 9) (fl 12 11 []) HT_ ?_
     refine pu (i := 11) (N := some 10) (fl 12 12 []) HT_ ?_
     refine done_ (done_of HT_.out (by kernel_rfl)) ?_
     try go_wp2
     have n0_ := am (Kd.R_drew HO301.out)
     have n1_ := am (bd BK287.out)
     have n2_ := am (wd HB.out)
     clear HO301 BK287 HB
     have HO301 := n0_
     have BK287 := n1_
     have HB := n2_
     clear n0_ n1_ n2_
     refine start_ (n := 12) (S := fun w' => w'.cell? ⟨gb287, 0, none⟩ = some (.int .i64 a2_0) ∧ w'.cell? ⟨gb287, 1, none⟩ = some (.int .i64 a2_1) ∧ w'.cell? ⟨gb287, 2, none⟩ = some (.int .i64 a2_2)) (ds := []) #[F,F,F,F,F,F,F,F,F,F,F,F] (by kernel_rfl) rfl rfl ⟨(bc BK287.out 0).trans rfl, (bc BK287.out 1).trans rfl, (bc BK287.out 2).trans rfl⟩ (fun hHeld => ?_); refine with_tabW w_ModelGrows.tab7 w_ModelGrows.bits7 (fun HT_ HW_ => ?_)
     generalize w65.drew = w66 at HO301 BK287 HB hHeld ⊢
     refine pu (i := 1) (N := some 43) (fl 12 0 [1]) HT_ ?_
     refine pu (i := 3) (N := some 45) (fl 12 0 [1, 3]) HT_ ?_
     refine tk (i := 5) (N := some 47) (fl 12 0 [1, 3, 5]) HT_ HW_ hHeld ?_
     refine one_ (i := 0) (N := some 42) (fl 12 2 [3, 5]) rfl rfl (one_of HT_.out (by kernel_rfl)) (by decide) (fun K hK => ?_)
     refine Kd.R_lit_step k68 _ 68 ?hg (N := 42) ?hd (xs := ([] : List (S68))) (inner := []) (ok := fun _ => True) (okp := fun _ => True) ?hr ?hp (fun _ hk => hk) trivial (Below.refl _ _) (Nat.le_refl _) (by simp) ?_; (case hd | hg => rfl); (case hr => first | (go_simp; done) | (go_simp; rfl)); (case hp => exact (Reps.none _ _))
     intro v305 w67 ho68 hb hg_ hnew_
     clear hg_ hnew_
     (first | rw [← Ny304.out] at ho68 | (simp only [Int.reduceToNat] at ho68; rw [← Ny304.out] at ho68))
     have n0_ := am (Kd.R_elder' (fR HO301.out) (Kd.R_base ho68) hb)
     have n1_ := am (Kd.R_lower (Kd.R_new' ho68 (Kd.R_lt (fR HO301.out))) (wz (fW HB.out)))
     have n2_ := bB BK287 hb
     have n3_ := bS HB hb
     clear HO301 BK287 HB
     have HO301 := n0_
     have HO306 := n1_
     have BK287 := n2_
     have HB := n3_
     clear n0_ n1_ n2_ n3_ hb ho68
     refine hK.out _ _ ⟨(bc BK287.out 0).trans rfl, (bc BK287.out 1).trans rfl, (bc BK287.out 2).trans rfl⟩ (fun hHeld => ?_)
     clear hK K
     refine norm_ (a' := ?_) ?_ ?_
     rotate_left
     ·show Act.put _ (some 42) _ = _
      simp only [Act.put, psl, i64_w, i32_w]
      rfl
     refine one_ (i := 2) (N := some 44) (fl 12 4 [5]) rfl rfl (one_of HT_.out (by kernel_rfl)) (by decide) (fun K hK => ?_)
     refine Kd.R_append_rows_step k68 (w0 := w) w.heap.size (by rfl) (.tmp 42) (.tmp 43) 22 68 (.agg #[(.string ⟨#[]⟩), (.int .i64 0), (.int .i64 0), (.int .i64 0), (.int .i64 0), (.int .i64 0), (.int .i64 0), (.int .i64 0)]) 72 rfl Try.underlying22 info68 rfl (by decide) (by omega) v305 y304 l1 _ _ _ (fun k_ => some k_ ≠ (.slice Ao64 y299.length co64 : Value).ownBlock) (fun _ => False) rfl rfl ?aO ?aR (fun _ _ h => h) (fun _ h => h.elim) ?aF ?aB ?aS ?aL ?_
     (case aR => repeat (first | exact (Kd.C_below HR1.out HB.out) | (with_reducible refine Kd.C_alloc ?_ _) | (with_reducible refine Kd.C_drewN ?_ _) | (with_reducible refine Kd.C_drew ?_)))
     (case aB => exact (fW HB.out))
     (case aF => exact (fun k_ hk => Kd.fresh' (Kd.R_lt (fR HO301.out)) k_ hk))
     (case aO => exact (by (with_reducible repeat (first | apply Kd.R_alloc | apply Kd.R_drewN | apply Kd.R_drew)); exact Kd.R_mono HO306.out (fun _ hk => hk.2)))
     (case aS => exact (wz (fW HB.out)))
     (case aL => have := LMc17.out; omega)
     intro v308 w69 ho hb hg hat
     rw [← Ny307.out] at ho
     have n0_ := am (blk_grown (g := gb287) (o := .cells #[.int .i64 a2_0, .int .i64 a2_1, .int .i64 a2_2] 24 (0, 0)) (fb BK287.out) hg (Kd.R_ne HO306.out BK287.out (by decide)))
     have n1_ := am (Kd.R_after (ok := (fun _ => True)) (fR HO301.out) hg hat)
     have n2_ := am (hb)
     have n3_ := am (ho)
     clear BK287 HO301 HB HO306
     have BK287 := n0_
     have HO301 := n1_
     have HB := n2_
     have HO309 := n3_
     clear n0_ n1_ n2_ n3_ ho hb hg hat
     refine hK.out _ _ ⟨(bc BK287.out 0).trans rfl, (bc BK287.out 1).trans rfl, (bc BK287.out 2).trans rfl⟩ (fun hHeld => ?_)
     clear hK K
     refine norm_ (a' := ?_) ?_ ?_
     rotate_left
     ·show Act.put _ (some 44) _ = _
      simp only [Act.put, psl, i64_w, i32_w]
      rfl
     refine one_ (i := 4) (N := some 46) (fl 12 6 []) rfl rfl (one_of HT_.out (by kernel_rfl)) (by decide) (fun K hK => ?_)
     refine Kd.R_append_rows_step k68 (w0 := w) w.heap.size (by rfl) (.tmp 44) (.tmp 45) 22 68 (.agg #[(.string ⟨#[]⟩), (.int .i64 0), (.int .i64 0), (.int .i64 0), (.int .i64 0), (.int .i64 0), (.int .i64 0), (.int .i64 0)]) 72 rfl Try.underlying22 info68 rfl (by decide) (by omega) v308 y307 l0 _ _ _ (fun k_ => some k_ ≠ (.slice Ao64 y299.length co64 : Value).ownBlock) (fun _ => False) rfl rfl ?aO ?aR (fun _ _ h => h) (fun _ h => h.elim) ?aF ?aB ?aS ?aL ?_
     (case aR => repeat (first | exact (Kd.C_below HR0.out HB.out) | (with_reducible refine Kd.C_alloc ?_ _) | (with_reducible refine Kd.C_drewN ?_ _) | (with_reducible refine Kd.C_drew ?_)))
     (case aB => exact (fW HB.out))
     (case aF => exact (fun k_ hk => Kd.fresh' (Kd.R_lt (fR HO301.out)) k_ hk))
     (case aO => exact (fR HO309.out))
     (case aS => exact (wz (fW HB.out)))
     (case aL => have := LMc18.out; omega)
     intro v311 w70 ho hb hg hat
     rw [← Ny310.out] at ho
     have n0_ := am (blk_grown (g := gb287) (o := .cells #[.int .i64 a2_0, .int .i64 a2_1, .int .i64 a2_2] 24 (0, 0)) (fb BK287.out) hg (Kd.R_ne HO309.out BK287.out (by decide)))
     have n1_ := am (Kd.R_after (ok := (fun _ => True)) (fR HO301.out) hg hat)
     have n2_ := am (hb)
     have n3_ := am (ho)
     clear BK287 HO301 HB HO309
     have BK287 := n0_
     have HO301 := n1_
     have HB := n2_
     have HO312 := n3_
     clear n0_ n1_ n2_ n3_ ho hb hg hat
     obtain ⟨Ao71, co71, eo71⟩ := Kd.R_slice HO312.out
     (first | subst eo71 | (injection eo71 with f1_ f2_ f3_; have f4_ := f1_.symm; have f5_ := f3_.symm; clear f1_ f2_ f3_; subst f4_; subst f5_))
     refine hK.out _ _ ⟨(bc BK287.out 0).trans rfl, (bc BK287.out 1).trans rfl, (bc BK287.out 2).trans rfl⟩ (fun hHeld => ?_)
     clear hK K
     refine norm_ (a' := ?_) ?_ ?_
     rotate_left
     ·show Act.put _ (some 46) _ = _
      simp only [Act.put, psl, i64_w, i32_w]
      rfl
     refine one_ (i := 6) (N := some 48) (fl 12 7 []) rfl rfl (one_of HT_.out (by kernel_rfl)) (by decide) (fun K hK => ?_)
     refine goes_ Try.func13 (by kernel_rfl) rfl #[.slice Ao71 y310.length co71, .agg #[.int .i64 a2_0, .int .i64 a2_1, .int .i64 a2_2]] (by rfl) rfl rfl (by (try simp only [pml]); first | done | rfl | (simp only [pdt]; rfl)) ?_
     with_reducible refine (model_State.calls kj5 _ _ y310 a2_0 a2_1 a2_2 t313 t314 _ ?side1 ?side2 A19.out).mono ?_
     (case side1 => repeat (first | exact (Kd.R_reads' HO312.out).2.2 | (with_reducible refine Kd.C_alloc ?_ _) | (with_reducible refine Kd.C_drewN ?_ _) | (with_reducible refine Kd.C_drew ?_)))
     (case side2 => exact (Kd.R_reads' HO312.out).2.1)
     rintro e w72 ⟨rfl, hb⟩
     refine ⟨_, rfl, ?_⟩
     have n0_ := dR HO301 hb
     have n1_ := dR HO312 hb
     have n2_ := bB BK287 hb
     have n3_ := bS HB hb
     clear HO301 HO312 BK287 HB
     have HO301 := n0_
     have HO312 := n1_
     have BK287 := n2_
     have HB := n3_
     clear n0_ n1_ n2_ n3_
     (try clear hb)
     (try clear hb2)
     (try clear hk)
     (try clear hi)
     refine hK.out _ _ ⟨(bc BK287.out 0).trans rfl, (bc BK287.out 1).trans rfl, (bc BK287.out 2).trans rfl⟩ (fun hHeld => ?_)
     clear hK K
     refine norm_ (a' := ?_) ?_ ?_
     rotate_left
     ·show Act.put _ (some 48) _ = _
      simp only [Act.put, psl, i64_w, i32_w]
      rfl
     refine pu (i := 7) (N := some 41) (fl 12 8 []) HT_ ?_
     refine pu (i := 8) (N := some 49) (fl 12 9 []) HT_ ?_
     refine pu (i := 9) (N := some 50) (fl 12 10 []) HT_ ?_
     refine pu (i := 10) (N := some 11) (fl 12 11 []) HT_ ?_
     refine pu (i := 11) (N := some 12) (fl 12 12 []) HT_ ?_
     refine done_ (done_of HT_.out (by kernel_rfl)) ?_
     try go_wp2
     have n0_ := am (Kd.R_drew HO301.out)
     have n1_ := am (Kd.R_drew HO312.out)
     have n2_ := am (bd BK287.out)
     have n3_ := am (wd HB.out)
     clear HO301 HO312 BK287 HB
     have HO301 := n0_
     have HO312 := n1_
     have BK287 := n2_
     have HB := n3_
     clear n0_ n1_ n2_ n3_
     refine start_ (n := 14) (S := fun w' => w'.cell? ⟨gb287, 0, none⟩ = some (.int .i64 a2_0) ∧ w'.cell? ⟨gb287, 1, none⟩ = some (.int .i64 a2_1) ∧ w'.cell? ⟨gb287, 2, none⟩ = some (.int .i64 a2_2)) (ds := []) #[F,F,F,F,F,F,F,F,F,F,F,F,F,F] (by kernel_rfl) rfl rfl ⟨(bc BK287.out 0).trans rfl, (bc BK287.out 1).trans rfl, (bc BK287.out 2).trans rfl⟩ (fun hHeld => ?_); refine with_tabW w_ModelGrows.tab8 w_ModelGrows.bits8 (fun HT_ HW_ => ?_)
     generalize w72.drew = w73 at HO301 HO312 BK287 HB hHeld ⊢
     refine pu (i := 1) (N := some 53) (fl 14 0 [1]) HT_ ?_
     refine pu (i := 3) (N := some 55) (fl 14 0 [1, 3]) HT_ ?_
     refine pu (i := 5) (N := some 57) (fl 14 0 [1, 3, 5]) HT_ ?_
     refine tk (i := 7) (N := some 59) (fl 14 0 [1, 3, 5, 7]) HT_ HW_ hHeld ?_
     refine one_ (i := 0) (N := some 52) (fl 14 2 [3, 5, 7]) rfl rfl (one_of HT_.out (by kernel_rfl)) (by decide) (fun K hK => ?_)
     refine Kd.R_lit_step k68 _ 68 ?hg (N := 52) ?hd (xs := ([] : List (S68))) (inner := []) (ok := fun _ => True) (okp := fun _ => True) ?hr ?hp (fun _ hk => hk) trivial (Below.refl _ _) (Nat.le_refl _) (by simp) ?_; (case hd | hg => rfl); (case hr => first | (go_simp; done) | (go_simp; rfl)); (case hp => exact (Reps.none _ _))
     intro v316 w74 ho75 hb hg_ hnew_
     clear hg_ hnew_
     (first | rw [← Ny315.out] at ho75 | (simp only [Int.reduceToNat] at ho75; rw [← Ny315.out] at ho75))
     have n0_ := am (Kd.R_elder' (fR HO301.out) (Kd.R_base ho75) hb)
     have n1_ := am (Kd.R_elder' (fR HO312.out) (Kd.R_base ho75) hb)
     have n2_ := am (Kd.R_lower (Kd.R_new' (Kd.R_new' ho75 (Kd.R_lt (fR HO301.out))) (Kd.R_lt (fR HO312.out))) (wz (fW HB.out)))
     have n3_ := bB BK287 hb
     have n4_ := bS HB hb
     clear HO301 HO312 BK287 HB
     have HO301 := n0_
     have HO312 := n1_
     have HO317 := n2_
     have BK287 := n3_
     have HB := n4_
     clear n0_ n1_ n2_ n3_ n4_ hb ho75
     refine hK.out _ _ ⟨(bc BK287.out 0).trans rfl, (bc BK287.out 1).trans rfl, (bc BK287.out 2).trans rfl⟩ (fun hHeld => ?_)
     clear hK K
     refine norm_ (a' := ?_) ?_ ?_
     rotate_left
     ·show Act.put _ (some 52) _ = _
      simp only [Act.put, psl, i64_w, i32_w]
      rfl
     refine one_ (i := 2) (N := some 54) (fl 14 4 [5, 7]) rfl rfl (one_of HT_.out (by kernel_rfl)) (by decide) (fun K hK => ?_)
     refine Kd.R_append_rows_step k68 (w0 := w) w.heap.size (by rfl) (.tmp 52) (.tmp 53) 22 68 (.agg #[(.string ⟨#[]⟩), (.int .i64 0), (.int .i64 0), (.int .i64 0), (.int .i64 0), (.int .i64 0), (.int .i64 0), (.int .i64 0)]) 72 rfl Try.underlying22 info68 rfl (by decide) (by omega) v316 y315 l1 _ _ _ (fun k_ => some k_ ≠ (.slice Ao64 y299.length co64 : Value).ownBlock ∧ some k_ ≠ (.slice Ao71 y310.length co71 : Value).ownBlock) (fun _ => False) rfl rfl ?aO ?aR (fun _ _ h => h) (fun _ h => h.elim) ?aF ?aB ?aS ?aL ?_
     (case aR => repeat (first | exact (Kd.C_below HR1.out HB.out) | (with_reducible refine Kd.C_alloc ?_ _) | (with_reducible refine Kd.C_drewN ?_ _) | (with_reducible refine Kd.C_drew ?_)))
     (case aB => exact (fW HB.out))
     (case aF => exact (fun k_ hk => ⟨Kd.fresh' (Kd.R_lt (fR HO301.out)) k_ hk, Kd.fresh' (Kd.R_lt (fR HO312.out)) k_ hk⟩))
     (case aO => exact (by (with_reducible repeat (first | apply Kd.R_alloc | apply Kd.R_drewN | apply Kd.R_drew)); exact Kd.R_mono HO317.out (fun _ hk => ⟨hk.1.2, hk.2⟩)))
     (case aS => exact (wz (fW HB.out)))
     (case aL => have := LMc20.out; omega)
     intro v319 w76 ho hb hg hat
     rw [← Ny318.out] at ho
     have n0_ := am (blk_grown (g := gb287) (o := .cells #[.int .i64 a2_0, .int .i64 a2_1, .int .i64 a2_2] 24 (0, 0)) (fb BK287.out) hg (Kd.R_ne HO317.out BK287.out (by decide)))
     have n1_ := am (Kd.R_after (ok := (fun k_ => some k_ ≠ (.slice Ao71 y310.length co71 : Value).ownBlock)) (by (with_reducible repeat (first | apply Kd.R_alloc | apply Kd.R_drewN | apply Kd.R_drew)); exact Kd.R_mono HO301.out (fun _ hk => ⟨hk.1.2, hk.2⟩)) hg hat)
     have n2_ := am (Kd.R_after (ok := (fun k_ => some k_ ≠ (.slice Ao64 y299.length co64 : Value).ownBlock)) (fR HO312.out) hg hat)
     have n3_ := am (hb)
     have n4_ := am (ho)
     clear BK287 HO301 HO312 HB HO317
     have BK287 := n0_
     have HO301 := n1_
     have HO312 := n2_
     have HB := n3_
     have HO320 := n4_
     clear n0_ n1_ n2_ n3_ n4_ ho hb hg hat
     refine hK.out _ _ ⟨(bc BK287.out 0).trans rfl, (bc BK287.out 1).trans rfl, (bc BK287.out 2).trans rfl⟩ (fun hHeld => ?_)
     clear hK K
     refine norm_ (a' := ?_) ?_ ?_
     rotate_left
     ·show Act.put _ (some 54) _ = _
      simp only [Act.put, psl, i64_w, i32_w]
      rfl
     refine one_ (i := 4) (N := some 56) (fl 14 6 [7]) rfl rfl (one_of HT_.out (by kernel_rfl)) (by decide) (fun K hK => ?_)
     refine Kd.R_append_rows_step k68 (w0 := w) w.heap.size (by rfl) (.tmp 54) (.tmp 55) 22 68 (.agg #[(.string ⟨#[]⟩), (.int .i64 0), (.int .i64 0), (.int .i64 0), (.int .i64 0), (.int .i64 0), (.int .i64 0), (.int .i64 0)]) 72 rfl Try.underlying22 info68 rfl (by decide) (by omega) v319 y318 l0 _ _ _ (fun k_ => some k_ ≠ (.slice Ao64 y299.length co64 : Value).ownBlock ∧ some k_ ≠ (.slice Ao71 y310.length co71 : Value).ownBlock) (fun _ => False) rfl rfl ?aO ?aR (fun _ _ h => h) (fun _ h => h.elim) ?aF ?aB ?aS ?aL ?_
     (case aR => repeat (first | exact (Kd.C_below HR0.out HB.out) | (with_reducible refine Kd.C_alloc ?_ _) | (with_reducible refine Kd.C_drewN ?_ _) | (with_reducible refine Kd.C_drew ?_)))
     (case aB => exact (fW HB.out))
     (case aF => exact (fun k_ hk => ⟨Kd.fresh' (Kd.R_lt (fR HO301.out)) k_ hk, Kd.fresh' (Kd.R_lt (fR HO312.out)) k_ hk⟩))
     (case aO => exact (fR HO320.out))
     (case aS => exact (wz (fW HB.out)))
     (case aL => have := LMc21.out; omega)
     intro v322 w77 ho hb hg hat
     rw [← Ny321.out] at ho
     have n0_ := am (blk_grown (g := gb287) (o := .cells #[.int .i64 a2_0, .int .i64 a2_1, .int .i64 a2_2] 24 (0, 0)) (fb BK287.out) hg (Kd.R_ne HO320.out BK287.out (by decide)))
     have n1_ := am (Kd.R_after (ok := (fun k_ => some k_ ≠ (.slice Ao71 y310.length co71 : Value).ownBlock)) (fR HO301.out) hg hat)
     have n2_ := am (Kd.R_after (ok := (fun k_ => some k_ ≠ (.slice Ao64 y299.length co64 : Value).ownBlock)) (fR HO312.out) hg hat)
     have n3_ := am (hb)
     have n4_ := am (ho)
     clear BK287 HO301 HO312 HB HO320
     have BK287 := n0_
     have HO301 := n1_
     have HO312 := n2_
     have HB := n3_
     have HO323 := n4_
     clear n0_ n1_ n2_ n3_ n4_ ho hb hg hat
     refine hK.out _ _ ⟨(bc BK287.out 0).trans rfl, (bc BK287.out 1).trans rfl, (bc BK287.out 2).trans rfl⟩ (fun hHeld => ?_)
     clear hK K
     refine norm_ (a' := ?_) ?_ ?_
     rotate_left
     ·show Act.put _ (some 56) _ = _
      simp only [Act.put, psl, i64_w, i32_w]
      rfl
     refine one_ (i := 6) (N := some 58) (fl 14 8 []) rfl rfl (one_of HT_.out (by kernel_rfl)) (by decide) (fun K hK => ?_)
     refine Kd.R_append_rows_step k68 (w0 := w) w.heap.size (by rfl) (.tmp 56) (.tmp 57) 22 68 (.agg #[(.string ⟨#[]⟩), (.int .i64 0), (.int .i64 0), (.int .i64 0), (.int .i64 0), (.int .i64 0), (.int .i64 0), (.int .i64 0)]) 72 rfl Try.underlying22 info68 rfl (by decide) (by omega) v322 y321 l1 _ _ _ (fun k_ => some k_ ≠ (.slice Ao64 y299.length co64 : Value).ownBlock ∧ some k_ ≠ (.slice Ao71 y310.length co71 : Value).ownBlock) (fun _ => False) rfl rfl ?aO ?aR (fun _ _ h => h) (fun _ h => h.elim) ?aF ?aB ?aS ?aL ?_
     (case aR => repeat (first | exact (Kd.C_below HR1.out HB.out) | (with_reducible refine Kd.C_alloc ?_ _) | (with_reducible refine Kd.C_drewN ?_ _) | (with_reducible refine Kd.C_drew ?_)))
     (case aB => exact (fW HB.out))
     (case aF => exact (fun k_ hk => ⟨Kd.fresh' (Kd.R_lt (fR HO301.out)) k_ hk, Kd.fresh' (Kd.R_lt (fR HO312.out)) k_ hk⟩))
     (case aO => exact (fR HO323.out))
     (case aS => exact (wz (fW HB.out)))
     (case aL => have := LMc22.out; omega)
     intro v325 w78 ho hb hg hat
     rw [← Ny324.out] at ho
     have n0_ := am (blk_grown (g := gb287) (o := .cells #[.int .i64 a2_0, .int .i64 a2_1, .int .i64 a2_2] 24 (0, 0)) (fb BK287.out) hg (Kd.R_ne HO323.out BK287.out (by decide)))
     have n1_ := am (Kd.R_after (ok := (fun k_ => some k_ ≠ (.slice Ao71 y310.length co71 : Value).ownBlock)) (fR HO301.out) hg hat)
     have n2_ := am (Kd.R_after (ok := (fun k_ => some k_ ≠ (.slice Ao64 y299.length co64 : Value).ownBlock)) (fR HO312.out) hg hat)
     have n3_ := am (hb)
     have n4_ := am (ho)
     clear BK287 HO301 HO312 HB HO323
     have BK287 := n0_
     have HO301 := n1_
     have HO312 := n2_
     have HB := n3_
     have HO326 := n4_
     clear n0_ n1_ n2_ n3_ n4_ ho hb hg hat
     obtain ⟨Ao79, co79, eo79⟩ := Kd.R_slice HO326.out
     (first | subst eo79 | (injection eo79 with f1_ f2_ f3_; have f4_ := f1_.symm; have f5_ := f3_.symm; clear f1_ f2_ f3_; subst f4_; subst f5_))
     refine hK.out _ _ ⟨(bc BK287.out 0).trans rfl, (bc BK287.out 1).trans rfl, (bc BK287.out 2).trans rfl⟩ (fun hHeld => ?_)
     clear hK K
     refine norm_ (a' := ?_) ?_ ?_
     rotate_left
     ·show Act.put _ (some 58) _ = _
      simp only [Act.put, psl, i64_w, i32_w]
      rfl
     refine one_ (i := 8) (N := some 60) (fl 14 9 []) rfl rfl (one_of HT_.out (by kernel_rfl)) (by decide) (fun K hK => ?_)
     refine goes_ Try.func13 (by kernel_rfl) rfl #[.slice Ao79 y324.length co79, .agg #[.int .i64 a2_0, .int .i64 a2_1, .int .i64 a2_2]] (by rfl) rfl rfl (by (try simp only [pml]); first | done | rfl | (simp only [pdt]; rfl)) ?_
     with_reducible refine (model_State.calls kj5 _ _ y324 a2_0 a2_1 a2_2 t327 t328 _ ?side1 ?side2 A23.out).mono ?_
     (case side1 => repeat (first | exact (Kd.R_reads' HO326.out).2.2 | (with_reducible refine Kd.C_alloc ?_ _) | (with_reducible refine Kd.C_drewN ?_ _) | (with_reducible refine Kd.C_drew ?_)))
     (case side2 => exact (Kd.R_reads' HO326.out).2.1)
     rintro e w80 ⟨rfl, hb⟩
     refine ⟨_, rfl, ?_⟩
     have n0_ := dR HO301 hb
     have n1_ := dR HO312 hb
     have n2_ := dR HO326 hb
     have n3_ := bB BK287 hb
     have n4_ := bS HB hb
     clear HO301 HO312 HO326 BK287 HB
     have HO301 := n0_
     have HO312 := n1_
     have HO326 := n2_
     have BK287 := n3_
     have HB := n4_
     clear n0_ n1_ n2_ n3_ n4_
     (try clear hb)
     (try clear hb2)
     (try clear hk)
     (try clear hi)
     refine hK.out _ _ ⟨(bc BK287.out 0).trans rfl, (bc BK287.out 1).trans rfl, (bc BK287.out 2).trans rfl⟩ (fun hHeld => ?_)
     clear hK K
     refine norm_ (a' := ?_) ?_ ?_
     rotate_left
     ·show Act.put _ (some 60) _ = _
      simp only [Act.put, psl, i64_w, i32_w]
      rfl
     refine pu (i := 9) (N := some 51) (fl 14 10 []) HT_ ?_
     refine pu (i := 10) (N := some 61) (fl 14 11 []) HT_ ?_
     refine pu (i := 11) (N := some 62) (fl 14 12 []) HT_ ?_
     refine pu (i := 12) (N := some 13) (fl 14 13 []) HT_ ?_
     refine pu (i := 13) (N := some 14) (fl 14 14 []) HT_ ?_
     refine done_ (done_of HT_.out (by kernel_rfl)) ?_
     try go_wp2
     go_ret
     exact ⟨sqE, fW HB.out⟩
    rw [if_neg c56] at H
    have c56b0 : (t291 == 0) = false := beq_eq_false_iff_ne.mpr c56
    have c56b1 : (t291 != 0) = true := bne_iff_ne.mpr c56
    obtain rfl := Option.some.inj H
    have := yC1 BK287
    have := kC1 BK287
    have := kC2 BK287
    have := bf BK287.out 0
    have := bf BK287.out 1
    have := bf BK287.out 2
    try go_wp2_with (first | ((with_reducible refine gc (f := 13) rfl ?_); refine goesL_ (some 28) rfl rfl Try.func13 (by kernel_rfl) rfl #[.slice A0 l0.length c0, .agg #[.int .i64 a2_0, .int .i64 a2_1, .int .i64 a2_2]] rfl (by (try simp only [pml]); first | done | rfl | (simp only [pdt]; rfl)) ?_; (with_reducible refine (model_State.calls kj5 _ _ l0 a2_0 a2_1 a2_2 t291 t292 _ ?side1 ?side2 A13.out).mono ?_); (case side1 => repeat (first | exact (Kd.C_below HR0.out HB.out) | (with_reducible refine Kd.C_alloc ?_ _) | (with_reducible refine Kd.C_drewN ?_ _) | (with_reducible refine Kd.C_drew ?_))); (case side2 => exact HC0.out); rintro e w82 ⟨rfl, hb⟩; refine ⟨_, rfl, ?_⟩; replace BK287 := bB BK287 hb; replace HB := bS HB hb; (try clear hb); (try clear hb2); (try clear hk); (try clear hi)))
    have n0_ := am (bd BK287.out)
    have n1_ := am (wd HB.out)
    clear BK287 HB
    have BK287 := n0_
    have HB := n1_
    clear n0_ n1_
    refine start_ (n := 12) (S := fun w' => w'.cell? ⟨gb287, 0, none⟩ = some (.int .i64 a2_0) ∧ w'.cell? ⟨gb287, 1, none⟩ = some (.int .i64 a2_1) ∧ w'.cell? ⟨gb287, 2, none⟩ = some (.int .i64 a2_2)) (ds := []) #[F,F,F,F,F,F,F,F,F,F,F,F] (by kernel_rfl) rfl rfl ⟨(bc BK287.out 0).trans rfl, (bc BK287.out 1).trans rfl, (bc BK287.out 2).trans rfl⟩ (fun hHeld => ?_); refine with_tabW w_ModelGrows.tab6 w_ModelGrows.bits6 (fun HT_ HW_ => ?_)
    generalize w82.drew = w83 at BK287 HB hHeld ⊢
    refine pu (i := 1) (N := some 33) (fl 12 0 [1]) HT_ ?_
    refine pu (i := 3) (N := some 35) (fl 12 0 [1, 3]) HT_ ?_
    refine tk (i := 5) (N := some 37) (fl 12 0 [1, 3, 5]) HT_ HW_ hHeld ?_
    refine one_ (i := 0) (N := some 32) (fl 12 2 [3, 5]) rfl rfl (one_of HT_.out (by kernel_rfl)) (by decide) (fun K hK => ?_)
    refine Kd.R_lit_step k68 _ 68 ?hg (N := 32) ?hd (xs := ([] : List (S68))) (inner := []) (ok := fun _ => True) (okp := fun _ => True) ?hr ?hp (fun _ hk => hk) trivial (Below.refl _ _) (Nat.le_refl _) (by simp) ?_; (case hd | hg => rfl); (case hr => first | (go_simp; done) | (go_simp; rfl)); (case hp => exact (Reps.none _ _))
    intro v294 w84 ho85 hb hg_ hnew_
    clear hg_ hnew_
    (first | rw [← Ny293.out] at ho85 | (simp only [Int.reduceToNat] at ho85; rw [← Ny293.out] at ho85))
    have n0_ := am (Kd.R_lower ho85 (wz (fW HB.out)))
    have n1_ := bB BK287 hb
    have n2_ := bS HB hb
    clear BK287 HB
    have HO295 := n0_
    have BK287 := n1_
    have HB := n2_
    clear n0_ n1_ n2_ hb ho85
    refine hK.out _ _ ⟨(bc BK287.out 0).trans rfl, (bc BK287.out 1).trans rfl, (bc BK287.out 2).trans rfl⟩ (fun hHeld => ?_)
    clear hK K
    refine norm_ (a' := ?_) ?_ ?_
    rotate_left
    ·show Act.put _ (some 32) _ = _
     simp only [Act.put, psl, i64_w, i32_w]
     rfl
    refine one_ (i := 2) (N := some 34) (fl 12 4 [5]) rfl rfl (one_of HT_.out (by kernel_rfl)) (by decide) (fun K hK => ?_)
    refine Kd.R_append_rows_step k68 (w0 := w) w.heap.size (by rfl) (.tmp 32) (.tmp 33) 22 68 (.agg #[(.string ⟨#[]⟩), (.int .i64 0), (.int .i64 0), (.int .i64 0), (.int .i64 0), (.int .i64 0), (.int .i64 0), (.int .i64 0)]) 72 rfl Try.underlying22 info68 rfl (by decide) (by omega) v294 y293 l0 _ _ _ (fun _ => True) (fun _ => False) rfl rfl ?aO ?aR (fun _ _ h => h) (fun _ h => h.elim) ?aF ?aB ?aS ?aL ?_
    (case aR => repeat (first | exact (Kd.C_below HR0.out HB.out) | (with_reducible refine Kd.C_alloc ?_ _) | (with_reducible refine Kd.C_drewN ?_ _) | (with_reducible refine Kd.C_drew ?_)))
    (case aB => exact (fW HB.out))
    (case aF => exact (fun _ _ => trivial))
    (case aO => exact (fR HO295.out))
    (case aS => exact (wz (fW HB.out)))
    (case aL => have := LMc14.out; omega)
    intro v297 w86 ho hb hg hat
    rw [← Ny296.out] at ho
    have n0_ := am (blk_grown (g := gb287) (o := .cells #[.int .i64 a2_0, .int .i64 a2_1, .int .i64 a2_2] 24 (0, 0)) (fb BK287.out) hg (Kd.R_ne HO295.out BK287.out (by decide)))
    have n1_ := am (hb)
    have n2_ := am (ho)
    clear BK287 HB HO295
    have BK287 := n0_
    have HB := n1_
    have HO298 := n2_
    clear n0_ n1_ n2_ ho hb hg hat
    refine hK.out _ _ ⟨(bc BK287.out 0).trans rfl, (bc BK287.out 1).trans rfl, (bc BK287.out 2).trans rfl⟩ (fun hHeld => ?_)
    clear hK K
    refine norm_ (a' := ?_) ?_ ?_
    rotate_left
    ·show Act.put _ (some 34) _ = _
     simp only [Act.put, psl, i64_w, i32_w]
     rfl
    refine one_ (i := 4) (N := some 36) (fl 12 6 []) rfl rfl (one_of HT_.out (by kernel_rfl)) (by decide) (fun K hK => ?_)
    refine Kd.R_append_rows_step k68 (w0 := w) w.heap.size (by rfl) (.tmp 34) (.tmp 35) 22 68 (.agg #[(.string ⟨#[]⟩), (.int .i64 0), (.int .i64 0), (.int .i64 0), (.int .i64 0), (.int .i64 0), (.int .i64 0), (.int .i64 0)]) 72 rfl Try.underlying22 info68 rfl (by decide) (by omega) v297 y296 l1 _ _ _ (fun _ => True) (fun _ => False) rfl rfl ?aO ?aR (fun _ _ h => h) (fun _ h => h.elim) ?aF ?aB ?aS ?aL ?_
    (case aR => repeat (first | exact (Kd.C_below HR1.out HB.out) | (with_reducible refine Kd.C_alloc ?_ _) | (with_reducible refine Kd.C_drewN ?_ _) | (with_reducible refine Kd.C_drew ?_)))
    (case aB => exact (fW HB.out))
    (case aF => exact (fun _ _ => trivial))
    (case aO => exact (fR HO298.out))
    (case aS => exact (wz (fW HB.out)))
    (case aL => have := LMc15.out; omega)
    intro v300 w87 ho hb hg hat
    rw [← Ny299.out] at ho
    have n0_ := am (blk_grown (g := gb287) (o := .cells #[.int .i64 a2_0, .int .i64 a2_1, .int .i64 a2_2] 24 (0, 0)) (fb BK287.out) hg (Kd.R_ne HO298.out BK287.out (by decide)))
    have n1_ := am (hb)
    have n2_ := am (ho)
    clear BK287 HB HO298
    have BK287 := n0_
    have HB := n1_
    have HO301 := n2_
    clear n0_ n1_ n2_ ho hb hg hat
    obtain ⟨Ao88, co88, eo88⟩ := Kd.R_slice HO301.out
    (first | subst eo88 | (injection eo88 with f1_ f2_ f3_; have f4_ := f1_.symm; have f5_ := f3_.symm; clear f1_ f2_ f3_; subst f4_; subst f5_))
    refine hK.out _ _ ⟨(bc BK287.out 0).trans rfl, (bc BK287.out 1).trans rfl, (bc BK287.out 2).trans rfl⟩ (fun hHeld => ?_)
    clear hK K
    refine norm_ (a' := ?_) ?_ ?_
    rotate_left
    ·show Act.put _ (some 36) _ = _
     simp only [Act.put, psl, i64_w, i32_w]
     rfl
    refine one_ (i := 6) (N := some 38) (fl 12 7 []) rfl rfl (one_of HT_.out (by kernel_rfl)) (by decide) (fun K hK => ?_)
    refine goes_ Try.func13 (by kernel_rfl) rfl #[.slice Ao88 y299.length co88, .agg #[.int .i64 a2_0, .int .i64 a2_1, .int .i64 a2_2]] (by rfl) rfl rfl (by (try simp only [pml]); first | done | rfl | (simp only [pdt]; rfl)) ?_
    with_reducible refine (model_State.calls kj5 _ _ y299 a2_0 a2_1 a2_2 t302 t303 _ ?side1 ?side2 A16.out).mono ?_
    (case side1 => repeat (first | exact (Kd.R_reads' HO301.out).2.2 | (with_reducible refine Kd.C_alloc ?_ _) | (with_reducible refine Kd.C_drewN ?_ _) | (with_reducible refine Kd.C_drew ?_)))
    (case side2 => exact (Kd.R_reads' HO301.out).2.1)
    rintro e w89 ⟨rfl, hb⟩
    refine ⟨_, rfl, ?_⟩
    have n0_ := dR HO301 hb
    have n1_ := bB BK287 hb
    have n2_ := bS HB hb
    clear HO301 BK287 HB
    have HO301 := n0_
    have BK287 := n1_
    have HB := n2_
    clear n0_ n1_ n2_
    (try clear hb)
    (try clear hb2)
    (try clear hk)
    (try clear hi)
    refine hK.out _ _ ⟨(bc BK287.out 0).trans rfl, (bc BK287.out 1).trans rfl, (bc BK287.out 2).trans rfl⟩ (fun hHeld => ?_)
    clear hK K
    refine norm_ (a' := ?_) ?_ ?_
    rotate_left
    ·show Act.put _ (some 38) _ = _
     simp only [Act.put, psl, i64_w, i32_w]
     rfl
    refine pu (i := 7) (N := some 31) (fl 12 8 []) HT_ ?_
    refine pu (i := 8) (N := some 39) (fl 12 9 []) HT_ ?_
    refine pu (i := 9) (N := some 40) (fl 12 10 []) HT_ ?_
    refine pu (i := 10) (N := some 9) (fl 12 11 []) HT_ ?_
    refine pu (i := 11) (N := some 10) (fl 12 12 []) HT_ ?_
    refine done_ (done_of HT_.out (by kernel_rfl)) ?_
    try go_wp2
    have n0_ := am (Kd.R_drew HO301.out)
    have n1_ := am (bd BK287.out)
    have n2_ := am (wd HB.out)
    clear HO301 BK287 HB
    have HO301 := n0_
    have BK287 := n1_
    have HB := n2_
    clear n0_ n1_ n2_
    refine start_ (n := 12) (S := fun w' => w'.cell? ⟨gb287, 0, none⟩ = some (.int .i64 a2_0) ∧ w'.cell? ⟨gb287, 1, none⟩ = some (.int .i64 a2_1) ∧ w'.cell? ⟨gb287, 2, none⟩ = some (.int .i64 a2_2)) (ds := []) #[F,F,F,F,F,F,F,F,F,F,F,F] (by kernel_rfl) rfl rfl ⟨(bc BK287.out 0).trans rfl, (bc BK287.out 1).trans rfl, (bc BK287.out 2).trans rfl⟩ (fun hHeld => ?_); refine with_tabW w_ModelGrows.tab7 w_ModelGrows.bits7 (fun HT_ HW_ => ?_)
    generalize w89.drew = w90 at HO301 BK287 HB hHeld ⊢
    refine pu (i := 1) (N := some 43) (fl 12 0 [1]) HT_ ?_
    refine pu (i := 3) (N := some 45) (fl 12 0 [1, 3]) HT_ ?_
    refine tk (i := 5) (N := some 47) (fl 12 0 [1, 3, 5]) HT_ HW_ hHeld ?_
    refine one_ (i := 0) (N := some 42) (fl 12 2 [3, 5]) rfl rfl (one_of HT_.out (by kernel_rfl)) (by decide) (fun K hK => ?_)
    refine Kd.R_lit_step k68 _ 68 ?hg (N := 42) ?hd (xs := ([] : List (S68))) (inner := []) (ok := fun _ => True) (okp := fun _ => True) ?hr ?hp (fun _ hk => hk) trivial (Below.refl _ _) (Nat.le_refl _) (by simp) ?_; (case hd | hg => rfl); (case hr => first | (go_simp; done) | (go_simp; rfl)); (case hp => exact (Reps.none _ _))
    intro v305 w91 ho92 hb hg_ hnew_
    clear hg_ hnew_
    (first | rw [← Ny304.out] at ho92 | (simp only [Int.reduceToNat] at ho92; rw [← Ny304.out] at ho92))
    have n0_ := am (Kd.R_elder' (fR HO301.out) (Kd.R_base ho92) hb)
    have n1_ := am (Kd.R_lower (Kd.R_new' ho92 (Kd.R_lt (fR HO301.out))) (wz (fW HB.out)))
    have n2_ := bB BK287 hb
    have n3_ := bS HB hb
    clear HO301 BK287 HB
    have HO301 := n0_
    have HO306 := n1_
    have BK287 := n2_
    have HB := n3_
    clear n0_ n1_ n2_ n3_ hb ho92
    refine hK.out _ _ ⟨(bc BK287.out 0).trans rfl, (bc BK287.out 1).trans rfl, (bc BK287.out 2).trans rfl⟩ (fun hHeld => ?_)
    clear hK K
    refine norm_ (a' := ?_) ?_ ?_
    rotate_left
    ·show Act.put _ (some 42) _ = _
     simp only [Act.put, psl, i64_w, i32_w]
     rfl
    refine one_ (i := 2) (N := some 44) (fl 12 4 [5]) rfl rfl (one_of HT_.out (by kernel_rfl)) (by decide) (fun K hK => ?_)
    refine Kd.R_append_rows_step k68 (w0 := w) w.heap.size (by rfl) (.tmp 42) (.tmp 43) 22 68 (.agg #[(.string ⟨#[]⟩), (.int .i64 0), (.int .i64 0), (.int .i64 0), (.int .i64 0), (.int .i64 0), (.int .i64 0), (.int .i64 0)]) 72 rfl Try.underlying22 info68 rfl (by decide) (by omega) v305 y304 l1 _ _ _ (fun k_ => some k_ ≠ (.slice Ao88 y299.length co88 : Value).ownBlock) (fun _ => False) rfl rfl ?aO ?aR (fun _ _ h => h) (fun _ h => h.elim) ?aF ?aB ?aS ?aL ?_
    (case aR => repeat (first | exact (Kd.C_below HR1.out HB.out) | (with_reducible refine Kd.C_alloc ?_ _) | (with_reducible refine Kd.C_drewN ?_ _) | (with_reducible refine Kd.C_drew ?_)))
    (case aB => exact (fW HB.out))
    (case aF => exact (fun k_ hk => Kd.fresh' (Kd.R_lt (fR HO301.out)) k_ hk))
    (case aO => exact (by (with_reducible repeat (first | apply Kd.R_alloc | apply Kd.R_drewN | apply Kd.R_drew)); exact Kd.R_mono HO306.out (fun _ hk => hk.2)))
    (case aS => exact (wz (fW HB.out)))
    (case aL => have := LMc17.out; omega)
    intro v308 w93 ho hb hg hat
    rw [← Ny307.out] at ho
    have n0_ := am (blk_grown (g := gb287) (o := .cells #[.int .i64 a2_0, .int .i64 a2_1, .int .i64 a2_2] 24 (0, 0)) (fb BK287.out) hg (Kd.R_ne HO306.out BK287.out (by decide)))
    have n1_ := am (Kd.R_after (ok := (fun _ => True)) (fR HO301.out) hg hat)
    have n2_ := am (hb)
    have n3_ := am (ho)
    clear BK287 HO301 HB HO306
    have BK287 := n0_
    have HO301 := n1_
    have HB := n2_
    have HO309 := n3_
    clear n0_ n1_ n2_ n3_ ho hb hg hat
    refine hK.out _ _ ⟨(bc BK287.out 0).trans rfl, (bc BK287.out 1).trans rfl, (bc BK287.out 2).trans rfl⟩ (fun hHeld => ?_)
    clear hK K
    refine norm_ (a' := ?_) ?_ ?_
    rotate_left
    ·show Act.put _ (some 44) _ = _
     simp only [Act.put, psl, i64_w, i32_w]
     rfl
    refine one_ (i := 4) (N := some 46) (fl 12 6 []) rfl rfl (one_of HT_.out (by kernel_rfl)) (by decide) (fun K hK => ?_)
    refine Kd.R_append_rows_step k68 (w0 := w) w.heap.size (by rfl) (.tmp 44) (.tmp 45) 22 68 (.agg #[(.string ⟨#[]⟩), (.int .i64 0), (.int .i64 0), (.int .i64 0), (.int .i64 0), (.int .i64 0), (.int .i64 0), (.int .i64 0)]) 72 rfl Try.underlying22 info68 rfl (by decide) (by omega) v308 y307 l0 _ _ _ (fun k_ => some k_ ≠ (.slice Ao88 y299.length co88 : Value).ownBlock) (fun _ => False) rfl rfl ?aO ?aR (fun _ _ h => h) (fun _ h => h.elim) ?aF ?aB ?aS ?aL ?_
    (case aR => repeat (first | exact (Kd.C_below HR0.out HB.out) | (with_reducible refine Kd.C_alloc ?_ _) | (with_reducible refine Kd.C_drewN ?_ _) | (with_reducible refine Kd.C_drew ?_)))
    (case aB => exact (fW HB.out))
    (case aF => exact (fun k_ hk => Kd.fresh' (Kd.R_lt (fR HO301.out)) k_ hk))
    (case aO => exact (fR HO309.out))
    (case aS => exact (wz (fW HB.out)))
    (case aL => have := LMc18.out; omega)
    intro v311 w94 ho hb hg hat
    rw [← Ny310.out] at ho
    have n0_ := am (blk_grown (g := gb287) (o := .cells #[.int .i64 a2_0, .int .i64 a2_1, .int .i64 a2_2] 24 (0, 0)) (fb BK287.out) hg (Kd.R_ne HO309.out BK287.out (by decide)))
    have n1_ := am (Kd.R_after (ok := (fun _ => True)) (fR HO301.out) hg hat)
    have n2_ := am (hb)
    have n3_ := am (ho)
    clear BK287 HO301 HB HO309
    have BK287 := n0_
    have HO301 := n1_
    have HB := n2_
    have HO312 := n3_
    clear n0_ n1_ n2_ n3_ ho hb hg hat
    obtain ⟨Ao95, co95, eo95⟩ := Kd.R_slice HO312.out
    (first | subst eo95 | (injection eo95 with f1_ f2_ f3_; have f4_ := f1_.symm; have f5_ := f3_.symm; clear f1_ f2_ f3_; subst f4_; subst f5_))
    refine hK.out _ _ ⟨(bc BK287.out 0).trans rfl, (bc BK287.out 1).trans rfl, (bc BK287.out 2).trans rfl⟩ (fun hHeld => ?_)
    clear hK K
    refine norm_ (a' := ?_) ?_ ?_
    rotate_left
    ·show Act.put _ (some 46) _ = _
     simp only [Act.put, psl, i64_w, i32_w]
     rfl
    refine one_ (i := 6) (N := some 48) (fl 12 7 []) rfl rfl (one_of HT_.out (by kernel_rfl)) (by decide) (fun K hK => ?_)
    refine goes_ Try.func13 (by kernel_rfl) rfl #[.slice Ao95 y310.length co95, .agg #[.int .i64 a2_0, .int .i64 a2_1, .int .i64 a2_2]] (by rfl) rfl rfl (by (try simp only [pml]); first | done | rfl | (simp only [pdt]; rfl)) ?_
    with_reducible refine (model_State.calls kj5 _ _ y310 a2_0 a2_1 a2_2 t313 t314 _ ?side1 ?side2 A19.out).mono ?_
    (case side1 => repeat (first | exact (Kd.R_reads' HO312.out).2.2 | (with_reducible refine Kd.C_alloc ?_ _) | (with_reducible refine Kd.C_drewN ?_ _) | (with_reducible refine Kd.C_drew ?_)))
    (case side2 => exact (Kd.R_reads' HO312.out).2.1)
    rintro e w96 ⟨rfl, hb⟩
    refine ⟨_, rfl, ?_⟩
    have n0_ := dR HO301 hb
    have n1_ := dR HO312 hb
    have n2_ := bB BK287 hb
    have n3_ := bS HB hb
    clear HO301 HO312 BK287 HB
    have HO301 := n0_
    have HO312 := n1_
    have BK287 := n2_
    have HB := n3_
    clear n0_ n1_ n2_ n3_
    (try clear hb)
    (try clear hb2)
    (try clear hk)
    (try clear hi)
    refine hK.out _ _ ⟨(bc BK287.out 0).trans rfl, (bc BK287.out 1).trans rfl, (bc BK287.out 2).trans rfl⟩ (fun hHeld => ?_)
    clear hK K
    refine norm_ (a' := ?_) ?_ ?_
    rotate_left
    ·show Act.put _ (some 48) _ = _
     simp only [Act.put, psl, i64_w, i32_w]
     rfl
    refine pu (i := 7) (N := some 41) (fl 12 8 []) HT_ ?_
    refine pu (i := 8) (N := some 49) (fl 12 9 []) HT_ ?_
    refine pu (i := 9) (N := some 50) (fl 12 10 []) HT_ ?_
    refine pu (i := 10) (N := some 11) (fl 12 11 []) HT_ ?_
    refine pu (i := 11) (N := some 12) (fl 12 12 []) HT_ ?_
    refine done_ (done_of HT_.out (by kernel_rfl)) ?_
    try go_wp2
    have n0_ := am (Kd.R_drew HO301.out)
    have n1_ := am (Kd.R_drew HO312.out)
    have n2_ := am (bd BK287.out)
    have n3_ := am (wd HB.out)
    clear HO301 HO312 BK287 HB
    have HO301 := n0_
    have HO312 := n1_
    have BK287 := n2_
    have HB := n3_
    clear n0_ n1_ n2_ n3_
    refine start_ (n := 14) (S := fun w' => w'.cell? ⟨gb287, 0, none⟩ = some (.int .i64 a2_0) ∧ w'.cell? ⟨gb287, 1, none⟩ = some (.int .i64 a2_1) ∧ w'.cell? ⟨gb287, 2, none⟩ = some (.int .i64 a2_2)) (ds := []) #[F,F,F,F,F,F,F,F,F,F,F,F,F,F] (by kernel_rfl) rfl rfl ⟨(bc BK287.out 0).trans rfl, (bc BK287.out 1).trans rfl, (bc BK287.out 2).trans rfl⟩ (fun hHeld => ?_); refine with_tabW w_ModelGrows.tab8 w_ModelGrows.bits8 (fun HT_ HW_ => ?_)
    generalize w96.drew = w97 at HO301 HO312 BK287 HB hHeld ⊢
    refine pu (i := 1) (N := some 53) (fl 14 0 [1]) HT_ ?_
    refine pu (i := 3) (N := some 55) (fl 14 0 [1, 3]) HT_ ?_
    refine pu (i := 5) (N := some 57) (fl 14 0 [1, 3, 5]) HT_ ?_
    refine tk (i := 7) (N := some 59) (fl 14 0 [1, 3, 5, 7]) HT_ HW_ hHeld ?_
    refine one_ (i := 0) (N := some 52) (fl 14 2 [3, 5, 7]) rfl rfl (one_of HT_.out (by kernel_rfl)) (by decide) (fun K hK => ?_)
    refine Kd.R_lit_step k68 _ 68 ?hg (N := 52) ?hd (xs := ([] : List (S68))) (inner := []) (ok := fun _ => True) (okp := fun _ => True) ?hr ?hp (fun _ hk => hk) trivial (Below.refl _ _) (Nat.le_refl _) (by simp) ?_; (case hd | hg => rfl); (case hr => first | (go_simp; done) | (go_simp; rfl)); (case hp => exact (Reps.none _ _))
    intro v316 w98 ho99 hb hg_ hnew_
    clear hg_ hnew_
    (first | rw [← Ny315.out] at ho99 | (simp only [Int.reduceToNat] at ho99; rw [← Ny315.out] at ho99))
    have n0_ := am (Kd.R_elder' (fR HO301.out) (Kd.R_base ho99) hb)
    have n1_ := am (Kd.R_elder' (fR HO312.out) (Kd.R_base ho99) hb)
    have n2_ := am (Kd.R_lower (Kd.R_new' (Kd.R_new' ho99 (Kd.R_lt (fR HO301.out))) (Kd.R_lt (fR HO312.out))) (wz (fW HB.out)))
    have n3_ := bB BK287 hb
    have n4_ := bS HB hb
    clear HO301 HO312 BK287 HB
    have HO301 := n0_
    have HO312 := n1_
    have HO317 := n2_
    have BK287 := n3_
    have HB := n4_
    clear n0_ n1_ n2_ n3_ n4_ hb ho99
    refine hK.out _ _ ⟨(bc BK287.out 0).trans rfl, (bc BK287.out 1).trans rfl, (bc BK287.out 2).trans rfl⟩ (fun hHeld => ?_)
    clear hK K
    refine norm_ (a' := ?_) ?_ ?_
    rotate_left
    ·show Act.put _ (some 52) _ = _
     simp only [Act.put, psl, i64_w, i32_w]
     rfl
    refine one_ (i := 2) (N := some 54) (fl 14 4 [5, 7]) rfl rfl (one_of HT_.out (by kernel_rfl)) (by decide) (fun K hK => ?_)
    refine Kd.R_append_rows_step k68 (w0 := w) w.heap.size (by rfl) (.tmp 52) (.tmp 53) 22 68 (.agg #[(.string ⟨#[]⟩), (.int .i64 0), (.int .i64 0), (.int .i64 0), (.int .i64 0), (.int .i64 0), (.int .i64 0), (.int .i64 0)]) 72 rfl Try.underlying22 info68 rfl (by decide) (by omega) v316 y315 l1 _ _ _ (fun k_ => some k_ ≠ (.slice Ao88 y299.length co88 : Value).ownBlock ∧ some k_ ≠ (.slice Ao95 y310.length co95 : Value).ownBlock) (fun _ => False) rfl rfl ?aO ?aR (fun _ _ h => h) (fun _ h => h.elim) ?aF ?aB ?aS ?aL ?_
    (case aR => repeat (first | exact (Kd.C_below HR1.out HB.out) | (with_reducible refine Kd.C_alloc ?_ _) | (with_reducible refine Kd.C_drewN ?_ _) | (with_reducible refine Kd.C_drew ?_)))
    (case aB => exact (fW HB.out))
    (case aF => exact (fun k_ hk => ⟨Kd.fresh' (Kd.R_lt (fR HO301.out)) k_ hk, Kd.fresh' (Kd.R_lt (fR HO312.out)) k_ hk⟩))
    (case aO => exact (by (with_reducible repeat (first | apply Kd.R_alloc | apply Kd.R_drewN | apply Kd.R_drew)); exact Kd.R_mono HO317.out (fun _ hk => ⟨hk.1.2, hk.2⟩)))
    (case aS => exact (wz (fW HB.out)))
    (case aL => have := LMc20.out; omega)
    intro v319 w100 ho hb hg hat
    rw [← Ny318.out] at ho
    have n0_ := am (blk_grown (g := gb287) (o := .cells #[.int .i64 a2_0, .int .i64 a2_1, .int .i64 a2_2] 24 (0, 0)) (fb BK287.out) hg (Kd.R_ne HO317.out BK287.out (by decide)))
    have n1_ := am (Kd.R_after (ok := (fun k_ => some k_ ≠ (.slice Ao95 y310.length co95 : Value).ownBlock)) (by (with_reducible repeat (first | apply Kd.R_alloc | apply Kd.R_drewN | apply Kd.R_drew)); exact Kd.R_mono HO301.out (fun _ hk => ⟨hk.1.2, hk.2⟩)) hg hat)
    have n2_ := am (Kd.R_after (ok := (fun k_ => some k_ ≠ (.slice Ao88 y299.length co88 : Value).ownBlock)) (fR HO312.out) hg hat)
    have n3_ := am (hb)
    have n4_ := am (ho)
    clear BK287 HO301 HO312 HB HO317
    have BK287 := n0_
    have HO301 := n1_
    have HO312 := n2_
    have HB := n3_
    have HO320 := n4_
    clear n0_ n1_ n2_ n3_ n4_ ho hb hg hat
    refine hK.out _ _ ⟨(bc BK287.out 0).trans rfl, (bc BK287.out 1).trans rfl, (bc BK287.out 2).trans rfl⟩ (fun hHeld => ?_)
    clear hK K
    refine norm_ (a' := ?_) ?_ ?_
    rotate_left
    ·show Act.put _ (some 54) _ = _
     simp only [Act.put, psl, i64_w, i32_w]
     rfl
    refine one_ (i := 4) (N := some 56) (fl 14 6 [7]) rfl rfl (one_of HT_.out (by kernel_rfl)) (by decide) (fun K hK => ?_)
    refine Kd.R_append_rows_step k68 (w0 := w) w.heap.size (by rfl) (.tmp 54) (.tmp 55) 22 68 (.agg #[(.string ⟨#[]⟩), (.int .i64 0), (.int .i64 0), (.int .i64 0), (.int .i64 0), (.int .i64 0), (.int .i64 0), (.int .i64 0)]) 72 rfl Try.underlying22 info68 rfl (by decide) (by omega) v319 y318 l0 _ _ _ (fun k_ => some k_ ≠ (.slice Ao88 y299.length co88 : Value).ownBlock ∧ some k_ ≠ (.slice Ao95 y310.length co95 : Value).ownBlock) (fun _ => False) rfl rfl ?aO ?aR (fun _ _ h => h) (fun _ h => h.elim) ?aF ?aB ?aS ?aL ?_
    (case aR => repeat (first | exact (Kd.C_below HR0.out HB.out) | (with_reducible refine Kd.C_alloc ?_ _) | (with_reducible refine Kd.C_drewN ?_ _) | (with_reducible refine Kd.C_drew ?_)))
    (case aB => exact (fW HB.out))
    (case aF => exact (fun k_ hk => ⟨Kd.fresh' (Kd.R_lt (fR HO301.out)) k_ hk, Kd.fresh' (Kd.R_lt (fR HO312.out)) k_ hk⟩))
    (case aO => exact (fR HO320.out))
    (case aS => exact (wz (fW HB.out)))
    (case aL => have := LMc21.out; omega)
    intro v322 w101 ho hb hg hat
    rw [← Ny321.out] at ho
    have n0_ := am (blk_grown (g := gb287) (o := .cells #[.int .i64 a2_0, .int .i64 a2_1, .int .i64 a2_2] 24 (0, 0)) (fb BK287.out) hg (Kd.R_ne HO320.out BK287.out (by decide)))
    have n1_ := am (Kd.R_after (ok := (fun k_ => some k_ ≠ (.slice Ao95 y310.length co95 : Value).ownBlock)) (fR HO301.out) hg hat)
    have n2_ := am (Kd.R_after (ok := (fun k_ => some k_ ≠ (.slice Ao88 y299.length co88 : Value).ownBlock)) (fR HO312.out) hg hat)
    have n3_ := am (hb)
    have n4_ := am (ho)
    clear BK287 HO301 HO312 HB HO320
    have BK287 := n0_
    have HO301 := n1_
    have HO312 := n2_
    have HB := n3_
    have HO323 := n4_
    clear n0_ n1_ n2_ n3_ n4_ ho hb hg hat
    refine hK.out _ _ ⟨(bc BK287.out 0).trans rfl, (bc BK287.out 1).trans rfl, (bc BK287.out 2).trans rfl⟩ (fun hHeld => ?_)
    clear hK K
    refine norm_ (a' := ?_) ?_ ?_
    rotate_left
    ·show Act.put _ (some 56) _ = _
     simp only [Act.put, psl, i64_w, i32_w]
     rfl
    refine one_ (i := 6) (N := some 58) (fl 14 8 []) rfl rfl (one_of HT_.out (by kernel_rfl)) (by decide) (fun K hK => ?_)
    refine Kd.R_append_rows_step k68 (w0 := w) w.heap.size (by rfl) (.tmp 56) (.tmp 57) 22 68 (.agg #[(.string ⟨#[]⟩), (.int .i64 0), (.int .i64 0), (.int .i64 0), (.int .i64 0), (.int .i64 0), (.int .i64 0), (.int .i64 0)]) 72 rfl Try.underlying22 info68 rfl (by decide) (by omega) v322 y321 l1 _ _ _ (fun k_ => some k_ ≠ (.slice Ao88 y299.length co88 : Value).ownBlock ∧ some k_ ≠ (.slice Ao95 y310.length co95 : Value).ownBlock) (fun _ => False) rfl rfl ?aO ?aR (fun _ _ h => h) (fun _ h => h.elim) ?aF ?aB ?aS ?aL ?_
    (case aR => repeat (first | exact (Kd.C_below HR1.out HB.out) | (with_reducible refine Kd.C_alloc ?_ _) | (with_reducible refine Kd.C_drewN ?_ _) | (with_reducible refine Kd.C_drew ?_)))
    (case aB => exact (fW HB.out))
    (case aF => exact (fun k_ hk => ⟨Kd.fresh' (Kd.R_lt (fR HO301.out)) k_ hk, Kd.fresh' (Kd.R_lt (fR HO312.out)) k_ hk⟩))
    (case aO => exact (fR HO323.out))
    (case aS => exact (wz (fW HB.out)))
    (case aL => have := LMc22.out; omega)
    intro v325 w102 ho hb hg hat
    rw [← Ny324.out] at ho
    have n0_ := am (blk_grown (g := gb287) (o := .cells #[.int .i64 a2_0, .int .i64 a2_1, .int .i64 a2_2] 24 (0, 0)) (fb BK287.out) hg (Kd.R_ne HO323.out BK287.out (by decide)))
    have n1_ := am (Kd.R_after (ok := (fun k_ => some k_ ≠ (.slice Ao95 y310.length co95 : Value).ownBlock)) (fR HO301.out) hg hat)
    have n2_ := am (Kd.R_after (ok := (fun k_ => some k_ ≠ (.slice Ao88 y299.length co88 : Value).ownBlock)) (fR HO312.out) hg hat)
    have n3_ := am (hb)
    have n4_ := am (ho)
    clear BK287 HO301 HO312 HB HO323
    have BK287 := n0_
    have HO301 := n1_
    have HO312 := n2_
    have HB := n3_
    have HO326 := n4_
    clear n0_ n1_ n2_ n3_ n4_ ho hb hg hat
    obtain ⟨Ao103, co103, eo103⟩ := Kd.R_slice HO326.out
    (first | subst eo103 | (injection eo103 with f1_ f2_ f3_; have f4_ := f1_.symm; have f5_ := f3_.symm; clear f1_ f2_ f3_; subst f4_; subst f5_))
    refine hK.out _ _ ⟨(bc BK287.out 0).trans rfl, (bc BK287.out 1).trans rfl, (bc BK287.out 2).trans rfl⟩ (fun hHeld => ?_)
    clear hK K
    refine norm_ (a' := ?_) ?_ ?_
    rotate_left
    ·show Act.put _ (some 58) _ = _
     simp only [Act.put, psl, i64_w, i32_w]
     rfl
    refine one_ (i := 8) (N := some 60) (fl 14 9 []) rfl rfl (one_of HT_.out (by kernel_rfl)) (by decide) (fun K hK => ?_)
    refine goes_ Try.func13 (by kernel_rfl) rfl #[.slice Ao103 y324.length co103, .agg #[.int .i64 a2_0, .int .i64 a2_1, .int .i64 a2_2]] (by rfl) rfl rfl (by (try simp only [pml]); first | done | rfl | (simp only [pdt]; rfl)) ?_
    with_reducible refine (model_State.calls kj5 _ _ y324 a2_0 a2_1 a2_2 t327 t328 _ ?side1 ?side2 A23.out).mono ?_
    (case side1 => repeat (first | exact (Kd.R_reads' HO326.out).2.2 | (with_reducible refine Kd.C_alloc ?_ _) | (with_reducible refine Kd.C_drewN ?_ _) | (with_reducible refine Kd.C_drew ?_)))
    (case side2 => exact (Kd.R_reads' HO326.out).2.1)
    rintro e w104 ⟨rfl, hb⟩
    refine ⟨_, rfl, ?_⟩
    have n0_ := dR HO301 hb
    have n1_ := dR HO312 hb
    have n2_ := dR HO326 hb
    have n3_ := bB BK287 hb
    have n4_ := bS HB hb
    clear HO301 HO312 HO326 BK287 HB
    have HO301 := n0_
    have HO312 := n1_
    have HO326 := n2_
    have BK287 := n3_
    have HB := n4_
    clear n0_ n1_ n2_ n3_ n4_
    (try clear hb)
    (try clear hb2)
    (try clear hk)
    (try clear hi)
    refine hK.out _ _ ⟨(bc BK287.out 0).trans rfl, (bc BK287.out 1).trans rfl, (bc BK287.out 2).trans rfl⟩ (fun hHeld => ?_)
    clear hK K
    refine norm_ (a' := ?_) ?_ ?_
    rotate_left
    ·show Act.put _ (some 60) _ = _
     simp only [Act.put, psl, i64_w, i32_w]
     rfl
    refine pu (i := 9) (N := some 51) (fl 14 10 []) HT_ ?_
    refine pu (i := 10) (N := some 61) (fl 14 11 []) HT_ ?_
    refine pu (i := 11) (N := some 62) (fl 14 12 []) HT_ ?_
    refine pu (i := 12) (N := some 13) (fl 14 13 []) HT_ ?_
    refine pu (i := 13) (N := some 14) (fl 14 14 []) HT_ ?_
    refine done_ (done_of HT_.out (by kernel_rfl)) ?_
    try go_wp2
    go_ret
    exact ⟨sqE, fW HB.out⟩
 ·replace c5 := Bool.eq_false_iff.mpr c5
  subst c5
  have H1 : (some false) = some r := by rw [if_neg (show ¬ (false = true) by decide)] at H; exact H
  clear H
  have H := H1
  clear H1
  obtain rfl := Option.some.inj H
  go_enter Try.func5, Try.ntmps5
  go_wp2_with (first | ((with_reducible refine gate_dst (N := 5) rfl ?_); refine box_event ?hg (N := 5) ?hd (cs := #[.int .i64 a2_0, .int .i64 a2_1, .int .i64 a2_2]) (t := 24) ?hr ?_; (case hd | hg => rfl); (case hr => first | (go_simp; done) | (go_simp; rfl)); intro gb287 hg w154 hbox hb; have BK287 := am hbox; have GW287 := sG HB hg; have GE287 := sG HB hg; replace HB := bS HB hb; clear hb hbox hg) | ((with_reducible refine gc (f := 10) rfl ?_); refine goesL_ (some 15) rfl rfl Try.func10 (by kernel_rfl) rfl #[] rfl (by (try simp only [pml]); first | done | rfl | (simp only [pdt]; rfl)) ?_; (with_reducible refine (w_awake.calls  false _ A4.out).mono ?_); rintro e w155 ⟨rfl, hb⟩; refine ⟨_, rfl, ?_⟩; replace BK287 := bB BK287 hb; replace HB := bS HB hb; (try clear hb); (try clear hb2); (try clear hk); (try clear hi)))
  go_ret
  exact ⟨sqE, fW HB.out⟩

def w_ModelGrows.Pure : Prop := ∀ (l0 : List (S68)) (l1 : List (S68)) (a2_0 : Int) (a2_1 : Int) (a2_2 : Int), (l0.length ≤ maxLen ∧ ∀ e1_, e1_ ∈ l0 → okS68 e1_) → (l1.length ≤ maxLen ∧ ∀ e2_, e2_ ∈ l1 → okS68 e2_) → ((Lit.int .i64 a2_0).wf = true) → ((Lit.int .i64 a2_1).wf = true) → ((Lit.int .i64 a2_2).wf = true) → ∃ k, w_ModelGrows.f k l0 l1 a2_0 a2_1 a2_2 = some true
theorem w_ModelGrows.walk (P_ : w_ModelGrows.Pure) (A0 : Option Addr) (c0 : Nat) (l0 : List (S68)) (A1 : Option Addr) (c1 : Nat) (l1 : List (S68)) (a2_0 : Int) (a2_1 : Int) (a2_2 : Int) (w : World) (hr0 : Kd.C k68 w A0 l0.length l0) (hc0 : l0.length ≤ c0) (hr1 : Kd.C k68 w A1 l1.length l1) (hc1 : l1.length ≤ c1) (o0 : (l0.length ≤ maxLen ∧ ∀ e1_, e1_ ∈ l0 → okS68 e1_)) (o1 : (l1.length ≤ maxLen ∧ ∀ e2_, e2_ ∈ l1 → okS68 e2_)) (o2 : ((Lit.int .i64 a2_0).wf = true)) (o3 : ((Lit.int .i64 a2_1).wf = true)) (o4 : ((Lit.int .i64 a2_2).wf = true)) :
  Calls Try.prog 5 #[.slice A0 l0.length c0, .slice A1 l1.length c1, .agg #[.int .i64 a2_0, .int .i64 a2_1, .int .i64 a2_2]] w fun e w' => e = .returned (.bool true) ∧ Below w.heap.size w w' := by
 obtain ⟨k, h⟩ := P_ l0 l1 a2_0 a2_1 a2_2 o0 o1 o2 o3 o4
 refine (w_ModelGrows.calls k A0 c0 l0 A1 c1 l1 a2_0 a2_1 a2_2 true w hr0 hc0 hr1 hc1 h).mono ?_
 rintro e w' ⟨rfl, hd⟩
 exact ⟨rfl, hd⟩

end Go.Proofs.Ytcofgnbopodahaa.QA
