import Derived.Test.YtcofgnbopodahaaJQAx0
import Derived.Test.YtcofgnbopodahaaJQAx3
namespace Go.Proofs.Ytcofgnbopodahaa.QA
open Go.RowKit Go.Proofs.YtcofgnbopodahaaW.PrintWords Go.Proofs.YtcofgnbopodahaaW.PrintLast Go.Proofs.YtcofgnbopodahaaW.PrintMore
open Aside0 renaming mk → am
attribute [local go_sem] max2_int min2_int max_two min_two max_three min_three max_four min_four
set_option linter.unusedVariables false
set_option linter.unusedSimpArgs false

attribute [local go_sem high] eqA68
def r_Same.l0 : Nat → List (S68) → List (S68) → Int → Option (Bool)
 | 0, _, _, _ => none
 | k + 1, x0, x1, x5 => if x5 < (x0.length : Int) then (if 0 ≤ x5 then (if x5 < (x1.length : Int) then (if (!((((rd_T68 x0 x5).f0).toList) == (((rd_T68 x1 x5).f0).toList)) || (((!(((rd_T68 x0 x5).f1.f0.f0) == ((rd_T68 x1 x5).f1.f0.f0)) || (!(((rd_T68 x0 x5).f1.f0.f1) == ((rd_T68 x1 x5).f1.f0.f1)) || (!(((rd_T68 x0 x5).f1.f0.f2) == ((rd_T68 x1 x5).f1.f0.f2))))) || ((!(((rd_T68 x0 x5).f1.f1.f0) == ((rd_T68 x1 x5).f1.f1.f0)) || (!(((rd_T68 x0 x5).f1.f1.f1) == ((rd_T68 x1 x5).f1.f1.f1)) || (!(((rd_T68 x0 x5).f1.f1.f2) == ((rd_T68 x1 x5).f1.f1.f2))))))) || (!(((rd_T68 x0 x5).f2) == ((rd_T68 x1 x5).f2))))) = true then (some false) else (r_Same.l0 k x0 x1 (wrap64 (x5 + 1)))) else (none)) else (none)) else (some true)
def r_Same.f (k : Nat) (l0 : List (S68)) (l1 : List (S68)) : Option (Bool) := if (l0.length : Int) = (l1.length : Int) then (r_Same.l0 k l0 l1 0) else (some false)
set_option maxHeartbeats 8000000 in
set_option maxRecDepth 100000 in
theorem r_Same.calls (k : Nat) (A0 : Option Addr) (c0 : Nat) (l0 : List (S68)) (A1 : Option Addr) (c1 : Nat) (l1 : List (S68)) (r : Bool) (w : World) (hr0 : Kd.C k68 w A0 l0.length l0) (hc0 : l0.length ≤ c0) (hr1 : Kd.C k68 w A1 l1.length l1) (hc1 : l1.length ≤ c1) (h : r_Same.f k l0 l1 = some r) :
  Calls Try.prog 31 #[.slice A0 l0.length c0, .slice A1 l1.length c1] w fun e w' => e = .returned (.bool r) ∧ Drawn0 w w' := by
 have hu68 := Try.underlying68
 have HR0 := am hr0
 have HC0 := am hc0
 clear hr0 hc0
 have HR1 := am hr1
 have HC1 := am hc1
 clear hr1 hc1
 have H : (if (l0.length : Int) = (l1.length : Int) then (r_Same.l0 k l0 l1 0) else (some false)) = some r := h
 clear h
 by_cases c3 : (l0.length : Int) = (l1.length : Int)
 ·rw [if_pos c3] at H
  have c3b0 : ((l0.length : Int) == (l1.length : Int)) = true := beq_iff_eq.mpr c3
  have c3b1 : ((l0.length : Int) != (l1.length : Int)) = false := bne_eq_false_iff_eq.mpr c3
  have c3b2 : (l0.length == l1.length) = true := by first | simpa using c3 | (simp at c3 ⊢; omega)
  clear c3
  have H' := am H
  clear H
  go_enter Try.func31, Try.ntmps31
  go_wp2
  repeat (go_quiet (fail); try go_wp2)
  go_loopg [5] k (fun kq v5 w' => ∃ (x5_1 : Int), v5 = .int .i64 x5_1 ∧ Aside0 (r_Same.l0 kq l0 l1 x5_1 = some r) ∧ Aside0 (kq ≤ k) ∧ Drawn0 w w')
  case atStart => exact ⟨(0), sqD, H', ⟨Nat.le_refl _⟩, by repeat (first | exact Drawn0.refl _ | apply Drawn0.step)⟩
  case round =>
   clear H'
   try clear c1;try clear p2;try clear c3;try clear c3b0;try clear c3b1;try clear c3b2
   obtain ⟨x5_1, rfl, HA, HK1, ⟨m1, rfl⟩⟩ := hrel
   cases gk with
   | zero => exact absurd HA.out (by simp [r_Same.l0])
   | succ k1 =>
    have H := HA.out
    clear HA
    simp only [r_Same.l0] at H
    by_cases c4 : x5_1 < (l0.length : Int)
    rotate_left
    ·rw [if_neg c4] at H
     have c4b0 : decide (x5_1 < (l0.length : Int)) = false := decide_eq_false c4
     clear c4
     obtain rfl := Option.some.inj H
     go_wp2
     repeat (go_quiet (fail); try go_wp2)
     go_ret
     exact ⟨by first | rfl | (simp; done) | (simp [*]; done), by repeat (first | exact Drawn0.refl _ | apply Drawn0.step)⟩
    rw [if_pos c4] at H
    have c4b0 : decide (x5_1 < (l0.length : Int)) = true := decide_eq_true c4
    clear c4
    by_cases c5 : 0 ≤ x5_1
    rotate_left
    ·rw [if_neg c5] at H
     exact absurd H (by simp)
    rw [if_pos c5] at H
    have c5b0 : decide (0 ≤ x5_1) = true := decide_eq_true c5
    clear c5
    by_cases c6 : x5_1 < (l1.length : Int)
    rotate_left
    ·rw [if_neg c6] at H
     exact absurd H (by simp)
    rw [if_pos c6] at H
    have c6b0 : decide (x5_1 < (l1.length : Int)) = true := decide_eq_true c6
    clear c6
    by_cases c7 : (!((((rd_T68 l0 x5_1).f0).toList) == (((rd_T68 l1 x5_1).f0).toList)) || (((!(((rd_T68 l0 x5_1).f1.f0.f0) == ((rd_T68 l1 x5_1).f1.f0.f0)) || (!(((rd_T68 l0 x5_1).f1.f0.f1) == ((rd_T68 l1 x5_1).f1.f0.f1)) || (!(((rd_T68 l0 x5_1).f1.f0.f2) == ((rd_T68 l1 x5_1).f1.f0.f2))))) || ((!(((rd_T68 l0 x5_1).f1.f1.f0) == ((rd_T68 l1 x5_1).f1.f1.f0)) || (!(((rd_T68 l0 x5_1).f1.f1.f1) == ((rd_T68 l1 x5_1).f1.f1.f1)) || (!(((rd_T68 l0 x5_1).f1.f1.f2) == ((rd_T68 l1 x5_1).f1.f1.f2))))))) || (!(((rd_T68 l0 x5_1).f2) == ((rd_T68 l1 x5_1).f2))))) = true
    ·rw [if_pos c7] at H
     have c7b0 : (!((((rd_T68 l0 x5_1).f0).toList) == (((rd_T68 l1 x5_1).f0).toList)) || (((!(((rd_T68 l0 x5_1).f1.f0.f0) == ((rd_T68 l1 x5_1).f1.f0.f0)) || (!(((rd_T68 l0 x5_1).f1.f0.f1) == ((rd_T68 l1 x5_1).f1.f0.f1)) || (!(((rd_T68 l0 x5_1).f1.f0.f2) == ((rd_T68 l1 x5_1).f1.f0.f2))))) || ((!(((rd_T68 l0 x5_1).f1.f1.f0) == ((rd_T68 l1 x5_1).f1.f1.f0)) || (!(((rd_T68 l0 x5_1).f1.f1.f1) == ((rd_T68 l1 x5_1).f1.f1.f1)) || (!(((rd_T68 l0 x5_1).f1.f1.f2) == ((rd_T68 l1 x5_1).f1.f1.f2))))))) || (!(((rd_T68 l0 x5_1).f2) == ((rd_T68 l1 x5_1).f2))))) = true := c7
     clear c7
     obtain rfl := Option.some.inj H
     have p542 : 0 ≤ (x5_1 : Int) := of_decide_eq_true (by assumption)
     have q542 : x5_1 < (l0.length : Int) := of_decide_eq_true (by assumption)
     obtain ⟨ad542, e542, hx542_0, hx542_1, hx542_2, hx542_3, hx542_4, hx542_5, hx542_6, hx542_7⟩ := at_T68 HR0.out x5_1 p542 q542
     cases e542
     replace p542 := eq_true p542
     replace q542 := eq_true q542
     have p543 : 0 ≤ (x5_1 : Int) := of_decide_eq_true (by assumption)
     have q543 : x5_1 < (l1.length : Int) := of_decide_eq_true (by assumption)
     obtain ⟨ad543, e543, hx543_0, hx543_1, hx543_2, hx543_3, hx543_4, hx543_5, hx543_6, hx543_7⟩ := at_T68 HR1.out x5_1 p543 q543
     cases e543
     replace p543 := eq_true p543
     replace q543 := eq_true q543
     go_wp2
     repeat (go_quiet (fail); try go_wp2)
     go_ret
     exact ⟨by first | rfl | (simp; done) | (simp [*]; done), by repeat (first | exact Drawn0.refl _ | apply Drawn0.step)⟩
    rw [if_neg c7] at H
    have c7b0 : (!((((rd_T68 l0 x5_1).f0).toList) == (((rd_T68 l1 x5_1).f0).toList)) || (((!(((rd_T68 l0 x5_1).f1.f0.f0) == ((rd_T68 l1 x5_1).f1.f0.f0)) || (!(((rd_T68 l0 x5_1).f1.f0.f1) == ((rd_T68 l1 x5_1).f1.f0.f1)) || (!(((rd_T68 l0 x5_1).f1.f0.f2) == ((rd_T68 l1 x5_1).f1.f0.f2))))) || ((!(((rd_T68 l0 x5_1).f1.f1.f0) == ((rd_T68 l1 x5_1).f1.f1.f0)) || (!(((rd_T68 l0 x5_1).f1.f1.f1) == ((rd_T68 l1 x5_1).f1.f1.f1)) || (!(((rd_T68 l0 x5_1).f1.f1.f2) == ((rd_T68 l1 x5_1).f1.f1.f2))))))) || (!(((rd_T68 l0 x5_1).f2) == ((rd_T68 l1 x5_1).f2))))) = false := by simpa using c7
    clear c7
    have H' := am H
    clear H
    have p542 : 0 ≤ (x5_1 : Int) := of_decide_eq_true (by assumption)
    have q542 : x5_1 < (l0.length : Int) := of_decide_eq_true (by assumption)
    obtain ⟨ad542, e542, hx542_0, hx542_1, hx542_2, hx542_3, hx542_4, hx542_5, hx542_6, hx542_7⟩ := at_T68 HR0.out x5_1 p542 q542
    cases e542
    replace p542 := eq_true p542
    replace q542 := eq_true q542
    have p543 : 0 ≤ (x5_1 : Int) := of_decide_eq_true (by assumption)
    have q543 : x5_1 < (l1.length : Int) := of_decide_eq_true (by assumption)
    obtain ⟨ad543, e543, hx543_0, hx543_1, hx543_2, hx543_3, hx543_4, hx543_5, hx543_6, hx543_7⟩ := at_T68 HR1.out x5_1 p543 q543
    cases e543
    replace p543 := eq_true p543
    replace q543 := eq_true q543
    go_wp2
    repeat (go_quiet (fail); try go_wp2)
    go_roundg k1
    case measure => have := HK1.out; omega
    case rel => exact ⟨(wrap64 (x5_1 + 1)), sqD, H', ⟨by have := HK1.out; omega⟩, by repeat (first | exact Drawn0.refl _ | apply Drawn0.step)⟩
 ·rw [if_neg c3] at H
  have c3b0 : ((l0.length : Int) == (l1.length : Int)) = false := beq_eq_false_iff_ne.mpr c3
  have c3b1 : ((l0.length : Int) != (l1.length : Int)) = true := bne_iff_ne.mpr c3
  have c3b2 : (l0.length == l1.length) = false := by first | simpa using c3 | (simp at c3 ⊢; omega)
  obtain rfl := Option.some.inj H
  go_enter Try.func31, Try.ntmps31
  go_wp2
  repeat (go_quiet (fail); try go_wp2)
  go_ret
  exact ⟨by first | rfl | (simp; done) | (simp [*]; done), by repeat (first | exact Drawn0.refl _ | apply Drawn0.step)⟩

mutual
def r_Without.l0 : Nat → List (S68) → ByteArray → List (S68) → Int → Option ((List (S68)))
 | 0, _, _, _, _ => none
 | k + 1, x0, x1, x5, x6 => if x6 < (x0.length : Int) then (if 0 ≤ x6 then (if ((rd_T68 x0 x6).f0).toList = x1.toList then (r_Without.j1 k x0 x1 x5 x6) else (if x5.length < 1954687338268 then (r_Without.j1 k x0 x1 (x5 ++ [(⟨(rd_T68 x0 x6).f0, (⟨(⟨(rd_T68 x0 x6).f1.f0.f0, (rd_T68 x0 x6).f1.f0.f1, (rd_T68 x0 x6).f1.f0.f2⟩ : S24), (⟨(rd_T68 x0 x6).f1.f1.f0, (rd_T68 x0 x6).f1.f1.f1, (rd_T68 x0 x6).f1.f1.f2⟩ : S24)⟩ : S43), (rd_T68 x0 x6).f2⟩ : S68)]) x6) else (none))) else (none)) else (some x5)
def r_Without.j1 : Nat → List (S68) → ByteArray → List (S68) → Int → Option ((List (S68)))
 | 0, _, _, _, _ => none
 | k + 1, x0, x1, x5, x6 => r_Without.l0 k x0 x1 x5 (wrap64 (x6 + 1))
end
def r_Without.f (k : Nat) (l0 : List (S68)) (a1 : ByteArray) : Option ((List (S68))) := r_Without.l0 k l0 a1 (([] : List (S68))) 0
set_option maxHeartbeats 8000000 in
set_option maxRecDepth 100000 in
theorem r_Without.calls (k : Nat) (A0 : Option Addr) (c0 : Nat) (l0 : List (S68)) (a1 : ByteArray) (r : List (S68)) (w : World) (hr0 : Kd.C k68 w A0 l0.length l0) (hc0 : l0.length ≤ c0) (h : r_Without.f k l0 a1 = some r) :
  Calls Try.prog 32 #[.slice A0 l0.length c0, .string a1] w fun e w' => ∃ v0_ : Value, e = .returned (v0_) ∧ Kd.R k68 68 w' w.heap.size (fun _ => True) v0_ r ∧ Below w.heap.size w w' := by
 have hu68 := Try.underlying68
 have HR0 := am hr0
 have HC0 := am hc0
 clear hr0 hc0
 have HB := am (Below.refl w.heap.size w)
 have H : (r_Without.l0 k l0 a1 (([] : List (S68))) 0) = some r := h
 clear h
 obtain ⟨y544, hy544⟩ : ∃ y_ : List (S68), y_ = (([] : List (S68))) := ⟨_, rfl⟩
 replace H : (r_Without.l0 k l0 a1 y544 0) = some r := by first | (rw [hy544]; with_reducible exact H) | (have H2_ := (Option.bind_some _ _).symm.trans H; rw [hy544]; with_reducible exact H2_) | (have H2_ := (Option.bind_some _ _).symm.trans H; with_reducible exact H2_) | with_reducible exact H | (rw [hy544]; exact H) | exact H
 have Ny544 := am hy544
 clear hy544
 have H' := am H
 clear H
 go_enter Try.func32, Try.ntmps32
 go_wp2_with (first | ((with_reducible refine gate_dst (N := 7) rfl ?_); refine Kd.R_lit k68 _ 68 ?hg (N := 7) ?hd (xs := ([] : List (S68))) (inner := []) (ok := fun _ => True) (okp := fun _ => True) ?hr ?hp (fun _ hk => hk) trivial (Below.refl _ _) (Nat.le_refl _) (by simp) ?_; (case hd | hg => rfl); (case hr => first | (go_simp; done) | (go_simp; rfl)); (case hp => exact (Reps.none _ _)); intro v545 w3 ho4 hb hg_ hnew_; clear hg_ hnew_; (first | rw [← Ny544.out] at ho4 | (simp only [Int.reduceToNat] at ho4; rw [← Ny544.out] at ho4)); have HO546 := am (Kd.R_lower ho4 (below_size (fW HB.out))); replace HB := bS HB hb; clear hb ho4))
 go_loopg [5, 6] k (fun kq v5 v6 w' => ∃ (x5_1 : List (S68)) (x6_1 : Int), v6 = .int .i64 x6_1 ∧ Aside0 (r_Without.l0 kq l0 a1 x5_1 x6_1 = some r) ∧ Aside0 (kq ≤ k) ∧ Aside0 (Kd.R k68 68 w' w.heap.size (fun _ => True) v5 x5_1) ∧ Aside0 (Below w.heap.size w w'))
 case atStart => exact ⟨(y544), (0), sqD, H', ⟨Nat.le_refl _⟩, ⟨fR HO546.out⟩, ⟨fW HB.out⟩⟩
 case round =>
  clear H'
  try clear p2;try clear c3
  obtain ⟨x5_1, x6_1, rfl, HA, HK1, HO_5, HB⟩ := hrel
  cases gk with
  | zero => exact absurd HA.out (by simp [r_Without.l0])
  | succ k1 =>
   have H := HA.out
   clear HA
   simp only [r_Without.l0] at H
   by_cases c5 : x6_1 < (l0.length : Int)
   ·rw [if_pos c5] at H
    have c5b0 : decide (x6_1 < (l0.length : Int)) = true := decide_eq_true c5
    clear c5
    have HC6 := am H
    clear H
    go_upto_block 1 with (fail)
    go_cut [5] (fun v5 wc => ∃ (kq : Nat) (x5_5 : List (S68)), Aside0 (r_Without.j1 kq l0 a1 x5_5 x6_1 = some r) ∧ Aside0 (kq ≤ k1) ∧ Aside0 (Kd.R k68 68 wc w.heap.size (fun _ => True) v5 x5_5) ∧ Aside0 (Below w.heap.size w wc))
    case first =>
     have H := HC6.out
     clear HC6
     by_cases c7 : 0 ≤ x6_1
     rotate_left
     ·rw [if_neg c7] at H
      exact absurd H (by simp)
     rw [if_pos c7] at H
     have c7b0 : decide (0 ≤ x6_1) = true := decide_eq_true c7
     clear c7
     (first | rw [c7b0] | (simp only [i64_w, i32_w]; rw [c7b0]) | skip)
     by_cases c8 : ((rd_T68 l0 x6_1).f0).toList = a1.toList
     ·rw [if_pos c8] at H
      have c8b0 : (((rd_T68 l0 x6_1).f0).toList == a1.toList) = true := beq_iff_eq.mpr c8
      have c8b1 : (((rd_T68 l0 x6_1).f0).toList != a1.toList) = false := bne_eq_false_iff_eq.mpr c8
      clear c8
      have H' := am H
      clear H
      have p547 : 0 ≤ (x6_1 : Int) := of_decide_eq_true (by assumption)
      have q547 : x6_1 < (l0.length : Int) := of_decide_eq_true (by assumption)
      obtain ⟨ad547, e547, hx547_0, hx547_1, hx547_2, hx547_3, hx547_4, hx547_5, hx547_6, hx547_7⟩ := at_T68 HR0.out x6_1 p547 q547
      cases e547
      replace hx547_0 := cl HB hx547_0
      replace hx547_1 := cl HB hx547_1
      replace hx547_2 := cl HB hx547_2
      replace hx547_3 := cl HB hx547_3
      replace hx547_4 := cl HB hx547_4
      replace hx547_5 := cl HB hx547_5
      replace hx547_6 := cl HB hx547_6
      replace hx547_7 := cl HB hx547_7
      replace p547 := eq_true p547
      replace q547 := eq_true q547
      go_wp2
      go_meet
      case rel => exact ⟨_, (x5_1), H', ⟨by have := HK1.out; first | omega | exact Nat.le_refl _⟩, ⟨fR HO_5.out⟩, ⟨fW HB.out⟩⟩
     rw [if_neg c8] at H
     have c8b0 : (((rd_T68 l0 x6_1).f0).toList == a1.toList) = false := beq_eq_false_iff_ne.mpr c8
     have c8b1 : (((rd_T68 l0 x6_1).f0).toList != a1.toList) = true := bne_iff_ne.mpr c8
     by_cases c9 : x5_1.length < 1954687338268
     rotate_left
     ·rw [if_neg c9] at H
      exact absurd H (by simp)
     rw [if_pos c9] at H
     have LMc9 := am c9
     clear c9
     obtain ⟨y549, hy549⟩ : ∃ y_ : List (S68), y_ = (x5_1 ++ [(⟨(rd_T68 l0 x6_1).f0, (⟨(⟨(rd_T68 l0 x6_1).f1.f0.f0, (rd_T68 l0 x6_1).f1.f0.f1, (rd_T68 l0 x6_1).f1.f0.f2⟩ : S24), (⟨(rd_T68 l0 x6_1).f1.f1.f0, (rd_T68 l0 x6_1).f1.f1.f1, (rd_T68 l0 x6_1).f1.f1.f2⟩ : S24)⟩ : S43), (rd_T68 l0 x6_1).f2⟩ : S68)]) := ⟨_, rfl⟩
     replace H : (r_Without.j1 k1 l0 a1 y549 x6_1) = some r := by first | (rw [hy549]; with_reducible exact H) | (have H2_ := (Option.bind_some _ _).symm.trans H; rw [hy549]; with_reducible exact H2_) | (have H2_ := (Option.bind_some _ _).symm.trans H; with_reducible exact H2_) | with_reducible exact H | (rw [hy549]; exact H) | exact H
     have Ny549 := am hy549
     clear hy549
     have H' := am H
     clear H
     have p547 : 0 ≤ (x6_1 : Int) := of_decide_eq_true (by assumption)
     have q547 : x6_1 < (l0.length : Int) := of_decide_eq_true (by assumption)
     obtain ⟨ad547, e547, hx547_0, hx547_1, hx547_2, hx547_3, hx547_4, hx547_5, hx547_6, hx547_7⟩ := at_T68 HR0.out x6_1 p547 q547
     cases e547
     replace hx547_0 := cl HB hx547_0
     replace hx547_1 := cl HB hx547_1
     replace hx547_2 := cl HB hx547_2
     replace hx547_3 := cl HB hx547_3
     replace hx547_4 := cl HB hx547_4
     replace hx547_5 := cl HB hx547_5
     replace hx547_6 := cl HB hx547_6
     replace hx547_7 := cl HB hx547_7
     replace p547 := eq_true p547
     replace q547 := eq_true q547
     have p548 : 0 ≤ (x6_1 : Int) := of_decide_eq_true (by assumption)
     have q548 : x6_1 < (l0.length : Int) := of_decide_eq_true (by assumption)
     obtain ⟨ad548, e548, hx548_0, hx548_1, hx548_2, hx548_3, hx548_4, hx548_5, hx548_6, hx548_7⟩ := at_T68 HR0.out x6_1 p548 q548
     obtain rfl : ad547 = ad548 := (by injection e548)
     replace hx548_0 := cl HB hx548_0
     replace hx548_1 := cl HB hx548_1
     replace hx548_2 := cl HB hx548_2
     replace hx548_3 := cl HB hx548_3
     replace hx548_4 := cl HB hx548_4
     replace hx548_5 := cl HB hx548_5
     replace hx548_6 := cl HB hx548_6
     replace hx548_7 := cl HB hx548_7
     replace p548 := eq_true p548
     replace q548 := eq_true q548
     go_wp2_with (first | ((with_reducible refine gate_builtin (b := .append) (xs := #[.tmp 21, .tmp 26]) rfl ?_); at_builtin; refine Kd.R_append k68 (w0 := w) w.heap.size rfl (.tmp 21) (.tmp 26) 22 68 (.agg #[(.string ⟨#[]⟩), (.int .i64 0), (.int .i64 0), (.int .i64 0), (.int .i64 0), (.int .i64 0), (.int .i64 0), (.int .i64 0)]) 72 rfl Try.underlying22 info68 rfl (by decide) (by omega) u5 x5_1 (⟨(rd_T68 l0 x6_1).f0, (⟨(⟨(rd_T68 l0 x6_1).f1.f0.f0, (rd_T68 l0 x6_1).f1.f0.f1, (rd_T68 l0 x6_1).f1.f0.f2⟩ : S24), (⟨(rd_T68 l0 x6_1).f1.f1.f0, (rd_T68 l0 x6_1).f1.f1.f1, (rd_T68 l0 x6_1).f1.f1.f2⟩ : S24)⟩ : S43), (rd_T68 l0 x6_1).f2⟩ : S68) [.string ((rd_T68 l0 x6_1).f0), .int .i64 ((rd_T68 l0 x6_1).f1.f0.f0), .int .i64 ((rd_T68 l0 x6_1).f1.f0.f1), .int .i64 ((rd_T68 l0 x6_1).f1.f0.f2), .int .i64 ((rd_T68 l0 x6_1).f1.f1.f0), .int .i64 ((rd_T68 l0 x6_1).f1.f1.f1), .int .i64 ((rd_T68 l0 x6_1).f1.f1.f2), .int .i64 ((rd_T68 l0 x6_1).f2)] (fun _ => True) (fun _ => False) rfl rfl ?aP (fun _ hk => hk.elim) ?aF ?aO ?aB ?aS ?aL ?_; (case aP => exact k68_mkM _ _ _ (⟨(rd_T68 l0 x6_1).f0, (⟨(⟨(rd_T68 l0 x6_1).f1.f0.f0, (rd_T68 l0 x6_1).f1.f0.f1, (rd_T68 l0 x6_1).f1.f0.f2⟩ : S24), (⟨(rd_T68 l0 x6_1).f1.f1.f0, (rd_T68 l0 x6_1).f1.f1.f1, (rd_T68 l0 x6_1).f1.f1.f2⟩ : S24)⟩ : S43), (rd_T68 l0 x6_1).f2⟩ : S68)); (case aB => exact (fW HB.out)); (case aF => exact (fun _ _ => trivial)); (case aO => exact (fR HO_5.out)); (case aS => exact (below_size (fW HB.out))); (case aL => have := LMc9.out; omega); intro v550 w10 ho hb hg hat; rw [← Ny549.out] at ho; replace HB := am (hb); have HO551 := am (ho); clear HO_5 ho hb hg hat))
     go_meet
     case rel => exact ⟨_, (y549), H', ⟨by have := HK1.out; first | omega | exact Nat.le_refl _⟩, ⟨fR HO551.out⟩, ⟨fW HB.out⟩⟩
    case rest =>
     clear HC6
     try clear p2;try clear c3;try clear c5;try clear c5b0;try clear p5;try clear q5;try clear hx5;try clear c7;try clear c7b0;try clear c8;try clear c8b0;try clear c8b1;try clear c9;try clear hx547_0;try clear hx547_1;try clear hx547_2;try clear hx547_3;try clear hx547_4;try clear hx547_5;try clear hx547_6;try clear hx547_7;try clear hx548_0;try clear hx548_1;try clear hx548_2;try clear hx548_3;try clear hx548_4;try clear hx548_5;try clear hx548_6;try clear hx548_7;try clear p2;try clear p547;try clear p548;try clear q547;try clear q548
     obtain ⟨kq, x5_5, HA, HJ5, HO_5, HB⟩ := hcut
     cases kq with
     | zero => exact absurd HA.out (by simp [r_Without.j1])
     | succ kj5 =>
      have H := HA.out
      clear HA
      simp only [r_Without.j1] at H
      have H' := am H
      clear H
      go_wp2
      go_roundg kj5
      case measure => have := HK1.out; have := HJ5.out; omega
      case rel => exact ⟨(x5_5), (wrap64 (x6_1 + 1)), sqD, H', ⟨by have := HK1.out; have := HJ5.out; omega⟩, ⟨fR HO_5.out⟩, ⟨fW HB.out⟩⟩
   ·rw [if_neg c5] at H
    have c5b0 : decide (x6_1 < (l0.length : Int)) = false := decide_eq_false c5
    clear c5
    obtain rfl := Option.some.inj H
    go_wp2
    go_ret
    exact ⟨_, sqE, fR HO_5.out, fW HB.out⟩

end Go.Proofs.Ytcofgnbopodahaa.QA
