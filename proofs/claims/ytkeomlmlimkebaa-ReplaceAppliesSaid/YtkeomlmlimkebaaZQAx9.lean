import Derived.Test.YtkeomlmlimkebaaZQAx0
namespace Go.Proofs.Ytkeomlmlimkebaa.QA
open Go.RowKit Go.Proofs.YtkeomlmlimkebaaW.PrintWords Go.Proofs.YtkeomlmlimkebaaW.PrintLast Go.Proofs.YtkeomlmlimkebaaW.PrintMore
open Aside0 renaming mk → am
attribute [local go_sem] max2_int min2_int max_two min_two max_three min_three max_four min_four
set_option linter.unusedVariables false
set_option linter.unusedSimpArgs false

def w_ours.f (l0_0 : List (List Int)) (a0_1 : Int) (l0_2 : List Int) (l0_3 : List Bool) : Option ((List (List Int)) × Int × List Int × List Bool) := some (l0_0, a0_1, l0_2, l0_3)
set_option maxHeartbeats 8000000 in
set_option maxRecDepth 100000 in
theorem w_ours.calls (P0_0_ : Nat → Prop) (A0_0 : Option Addr) (c0_0 : Nat) (l0_0 : List (List Int)) (a0_1 : Int) (P0_2_ : Nat → Prop) (A0_2 : Option Addr) (c0_2 : Nat) (l0_2 : List Int) (P0_3_ : Nat → Prop) (A0_3 : Option Addr) (c0_3 : Nat) (l0_3 : List Bool) (r1 : List (List Int)) (r2 : Int) (r3 : List Int) (r4 : List Bool) (w : World) (hs0_0 : Kd.V (Kd.slice 3 (Kd.int .i64)) 23 w w.heap.size (fun k_ => P0_0_ k_) (.slice A0_0 l0_0.length c0_0) l0_0) (hs0_2 : Kd.V (Kd.int .i64) 3 w w.heap.size (fun k_ => P0_2_ k_) (.slice A0_2 l0_2.length c0_2) l0_2) (hs0_3 : Kd.V Kd.bool 4 w w.heap.size (fun k_ => P0_3_ k_) (.slice A0_3 l0_3.length c0_3) l0_3) (h : w_ours.f l0_0 a0_1 l0_2 l0_3 = some (r1, r2, r3, r4)) :
  Calls Try.prog 13 #[.agg #[.slice A0_0 l0_0.length c0_0, .int .i64 a0_1, .slice A0_2 l0_2.length c0_2, .slice A0_3 l0_3.length c0_3]] w fun e w' => ∃ v0_ v2_ v3_ : Value, e = .returned (.agg #[v0_, .int .i64 r2, v2_, v3_]) ∧ Kd.V (Kd.slice 3 (Kd.int .i64)) 23 w' w.heap.size (fun k_ => ((P0_0_ k_ ∨ P0_2_ k_ ∨ P0_3_ k_) ∨ w.heap.size ≤ k_)) v0_ r1 ∧ Kd.V (Kd.int .i64) 3 w' w.heap.size (fun k_ => ((P0_0_ k_ ∨ P0_2_ k_ ∨ P0_3_ k_) ∨ w.heap.size ≤ k_)) v2_ r3 ∧ Kd.V Kd.bool 4 w' w.heap.size (fun k_ => ((P0_0_ k_ ∨ P0_2_ k_ ∨ P0_3_ k_) ∨ w.heap.size ≤ k_)) v3_ r4 ∧ Below w.heap.size w w' := by
 have hu26 := Try.underlying26
 have hu33 := Try.underlying33
 have HO0_0 := am (show Kd.V (Kd.slice 3 (Kd.int .i64)) 23 w w.heap.size (fun k_ => ((P0_0_ k_ ∨ P0_2_ k_ ∨ P0_3_ k_) ∨ w.heap.size ≤ k_)) (.slice A0_0 l0_0.length c0_0) l0_0 from Kd.V_mono hs0_0 (fun k_ hk => .inl (.inl hk)))
 have HO0_2 := am (show Kd.V (Kd.int .i64) 3 w w.heap.size (fun k_ => ((P0_0_ k_ ∨ P0_2_ k_ ∨ P0_3_ k_) ∨ w.heap.size ≤ k_)) (.slice A0_2 l0_2.length c0_2) l0_2 from Kd.V_mono hs0_2 (fun k_ hk => .inl (.inr (.inl hk))))
 have HO0_3 := am (show Kd.V Kd.bool 4 w w.heap.size (fun k_ => ((P0_0_ k_ ∨ P0_2_ k_ ∨ P0_3_ k_) ∨ w.heap.size ≤ k_)) (.slice A0_3 l0_3.length c0_3) l0_3 from Kd.V_mono hs0_3 (fun k_ hk => .inl (.inr (.inr hk))))
 have HB := am (Below.refl w.heap.size w)
 have H : (some (l0_0, a0_1, l0_2, l0_3)) = some (r1, r2, r3, r4) := h
 clear h
 simp only [Option.some.injEq, Prod.mk.injEq] at H
 obtain ⟨rfl, rfl, rfl, rfl⟩ := H
 go_enter Try.func13, Try.ntmps13
 go_wp2_with (first | ((with_reducible refine gate_dst (N := 1) rfl ?_); refine box_event ?hg (N := 1) ?hd (cs := #[.slice A0_0 l0_0.length c0_0, .int .i64 a0_1, .slice A0_2 l0_2.length c0_2, .slice A0_3 l0_3.length c0_3]) (t := 26) ?hr ?_; (case hd | hg => rfl); (case hr => first | (go_simp; done) | (go_simp; rfl)); intro gb221 hg w2 hbox hb; replace HO0_0 := eV HO0_0 hg hb; replace HO0_2 := eV HO0_2 hg hb; replace HO0_3 := eV HO0_3 hg hb; have BK221 := am hbox; have GW221 := sG HB hg; have GE221 := sG HB hg; replace HB := bS HB hb; clear hb hbox hg) | ((with_reducible refine gate_dst (N := 2) rfl ?_); refine box_event ?hg (N := 2) ?hd (cs := #[.slice none 0 0, .int .i64 0, .slice none 0 0, .slice none 0 0]) (t := 33) ?hr ?_; (case hd | hg => rfl); (case hr => first | (go_simp; done) | (go_simp; rfl)); intro gb222 hg w3 hbox hb; replace HO0_0 := eV HO0_0 hg hb; replace HO0_2 := eV HO0_2 hg hb; replace HO0_3 := eV HO0_3 hg hb; have BK222 := am hbox; have GW222 := sG HB hg; have GE222 := sG HB hg; replace HB := bS HB hb; have NB221_222 := nL BK221 hg; have NB222_221 := nG BK221 hg; replace BK221 := bB BK221 hb; clear hb hbox hg; have hnb4 := NB221_222.out; have hnc4 := NB222_221.out; obtain ⟨_, _, _, _, _, _, _, _⟩ := zC4 BK221; obtain ⟨_, _, _, _, _, _, _, _⟩ := zC4 BK222))
 refine bodyPost_ret (results_cell_row rfl _ _ gb222 33 #[.slice A0_0 l0_0.length c0_0, .int .i64 a0_1, .slice A0_2 l0_2.length c0_2, .slice A0_3 l0_3.length c0_3] (0, 0) _ rfl (kkC BK222.out) Try.underlying33 rfl (by kernel_rfl)) rfl ?_
 exact ⟨_, _, _, sqE, by (with_reducible repeat (first | apply Kd.V_alloc | apply Kd.V_drewN | apply Kd.V_drew)); exact Kd.V_mono (Kd.V_far (p := ⟨gb222, 3, none⟩) (Kd.V_far (p := ⟨gb222, 2, none⟩) (Kd.V_far (p := ⟨gb222, 1, none⟩) (Kd.V_far (p := ⟨gb222, 0, none⟩) (Kd.V_mono HO0_0.out (fun k_ hk => (⟨hk, hk.2⟩ : _ ∧ k_ ≠ gb222))) (fun _ hk => hk.2) (.slice A0_0 l0_0.length c0_0)) (fun _ hk => hk.2) (.int .i64 a0_1)) (fun _ hk => hk.2) (.slice A0_2 l0_2.length c0_2)) (fun _ hk => hk.2) (.slice A0_3 l0_3.length c0_3)) (fun _ hk => hk.1.1.1), by (with_reducible repeat (first | apply Kd.V_alloc | apply Kd.V_drewN | apply Kd.V_drew)); exact Kd.V_mono (Kd.V_far (p := ⟨gb222, 3, none⟩) (Kd.V_far (p := ⟨gb222, 2, none⟩) (Kd.V_far (p := ⟨gb222, 1, none⟩) (Kd.V_far (p := ⟨gb222, 0, none⟩) (Kd.V_mono HO0_2.out (fun k_ hk => (⟨hk, hk.2⟩ : _ ∧ k_ ≠ gb222))) (fun _ hk => hk.2) (.slice A0_0 l0_0.length c0_0)) (fun _ hk => hk.2) (.int .i64 a0_1)) (fun _ hk => hk.2) (.slice A0_2 l0_2.length c0_2)) (fun _ hk => hk.2) (.slice A0_3 l0_3.length c0_3)) (fun _ hk => hk.1.1.1), by (with_reducible repeat (first | apply Kd.V_alloc | apply Kd.V_drewN | apply Kd.V_drew)); exact Kd.V_mono (Kd.V_far (p := ⟨gb222, 3, none⟩) (Kd.V_far (p := ⟨gb222, 2, none⟩) (Kd.V_far (p := ⟨gb222, 1, none⟩) (Kd.V_far (p := ⟨gb222, 0, none⟩) (Kd.V_mono HO0_3.out (fun k_ hk => (⟨hk, hk.2⟩ : _ ∧ k_ ≠ gb222))) (fun _ hk => hk.2) (.slice A0_0 l0_0.length c0_0)) (fun _ hk => hk.2) (.int .i64 a0_1)) (fun _ hk => hk.2) (.slice A0_2 l0_2.length c0_2)) (fun _ hk => hk.2) (.slice A0_3 l0_3.length c0_3)) (fun _ hk => hk.1.1.1), fW HB.out⟩

mutual
def r_increasing.l0 : Nat → List Int → Int → Int → Option (Bool)
 | 0, _, _, _ => none
 | k + 1, x0, x1, x5 => if x5 < (x0.length : Int) then (if 0 ≤ x5 then (if (rd x0 x5) < 0 then (r_increasing.j1 k x0 x1 x5 true) else (if (rd x0 x5) ≥ x1 then (r_increasing.j1 k x0 x1 x5 true) else (if x5 > 0 then (if 0 ≤ (wrap64 (x5 - 1)) then (if (wrap64 (x5 - 1)) < (x0.length : Int) then (r_increasing.j1 k x0 x1 x5 (decide ((rd x0 (wrap64 (x5 - 1))) ≥ (rd x0 x5)))) else (none)) else (none)) else (r_increasing.j1 k x0 x1 x5 false)))) else (none)) else (some true)
def r_increasing.j1 : Nat → List Int → Int → Int → Bool → Option (Bool)
 | 0, _, _, _, _ => none
 | k + 1, x0, x1, x5, x40 => if x40 = true then (some false) else (r_increasing.l0 k x0 x1 (wrap64 (x5 + 1)))
end
def r_increasing.f (k : Nat) (l0 : List Int) (a1 : Int) : Option (Bool) := r_increasing.l0 k l0 a1 0
set_option maxHeartbeats 8000000 in
set_option maxRecDepth 100000 in
theorem r_increasing.calls (k : Nat) (A0 : Option Addr) (c0 : Nat) (l0 : List Int) (a1 : Int) (r : Bool) (w : World) (hr0 : Kd.C (Kd.int .i64) w A0 l0.length l0) (hc0 : l0.length ≤ c0) (h : r_increasing.f k l0 a1 = some r) :
  Calls Try.prog 39 #[.slice A0 l0.length c0, .int .i64 a1] w fun e w' => e = .returned (.bool r) ∧ Drawn0 w w' := by
 have HR0 := am hr0
 have HC0 := am hc0
 clear hr0 hc0
 have H : (r_increasing.l0 k l0 a1 0) = some r := h
 clear h
 have H' := am H
 clear H
 go_enter Try.func39, Try.ntmps39
 go_wp2
 repeat (go_quiet (fail); try go_wp2)
 go_loopg [5] k (fun kq v5 w' => ∃ (x5_1 : Int), v5 = .int .i64 x5_1 ∧ Aside0 (r_increasing.l0 kq l0 a1 x5_1 = some r) ∧ Aside0 (kq ≤ k) ∧ Drawn0 w w')
 case atStart => exact ⟨(0), sqD, H', ⟨Nat.le_refl _⟩, by repeat (first | exact Drawn0.refl _ | apply Drawn0.step)⟩
 case round =>
  clear H'
  try clear p2
  obtain ⟨x5_1, rfl, HA, HK1, ⟨m1, rfl⟩⟩ := hrel
  cases gk with
  | zero => exact absurd HA.out (by simp [r_increasing.l0])
  | succ k1 =>
   have H := HA.out
   clear HA
   simp only [r_increasing.l0] at H
   by_cases c3 : x5_1 < (l0.length : Int)
   ·rw [if_pos c3] at H
    have c3b0 : decide (x5_1 < (l0.length : Int)) = true := decide_eq_true c3
    clear c3
    have HC4 := am H
    clear H
    go_upto_region 4 with (fail)
    repeat (go_quiet (fail); go_upto_region 4 with (fail))
    go_cut [40] (fun v40 wc => ∃ (kq : Nat) (x40_3 : Bool), v40 = .bool x40_3 ∧ Aside0 (r_increasing.j1 kq l0 a1 x5_1 x40_3 = some r) ∧ Aside0 (kq ≤ k1) ∧ Drawn0 w wc)
    case first =>
     have H := HC4.out
     clear HC4
     by_cases c5 : 0 ≤ x5_1
     rotate_left
     ·rw [if_neg c5] at H
      exact absurd H (by simp)
     rw [if_pos c5] at H
     have c5b0 : decide (0 ≤ x5_1) = true := decide_eq_true c5
     clear c5
     (first | rw [c5b0] | (simp only [i64_w, i32_w]; rw [c5b0]) | skip)
     by_cases c6 : (rd l0 x5_1) < 0
     ·rw [if_pos c6] at H
      have c6b0 : decide ((rd l0 x5_1) < 0) = true := decide_eq_true c6
      clear c6
      have H' := am H
      clear H
      have p223 : 0 ≤ (x5_1 : Int) := of_decide_eq_true (by assumption)
      have q223 : x5_1 < (l0.length : Int) := of_decide_eq_true (by assumption)
      obtain ⟨ad223, e223, hx223_0⟩ := Kd.at_int HR0.out x5_1 p223 q223
      cases e223
      replace p223 := eq_true p223
      replace q223 := eq_true q223
      go_wp2
      repeat (go_quiet (fail); try go_wp2)
      go_meet
      case rel => exact ⟨_, (true), sqD, H', ⟨by have := HK1.out; first | omega | exact Nat.le_refl _⟩, by repeat (first | exact Drawn0.refl _ | apply Drawn0.step)⟩
     rw [if_neg c6] at H
     have c6b0 : decide ((rd l0 x5_1) < 0) = false := decide_eq_false c6
     clear c6
     by_cases c7 : (rd l0 x5_1) ≥ a1
     ·rw [if_pos c7] at H
      have c7b0 : decide (a1 ≤ (rd l0 x5_1)) = true := decide_eq_true c7
      clear c7
      have H' := am H
      clear H
      have p223 : 0 ≤ (x5_1 : Int) := of_decide_eq_true (by assumption)
      have q223 : x5_1 < (l0.length : Int) := of_decide_eq_true (by assumption)
      obtain ⟨ad223, e223, hx223_0⟩ := Kd.at_int HR0.out x5_1 p223 q223
      cases e223
      replace p223 := eq_true p223
      replace q223 := eq_true q223
      have p224 : 0 ≤ (x5_1 : Int) := of_decide_eq_true (by assumption)
      have q224 : x5_1 < (l0.length : Int) := of_decide_eq_true (by assumption)
      obtain ⟨ad224, e224, hx224_0⟩ := Kd.at_int HR0.out x5_1 p224 q224
      obtain rfl : ad223 = ad224 := (by injection e224)
      replace p224 := eq_true p224
      replace q224 := eq_true q224
      go_wp2
      repeat (go_quiet (fail); try go_wp2)
      go_meet
      case rel => exact ⟨_, (true), sqD, H', ⟨by have := HK1.out; first | omega | exact Nat.le_refl _⟩, by repeat (first | exact Drawn0.refl _ | apply Drawn0.step)⟩
     rw [if_neg c7] at H
     have c7b0 : decide (a1 ≤ (rd l0 x5_1)) = false := decide_eq_false c7
     clear c7
     by_cases c8 : x5_1 > 0
     rotate_left
     ·rw [if_neg c8] at H
      have c8b0 : decide (0 < x5_1) = false := decide_eq_false c8
      clear c8
      have H' := am H
      clear H
      have p223 : 0 ≤ (x5_1 : Int) := of_decide_eq_true (by assumption)
      have q223 : x5_1 < (l0.length : Int) := of_decide_eq_true (by assumption)
      obtain ⟨ad223, e223, hx223_0⟩ := Kd.at_int HR0.out x5_1 p223 q223
      cases e223
      replace p223 := eq_true p223
      replace q223 := eq_true q223
      have p224 : 0 ≤ (x5_1 : Int) := of_decide_eq_true (by assumption)
      have q224 : x5_1 < (l0.length : Int) := of_decide_eq_true (by assumption)
      obtain ⟨ad224, e224, hx224_0⟩ := Kd.at_int HR0.out x5_1 p224 q224
      obtain rfl : ad223 = ad224 := (by injection e224)
      replace p224 := eq_true p224
      replace q224 := eq_true q224
      go_wp2
      repeat (go_quiet (fail); try go_wp2)
      go_meet
      case rel => exact ⟨_, (false), sqD, H', ⟨by have := HK1.out; first | omega | exact Nat.le_refl _⟩, by repeat (first | exact Drawn0.refl _ | apply Drawn0.step)⟩
     rw [if_pos c8] at H
     have c8b0 : decide (0 < x5_1) = true := decide_eq_true c8
     clear c8
     obtain ⟨ji9, hji9⟩ : ∃ j_ : Int, (wrap64 (x5_1 - 1)) = j_ := ⟨_, rfl⟩
     replace H : (if 0 ≤ (ji9) then (if (ji9) < (l0.length : Int) then (r_increasing.j1 k1 l0 a1 x5_1 (decide ((rd l0 (ji9)) ≥ (rd l0 x5_1)))) else (none)) else (none)) = some r := by first | (rw [hji9] at H; exact H) | (simp only [hji9] at H ⊢; exact H)
     have hji9w : (IntKind.i64.wrap (x5_1 - 1)) = ji9 := (i64_w _).trans hji9
     by_cases c10 : 0 ≤ (ji9)
     rotate_left
     ·rw [if_neg c10] at H
      exact absurd H (by simp)
     rw [if_pos c10] at H
     have c10b0 : decide (0 ≤ (ji9)) = true := decide_eq_true c10
     clear c10
     by_cases c11 : (ji9) < (l0.length : Int)
     rotate_left
     ·rw [if_neg c11] at H
      exact absurd H (by simp)
     rw [if_pos c11] at H
     have c11b0 : decide ((ji9) < (l0.length : Int)) = true := decide_eq_true c11
     clear c11
     have H' := am H
     clear H
     have p223 : 0 ≤ (x5_1 : Int) := of_decide_eq_true (by assumption)
     have q223 : x5_1 < (l0.length : Int) := of_decide_eq_true (by assumption)
     obtain ⟨ad223, e223, hx223_0⟩ := Kd.at_int HR0.out x5_1 p223 q223
     cases e223
     replace p223 := eq_true p223
     replace q223 := eq_true q223
     have p224 : 0 ≤ (x5_1 : Int) := of_decide_eq_true (by assumption)
     have q224 : x5_1 < (l0.length : Int) := of_decide_eq_true (by assumption)
     obtain ⟨ad224, e224, hx224_0⟩ := Kd.at_int HR0.out x5_1 p224 q224
     obtain rfl : ad223 = ad224 := (by injection e224)
     replace p224 := eq_true p224
     replace q224 := eq_true q224
     have p225 : 0 ≤ ((ji9) : Int) := of_decide_eq_true (by assumption)
     have q225 : (ji9) < (l0.length : Int) := of_decide_eq_true (by assumption)
     obtain ⟨ad225, e225, hx225_0⟩ := Kd.at_int HR0.out (ji9) p225 q225
     obtain rfl : ad223 = ad225 := (by injection e225)
     replace p225 := eq_true p225
     replace q225 := eq_true q225
     have p226 : 0 ≤ (x5_1 : Int) := of_decide_eq_true (by assumption)
     have q226 : x5_1 < (l0.length : Int) := of_decide_eq_true (by assumption)
     obtain ⟨ad226, e226, hx226_0⟩ := Kd.at_int HR0.out x5_1 p226 q226
     obtain rfl : ad223 = ad226 := (by injection e226)
     replace p226 := eq_true p226
     replace q226 := eq_true q226
     go_wp2
     repeat (go_quiet (fail); try go_wp2)
     go_meet
     case rel => exact ⟨_, (decide ((rd l0 (ji9)) ≥ (rd l0 x5_1))), (by first | rfl | (simp; done) | (simp only [← hji9] <;> (first | rfl | simp)) | (simp [*]; done)), H', ⟨by have := HK1.out; first | omega | exact Nat.le_refl _⟩, by repeat (first | exact Drawn0.refl _ | apply Drawn0.step)⟩
    case rest =>
     clear HC4
     try clear c1;try clear p2;try clear q2;try clear hx2;try clear c3;try clear c3b0;try clear c5;try clear c5b0;try clear c6;try clear c6b0;try clear p6;try clear c7;try clear c7b0;try clear c8;try clear c8b0;try clear c10;try clear c10b0;try clear c11;try clear c11b0;try clear hx223_0;try clear hx224_0;try clear hx225_0;try clear hx226_0;try clear p2;try clear p223;try clear p224;try clear p225;try clear p226;try clear q223;try clear q224;try clear q225;try clear q226
     obtain ⟨kq, x40_3, rfl, HA, HJ3, ⟨mc3, rfl⟩⟩ := hcut
     cases kq with
     | zero => exact absurd HA.out (by simp [r_increasing.j1])
     | succ kj3 =>
      have H := HA.out
      clear HA
      simp only [r_increasing.j1] at H
      by_cases c12 : x40_3 = true
      ·subst c12
       have H1 : (some false) = some r := by rw [if_pos rfl] at H; exact H
       clear H
       have H := H1
       clear H1
       obtain rfl := Option.some.inj H
       go_wp2
       repeat (go_quiet (fail); try go_wp2)
       go_ret
       exact ⟨by first | rfl | (simp; done) | (simp [*]; done), by repeat (first | exact Drawn0.refl _ | apply Drawn0.step)⟩
      replace c12 := Bool.eq_false_iff.mpr c12
      subst c12
      have H1 : (r_increasing.l0 kj3 l0 a1 (wrap64 (x5_1 + 1))) = some r := by rw [if_neg (show ¬ (false = true) by decide)] at H; exact H
      clear H
      have H := H1
      clear H1
      have H' := am H
      clear H
      go_wp2
      repeat (go_quiet (fail); try go_wp2)
      go_roundg kj3
      case measure => have := HK1.out; have := HJ3.out; omega
      case rel => exact ⟨(wrap64 (x5_1 + 1)), sqD, H', ⟨by have := HK1.out; have := HJ3.out; omega⟩, by repeat (first | exact Drawn0.refl _ | apply Drawn0.step)⟩
   ·rw [if_neg c3] at H
    have c3b0 : decide (x5_1 < (l0.length : Int)) = false := decide_eq_false c3
    clear c3
    obtain rfl := Option.some.inj H
    go_wp2
    repeat (go_quiet (fail); try go_wp2)
    go_ret
    exact ⟨by first | rfl | (simp; done) | (simp [*]; done), by repeat (first | exact Drawn0.refl _ | apply Drawn0.step)⟩

def r_has.l0 : Nat → List Int → Int → Int → Option (Bool)
 | 0, _, _, _ => none
 | k + 1, x0, x1, x5 => if x5 < (x0.length : Int) then (if 0 ≤ x5 then (if (rd x0 x5) = x1 then (some true) else (r_has.l0 k x0 x1 (wrap64 (x5 + 1)))) else (none)) else (some false)
def r_has.f (k : Nat) (l0 : List Int) (a1 : Int) : Option (Bool) := r_has.l0 k l0 a1 0
set_option maxHeartbeats 8000000 in
set_option maxRecDepth 100000 in
theorem r_has.calls (k : Nat) (A0 : Option Addr) (c0 : Nat) (l0 : List Int) (a1 : Int) (r : Bool) (w : World) (hr0 : Kd.C (Kd.int .i64) w A0 l0.length l0) (hc0 : l0.length ≤ c0) (h : r_has.f k l0 a1 = some r) :
  Calls Try.prog 40 #[.slice A0 l0.length c0, .int .i64 a1] w fun e w' => e = .returned (.bool r) ∧ Drawn0 w w' := by
 have HR0 := am hr0
 have HC0 := am hc0
 clear hr0 hc0
 have H : (r_has.l0 k l0 a1 0) = some r := h
 clear h
 have H' := am H
 clear H
 go_enter Try.func40, Try.ntmps40
 go_wp2
 go_loopg [5] k (fun kq v5 w' => ∃ (x5_1 : Int), v5 = .int .i64 x5_1 ∧ Aside0 (r_has.l0 kq l0 a1 x5_1 = some r) ∧ Aside0 (kq ≤ k) ∧ Drawn0 w w')
 case atStart => exact ⟨(0), sqD, H', ⟨Nat.le_refl _⟩, by repeat (first | exact Drawn0.refl _ | apply Drawn0.step)⟩
 case round =>
  clear H'
  try clear p2
  obtain ⟨x5_1, rfl, HA, HK1, ⟨m1, rfl⟩⟩ := hrel
  cases gk with
  | zero => exact absurd HA.out (by simp [r_has.l0])
  | succ k1 =>
   have H := HA.out
   clear HA
   simp only [r_has.l0] at H
   by_cases c3 : x5_1 < (l0.length : Int)
   ·rw [if_pos c3] at H
    have c3b0 : decide (x5_1 < (l0.length : Int)) = true := decide_eq_true c3
    clear c3
    by_cases c4 : 0 ≤ x5_1
    rotate_left
    ·rw [if_neg c4] at H
     exact absurd H (by simp)
    rw [if_pos c4] at H
    have c4b0 : decide (0 ≤ x5_1) = true := decide_eq_true c4
    clear c4
    by_cases c5 : (rd l0 x5_1) = a1
    ·rw [if_pos c5] at H
     have c5b0 : ((rd l0 x5_1) == a1) = true := beq_iff_eq.mpr c5
     have c5b1 : ((rd l0 x5_1) != a1) = false := bne_eq_false_iff_eq.mpr c5
     clear c5
     obtain rfl := Option.some.inj H
     have p227 : 0 ≤ (x5_1 : Int) := of_decide_eq_true (by assumption)
     have q227 : x5_1 < (l0.length : Int) := of_decide_eq_true (by assumption)
     obtain ⟨ad227, e227, hx227_0⟩ := Kd.at_int HR0.out x5_1 p227 q227
     cases e227
     replace p227 := eq_true p227
     replace q227 := eq_true q227
     go_wp2
     go_ret
     exact ⟨by first | rfl | (simp; done) | (simp [*]; done), by repeat (first | exact Drawn0.refl _ | apply Drawn0.step)⟩
    rw [if_neg c5] at H
    have c5b0 : ((rd l0 x5_1) == a1) = false := beq_eq_false_iff_ne.mpr c5
    have c5b1 : ((rd l0 x5_1) != a1) = true := bne_iff_ne.mpr c5
    have H' := am H
    clear H
    have p227 : 0 ≤ (x5_1 : Int) := of_decide_eq_true (by assumption)
    have q227 : x5_1 < (l0.length : Int) := of_decide_eq_true (by assumption)
    obtain ⟨ad227, e227, hx227_0⟩ := Kd.at_int HR0.out x5_1 p227 q227
    cases e227
    replace p227 := eq_true p227
    replace q227 := eq_true q227
    go_wp2
    go_roundg k1
    case measure => have := HK1.out; omega
    case rel => exact ⟨(wrap64 (x5_1 + 1)), sqD, H', ⟨by have := HK1.out; omega⟩, by repeat (first | exact Drawn0.refl _ | apply Drawn0.step)⟩
   ·rw [if_neg c3] at H
    have c3b0 : decide (x5_1 < (l0.length : Int)) = false := decide_eq_false c3
    clear c3
    obtain rfl := Option.some.inj H
    go_wp2
    go_ret
    exact ⟨by first | rfl | (simp; done) | (simp [*]; done), by repeat (first | exact Drawn0.refl _ | apply Drawn0.step)⟩

mutual
def r_twice.l0 : Nat → List Int → Int → Option (Bool)
 | 0, _, _ => none
 | k + 1, x0, x3 => if x3 < (x0.length : Int) then (r_twice.l1 k x0 x3 0) else (some false)
def r_twice.l1 : Nat → List Int → Int → Int → Option (Bool)
 | 0, _, _, _ => none
 | k + 1, x0, x3, x4 => if x4 < x3 then (if 0 ≤ x3 then (if x3 < (x0.length : Int) then (if (rd x0 x3) ≥ 0 then (if 0 ≤ x4 then (if x4 < (x0.length : Int) then (if (rd x0 x3) = (rd x0 x4) then (some true) else (r_twice.j2 k x0 x3 x4)) else (none)) else (none)) else (r_twice.j2 k x0 x3 x4)) else (none)) else (none)) else (r_twice.l0 k x0 (wrap64 (x3 + 1)))
def r_twice.j2 : Nat → List Int → Int → Int → Option (Bool)
 | 0, _, _, _ => none
 | k + 1, x0, x3, x4 => r_twice.l1 k x0 x3 (wrap64 (x4 + 1))
end
def r_twice.f (k : Nat) (l0 : List Int) : Option (Bool) := r_twice.l0 k l0 0
set_option maxHeartbeats 8000000 in
set_option maxRecDepth 100000 in
theorem r_twice.calls (k : Nat) (A0 : Option Addr) (c0 : Nat) (l0 : List Int) (r : Bool) (w : World) (hr0 : Kd.C (Kd.int .i64) w A0 l0.length l0) (hc0 : l0.length ≤ c0) (h : r_twice.f k l0 = some r) :
  Calls Try.prog 41 #[.slice A0 l0.length c0] w fun e w' => e = .returned (.bool r) ∧ Drawn0 w w' := by
 have HR0 := am hr0
 have HC0 := am hc0
 clear hr0 hc0
 have H : (r_twice.l0 k l0 0) = some r := h
 clear h
 have H' := am H
 clear H
 go_enter Try.func41, Try.ntmps41
 go_wp2
 repeat (go_quiet (fail); try go_wp2)
 go_loopg [3] k (fun kq v3 w' => ∃ (x3_1 : Int), v3 = .int .i64 x3_1 ∧ Aside0 (r_twice.l0 kq l0 x3_1 = some r) ∧ Aside0 (kq ≤ k) ∧ Drawn0 w w')
 case atStart => exact ⟨(0), sqD, H', ⟨Nat.le_refl _⟩, by repeat (first | exact Drawn0.refl _ | apply Drawn0.step)⟩
 case round =>
  clear H'
  obtain ⟨x3_1, rfl, HA, HK1, ⟨m1, rfl⟩⟩ := hrel
  cases gk with
  | zero => exact absurd HA.out (by simp [r_twice.l0])
  | succ k1 =>
   have H := HA.out
   clear HA
   simp only [r_twice.l0] at H
   by_cases c2 : x3_1 < (l0.length : Int)
   ·rw [if_pos c2] at H
    have c2b0 : decide (x3_1 < (l0.length : Int)) = true := decide_eq_true c2
    clear c2
    have H' := am H
    clear H
    go_wp2
    repeat (go_quiet (fail); try go_wp2)
    go_loopg [4] k1 (fun kq v4 w' => ∃ (x4_2 : Int), v4 = .int .i64 x4_2 ∧ Aside0 (r_twice.l1 kq l0 x3_1 x4_2 = some r) ∧ Aside0 (kq ≤ k1) ∧ Drawn0 w w')
    case atStart => exact ⟨(0), sqD, H', ⟨Nat.le_refl _⟩, by repeat (first | exact Drawn0.refl _ | apply Drawn0.step)⟩
    case round =>
     clear H'
     try clear c2;try clear c2b0;try clear p2
     obtain ⟨x4_2, rfl, HA, HK2, ⟨m2, rfl⟩⟩ := hrel
     cases gk with
     | zero => exact absurd HA.out (by simp [r_twice.l1])
     | succ k2 =>
      have H := HA.out
      clear HA
      simp only [r_twice.l1] at H
      by_cases c3 : x4_2 < x3_1
      rotate_left
      ·rw [if_neg c3] at H
       have c3b0 : decide (x4_2 < x3_1) = false := decide_eq_false c3
       clear c3
       have H' := am H
       clear H
       go_wp2
       repeat (go_quiet (fail); try go_wp2)
       go_roundg k2
       case measure => have := HK1.out; have := HK2.out; omega
       case rel => exact ⟨(wrap64 (x3_1 + 1)), sqD, H', ⟨by have := HK1.out; have := HK2.out; omega⟩, by repeat (first | exact Drawn0.refl _ | apply Drawn0.step)⟩
      rw [if_pos c3] at H
      have c3b0 : decide (x4_2 < x3_1) = true := decide_eq_true c3
      clear c3
      have HC4 := am H
      clear H
      go_upto_block 3 with (fail)
      repeat (go_quiet (fail); go_upto_block 3 with (fail))
      go_cut [] (fun wc => ∃ (kq : Nat), Aside0 (r_twice.j2 kq l0 x3_1 x4_2 = some r) ∧ Aside0 (kq ≤ k2) ∧ Drawn0 w wc)
      case first =>
       have H := HC4.out
       clear HC4
       by_cases c5 : 0 ≤ x3_1
       rotate_left
       ·rw [if_neg c5] at H
        exact absurd H (by simp)
       rw [if_pos c5] at H
       have c5b0 : decide (0 ≤ x3_1) = true := decide_eq_true c5
       clear c5
       (first | rw [c5b0] | (simp only [i64_w, i32_w]; rw [c5b0]) | skip)
       by_cases c6 : x3_1 < (l0.length : Int)
       rotate_left
       ·rw [if_neg c6] at H
        exact absurd H (by simp)
       rw [if_pos c6] at H
       have c6b0 : decide (x3_1 < (l0.length : Int)) = true := decide_eq_true c6
       clear c6
       by_cases c7 : (rd l0 x3_1) ≥ 0
       rotate_left
       ·rw [if_neg c7] at H
        have c7b0 : decide (0 ≤ (rd l0 x3_1)) = false := decide_eq_false c7
        clear c7
        have H' := am H
        clear H
        have p228 : 0 ≤ (x3_1 : Int) := of_decide_eq_true (by assumption)
        have q228 : x3_1 < (l0.length : Int) := of_decide_eq_true (by assumption)
        obtain ⟨ad228, e228, hx228_0⟩ := Kd.at_int HR0.out x3_1 p228 q228
        cases e228
        replace p228 := eq_true p228
        replace q228 := eq_true q228
        go_wp2
        repeat (go_quiet (fail); try go_wp2)
        go_meet
        case rel => exact ⟨_, H', ⟨by have := HK1.out; have := HK2.out; first | omega | exact Nat.le_refl _⟩, by repeat (first | exact Drawn0.refl _ | apply Drawn0.step)⟩
       rw [if_pos c7] at H
       have c7b0 : decide (0 ≤ (rd l0 x3_1)) = true := decide_eq_true c7
       clear c7
       by_cases c8 : 0 ≤ x4_2
       rotate_left
       ·rw [if_neg c8] at H
        exact absurd H (by simp)
       rw [if_pos c8] at H
       have c8b0 : decide (0 ≤ x4_2) = true := decide_eq_true c8
       clear c8
       by_cases c9 : x4_2 < (l0.length : Int)
       rotate_left
       ·rw [if_neg c9] at H
        exact absurd H (by simp)
       rw [if_pos c9] at H
       have c9b0 : decide (x4_2 < (l0.length : Int)) = true := decide_eq_true c9
       clear c9
       by_cases c10 : (rd l0 x3_1) = (rd l0 x4_2)
       ·rw [if_pos c10] at H
        have c10b0 : ((rd l0 x3_1) == (rd l0 x4_2)) = true := beq_iff_eq.mpr c10
        have c10b1 : ((rd l0 x3_1) != (rd l0 x4_2)) = false := bne_eq_false_iff_eq.mpr c10
        clear c10
        obtain rfl := Option.some.inj H
        have p228 : 0 ≤ (x3_1 : Int) := of_decide_eq_true (by assumption)
        have q228 : x3_1 < (l0.length : Int) := of_decide_eq_true (by assumption)
        obtain ⟨ad228, e228, hx228_0⟩ := Kd.at_int HR0.out x3_1 p228 q228
        cases e228
        replace p228 := eq_true p228
        replace q228 := eq_true q228
        have p229 : 0 ≤ (x3_1 : Int) := of_decide_eq_true (by assumption)
        have q229 : x3_1 < (l0.length : Int) := of_decide_eq_true (by assumption)
        obtain ⟨ad229, e229, hx229_0⟩ := Kd.at_int HR0.out x3_1 p229 q229
        obtain rfl : ad228 = ad229 := (by injection e229)
        replace p229 := eq_true p229
        replace q229 := eq_true q229
        have p230 : 0 ≤ (x4_2 : Int) := of_decide_eq_true (by assumption)
        have q230 : x4_2 < (l0.length : Int) := of_decide_eq_true (by assumption)
        obtain ⟨ad230, e230, hx230_0⟩ := Kd.at_int HR0.out x4_2 p230 q230
        obtain rfl : ad228 = ad230 := (by injection e230)
        replace p230 := eq_true p230
        replace q230 := eq_true q230
        go_wp2
        repeat (go_quiet (fail); try go_wp2)
        go_ret
        exact ⟨by first | rfl | (simp; done) | (simp [*]; done), by repeat (first | exact Drawn0.refl _ | apply Drawn0.step)⟩
       rw [if_neg c10] at H
       have c10b0 : ((rd l0 x3_1) == (rd l0 x4_2)) = false := beq_eq_false_iff_ne.mpr c10
       have c10b1 : ((rd l0 x3_1) != (rd l0 x4_2)) = true := bne_iff_ne.mpr c10
       have H' := am H
       clear H
       have p228 : 0 ≤ (x3_1 : Int) := of_decide_eq_true (by assumption)
       have q228 : x3_1 < (l0.length : Int) := of_decide_eq_true (by assumption)
       obtain ⟨ad228, e228, hx228_0⟩ := Kd.at_int HR0.out x3_1 p228 q228
       cases e228
       replace p228 := eq_true p228
       replace q228 := eq_true q228
       have p229 : 0 ≤ (x3_1 : Int) := of_decide_eq_true (by assumption)
       have q229 : x3_1 < (l0.length : Int) := of_decide_eq_true (by assumption)
       obtain ⟨ad229, e229, hx229_0⟩ := Kd.at_int HR0.out x3_1 p229 q229
       obtain rfl : ad228 = ad229 := (by injection e229)
       replace p229 := eq_true p229
       replace q229 := eq_true q229
       have p230 : 0 ≤ (x4_2 : Int) := of_decide_eq_true (by assumption)
       have q230 : x4_2 < (l0.length : Int) := of_decide_eq_true (by assumption)
       obtain ⟨ad230, e230, hx230_0⟩ := Kd.at_int HR0.out x4_2 p230 q230
       obtain rfl : ad228 = ad230 := (by injection e230)
       replace p230 := eq_true p230
       replace q230 := eq_true q230
       go_wp2
       repeat (go_quiet (fail); try go_wp2)
       go_meet
       case rel => exact ⟨_, H', ⟨by have := HK1.out; have := HK2.out; first | omega | exact Nat.le_refl _⟩, by repeat (first | exact Drawn0.refl _ | apply Drawn0.step)⟩
      case rest =>
       clear HC4
       try clear c1;try clear c2;try clear c2b0;try clear p2;try clear q2;try clear hx2;try clear c3;try clear c3b0;try clear c4;try clear c5;try clear c5b0;try clear c6;try clear c6b0;try clear c7;try clear c7b0;try clear c8;try clear c8b0;try clear c9;try clear c9b0;try clear c10;try clear c10b0;try clear c10b1;try clear hx228_0;try clear hx229_0;try clear hx230_0;try clear p2;try clear p228;try clear p229;try clear p230;try clear q228;try clear q229;try clear q230
       obtain ⟨kq, HA, HJ3, ⟨mc3, rfl⟩⟩ := hcut
       cases kq with
       | zero => exact absurd HA.out (by simp [r_twice.j2])
       | succ kj3 =>
        have H := HA.out
        clear HA
        simp only [r_twice.j2] at H
        have H' := am H
        clear H
        go_wp2
        repeat (go_quiet (fail); try go_wp2)
        go_roundg kj3
        case measure => have := HK1.out; have := HK2.out; have := HJ3.out; omega
        case rel => exact ⟨(wrap64 (x4_2 + 1)), sqD, H', ⟨by have := HK1.out; have := HK2.out; have := HJ3.out; omega⟩, by repeat (first | exact Drawn0.refl _ | apply Drawn0.step)⟩
   ·rw [if_neg c2] at H
    have c2b0 : decide (x3_1 < (l0.length : Int)) = false := decide_eq_false c2
    clear c2
    obtain rfl := Option.some.inj H
    go_wp2
    repeat (go_quiet (fail); try go_wp2)
    go_ret
    exact ⟨by first | rfl | (simp; done) | (simp [*]; done), by repeat (first | exact Drawn0.refl _ | apply Drawn0.step)⟩

end Go.Proofs.Ytkeomlmlimkebaa.QA
