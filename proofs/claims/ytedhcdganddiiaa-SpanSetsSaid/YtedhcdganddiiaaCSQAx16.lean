import Derived.Test.YtedhcdganddiiaaCSQAx0
import Derived.Test.YtedhcdganddiiaaCSQAx3
import Derived.Test.YtedhcdganddiiaaCSQAx4
import Derived.Test.YtedhcdganddiiaaCSQAx7
import Derived.Test.YtedhcdganddiiaaCSQAx11
import Derived.Test.YtedhcdganddiiaaCSQAx12
import Derived.Test.YtedhcdganddiiaaCSQAx15
-- Written by a program of this session (wip/tools) out of the translation; Lean checks it.
namespace Go.Proofs.Ytedhcdganddiiaa.QA
open Go.RowKit Go.Proofs.YtedhcdganddiiaaW.PrintWords Go.Proofs.YtedhcdganddiiaaW.PrintLast Go.Proofs.YtedhcdganddiiaaW.PrintMore
attribute [local go_sem] max2_int min2_int max_two min_two max_three min_three max_four min_four
set_option linter.unusedVariables false
set_option linter.unusedSimpArgs false

def gangsawref01_Set.f (k : Nat) (l0 : List (S23)) (l1 : List (S23)) (a2 : Int) : Option ((List (S23)) × Int) := (gangsawref01_Lists.f k l0 l1).bind fun t535 => (if t535 = 0 then ((gangsawref01_form.f k l0 l1 a2).bind fun t536 => (some (t536, 0))) else (some (([] : List (S23)), t535)))
set_option maxHeartbeats 8000000 in
set_option maxRecDepth 100000 in
theorem gangsawref01_Set.calls (k : Nat) (A0 : Option Addr) (c0 : Nat) (l0 : List (S23)) (A1 : Option Addr) (c1 : Nat) (l1 : List (S23)) (a2 : Int) (r1 : List (S23)) (r2 : Int) (w : World) (hr0 : Kd.C k23 w A0 l0.length l0) (hc0 : l0.length ≤ c0) (hr1 : Kd.C k23 w A1 l1.length l1) (hc1 : l1.length ≤ c1) (h : gangsawref01_Set.f k l0 l1 a2 = some (r1, r2)) :
    Calls Try.prog 35 #[.slice A0 l0.length c0, .slice A1 l1.length c1, .int .i64 a2] w fun e w' => ∃ v0_ : Value, e = .returned (.tuple #[v0_, .int .i64 r2]) ∧ Kd.R k23 23 w' w.heap.size (fun _ => True) v0_ r1 ∧ Below w.heap.size w w' := by
  have HR0 := Aside0.mk hr0
  have HC0 := Aside0.mk hc0
  clear hr0 hc0
  have HR1 := Aside0.mk hr1
  have HC1 := Aside0.mk hc1
  clear hr1 hc1
  have HB := Aside0.mk (Below.refl w.heap.size w)
  have H : ((gangsawref01_Lists.f k l0 l1).bind fun t535 => (if t535 = 0 then ((gangsawref01_form.f k l0 l1 a2).bind fun t536 => (some (t536, 0))) else (some (([] : List (S23)), t535)))) = some (r1, r2) := h
  clear h
  replace H := Option.bind_eq_some_iff.mp H
  obtain ⟨t535, A40, H⟩ := H
  replace H : (if t535 = 0 then ((gangsawref01_form.f k l0 l1 a2).bind fun t536 => (some (t536, 0))) else (some (([] : List (S23)), t535))) = some (r1, r2) := H
  have A4 := Aside0.mk A40
  clear A40
  by_cases c5 : t535 = 0
  · rw [if_pos c5] at H
    have c5b0 : (t535 == 0) = true := beq_iff_eq.mpr c5
    have c5b1 : (t535 != 0) = false := bne_eq_false_iff_eq.mpr c5
    clear c5
    replace H := Option.bind_eq_some_iff.mp H
    obtain ⟨t536, A60, H⟩ := H
    replace H : (some (t536, 0)) = some (r1, r2) := H
    have A6 := Aside0.mk A60
    clear A60
    simp only [Option.some.injEq, Prod.mk.injEq] at H
    obtain ⟨rfl, rfl⟩ := H
    go_enter Try.func35, Try.ntmps35
    go_wp2_with (first | ((with_reducible refine gate_callee (f := 21) rfl ?_); refine goesL_ (some 11) rfl rfl Try.func21 (by kernel_rfl) rfl #[.slice A0 l0.length c0, .slice A1 l1.length c1] rfl (by (try simp only [List.map_toArray, List.map_cons, List.map_nil]); first | done | rfl | (simp only [List.length_drop, List.length_take]; rfl)) ?_; (with_reducible refine (gangsawref01_Lists.calls k _ _ l0 _ _ l1 t535 _ ?side1 ?side2 ?side3 ?side4 A4.out).mono ?_); (case side1 => repeat (first | exact HR0.out | (with_reducible refine Kd.C_alloc ?_ _) | (with_reducible refine Kd.C_drewN ?_ _) | (with_reducible refine Kd.C_drew ?_))); (case side2 => exact HC0.out); (case side3 => repeat (first | exact HR1.out | (with_reducible refine Kd.C_alloc ?_ _) | (with_reducible refine Kd.C_drewN ?_ _) | (with_reducible refine Kd.C_drew ?_))); (case side4 => exact HC1.out); rintro e w7 ⟨rfl, hb⟩; refine ⟨_, rfl, ?_⟩; have n0_ := Aside0.mk (below_step (by repeat (first | (with_reducible first | exact HB.out | apply below_alloc | apply pw_below_drewN | apply below_drew1) | exact HB.out)) hb); clear HB; have HB := n0_; clear n0_; (try clear hb); (try clear hb2); (try clear hk); (try clear hi)) | ((with_reducible refine gate_callee (f := 49) rfl ?_); refine goesL_ (some 18) rfl rfl Try.func49 (by kernel_rfl) rfl #[.slice A0 l0.length c0, .slice A1 l1.length c1, .int .i64 a2] rfl (by (try simp only [List.map_toArray, List.map_cons, List.map_nil]); first | done | rfl | (simp only [List.length_drop, List.length_take]; rfl)) ?_; (with_reducible refine (gangsawref01_form.calls k _ _ l0 _ _ l1 a2 t536 _ ?side1 ?side2 ?side3 ?side4 A6.out).mono ?_); (case side1 => repeat (first | exact (Kd.C_below HR0.out HB.out) | (with_reducible refine Kd.C_alloc ?_ _) | (with_reducible refine Kd.C_drewN ?_ _) | (with_reducible refine Kd.C_drew ?_))); (case side2 => exact HC0.out); (case side3 => repeat (first | exact (Kd.C_below HR1.out HB.out) | (with_reducible refine Kd.C_alloc ?_ _) | (with_reducible refine Kd.C_drewN ?_ _) | (with_reducible refine Kd.C_drew ?_))); (case side4 => exact HC1.out); rintro e w8 ⟨v537, rfl, ho0, hb⟩; refine ⟨_, rfl, ?_⟩; have n0_ := Aside0.mk (Kd.R_lower ho0 (below_size (by repeat (first | (with_reducible first | exact HB.out | apply below_alloc | apply pw_below_drewN | apply below_drew1) | exact HB.out)))); have n1_ := Aside0.mk (below_step (by repeat (first | (with_reducible first | exact HB.out | apply below_alloc | apply pw_below_drewN | apply below_drew1) | exact HB.out)) hb); clear HB; have HO538 := n0_; have HB := n1_; clear n0_ n1_; (try clear hb); (try clear hb2); (try clear hk); (try clear hi); (try clear ho0)))
    go_ret2
    exact ⟨_, by first | rfl | (simp [errW_none, errW_some] <;> rfl) | (simp [*, errW_none, errW_some] <;> rfl), by (with_reducible repeat (first | apply Kd.R_alloc | apply Kd.R_drewN | apply Kd.R_drew)); exact HO538.out, by repeat (first | (with_reducible first | exact HB.out | apply below_alloc | apply pw_below_drewN | apply below_drew1) | exact HB.out)⟩
  · rw [if_neg c5] at H
    have c5b0 : (t535 == 0) = false := beq_eq_false_iff_ne.mpr c5
    have c5b1 : (t535 != 0) = true := bne_iff_ne.mpr c5
    simp only [Option.some.injEq, Prod.mk.injEq] at H
    obtain ⟨rfl, rfl⟩ := H
    go_enter Try.func35, Try.ntmps35
    go_wp2_with (first | ((with_reducible refine gate_callee (f := 21) rfl ?_); refine goesL_ (some 11) rfl rfl Try.func21 (by kernel_rfl) rfl #[.slice A0 l0.length c0, .slice A1 l1.length c1] rfl (by (try simp only [List.map_toArray, List.map_cons, List.map_nil]); first | done | rfl | (simp only [List.length_drop, List.length_take]; rfl)) ?_; (with_reducible refine (gangsawref01_Lists.calls k _ _ l0 _ _ l1 t535 _ ?side1 ?side2 ?side3 ?side4 A4.out).mono ?_); (case side1 => repeat (first | exact HR0.out | (with_reducible refine Kd.C_alloc ?_ _) | (with_reducible refine Kd.C_drewN ?_ _) | (with_reducible refine Kd.C_drew ?_))); (case side2 => exact HC0.out); (case side3 => repeat (first | exact HR1.out | (with_reducible refine Kd.C_alloc ?_ _) | (with_reducible refine Kd.C_drewN ?_ _) | (with_reducible refine Kd.C_drew ?_))); (case side4 => exact HC1.out); rintro e w9 ⟨rfl, hb⟩; refine ⟨_, rfl, ?_⟩; have n0_ := Aside0.mk (below_step (by repeat (first | (with_reducible first | exact HB.out | apply below_alloc | apply pw_below_drewN | apply below_drew1) | exact HB.out)) hb); clear HB; have HB := n0_; clear n0_; (try clear hb); (try clear hb2); (try clear hk); (try clear hi)))
    go_ret2
    exact ⟨_, by first | rfl | (simp [errW_none, errW_some] <;> rfl) | (simp [*, errW_none, errW_some] <;> rfl), by first | exact Kd.R_nil _ _ _ _ _ | exact Kd.N_nil _ _ _ _ _ | exact Kd.V_nil _ _ _ _ _ | exact Kd.Q_nil _ _ _ _ _ | exact Kd.S_nil _ _ _ _ _, by repeat (first | (with_reducible first | exact HB.out | apply below_alloc | apply pw_below_drewN | apply below_drew1) | exact HB.out)⟩

def gangsawref01_Count.l0 : Nat → List (S23) → Int → Int → Option (Int)
  | 0, _, _, _ => none
  | k + 1, x0, x3, x4 => if x4 < (x0.length : Int) then (if 0 ≤ x4 then (gangsawref01_Count.l0 k x0 (wrap64 (x3 + (wrap64 ((wrap64 (((rd_T23 x0 x4).f1) - ((rd_T23 x0 x4).f0))) + 1)))) (wrap64 (x4 + 1))) else (none)) else (some x3)
def gangsawref01_Count.f (k : Nat) (l0 : List (S23)) : Option (Int) := gangsawref01_Count.l0 k l0 0 0
set_option maxHeartbeats 8000000 in
set_option maxRecDepth 100000 in
theorem gangsawref01_Count.calls (k : Nat) (A0 : Option Addr) (c0 : Nat) (l0 : List (S23)) (r : Int) (w : World) (hr0 : Kd.C k23 w A0 l0.length l0) (hc0 : l0.length ≤ c0) (h : gangsawref01_Count.f k l0 = some r) :
    Calls Try.prog 37 #[.slice A0 l0.length c0] w fun e w' => e = .returned (.int .i64 r) ∧ Drawn0 w w' := by
  have HR0 := Aside0.mk hr0
  have HC0 := Aside0.mk hc0
  clear hr0 hc0
  have H : (gangsawref01_Count.l0 k l0 0 0) = some r := h
  clear h
  have H' := Aside0.mk H
  clear H
  go_enter Try.func37, Try.ntmps37
  go_wp2
  repeat (go_quiet (fail); try go_wp2)
  go_loopg [3, 4] k (fun kq v3 v4 w' => ∃ (x3_1 : Int) (x4_1 : Int), v3 = .int .i64 x3_1 ∧ v4 = .int .i64 x4_1 ∧ Aside0 (gangsawref01_Count.l0 kq l0 x3_1 x4_1 = some r) ∧ Aside0 (kq ≤ k) ∧ Drawn0 w w')
  case atStart => exact ⟨(0), (0), (by first | rfl | (simp; done) | (simp [*]; done)), (by first | rfl | (simp; done) | (simp [*]; done)), H', ⟨Nat.le_refl _⟩, by repeat (first | exact Drawn0.refl _ | apply Drawn0.step)⟩
  case round =>
    clear H'
    obtain ⟨x3_1, x4_1, rfl, rfl, HA, HK1, ⟨m1, rfl⟩⟩ := hrel
    cases gk with
    | zero => exact absurd HA.out (by simp [gangsawref01_Count.l0])
    | succ k1 =>
      have H := HA.out
      clear HA
      simp only [gangsawref01_Count.l0] at H
      by_cases c2 : x4_1 < (l0.length : Int)
      · rw [if_pos c2] at H
        have c2b0 : decide (x4_1 < (l0.length : Int)) = true := decide_eq_true c2
        clear c2
        by_cases c3 : 0 ≤ x4_1
        · rw [if_pos c3] at H
          have c3b0 : decide (0 ≤ x4_1) = true := decide_eq_true c3
          clear c3
          have H' := Aside0.mk H
          clear H
          have p539 : 0 ≤ (x4_1 : Int) := of_decide_eq_true (by first | (with_reducible assumption) | assumption)
          have q539 : x4_1 < (l0.length : Int) := of_decide_eq_true (by first | (with_reducible assumption) | assumption)
          obtain ⟨ad539, e539, hx539_0, hx539_1⟩ := at_T23 HR0.out x4_1 p539 q539
          cases e539
          replace p539 := eq_true p539
          replace q539 := eq_true q539
          have p540 : 0 ≤ (x4_1 : Int) := of_decide_eq_true (by first | (with_reducible assumption) | assumption)
          have q540 : x4_1 < (l0.length : Int) := of_decide_eq_true (by first | (with_reducible assumption) | assumption)
          obtain ⟨ad540, e540, hx540_0, hx540_1⟩ := at_T23 HR0.out x4_1 p540 q540
          obtain rfl : ad539 = ad540 := (by injection e540)
          replace p540 := eq_true p540
          replace q540 := eq_true q540
          go_wp2
          repeat (go_quiet (fail); try go_wp2)
          go_roundg k1
          case measure => have := HK1.out; omega
          case rel => exact ⟨(wrap64 (x3_1 + (wrap64 ((wrap64 (((rd_T23 l0 x4_1).f1) - ((rd_T23 l0 x4_1).f0))) + 1)))), (wrap64 (x4_1 + 1)), (by first | rfl | (simp; done) | (simp [*]; done)), (by first | rfl | (simp; done) | (simp [*]; done)), H', ⟨by have := HK1.out; omega⟩, by repeat (first | exact Drawn0.refl _ | apply Drawn0.step)⟩
        · rw [if_neg c3] at H
          exact absurd H (by simp)
      · rw [if_neg c2] at H
        have c2b0 : decide (x4_1 < (l0.length : Int)) = false := decide_eq_false c2
        clear c2
        obtain rfl := Option.some.inj H
        go_wp2
        repeat (go_quiet (fail); try go_wp2)
        go_ret
        exact ⟨by first | rfl | (simp; done) | (simp [*]; done), by repeat (first | exact Drawn0.refl _ | apply Drawn0.step)⟩

mutual
def gangsawlaw01_SpanSets.j0 : Nat → List (S23) → List (S23) → Bool → Option (Bool)
  | 0, _, _, _ => none
  | k + 1, x0, x1, x32 => if x32 = true then (some true) else ((span_Normalize.f k x0).bind fun bt542 => ((span_Union.f k x0 x1).bind fun bt546 => ((span_Minus.f k x0 x1).bind fun bt550 => ((span_Common.f k x0 x1).bind fun bt554 => ((span_Count.f k x0).bind fun bt558 => ((gangsawref01_Set.f k x0 ([] : List (S23)) 1).bind fun bt560 => ((gangsawref01_Set.f k x0 x1 1).bind fun bt564 => ((gangsawref01_Set.f k x0 x1 2).bind fun bt568 => ((gangsawref01_Set.f k x0 x1 3).bind fun bt572 => ((gangsawref01_Same.f k bt542.1 bt560.1).bind fun t576 => (if t576 = true then (if bt542.2 = bt560.2 then ((gangsawref01_Same.f k bt546.1 bt564.1).bind fun t577 => (if t577 = true then (if bt546.2 = bt564.2 then ((gangsawref01_Same.f k bt550.1 bt568.1).bind fun t578 => (if t578 = true then (if bt550.2 = bt568.2 then ((gangsawref01_Same.f k bt554.1 bt572.1).bind fun t579 => (if t579 = true then (if bt554.2 = bt572.2 then ((gangsawref01_Count.f k bt560.1).bind fun t580 => (if bt558.1 = t580 then (gangsawlaw01_SpanSets.j1 k (bt558.2 == bt560.2)) else (gangsawlaw01_SpanSets.j1 k false))) else (gangsawlaw01_SpanSets.j1 k false)) else (gangsawlaw01_SpanSets.j1 k false))) else (gangsawlaw01_SpanSets.j1 k false)) else (gangsawlaw01_SpanSets.j1 k false))) else (gangsawlaw01_SpanSets.j1 k false)) else (gangsawlaw01_SpanSets.j1 k false))) else (gangsawlaw01_SpanSets.j1 k false)) else (gangsawlaw01_SpanSets.j1 k false))))))))))))
def gangsawlaw01_SpanSets.j1 : Nat → Bool → Option (Bool)
  | 0, _ => none
  | k + 1, x4 => some x4
end
def gangsawlaw01_SpanSets.f (k : Nat) (l0 : List (S23)) (l1 : List (S23)) : Option (Bool) := (gangsawlaw01_awake.f k).bind fun t541 => (if t541 = true then (if (l0.length : Int) > 30 then (gangsawlaw01_SpanSets.j0 k l0 l1 true) else (gangsawlaw01_SpanSets.j0 k l0 l1 (decide ((l1.length : Int) > 30)))) else (some false))
set_option maxHeartbeats 8000000 in
set_option maxRecDepth 100000 in
theorem gangsawlaw01_SpanSets.calls (k : Nat) (A0 : Option Addr) (c0 : Nat) (l0 : List (S23)) (A1 : Option Addr) (c1 : Nat) (l1 : List (S23)) (r : Bool) (w : World) (hr0 : Kd.C k23 w A0 l0.length l0) (hc0 : l0.length ≤ c0) (hr1 : Kd.C k23 w A1 l1.length l1) (hc1 : l1.length ≤ c1) (h : gangsawlaw01_SpanSets.f k l0 l1 = some r) :
    Calls Try.prog 7 #[.slice A0 l0.length c0, .slice A1 l1.length c1] w fun e w' => e = .returned (.bool r) ∧ Below w.heap.size w w' := by
  have HR0 := Aside0.mk hr0
  have HC0 := Aside0.mk hc0
  clear hr0 hc0
  have HR1 := Aside0.mk hr1
  have HC1 := Aside0.mk hc1
  clear hr1 hc1
  have HB := Aside0.mk (Below.refl w.heap.size w)
  have H : ((gangsawlaw01_awake.f k).bind fun t541 => (if t541 = true then (if (l0.length : Int) > 30 then (gangsawlaw01_SpanSets.j0 k l0 l1 true) else (gangsawlaw01_SpanSets.j0 k l0 l1 (decide ((l1.length : Int) > 30)))) else (some false))) = some r := h
  clear h
  replace H := Option.bind_eq_some_iff.mp H
  obtain ⟨t541, A30, H⟩ := H
  replace H : (if t541 = true then (if (l0.length : Int) > 30 then (gangsawlaw01_SpanSets.j0 k l0 l1 true) else (gangsawlaw01_SpanSets.j0 k l0 l1 (decide ((l1.length : Int) > 30)))) else (some false)) = some r := H
  have A3 := Aside0.mk A30
  clear A30
  by_cases c4 : t541 = true
  · subst c4
    have H1 : (if (l0.length : Int) > 30 then (gangsawlaw01_SpanSets.j0 k l0 l1 true) else (gangsawlaw01_SpanSets.j0 k l0 l1 (decide ((l1.length : Int) > 30)))) = some r := by rw [if_pos rfl] at H; exact H
    clear H
    have H := H1
    clear H1
    have HC5 := Aside0.mk H
    clear H
    go_enter Try.func7, Try.ntmps7
    go_upto_region 3 with (first | ((with_reducible refine gate_callee (f := 10) rfl ?_); refine goesL_ (some 23) rfl rfl Try.func10 (by kernel_rfl) rfl #[] rfl (by (try simp only [List.map_toArray, List.map_cons, List.map_nil]); first | done | rfl | (simp only [List.length_drop, List.length_take]; rfl)) ?_; (with_reducible refine (gangsawlaw01_awake.calls k  true _ A3.out).mono ?_); rintro e w6 ⟨rfl, hb⟩; refine ⟨_, rfl, ?_⟩; have n0_ := Aside0.mk (below_step (by repeat (first | (with_reducible first | exact HB.out | apply below_alloc | apply pw_below_drewN | apply below_drew1) | exact HB.out)) hb); clear HB; have HB := n0_; clear n0_; (try clear hb); (try clear hb2); (try clear hk); (try clear hi)))
    (try simp only [Act.put, List.setIfInBounds_toArray, List.set_cons_zero, List.set_cons_succ])
    go_cut [32] (fun v32 wc => ∃ (kq : Nat) (x32_4 : Bool), v32 = .bool x32_4 ∧ Aside0 (gangsawlaw01_SpanSets.j0 kq l0 l1 x32_4 = some r) ∧ Aside0 (kq ≤ k) ∧ Aside0 (Below w.heap.size w wc))
    case first =>
      have H := HC5.out
      clear HC5
      by_cases c7 : (l0.length : Int) > 30
      · rw [if_pos c7] at H
        have c7b0 : decide (30 < (l0.length : Int)) = true := decide_eq_true c7
        have c7b1 : decide (30 < l0.length) = true := decide_eq_true (by omega)
        clear c7
        (first | rw [c7b0] | (simp only [i64_w, i32_w]; rw [c7b0]) | skip)
        have H' := Aside0.mk H
        clear H
        go_wp2
        go_meet
        case rel => exact ⟨_, (true), (by first | rfl | (simp; done) | (simp [*]; done)), H', ⟨by first | omega | exact Nat.le_refl _⟩, ⟨by repeat (first | (with_reducible first | exact HB.out | apply below_alloc | apply pw_below_drewN | apply below_drew1) | exact HB.out)⟩⟩
      · rw [if_neg c7] at H
        have c7b0 : decide (30 < (l0.length : Int)) = false := decide_eq_false c7
        have c7b1 : decide (30 < l0.length) = false := decide_eq_false (by omega)
        clear c7
        (first | rw [c7b0] | (simp only [i64_w, i32_w]; rw [c7b0]) | skip)
        have H' := Aside0.mk H
        clear H
        go_wp2
        go_meet
        case rel => exact ⟨_, (decide ((l1.length : Int) > 30)), (by first | rfl | (simp; done) | (simp [*]; done)), H', ⟨by first | omega | exact Nat.le_refl _⟩, ⟨by repeat (first | (with_reducible first | exact HB.out | apply below_alloc | apply pw_below_drewN | apply below_drew1) | exact HB.out)⟩⟩
    case rest =>
      clear HC5
      try clear c1
      try clear p2
      try clear c4
      try clear c7
      try clear c7b0
      try clear c7b1
      obtain ⟨kq, x32_4, rfl, HA, HJ4, HB⟩ := hcut
      cases kq with
      | zero => exact absurd HA.out (by simp [gangsawlaw01_SpanSets.j0])
      | succ kj4 =>
        have H := HA.out
        clear HA
        simp only [gangsawlaw01_SpanSets.j0] at H
        by_cases c8 : x32_4 = true
        · subst c8
          have H1 : (some true) = some r := by rw [if_pos rfl] at H; exact H
          clear H
          have H := H1
          clear H1
          obtain rfl := Option.some.inj H
          go_wp2
          go_ret
          exact ⟨by first | rfl | (simp [errW_none, errW_some] <;> rfl) | (simp [*, errW_none, errW_some] <;> rfl), by repeat (first | (with_reducible first | exact HB.out | apply below_alloc | apply pw_below_drewN | apply below_drew1) | exact HB.out)⟩
        · replace c8 := Bool.eq_false_iff.mpr c8
          subst c8
          have H1 : ((span_Normalize.f kj4 l0).bind fun bt542 => ((span_Union.f kj4 l0 l1).bind fun bt546 => ((span_Minus.f kj4 l0 l1).bind fun bt550 => ((span_Common.f kj4 l0 l1).bind fun bt554 => ((span_Count.f kj4 l0).bind fun bt558 => ((gangsawref01_Set.f kj4 l0 ([] : List (S23)) 1).bind fun bt560 => ((gangsawref01_Set.f kj4 l0 l1 1).bind fun bt564 => ((gangsawref01_Set.f kj4 l0 l1 2).bind fun bt568 => ((gangsawref01_Set.f kj4 l0 l1 3).bind fun bt572 => ((gangsawref01_Same.f kj4 bt542.1 bt560.1).bind fun t576 => (if t576 = true then (if bt542.2 = bt560.2 then ((gangsawref01_Same.f kj4 bt546.1 bt564.1).bind fun t577 => (if t577 = true then (if bt546.2 = bt564.2 then ((gangsawref01_Same.f kj4 bt550.1 bt568.1).bind fun t578 => (if t578 = true then (if bt550.2 = bt568.2 then ((gangsawref01_Same.f kj4 bt554.1 bt572.1).bind fun t579 => (if t579 = true then (if bt554.2 = bt572.2 then ((gangsawref01_Count.f kj4 bt560.1).bind fun t580 => (if bt558.1 = t580 then (gangsawlaw01_SpanSets.j1 kj4 (bt558.2 == bt560.2)) else (gangsawlaw01_SpanSets.j1 kj4 false))) else (gangsawlaw01_SpanSets.j1 kj4 false)) else (gangsawlaw01_SpanSets.j1 kj4 false))) else (gangsawlaw01_SpanSets.j1 kj4 false)) else (gangsawlaw01_SpanSets.j1 kj4 false))) else (gangsawlaw01_SpanSets.j1 kj4 false)) else (gangsawlaw01_SpanSets.j1 kj4 false))) else (gangsawlaw01_SpanSets.j1 kj4 false)) else (gangsawlaw01_SpanSets.j1 kj4 false)))))))))))) = some r := by rw [if_neg (show ¬ (false = true) by decide)] at H; exact H
          clear H
          have H := H1
          clear H1
          replace H := Option.bind_eq_some_iff.mp H
          obtain ⟨⟨t542, t545⟩, A90, H⟩ := H
          replace H : ((span_Union.f kj4 l0 l1).bind fun bt546 => ((span_Minus.f kj4 l0 l1).bind fun bt550 => ((span_Common.f kj4 l0 l1).bind fun bt554 => ((span_Count.f kj4 l0).bind fun bt558 => ((gangsawref01_Set.f kj4 l0 ([] : List (S23)) 1).bind fun bt560 => ((gangsawref01_Set.f kj4 l0 l1 1).bind fun bt564 => ((gangsawref01_Set.f kj4 l0 l1 2).bind fun bt568 => ((gangsawref01_Set.f kj4 l0 l1 3).bind fun bt572 => ((gangsawref01_Same.f kj4 t542 bt560.1).bind fun t576 => (if t576 = true then (if t545 = bt560.2 then ((gangsawref01_Same.f kj4 bt546.1 bt564.1).bind fun t577 => (if t577 = true then (if bt546.2 = bt564.2 then ((gangsawref01_Same.f kj4 bt550.1 bt568.1).bind fun t578 => (if t578 = true then (if bt550.2 = bt568.2 then ((gangsawref01_Same.f kj4 bt554.1 bt572.1).bind fun t579 => (if t579 = true then (if bt554.2 = bt572.2 then ((gangsawref01_Count.f kj4 bt560.1).bind fun t580 => (if bt558.1 = t580 then (gangsawlaw01_SpanSets.j1 kj4 (bt558.2 == bt560.2)) else (gangsawlaw01_SpanSets.j1 kj4 false))) else (gangsawlaw01_SpanSets.j1 kj4 false)) else (gangsawlaw01_SpanSets.j1 kj4 false))) else (gangsawlaw01_SpanSets.j1 kj4 false)) else (gangsawlaw01_SpanSets.j1 kj4 false))) else (gangsawlaw01_SpanSets.j1 kj4 false)) else (gangsawlaw01_SpanSets.j1 kj4 false))) else (gangsawlaw01_SpanSets.j1 kj4 false)) else (gangsawlaw01_SpanSets.j1 kj4 false))))))))))) = some r := H
          have A9 := Aside0.mk A90
          clear A90
          replace H := Option.bind_eq_some_iff.mp H
          obtain ⟨⟨t546, t549⟩, A100, H⟩ := H
          replace H : ((span_Minus.f kj4 l0 l1).bind fun bt550 => ((span_Common.f kj4 l0 l1).bind fun bt554 => ((span_Count.f kj4 l0).bind fun bt558 => ((gangsawref01_Set.f kj4 l0 ([] : List (S23)) 1).bind fun bt560 => ((gangsawref01_Set.f kj4 l0 l1 1).bind fun bt564 => ((gangsawref01_Set.f kj4 l0 l1 2).bind fun bt568 => ((gangsawref01_Set.f kj4 l0 l1 3).bind fun bt572 => ((gangsawref01_Same.f kj4 t542 bt560.1).bind fun t576 => (if t576 = true then (if t545 = bt560.2 then ((gangsawref01_Same.f kj4 t546 bt564.1).bind fun t577 => (if t577 = true then (if t549 = bt564.2 then ((gangsawref01_Same.f kj4 bt550.1 bt568.1).bind fun t578 => (if t578 = true then (if bt550.2 = bt568.2 then ((gangsawref01_Same.f kj4 bt554.1 bt572.1).bind fun t579 => (if t579 = true then (if bt554.2 = bt572.2 then ((gangsawref01_Count.f kj4 bt560.1).bind fun t580 => (if bt558.1 = t580 then (gangsawlaw01_SpanSets.j1 kj4 (bt558.2 == bt560.2)) else (gangsawlaw01_SpanSets.j1 kj4 false))) else (gangsawlaw01_SpanSets.j1 kj4 false)) else (gangsawlaw01_SpanSets.j1 kj4 false))) else (gangsawlaw01_SpanSets.j1 kj4 false)) else (gangsawlaw01_SpanSets.j1 kj4 false))) else (gangsawlaw01_SpanSets.j1 kj4 false)) else (gangsawlaw01_SpanSets.j1 kj4 false))) else (gangsawlaw01_SpanSets.j1 kj4 false)) else (gangsawlaw01_SpanSets.j1 kj4 false)))))))))) = some r := H
          have A10 := Aside0.mk A100
          clear A100
          replace H := Option.bind_eq_some_iff.mp H
          obtain ⟨⟨t550, t553⟩, A110, H⟩ := H
          replace H : ((span_Common.f kj4 l0 l1).bind fun bt554 => ((span_Count.f kj4 l0).bind fun bt558 => ((gangsawref01_Set.f kj4 l0 ([] : List (S23)) 1).bind fun bt560 => ((gangsawref01_Set.f kj4 l0 l1 1).bind fun bt564 => ((gangsawref01_Set.f kj4 l0 l1 2).bind fun bt568 => ((gangsawref01_Set.f kj4 l0 l1 3).bind fun bt572 => ((gangsawref01_Same.f kj4 t542 bt560.1).bind fun t576 => (if t576 = true then (if t545 = bt560.2 then ((gangsawref01_Same.f kj4 t546 bt564.1).bind fun t577 => (if t577 = true then (if t549 = bt564.2 then ((gangsawref01_Same.f kj4 t550 bt568.1).bind fun t578 => (if t578 = true then (if t553 = bt568.2 then ((gangsawref01_Same.f kj4 bt554.1 bt572.1).bind fun t579 => (if t579 = true then (if bt554.2 = bt572.2 then ((gangsawref01_Count.f kj4 bt560.1).bind fun t580 => (if bt558.1 = t580 then (gangsawlaw01_SpanSets.j1 kj4 (bt558.2 == bt560.2)) else (gangsawlaw01_SpanSets.j1 kj4 false))) else (gangsawlaw01_SpanSets.j1 kj4 false)) else (gangsawlaw01_SpanSets.j1 kj4 false))) else (gangsawlaw01_SpanSets.j1 kj4 false)) else (gangsawlaw01_SpanSets.j1 kj4 false))) else (gangsawlaw01_SpanSets.j1 kj4 false)) else (gangsawlaw01_SpanSets.j1 kj4 false))) else (gangsawlaw01_SpanSets.j1 kj4 false)) else (gangsawlaw01_SpanSets.j1 kj4 false))))))))) = some r := H
          have A11 := Aside0.mk A110
          clear A110
          replace H := Option.bind_eq_some_iff.mp H
          obtain ⟨⟨t554, t557⟩, A120, H⟩ := H
          replace H : ((span_Count.f kj4 l0).bind fun bt558 => ((gangsawref01_Set.f kj4 l0 ([] : List (S23)) 1).bind fun bt560 => ((gangsawref01_Set.f kj4 l0 l1 1).bind fun bt564 => ((gangsawref01_Set.f kj4 l0 l1 2).bind fun bt568 => ((gangsawref01_Set.f kj4 l0 l1 3).bind fun bt572 => ((gangsawref01_Same.f kj4 t542 bt560.1).bind fun t576 => (if t576 = true then (if t545 = bt560.2 then ((gangsawref01_Same.f kj4 t546 bt564.1).bind fun t577 => (if t577 = true then (if t549 = bt564.2 then ((gangsawref01_Same.f kj4 t550 bt568.1).bind fun t578 => (if t578 = true then (if t553 = bt568.2 then ((gangsawref01_Same.f kj4 t554 bt572.1).bind fun t579 => (if t579 = true then (if t557 = bt572.2 then ((gangsawref01_Count.f kj4 bt560.1).bind fun t580 => (if bt558.1 = t580 then (gangsawlaw01_SpanSets.j1 kj4 (bt558.2 == bt560.2)) else (gangsawlaw01_SpanSets.j1 kj4 false))) else (gangsawlaw01_SpanSets.j1 kj4 false)) else (gangsawlaw01_SpanSets.j1 kj4 false))) else (gangsawlaw01_SpanSets.j1 kj4 false)) else (gangsawlaw01_SpanSets.j1 kj4 false))) else (gangsawlaw01_SpanSets.j1 kj4 false)) else (gangsawlaw01_SpanSets.j1 kj4 false))) else (gangsawlaw01_SpanSets.j1 kj4 false)) else (gangsawlaw01_SpanSets.j1 kj4 false)))))))) = some r := H
          have A12 := Aside0.mk A120
          clear A120
          replace H := Option.bind_eq_some_iff.mp H
          obtain ⟨⟨t558, t559⟩, A130, H⟩ := H
          replace H : ((gangsawref01_Set.f kj4 l0 ([] : List (S23)) 1).bind fun bt560 => ((gangsawref01_Set.f kj4 l0 l1 1).bind fun bt564 => ((gangsawref01_Set.f kj4 l0 l1 2).bind fun bt568 => ((gangsawref01_Set.f kj4 l0 l1 3).bind fun bt572 => ((gangsawref01_Same.f kj4 t542 bt560.1).bind fun t576 => (if t576 = true then (if t545 = bt560.2 then ((gangsawref01_Same.f kj4 t546 bt564.1).bind fun t577 => (if t577 = true then (if t549 = bt564.2 then ((gangsawref01_Same.f kj4 t550 bt568.1).bind fun t578 => (if t578 = true then (if t553 = bt568.2 then ((gangsawref01_Same.f kj4 t554 bt572.1).bind fun t579 => (if t579 = true then (if t557 = bt572.2 then ((gangsawref01_Count.f kj4 bt560.1).bind fun t580 => (if t558 = t580 then (gangsawlaw01_SpanSets.j1 kj4 (t559 == bt560.2)) else (gangsawlaw01_SpanSets.j1 kj4 false))) else (gangsawlaw01_SpanSets.j1 kj4 false)) else (gangsawlaw01_SpanSets.j1 kj4 false))) else (gangsawlaw01_SpanSets.j1 kj4 false)) else (gangsawlaw01_SpanSets.j1 kj4 false))) else (gangsawlaw01_SpanSets.j1 kj4 false)) else (gangsawlaw01_SpanSets.j1 kj4 false))) else (gangsawlaw01_SpanSets.j1 kj4 false)) else (gangsawlaw01_SpanSets.j1 kj4 false))))))) = some r := H
          have A13 := Aside0.mk A130
          clear A130
          replace H := Option.bind_eq_some_iff.mp H
          obtain ⟨⟨t560, t561⟩, A140, H⟩ := H
          replace H : ((gangsawref01_Set.f kj4 l0 l1 1).bind fun bt564 => ((gangsawref01_Set.f kj4 l0 l1 2).bind fun bt568 => ((gangsawref01_Set.f kj4 l0 l1 3).bind fun bt572 => ((gangsawref01_Same.f kj4 t542 t560).bind fun t576 => (if t576 = true then (if t545 = t561 then ((gangsawref01_Same.f kj4 t546 bt564.1).bind fun t577 => (if t577 = true then (if t549 = bt564.2 then ((gangsawref01_Same.f kj4 t550 bt568.1).bind fun t578 => (if t578 = true then (if t553 = bt568.2 then ((gangsawref01_Same.f kj4 t554 bt572.1).bind fun t579 => (if t579 = true then (if t557 = bt572.2 then ((gangsawref01_Count.f kj4 t560).bind fun t580 => (if t558 = t580 then (gangsawlaw01_SpanSets.j1 kj4 (t559 == t561)) else (gangsawlaw01_SpanSets.j1 kj4 false))) else (gangsawlaw01_SpanSets.j1 kj4 false)) else (gangsawlaw01_SpanSets.j1 kj4 false))) else (gangsawlaw01_SpanSets.j1 kj4 false)) else (gangsawlaw01_SpanSets.j1 kj4 false))) else (gangsawlaw01_SpanSets.j1 kj4 false)) else (gangsawlaw01_SpanSets.j1 kj4 false))) else (gangsawlaw01_SpanSets.j1 kj4 false)) else (gangsawlaw01_SpanSets.j1 kj4 false)))))) = some r := H
          have A14 := Aside0.mk A140
          clear A140
          replace H := Option.bind_eq_some_iff.mp H
          obtain ⟨⟨t564, t565⟩, A150, H⟩ := H
          replace H : ((gangsawref01_Set.f kj4 l0 l1 2).bind fun bt568 => ((gangsawref01_Set.f kj4 l0 l1 3).bind fun bt572 => ((gangsawref01_Same.f kj4 t542 t560).bind fun t576 => (if t576 = true then (if t545 = t561 then ((gangsawref01_Same.f kj4 t546 t564).bind fun t577 => (if t577 = true then (if t549 = t565 then ((gangsawref01_Same.f kj4 t550 bt568.1).bind fun t578 => (if t578 = true then (if t553 = bt568.2 then ((gangsawref01_Same.f kj4 t554 bt572.1).bind fun t579 => (if t579 = true then (if t557 = bt572.2 then ((gangsawref01_Count.f kj4 t560).bind fun t580 => (if t558 = t580 then (gangsawlaw01_SpanSets.j1 kj4 (t559 == t561)) else (gangsawlaw01_SpanSets.j1 kj4 false))) else (gangsawlaw01_SpanSets.j1 kj4 false)) else (gangsawlaw01_SpanSets.j1 kj4 false))) else (gangsawlaw01_SpanSets.j1 kj4 false)) else (gangsawlaw01_SpanSets.j1 kj4 false))) else (gangsawlaw01_SpanSets.j1 kj4 false)) else (gangsawlaw01_SpanSets.j1 kj4 false))) else (gangsawlaw01_SpanSets.j1 kj4 false)) else (gangsawlaw01_SpanSets.j1 kj4 false))))) = some r := H
          have A15 := Aside0.mk A150
          clear A150
          replace H := Option.bind_eq_some_iff.mp H
          obtain ⟨⟨t568, t569⟩, A160, H⟩ := H
          replace H : ((gangsawref01_Set.f kj4 l0 l1 3).bind fun bt572 => ((gangsawref01_Same.f kj4 t542 t560).bind fun t576 => (if t576 = true then (if t545 = t561 then ((gangsawref01_Same.f kj4 t546 t564).bind fun t577 => (if t577 = true then (if t549 = t565 then ((gangsawref01_Same.f kj4 t550 t568).bind fun t578 => (if t578 = true then (if t553 = t569 then ((gangsawref01_Same.f kj4 t554 bt572.1).bind fun t579 => (if t579 = true then (if t557 = bt572.2 then ((gangsawref01_Count.f kj4 t560).bind fun t580 => (if t558 = t580 then (gangsawlaw01_SpanSets.j1 kj4 (t559 == t561)) else (gangsawlaw01_SpanSets.j1 kj4 false))) else (gangsawlaw01_SpanSets.j1 kj4 false)) else (gangsawlaw01_SpanSets.j1 kj4 false))) else (gangsawlaw01_SpanSets.j1 kj4 false)) else (gangsawlaw01_SpanSets.j1 kj4 false))) else (gangsawlaw01_SpanSets.j1 kj4 false)) else (gangsawlaw01_SpanSets.j1 kj4 false))) else (gangsawlaw01_SpanSets.j1 kj4 false)) else (gangsawlaw01_SpanSets.j1 kj4 false)))) = some r := H
          have A16 := Aside0.mk A160
          clear A160
          replace H := Option.bind_eq_some_iff.mp H
          obtain ⟨⟨t572, t573⟩, A170, H⟩ := H
          replace H : ((gangsawref01_Same.f kj4 t542 t560).bind fun t576 => (if t576 = true then (if t545 = t561 then ((gangsawref01_Same.f kj4 t546 t564).bind fun t577 => (if t577 = true then (if t549 = t565 then ((gangsawref01_Same.f kj4 t550 t568).bind fun t578 => (if t578 = true then (if t553 = t569 then ((gangsawref01_Same.f kj4 t554 t572).bind fun t579 => (if t579 = true then (if t557 = t573 then ((gangsawref01_Count.f kj4 t560).bind fun t580 => (if t558 = t580 then (gangsawlaw01_SpanSets.j1 kj4 (t559 == t561)) else (gangsawlaw01_SpanSets.j1 kj4 false))) else (gangsawlaw01_SpanSets.j1 kj4 false)) else (gangsawlaw01_SpanSets.j1 kj4 false))) else (gangsawlaw01_SpanSets.j1 kj4 false)) else (gangsawlaw01_SpanSets.j1 kj4 false))) else (gangsawlaw01_SpanSets.j1 kj4 false)) else (gangsawlaw01_SpanSets.j1 kj4 false))) else (gangsawlaw01_SpanSets.j1 kj4 false)) else (gangsawlaw01_SpanSets.j1 kj4 false))) = some r := H
          have A17 := Aside0.mk A170
          clear A170
          have HC18 := Aside0.mk H
          clear H
          go_upto_region 14 with (first | ((with_reducible refine gate_callee (f := 30) rfl ?_); refine goesL_ (some 35) rfl rfl Try.func30 (by kernel_rfl) rfl #[.slice A0 l0.length c0] rfl (by (try simp only [List.map_toArray, List.map_cons, List.map_nil]); first | done | rfl | (simp only [List.length_drop, List.length_take]; rfl)) ?_; (with_reducible refine (span_Normalize.calls kj4 (fun k_ => k_ < w.heap.size) _ _ l0 t542 t545 _ ?side1 A9.out).mono ?_); (case side1 => exact Kd.V_mk HC0.out (Kd.F_below (Kd.C_F k23_heap HR0.out) (by repeat (first | (with_reducible first | exact HB.out | apply below_alloc | apply pw_below_drewN | apply below_drew1) | exact HB.out)))); rintro e w19 ⟨v543, rfl, ho0, hb⟩; refine ⟨_, rfl, ?_⟩; have n0_ := Aside0.mk (Kd.R_lower (Kd.R_mono (ok' := fun k_ => True) ho0 (fun _ hk_ => trivial)) (below_size (by repeat (first | (with_reducible first | exact HB.out | apply below_alloc | apply pw_below_drewN | apply below_drew1) | exact HB.out)))); have n1_ := Aside0.mk (below_step (by repeat (first | (with_reducible first | exact HB.out | apply below_alloc | apply pw_below_drewN | apply below_drew1) | exact HB.out)) hb); clear HB; have HO544 := n0_; have HB := n1_; clear n0_ n1_; (try clear hb); (try clear hb2); (try clear hk); (try clear hi); (try clear ho0)) | ((with_reducible refine gate_callee (f := 31) rfl ?_); refine goesL_ (some 41) rfl rfl Try.func31 (by kernel_rfl) rfl #[.slice A0 l0.length c0, .slice A1 l1.length c1] rfl (by (try simp only [List.map_toArray, List.map_cons, List.map_nil]); first | done | rfl | (simp only [List.length_drop, List.length_take]; rfl)) ?_; (with_reducible refine (span_Union.calls kj4 (fun k_ => k_ < w.heap.size) _ _ l0 (fun k_ => k_ < w.heap.size) _ _ l1 t546 t549 _ ?side1 ?side2 A10.out).mono ?_); (case side1 => exact Kd.V_mk HC0.out (Kd.F_below (Kd.C_F k23_heap HR0.out) (by repeat (first | (with_reducible first | exact HB.out | apply below_alloc | apply pw_below_drewN | apply below_drew1) | exact HB.out)))); (case side2 => exact Kd.V_mk HC1.out (Kd.F_below (Kd.C_F k23_heap HR1.out) (by repeat (first | (with_reducible first | exact HB.out | apply below_alloc | apply pw_below_drewN | apply below_drew1) | exact HB.out)))); rintro e w20 ⟨v547, rfl, ho0, hb⟩; refine ⟨_, rfl, ?_⟩; have n0_ := Aside0.mk (Kd.R_elder' (by (with_reducible repeat (first | apply Kd.R_alloc | apply Kd.R_drewN | apply Kd.R_drew)); exact HO544.out) (Kd.R_base ho0) hb); have n1_ := Aside0.mk (Kd.R_lower (Kd.R_new' (Kd.R_mono (ok' := fun k_ => True) ho0 (fun _ hk_ => trivial)) (Kd.R_lt (by (with_reducible repeat (first | apply Kd.R_alloc | apply Kd.R_drewN | apply Kd.R_drew)); exact HO544.out))) (below_size (by repeat (first | (with_reducible first | exact HB.out | apply below_alloc | apply pw_below_drewN | apply below_drew1) | exact HB.out)))); have n2_ := Aside0.mk (below_step (by repeat (first | (with_reducible first | exact HB.out | apply below_alloc | apply pw_below_drewN | apply below_drew1) | exact HB.out)) hb); clear HO544; clear HB; have HO544 := n0_; have HO548 := n1_; have HB := n2_; clear n0_ n1_ n2_; (try clear hb); (try clear hb2); (try clear hk); (try clear hi); (try clear ho0)) | ((with_reducible refine gate_callee (f := 32) rfl ?_); refine goesL_ (some 47) rfl rfl Try.func32 (by kernel_rfl) rfl #[.slice A0 l0.length c0, .slice A1 l1.length c1] rfl (by (try simp only [List.map_toArray, List.map_cons, List.map_nil]); first | done | rfl | (simp only [List.length_drop, List.length_take]; rfl)) ?_; (with_reducible refine (span_Minus.calls kj4 (fun k_ => k_ < w.heap.size) _ _ l0 (fun k_ => k_ < w.heap.size) _ _ l1 t550 t553 _ ?side1 ?side2 A11.out).mono ?_); (case side1 => exact Kd.V_mk HC0.out (Kd.F_below (Kd.C_F k23_heap HR0.out) (by repeat (first | (with_reducible first | exact HB.out | apply below_alloc | apply pw_below_drewN | apply below_drew1) | exact HB.out)))); (case side2 => exact Kd.V_mk HC1.out (Kd.F_below (Kd.C_F k23_heap HR1.out) (by repeat (first | (with_reducible first | exact HB.out | apply below_alloc | apply pw_below_drewN | apply below_drew1) | exact HB.out)))); rintro e w21 ⟨v551, rfl, ho0, hb⟩; refine ⟨_, rfl, ?_⟩; have n0_ := Aside0.mk (Kd.R_elder' (by (with_reducible repeat (first | apply Kd.R_alloc | apply Kd.R_drewN | apply Kd.R_drew)); exact HO544.out) (Kd.R_base ho0) hb); have n1_ := Aside0.mk (Kd.R_elder' (by (with_reducible repeat (first | apply Kd.R_alloc | apply Kd.R_drewN | apply Kd.R_drew)); exact HO548.out) (Kd.R_base ho0) hb); have n2_ := Aside0.mk (Kd.R_lower (Kd.R_new' (Kd.R_new' (Kd.R_mono (ok' := fun k_ => True) ho0 (fun _ hk_ => trivial)) (Kd.R_lt (by (with_reducible repeat (first | apply Kd.R_alloc | apply Kd.R_drewN | apply Kd.R_drew)); exact HO544.out))) (Kd.R_lt (by (with_reducible repeat (first | apply Kd.R_alloc | apply Kd.R_drewN | apply Kd.R_drew)); exact HO548.out))) (below_size (by repeat (first | (with_reducible first | exact HB.out | apply below_alloc | apply pw_below_drewN | apply below_drew1) | exact HB.out)))); have n3_ := Aside0.mk (below_step (by repeat (first | (with_reducible first | exact HB.out | apply below_alloc | apply pw_below_drewN | apply below_drew1) | exact HB.out)) hb); clear HO544; clear HO548; clear HB; have HO544 := n0_; have HO548 := n1_; have HO552 := n2_; have HB := n3_; clear n0_ n1_ n2_ n3_; (try clear hb); (try clear hb2); (try clear hk); (try clear hi); (try clear ho0)) | ((with_reducible refine gate_callee (f := 33) rfl ?_); refine goesL_ (some 53) rfl rfl Try.func33 (by kernel_rfl) rfl #[.slice A0 l0.length c0, .slice A1 l1.length c1] rfl (by (try simp only [List.map_toArray, List.map_cons, List.map_nil]); first | done | rfl | (simp only [List.length_drop, List.length_take]; rfl)) ?_; (with_reducible refine (span_Common.calls kj4 (fun k_ => k_ < w.heap.size) _ _ l0 (fun k_ => k_ < w.heap.size) _ _ l1 t554 t557 _ ?side1 ?side2 A12.out).mono ?_); (case side1 => exact Kd.V_mk HC0.out (Kd.F_below (Kd.C_F k23_heap HR0.out) (by repeat (first | (with_reducible first | exact HB.out | apply below_alloc | apply pw_below_drewN | apply below_drew1) | exact HB.out)))); (case side2 => exact Kd.V_mk HC1.out (Kd.F_below (Kd.C_F k23_heap HR1.out) (by repeat (first | (with_reducible first | exact HB.out | apply below_alloc | apply pw_below_drewN | apply below_drew1) | exact HB.out)))); rintro e w22 ⟨v555, rfl, ho0, hb⟩; refine ⟨_, rfl, ?_⟩; have n0_ := Aside0.mk (Kd.R_elder' (by (with_reducible repeat (first | apply Kd.R_alloc | apply Kd.R_drewN | apply Kd.R_drew)); exact HO544.out) (Kd.R_base ho0) hb); have n1_ := Aside0.mk (Kd.R_elder' (by (with_reducible repeat (first | apply Kd.R_alloc | apply Kd.R_drewN | apply Kd.R_drew)); exact HO548.out) (Kd.R_base ho0) hb); have n2_ := Aside0.mk (Kd.R_elder' (by (with_reducible repeat (first | apply Kd.R_alloc | apply Kd.R_drewN | apply Kd.R_drew)); exact HO552.out) (Kd.R_base ho0) hb); have n3_ := Aside0.mk (Kd.R_lower (Kd.R_new' (Kd.R_new' (Kd.R_new' (Kd.R_mono (ok' := fun k_ => True) ho0 (fun _ hk_ => trivial)) (Kd.R_lt (by (with_reducible repeat (first | apply Kd.R_alloc | apply Kd.R_drewN | apply Kd.R_drew)); exact HO544.out))) (Kd.R_lt (by (with_reducible repeat (first | apply Kd.R_alloc | apply Kd.R_drewN | apply Kd.R_drew)); exact HO548.out))) (Kd.R_lt (by (with_reducible repeat (first | apply Kd.R_alloc | apply Kd.R_drewN | apply Kd.R_drew)); exact HO552.out))) (below_size (by repeat (first | (with_reducible first | exact HB.out | apply below_alloc | apply pw_below_drewN | apply below_drew1) | exact HB.out)))); have n4_ := Aside0.mk (below_step (by repeat (first | (with_reducible first | exact HB.out | apply below_alloc | apply pw_below_drewN | apply below_drew1) | exact HB.out)) hb); clear HO544; clear HO548; clear HO552; clear HB; have HO544 := n0_; have HO548 := n1_; have HO552 := n2_; have HO556 := n3_; have HB := n4_; clear n0_ n1_ n2_ n3_ n4_; (try clear hb); (try clear hb2); (try clear hk); (try clear hi); (try clear ho0)) | ((with_reducible refine gate_callee (f := 34) rfl ?_); refine goesL_ (some 58) rfl rfl Try.func34 (by kernel_rfl) rfl #[.slice A0 l0.length c0] rfl (by (try simp only [List.map_toArray, List.map_cons, List.map_nil]); first | done | rfl | (simp only [List.length_drop, List.length_take]; rfl)) ?_; (with_reducible refine (span_Count.calls kj4 (fun k_ => k_ < w.heap.size) _ _ l0 t558 t559 _ ?side1 A13.out).mono ?_); (case side1 => exact Kd.V_mk HC0.out (Kd.F_below (Kd.C_F k23_heap HR0.out) (by repeat (first | (with_reducible first | exact HB.out | apply below_alloc | apply pw_below_drewN | apply below_drew1) | exact HB.out)))); rintro e w23 ⟨rfl, hb⟩; refine ⟨_, rfl, ?_⟩; have n0_ := Aside0.mk (Kd.R_below (by (with_reducible repeat (first | apply Kd.R_alloc | apply Kd.R_drewN | apply Kd.R_drew)); exact HO544.out) hb); have n1_ := Aside0.mk (Kd.R_below (by (with_reducible repeat (first | apply Kd.R_alloc | apply Kd.R_drewN | apply Kd.R_drew)); exact HO548.out) hb); have n2_ := Aside0.mk (Kd.R_below (by (with_reducible repeat (first | apply Kd.R_alloc | apply Kd.R_drewN | apply Kd.R_drew)); exact HO552.out) hb); have n3_ := Aside0.mk (Kd.R_below (by (with_reducible repeat (first | apply Kd.R_alloc | apply Kd.R_drewN | apply Kd.R_drew)); exact HO556.out) hb); have n4_ := Aside0.mk (below_step (by repeat (first | (with_reducible first | exact HB.out | apply below_alloc | apply pw_below_drewN | apply below_drew1) | exact HB.out)) hb); clear HO544; clear HO548; clear HO552; clear HO556; clear HB; have HO544 := n0_; have HO548 := n1_; have HO552 := n2_; have HO556 := n3_; have HB := n4_; clear n0_ n1_ n2_ n3_ n4_; (try clear hb); (try clear hb2); (try clear hk); (try clear hi)) | ((with_reducible refine gate_callee (f := 35) rfl ?_); refine goesL_ (some 63) rfl rfl Try.func35 (by kernel_rfl) rfl #[.slice A0 l0.length c0, .slice none 0 0, .int .i64 1] rfl (by (try simp only [List.map_toArray, List.map_cons, List.map_nil]); first | done | rfl | (simp only [List.length_drop, List.length_take]; rfl)) ?_; (refine (gangsawref01_Set.calls kj4 _ _ l0 _ _ ([] : List (S23)) 1 t560 t561 _ ?side1 ?side2 ?side3 ?side4 A14.out).mono ?_); (case side1 => repeat (first | exact (Kd.C_below HR0.out HB.out) | (with_reducible refine Kd.C_alloc ?_ _) | (with_reducible refine Kd.C_drewN ?_ _) | (with_reducible refine Kd.C_drew ?_))); (case side2 => exact HC0.out); (case side3 => exact Kd.C_nil _ _); (case side4 => exact Nat.le_refl _); rintro e w24 ⟨v562, rfl, ho0, hb⟩; refine ⟨_, rfl, ?_⟩; have n0_ := Aside0.mk (Kd.R_elder' (by (with_reducible repeat (first | apply Kd.R_alloc | apply Kd.R_drewN | apply Kd.R_drew)); exact HO544.out) (Kd.R_base ho0) hb); have n1_ := Aside0.mk (Kd.R_elder' (by (with_reducible repeat (first | apply Kd.R_alloc | apply Kd.R_drewN | apply Kd.R_drew)); exact HO548.out) (Kd.R_base ho0) hb); have n2_ := Aside0.mk (Kd.R_elder' (by (with_reducible repeat (first | apply Kd.R_alloc | apply Kd.R_drewN | apply Kd.R_drew)); exact HO552.out) (Kd.R_base ho0) hb); have n3_ := Aside0.mk (Kd.R_elder' (by (with_reducible repeat (first | apply Kd.R_alloc | apply Kd.R_drewN | apply Kd.R_drew)); exact HO556.out) (Kd.R_base ho0) hb); have n4_ := Aside0.mk (Kd.R_lower (Kd.R_new' (Kd.R_new' (Kd.R_new' (Kd.R_new' ho0 (Kd.R_lt (by (with_reducible repeat (first | apply Kd.R_alloc | apply Kd.R_drewN | apply Kd.R_drew)); exact HO544.out))) (Kd.R_lt (by (with_reducible repeat (first | apply Kd.R_alloc | apply Kd.R_drewN | apply Kd.R_drew)); exact HO548.out))) (Kd.R_lt (by (with_reducible repeat (first | apply Kd.R_alloc | apply Kd.R_drewN | apply Kd.R_drew)); exact HO552.out))) (Kd.R_lt (by (with_reducible repeat (first | apply Kd.R_alloc | apply Kd.R_drewN | apply Kd.R_drew)); exact HO556.out))) (below_size (by repeat (first | (with_reducible first | exact HB.out | apply below_alloc | apply pw_below_drewN | apply below_drew1) | exact HB.out)))); have n5_ := Aside0.mk (below_step (by repeat (first | (with_reducible first | exact HB.out | apply below_alloc | apply pw_below_drewN | apply below_drew1) | exact HB.out)) hb); clear HO544; clear HO548; clear HO552; clear HO556; clear HB; have HO544 := n0_; have HO548 := n1_; have HO552 := n2_; have HO556 := n3_; have HO563 := n4_; have HB := n5_; clear n0_ n1_ n2_ n3_ n4_ n5_; (try clear hb); (try clear hb2); (try clear hk); (try clear hi); (try clear ho0)) | ((with_reducible refine gate_callee (f := 35) rfl ?_); refine goesL_ (some 69) rfl rfl Try.func35 (by kernel_rfl) rfl #[.slice A0 l0.length c0, .slice A1 l1.length c1, .int .i64 1] rfl (by (try simp only [List.map_toArray, List.map_cons, List.map_nil]); first | done | rfl | (simp only [List.length_drop, List.length_take]; rfl)) ?_; (with_reducible refine (gangsawref01_Set.calls kj4 _ _ l0 _ _ l1 1 t564 t565 _ ?side1 ?side2 ?side3 ?side4 A15.out).mono ?_); (case side1 => repeat (first | exact (Kd.C_below HR0.out HB.out) | (with_reducible refine Kd.C_alloc ?_ _) | (with_reducible refine Kd.C_drewN ?_ _) | (with_reducible refine Kd.C_drew ?_))); (case side2 => exact HC0.out); (case side3 => repeat (first | exact (Kd.C_below HR1.out HB.out) | (with_reducible refine Kd.C_alloc ?_ _) | (with_reducible refine Kd.C_drewN ?_ _) | (with_reducible refine Kd.C_drew ?_))); (case side4 => exact HC1.out); rintro e w25 ⟨v566, rfl, ho0, hb⟩; refine ⟨_, rfl, ?_⟩; have n0_ := Aside0.mk (Kd.R_elder' (by (with_reducible repeat (first | apply Kd.R_alloc | apply Kd.R_drewN | apply Kd.R_drew)); exact HO544.out) (Kd.R_base ho0) hb); have n1_ := Aside0.mk (Kd.R_elder' (by (with_reducible repeat (first | apply Kd.R_alloc | apply Kd.R_drewN | apply Kd.R_drew)); exact HO548.out) (Kd.R_base ho0) hb); have n2_ := Aside0.mk (Kd.R_elder' (by (with_reducible repeat (first | apply Kd.R_alloc | apply Kd.R_drewN | apply Kd.R_drew)); exact HO552.out) (Kd.R_base ho0) hb); have n3_ := Aside0.mk (Kd.R_elder' (by (with_reducible repeat (first | apply Kd.R_alloc | apply Kd.R_drewN | apply Kd.R_drew)); exact HO556.out) (Kd.R_base ho0) hb); have n4_ := Aside0.mk (Kd.R_elder' (by (with_reducible repeat (first | apply Kd.R_alloc | apply Kd.R_drewN | apply Kd.R_drew)); exact HO563.out) (Kd.R_base ho0) hb); have n5_ := Aside0.mk (Kd.R_lower (Kd.R_new' (Kd.R_new' (Kd.R_new' (Kd.R_new' (Kd.R_new' ho0 (Kd.R_lt (by (with_reducible repeat (first | apply Kd.R_alloc | apply Kd.R_drewN | apply Kd.R_drew)); exact HO544.out))) (Kd.R_lt (by (with_reducible repeat (first | apply Kd.R_alloc | apply Kd.R_drewN | apply Kd.R_drew)); exact HO548.out))) (Kd.R_lt (by (with_reducible repeat (first | apply Kd.R_alloc | apply Kd.R_drewN | apply Kd.R_drew)); exact HO552.out))) (Kd.R_lt (by (with_reducible repeat (first | apply Kd.R_alloc | apply Kd.R_drewN | apply Kd.R_drew)); exact HO556.out))) (Kd.R_lt (by (with_reducible repeat (first | apply Kd.R_alloc | apply Kd.R_drewN | apply Kd.R_drew)); exact HO563.out))) (below_size (by repeat (first | (with_reducible first | exact HB.out | apply below_alloc | apply pw_below_drewN | apply below_drew1) | exact HB.out)))); have n6_ := Aside0.mk (below_step (by repeat (first | (with_reducible first | exact HB.out | apply below_alloc | apply pw_below_drewN | apply below_drew1) | exact HB.out)) hb); clear HO544; clear HO548; clear HO552; clear HO556; clear HO563; clear HB; have HO544 := n0_; have HO548 := n1_; have HO552 := n2_; have HO556 := n3_; have HO563 := n4_; have HO567 := n5_; have HB := n6_; clear n0_ n1_ n2_ n3_ n4_ n5_ n6_; (try clear hb); (try clear hb2); (try clear hk); (try clear hi); (try clear ho0)) | ((with_reducible refine gate_callee (f := 35) rfl ?_); refine goesL_ (some 75) rfl rfl Try.func35 (by kernel_rfl) rfl #[.slice A0 l0.length c0, .slice A1 l1.length c1, .int .i64 2] rfl (by (try simp only [List.map_toArray, List.map_cons, List.map_nil]); first | done | rfl | (simp only [List.length_drop, List.length_take]; rfl)) ?_; (with_reducible refine (gangsawref01_Set.calls kj4 _ _ l0 _ _ l1 2 t568 t569 _ ?side1 ?side2 ?side3 ?side4 A16.out).mono ?_); (case side1 => repeat (first | exact (Kd.C_below HR0.out HB.out) | (with_reducible refine Kd.C_alloc ?_ _) | (with_reducible refine Kd.C_drewN ?_ _) | (with_reducible refine Kd.C_drew ?_))); (case side2 => exact HC0.out); (case side3 => repeat (first | exact (Kd.C_below HR1.out HB.out) | (with_reducible refine Kd.C_alloc ?_ _) | (with_reducible refine Kd.C_drewN ?_ _) | (with_reducible refine Kd.C_drew ?_))); (case side4 => exact HC1.out); rintro e w26 ⟨v570, rfl, ho0, hb⟩; refine ⟨_, rfl, ?_⟩; have n0_ := Aside0.mk (Kd.R_elder' (by (with_reducible repeat (first | apply Kd.R_alloc | apply Kd.R_drewN | apply Kd.R_drew)); exact HO544.out) (Kd.R_base ho0) hb); have n1_ := Aside0.mk (Kd.R_elder' (by (with_reducible repeat (first | apply Kd.R_alloc | apply Kd.R_drewN | apply Kd.R_drew)); exact HO548.out) (Kd.R_base ho0) hb); have n2_ := Aside0.mk (Kd.R_elder' (by (with_reducible repeat (first | apply Kd.R_alloc | apply Kd.R_drewN | apply Kd.R_drew)); exact HO552.out) (Kd.R_base ho0) hb); have n3_ := Aside0.mk (Kd.R_elder' (by (with_reducible repeat (first | apply Kd.R_alloc | apply Kd.R_drewN | apply Kd.R_drew)); exact HO556.out) (Kd.R_base ho0) hb); have n4_ := Aside0.mk (Kd.R_elder' (by (with_reducible repeat (first | apply Kd.R_alloc | apply Kd.R_drewN | apply Kd.R_drew)); exact HO563.out) (Kd.R_base ho0) hb); have n5_ := Aside0.mk (Kd.R_elder' (by (with_reducible repeat (first | apply Kd.R_alloc | apply Kd.R_drewN | apply Kd.R_drew)); exact HO567.out) (Kd.R_base ho0) hb); have n6_ := Aside0.mk (Kd.R_lower (Kd.R_new' (Kd.R_new' (Kd.R_new' (Kd.R_new' (Kd.R_new' (Kd.R_new' ho0 (Kd.R_lt (by (with_reducible repeat (first | apply Kd.R_alloc | apply Kd.R_drewN | apply Kd.R_drew)); exact HO544.out))) (Kd.R_lt (by (with_reducible repeat (first | apply Kd.R_alloc | apply Kd.R_drewN | apply Kd.R_drew)); exact HO548.out))) (Kd.R_lt (by (with_reducible repeat (first | apply Kd.R_alloc | apply Kd.R_drewN | apply Kd.R_drew)); exact HO552.out))) (Kd.R_lt (by (with_reducible repeat (first | apply Kd.R_alloc | apply Kd.R_drewN | apply Kd.R_drew)); exact HO556.out))) (Kd.R_lt (by (with_reducible repeat (first | apply Kd.R_alloc | apply Kd.R_drewN | apply Kd.R_drew)); exact HO563.out))) (Kd.R_lt (by (with_reducible repeat (first | apply Kd.R_alloc | apply Kd.R_drewN | apply Kd.R_drew)); exact HO567.out))) (below_size (by repeat (first | (with_reducible first | exact HB.out | apply below_alloc | apply pw_below_drewN | apply below_drew1) | exact HB.out)))); have n7_ := Aside0.mk (below_step (by repeat (first | (with_reducible first | exact HB.out | apply below_alloc | apply pw_below_drewN | apply below_drew1) | exact HB.out)) hb); clear HO544; clear HO548; clear HO552; clear HO556; clear HO563; clear HO567; clear HB; have HO544 := n0_; have HO548 := n1_; have HO552 := n2_; have HO556 := n3_; have HO563 := n4_; have HO567 := n5_; have HO571 := n6_; have HB := n7_; clear n0_ n1_ n2_ n3_ n4_ n5_ n6_ n7_; (try clear hb); (try clear hb2); (try clear hk); (try clear hi); (try clear ho0)) | ((with_reducible refine gate_callee (f := 35) rfl ?_); refine goesL_ (some 81) rfl rfl Try.func35 (by kernel_rfl) rfl #[.slice A0 l0.length c0, .slice A1 l1.length c1, .int .i64 3] rfl (by (try simp only [List.map_toArray, List.map_cons, List.map_nil]); first | done | rfl | (simp only [List.length_drop, List.length_take]; rfl)) ?_; (with_reducible refine (gangsawref01_Set.calls kj4 _ _ l0 _ _ l1 3 t572 t573 _ ?side1 ?side2 ?side3 ?side4 A17.out).mono ?_); (case side1 => repeat (first | exact (Kd.C_below HR0.out HB.out) | (with_reducible refine Kd.C_alloc ?_ _) | (with_reducible refine Kd.C_drewN ?_ _) | (with_reducible refine Kd.C_drew ?_))); (case side2 => exact HC0.out); (case side3 => repeat (first | exact (Kd.C_below HR1.out HB.out) | (with_reducible refine Kd.C_alloc ?_ _) | (with_reducible refine Kd.C_drewN ?_ _) | (with_reducible refine Kd.C_drew ?_))); (case side4 => exact HC1.out); rintro e w27 ⟨v574, rfl, ho0, hb⟩; refine ⟨_, rfl, ?_⟩; have n0_ := Aside0.mk (Kd.R_elder' (by (with_reducible repeat (first | apply Kd.R_alloc | apply Kd.R_drewN | apply Kd.R_drew)); exact HO544.out) (Kd.R_base ho0) hb); have n1_ := Aside0.mk (Kd.R_elder' (by (with_reducible repeat (first | apply Kd.R_alloc | apply Kd.R_drewN | apply Kd.R_drew)); exact HO548.out) (Kd.R_base ho0) hb); have n2_ := Aside0.mk (Kd.R_elder' (by (with_reducible repeat (first | apply Kd.R_alloc | apply Kd.R_drewN | apply Kd.R_drew)); exact HO552.out) (Kd.R_base ho0) hb); have n3_ := Aside0.mk (Kd.R_elder' (by (with_reducible repeat (first | apply Kd.R_alloc | apply Kd.R_drewN | apply Kd.R_drew)); exact HO556.out) (Kd.R_base ho0) hb); have n4_ := Aside0.mk (Kd.R_elder' (by (with_reducible repeat (first | apply Kd.R_alloc | apply Kd.R_drewN | apply Kd.R_drew)); exact HO563.out) (Kd.R_base ho0) hb); have n5_ := Aside0.mk (Kd.R_elder' (by (with_reducible repeat (first | apply Kd.R_alloc | apply Kd.R_drewN | apply Kd.R_drew)); exact HO567.out) (Kd.R_base ho0) hb); have n6_ := Aside0.mk (Kd.R_elder' (by (with_reducible repeat (first | apply Kd.R_alloc | apply Kd.R_drewN | apply Kd.R_drew)); exact HO571.out) (Kd.R_base ho0) hb); have n7_ := Aside0.mk (Kd.R_lower (Kd.R_new' (Kd.R_new' (Kd.R_new' (Kd.R_new' (Kd.R_new' (Kd.R_new' (Kd.R_new' ho0 (Kd.R_lt (by (with_reducible repeat (first | apply Kd.R_alloc | apply Kd.R_drewN | apply Kd.R_drew)); exact HO544.out))) (Kd.R_lt (by (with_reducible repeat (first | apply Kd.R_alloc | apply Kd.R_drewN | apply Kd.R_drew)); exact HO548.out))) (Kd.R_lt (by (with_reducible repeat (first | apply Kd.R_alloc | apply Kd.R_drewN | apply Kd.R_drew)); exact HO552.out))) (Kd.R_lt (by (with_reducible repeat (first | apply Kd.R_alloc | apply Kd.R_drewN | apply Kd.R_drew)); exact HO556.out))) (Kd.R_lt (by (with_reducible repeat (first | apply Kd.R_alloc | apply Kd.R_drewN | apply Kd.R_drew)); exact HO563.out))) (Kd.R_lt (by (with_reducible repeat (first | apply Kd.R_alloc | apply Kd.R_drewN | apply Kd.R_drew)); exact HO567.out))) (Kd.R_lt (by (with_reducible repeat (first | apply Kd.R_alloc | apply Kd.R_drewN | apply Kd.R_drew)); exact HO571.out))) (below_size (by repeat (first | (with_reducible first | exact HB.out | apply below_alloc | apply pw_below_drewN | apply below_drew1) | exact HB.out)))); have n8_ := Aside0.mk (below_step (by repeat (first | (with_reducible first | exact HB.out | apply below_alloc | apply pw_below_drewN | apply below_drew1) | exact HB.out)) hb); clear HO544; clear HO548; clear HO552; clear HO556; clear HO563; clear HO567; clear HO571; clear HB; have HO544 := n0_; have HO548 := n1_; have HO552 := n2_; have HO556 := n3_; have HO563 := n4_; have HO567 := n5_; have HO571 := n6_; have HO575 := n7_; have HB := n8_; clear n0_ n1_ n2_ n3_ n4_ n5_ n6_ n7_ n8_; (try clear hb); (try clear hb2); (try clear hk); (try clear hi); (try clear ho0)))
          (try simp only [Act.put, List.setIfInBounds_toArray, List.set_cons_zero, List.set_cons_succ])
          go_cut [4] (fun v4 wc => ∃ (kq : Nat) (x4_17 : Bool), v4 = .bool x4_17 ∧ Aside0 (gangsawlaw01_SpanSets.j1 kq x4_17 = some r) ∧ Aside0 (kq ≤ kj4) ∧ Aside0 (Below w.heap.size w wc))
          case first =>
            have H := HC18.out
            clear HC18
            replace H := Option.bind_eq_some_iff.mp H
            obtain ⟨t576, A280, H⟩ := H
            replace H : (if t576 = true then (if t545 = t561 then ((gangsawref01_Same.f kj4 t546 t564).bind fun t577 => (if t577 = true then (if t549 = t565 then ((gangsawref01_Same.f kj4 t550 t568).bind fun t578 => (if t578 = true then (if t553 = t569 then ((gangsawref01_Same.f kj4 t554 t572).bind fun t579 => (if t579 = true then (if t557 = t573 then ((gangsawref01_Count.f kj4 t560).bind fun t580 => (if t558 = t580 then (gangsawlaw01_SpanSets.j1 kj4 (t559 == t561)) else (gangsawlaw01_SpanSets.j1 kj4 false))) else (gangsawlaw01_SpanSets.j1 kj4 false)) else (gangsawlaw01_SpanSets.j1 kj4 false))) else (gangsawlaw01_SpanSets.j1 kj4 false)) else (gangsawlaw01_SpanSets.j1 kj4 false))) else (gangsawlaw01_SpanSets.j1 kj4 false)) else (gangsawlaw01_SpanSets.j1 kj4 false))) else (gangsawlaw01_SpanSets.j1 kj4 false)) else (gangsawlaw01_SpanSets.j1 kj4 false)) = some r := H
            have A28 := Aside0.mk A280
            clear A280
            by_cases c29 : t576 = true
            · subst c29
              have H1 : (if t545 = t561 then ((gangsawref01_Same.f kj4 t546 t564).bind fun t577 => (if t577 = true then (if t549 = t565 then ((gangsawref01_Same.f kj4 t550 t568).bind fun t578 => (if t578 = true then (if t553 = t569 then ((gangsawref01_Same.f kj4 t554 t572).bind fun t579 => (if t579 = true then (if t557 = t573 then ((gangsawref01_Count.f kj4 t560).bind fun t580 => (if t558 = t580 then (gangsawlaw01_SpanSets.j1 kj4 (t559 == t561)) else (gangsawlaw01_SpanSets.j1 kj4 false))) else (gangsawlaw01_SpanSets.j1 kj4 false)) else (gangsawlaw01_SpanSets.j1 kj4 false))) else (gangsawlaw01_SpanSets.j1 kj4 false)) else (gangsawlaw01_SpanSets.j1 kj4 false))) else (gangsawlaw01_SpanSets.j1 kj4 false)) else (gangsawlaw01_SpanSets.j1 kj4 false))) else (gangsawlaw01_SpanSets.j1 kj4 false)) = some r := by rw [if_pos rfl] at H; exact H
              clear H
              have H := H1
              clear H1
              by_cases c30 : t545 = t561
              · rw [if_pos c30] at H
                have c30b0 : (t545 == t561) = true := beq_iff_eq.mpr c30
                have c30b1 : (t545 != t561) = false := bne_eq_false_iff_eq.mpr c30
                clear c30
                (first | rw [c30b0] | (simp only [i64_w, i32_w]; rw [c30b0]) | skip)
                replace H := Option.bind_eq_some_iff.mp H
                obtain ⟨t577, A310, H⟩ := H
                replace H : (if t577 = true then (if t549 = t565 then ((gangsawref01_Same.f kj4 t550 t568).bind fun t578 => (if t578 = true then (if t553 = t569 then ((gangsawref01_Same.f kj4 t554 t572).bind fun t579 => (if t579 = true then (if t557 = t573 then ((gangsawref01_Count.f kj4 t560).bind fun t580 => (if t558 = t580 then (gangsawlaw01_SpanSets.j1 kj4 (t559 == t561)) else (gangsawlaw01_SpanSets.j1 kj4 false))) else (gangsawlaw01_SpanSets.j1 kj4 false)) else (gangsawlaw01_SpanSets.j1 kj4 false))) else (gangsawlaw01_SpanSets.j1 kj4 false)) else (gangsawlaw01_SpanSets.j1 kj4 false))) else (gangsawlaw01_SpanSets.j1 kj4 false)) else (gangsawlaw01_SpanSets.j1 kj4 false)) = some r := H
                have A31 := Aside0.mk A310
                clear A310
                by_cases c32 : t577 = true
                · subst c32
                  have H1 : (if t549 = t565 then ((gangsawref01_Same.f kj4 t550 t568).bind fun t578 => (if t578 = true then (if t553 = t569 then ((gangsawref01_Same.f kj4 t554 t572).bind fun t579 => (if t579 = true then (if t557 = t573 then ((gangsawref01_Count.f kj4 t560).bind fun t580 => (if t558 = t580 then (gangsawlaw01_SpanSets.j1 kj4 (t559 == t561)) else (gangsawlaw01_SpanSets.j1 kj4 false))) else (gangsawlaw01_SpanSets.j1 kj4 false)) else (gangsawlaw01_SpanSets.j1 kj4 false))) else (gangsawlaw01_SpanSets.j1 kj4 false)) else (gangsawlaw01_SpanSets.j1 kj4 false))) else (gangsawlaw01_SpanSets.j1 kj4 false)) = some r := by rw [if_pos rfl] at H; exact H
                  clear H
                  have H := H1
                  clear H1
                  by_cases c33 : t549 = t565
                  · rw [if_pos c33] at H
                    have c33b0 : (t549 == t565) = true := beq_iff_eq.mpr c33
                    have c33b1 : (t549 != t565) = false := bne_eq_false_iff_eq.mpr c33
                    clear c33
                    replace H := Option.bind_eq_some_iff.mp H
                    obtain ⟨t578, A340, H⟩ := H
                    replace H : (if t578 = true then (if t553 = t569 then ((gangsawref01_Same.f kj4 t554 t572).bind fun t579 => (if t579 = true then (if t557 = t573 then ((gangsawref01_Count.f kj4 t560).bind fun t580 => (if t558 = t580 then (gangsawlaw01_SpanSets.j1 kj4 (t559 == t561)) else (gangsawlaw01_SpanSets.j1 kj4 false))) else (gangsawlaw01_SpanSets.j1 kj4 false)) else (gangsawlaw01_SpanSets.j1 kj4 false))) else (gangsawlaw01_SpanSets.j1 kj4 false)) else (gangsawlaw01_SpanSets.j1 kj4 false)) = some r := H
                    have A34 := Aside0.mk A340
                    clear A340
                    by_cases c35 : t578 = true
                    · subst c35
                      have H1 : (if t553 = t569 then ((gangsawref01_Same.f kj4 t554 t572).bind fun t579 => (if t579 = true then (if t557 = t573 then ((gangsawref01_Count.f kj4 t560).bind fun t580 => (if t558 = t580 then (gangsawlaw01_SpanSets.j1 kj4 (t559 == t561)) else (gangsawlaw01_SpanSets.j1 kj4 false))) else (gangsawlaw01_SpanSets.j1 kj4 false)) else (gangsawlaw01_SpanSets.j1 kj4 false))) else (gangsawlaw01_SpanSets.j1 kj4 false)) = some r := by rw [if_pos rfl] at H; exact H
                      clear H
                      have H := H1
                      clear H1
                      by_cases c36 : t553 = t569
                      · rw [if_pos c36] at H
                        have c36b0 : (t553 == t569) = true := beq_iff_eq.mpr c36
                        have c36b1 : (t553 != t569) = false := bne_eq_false_iff_eq.mpr c36
                        clear c36
                        replace H := Option.bind_eq_some_iff.mp H
                        obtain ⟨t579, A370, H⟩ := H
                        replace H : (if t579 = true then (if t557 = t573 then ((gangsawref01_Count.f kj4 t560).bind fun t580 => (if t558 = t580 then (gangsawlaw01_SpanSets.j1 kj4 (t559 == t561)) else (gangsawlaw01_SpanSets.j1 kj4 false))) else (gangsawlaw01_SpanSets.j1 kj4 false)) else (gangsawlaw01_SpanSets.j1 kj4 false)) = some r := H
                        have A37 := Aside0.mk A370
                        clear A370
                        by_cases c38 : t579 = true
                        · subst c38
                          have H1 : (if t557 = t573 then ((gangsawref01_Count.f kj4 t560).bind fun t580 => (if t558 = t580 then (gangsawlaw01_SpanSets.j1 kj4 (t559 == t561)) else (gangsawlaw01_SpanSets.j1 kj4 false))) else (gangsawlaw01_SpanSets.j1 kj4 false)) = some r := by rw [if_pos rfl] at H; exact H
                          clear H
                          have H := H1
                          clear H1
                          by_cases c39 : t557 = t573
                          · rw [if_pos c39] at H
                            have c39b0 : (t557 == t573) = true := beq_iff_eq.mpr c39
                            have c39b1 : (t557 != t573) = false := bne_eq_false_iff_eq.mpr c39
                            clear c39
                            replace H := Option.bind_eq_some_iff.mp H
                            obtain ⟨t580, A400, H⟩ := H
                            replace H : (if t558 = t580 then (gangsawlaw01_SpanSets.j1 kj4 (t559 == t561)) else (gangsawlaw01_SpanSets.j1 kj4 false)) = some r := H
                            have A40 := Aside0.mk A400
                            clear A400
                            by_cases c41 : t558 = t580
                            · rw [if_pos c41] at H
                              have c41b0 : (t558 == t580) = true := beq_iff_eq.mpr c41
                              have c41b1 : (t558 != t580) = false := bne_eq_false_iff_eq.mpr c41
                              clear c41
                              have H' := Aside0.mk H
                              clear H
                              obtain ⟨Ao42, co42, eo42⟩ := Kd.R_slice HO544.out
                              subst eo42
                              obtain ⟨Ao43, co43, eo43⟩ := Kd.R_slice HO563.out
                              subst eo43
                              go_wp2_with (first | ((with_reducible refine gate_callee (f := 36) rfl ?_); refine goesL_ (some 86) rfl rfl Try.func36 (by kernel_rfl) rfl #[.slice Ao42 t542.length co42, .slice Ao43 t560.length co43] rfl (by (try simp only [List.map_toArray, List.map_cons, List.map_nil]); first | done | rfl | (simp only [List.length_drop, List.length_take]; rfl)) ?_; (with_reducible refine (gangsawref01_Same.calls kj4 _ _ t542 _ _ t560 true _ ?side1 ?side2 ?side3 ?side4 A28.out).mono ?_); (case side1 => repeat (first | exact (Kd.R_reads' HO544.out).2.2 | (with_reducible refine Kd.C_alloc ?_ _) | (with_reducible refine Kd.C_drewN ?_ _) | (with_reducible refine Kd.C_drew ?_))); (case side2 => exact (Kd.R_reads' HO544.out).2.1); (case side3 => repeat (first | exact (Kd.R_reads' HO563.out).2.2 | (with_reducible refine Kd.C_alloc ?_ _) | (with_reducible refine Kd.C_drewN ?_ _) | (with_reducible refine Kd.C_drew ?_))); (case side4 => exact (Kd.R_reads' HO563.out).2.1); rintro e w' ⟨rfl, ⟨nd, rfl⟩⟩; refine ⟨_, rfl, ?_⟩; obtain ⟨Ao44, co44, eo44⟩ := Kd.R_slice HO548.out; subst eo44; obtain ⟨Ao45, co45, eo45⟩ := Kd.R_slice HO567.out; subst eo45) | (go_at_call 36; (with_reducible refine (gangsawref01_Same.calls kj4 _ _ t546 _ _ t564 true _ ?side1 ?side2 ?side3 ?side4 A31.out).mono ?_); (case side1 => repeat (first | exact (Kd.R_reads' HO548.out).2.2 | (with_reducible refine Kd.C_alloc ?_ _) | (with_reducible refine Kd.C_drewN ?_ _) | (with_reducible refine Kd.C_drew ?_))); (case side2 => exact (Kd.R_reads' HO548.out).2.1); (case side3 => repeat (first | exact (Kd.R_reads' HO567.out).2.2 | (with_reducible refine Kd.C_alloc ?_ _) | (with_reducible refine Kd.C_drewN ?_ _) | (with_reducible refine Kd.C_drew ?_))); (case side4 => exact (Kd.R_reads' HO567.out).2.1); rintro e w' ⟨rfl, ⟨nd, rfl⟩⟩; obtain ⟨Ao46, co46, eo46⟩ := Kd.R_slice HO552.out; subst eo46; obtain ⟨Ao47, co47, eo47⟩ := Kd.R_slice HO571.out; subst eo47) | (go_at_call 36; (with_reducible refine (gangsawref01_Same.calls kj4 _ _ t550 _ _ t568 true _ ?side1 ?side2 ?side3 ?side4 A34.out).mono ?_); (case side1 => repeat (first | exact (Kd.R_reads' HO552.out).2.2 | (with_reducible refine Kd.C_alloc ?_ _) | (with_reducible refine Kd.C_drewN ?_ _) | (with_reducible refine Kd.C_drew ?_))); (case side2 => exact (Kd.R_reads' HO552.out).2.1); (case side3 => repeat (first | exact (Kd.R_reads' HO571.out).2.2 | (with_reducible refine Kd.C_alloc ?_ _) | (with_reducible refine Kd.C_drewN ?_ _) | (with_reducible refine Kd.C_drew ?_))); (case side4 => exact (Kd.R_reads' HO571.out).2.1); rintro e w' ⟨rfl, ⟨nd, rfl⟩⟩; obtain ⟨Ao48, co48, eo48⟩ := Kd.R_slice HO556.out; subst eo48; obtain ⟨Ao49, co49, eo49⟩ := Kd.R_slice HO575.out; subst eo49) | (go_at_call 36; (with_reducible refine (gangsawref01_Same.calls kj4 _ _ t554 _ _ t572 true _ ?side1 ?side2 ?side3 ?side4 A37.out).mono ?_); (case side1 => repeat (first | exact (Kd.R_reads' HO556.out).2.2 | (with_reducible refine Kd.C_alloc ?_ _) | (with_reducible refine Kd.C_drewN ?_ _) | (with_reducible refine Kd.C_drew ?_))); (case side2 => exact (Kd.R_reads' HO556.out).2.1); (case side3 => repeat (first | exact (Kd.R_reads' HO575.out).2.2 | (with_reducible refine Kd.C_alloc ?_ _) | (with_reducible refine Kd.C_drewN ?_ _) | (with_reducible refine Kd.C_drew ?_))); (case side4 => exact (Kd.R_reads' HO575.out).2.1); rintro e w' ⟨rfl, ⟨nd, rfl⟩⟩) | (go_at_call 37; (with_reducible refine (gangsawref01_Count.calls kj4 _ _ t560 t580 _ ?side1 ?side2 A40.out).mono ?_); (case side1 => repeat (first | exact (Kd.R_reads' HO563.out).2.2 | (with_reducible refine Kd.C_alloc ?_ _) | (with_reducible refine Kd.C_drewN ?_ _) | (with_reducible refine Kd.C_drew ?_))); (case side2 => exact (Kd.R_reads' HO563.out).2.1); rintro e w' ⟨rfl, ⟨nd, rfl⟩⟩))
                              go_meet
                              case rel => exact ⟨_, ((t559 == t561)), (by first | rfl | (simp; done) | (simp [*]; done)), H', ⟨by have := HJ4.out; first | omega | exact Nat.le_refl _⟩, ⟨by repeat (first | (with_reducible first | exact HB.out | apply below_alloc | apply pw_below_drewN | apply below_drew1) | exact HB.out)⟩⟩
                            · rw [if_neg c41] at H
                              have c41b0 : (t558 == t580) = false := beq_eq_false_iff_ne.mpr c41
                              have c41b1 : (t558 != t580) = true := bne_iff_ne.mpr c41
                              have H' := Aside0.mk H
                              clear H
                              obtain ⟨Ao50, co50, eo50⟩ := Kd.R_slice HO544.out
                              subst eo50
                              obtain ⟨Ao51, co51, eo51⟩ := Kd.R_slice HO563.out
                              subst eo51
                              go_wp2_with (first | ((with_reducible refine gate_callee (f := 36) rfl ?_); refine goesL_ (some 86) rfl rfl Try.func36 (by kernel_rfl) rfl #[.slice Ao50 t542.length co50, .slice Ao51 t560.length co51] rfl (by (try simp only [List.map_toArray, List.map_cons, List.map_nil]); first | done | rfl | (simp only [List.length_drop, List.length_take]; rfl)) ?_; (with_reducible refine (gangsawref01_Same.calls kj4 _ _ t542 _ _ t560 true _ ?side1 ?side2 ?side3 ?side4 A28.out).mono ?_); (case side1 => repeat (first | exact (Kd.R_reads' HO544.out).2.2 | (with_reducible refine Kd.C_alloc ?_ _) | (with_reducible refine Kd.C_drewN ?_ _) | (with_reducible refine Kd.C_drew ?_))); (case side2 => exact (Kd.R_reads' HO544.out).2.1); (case side3 => repeat (first | exact (Kd.R_reads' HO563.out).2.2 | (with_reducible refine Kd.C_alloc ?_ _) | (with_reducible refine Kd.C_drewN ?_ _) | (with_reducible refine Kd.C_drew ?_))); (case side4 => exact (Kd.R_reads' HO563.out).2.1); rintro e w' ⟨rfl, ⟨nd, rfl⟩⟩; refine ⟨_, rfl, ?_⟩; obtain ⟨Ao52, co52, eo52⟩ := Kd.R_slice HO548.out; subst eo52; obtain ⟨Ao53, co53, eo53⟩ := Kd.R_slice HO567.out; subst eo53) | (go_at_call 36; (with_reducible refine (gangsawref01_Same.calls kj4 _ _ t546 _ _ t564 true _ ?side1 ?side2 ?side3 ?side4 A31.out).mono ?_); (case side1 => repeat (first | exact (Kd.R_reads' HO548.out).2.2 | (with_reducible refine Kd.C_alloc ?_ _) | (with_reducible refine Kd.C_drewN ?_ _) | (with_reducible refine Kd.C_drew ?_))); (case side2 => exact (Kd.R_reads' HO548.out).2.1); (case side3 => repeat (first | exact (Kd.R_reads' HO567.out).2.2 | (with_reducible refine Kd.C_alloc ?_ _) | (with_reducible refine Kd.C_drewN ?_ _) | (with_reducible refine Kd.C_drew ?_))); (case side4 => exact (Kd.R_reads' HO567.out).2.1); rintro e w' ⟨rfl, ⟨nd, rfl⟩⟩; obtain ⟨Ao54, co54, eo54⟩ := Kd.R_slice HO552.out; subst eo54; obtain ⟨Ao55, co55, eo55⟩ := Kd.R_slice HO571.out; subst eo55) | (go_at_call 36; (with_reducible refine (gangsawref01_Same.calls kj4 _ _ t550 _ _ t568 true _ ?side1 ?side2 ?side3 ?side4 A34.out).mono ?_); (case side1 => repeat (first | exact (Kd.R_reads' HO552.out).2.2 | (with_reducible refine Kd.C_alloc ?_ _) | (with_reducible refine Kd.C_drewN ?_ _) | (with_reducible refine Kd.C_drew ?_))); (case side2 => exact (Kd.R_reads' HO552.out).2.1); (case side3 => repeat (first | exact (Kd.R_reads' HO571.out).2.2 | (with_reducible refine Kd.C_alloc ?_ _) | (with_reducible refine Kd.C_drewN ?_ _) | (with_reducible refine Kd.C_drew ?_))); (case side4 => exact (Kd.R_reads' HO571.out).2.1); rintro e w' ⟨rfl, ⟨nd, rfl⟩⟩; obtain ⟨Ao56, co56, eo56⟩ := Kd.R_slice HO556.out; subst eo56; obtain ⟨Ao57, co57, eo57⟩ := Kd.R_slice HO575.out; subst eo57) | (go_at_call 36; (with_reducible refine (gangsawref01_Same.calls kj4 _ _ t554 _ _ t572 true _ ?side1 ?side2 ?side3 ?side4 A37.out).mono ?_); (case side1 => repeat (first | exact (Kd.R_reads' HO556.out).2.2 | (with_reducible refine Kd.C_alloc ?_ _) | (with_reducible refine Kd.C_drewN ?_ _) | (with_reducible refine Kd.C_drew ?_))); (case side2 => exact (Kd.R_reads' HO556.out).2.1); (case side3 => repeat (first | exact (Kd.R_reads' HO575.out).2.2 | (with_reducible refine Kd.C_alloc ?_ _) | (with_reducible refine Kd.C_drewN ?_ _) | (with_reducible refine Kd.C_drew ?_))); (case side4 => exact (Kd.R_reads' HO575.out).2.1); rintro e w' ⟨rfl, ⟨nd, rfl⟩⟩) | (go_at_call 37; (with_reducible refine (gangsawref01_Count.calls kj4 _ _ t560 t580 _ ?side1 ?side2 A40.out).mono ?_); (case side1 => repeat (first | exact (Kd.R_reads' HO563.out).2.2 | (with_reducible refine Kd.C_alloc ?_ _) | (with_reducible refine Kd.C_drewN ?_ _) | (with_reducible refine Kd.C_drew ?_))); (case side2 => exact (Kd.R_reads' HO563.out).2.1); rintro e w' ⟨rfl, ⟨nd, rfl⟩⟩))
                              go_meet
                              case rel => exact ⟨_, (false), (by first | rfl | (simp; done) | (simp [*]; done)), H', ⟨by have := HJ4.out; first | omega | exact Nat.le_refl _⟩, ⟨by repeat (first | (with_reducible first | exact HB.out | apply below_alloc | apply pw_below_drewN | apply below_drew1) | exact HB.out)⟩⟩
                          · rw [if_neg c39] at H
                            have c39b0 : (t557 == t573) = false := beq_eq_false_iff_ne.mpr c39
                            have c39b1 : (t557 != t573) = true := bne_iff_ne.mpr c39
                            have H' := Aside0.mk H
                            clear H
                            obtain ⟨Ao58, co58, eo58⟩ := Kd.R_slice HO544.out
                            subst eo58
                            obtain ⟨Ao59, co59, eo59⟩ := Kd.R_slice HO563.out
                            subst eo59
                            go_wp2_with (first | ((with_reducible refine gate_callee (f := 36) rfl ?_); refine goesL_ (some 86) rfl rfl Try.func36 (by kernel_rfl) rfl #[.slice Ao58 t542.length co58, .slice Ao59 t560.length co59] rfl (by (try simp only [List.map_toArray, List.map_cons, List.map_nil]); first | done | rfl | (simp only [List.length_drop, List.length_take]; rfl)) ?_; (with_reducible refine (gangsawref01_Same.calls kj4 _ _ t542 _ _ t560 true _ ?side1 ?side2 ?side3 ?side4 A28.out).mono ?_); (case side1 => repeat (first | exact (Kd.R_reads' HO544.out).2.2 | (with_reducible refine Kd.C_alloc ?_ _) | (with_reducible refine Kd.C_drewN ?_ _) | (with_reducible refine Kd.C_drew ?_))); (case side2 => exact (Kd.R_reads' HO544.out).2.1); (case side3 => repeat (first | exact (Kd.R_reads' HO563.out).2.2 | (with_reducible refine Kd.C_alloc ?_ _) | (with_reducible refine Kd.C_drewN ?_ _) | (with_reducible refine Kd.C_drew ?_))); (case side4 => exact (Kd.R_reads' HO563.out).2.1); rintro e w' ⟨rfl, ⟨nd, rfl⟩⟩; refine ⟨_, rfl, ?_⟩; obtain ⟨Ao60, co60, eo60⟩ := Kd.R_slice HO548.out; subst eo60; obtain ⟨Ao61, co61, eo61⟩ := Kd.R_slice HO567.out; subst eo61) | (go_at_call 36; (with_reducible refine (gangsawref01_Same.calls kj4 _ _ t546 _ _ t564 true _ ?side1 ?side2 ?side3 ?side4 A31.out).mono ?_); (case side1 => repeat (first | exact (Kd.R_reads' HO548.out).2.2 | (with_reducible refine Kd.C_alloc ?_ _) | (with_reducible refine Kd.C_drewN ?_ _) | (with_reducible refine Kd.C_drew ?_))); (case side2 => exact (Kd.R_reads' HO548.out).2.1); (case side3 => repeat (first | exact (Kd.R_reads' HO567.out).2.2 | (with_reducible refine Kd.C_alloc ?_ _) | (with_reducible refine Kd.C_drewN ?_ _) | (with_reducible refine Kd.C_drew ?_))); (case side4 => exact (Kd.R_reads' HO567.out).2.1); rintro e w' ⟨rfl, ⟨nd, rfl⟩⟩; obtain ⟨Ao62, co62, eo62⟩ := Kd.R_slice HO552.out; subst eo62; obtain ⟨Ao63, co63, eo63⟩ := Kd.R_slice HO571.out; subst eo63) | (go_at_call 36; (with_reducible refine (gangsawref01_Same.calls kj4 _ _ t550 _ _ t568 true _ ?side1 ?side2 ?side3 ?side4 A34.out).mono ?_); (case side1 => repeat (first | exact (Kd.R_reads' HO552.out).2.2 | (with_reducible refine Kd.C_alloc ?_ _) | (with_reducible refine Kd.C_drewN ?_ _) | (with_reducible refine Kd.C_drew ?_))); (case side2 => exact (Kd.R_reads' HO552.out).2.1); (case side3 => repeat (first | exact (Kd.R_reads' HO571.out).2.2 | (with_reducible refine Kd.C_alloc ?_ _) | (with_reducible refine Kd.C_drewN ?_ _) | (with_reducible refine Kd.C_drew ?_))); (case side4 => exact (Kd.R_reads' HO571.out).2.1); rintro e w' ⟨rfl, ⟨nd, rfl⟩⟩; obtain ⟨Ao64, co64, eo64⟩ := Kd.R_slice HO556.out; subst eo64; obtain ⟨Ao65, co65, eo65⟩ := Kd.R_slice HO575.out; subst eo65) | (go_at_call 36; (with_reducible refine (gangsawref01_Same.calls kj4 _ _ t554 _ _ t572 true _ ?side1 ?side2 ?side3 ?side4 A37.out).mono ?_); (case side1 => repeat (first | exact (Kd.R_reads' HO556.out).2.2 | (with_reducible refine Kd.C_alloc ?_ _) | (with_reducible refine Kd.C_drewN ?_ _) | (with_reducible refine Kd.C_drew ?_))); (case side2 => exact (Kd.R_reads' HO556.out).2.1); (case side3 => repeat (first | exact (Kd.R_reads' HO575.out).2.2 | (with_reducible refine Kd.C_alloc ?_ _) | (with_reducible refine Kd.C_drewN ?_ _) | (with_reducible refine Kd.C_drew ?_))); (case side4 => exact (Kd.R_reads' HO575.out).2.1); rintro e w' ⟨rfl, ⟨nd, rfl⟩⟩))
                            go_meet
                            case rel => exact ⟨_, (false), (by first | rfl | (simp; done) | (simp [*]; done)), H', ⟨by have := HJ4.out; first | omega | exact Nat.le_refl _⟩, ⟨by repeat (first | (with_reducible first | exact HB.out | apply below_alloc | apply pw_below_drewN | apply below_drew1) | exact HB.out)⟩⟩
                        · replace c38 := Bool.eq_false_iff.mpr c38
                          subst c38
                          have H1 : (gangsawlaw01_SpanSets.j1 kj4 false) = some r := by rw [if_neg (show ¬ (false = true) by decide)] at H; exact H
                          clear H
                          have H := H1
                          clear H1
                          have H' := Aside0.mk H
                          clear H
                          obtain ⟨Ao66, co66, eo66⟩ := Kd.R_slice HO544.out
                          subst eo66
                          obtain ⟨Ao67, co67, eo67⟩ := Kd.R_slice HO563.out
                          subst eo67
                          go_wp2_with (first | ((with_reducible refine gate_callee (f := 36) rfl ?_); refine goesL_ (some 86) rfl rfl Try.func36 (by kernel_rfl) rfl #[.slice Ao66 t542.length co66, .slice Ao67 t560.length co67] rfl (by (try simp only [List.map_toArray, List.map_cons, List.map_nil]); first | done | rfl | (simp only [List.length_drop, List.length_take]; rfl)) ?_; (with_reducible refine (gangsawref01_Same.calls kj4 _ _ t542 _ _ t560 true _ ?side1 ?side2 ?side3 ?side4 A28.out).mono ?_); (case side1 => repeat (first | exact (Kd.R_reads' HO544.out).2.2 | (with_reducible refine Kd.C_alloc ?_ _) | (with_reducible refine Kd.C_drewN ?_ _) | (with_reducible refine Kd.C_drew ?_))); (case side2 => exact (Kd.R_reads' HO544.out).2.1); (case side3 => repeat (first | exact (Kd.R_reads' HO563.out).2.2 | (with_reducible refine Kd.C_alloc ?_ _) | (with_reducible refine Kd.C_drewN ?_ _) | (with_reducible refine Kd.C_drew ?_))); (case side4 => exact (Kd.R_reads' HO563.out).2.1); rintro e w' ⟨rfl, ⟨nd, rfl⟩⟩; refine ⟨_, rfl, ?_⟩; obtain ⟨Ao68, co68, eo68⟩ := Kd.R_slice HO548.out; subst eo68; obtain ⟨Ao69, co69, eo69⟩ := Kd.R_slice HO567.out; subst eo69) | (go_at_call 36; (with_reducible refine (gangsawref01_Same.calls kj4 _ _ t546 _ _ t564 true _ ?side1 ?side2 ?side3 ?side4 A31.out).mono ?_); (case side1 => repeat (first | exact (Kd.R_reads' HO548.out).2.2 | (with_reducible refine Kd.C_alloc ?_ _) | (with_reducible refine Kd.C_drewN ?_ _) | (with_reducible refine Kd.C_drew ?_))); (case side2 => exact (Kd.R_reads' HO548.out).2.1); (case side3 => repeat (first | exact (Kd.R_reads' HO567.out).2.2 | (with_reducible refine Kd.C_alloc ?_ _) | (with_reducible refine Kd.C_drewN ?_ _) | (with_reducible refine Kd.C_drew ?_))); (case side4 => exact (Kd.R_reads' HO567.out).2.1); rintro e w' ⟨rfl, ⟨nd, rfl⟩⟩; obtain ⟨Ao70, co70, eo70⟩ := Kd.R_slice HO552.out; subst eo70; obtain ⟨Ao71, co71, eo71⟩ := Kd.R_slice HO571.out; subst eo71) | (go_at_call 36; (with_reducible refine (gangsawref01_Same.calls kj4 _ _ t550 _ _ t568 true _ ?side1 ?side2 ?side3 ?side4 A34.out).mono ?_); (case side1 => repeat (first | exact (Kd.R_reads' HO552.out).2.2 | (with_reducible refine Kd.C_alloc ?_ _) | (with_reducible refine Kd.C_drewN ?_ _) | (with_reducible refine Kd.C_drew ?_))); (case side2 => exact (Kd.R_reads' HO552.out).2.1); (case side3 => repeat (first | exact (Kd.R_reads' HO571.out).2.2 | (with_reducible refine Kd.C_alloc ?_ _) | (with_reducible refine Kd.C_drewN ?_ _) | (with_reducible refine Kd.C_drew ?_))); (case side4 => exact (Kd.R_reads' HO571.out).2.1); rintro e w' ⟨rfl, ⟨nd, rfl⟩⟩; obtain ⟨Ao72, co72, eo72⟩ := Kd.R_slice HO556.out; subst eo72; obtain ⟨Ao73, co73, eo73⟩ := Kd.R_slice HO575.out; subst eo73) | (go_at_call 36; (with_reducible refine (gangsawref01_Same.calls kj4 _ _ t554 _ _ t572 false _ ?side1 ?side2 ?side3 ?side4 A37.out).mono ?_); (case side1 => repeat (first | exact (Kd.R_reads' HO556.out).2.2 | (with_reducible refine Kd.C_alloc ?_ _) | (with_reducible refine Kd.C_drewN ?_ _) | (with_reducible refine Kd.C_drew ?_))); (case side2 => exact (Kd.R_reads' HO556.out).2.1); (case side3 => repeat (first | exact (Kd.R_reads' HO575.out).2.2 | (with_reducible refine Kd.C_alloc ?_ _) | (with_reducible refine Kd.C_drewN ?_ _) | (with_reducible refine Kd.C_drew ?_))); (case side4 => exact (Kd.R_reads' HO575.out).2.1); rintro e w' ⟨rfl, ⟨nd, rfl⟩⟩))
                          go_meet
                          case rel => exact ⟨_, (false), (by first | rfl | (simp; done) | (simp [*]; done)), H', ⟨by have := HJ4.out; first | omega | exact Nat.le_refl _⟩, ⟨by repeat (first | (with_reducible first | exact HB.out | apply below_alloc | apply pw_below_drewN | apply below_drew1) | exact HB.out)⟩⟩
                      · rw [if_neg c36] at H
                        have c36b0 : (t553 == t569) = false := beq_eq_false_iff_ne.mpr c36
                        have c36b1 : (t553 != t569) = true := bne_iff_ne.mpr c36
                        have H' := Aside0.mk H
                        clear H
                        obtain ⟨Ao74, co74, eo74⟩ := Kd.R_slice HO544.out
                        subst eo74
                        obtain ⟨Ao75, co75, eo75⟩ := Kd.R_slice HO563.out
                        subst eo75
                        go_wp2_with (first | ((with_reducible refine gate_callee (f := 36) rfl ?_); refine goesL_ (some 86) rfl rfl Try.func36 (by kernel_rfl) rfl #[.slice Ao74 t542.length co74, .slice Ao75 t560.length co75] rfl (by (try simp only [List.map_toArray, List.map_cons, List.map_nil]); first | done | rfl | (simp only [List.length_drop, List.length_take]; rfl)) ?_; (with_reducible refine (gangsawref01_Same.calls kj4 _ _ t542 _ _ t560 true _ ?side1 ?side2 ?side3 ?side4 A28.out).mono ?_); (case side1 => repeat (first | exact (Kd.R_reads' HO544.out).2.2 | (with_reducible refine Kd.C_alloc ?_ _) | (with_reducible refine Kd.C_drewN ?_ _) | (with_reducible refine Kd.C_drew ?_))); (case side2 => exact (Kd.R_reads' HO544.out).2.1); (case side3 => repeat (first | exact (Kd.R_reads' HO563.out).2.2 | (with_reducible refine Kd.C_alloc ?_ _) | (with_reducible refine Kd.C_drewN ?_ _) | (with_reducible refine Kd.C_drew ?_))); (case side4 => exact (Kd.R_reads' HO563.out).2.1); rintro e w' ⟨rfl, ⟨nd, rfl⟩⟩; refine ⟨_, rfl, ?_⟩; obtain ⟨Ao76, co76, eo76⟩ := Kd.R_slice HO548.out; subst eo76; obtain ⟨Ao77, co77, eo77⟩ := Kd.R_slice HO567.out; subst eo77) | (go_at_call 36; (with_reducible refine (gangsawref01_Same.calls kj4 _ _ t546 _ _ t564 true _ ?side1 ?side2 ?side3 ?side4 A31.out).mono ?_); (case side1 => repeat (first | exact (Kd.R_reads' HO548.out).2.2 | (with_reducible refine Kd.C_alloc ?_ _) | (with_reducible refine Kd.C_drewN ?_ _) | (with_reducible refine Kd.C_drew ?_))); (case side2 => exact (Kd.R_reads' HO548.out).2.1); (case side3 => repeat (first | exact (Kd.R_reads' HO567.out).2.2 | (with_reducible refine Kd.C_alloc ?_ _) | (with_reducible refine Kd.C_drewN ?_ _) | (with_reducible refine Kd.C_drew ?_))); (case side4 => exact (Kd.R_reads' HO567.out).2.1); rintro e w' ⟨rfl, ⟨nd, rfl⟩⟩; obtain ⟨Ao78, co78, eo78⟩ := Kd.R_slice HO552.out; subst eo78; obtain ⟨Ao79, co79, eo79⟩ := Kd.R_slice HO571.out; subst eo79) | (go_at_call 36; (with_reducible refine (gangsawref01_Same.calls kj4 _ _ t550 _ _ t568 true _ ?side1 ?side2 ?side3 ?side4 A34.out).mono ?_); (case side1 => repeat (first | exact (Kd.R_reads' HO552.out).2.2 | (with_reducible refine Kd.C_alloc ?_ _) | (with_reducible refine Kd.C_drewN ?_ _) | (with_reducible refine Kd.C_drew ?_))); (case side2 => exact (Kd.R_reads' HO552.out).2.1); (case side3 => repeat (first | exact (Kd.R_reads' HO571.out).2.2 | (with_reducible refine Kd.C_alloc ?_ _) | (with_reducible refine Kd.C_drewN ?_ _) | (with_reducible refine Kd.C_drew ?_))); (case side4 => exact (Kd.R_reads' HO571.out).2.1); rintro e w' ⟨rfl, ⟨nd, rfl⟩⟩))
                        go_meet
                        case rel => exact ⟨_, (false), (by first | rfl | (simp; done) | (simp [*]; done)), H', ⟨by have := HJ4.out; first | omega | exact Nat.le_refl _⟩, ⟨by repeat (first | (with_reducible first | exact HB.out | apply below_alloc | apply pw_below_drewN | apply below_drew1) | exact HB.out)⟩⟩
                    · replace c35 := Bool.eq_false_iff.mpr c35
                      subst c35
                      have H1 : (gangsawlaw01_SpanSets.j1 kj4 false) = some r := by rw [if_neg (show ¬ (false = true) by decide)] at H; exact H
                      clear H
                      have H := H1
                      clear H1
                      have H' := Aside0.mk H
                      clear H
                      obtain ⟨Ao80, co80, eo80⟩ := Kd.R_slice HO544.out
                      subst eo80
                      obtain ⟨Ao81, co81, eo81⟩ := Kd.R_slice HO563.out
                      subst eo81
                      go_wp2_with (first | ((with_reducible refine gate_callee (f := 36) rfl ?_); refine goesL_ (some 86) rfl rfl Try.func36 (by kernel_rfl) rfl #[.slice Ao80 t542.length co80, .slice Ao81 t560.length co81] rfl (by (try simp only [List.map_toArray, List.map_cons, List.map_nil]); first | done | rfl | (simp only [List.length_drop, List.length_take]; rfl)) ?_; (with_reducible refine (gangsawref01_Same.calls kj4 _ _ t542 _ _ t560 true _ ?side1 ?side2 ?side3 ?side4 A28.out).mono ?_); (case side1 => repeat (first | exact (Kd.R_reads' HO544.out).2.2 | (with_reducible refine Kd.C_alloc ?_ _) | (with_reducible refine Kd.C_drewN ?_ _) | (with_reducible refine Kd.C_drew ?_))); (case side2 => exact (Kd.R_reads' HO544.out).2.1); (case side3 => repeat (first | exact (Kd.R_reads' HO563.out).2.2 | (with_reducible refine Kd.C_alloc ?_ _) | (with_reducible refine Kd.C_drewN ?_ _) | (with_reducible refine Kd.C_drew ?_))); (case side4 => exact (Kd.R_reads' HO563.out).2.1); rintro e w' ⟨rfl, ⟨nd, rfl⟩⟩; refine ⟨_, rfl, ?_⟩; obtain ⟨Ao82, co82, eo82⟩ := Kd.R_slice HO548.out; subst eo82; obtain ⟨Ao83, co83, eo83⟩ := Kd.R_slice HO567.out; subst eo83) | (go_at_call 36; (with_reducible refine (gangsawref01_Same.calls kj4 _ _ t546 _ _ t564 true _ ?side1 ?side2 ?side3 ?side4 A31.out).mono ?_); (case side1 => repeat (first | exact (Kd.R_reads' HO548.out).2.2 | (with_reducible refine Kd.C_alloc ?_ _) | (with_reducible refine Kd.C_drewN ?_ _) | (with_reducible refine Kd.C_drew ?_))); (case side2 => exact (Kd.R_reads' HO548.out).2.1); (case side3 => repeat (first | exact (Kd.R_reads' HO567.out).2.2 | (with_reducible refine Kd.C_alloc ?_ _) | (with_reducible refine Kd.C_drewN ?_ _) | (with_reducible refine Kd.C_drew ?_))); (case side4 => exact (Kd.R_reads' HO567.out).2.1); rintro e w' ⟨rfl, ⟨nd, rfl⟩⟩; obtain ⟨Ao84, co84, eo84⟩ := Kd.R_slice HO552.out; subst eo84; obtain ⟨Ao85, co85, eo85⟩ := Kd.R_slice HO571.out; subst eo85) | (go_at_call 36; (with_reducible refine (gangsawref01_Same.calls kj4 _ _ t550 _ _ t568 false _ ?side1 ?side2 ?side3 ?side4 A34.out).mono ?_); (case side1 => repeat (first | exact (Kd.R_reads' HO552.out).2.2 | (with_reducible refine Kd.C_alloc ?_ _) | (with_reducible refine Kd.C_drewN ?_ _) | (with_reducible refine Kd.C_drew ?_))); (case side2 => exact (Kd.R_reads' HO552.out).2.1); (case side3 => repeat (first | exact (Kd.R_reads' HO571.out).2.2 | (with_reducible refine Kd.C_alloc ?_ _) | (with_reducible refine Kd.C_drewN ?_ _) | (with_reducible refine Kd.C_drew ?_))); (case side4 => exact (Kd.R_reads' HO571.out).2.1); rintro e w' ⟨rfl, ⟨nd, rfl⟩⟩))
                      go_meet
                      case rel => exact ⟨_, (false), (by first | rfl | (simp; done) | (simp [*]; done)), H', ⟨by have := HJ4.out; first | omega | exact Nat.le_refl _⟩, ⟨by repeat (first | (with_reducible first | exact HB.out | apply below_alloc | apply pw_below_drewN | apply below_drew1) | exact HB.out)⟩⟩
                  · rw [if_neg c33] at H
                    have c33b0 : (t549 == t565) = false := beq_eq_false_iff_ne.mpr c33
                    have c33b1 : (t549 != t565) = true := bne_iff_ne.mpr c33
                    have H' := Aside0.mk H
                    clear H
                    obtain ⟨Ao86, co86, eo86⟩ := Kd.R_slice HO544.out
                    subst eo86
                    obtain ⟨Ao87, co87, eo87⟩ := Kd.R_slice HO563.out
                    subst eo87
                    go_wp2_with (first | ((with_reducible refine gate_callee (f := 36) rfl ?_); refine goesL_ (some 86) rfl rfl Try.func36 (by kernel_rfl) rfl #[.slice Ao86 t542.length co86, .slice Ao87 t560.length co87] rfl (by (try simp only [List.map_toArray, List.map_cons, List.map_nil]); first | done | rfl | (simp only [List.length_drop, List.length_take]; rfl)) ?_; (with_reducible refine (gangsawref01_Same.calls kj4 _ _ t542 _ _ t560 true _ ?side1 ?side2 ?side3 ?side4 A28.out).mono ?_); (case side1 => repeat (first | exact (Kd.R_reads' HO544.out).2.2 | (with_reducible refine Kd.C_alloc ?_ _) | (with_reducible refine Kd.C_drewN ?_ _) | (with_reducible refine Kd.C_drew ?_))); (case side2 => exact (Kd.R_reads' HO544.out).2.1); (case side3 => repeat (first | exact (Kd.R_reads' HO563.out).2.2 | (with_reducible refine Kd.C_alloc ?_ _) | (with_reducible refine Kd.C_drewN ?_ _) | (with_reducible refine Kd.C_drew ?_))); (case side4 => exact (Kd.R_reads' HO563.out).2.1); rintro e w' ⟨rfl, ⟨nd, rfl⟩⟩; refine ⟨_, rfl, ?_⟩; obtain ⟨Ao88, co88, eo88⟩ := Kd.R_slice HO548.out; subst eo88; obtain ⟨Ao89, co89, eo89⟩ := Kd.R_slice HO567.out; subst eo89) | (go_at_call 36; (with_reducible refine (gangsawref01_Same.calls kj4 _ _ t546 _ _ t564 true _ ?side1 ?side2 ?side3 ?side4 A31.out).mono ?_); (case side1 => repeat (first | exact (Kd.R_reads' HO548.out).2.2 | (with_reducible refine Kd.C_alloc ?_ _) | (with_reducible refine Kd.C_drewN ?_ _) | (with_reducible refine Kd.C_drew ?_))); (case side2 => exact (Kd.R_reads' HO548.out).2.1); (case side3 => repeat (first | exact (Kd.R_reads' HO567.out).2.2 | (with_reducible refine Kd.C_alloc ?_ _) | (with_reducible refine Kd.C_drewN ?_ _) | (with_reducible refine Kd.C_drew ?_))); (case side4 => exact (Kd.R_reads' HO567.out).2.1); rintro e w' ⟨rfl, ⟨nd, rfl⟩⟩))
                    go_meet
                    case rel => exact ⟨_, (false), (by first | rfl | (simp; done) | (simp [*]; done)), H', ⟨by have := HJ4.out; first | omega | exact Nat.le_refl _⟩, ⟨by repeat (first | (with_reducible first | exact HB.out | apply below_alloc | apply pw_below_drewN | apply below_drew1) | exact HB.out)⟩⟩
                · replace c32 := Bool.eq_false_iff.mpr c32
                  subst c32
                  have H1 : (gangsawlaw01_SpanSets.j1 kj4 false) = some r := by rw [if_neg (show ¬ (false = true) by decide)] at H; exact H
                  clear H
                  have H := H1
                  clear H1
                  have H' := Aside0.mk H
                  clear H
                  obtain ⟨Ao90, co90, eo90⟩ := Kd.R_slice HO544.out
                  subst eo90
                  obtain ⟨Ao91, co91, eo91⟩ := Kd.R_slice HO563.out
                  subst eo91
                  go_wp2_with (first | ((with_reducible refine gate_callee (f := 36) rfl ?_); refine goesL_ (some 86) rfl rfl Try.func36 (by kernel_rfl) rfl #[.slice Ao90 t542.length co90, .slice Ao91 t560.length co91] rfl (by (try simp only [List.map_toArray, List.map_cons, List.map_nil]); first | done | rfl | (simp only [List.length_drop, List.length_take]; rfl)) ?_; (with_reducible refine (gangsawref01_Same.calls kj4 _ _ t542 _ _ t560 true _ ?side1 ?side2 ?side3 ?side4 A28.out).mono ?_); (case side1 => repeat (first | exact (Kd.R_reads' HO544.out).2.2 | (with_reducible refine Kd.C_alloc ?_ _) | (with_reducible refine Kd.C_drewN ?_ _) | (with_reducible refine Kd.C_drew ?_))); (case side2 => exact (Kd.R_reads' HO544.out).2.1); (case side3 => repeat (first | exact (Kd.R_reads' HO563.out).2.2 | (with_reducible refine Kd.C_alloc ?_ _) | (with_reducible refine Kd.C_drewN ?_ _) | (with_reducible refine Kd.C_drew ?_))); (case side4 => exact (Kd.R_reads' HO563.out).2.1); rintro e w' ⟨rfl, ⟨nd, rfl⟩⟩; refine ⟨_, rfl, ?_⟩; obtain ⟨Ao92, co92, eo92⟩ := Kd.R_slice HO548.out; subst eo92; obtain ⟨Ao93, co93, eo93⟩ := Kd.R_slice HO567.out; subst eo93) | (go_at_call 36; (with_reducible refine (gangsawref01_Same.calls kj4 _ _ t546 _ _ t564 false _ ?side1 ?side2 ?side3 ?side4 A31.out).mono ?_); (case side1 => repeat (first | exact (Kd.R_reads' HO548.out).2.2 | (with_reducible refine Kd.C_alloc ?_ _) | (with_reducible refine Kd.C_drewN ?_ _) | (with_reducible refine Kd.C_drew ?_))); (case side2 => exact (Kd.R_reads' HO548.out).2.1); (case side3 => repeat (first | exact (Kd.R_reads' HO567.out).2.2 | (with_reducible refine Kd.C_alloc ?_ _) | (with_reducible refine Kd.C_drewN ?_ _) | (with_reducible refine Kd.C_drew ?_))); (case side4 => exact (Kd.R_reads' HO567.out).2.1); rintro e w' ⟨rfl, ⟨nd, rfl⟩⟩))
                  go_meet
                  case rel => exact ⟨_, (false), (by first | rfl | (simp; done) | (simp [*]; done)), H', ⟨by have := HJ4.out; first | omega | exact Nat.le_refl _⟩, ⟨by repeat (first | (with_reducible first | exact HB.out | apply below_alloc | apply pw_below_drewN | apply below_drew1) | exact HB.out)⟩⟩
              · rw [if_neg c30] at H
                have c30b0 : (t545 == t561) = false := beq_eq_false_iff_ne.mpr c30
                have c30b1 : (t545 != t561) = true := bne_iff_ne.mpr c30
                (first | rw [c30b0] | (simp only [i64_w, i32_w]; rw [c30b0]) | skip)
                have H' := Aside0.mk H
                clear H
                obtain ⟨Ao94, co94, eo94⟩ := Kd.R_slice HO544.out
                subst eo94
                obtain ⟨Ao95, co95, eo95⟩ := Kd.R_slice HO563.out
                subst eo95
                go_wp2_with (first | ((with_reducible refine gate_callee (f := 36) rfl ?_); refine goesL_ (some 86) rfl rfl Try.func36 (by kernel_rfl) rfl #[.slice Ao94 t542.length co94, .slice Ao95 t560.length co95] rfl (by (try simp only [List.map_toArray, List.map_cons, List.map_nil]); first | done | rfl | (simp only [List.length_drop, List.length_take]; rfl)) ?_; (with_reducible refine (gangsawref01_Same.calls kj4 _ _ t542 _ _ t560 true _ ?side1 ?side2 ?side3 ?side4 A28.out).mono ?_); (case side1 => repeat (first | exact (Kd.R_reads' HO544.out).2.2 | (with_reducible refine Kd.C_alloc ?_ _) | (with_reducible refine Kd.C_drewN ?_ _) | (with_reducible refine Kd.C_drew ?_))); (case side2 => exact (Kd.R_reads' HO544.out).2.1); (case side3 => repeat (first | exact (Kd.R_reads' HO563.out).2.2 | (with_reducible refine Kd.C_alloc ?_ _) | (with_reducible refine Kd.C_drewN ?_ _) | (with_reducible refine Kd.C_drew ?_))); (case side4 => exact (Kd.R_reads' HO563.out).2.1); rintro e w' ⟨rfl, ⟨nd, rfl⟩⟩; refine ⟨_, rfl, ?_⟩))
                go_meet
                case rel => exact ⟨_, (false), (by first | rfl | (simp; done) | (simp [*]; done)), H', ⟨by have := HJ4.out; first | omega | exact Nat.le_refl _⟩, ⟨by repeat (first | (with_reducible first | exact HB.out | apply below_alloc | apply pw_below_drewN | apply below_drew1) | exact HB.out)⟩⟩
            · replace c29 := Bool.eq_false_iff.mpr c29
              subst c29
              have H1 : (gangsawlaw01_SpanSets.j1 kj4 false) = some r := by rw [if_neg (show ¬ (false = true) by decide)] at H; exact H
              clear H
              have H := H1
              clear H1
              have H' := Aside0.mk H
              clear H
              obtain ⟨Ao96, co96, eo96⟩ := Kd.R_slice HO544.out
              subst eo96
              obtain ⟨Ao97, co97, eo97⟩ := Kd.R_slice HO563.out
              subst eo97
              go_wp2_with (first | ((with_reducible refine gate_callee (f := 36) rfl ?_); refine goesL_ (some 86) rfl rfl Try.func36 (by kernel_rfl) rfl #[.slice Ao96 t542.length co96, .slice Ao97 t560.length co97] rfl (by (try simp only [List.map_toArray, List.map_cons, List.map_nil]); first | done | rfl | (simp only [List.length_drop, List.length_take]; rfl)) ?_; (with_reducible refine (gangsawref01_Same.calls kj4 _ _ t542 _ _ t560 false _ ?side1 ?side2 ?side3 ?side4 A28.out).mono ?_); (case side1 => repeat (first | exact (Kd.R_reads' HO544.out).2.2 | (with_reducible refine Kd.C_alloc ?_ _) | (with_reducible refine Kd.C_drewN ?_ _) | (with_reducible refine Kd.C_drew ?_))); (case side2 => exact (Kd.R_reads' HO544.out).2.1); (case side3 => repeat (first | exact (Kd.R_reads' HO563.out).2.2 | (with_reducible refine Kd.C_alloc ?_ _) | (with_reducible refine Kd.C_drewN ?_ _) | (with_reducible refine Kd.C_drew ?_))); (case side4 => exact (Kd.R_reads' HO563.out).2.1); rintro e w' ⟨rfl, ⟨nd, rfl⟩⟩; refine ⟨_, rfl, ?_⟩))
              go_meet
              case rel => exact ⟨_, (false), (by first | rfl | (simp; done) | (simp [*]; done)), H', ⟨by have := HJ4.out; first | omega | exact Nat.le_refl _⟩, ⟨by repeat (first | (with_reducible first | exact HB.out | apply below_alloc | apply pw_below_drewN | apply below_drew1) | exact HB.out)⟩⟩
          case rest =>
            clear HC18
            try clear c1
            try clear c2
            try clear p2
            try clear c3
            try clear c4
            try clear c7
            try clear c7b0
            try clear c7b1
            try clear c8
            try clear c10
            try clear c29
            try clear c30
            try clear c30b0
            try clear c30b1
            try clear c31
            try clear c32
            try clear c33
            try clear c33b0
            try clear c33b1
            try clear c34
            try clear c35
            try clear c36
            try clear c36b0
            try clear c36b1
            try clear c38
            try clear c39
            try clear c39b0
            try clear c39b1
            try clear c41
            try clear c41b0
            try clear c41b1
            try clear p2
            obtain ⟨kq, x4_17, rfl, HA, HJ17, HB⟩ := hcut
            cases kq with
            | zero => exact absurd HA.out (by simp [gangsawlaw01_SpanSets.j1])
            | succ kj17 =>
              have H := HA.out
              clear HA
              simp only [gangsawlaw01_SpanSets.j1] at H
              obtain rfl := Option.some.inj H
              go_wp2
              go_ret
              exact ⟨by first | rfl | (simp [errW_none, errW_some] <;> rfl) | (simp [*, errW_none, errW_some] <;> rfl), by repeat (first | (with_reducible first | exact HB.out | apply below_alloc | apply pw_below_drewN | apply below_drew1) | exact HB.out)⟩
  · replace c4 := Bool.eq_false_iff.mpr c4
    subst c4
    have H1 : (some false) = some r := by rw [if_neg (show ¬ (false = true) by decide)] at H; exact H
    clear H
    have H := H1
    clear H1
    obtain rfl := Option.some.inj H
    go_enter Try.func7, Try.ntmps7
    go_wp2_with (first | ((with_reducible refine gate_callee (f := 10) rfl ?_); refine goesL_ (some 23) rfl rfl Try.func10 (by kernel_rfl) rfl #[] rfl (by (try simp only [List.map_toArray, List.map_cons, List.map_nil]); first | done | rfl | (simp only [List.length_drop, List.length_take]; rfl)) ?_; (with_reducible refine (gangsawlaw01_awake.calls k  false _ A3.out).mono ?_); rintro e w98 ⟨rfl, hb⟩; refine ⟨_, rfl, ?_⟩; have n0_ := Aside0.mk (below_step (by repeat (first | (with_reducible first | exact HB.out | apply below_alloc | apply pw_below_drewN | apply below_drew1) | exact HB.out)) hb); clear HB; have HB := n0_; clear n0_; (try clear hb); (try clear hb2); (try clear hk); (try clear hi)))
    go_ret
    exact ⟨by first | rfl | (simp [errW_none, errW_some] <;> rfl) | (simp [*, errW_none, errW_some] <;> rfl), by repeat (first | (with_reducible first | exact HB.out | apply below_alloc | apply pw_below_drewN | apply below_drew1) | exact HB.out)⟩

/-- THE ONE PURE STATEMENT of gangsawlaw01_SpanSets. -/
def gangsawlaw01_SpanSets.Pure : Prop := ∀ (l0 : List (S23)) (l1 : List (S23)), (l0.length ≤ maxLen ∧ ∀ e4_, e4_ ∈ l0 → okS23 e4_) → (l1.length ≤ maxLen ∧ ∀ e5_, e5_ ∈ l1 → okS23 e5_) → ∃ k, gangsawlaw01_SpanSets.f k l0 l1 = some true
theorem gangsawlaw01_SpanSets.walk (P_ : gangsawlaw01_SpanSets.Pure) (A0 : Option Addr) (c0 : Nat) (l0 : List (S23)) (A1 : Option Addr) (c1 : Nat) (l1 : List (S23)) (w : World) (hr0 : Kd.C k23 w A0 l0.length l0) (hc0 : l0.length ≤ c0) (hr1 : Kd.C k23 w A1 l1.length l1) (hc1 : l1.length ≤ c1) (o0 : (l0.length ≤ maxLen ∧ ∀ e4_, e4_ ∈ l0 → okS23 e4_)) (o1 : (l1.length ≤ maxLen ∧ ∀ e5_, e5_ ∈ l1 → okS23 e5_)) :
    Calls Try.prog 7 #[.slice A0 l0.length c0, .slice A1 l1.length c1] w fun e w' => e = .returned (.bool true) ∧ Below w.heap.size w w' := by
  obtain ⟨k, h⟩ := P_ l0 l1 o0 o1
  refine (gangsawlaw01_SpanSets.calls k A0 c0 l0 A1 c1 l1 true w hr0 hc0 hr1 hc1 h).mono ?_
  rintro e w' ⟨rfl, hd⟩
  exact ⟨rfl, hd⟩

end Go.Proofs.Ytedhcdganddiiaa.QA
