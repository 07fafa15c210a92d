import Derived.Test.YtedhcdganddiiaaCMQAx0
import Derived.Test.YtedhcdganddiiaaCMQAx4
import Derived.Test.YtedhcdganddiiaaCMQAx11
import Derived.Test.YtedhcdganddiiaaCMQAx12
-- Written by a program of this session (wip/tools) out of the translation; Lean checks it.
namespace Go.Proofs.Ytedhcdganddiiaa.QA
open Go.RowKit Go.Proofs.YtedhcdganddiiaaW.PrintWords Go.Proofs.YtedhcdganddiiaaW.PrintLast Go.Proofs.YtedhcdganddiiaaW.PrintMore
attribute [local go_sem] max2_int min2_int max_two min_two max_three min_three max_four min_four
set_option linter.unusedVariables false
set_option linter.unusedSimpArgs false

mutual
def gangsawlaw01_normal.l0 : Nat → List (S23) → Int → Option (Bool)
  | 0, _, _ => none
  | k + 1, x0, x3 => if x3 < (x0.length : Int) then (if 0 ≤ x3 then (if ((rd_T23 x0 x3).f0) > ((rd_T23 x0 x3).f1) then (gangsawlaw01_normal.j1 k x0 x3 true) else (if x3 > 0 then (if 0 ≤ (wrap64 (x3 - 1)) then (if (wrap64 (x3 - 1)) < (x0.length : Int) then (gangsawlaw01_normal.j1 k x0 x3 (decide (((rd_T23 x0 x3).f0) < (wrap64 (((rd_T23 x0 (wrap64 (x3 - 1))).f1) + 2))))) else (none)) else (none)) else (gangsawlaw01_normal.j1 k x0 x3 false))) else (none)) else (some true)
def gangsawlaw01_normal.j1 : Nat → List (S23) → Int → Bool → Option (Bool)
  | 0, _, _, _ => none
  | k + 1, x0, x3, x39 => if x39 = true then (some false) else (gangsawlaw01_normal.l0 k x0 (wrap64 (x3 + 1)))
end
def gangsawlaw01_normal.f (k : Nat) (l0 : List (S23)) : Option (Bool) := gangsawlaw01_normal.l0 k l0 0
set_option maxHeartbeats 8000000 in
set_option maxRecDepth 100000 in
theorem gangsawlaw01_normal.calls (k : Nat) (A0 : Option Addr) (c0 : Nat) (l0 : List (S23)) (r : Bool) (w : World) (hr0 : Kd.C k23 w A0 l0.length l0) (hc0 : l0.length ≤ c0) (h : gangsawlaw01_normal.f k l0 = some r) :
    Calls Try.prog 39 #[.slice A0 l0.length c0] w fun e w' => e = .returned (.bool r) ∧ Drawn0 w w' := by
  have HR0 := Aside0.mk hr0
  have HC0 := Aside0.mk hc0
  clear hr0 hc0
  have H : (gangsawlaw01_normal.l0 k l0 0) = some r := h
  clear h
  have H' := Aside0.mk H
  clear H
  go_enter Try.func39, Try.ntmps39
  go_wp2
  repeat (go_quiet (fail); try go_wp2)
  go_loopg [3] k (fun kq v3 w' => ∃ (x3_1 : Int), v3 = .int .i64 x3_1 ∧ Aside0 (gangsawlaw01_normal.l0 kq l0 x3_1 = some r) ∧ Aside0 (kq ≤ k) ∧ Drawn0 w w')
  case atStart => exact ⟨(0), (by first | rfl | (simp; done) | (simp [*]; done)), H', ⟨Nat.le_refl _⟩, by repeat (first | exact Drawn0.refl _ | apply Drawn0.step)⟩
  case round =>
    clear H'
    obtain ⟨x3_1, rfl, HA, HK1, ⟨m1, rfl⟩⟩ := hrel
    cases gk with
    | zero => exact absurd HA.out (by simp [gangsawlaw01_normal.l0])
    | succ k1 =>
      have H := HA.out
      clear HA
      simp only [gangsawlaw01_normal.l0] at H
      by_cases c2 : x3_1 < (l0.length : Int)
      · rw [if_pos c2] at H
        have c2b0 : decide (x3_1 < (l0.length : Int)) = true := decide_eq_true c2
        clear c2
        have HC3 := Aside0.mk H
        clear H
        go_upto_region 4 with (fail)
        repeat (go_quiet (fail); go_upto_region 4 with (fail))
        go_cut [39] (fun v39 wc => ∃ (kq : Nat) (x39_2 : Bool), v39 = .bool x39_2 ∧ Aside0 (gangsawlaw01_normal.j1 kq l0 x3_1 x39_2 = some r) ∧ Aside0 (kq ≤ k1) ∧ Drawn0 w wc)
        case first =>
          have H := HC3.out
          clear HC3
          by_cases c4 : 0 ≤ x3_1
          · rw [if_pos c4] at H
            have c4b0 : decide (0 ≤ x3_1) = true := decide_eq_true c4
            clear c4
            (first | rw [c4b0] | (simp only [i64_w, i32_w]; rw [c4b0]) | skip)
            by_cases c5 : ((rd_T23 l0 x3_1).f0) > ((rd_T23 l0 x3_1).f1)
            · rw [if_pos c5] at H
              have c5b0 : decide (((rd_T23 l0 x3_1).f1) < ((rd_T23 l0 x3_1).f0)) = true := decide_eq_true c5
              clear c5
              have H' := Aside0.mk H
              clear H
              have p581 : 0 ≤ (x3_1 : Int) := of_decide_eq_true (by first | (with_reducible assumption) | assumption)
              have q581 : x3_1 < (l0.length : Int) := of_decide_eq_true (by first | (with_reducible assumption) | assumption)
              obtain ⟨ad581, e581, hx581_0, hx581_1⟩ := at_T23 HR0.out x3_1 p581 q581
              cases e581
              replace p581 := eq_true p581
              replace q581 := eq_true q581
              have p582 : 0 ≤ (x3_1 : Int) := of_decide_eq_true (by first | (with_reducible assumption) | assumption)
              have q582 : x3_1 < (l0.length : Int) := of_decide_eq_true (by first | (with_reducible assumption) | assumption)
              obtain ⟨ad582, e582, hx582_0, hx582_1⟩ := at_T23 HR0.out x3_1 p582 q582
              obtain rfl : ad581 = ad582 := (by injection e582)
              replace p582 := eq_true p582
              replace q582 := eq_true q582
              go_wp2
              repeat (go_quiet (fail); try go_wp2)
              go_meet
              case rel => exact ⟨_, (true), (by first | rfl | (simp; done) | (simp [*]; done)), H', ⟨by have := HK1.out; first | omega | exact Nat.le_refl _⟩, by repeat (first | exact Drawn0.refl _ | apply Drawn0.step)⟩
            · rw [if_neg c5] at H
              have c5b0 : decide (((rd_T23 l0 x3_1).f1) < ((rd_T23 l0 x3_1).f0)) = false := decide_eq_false c5
              clear c5
              by_cases c6 : x3_1 > 0
              · rw [if_pos c6] at H
                have c6b0 : decide (0 < x3_1) = true := decide_eq_true c6
                clear c6
                obtain ⟨ji7, hji7⟩ : ∃ j_ : Int, (wrap64 (x3_1 - 1)) = j_ := ⟨_, rfl⟩
                replace H : (if 0 ≤ (ji7) then (if (ji7) < (l0.length : Int) then (gangsawlaw01_normal.j1 k1 l0 x3_1 (decide (((rd_T23 l0 x3_1).f0) < (wrap64 (((rd_T23 l0 (ji7)).f1) + 2))))) else (none)) else (none)) = some r := by first | (rw [hji7] at H; exact H) | (simp only [hji7] at H ⊢; exact H)
                have hji7w : (IntKind.i64.wrap (x3_1 - 1)) = ji7 := (i64_w _).trans hji7
                by_cases c8 : 0 ≤ (ji7)
                · rw [if_pos c8] at H
                  have c8b0 : decide (0 ≤ (ji7)) = true := decide_eq_true c8
                  clear c8
                  by_cases c9 : (ji7) < (l0.length : Int)
                  · rw [if_pos c9] at H
                    have c9b0 : decide ((ji7) < (l0.length : Int)) = true := decide_eq_true c9
                    clear c9
                    have H' := Aside0.mk H
                    clear H
                    have p581 : 0 ≤ (x3_1 : Int) := of_decide_eq_true (by first | (with_reducible assumption) | assumption)
                    have q581 : x3_1 < (l0.length : Int) := of_decide_eq_true (by first | (with_reducible assumption) | assumption)
                    obtain ⟨ad581, e581, hx581_0, hx581_1⟩ := at_T23 HR0.out x3_1 p581 q581
                    cases e581
                    replace p581 := eq_true p581
                    replace q581 := eq_true q581
                    have p582 : 0 ≤ (x3_1 : Int) := of_decide_eq_true (by first | (with_reducible assumption) | assumption)
                    have q582 : x3_1 < (l0.length : Int) := of_decide_eq_true (by first | (with_reducible assumption) | assumption)
                    obtain ⟨ad582, e582, hx582_0, hx582_1⟩ := at_T23 HR0.out x3_1 p582 q582
                    obtain rfl : ad581 = ad582 := (by injection e582)
                    replace p582 := eq_true p582
                    replace q582 := eq_true q582
                    have p583 : 0 ≤ (x3_1 : Int) := of_decide_eq_true (by first | (with_reducible assumption) | assumption)
                    have q583 : x3_1 < (l0.length : Int) := of_decide_eq_true (by first | (with_reducible assumption) | assumption)
                    obtain ⟨ad583, e583, hx583_0, hx583_1⟩ := at_T23 HR0.out x3_1 p583 q583
                    obtain rfl : ad581 = ad583 := (by injection e583)
                    replace p583 := eq_true p583
                    replace q583 := eq_true q583
                    have p584 : 0 ≤ ((ji7) : Int) := of_decide_eq_true (by first | (with_reducible assumption) | assumption)
                    have q584 : (ji7) < (l0.length : Int) := of_decide_eq_true (by first | (with_reducible assumption) | assumption)
                    obtain ⟨ad584, e584, hx584_0, hx584_1⟩ := at_T23 HR0.out (ji7) p584 q584
                    obtain rfl : ad581 = ad584 := (by injection e584)
                    replace p584 := eq_true p584
                    replace q584 := eq_true q584
                    go_wp2
                    repeat (go_quiet (fail); try go_wp2)
                    go_meet
                    case rel => exact ⟨_, (decide (((rd_T23 l0 x3_1).f0) < (wrap64 (((rd_T23 l0 (ji7)).f1) + 2)))), (by first | rfl | (simp; done) | (simp only [← hji7] <;> (first | rfl | simp)) | (simp [*]; done)), H', ⟨by have := HK1.out; first | omega | exact Nat.le_refl _⟩, by repeat (first | exact Drawn0.refl _ | apply Drawn0.step)⟩
                  · rw [if_neg c9] at H
                    exact absurd H (by simp)
                · rw [if_neg c8] at H
                  exact absurd H (by simp)
              · rw [if_neg c6] at H
                have c6b0 : decide (0 < x3_1) = false := decide_eq_false c6
                clear c6
                have H' := Aside0.mk H
                clear H
                have p581 : 0 ≤ (x3_1 : Int) := of_decide_eq_true (by first | (with_reducible assumption) | assumption)
                have q581 : x3_1 < (l0.length : Int) := of_decide_eq_true (by first | (with_reducible assumption) | assumption)
                obtain ⟨ad581, e581, hx581_0, hx581_1⟩ := at_T23 HR0.out x3_1 p581 q581
                cases e581
                replace p581 := eq_true p581
                replace q581 := eq_true q581
                have p582 : 0 ≤ (x3_1 : Int) := of_decide_eq_true (by first | (with_reducible assumption) | assumption)
                have q582 : x3_1 < (l0.length : Int) := of_decide_eq_true (by first | (with_reducible assumption) | assumption)
                obtain ⟨ad582, e582, hx582_0, hx582_1⟩ := at_T23 HR0.out x3_1 p582 q582
                obtain rfl : ad581 = ad582 := (by injection e582)
                replace p582 := eq_true p582
                replace q582 := eq_true q582
                go_wp2
                repeat (go_quiet (fail); try go_wp2)
                go_meet
                case rel => exact ⟨_, (false), (by first | rfl | (simp; done) | (simp [*]; done)), H', ⟨by have := HK1.out; first | omega | exact Nat.le_refl _⟩, by repeat (first | exact Drawn0.refl _ | apply Drawn0.step)⟩
          · rw [if_neg c4] at H
            exact absurd H (by simp)
        case rest =>
          clear HC3
          try clear c2
          try clear c2b0
          try clear p2
          try clear c3
          try clear c4
          try clear c4b0
          try clear c5
          try clear c5b0
          try clear p5
          try clear q5
          try clear hx5
          try clear c6
          try clear c6b0
          try clear p6
          try clear c8
          try clear c8b0
          try clear c9
          try clear c9b0
          try clear hx581_0
          try clear hx581_1
          try clear hx582_0
          try clear hx582_1
          try clear hx583_0
          try clear hx583_1
          try clear hx584_0
          try clear hx584_1
          try clear p581
          try clear p582
          try clear p583
          try clear p584
          try clear q581
          try clear q582
          try clear q583
          try clear q584
          obtain ⟨kq, x39_2, rfl, HA, HJ2, ⟨mc2, rfl⟩⟩ := hcut
          cases kq with
          | zero => exact absurd HA.out (by simp [gangsawlaw01_normal.j1])
          | succ kj2 =>
            have H := HA.out
            clear HA
            simp only [gangsawlaw01_normal.j1] at H
            by_cases c10 : x39_2 = true
            · subst c10
              have H1 : (some false) = some r := by rw [if_pos rfl] at H; exact H
              clear H
              have H := H1
              clear H1
              obtain rfl := Option.some.inj H
              go_wp2
              repeat (go_quiet (fail); try go_wp2)
              go_ret
              exact ⟨by first | rfl | (simp; done) | (simp [*]; done), by repeat (first | exact Drawn0.refl _ | apply Drawn0.step)⟩
            · replace c10 := Bool.eq_false_iff.mpr c10
              subst c10
              have H1 : (gangsawlaw01_normal.l0 kj2 l0 (wrap64 (x3_1 + 1))) = some r := by rw [if_neg (show ¬ (false = true) by decide)] at H; exact H
              clear H
              have H := H1
              clear H1
              have H' := Aside0.mk H
              clear H
              go_wp2
              repeat (go_quiet (fail); try go_wp2)
              go_roundg kj2
              case measure => have := HK1.out; have := HJ2.out; omega
              case rel => exact ⟨(wrap64 (x3_1 + 1)), (by first | rfl | (simp; done) | (simp [*]; done)), H', ⟨by have := HK1.out; have := HJ2.out; omega⟩, by repeat (first | exact Drawn0.refl _ | apply Drawn0.step)⟩
      · rw [if_neg c2] at H
        have c2b0 : decide (x3_1 < (l0.length : Int)) = false := decide_eq_false c2
        clear c2
        obtain rfl := Option.some.inj H
        go_wp2
        repeat (go_quiet (fail); try go_wp2)
        go_ret
        exact ⟨by first | rfl | (simp; done) | (simp [*]; done), by repeat (first | exact Drawn0.refl _ | apply Drawn0.step)⟩

mutual
def gangsawlaw01_SpanMembers.j0 : Nat → List (S23) → List (S23) → Int → Bool → Option (Bool)
  | 0, _, _, _, _ => none
  | k + 1, x0, x1, x2, x24 => if x24 = true then (some true) else ((span_Union.f k x0 x1).bind fun bt586 => ((span_Minus.f k x0 x1).bind fun bt590 => ((span_Common.f k x0 x1).bind fun bt594 => (if bt586.2 = 0 then (if bt590.2 = 0 then (gangsawlaw01_SpanMembers.j1 k x0 x1 x2 bt586.1 bt586.2 bt590.1 bt590.2 bt594.1 bt594.2 (bt594.2 != 0)) else (gangsawlaw01_SpanMembers.j1 k x0 x1 x2 bt586.1 bt586.2 bt590.1 bt590.2 bt594.1 bt594.2 true)) else (gangsawlaw01_SpanMembers.j1 k x0 x1 x2 bt586.1 bt586.2 bt590.1 bt590.2 bt594.1 bt594.2 true)))))
def gangsawlaw01_SpanMembers.j1 : Nat → List (S23) → List (S23) → Int → List (S23) → Int → List (S23) → Int → List (S23) → Int → Bool → Option (Bool)
  | 0, _, _, _, _, _, _, _, _, _, _ => none
  | k + 1, x0, x1, x2, x7, x8, x9, x10, x11, x12, x52 => if x52 = true then (if x8 = x10 then (some (x10 == x12)) else (some false)) else ((gangsawref01_In.f k x0 x2).bind fun t598 => ((gangsawref01_In.f k x1 x2).bind fun t599 => ((gangsawref01_In.f k x7 x2).bind fun t600 => (if t598 = true then (if (t600 != true) = true then (gangsawlaw01_SpanMembers.j2 k x7 x9 x11 true) else ((gangsawref01_In.f k x9 x2).bind fun t601 => (if (t601 != (!t599)) = true then (gangsawlaw01_SpanMembers.j2 k x7 x9 x11 true) else ((gangsawref01_In.f k x11 x2).bind fun t602 => (gangsawlaw01_SpanMembers.j2 k x7 x9 x11 (t602 != t599)))))) else (if (t600 != t599) = true then (gangsawlaw01_SpanMembers.j2 k x7 x9 x11 true) else ((gangsawref01_In.f k x9 x2).bind fun t603 => (if (t603 != false) = true then (gangsawlaw01_SpanMembers.j2 k x7 x9 x11 true) else ((gangsawref01_In.f k x11 x2).bind fun t604 => (gangsawlaw01_SpanMembers.j2 k x7 x9 x11 (t604 != false))))))))))
def gangsawlaw01_SpanMembers.j2 : Nat → List (S23) → List (S23) → List (S23) → Bool → Option (Bool)
  | 0, _, _, _, _ => none
  | k + 1, x7, x9, x11, x95 => if x95 = true then (some false) else ((gangsawlaw01_normal.f k x7).bind fun t605 => (if t605 = true then ((gangsawlaw01_normal.f k x9).bind fun t606 => (if t606 = true then ((gangsawlaw01_normal.f k x11).bind fun t607 => (some t607)) else (some false))) else (some false)))
end
def gangsawlaw01_SpanMembers.f (k : Nat) (l0 : List (S23)) (l1 : List (S23)) (a2 : Int) : Option (Bool) := (gangsawlaw01_awake.f k).bind fun t585 => (if t585 = true then (if (l0.length : Int) > 30 then (gangsawlaw01_SpanMembers.j0 k l0 l1 a2 true) else (gangsawlaw01_SpanMembers.j0 k l0 l1 a2 (decide ((l1.length : Int) > 30)))) else (some false))
set_option maxHeartbeats 8000000 in
set_option maxRecDepth 100000 in
theorem gangsawlaw01_SpanMembers.calls (k : Nat) (A0 : Option Addr) (c0 : Nat) (l0 : List (S23)) (A1 : Option Addr) (c1 : Nat) (l1 : List (S23)) (a2 : Int) (r : Bool) (w : World) (hr0 : Kd.C k23 w A0 l0.length l0) (hc0 : l0.length ≤ c0) (hr1 : Kd.C k23 w A1 l1.length l1) (hc1 : l1.length ≤ c1) (h : gangsawlaw01_SpanMembers.f k l0 l1 a2 = some r) :
    Calls Try.prog 8 #[.slice A0 l0.length c0, .slice A1 l1.length c1, .int .i64 a2] w fun e w' => e = .returned (.bool r) ∧ Below w.heap.size w w' := by
  have HR0 := Aside0.mk hr0
  have HC0 := Aside0.mk hc0
  clear hr0 hc0
  have HR1 := Aside0.mk hr1
  have HC1 := Aside0.mk hc1
  clear hr1 hc1
  have HB := Aside0.mk (Below.refl w.heap.size w)
  have H : ((gangsawlaw01_awake.f k).bind fun t585 => (if t585 = true then (if (l0.length : Int) > 30 then (gangsawlaw01_SpanMembers.j0 k l0 l1 a2 true) else (gangsawlaw01_SpanMembers.j0 k l0 l1 a2 (decide ((l1.length : Int) > 30)))) else (some false))) = some r := h
  clear h
  replace H := Option.bind_eq_some_iff.mp H
  obtain ⟨t585, A40, H⟩ := H
  replace H : (if t585 = true then (if (l0.length : Int) > 30 then (gangsawlaw01_SpanMembers.j0 k l0 l1 a2 true) else (gangsawlaw01_SpanMembers.j0 k l0 l1 a2 (decide ((l1.length : Int) > 30)))) else (some false)) = some r := H
  have A4 := Aside0.mk A40
  clear A40
  by_cases c5 : t585 = true
  · subst c5
    have H1 : (if (l0.length : Int) > 30 then (gangsawlaw01_SpanMembers.j0 k l0 l1 a2 true) else (gangsawlaw01_SpanMembers.j0 k l0 l1 a2 (decide ((l1.length : Int) > 30)))) = some r := by rw [if_pos rfl] at H; exact H
    clear H
    have H := H1
    clear H1
    have HC6 := Aside0.mk H
    clear H
    go_enter Try.func8, Try.ntmps8
    go_upto_region 3 with (first | ((with_reducible refine gate_callee (f := 10) rfl ?_); refine goesL_ (some 15) rfl rfl Try.func10 (by kernel_rfl) rfl #[] rfl (by (try simp only [List.map_toArray, List.map_cons, List.map_nil]); first | done | rfl | (simp only [List.length_drop, List.length_take]; rfl)) ?_; (with_reducible refine (gangsawlaw01_awake.calls k  true _ A4.out).mono ?_); rintro e w7 ⟨rfl, hb⟩; refine ⟨_, rfl, ?_⟩; have n0_ := Aside0.mk (below_step (by repeat (first | (with_reducible first | exact HB.out | apply below_alloc | apply pw_below_drewN | apply below_drew1) | exact HB.out)) hb); clear HB; have HB := n0_; clear n0_; (try clear hb); (try clear hb2); (try clear hk); (try clear hi)))
    (try simp only [Act.put, List.setIfInBounds_toArray, List.set_cons_zero, List.set_cons_succ])
    go_cut [24] (fun v24 wc => ∃ (kq : Nat) (x24_5 : Bool), v24 = .bool x24_5 ∧ Aside0 (gangsawlaw01_SpanMembers.j0 kq l0 l1 a2 x24_5 = some r) ∧ Aside0 (kq ≤ k) ∧ Aside0 (Below w.heap.size w wc))
    case first =>
      have H := HC6.out
      clear HC6
      by_cases c8 : (l0.length : Int) > 30
      · rw [if_pos c8] at H
        have c8b0 : decide (30 < (l0.length : Int)) = true := decide_eq_true c8
        have c8b1 : decide (30 < l0.length) = true := decide_eq_true (by omega)
        clear c8
        (first | rw [c8b0] | (simp only [i64_w, i32_w]; rw [c8b0]) | skip)
        have H' := Aside0.mk H
        clear H
        go_wp2
        go_meet
        case rel => exact ⟨_, (true), (by first | rfl | (simp; done) | (simp [*]; done)), H', ⟨by first | omega | exact Nat.le_refl _⟩, ⟨by repeat (first | (with_reducible first | exact HB.out | apply below_alloc | apply pw_below_drewN | apply below_drew1) | exact HB.out)⟩⟩
      · rw [if_neg c8] at H
        have c8b0 : decide (30 < (l0.length : Int)) = false := decide_eq_false c8
        have c8b1 : decide (30 < l0.length) = false := decide_eq_false (by omega)
        clear c8
        (first | rw [c8b0] | (simp only [i64_w, i32_w]; rw [c8b0]) | skip)
        have H' := Aside0.mk H
        clear H
        go_wp2
        go_meet
        case rel => exact ⟨_, (decide ((l1.length : Int) > 30)), (by first | rfl | (simp; done) | (simp [*]; done)), H', ⟨by first | omega | exact Nat.le_refl _⟩, ⟨by repeat (first | (with_reducible first | exact HB.out | apply below_alloc | apply pw_below_drewN | apply below_drew1) | exact HB.out)⟩⟩
    case rest =>
      clear HC6
      try clear c1
      try clear p2
      try clear c5
      try clear c8
      try clear c8b0
      try clear c8b1
      obtain ⟨kq, x24_5, rfl, HA, HJ5, HB⟩ := hcut
      cases kq with
      | zero => exact absurd HA.out (by simp [gangsawlaw01_SpanMembers.j0])
      | succ kj5 =>
        have H := HA.out
        clear HA
        simp only [gangsawlaw01_SpanMembers.j0] at H
        by_cases c9 : x24_5 = true
        · subst c9
          have H1 : (some true) = some r := by rw [if_pos rfl] at H; exact H
          clear H
          have H := H1
          clear H1
          obtain rfl := Option.some.inj H
          go_wp2
          go_ret
          exact ⟨by first | rfl | (simp [errW_none, errW_some] <;> rfl) | (simp [*, errW_none, errW_some] <;> rfl), by repeat (first | (with_reducible first | exact HB.out | apply below_alloc | apply pw_below_drewN | apply below_drew1) | exact HB.out)⟩
        · replace c9 := Bool.eq_false_iff.mpr c9
          subst c9
          have H1 : ((span_Union.f kj5 l0 l1).bind fun bt586 => ((span_Minus.f kj5 l0 l1).bind fun bt590 => ((span_Common.f kj5 l0 l1).bind fun bt594 => (if bt586.2 = 0 then (if bt590.2 = 0 then (gangsawlaw01_SpanMembers.j1 kj5 l0 l1 a2 bt586.1 bt586.2 bt590.1 bt590.2 bt594.1 bt594.2 (bt594.2 != 0)) else (gangsawlaw01_SpanMembers.j1 kj5 l0 l1 a2 bt586.1 bt586.2 bt590.1 bt590.2 bt594.1 bt594.2 true)) else (gangsawlaw01_SpanMembers.j1 kj5 l0 l1 a2 bt586.1 bt586.2 bt590.1 bt590.2 bt594.1 bt594.2 true))))) = some r := by rw [if_neg (show ¬ (false = true) by decide)] at H; exact H
          clear H
          have H := H1
          clear H1
          replace H := Option.bind_eq_some_iff.mp H
          obtain ⟨⟨t586, t589⟩, A100, H⟩ := H
          replace H : ((span_Minus.f kj5 l0 l1).bind fun bt590 => ((span_Common.f kj5 l0 l1).bind fun bt594 => (if t589 = 0 then (if bt590.2 = 0 then (gangsawlaw01_SpanMembers.j1 kj5 l0 l1 a2 t586 t589 bt590.1 bt590.2 bt594.1 bt594.2 (bt594.2 != 0)) else (gangsawlaw01_SpanMembers.j1 kj5 l0 l1 a2 t586 t589 bt590.1 bt590.2 bt594.1 bt594.2 true)) else (gangsawlaw01_SpanMembers.j1 kj5 l0 l1 a2 t586 t589 bt590.1 bt590.2 bt594.1 bt594.2 true)))) = some r := H
          have A10 := Aside0.mk A100
          clear A100
          replace H := Option.bind_eq_some_iff.mp H
          obtain ⟨⟨t590, t593⟩, A110, H⟩ := H
          replace H : ((span_Common.f kj5 l0 l1).bind fun bt594 => (if t589 = 0 then (if t593 = 0 then (gangsawlaw01_SpanMembers.j1 kj5 l0 l1 a2 t586 t589 t590 t593 bt594.1 bt594.2 (bt594.2 != 0)) else (gangsawlaw01_SpanMembers.j1 kj5 l0 l1 a2 t586 t589 t590 t593 bt594.1 bt594.2 true)) else (gangsawlaw01_SpanMembers.j1 kj5 l0 l1 a2 t586 t589 t590 t593 bt594.1 bt594.2 true))) = some r := H
          have A11 := Aside0.mk A110
          clear A110
          replace H := Option.bind_eq_some_iff.mp H
          obtain ⟨⟨t594, t597⟩, A120, H⟩ := H
          replace H : (if t589 = 0 then (if t593 = 0 then (gangsawlaw01_SpanMembers.j1 kj5 l0 l1 a2 t586 t589 t590 t593 t594 t597 (t597 != 0)) else (gangsawlaw01_SpanMembers.j1 kj5 l0 l1 a2 t586 t589 t590 t593 t594 t597 true)) else (gangsawlaw01_SpanMembers.j1 kj5 l0 l1 a2 t586 t589 t590 t593 t594 t597 true)) = some r := H
          have A12 := Aside0.mk A120
          clear A120
          have HC13 := Aside0.mk H
          clear H
          go_upto_region 8 with (first | ((with_reducible refine gate_callee (f := 31) rfl ?_); refine goesL_ (some 28) rfl rfl Try.func31 (by kernel_rfl) rfl #[.slice A0 l0.length c0, .slice A1 l1.length c1] rfl (by (try simp only [List.map_toArray, List.map_cons, List.map_nil]); first | done | rfl | (simp only [List.length_drop, List.length_take]; rfl)) ?_; (with_reducible refine (span_Union.calls kj5 (fun k_ => k_ < w.heap.size) _ _ l0 (fun k_ => k_ < w.heap.size) _ _ l1 t586 t589 _ ?side1 ?side2 A10.out).mono ?_); (case side1 => exact Kd.V_mk HC0.out (Kd.F_below (Kd.C_F k23_heap HR0.out) (by repeat (first | (with_reducible first | exact HB.out | apply below_alloc | apply pw_below_drewN | apply below_drew1) | exact HB.out)))); (case side2 => exact Kd.V_mk HC1.out (Kd.F_below (Kd.C_F k23_heap HR1.out) (by repeat (first | (with_reducible first | exact HB.out | apply below_alloc | apply pw_below_drewN | apply below_drew1) | exact HB.out)))); rintro e w14 ⟨v587, rfl, ho0, hb⟩; refine ⟨_, rfl, ?_⟩; have n0_ := Aside0.mk (Kd.R_lower (Kd.R_mono (ok' := fun k_ => True) ho0 (fun _ hk_ => trivial)) (below_size (by repeat (first | (with_reducible first | exact HB.out | apply below_alloc | apply pw_below_drewN | apply below_drew1) | exact HB.out)))); have n1_ := Aside0.mk (below_step (by repeat (first | (with_reducible first | exact HB.out | apply below_alloc | apply pw_below_drewN | apply below_drew1) | exact HB.out)) hb); clear HB; have HO588 := n0_; have HB := n1_; clear n0_ n1_; (try clear hb); (try clear hb2); (try clear hk); (try clear hi); (try clear ho0)) | ((with_reducible refine gate_callee (f := 32) rfl ?_); refine goesL_ (some 34) rfl rfl Try.func32 (by kernel_rfl) rfl #[.slice A0 l0.length c0, .slice A1 l1.length c1] rfl (by (try simp only [List.map_toArray, List.map_cons, List.map_nil]); first | done | rfl | (simp only [List.length_drop, List.length_take]; rfl)) ?_; (with_reducible refine (span_Minus.calls kj5 (fun k_ => k_ < w.heap.size) _ _ l0 (fun k_ => k_ < w.heap.size) _ _ l1 t590 t593 _ ?side1 ?side2 A11.out).mono ?_); (case side1 => exact Kd.V_mk HC0.out (Kd.F_below (Kd.C_F k23_heap HR0.out) (by repeat (first | (with_reducible first | exact HB.out | apply below_alloc | apply pw_below_drewN | apply below_drew1) | exact HB.out)))); (case side2 => exact Kd.V_mk HC1.out (Kd.F_below (Kd.C_F k23_heap HR1.out) (by repeat (first | (with_reducible first | exact HB.out | apply below_alloc | apply pw_below_drewN | apply below_drew1) | exact HB.out)))); rintro e w15 ⟨v591, rfl, ho0, hb⟩; refine ⟨_, rfl, ?_⟩; have n0_ := Aside0.mk (Kd.R_elder' (by (with_reducible repeat (first | apply Kd.R_alloc | apply Kd.R_drewN | apply Kd.R_drew)); exact HO588.out) (Kd.R_base ho0) hb); have n1_ := Aside0.mk (Kd.R_lower (Kd.R_new' (Kd.R_mono (ok' := fun k_ => True) ho0 (fun _ hk_ => trivial)) (Kd.R_lt (by (with_reducible repeat (first | apply Kd.R_alloc | apply Kd.R_drewN | apply Kd.R_drew)); exact HO588.out))) (below_size (by repeat (first | (with_reducible first | exact HB.out | apply below_alloc | apply pw_below_drewN | apply below_drew1) | exact HB.out)))); have n2_ := Aside0.mk (below_step (by repeat (first | (with_reducible first | exact HB.out | apply below_alloc | apply pw_below_drewN | apply below_drew1) | exact HB.out)) hb); clear HO588; clear HB; have HO588 := n0_; have HO592 := n1_; have HB := n2_; clear n0_ n1_ n2_; (try clear hb); (try clear hb2); (try clear hk); (try clear hi); (try clear ho0)) | ((with_reducible refine gate_callee (f := 33) rfl ?_); refine goesL_ (some 40) rfl rfl Try.func33 (by kernel_rfl) rfl #[.slice A0 l0.length c0, .slice A1 l1.length c1] rfl (by (try simp only [List.map_toArray, List.map_cons, List.map_nil]); first | done | rfl | (simp only [List.length_drop, List.length_take]; rfl)) ?_; (with_reducible refine (span_Common.calls kj5 (fun k_ => k_ < w.heap.size) _ _ l0 (fun k_ => k_ < w.heap.size) _ _ l1 t594 t597 _ ?side1 ?side2 A12.out).mono ?_); (case side1 => exact Kd.V_mk HC0.out (Kd.F_below (Kd.C_F k23_heap HR0.out) (by repeat (first | (with_reducible first | exact HB.out | apply below_alloc | apply pw_below_drewN | apply below_drew1) | exact HB.out)))); (case side2 => exact Kd.V_mk HC1.out (Kd.F_below (Kd.C_F k23_heap HR1.out) (by repeat (first | (with_reducible first | exact HB.out | apply below_alloc | apply pw_below_drewN | apply below_drew1) | exact HB.out)))); rintro e w16 ⟨v595, rfl, ho0, hb⟩; refine ⟨_, rfl, ?_⟩; have n0_ := Aside0.mk (Kd.R_elder' (by (with_reducible repeat (first | apply Kd.R_alloc | apply Kd.R_drewN | apply Kd.R_drew)); exact HO588.out) (Kd.R_base ho0) hb); have n1_ := Aside0.mk (Kd.R_elder' (by (with_reducible repeat (first | apply Kd.R_alloc | apply Kd.R_drewN | apply Kd.R_drew)); exact HO592.out) (Kd.R_base ho0) hb); have n2_ := Aside0.mk (Kd.R_lower (Kd.R_new' (Kd.R_new' (Kd.R_mono (ok' := fun k_ => True) ho0 (fun _ hk_ => trivial)) (Kd.R_lt (by (with_reducible repeat (first | apply Kd.R_alloc | apply Kd.R_drewN | apply Kd.R_drew)); exact HO588.out))) (Kd.R_lt (by (with_reducible repeat (first | apply Kd.R_alloc | apply Kd.R_drewN | apply Kd.R_drew)); exact HO592.out))) (below_size (by repeat (first | (with_reducible first | exact HB.out | apply below_alloc | apply pw_below_drewN | apply below_drew1) | exact HB.out)))); have n3_ := Aside0.mk (below_step (by repeat (first | (with_reducible first | exact HB.out | apply below_alloc | apply pw_below_drewN | apply below_drew1) | exact HB.out)) hb); clear HO588; clear HO592; clear HB; have HO588 := n0_; have HO592 := n1_; have HO596 := n2_; have HB := n3_; clear n0_ n1_ n2_ n3_; (try clear hb); (try clear hb2); (try clear hk); (try clear hi); (try clear ho0)))
          (try simp only [Act.put, List.setIfInBounds_toArray, List.set_cons_zero, List.set_cons_succ])
          go_cut [52] (fun v52 wc => ∃ (kq : Nat) (x52_12 : Bool), v52 = .bool x52_12 ∧ Aside0 (gangsawlaw01_SpanMembers.j1 kq l0 l1 a2 t586 t589 t590 t593 t594 t597 x52_12 = some r) ∧ Aside0 (kq ≤ kj5) ∧ Aside0 (Kd.R k23 23 wc w.heap.size (fun k_ => some k_ ≠ (v591 : Value).ownBlock ∧ some k_ ≠ (v595 : Value).ownBlock) v587 t586) ∧ Aside0 (Kd.R k23 23 wc w.heap.size (fun k_ => some k_ ≠ (v587 : Value).ownBlock ∧ some k_ ≠ (v595 : Value).ownBlock) v591 t590) ∧ Aside0 (Kd.R k23 23 wc w.heap.size (fun k_ => some k_ ≠ (v587 : Value).ownBlock ∧ some k_ ≠ (v591 : Value).ownBlock) v595 t594) ∧ Aside0 (Below w.heap.size w wc))
          case first =>
            have H := HC13.out
            clear HC13
            by_cases c17 : t589 = 0
            · rw [if_pos c17] at H
              have c17b0 : (t589 == 0) = true := beq_iff_eq.mpr c17
              have c17b1 : (t589 != 0) = false := bne_eq_false_iff_eq.mpr c17
              clear c17
              (first | rw [c17b0] | (simp only [i64_w, i32_w]; rw [c17b0]) | skip)
              by_cases c18 : t593 = 0
              · rw [if_pos c18] at H
                have c18b0 : (t593 == 0) = true := beq_iff_eq.mpr c18
                have c18b1 : (t593 != 0) = false := bne_eq_false_iff_eq.mpr c18
                clear c18
                have H' := Aside0.mk H
                clear H
                go_wp2
                go_meet
                case rel => exact ⟨_, ((t597 != 0)), (by first | rfl | (simp; done) | (simp [*]; done)), H', ⟨by have := HJ5.out; first | omega | exact Nat.le_refl _⟩, ⟨by (with_reducible repeat (first | apply Kd.R_alloc | apply Kd.R_drewN | apply Kd.R_drew)); exact Kd.R_mono HO588.out (fun _ hk => ⟨hk.1.2, hk.2⟩)⟩, ⟨by (with_reducible repeat (first | apply Kd.R_alloc | apply Kd.R_drewN | apply Kd.R_drew)); exact Kd.R_mono HO592.out (fun _ hk => ⟨hk.1.2, hk.2⟩)⟩, ⟨by (with_reducible repeat (first | apply Kd.R_alloc | apply Kd.R_drewN | apply Kd.R_drew)); exact Kd.R_mono HO596.out (fun _ hk => ⟨hk.1.2, hk.2⟩)⟩, ⟨by repeat (first | (with_reducible first | exact HB.out | apply below_alloc | apply pw_below_drewN | apply below_drew1) | exact HB.out)⟩⟩
              · rw [if_neg c18] at H
                have c18b0 : (t593 == 0) = false := beq_eq_false_iff_ne.mpr c18
                have c18b1 : (t593 != 0) = true := bne_iff_ne.mpr c18
                have H' := Aside0.mk H
                clear H
                go_wp2
                go_meet
                case rel => exact ⟨_, (true), (by first | rfl | (simp; done) | (simp [*]; done)), H', ⟨by have := HJ5.out; first | omega | exact Nat.le_refl _⟩, ⟨by (with_reducible repeat (first | apply Kd.R_alloc | apply Kd.R_drewN | apply Kd.R_drew)); exact Kd.R_mono HO588.out (fun _ hk => ⟨hk.1.2, hk.2⟩)⟩, ⟨by (with_reducible repeat (first | apply Kd.R_alloc | apply Kd.R_drewN | apply Kd.R_drew)); exact Kd.R_mono HO592.out (fun _ hk => ⟨hk.1.2, hk.2⟩)⟩, ⟨by (with_reducible repeat (first | apply Kd.R_alloc | apply Kd.R_drewN | apply Kd.R_drew)); exact Kd.R_mono HO596.out (fun _ hk => ⟨hk.1.2, hk.2⟩)⟩, ⟨by repeat (first | (with_reducible first | exact HB.out | apply below_alloc | apply pw_below_drewN | apply below_drew1) | exact HB.out)⟩⟩
            · rw [if_neg c17] at H
              have c17b0 : (t589 == 0) = false := beq_eq_false_iff_ne.mpr c17
              have c17b1 : (t589 != 0) = true := bne_iff_ne.mpr c17
              (first | rw [c17b0] | (simp only [i64_w, i32_w]; rw [c17b0]) | skip)
              have H' := Aside0.mk H
              clear H
              go_wp2
              go_meet
              case rel => exact ⟨_, (true), (by first | rfl | (simp; done) | (simp [*]; done)), H', ⟨by have := HJ5.out; first | omega | exact Nat.le_refl _⟩, ⟨by (with_reducible repeat (first | apply Kd.R_alloc | apply Kd.R_drewN | apply Kd.R_drew)); exact Kd.R_mono HO588.out (fun _ hk => ⟨hk.1.2, hk.2⟩)⟩, ⟨by (with_reducible repeat (first | apply Kd.R_alloc | apply Kd.R_drewN | apply Kd.R_drew)); exact Kd.R_mono HO592.out (fun _ hk => ⟨hk.1.2, hk.2⟩)⟩, ⟨by (with_reducible repeat (first | apply Kd.R_alloc | apply Kd.R_drewN | apply Kd.R_drew)); exact Kd.R_mono HO596.out (fun _ hk => ⟨hk.1.2, hk.2⟩)⟩, ⟨by repeat (first | (with_reducible first | exact HB.out | apply below_alloc | apply pw_below_drewN | apply below_drew1) | exact HB.out)⟩⟩
          case rest =>
            clear HC13
            try clear c1
            try clear p2
            try clear c3
            try clear c5
            try clear c8
            try clear c8b0
            try clear c8b1
            try clear c9
            try clear c10
            try clear c17
            try clear c17b0
            try clear c17b1
            try clear c18
            try clear c18b0
            try clear c18b1
            try clear p2
            obtain ⟨kq, x52_12, rfl, HA, HJ12, HO_7, HO_9, HO_11, HB⟩ := hcut
            cases kq with
            | zero => exact absurd HA.out (by simp [gangsawlaw01_SpanMembers.j1])
            | succ kj12 =>
              have H := HA.out
              clear HA
              simp only [gangsawlaw01_SpanMembers.j1] at H
              by_cases c19 : x52_12 = true
              · subst c19
                have H1 : (if t589 = t593 then (some (t593 == t597)) else (some false)) = some r := by rw [if_pos rfl] at H; exact H
                clear H
                have H := H1
                clear H1
                by_cases c20 : t589 = t593
                · rw [if_pos c20] at H
                  have c20b0 : (t589 == t593) = true := beq_iff_eq.mpr c20
                  have c20b1 : (t589 != t593) = false := bne_eq_false_iff_eq.mpr c20
                  clear c20
                  obtain rfl := Option.some.inj H
                  go_wp2
                  go_ret
                  exact ⟨by first | rfl | (simp [errW_none, errW_some] <;> rfl) | (simp [*, errW_none, errW_some] <;> rfl), by repeat (first | (with_reducible first | exact HB.out | apply below_alloc | apply pw_below_drewN | apply below_drew1) | exact HB.out)⟩
                · rw [if_neg c20] at H
                  have c20b0 : (t589 == t593) = false := beq_eq_false_iff_ne.mpr c20
                  have c20b1 : (t589 != t593) = true := bne_iff_ne.mpr c20
                  obtain rfl := Option.some.inj H
                  go_wp2
                  go_ret
                  exact ⟨by first | rfl | (simp [errW_none, errW_some] <;> rfl) | (simp [*, errW_none, errW_some] <;> rfl), by repeat (first | (with_reducible first | exact HB.out | apply below_alloc | apply pw_below_drewN | apply below_drew1) | exact HB.out)⟩
              · replace c19 := Bool.eq_false_iff.mpr c19
                subst c19
                have H1 : ((gangsawref01_In.f kj12 l0 a2).bind fun t598 => ((gangsawref01_In.f kj12 l1 a2).bind fun t599 => ((gangsawref01_In.f kj12 t586 a2).bind fun t600 => (if t598 = true then (if (t600 != true) = true then (gangsawlaw01_SpanMembers.j2 kj12 t586 t590 t594 true) else ((gangsawref01_In.f kj12 t590 a2).bind fun t601 => (if (t601 != (!t599)) = true then (gangsawlaw01_SpanMembers.j2 kj12 t586 t590 t594 true) else ((gangsawref01_In.f kj12 t594 a2).bind fun t602 => (gangsawlaw01_SpanMembers.j2 kj12 t586 t590 t594 (t602 != t599)))))) else (if (t600 != t599) = true then (gangsawlaw01_SpanMembers.j2 kj12 t586 t590 t594 true) else ((gangsawref01_In.f kj12 t590 a2).bind fun t603 => (if (t603 != false) = true then (gangsawlaw01_SpanMembers.j2 kj12 t586 t590 t594 true) else ((gangsawref01_In.f kj12 t594 a2).bind fun t604 => (gangsawlaw01_SpanMembers.j2 kj12 t586 t590 t594 (t604 != false)))))))))) = some r := by rw [if_neg (show ¬ (false = true) by decide)] at H; exact H
                clear H
                have H := H1
                clear H1
                replace H := Option.bind_eq_some_iff.mp H
                obtain ⟨t598, A210, H⟩ := H
                replace H : ((gangsawref01_In.f kj12 l1 a2).bind fun t599 => ((gangsawref01_In.f kj12 t586 a2).bind fun t600 => (if t598 = true then (if (t600 != true) = true then (gangsawlaw01_SpanMembers.j2 kj12 t586 t590 t594 true) else ((gangsawref01_In.f kj12 t590 a2).bind fun t601 => (if (t601 != (!t599)) = true then (gangsawlaw01_SpanMembers.j2 kj12 t586 t590 t594 true) else ((gangsawref01_In.f kj12 t594 a2).bind fun t602 => (gangsawlaw01_SpanMembers.j2 kj12 t586 t590 t594 (t602 != t599)))))) else (if (t600 != t599) = true then (gangsawlaw01_SpanMembers.j2 kj12 t586 t590 t594 true) else ((gangsawref01_In.f kj12 t590 a2).bind fun t603 => (if (t603 != false) = true then (gangsawlaw01_SpanMembers.j2 kj12 t586 t590 t594 true) else ((gangsawref01_In.f kj12 t594 a2).bind fun t604 => (gangsawlaw01_SpanMembers.j2 kj12 t586 t590 t594 (t604 != false))))))))) = some r := H
                have A21 := Aside0.mk A210
                clear A210
                replace H := Option.bind_eq_some_iff.mp H
                obtain ⟨t599, A220, H⟩ := H
                replace H : ((gangsawref01_In.f kj12 t586 a2).bind fun t600 => (if t598 = true then (if (t600 != true) = true then (gangsawlaw01_SpanMembers.j2 kj12 t586 t590 t594 true) else ((gangsawref01_In.f kj12 t590 a2).bind fun t601 => (if (t601 != (!t599)) = true then (gangsawlaw01_SpanMembers.j2 kj12 t586 t590 t594 true) else ((gangsawref01_In.f kj12 t594 a2).bind fun t602 => (gangsawlaw01_SpanMembers.j2 kj12 t586 t590 t594 (t602 != t599)))))) else (if (t600 != t599) = true then (gangsawlaw01_SpanMembers.j2 kj12 t586 t590 t594 true) else ((gangsawref01_In.f kj12 t590 a2).bind fun t603 => (if (t603 != false) = true then (gangsawlaw01_SpanMembers.j2 kj12 t586 t590 t594 true) else ((gangsawref01_In.f kj12 t594 a2).bind fun t604 => (gangsawlaw01_SpanMembers.j2 kj12 t586 t590 t594 (t604 != false)))))))) = some r := H
                have A22 := Aside0.mk A220
                clear A220
                have HC23 := Aside0.mk H
                clear H
                go_upto_region 12 with (first | ((with_reducible refine gate_callee (f := 38) rfl ?_); refine goesL_ (some 63) rfl rfl Try.func38 (by kernel_rfl) rfl #[.slice A0 l0.length c0, .int .i64 a2] rfl (by (try simp only [List.map_toArray, List.map_cons, List.map_nil]); first | done | rfl | (simp only [List.length_drop, List.length_take]; rfl)) ?_; (with_reducible refine (gangsawref01_In.calls kj12 _ _ l0 a2 t598 _ ?side1 ?side2 A21.out).mono ?_); (case side1 => repeat (first | exact (Kd.C_below HR0.out HB.out) | (with_reducible refine Kd.C_alloc ?_ _) | (with_reducible refine Kd.C_drewN ?_ _) | (with_reducible refine Kd.C_drew ?_))); (case side2 => exact HC0.out); rintro e w24 ⟨rfl, hb⟩; refine ⟨_, rfl, ?_⟩; have n0_ := Aside0.mk (Kd.R_below (by (with_reducible repeat (first | apply Kd.R_alloc | apply Kd.R_drewN | apply Kd.R_drew)); exact HO_7.out) hb); have n1_ := Aside0.mk (Kd.R_below (by (with_reducible repeat (first | apply Kd.R_alloc | apply Kd.R_drewN | apply Kd.R_drew)); exact HO_9.out) hb); have n2_ := Aside0.mk (Kd.R_below (by (with_reducible repeat (first | apply Kd.R_alloc | apply Kd.R_drewN | apply Kd.R_drew)); exact HO_11.out) hb); have n3_ := Aside0.mk (below_step (by repeat (first | (with_reducible first | exact HB.out | apply below_alloc | apply pw_below_drewN | apply below_drew1) | exact HB.out)) hb); clear HO_7; clear HO_9; clear HO_11; clear HB; have HO_7 := n0_; have HO_9 := n1_; have HO_11 := n2_; have HB := n3_; clear n0_ n1_ n2_ n3_; (try clear hb); (try clear hb2); (try clear hk); (try clear hi)) | ((with_reducible refine gate_callee (f := 38) rfl ?_); refine goesL_ (some 66) rfl rfl Try.func38 (by kernel_rfl) rfl #[.slice A1 l1.length c1, .int .i64 a2] rfl (by (try simp only [List.map_toArray, List.map_cons, List.map_nil]); first | done | rfl | (simp only [List.length_drop, List.length_take]; rfl)) ?_; (with_reducible refine (gangsawref01_In.calls kj12 _ _ l1 a2 t599 _ ?side1 ?side2 A22.out).mono ?_); (case side1 => repeat (first | exact (Kd.C_below HR1.out HB.out) | (with_reducible refine Kd.C_alloc ?_ _) | (with_reducible refine Kd.C_drewN ?_ _) | (with_reducible refine Kd.C_drew ?_))); (case side2 => exact HC1.out); rintro e w25 ⟨rfl, hb⟩; refine ⟨_, rfl, ?_⟩; have n0_ := Aside0.mk (Kd.R_below (by (with_reducible repeat (first | apply Kd.R_alloc | apply Kd.R_drewN | apply Kd.R_drew)); exact HO_7.out) hb); have n1_ := Aside0.mk (Kd.R_below (by (with_reducible repeat (first | apply Kd.R_alloc | apply Kd.R_drewN | apply Kd.R_drew)); exact HO_9.out) hb); have n2_ := Aside0.mk (Kd.R_below (by (with_reducible repeat (first | apply Kd.R_alloc | apply Kd.R_drewN | apply Kd.R_drew)); exact HO_11.out) hb); have n3_ := Aside0.mk (below_step (by repeat (first | (with_reducible first | exact HB.out | apply below_alloc | apply pw_below_drewN | apply below_drew1) | exact HB.out)) hb); clear HO_7; clear HO_9; clear HO_11; clear HB; have HO_7 := n0_; have HO_9 := n1_; have HO_11 := n2_; have HB := n3_; clear n0_ n1_ n2_ n3_; (try clear hb); (try clear hb2); (try clear hk); (try clear hi)))
                (try simp only [Act.put, List.setIfInBounds_toArray, List.set_cons_zero, List.set_cons_succ])
                go_cut [95] (fun v95 wc => ∃ (kq : Nat) (x95_22 : Bool), v95 = .bool x95_22 ∧ Aside0 (gangsawlaw01_SpanMembers.j2 kq t586 t590 t594 x95_22 = some r) ∧ Aside0 (kq ≤ kj12) ∧ Aside0 (Kd.R k23 23 wc w.heap.size (fun k_ => some k_ ≠ (v591 : Value).ownBlock ∧ some k_ ≠ (v595 : Value).ownBlock) v587 t586) ∧ Aside0 (Kd.R k23 23 wc w.heap.size (fun k_ => some k_ ≠ (v587 : Value).ownBlock ∧ some k_ ≠ (v595 : Value).ownBlock) v591 t590) ∧ Aside0 (Kd.R k23 23 wc w.heap.size (fun k_ => some k_ ≠ (v587 : Value).ownBlock ∧ some k_ ≠ (v591 : Value).ownBlock) v595 t594) ∧ Aside0 (Below w.heap.size w wc))
                case first =>
                  have H := HC23.out
                  clear HC23
                  replace H := Option.bind_eq_some_iff.mp H
                  obtain ⟨t600, A260, H⟩ := H
                  replace H : (if t598 = true then (if (t600 != true) = true then (gangsawlaw01_SpanMembers.j2 kj12 t586 t590 t594 true) else ((gangsawref01_In.f kj12 t590 a2).bind fun t601 => (if (t601 != (!t599)) = true then (gangsawlaw01_SpanMembers.j2 kj12 t586 t590 t594 true) else ((gangsawref01_In.f kj12 t594 a2).bind fun t602 => (gangsawlaw01_SpanMembers.j2 kj12 t586 t590 t594 (t602 != t599)))))) else (if (t600 != t599) = true then (gangsawlaw01_SpanMembers.j2 kj12 t586 t590 t594 true) else ((gangsawref01_In.f kj12 t590 a2).bind fun t603 => (if (t603 != false) = true then (gangsawlaw01_SpanMembers.j2 kj12 t586 t590 t594 true) else ((gangsawref01_In.f kj12 t594 a2).bind fun t604 => (gangsawlaw01_SpanMembers.j2 kj12 t586 t590 t594 (t604 != false))))))) = some r := H
                  have A26 := Aside0.mk A260
                  clear A260
                  by_cases c27 : t598 = true
                  · subst c27
                    have H1 : (if (t600 != true) = true then (gangsawlaw01_SpanMembers.j2 kj12 t586 t590 t594 true) else ((gangsawref01_In.f kj12 t590 a2).bind fun t601 => (if (t601 != (!t599)) = true then (gangsawlaw01_SpanMembers.j2 kj12 t586 t590 t594 true) else ((gangsawref01_In.f kj12 t594 a2).bind fun t602 => (gangsawlaw01_SpanMembers.j2 kj12 t586 t590 t594 (t602 != t599)))))) = some r := by rw [if_pos rfl] at H; exact H
                    clear H
                    have H := H1
                    clear H1
                    by_cases c28 : (t600 != true) = true
                    · rw [if_pos c28] at H
                      have c28b0 : (t600 != true) = true := c28
                      (try (have c28b1 : decide (t600 = true) = false := by simpa using c28))
                      (try (have c28b2 : (t600 == true) = false := by simpa using c28))
                      (try (have c28b3 : ¬ (t600 = true) := by simpa using c28))
                      clear c28
                      (first | rw [c28b0] | (simp only [i64_w, i32_w]; rw [c28b0]) | skip)
                      have H' := Aside0.mk H
                      clear H
                      obtain ⟨Ao29, co29, eo29⟩ := Kd.R_slice HO_7.out
                      subst eo29
                      go_wp2_with (first | ((with_reducible refine gate_callee (f := 38) rfl ?_); refine goesL_ (some 69) rfl rfl Try.func38 (by kernel_rfl) rfl #[.slice Ao29 t586.length co29, .int .i64 a2] rfl (by (try simp only [List.map_toArray, List.map_cons, List.map_nil]); first | done | rfl | (simp only [List.length_drop, List.length_take]; rfl)) ?_; (with_reducible refine (gangsawref01_In.calls kj12 _ _ t586 a2 t600 _ ?side1 ?side2 A26.out).mono ?_); (case side1 => repeat (first | exact (Kd.R_reads' HO_7.out).2.2 | (with_reducible refine Kd.C_alloc ?_ _) | (with_reducible refine Kd.C_drewN ?_ _) | (with_reducible refine Kd.C_drew ?_))); (case side2 => exact (Kd.R_reads' HO_7.out).2.1); rintro e w30 ⟨rfl, hb⟩; refine ⟨_, rfl, ?_⟩; have n0_ := Aside0.mk (Kd.R_below (by (with_reducible repeat (first | apply Kd.R_alloc | apply Kd.R_drewN | apply Kd.R_drew)); exact HO_7.out) hb); have n1_ := Aside0.mk (Kd.R_below (by (with_reducible repeat (first | apply Kd.R_alloc | apply Kd.R_drewN | apply Kd.R_drew)); exact HO_9.out) hb); have n2_ := Aside0.mk (Kd.R_below (by (with_reducible repeat (first | apply Kd.R_alloc | apply Kd.R_drewN | apply Kd.R_drew)); exact HO_11.out) hb); have n3_ := Aside0.mk (below_step (by repeat (first | (with_reducible first | exact HB.out | apply below_alloc | apply pw_below_drewN | apply below_drew1) | exact HB.out)) hb); clear HO_7; clear HO_9; clear HO_11; clear HB; have HO_7 := n0_; have HO_9 := n1_; have HO_11 := n2_; have HB := n3_; clear n0_ n1_ n2_ n3_; (try clear hb); (try clear hb2); (try clear hk); (try clear hi)))
                      go_meet
                      case rel => exact ⟨_, (true), (by first | rfl | (simp; done) | (simp [*]; done)), H', ⟨by have := HJ5.out; have := HJ12.out; first | omega | exact Nat.le_refl _⟩, ⟨by (with_reducible repeat (first | apply Kd.R_alloc | apply Kd.R_drewN | apply Kd.R_drew)); exact HO_7.out⟩, ⟨by (with_reducible repeat (first | apply Kd.R_alloc | apply Kd.R_drewN | apply Kd.R_drew)); exact HO_9.out⟩, ⟨by (with_reducible repeat (first | apply Kd.R_alloc | apply Kd.R_drewN | apply Kd.R_drew)); exact HO_11.out⟩, ⟨by repeat (first | (with_reducible first | exact HB.out | apply below_alloc | apply pw_below_drewN | apply below_drew1) | exact HB.out)⟩⟩
                    · rw [if_neg c28] at H
                      have c28b0 : (t600 != true) = false := by simpa using c28
                      (try (have c28b1 : decide (t600 = true) = true := by simpa using c28))
                      (try (have c28b2 : (t600 == true) = true := by simpa using c28))
                      clear c28
                      (first | rw [c28b0] | (simp only [i64_w, i32_w]; rw [c28b0]) | skip)
                      replace H := Option.bind_eq_some_iff.mp H
                      obtain ⟨t601, A310, H⟩ := H
                      replace H : (if (t601 != (!t599)) = true then (gangsawlaw01_SpanMembers.j2 kj12 t586 t590 t594 true) else ((gangsawref01_In.f kj12 t594 a2).bind fun t602 => (gangsawlaw01_SpanMembers.j2 kj12 t586 t590 t594 (t602 != t599)))) = some r := H
                      have A31 := Aside0.mk A310
                      clear A310
                      by_cases c32 : (t601 != (!t599)) = true
                      · rw [if_pos c32] at H
                        have c32b0 : (t601 != (!t599)) = true := c32
                        (try (have c32b1 : decide (t601 = (!t599)) = false := by simpa using c32))
                        (try (have c32b2 : (t601 == (!t599)) = false := by simpa using c32))
                        (try (have c32b3 : ¬ (t601 = (!t599)) := by simpa using c32))
                        clear c32
                        have H' := Aside0.mk H
                        clear H
                        obtain ⟨Ao33, co33, eo33⟩ := Kd.R_slice HO_7.out
                        subst eo33
                        go_wp2_with (first | ((with_reducible refine gate_callee (f := 38) rfl ?_); refine goesL_ (some 69) rfl rfl Try.func38 (by kernel_rfl) rfl #[.slice Ao33 t586.length co33, .int .i64 a2] rfl (by (try simp only [List.map_toArray, List.map_cons, List.map_nil]); first | done | rfl | (simp only [List.length_drop, List.length_take]; rfl)) ?_; (with_reducible refine (gangsawref01_In.calls kj12 _ _ t586 a2 t600 _ ?side1 ?side2 A26.out).mono ?_); (case side1 => repeat (first | exact (Kd.R_reads' HO_7.out).2.2 | (with_reducible refine Kd.C_alloc ?_ _) | (with_reducible refine Kd.C_drewN ?_ _) | (with_reducible refine Kd.C_drew ?_))); (case side2 => exact (Kd.R_reads' HO_7.out).2.1); rintro e w34 ⟨rfl, hb⟩; refine ⟨_, rfl, ?_⟩; have n0_ := Aside0.mk (Kd.R_below (by (with_reducible repeat (first | apply Kd.R_alloc | apply Kd.R_drewN | apply Kd.R_drew)); exact HO_7.out) hb); have n1_ := Aside0.mk (Kd.R_below (by (with_reducible repeat (first | apply Kd.R_alloc | apply Kd.R_drewN | apply Kd.R_drew)); exact HO_9.out) hb); have n2_ := Aside0.mk (Kd.R_below (by (with_reducible repeat (first | apply Kd.R_alloc | apply Kd.R_drewN | apply Kd.R_drew)); exact HO_11.out) hb); have n3_ := Aside0.mk (below_step (by repeat (first | (with_reducible first | exact HB.out | apply below_alloc | apply pw_below_drewN | apply below_drew1) | exact HB.out)) hb); clear HO_7; clear HO_9; clear HO_11; clear HB; have HO_7 := n0_; have HO_9 := n1_; have HO_11 := n2_; have HB := n3_; clear n0_ n1_ n2_ n3_; (try clear hb); (try clear hb2); (try clear hk); (try clear hi); obtain ⟨Ao35, co35, eo35⟩ := Kd.R_slice HO_9.out; subst eo35) | (go_at_call 38; (with_reducible refine (gangsawref01_In.calls kj12 _ _ t590 a2 t601 _ ?side1 ?side2 A31.out).mono ?_); (case side1 => repeat (first | exact (Kd.R_reads' HO_9.out).2.2 | (with_reducible refine Kd.C_alloc ?_ _) | (with_reducible refine Kd.C_drewN ?_ _) | (with_reducible refine Kd.C_drew ?_))); (case side2 => exact (Kd.R_reads' HO_9.out).2.1); rintro e w36 ⟨rfl, hb⟩; have n0_ := Aside0.mk (Kd.R_below (by (with_reducible repeat (first | apply Kd.R_alloc | apply Kd.R_drewN | apply Kd.R_drew)); exact HO_7.out) hb); have n1_ := Aside0.mk (Kd.R_below (by (with_reducible repeat (first | apply Kd.R_alloc | apply Kd.R_drewN | apply Kd.R_drew)); exact HO_9.out) hb); have n2_ := Aside0.mk (Kd.R_below (by (with_reducible repeat (first | apply Kd.R_alloc | apply Kd.R_drewN | apply Kd.R_drew)); exact HO_11.out) hb); have n3_ := Aside0.mk (below_step (by repeat (first | (with_reducible first | exact HB.out | apply below_alloc | apply pw_below_drewN | apply below_drew1) | exact HB.out)) hb); clear HO_7; clear HO_9; clear HO_11; clear HB; have HO_7 := n0_; have HO_9 := n1_; have HO_11 := n2_; have HB := n3_; clear n0_ n1_ n2_ n3_; (try clear hb); (try clear hb2); (try clear hk); (try clear hi)))
                        go_meet
                        case rel => exact ⟨_, (true), (by first | rfl | (simp; done) | (simp [*]; done)), H', ⟨by have := HJ5.out; have := HJ12.out; first | omega | exact Nat.le_refl _⟩, ⟨by (with_reducible repeat (first | apply Kd.R_alloc | apply Kd.R_drewN | apply Kd.R_drew)); exact HO_7.out⟩, ⟨by (with_reducible repeat (first | apply Kd.R_alloc | apply Kd.R_drewN | apply Kd.R_drew)); exact HO_9.out⟩, ⟨by (with_reducible repeat (first | apply Kd.R_alloc | apply Kd.R_drewN | apply Kd.R_drew)); exact HO_11.out⟩, ⟨by repeat (first | (with_reducible first | exact HB.out | apply below_alloc | apply pw_below_drewN | apply below_drew1) | exact HB.out)⟩⟩
                      · rw [if_neg c32] at H
                        have c32b0 : (t601 != (!t599)) = false := by simpa using c32
                        (try (have c32b1 : decide (t601 = (!t599)) = true := by simpa using c32))
                        (try (have c32b2 : (t601 == (!t599)) = true := by simpa using c32))
                        (try (have c32b3 : t601 = (!t599) := by first | exact bne_eq_false_iff_eq.mp (Bool.eq_false_iff.mpr c32) | exact beq_iff_eq.mp c32))
                        clear c32
                        replace H := Option.bind_eq_some_iff.mp H
                        obtain ⟨t602, A370, H⟩ := H
                        replace H : (gangsawlaw01_SpanMembers.j2 kj12 t586 t590 t594 (t602 != t599)) = some r := H
                        have A37 := Aside0.mk A370
                        clear A370
                        have H' := Aside0.mk H
                        clear H
                        obtain ⟨Ao38, co38, eo38⟩ := Kd.R_slice HO_7.out
                        subst eo38
                        go_wp2_with (first | ((with_reducible refine gate_callee (f := 38) rfl ?_); refine goesL_ (some 69) rfl rfl Try.func38 (by kernel_rfl) rfl #[.slice Ao38 t586.length co38, .int .i64 a2] rfl (by (try simp only [List.map_toArray, List.map_cons, List.map_nil]); first | done | rfl | (simp only [List.length_drop, List.length_take]; rfl)) ?_; (with_reducible refine (gangsawref01_In.calls kj12 _ _ t586 a2 t600 _ ?side1 ?side2 A26.out).mono ?_); (case side1 => repeat (first | exact (Kd.R_reads' HO_7.out).2.2 | (with_reducible refine Kd.C_alloc ?_ _) | (with_reducible refine Kd.C_drewN ?_ _) | (with_reducible refine Kd.C_drew ?_))); (case side2 => exact (Kd.R_reads' HO_7.out).2.1); rintro e w39 ⟨rfl, hb⟩; refine ⟨_, rfl, ?_⟩; have n0_ := Aside0.mk (Kd.R_below (by (with_reducible repeat (first | apply Kd.R_alloc | apply Kd.R_drewN | apply Kd.R_drew)); exact HO_7.out) hb); have n1_ := Aside0.mk (Kd.R_below (by (with_reducible repeat (first | apply Kd.R_alloc | apply Kd.R_drewN | apply Kd.R_drew)); exact HO_9.out) hb); have n2_ := Aside0.mk (Kd.R_below (by (with_reducible repeat (first | apply Kd.R_alloc | apply Kd.R_drewN | apply Kd.R_drew)); exact HO_11.out) hb); have n3_ := Aside0.mk (below_step (by repeat (first | (with_reducible first | exact HB.out | apply below_alloc | apply pw_below_drewN | apply below_drew1) | exact HB.out)) hb); clear HO_7; clear HO_9; clear HO_11; clear HB; have HO_7 := n0_; have HO_9 := n1_; have HO_11 := n2_; have HB := n3_; clear n0_ n1_ n2_ n3_; (try clear hb); (try clear hb2); (try clear hk); (try clear hi); obtain ⟨Ao40, co40, eo40⟩ := Kd.R_slice HO_9.out; subst eo40) | (go_at_call 38; (with_reducible refine (gangsawref01_In.calls kj12 _ _ t590 a2 t601 _ ?side1 ?side2 A31.out).mono ?_); (case side1 => repeat (first | exact (Kd.R_reads' HO_9.out).2.2 | (with_reducible refine Kd.C_alloc ?_ _) | (with_reducible refine Kd.C_drewN ?_ _) | (with_reducible refine Kd.C_drew ?_))); (case side2 => exact (Kd.R_reads' HO_9.out).2.1); rintro e w41 ⟨rfl, hb⟩; have n0_ := Aside0.mk (Kd.R_below (by (with_reducible repeat (first | apply Kd.R_alloc | apply Kd.R_drewN | apply Kd.R_drew)); exact HO_7.out) hb); have n1_ := Aside0.mk (Kd.R_below (by (with_reducible repeat (first | apply Kd.R_alloc | apply Kd.R_drewN | apply Kd.R_drew)); exact HO_9.out) hb); have n2_ := Aside0.mk (Kd.R_below (by (with_reducible repeat (first | apply Kd.R_alloc | apply Kd.R_drewN | apply Kd.R_drew)); exact HO_11.out) hb); have n3_ := Aside0.mk (below_step (by repeat (first | (with_reducible first | exact HB.out | apply below_alloc | apply pw_below_drewN | apply below_drew1) | exact HB.out)) hb); clear HO_7; clear HO_9; clear HO_11; clear HB; have HO_7 := n0_; have HO_9 := n1_; have HO_11 := n2_; have HB := n3_; clear n0_ n1_ n2_ n3_; (try clear hb); (try clear hb2); (try clear hk); (try clear hi); obtain ⟨Ao42, co42, eo42⟩ := Kd.R_slice HO_11.out; subst eo42) | (go_at_call 38; (with_reducible refine (gangsawref01_In.calls kj12 _ _ t594 a2 t602 _ ?side1 ?side2 A37.out).mono ?_); (case side1 => repeat (first | exact (Kd.R_reads' HO_11.out).2.2 | (with_reducible refine Kd.C_alloc ?_ _) | (with_reducible refine Kd.C_drewN ?_ _) | (with_reducible refine Kd.C_drew ?_))); (case side2 => exact (Kd.R_reads' HO_11.out).2.1); rintro e w43 ⟨rfl, hb⟩; have n0_ := Aside0.mk (Kd.R_below (by (with_reducible repeat (first | apply Kd.R_alloc | apply Kd.R_drewN | apply Kd.R_drew)); exact HO_7.out) hb); have n1_ := Aside0.mk (Kd.R_below (by (with_reducible repeat (first | apply Kd.R_alloc | apply Kd.R_drewN | apply Kd.R_drew)); exact HO_9.out) hb); have n2_ := Aside0.mk (Kd.R_below (by (with_reducible repeat (first | apply Kd.R_alloc | apply Kd.R_drewN | apply Kd.R_drew)); exact HO_11.out) hb); have n3_ := Aside0.mk (below_step (by repeat (first | (with_reducible first | exact HB.out | apply below_alloc | apply pw_below_drewN | apply below_drew1) | exact HB.out)) hb); clear HO_7; clear HO_9; clear HO_11; clear HB; have HO_7 := n0_; have HO_9 := n1_; have HO_11 := n2_; have HB := n3_; clear n0_ n1_ n2_ n3_; (try clear hb); (try clear hb2); (try clear hk); (try clear hi)))
                        (try any_goals contradiction)
                        go_meet
                        case rel => exact ⟨_, ((t602 != t599)), (by first | rfl | (simp; done) | (simp [*]; done)), H', ⟨by have := HJ5.out; have := HJ12.out; first | omega | exact Nat.le_refl _⟩, ⟨by (with_reducible repeat (first | apply Kd.R_alloc | apply Kd.R_drewN | apply Kd.R_drew)); exact HO_7.out⟩, ⟨by (with_reducible repeat (first | apply Kd.R_alloc | apply Kd.R_drewN | apply Kd.R_drew)); exact HO_9.out⟩, ⟨by (with_reducible repeat (first | apply Kd.R_alloc | apply Kd.R_drewN | apply Kd.R_drew)); exact HO_11.out⟩, ⟨by repeat (first | (with_reducible first | exact HB.out | apply below_alloc | apply pw_below_drewN | apply below_drew1) | exact HB.out)⟩⟩
                  · replace c27 := Bool.eq_false_iff.mpr c27
                    subst c27
                    have H1 : (if (t600 != t599) = true then (gangsawlaw01_SpanMembers.j2 kj12 t586 t590 t594 true) else ((gangsawref01_In.f kj12 t590 a2).bind fun t603 => (if (t603 != false) = true then (gangsawlaw01_SpanMembers.j2 kj12 t586 t590 t594 true) else ((gangsawref01_In.f kj12 t594 a2).bind fun t604 => (gangsawlaw01_SpanMembers.j2 kj12 t586 t590 t594 (t604 != false)))))) = some r := by rw [if_neg (show ¬ (false = true) by decide)] at H; exact H
                    clear H
                    have H := H1
                    clear H1
                    by_cases c44 : (t600 != t599) = true
                    · rw [if_pos c44] at H
                      have c44b0 : (t600 != t599) = true := c44
                      (try (have c44b1 : decide (t600 = t599) = false := by simpa using c44))
                      (try (have c44b2 : (t600 == t599) = false := by simpa using c44))
                      (try (have c44b3 : ¬ (t600 = t599) := by simpa using c44))
                      clear c44
                      have H' := Aside0.mk H
                      clear H
                      obtain ⟨Ao45, co45, eo45⟩ := Kd.R_slice HO_7.out
                      subst eo45
                      go_wp2_with (first | ((with_reducible refine gate_callee (f := 38) rfl ?_); refine goesL_ (some 69) rfl rfl Try.func38 (by kernel_rfl) rfl #[.slice Ao45 t586.length co45, .int .i64 a2] rfl (by (try simp only [List.map_toArray, List.map_cons, List.map_nil]); first | done | rfl | (simp only [List.length_drop, List.length_take]; rfl)) ?_; (with_reducible refine (gangsawref01_In.calls kj12 _ _ t586 a2 t600 _ ?side1 ?side2 A26.out).mono ?_); (case side1 => repeat (first | exact (Kd.R_reads' HO_7.out).2.2 | (with_reducible refine Kd.C_alloc ?_ _) | (with_reducible refine Kd.C_drewN ?_ _) | (with_reducible refine Kd.C_drew ?_))); (case side2 => exact (Kd.R_reads' HO_7.out).2.1); rintro e w46 ⟨rfl, hb⟩; refine ⟨_, rfl, ?_⟩; have n0_ := Aside0.mk (Kd.R_below (by (with_reducible repeat (first | apply Kd.R_alloc | apply Kd.R_drewN | apply Kd.R_drew)); exact HO_7.out) hb); have n1_ := Aside0.mk (Kd.R_below (by (with_reducible repeat (first | apply Kd.R_alloc | apply Kd.R_drewN | apply Kd.R_drew)); exact HO_9.out) hb); have n2_ := Aside0.mk (Kd.R_below (by (with_reducible repeat (first | apply Kd.R_alloc | apply Kd.R_drewN | apply Kd.R_drew)); exact HO_11.out) hb); have n3_ := Aside0.mk (below_step (by repeat (first | (with_reducible first | exact HB.out | apply below_alloc | apply pw_below_drewN | apply below_drew1) | exact HB.out)) hb); clear HO_7; clear HO_9; clear HO_11; clear HB; have HO_7 := n0_; have HO_9 := n1_; have HO_11 := n2_; have HB := n3_; clear n0_ n1_ n2_ n3_; (try clear hb); (try clear hb2); (try clear hk); (try clear hi)))
                      go_meet
                      case rel => exact ⟨_, (true), (by first | rfl | (simp; done) | (simp [*]; done)), H', ⟨by have := HJ5.out; have := HJ12.out; first | omega | exact Nat.le_refl _⟩, ⟨by (with_reducible repeat (first | apply Kd.R_alloc | apply Kd.R_drewN | apply Kd.R_drew)); exact HO_7.out⟩, ⟨by (with_reducible repeat (first | apply Kd.R_alloc | apply Kd.R_drewN | apply Kd.R_drew)); exact HO_9.out⟩, ⟨by (with_reducible repeat (first | apply Kd.R_alloc | apply Kd.R_drewN | apply Kd.R_drew)); exact HO_11.out⟩, ⟨by repeat (first | (with_reducible first | exact HB.out | apply below_alloc | apply pw_below_drewN | apply below_drew1) | exact HB.out)⟩⟩
                    · rw [if_neg c44] at H
                      have c44b0 : (t600 != t599) = false := by simpa using c44
                      (try (have c44b1 : decide (t600 = t599) = true := by simpa using c44))
                      (try (have c44b2 : (t600 == t599) = true := by simpa using c44))
                      clear c44
                      replace H := Option.bind_eq_some_iff.mp H
                      obtain ⟨t603, A470, H⟩ := H
                      replace H : (if (t603 != false) = true then (gangsawlaw01_SpanMembers.j2 kj12 t586 t590 t594 true) else ((gangsawref01_In.f kj12 t594 a2).bind fun t604 => (gangsawlaw01_SpanMembers.j2 kj12 t586 t590 t594 (t604 != false)))) = some r := H
                      have A47 := Aside0.mk A470
                      clear A470
                      by_cases c48 : (t603 != false) = true
                      · rw [if_pos c48] at H
                        have c48b0 : (t603 != false) = true := c48
                        (try (have c48b1 : decide (t603 = false) = false := by simpa using c48))
                        (try (have c48b2 : (t603 == false) = false := by simpa using c48))
                        (try (have c48b3 : ¬ (t603 = false) := by simpa using c48))
                        clear c48
                        have H' := Aside0.mk H
                        clear H
                        obtain ⟨Ao49, co49, eo49⟩ := Kd.R_slice HO_7.out
                        subst eo49
                        go_wp2_with (first | ((with_reducible refine gate_callee (f := 38) rfl ?_); refine goesL_ (some 69) rfl rfl Try.func38 (by kernel_rfl) rfl #[.slice Ao49 t586.length co49, .int .i64 a2] rfl (by (try simp only [List.map_toArray, List.map_cons, List.map_nil]); first | done | rfl | (simp only [List.length_drop, List.length_take]; rfl)) ?_; (with_reducible refine (gangsawref01_In.calls kj12 _ _ t586 a2 t600 _ ?side1 ?side2 A26.out).mono ?_); (case side1 => repeat (first | exact (Kd.R_reads' HO_7.out).2.2 | (with_reducible refine Kd.C_alloc ?_ _) | (with_reducible refine Kd.C_drewN ?_ _) | (with_reducible refine Kd.C_drew ?_))); (case side2 => exact (Kd.R_reads' HO_7.out).2.1); rintro e w50 ⟨rfl, hb⟩; refine ⟨_, rfl, ?_⟩; have n0_ := Aside0.mk (Kd.R_below (by (with_reducible repeat (first | apply Kd.R_alloc | apply Kd.R_drewN | apply Kd.R_drew)); exact HO_7.out) hb); have n1_ := Aside0.mk (Kd.R_below (by (with_reducible repeat (first | apply Kd.R_alloc | apply Kd.R_drewN | apply Kd.R_drew)); exact HO_9.out) hb); have n2_ := Aside0.mk (Kd.R_below (by (with_reducible repeat (first | apply Kd.R_alloc | apply Kd.R_drewN | apply Kd.R_drew)); exact HO_11.out) hb); have n3_ := Aside0.mk (below_step (by repeat (first | (with_reducible first | exact HB.out | apply below_alloc | apply pw_below_drewN | apply below_drew1) | exact HB.out)) hb); clear HO_7; clear HO_9; clear HO_11; clear HB; have HO_7 := n0_; have HO_9 := n1_; have HO_11 := n2_; have HB := n3_; clear n0_ n1_ n2_ n3_; (try clear hb); (try clear hb2); (try clear hk); (try clear hi); obtain ⟨Ao51, co51, eo51⟩ := Kd.R_slice HO_9.out; subst eo51) | (go_at_call 38; (with_reducible refine (gangsawref01_In.calls kj12 _ _ t590 a2 t603 _ ?side1 ?side2 A47.out).mono ?_); (case side1 => repeat (first | exact (Kd.R_reads' HO_9.out).2.2 | (with_reducible refine Kd.C_alloc ?_ _) | (with_reducible refine Kd.C_drewN ?_ _) | (with_reducible refine Kd.C_drew ?_))); (case side2 => exact (Kd.R_reads' HO_9.out).2.1); rintro e w52 ⟨rfl, hb⟩; have n0_ := Aside0.mk (Kd.R_below (by (with_reducible repeat (first | apply Kd.R_alloc | apply Kd.R_drewN | apply Kd.R_drew)); exact HO_7.out) hb); have n1_ := Aside0.mk (Kd.R_below (by (with_reducible repeat (first | apply Kd.R_alloc | apply Kd.R_drewN | apply Kd.R_drew)); exact HO_9.out) hb); have n2_ := Aside0.mk (Kd.R_below (by (with_reducible repeat (first | apply Kd.R_alloc | apply Kd.R_drewN | apply Kd.R_drew)); exact HO_11.out) hb); have n3_ := Aside0.mk (below_step (by repeat (first | (with_reducible first | exact HB.out | apply below_alloc | apply pw_below_drewN | apply below_drew1) | exact HB.out)) hb); clear HO_7; clear HO_9; clear HO_11; clear HB; have HO_7 := n0_; have HO_9 := n1_; have HO_11 := n2_; have HB := n3_; clear n0_ n1_ n2_ n3_; (try clear hb); (try clear hb2); (try clear hk); (try clear hi)))
                        go_meet
                        case rel => exact ⟨_, (true), (by first | rfl | (simp; done) | (simp [*]; done)), H', ⟨by have := HJ5.out; have := HJ12.out; first | omega | exact Nat.le_refl _⟩, ⟨by (with_reducible repeat (first | apply Kd.R_alloc | apply Kd.R_drewN | apply Kd.R_drew)); exact HO_7.out⟩, ⟨by (with_reducible repeat (first | apply Kd.R_alloc | apply Kd.R_drewN | apply Kd.R_drew)); exact HO_9.out⟩, ⟨by (with_reducible repeat (first | apply Kd.R_alloc | apply Kd.R_drewN | apply Kd.R_drew)); exact HO_11.out⟩, ⟨by repeat (first | (with_reducible first | exact HB.out | apply below_alloc | apply pw_below_drewN | apply below_drew1) | exact HB.out)⟩⟩
                      · rw [if_neg c48] at H
                        have c48b0 : (t603 != false) = false := by simpa using c48
                        (try (have c48b1 : decide (t603 = false) = true := by simpa using c48))
                        (try (have c48b2 : (t603 == false) = true := by simpa using c48))
                        clear c48
                        replace H := Option.bind_eq_some_iff.mp H
                        obtain ⟨t604, A530, H⟩ := H
                        replace H : (gangsawlaw01_SpanMembers.j2 kj12 t586 t590 t594 (t604 != false)) = some r := H
                        have A53 := Aside0.mk A530
                        clear A530
                        have H' := Aside0.mk H
                        clear H
                        obtain ⟨Ao54, co54, eo54⟩ := Kd.R_slice HO_7.out
                        subst eo54
                        go_wp2_with (first | ((with_reducible refine gate_callee (f := 38) rfl ?_); refine goesL_ (some 69) rfl rfl Try.func38 (by kernel_rfl) rfl #[.slice Ao54 t586.length co54, .int .i64 a2] rfl (by (try simp only [List.map_toArray, List.map_cons, List.map_nil]); first | done | rfl | (simp only [List.length_drop, List.length_take]; rfl)) ?_; (with_reducible refine (gangsawref01_In.calls kj12 _ _ t586 a2 t600 _ ?side1 ?side2 A26.out).mono ?_); (case side1 => repeat (first | exact (Kd.R_reads' HO_7.out).2.2 | (with_reducible refine Kd.C_alloc ?_ _) | (with_reducible refine Kd.C_drewN ?_ _) | (with_reducible refine Kd.C_drew ?_))); (case side2 => exact (Kd.R_reads' HO_7.out).2.1); rintro e w55 ⟨rfl, hb⟩; refine ⟨_, rfl, ?_⟩; have n0_ := Aside0.mk (Kd.R_below (by (with_reducible repeat (first | apply Kd.R_alloc | apply Kd.R_drewN | apply Kd.R_drew)); exact HO_7.out) hb); have n1_ := Aside0.mk (Kd.R_below (by (with_reducible repeat (first | apply Kd.R_alloc | apply Kd.R_drewN | apply Kd.R_drew)); exact HO_9.out) hb); have n2_ := Aside0.mk (Kd.R_below (by (with_reducible repeat (first | apply Kd.R_alloc | apply Kd.R_drewN | apply Kd.R_drew)); exact HO_11.out) hb); have n3_ := Aside0.mk (below_step (by repeat (first | (with_reducible first | exact HB.out | apply below_alloc | apply pw_below_drewN | apply below_drew1) | exact HB.out)) hb); clear HO_7; clear HO_9; clear HO_11; clear HB; have HO_7 := n0_; have HO_9 := n1_; have HO_11 := n2_; have HB := n3_; clear n0_ n1_ n2_ n3_; (try clear hb); (try clear hb2); (try clear hk); (try clear hi); obtain ⟨Ao56, co56, eo56⟩ := Kd.R_slice HO_9.out; subst eo56) | (go_at_call 38; (with_reducible refine (gangsawref01_In.calls kj12 _ _ t590 a2 t603 _ ?side1 ?side2 A47.out).mono ?_); (case side1 => repeat (first | exact (Kd.R_reads' HO_9.out).2.2 | (with_reducible refine Kd.C_alloc ?_ _) | (with_reducible refine Kd.C_drewN ?_ _) | (with_reducible refine Kd.C_drew ?_))); (case side2 => exact (Kd.R_reads' HO_9.out).2.1); rintro e w57 ⟨rfl, hb⟩; have n0_ := Aside0.mk (Kd.R_below (by (with_reducible repeat (first | apply Kd.R_alloc | apply Kd.R_drewN | apply Kd.R_drew)); exact HO_7.out) hb); have n1_ := Aside0.mk (Kd.R_below (by (with_reducible repeat (first | apply Kd.R_alloc | apply Kd.R_drewN | apply Kd.R_drew)); exact HO_9.out) hb); have n2_ := Aside0.mk (Kd.R_below (by (with_reducible repeat (first | apply Kd.R_alloc | apply Kd.R_drewN | apply Kd.R_drew)); exact HO_11.out) hb); have n3_ := Aside0.mk (below_step (by repeat (first | (with_reducible first | exact HB.out | apply below_alloc | apply pw_below_drewN | apply below_drew1) | exact HB.out)) hb); clear HO_7; clear HO_9; clear HO_11; clear HB; have HO_7 := n0_; have HO_9 := n1_; have HO_11 := n2_; have HB := n3_; clear n0_ n1_ n2_ n3_; (try clear hb); (try clear hb2); (try clear hk); (try clear hi); obtain ⟨Ao58, co58, eo58⟩ := Kd.R_slice HO_11.out; subst eo58) | (go_at_call 38; (with_reducible refine (gangsawref01_In.calls kj12 _ _ t594 a2 t604 _ ?side1 ?side2 A53.out).mono ?_); (case side1 => repeat (first | exact (Kd.R_reads' HO_11.out).2.2 | (with_reducible refine Kd.C_alloc ?_ _) | (with_reducible refine Kd.C_drewN ?_ _) | (with_reducible refine Kd.C_drew ?_))); (case side2 => exact (Kd.R_reads' HO_11.out).2.1); rintro e w59 ⟨rfl, hb⟩; have n0_ := Aside0.mk (Kd.R_below (by (with_reducible repeat (first | apply Kd.R_alloc | apply Kd.R_drewN | apply Kd.R_drew)); exact HO_7.out) hb); have n1_ := Aside0.mk (Kd.R_below (by (with_reducible repeat (first | apply Kd.R_alloc | apply Kd.R_drewN | apply Kd.R_drew)); exact HO_9.out) hb); have n2_ := Aside0.mk (Kd.R_below (by (with_reducible repeat (first | apply Kd.R_alloc | apply Kd.R_drewN | apply Kd.R_drew)); exact HO_11.out) hb); have n3_ := Aside0.mk (below_step (by repeat (first | (with_reducible first | exact HB.out | apply below_alloc | apply pw_below_drewN | apply below_drew1) | exact HB.out)) hb); clear HO_7; clear HO_9; clear HO_11; clear HB; have HO_7 := n0_; have HO_9 := n1_; have HO_11 := n2_; have HB := n3_; clear n0_ n1_ n2_ n3_; (try clear hb); (try clear hb2); (try clear hk); (try clear hi)))
                        go_meet
                        case rel => exact ⟨_, ((t604 != false)), (by first | rfl | (simp; done) | (simp [*]; done)), H', ⟨by have := HJ5.out; have := HJ12.out; first | omega | exact Nat.le_refl _⟩, ⟨by (with_reducible repeat (first | apply Kd.R_alloc | apply Kd.R_drewN | apply Kd.R_drew)); exact HO_7.out⟩, ⟨by (with_reducible repeat (first | apply Kd.R_alloc | apply Kd.R_drewN | apply Kd.R_drew)); exact HO_9.out⟩, ⟨by (with_reducible repeat (first | apply Kd.R_alloc | apply Kd.R_drewN | apply Kd.R_drew)); exact HO_11.out⟩, ⟨by repeat (first | (with_reducible first | exact HB.out | apply below_alloc | apply pw_below_drewN | apply below_drew1) | exact HB.out)⟩⟩
                case rest =>
                  clear HC23
                  try clear c1
                  try clear c2
                  try clear p2
                  try clear c3
                  try clear c4
                  try clear c5
                  try clear c8
                  try clear c8b0
                  try clear c8b1
                  try clear c9
                  try clear c10
                  try clear c17
                  try clear c17b0
                  try clear c17b1
                  try clear c18
                  try clear c18b0
                  try clear c18b1
                  try clear c19
                  try clear c20
                  try clear c20b0
                  try clear c20b1
                  try clear c27
                  try clear c28
                  try clear c28b0
                  try clear c28b1
                  try clear c28b2
                  try clear c31
                  try clear c32
                  try clear c32b0
                  try clear c32b1
                  try clear c32b2
                  try clear c33
                  try clear c38
                  try clear c44
                  try clear c44b0
                  try clear c44b1
                  try clear c44b2
                  try clear c48
                  try clear c48b0
                  try clear c48b1
                  try clear c48b2
                  try clear p2
                  obtain ⟨kq, x95_22, rfl, HA, HJ22, HO_7, HO_9, HO_11, HB⟩ := hcut
                  cases kq with
                  | zero => exact absurd HA.out (by simp [gangsawlaw01_SpanMembers.j2])
                  | succ kj22 =>
                    have H := HA.out
                    clear HA
                    simp only [gangsawlaw01_SpanMembers.j2] at H
                    by_cases c60 : x95_22 = true
                    · subst c60
                      have H1 : (some false) = some r := by rw [if_pos rfl] at H; exact H
                      clear H
                      have H := H1
                      clear H1
                      obtain rfl := Option.some.inj H
                      go_wp2
                      go_ret
                      exact ⟨by first | rfl | (simp [errW_none, errW_some] <;> rfl) | (simp [*, errW_none, errW_some] <;> rfl), by repeat (first | (with_reducible first | exact HB.out | apply below_alloc | apply pw_below_drewN | apply below_drew1) | exact HB.out)⟩
                    · replace c60 := Bool.eq_false_iff.mpr c60
                      subst c60
                      have H1 : ((gangsawlaw01_normal.f kj22 t586).bind fun t605 => (if t605 = true then ((gangsawlaw01_normal.f kj22 t590).bind fun t606 => (if t606 = true then ((gangsawlaw01_normal.f kj22 t594).bind fun t607 => (some t607)) else (some false))) else (some false))) = some r := by rw [if_neg (show ¬ (false = true) by decide)] at H; exact H
                      clear H
                      have H := H1
                      clear H1
                      replace H := Option.bind_eq_some_iff.mp H
                      obtain ⟨t605, A610, H⟩ := H
                      replace H : (if t605 = true then ((gangsawlaw01_normal.f kj22 t590).bind fun t606 => (if t606 = true then ((gangsawlaw01_normal.f kj22 t594).bind fun t607 => (some t607)) else (some false))) else (some false)) = some r := H
                      have A61 := Aside0.mk A610
                      clear A610
                      by_cases c62 : t605 = true
                      · subst c62
                        have H1 : ((gangsawlaw01_normal.f kj22 t590).bind fun t606 => (if t606 = true then ((gangsawlaw01_normal.f kj22 t594).bind fun t607 => (some t607)) else (some false))) = some r := by rw [if_pos rfl] at H; exact H
                        clear H
                        have H := H1
                        clear H1
                        replace H := Option.bind_eq_some_iff.mp H
                        obtain ⟨t606, A630, H⟩ := H
                        replace H : (if t606 = true then ((gangsawlaw01_normal.f kj22 t594).bind fun t607 => (some t607)) else (some false)) = some r := H
                        have A63 := Aside0.mk A630
                        clear A630
                        by_cases c64 : t606 = true
                        · subst c64
                          have H1 : ((gangsawlaw01_normal.f kj22 t594).bind fun t607 => (some t607)) = some r := by rw [if_pos rfl] at H; exact H
                          clear H
                          have H := H1
                          clear H1
                          replace H := Option.bind_eq_some_iff.mp H
                          obtain ⟨t607, A650, H⟩ := H
                          replace H : (some t607) = some r := H
                          have A65 := Aside0.mk A650
                          clear A650
                          obtain rfl := Option.some.inj H
                          obtain ⟨Ao66, co66, eo66⟩ := Kd.R_slice HO_7.out
                          subst eo66
                          go_wp2_with (first | ((with_reducible refine gate_callee (f := 39) rfl ?_); refine goesL_ (some 97) rfl rfl Try.func39 (by kernel_rfl) rfl #[.slice Ao66 t586.length co66] rfl (by (try simp only [List.map_toArray, List.map_cons, List.map_nil]); first | done | rfl | (simp only [List.length_drop, List.length_take]; rfl)) ?_; (with_reducible refine (gangsawlaw01_normal.calls kj22 _ _ t586 true _ ?side1 ?side2 A61.out).mono ?_); (case side1 => repeat (first | exact (Kd.R_reads' HO_7.out).2.2 | (with_reducible refine Kd.C_alloc ?_ _) | (with_reducible refine Kd.C_drewN ?_ _) | (with_reducible refine Kd.C_drew ?_))); (case side2 => exact (Kd.R_reads' HO_7.out).2.1); rintro e w' ⟨rfl, ⟨nd, rfl⟩⟩; refine ⟨_, rfl, ?_⟩; obtain ⟨Ao67, co67, eo67⟩ := Kd.R_slice HO_9.out; subst eo67) | (go_at_call 39; (with_reducible refine (gangsawlaw01_normal.calls kj22 _ _ t590 true _ ?side1 ?side2 A63.out).mono ?_); (case side1 => repeat (first | exact (Kd.R_reads' HO_9.out).2.2 | (with_reducible refine Kd.C_alloc ?_ _) | (with_reducible refine Kd.C_drewN ?_ _) | (with_reducible refine Kd.C_drew ?_))); (case side2 => exact (Kd.R_reads' HO_9.out).2.1); rintro e w' ⟨rfl, ⟨nd, rfl⟩⟩; obtain ⟨Ao68, co68, eo68⟩ := Kd.R_slice HO_11.out; subst eo68) | (go_at_call 39; (with_reducible refine (gangsawlaw01_normal.calls kj22 _ _ t594 t607 _ ?side1 ?side2 A65.out).mono ?_); (case side1 => repeat (first | exact (Kd.R_reads' HO_11.out).2.2 | (with_reducible refine Kd.C_alloc ?_ _) | (with_reducible refine Kd.C_drewN ?_ _) | (with_reducible refine Kd.C_drew ?_))); (case side2 => exact (Kd.R_reads' HO_11.out).2.1); rintro e w' ⟨rfl, ⟨nd, rfl⟩⟩))
                          go_ret
                          exact ⟨by first | rfl | (simp [errW_none, errW_some] <;> rfl) | (simp [*, errW_none, errW_some] <;> rfl), by repeat (first | (with_reducible first | exact HB.out | apply below_alloc | apply pw_below_drewN | apply below_drew1) | exact HB.out)⟩
                        · replace c64 := Bool.eq_false_iff.mpr c64
                          subst c64
                          have H1 : (some false) = some r := by rw [if_neg (show ¬ (false = true) by decide)] at H; exact H
                          clear H
                          have H := H1
                          clear H1
                          obtain rfl := Option.some.inj H
                          obtain ⟨Ao69, co69, eo69⟩ := Kd.R_slice HO_7.out
                          subst eo69
                          go_wp2_with (first | ((with_reducible refine gate_callee (f := 39) rfl ?_); refine goesL_ (some 97) rfl rfl Try.func39 (by kernel_rfl) rfl #[.slice Ao69 t586.length co69] rfl (by (try simp only [List.map_toArray, List.map_cons, List.map_nil]); first | done | rfl | (simp only [List.length_drop, List.length_take]; rfl)) ?_; (with_reducible refine (gangsawlaw01_normal.calls kj22 _ _ t586 true _ ?side1 ?side2 A61.out).mono ?_); (case side1 => repeat (first | exact (Kd.R_reads' HO_7.out).2.2 | (with_reducible refine Kd.C_alloc ?_ _) | (with_reducible refine Kd.C_drewN ?_ _) | (with_reducible refine Kd.C_drew ?_))); (case side2 => exact (Kd.R_reads' HO_7.out).2.1); rintro e w' ⟨rfl, ⟨nd, rfl⟩⟩; refine ⟨_, rfl, ?_⟩; obtain ⟨Ao70, co70, eo70⟩ := Kd.R_slice HO_9.out; subst eo70) | (go_at_call 39; (with_reducible refine (gangsawlaw01_normal.calls kj22 _ _ t590 false _ ?side1 ?side2 A63.out).mono ?_); (case side1 => repeat (first | exact (Kd.R_reads' HO_9.out).2.2 | (with_reducible refine Kd.C_alloc ?_ _) | (with_reducible refine Kd.C_drewN ?_ _) | (with_reducible refine Kd.C_drew ?_))); (case side2 => exact (Kd.R_reads' HO_9.out).2.1); rintro e w' ⟨rfl, ⟨nd, rfl⟩⟩))
                          go_ret
                          exact ⟨by first | rfl | (simp [errW_none, errW_some] <;> rfl) | (simp [*, errW_none, errW_some] <;> rfl), by repeat (first | (with_reducible first | exact HB.out | apply below_alloc | apply pw_below_drewN | apply below_drew1) | exact HB.out)⟩
                      · replace c62 := Bool.eq_false_iff.mpr c62
                        subst c62
                        have H1 : (some false) = some r := by rw [if_neg (show ¬ (false = true) by decide)] at H; exact H
                        clear H
                        have H := H1
                        clear H1
                        obtain rfl := Option.some.inj H
                        obtain ⟨Ao71, co71, eo71⟩ := Kd.R_slice HO_7.out
                        subst eo71
                        go_wp2_with (first | ((with_reducible refine gate_callee (f := 39) rfl ?_); refine goesL_ (some 97) rfl rfl Try.func39 (by kernel_rfl) rfl #[.slice Ao71 t586.length co71] rfl (by (try simp only [List.map_toArray, List.map_cons, List.map_nil]); first | done | rfl | (simp only [List.length_drop, List.length_take]; rfl)) ?_; (with_reducible refine (gangsawlaw01_normal.calls kj22 _ _ t586 false _ ?side1 ?side2 A61.out).mono ?_); (case side1 => repeat (first | exact (Kd.R_reads' HO_7.out).2.2 | (with_reducible refine Kd.C_alloc ?_ _) | (with_reducible refine Kd.C_drewN ?_ _) | (with_reducible refine Kd.C_drew ?_))); (case side2 => exact (Kd.R_reads' HO_7.out).2.1); rintro e w' ⟨rfl, ⟨nd, rfl⟩⟩; refine ⟨_, rfl, ?_⟩))
                        go_ret
                        exact ⟨by first | rfl | (simp [errW_none, errW_some] <;> rfl) | (simp [*, errW_none, errW_some] <;> rfl), by repeat (first | (with_reducible first | exact HB.out | apply below_alloc | apply pw_below_drewN | apply below_drew1) | exact HB.out)⟩
  · replace c5 := Bool.eq_false_iff.mpr c5
    subst c5
    have H1 : (some false) = some r := by rw [if_neg (show ¬ (false = true) by decide)] at H; exact H
    clear H
    have H := H1
    clear H1
    obtain rfl := Option.some.inj H
    go_enter Try.func8, Try.ntmps8
    go_wp2_with (first | ((with_reducible refine gate_callee (f := 10) rfl ?_); refine goesL_ (some 15) rfl rfl Try.func10 (by kernel_rfl) rfl #[] rfl (by (try simp only [List.map_toArray, List.map_cons, List.map_nil]); first | done | rfl | (simp only [List.length_drop, List.length_take]; rfl)) ?_; (with_reducible refine (gangsawlaw01_awake.calls k  false _ A4.out).mono ?_); rintro e w72 ⟨rfl, hb⟩; refine ⟨_, rfl, ?_⟩; have n0_ := Aside0.mk (below_step (by repeat (first | (with_reducible first | exact HB.out | apply below_alloc | apply pw_below_drewN | apply below_drew1) | exact HB.out)) hb); clear HB; have HB := n0_; clear n0_; (try clear hb); (try clear hb2); (try clear hk); (try clear hi)))
    go_ret
    exact ⟨by first | rfl | (simp [errW_none, errW_some] <;> rfl) | (simp [*, errW_none, errW_some] <;> rfl), by repeat (first | (with_reducible first | exact HB.out | apply below_alloc | apply pw_below_drewN | apply below_drew1) | exact HB.out)⟩

/-- THE ONE PURE STATEMENT of gangsawlaw01_SpanMembers. -/
def gangsawlaw01_SpanMembers.Pure : Prop := ∀ (l0 : List (S23)) (l1 : List (S23)) (a2 : Int), (l0.length ≤ maxLen ∧ ∀ e6_, e6_ ∈ l0 → okS23 e6_) → (l1.length ≤ maxLen ∧ ∀ e7_, e7_ ∈ l1 → okS23 e7_) → ((Lit.int .i64 a2).wf = true) → ∃ k, gangsawlaw01_SpanMembers.f k l0 l1 a2 = some true
theorem gangsawlaw01_SpanMembers.walk (P_ : gangsawlaw01_SpanMembers.Pure) (A0 : Option Addr) (c0 : Nat) (l0 : List (S23)) (A1 : Option Addr) (c1 : Nat) (l1 : List (S23)) (a2 : Int) (w : World) (hr0 : Kd.C k23 w A0 l0.length l0) (hc0 : l0.length ≤ c0) (hr1 : Kd.C k23 w A1 l1.length l1) (hc1 : l1.length ≤ c1) (o0 : (l0.length ≤ maxLen ∧ ∀ e6_, e6_ ∈ l0 → okS23 e6_)) (o1 : (l1.length ≤ maxLen ∧ ∀ e7_, e7_ ∈ l1 → okS23 e7_)) (o2 : ((Lit.int .i64 a2).wf = true)) :
    Calls Try.prog 8 #[.slice A0 l0.length c0, .slice A1 l1.length c1, .int .i64 a2] w fun e w' => e = .returned (.bool true) ∧ Below w.heap.size w w' := by
  obtain ⟨k, h⟩ := P_ l0 l1 a2 o0 o1 o2
  refine (gangsawlaw01_SpanMembers.calls k A0 c0 l0 A1 c1 l1 a2 true w hr0 hc0 hr1 hc1 h).mono ?_
  rintro e w' ⟨rfl, hd⟩
  exact ⟨rfl, hd⟩

end Go.Proofs.Ytedhcdganddiiaa.QA
