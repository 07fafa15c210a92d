import Derived.Test.YtedhcdganddiiaaBQAx0
import Derived.Test.YtedhcdganddiiaaBQAx3
import Derived.Test.YtedhcdganddiiaaBQAx4
import Derived.Test.YtedhcdganddiiaaBQAx11
import Derived.Test.YtedhcdganddiiaaBQAx12
-- Written by a program of this session (wip/tools) out of the translation; Lean checks it.
namespace Go.Proofs.Ytedhcdganddiiaa.QA
open Go.RowKit Go.Proofs.YtedhcdganddiiaaW.PrintWords Go.Proofs.YtedhcdganddiiaaW.PrintLast Go.Proofs.YtedhcdganddiiaaW.PrintMore
attribute [local go_sem] max2_int min2_int max_two min_two max_three min_three max_four min_four
set_option linter.unusedVariables false
set_option linter.unusedSimpArgs false

mutual
def gangsawlaw01_SpanAlgebra.j0 : Nat → List (S23) → List (S23) → Bool → Option (Bool)
  | 0, _, _, _ => none
  | k + 1, x0, x1, x34 => if x34 = true then (some true) else ((span_Normalize.f k x0).bind fun bt609 => ((span_Minus.f k x0 x1).bind fun bt613 => ((span_Common.f k x0 x1).bind fun bt617 => ((span_Union.f k x0 x1).bind fun bt621 => (if bt609.2 = 0 then (if bt613.2 = 0 then (if bt617.2 = 0 then (gangsawlaw01_SpanAlgebra.j1 k x0 x1 bt609.1 bt613.1 bt617.1 bt621.1 (bt621.2 != 0)) else (gangsawlaw01_SpanAlgebra.j1 k x0 x1 bt609.1 bt613.1 bt617.1 bt621.1 true)) else (gangsawlaw01_SpanAlgebra.j1 k x0 x1 bt609.1 bt613.1 bt617.1 bt621.1 true)) else (gangsawlaw01_SpanAlgebra.j1 k x0 x1 bt609.1 bt613.1 bt617.1 bt621.1 true))))))
def gangsawlaw01_SpanAlgebra.j1 : Nat → List (S23) → List (S23) → List (S23) → List (S23) → List (S23) → List (S23) → Bool → Option (Bool)
  | 0, _, _, _, _, _, _, _ => none
  | k + 1, x0, x1, x5, x7, x9, x11, x71 => if x71 = true then (some true) else ((span_Union.f k x7 x9).bind fun bt625 => ((span_Normalize.f k x5).bind fun bt629 => (gangsawlaw01_SpanAlgebra.l0 k x0 x1 x5 bt625.2 bt629.2 x9 x11 bt625.1 bt629.1 (([] : List (S23))) (wrap64 ((x0.length : Int) - 1)))))
def gangsawlaw01_SpanAlgebra.l0 : Nat → List (S23) → List (S23) → List (S23) → Int → Int → List (S23) → List (S23) → List (S23) → List (S23) → List (S23) → Int → Option (Bool)
  | 0, _, _, _, _, _, _, _, _, _, _, _ => none
  | k + 1, x0, x1, x5, x6, x8, x9, x11, x13, x14, x15, x16 => if x16 ≥ 0 then (if 0 ≤ x16 then (if x16 < (x0.length : Int) then (if x15.length < 8796093022208 then (gangsawlaw01_SpanAlgebra.l0 k x0 x1 x5 x6 x8 x9 x11 x13 x14 (x15 ++ [(⟨(rd_T23 x0 x16).f0, (rd_T23 x0 x16).f1⟩ : S23)]) (wrap64 (x16 - 1))) else (none)) else (none)) else (none)) else ((span_Normalize.f k x15).bind fun bt640 => ((span_Count.f k x0).bind fun bt644 => ((span_Count.f k x1).bind fun bt646 => ((span_Count.f k x9).bind fun bt648 => ((span_Count.f k x11).bind fun bt650 => (if x6 = 0 then ((gangsawref01_Same.f k x13 x5).bind fun t652 => (if t652 = true then (if x8 = 0 then ((gangsawref01_Same.f k x14 x5).bind fun t653 => (if t653 = true then (if bt640.2 = 0 then ((gangsawref01_Same.f k bt640.1 x5).bind fun t654 => (if t654 = true then (if bt644.2 = 0 then (if bt646.2 = 0 then (if bt648.2 = 0 then (if bt650.2 = 0 then (gangsawlaw01_SpanAlgebra.j3 k (bt650.1 == (wrap64 ((wrap64 (bt644.1 + bt646.1)) - bt648.1)))) else (gangsawlaw01_SpanAlgebra.j3 k false)) else (gangsawlaw01_SpanAlgebra.j3 k false)) else (gangsawlaw01_SpanAlgebra.j3 k false)) else (gangsawlaw01_SpanAlgebra.j3 k false)) else (gangsawlaw01_SpanAlgebra.j3 k false))) else (gangsawlaw01_SpanAlgebra.j3 k false)) else (gangsawlaw01_SpanAlgebra.j3 k false))) else (gangsawlaw01_SpanAlgebra.j3 k false)) else (gangsawlaw01_SpanAlgebra.j3 k false))) else (gangsawlaw01_SpanAlgebra.j3 k false)))))))
def gangsawlaw01_SpanAlgebra.j3 : Nat → Bool → Option (Bool)
  | 0, _ => none
  | k + 1, x4 => some x4
end
def gangsawlaw01_SpanAlgebra.f (k : Nat) (l0 : List (S23)) (l1 : List (S23)) : Option (Bool) := (gangsawlaw01_awake.f k).bind fun t608 => (if t608 = true then (if (l0.length : Int) > 30 then (gangsawlaw01_SpanAlgebra.j0 k l0 l1 true) else (gangsawlaw01_SpanAlgebra.j0 k l0 l1 (decide ((l1.length : Int) > 30)))) else (some false))
set_option maxHeartbeats 8000000 in
set_option maxRecDepth 100000 in
theorem gangsawlaw01_SpanAlgebra.calls (k : Nat) (A0 : Option Addr) (c0 : Nat) (l0 : List (S23)) (A1 : Option Addr) (c1 : Nat) (l1 : List (S23)) (r : Bool) (w : World) (hr0 : Kd.C k23 w A0 l0.length l0) (hc0 : l0.length ≤ c0) (hr1 : Kd.C k23 w A1 l1.length l1) (hc1 : l1.length ≤ c1) (h : gangsawlaw01_SpanAlgebra.f k l0 l1 = some r) :
    Calls Try.prog 9 #[.slice A0 l0.length c0, .slice A1 l1.length c1] w fun e w' => e = .returned (.bool r) ∧ Below w.heap.size w w' := by
  have hu23 := Try.underlying23
  have HR0 := Aside0.mk hr0
  have HC0 := Aside0.mk hc0
  clear hr0 hc0
  have HR1 := Aside0.mk hr1
  have HC1 := Aside0.mk hc1
  clear hr1 hc1
  have HB := Aside0.mk (Below.refl w.heap.size w)
  have H : ((gangsawlaw01_awake.f k).bind fun t608 => (if t608 = true then (if (l0.length : Int) > 30 then (gangsawlaw01_SpanAlgebra.j0 k l0 l1 true) else (gangsawlaw01_SpanAlgebra.j0 k l0 l1 (decide ((l1.length : Int) > 30)))) else (some false))) = some r := h
  clear h
  replace H := Option.bind_eq_some_iff.mp H
  obtain ⟨t608, A30, H⟩ := H
  replace H : (if t608 = true then (if (l0.length : Int) > 30 then (gangsawlaw01_SpanAlgebra.j0 k l0 l1 true) else (gangsawlaw01_SpanAlgebra.j0 k l0 l1 (decide ((l1.length : Int) > 30)))) else (some false)) = some r := H
  have A3 := Aside0.mk A30
  clear A30
  by_cases c4 : t608 = true
  · subst c4
    have H1 : (if (l0.length : Int) > 30 then (gangsawlaw01_SpanAlgebra.j0 k l0 l1 true) else (gangsawlaw01_SpanAlgebra.j0 k l0 l1 (decide ((l1.length : Int) > 30)))) = some r := by rw [if_pos rfl] at H; exact H
    clear H
    have H := H1
    clear H1
    have HC5 := Aside0.mk H
    clear H
    go_enter Try.func9, Try.ntmps9
    go_upto_region 3 with (first | ((with_reducible refine gate_callee (f := 10) rfl ?_); refine goesL_ (some 25) rfl rfl Try.func10 (by kernel_rfl) rfl #[] rfl (by (try simp only [List.map_toArray, List.map_cons, List.map_nil]); first | done | rfl | (simp only [List.length_drop, List.length_take]; rfl)) ?_; (with_reducible refine (gangsawlaw01_awake.calls k  true _ A3.out).mono ?_); rintro e w6 ⟨rfl, hb⟩; refine ⟨_, rfl, ?_⟩; have n0_ := Aside0.mk (below_step (by repeat (first | (with_reducible first | exact HB.out | apply below_alloc | apply pw_below_drewN | apply below_drew1) | exact HB.out)) hb); clear HB; have HB := n0_; clear n0_; (try clear hb); (try clear hb2); (try clear hk); (try clear hi)))
    (try simp only [Act.put, List.setIfInBounds_toArray, List.set_cons_zero, List.set_cons_succ])
    go_cut [34] (fun v34 wc => ∃ (kq : Nat) (x34_4 : Bool), v34 = .bool x34_4 ∧ Aside0 (gangsawlaw01_SpanAlgebra.j0 kq l0 l1 x34_4 = some r) ∧ Aside0 (kq ≤ k) ∧ Aside0 (Below w.heap.size w wc))
    case first =>
      have H := HC5.out
      clear HC5
      by_cases c7 : (l0.length : Int) > 30
      · rw [if_pos c7] at H
        have c7b0 : decide (30 < (l0.length : Int)) = true := decide_eq_true c7
        have c7b1 : decide (30 < l0.length) = true := decide_eq_true (by omega)
        clear c7
        (first | rw [c7b0] | (simp only [i64_w, i32_w]; rw [c7b0]) | skip)
        have H' := Aside0.mk H
        clear H
        go_wp2
        go_meet
        case rel => exact ⟨_, (true), (by first | rfl | (simp; done) | (simp [*]; done)), H', ⟨by first | omega | exact Nat.le_refl _⟩, ⟨by repeat (first | (with_reducible first | exact HB.out | apply below_alloc | apply pw_below_drewN | apply below_drew1) | exact HB.out)⟩⟩
      · rw [if_neg c7] at H
        have c7b0 : decide (30 < (l0.length : Int)) = false := decide_eq_false c7
        have c7b1 : decide (30 < l0.length) = false := decide_eq_false (by omega)
        clear c7
        (first | rw [c7b0] | (simp only [i64_w, i32_w]; rw [c7b0]) | skip)
        have H' := Aside0.mk H
        clear H
        go_wp2
        go_meet
        case rel => exact ⟨_, (decide ((l1.length : Int) > 30)), (by first | rfl | (simp; done) | (simp [*]; done)), H', ⟨by first | omega | exact Nat.le_refl _⟩, ⟨by repeat (first | (with_reducible first | exact HB.out | apply below_alloc | apply pw_below_drewN | apply below_drew1) | exact HB.out)⟩⟩
    case rest =>
      clear HC5
      try clear c1
      try clear p2
      try clear c4
      try clear c7
      try clear c7b0
      try clear c7b1
      obtain ⟨kq, x34_4, rfl, HA, HJ4, HB⟩ := hcut
      cases kq with
      | zero => exact absurd HA.out (by simp [gangsawlaw01_SpanAlgebra.j0])
      | succ kj4 =>
        have H := HA.out
        clear HA
        simp only [gangsawlaw01_SpanAlgebra.j0] at H
        by_cases c8 : x34_4 = true
        · subst c8
          have H1 : (some true) = some r := by rw [if_pos rfl] at H; exact H
          clear H
          have H := H1
          clear H1
          obtain rfl := Option.some.inj H
          go_wp2
          go_ret
          exact ⟨by first | rfl | (simp [errW_none, errW_some] <;> rfl) | (simp [*, errW_none, errW_some] <;> rfl), by repeat (first | (with_reducible first | exact HB.out | apply below_alloc | apply pw_below_drewN | apply below_drew1) | exact HB.out)⟩
        · replace c8 := Bool.eq_false_iff.mpr c8
          subst c8
          have H1 : ((span_Normalize.f kj4 l0).bind fun bt609 => ((span_Minus.f kj4 l0 l1).bind fun bt613 => ((span_Common.f kj4 l0 l1).bind fun bt617 => ((span_Union.f kj4 l0 l1).bind fun bt621 => (if bt609.2 = 0 then (if bt613.2 = 0 then (if bt617.2 = 0 then (gangsawlaw01_SpanAlgebra.j1 kj4 l0 l1 bt609.1 bt613.1 bt617.1 bt621.1 (bt621.2 != 0)) else (gangsawlaw01_SpanAlgebra.j1 kj4 l0 l1 bt609.1 bt613.1 bt617.1 bt621.1 true)) else (gangsawlaw01_SpanAlgebra.j1 kj4 l0 l1 bt609.1 bt613.1 bt617.1 bt621.1 true)) else (gangsawlaw01_SpanAlgebra.j1 kj4 l0 l1 bt609.1 bt613.1 bt617.1 bt621.1 true)))))) = some r := by rw [if_neg (show ¬ (false = true) by decide)] at H; exact H
          clear H
          have H := H1
          clear H1
          replace H := Option.bind_eq_some_iff.mp H
          obtain ⟨⟨t609, t612⟩, A90, H⟩ := H
          replace H : ((span_Minus.f kj4 l0 l1).bind fun bt613 => ((span_Common.f kj4 l0 l1).bind fun bt617 => ((span_Union.f kj4 l0 l1).bind fun bt621 => (if t612 = 0 then (if bt613.2 = 0 then (if bt617.2 = 0 then (gangsawlaw01_SpanAlgebra.j1 kj4 l0 l1 t609 bt613.1 bt617.1 bt621.1 (bt621.2 != 0)) else (gangsawlaw01_SpanAlgebra.j1 kj4 l0 l1 t609 bt613.1 bt617.1 bt621.1 true)) else (gangsawlaw01_SpanAlgebra.j1 kj4 l0 l1 t609 bt613.1 bt617.1 bt621.1 true)) else (gangsawlaw01_SpanAlgebra.j1 kj4 l0 l1 t609 bt613.1 bt617.1 bt621.1 true))))) = some r := H
          have A9 := Aside0.mk A90
          clear A90
          replace H := Option.bind_eq_some_iff.mp H
          obtain ⟨⟨t613, t616⟩, A100, H⟩ := H
          replace H : ((span_Common.f kj4 l0 l1).bind fun bt617 => ((span_Union.f kj4 l0 l1).bind fun bt621 => (if t612 = 0 then (if t616 = 0 then (if bt617.2 = 0 then (gangsawlaw01_SpanAlgebra.j1 kj4 l0 l1 t609 t613 bt617.1 bt621.1 (bt621.2 != 0)) else (gangsawlaw01_SpanAlgebra.j1 kj4 l0 l1 t609 t613 bt617.1 bt621.1 true)) else (gangsawlaw01_SpanAlgebra.j1 kj4 l0 l1 t609 t613 bt617.1 bt621.1 true)) else (gangsawlaw01_SpanAlgebra.j1 kj4 l0 l1 t609 t613 bt617.1 bt621.1 true)))) = some r := H
          have A10 := Aside0.mk A100
          clear A100
          replace H := Option.bind_eq_some_iff.mp H
          obtain ⟨⟨t617, t620⟩, A110, H⟩ := H
          replace H : ((span_Union.f kj4 l0 l1).bind fun bt621 => (if t612 = 0 then (if t616 = 0 then (if t620 = 0 then (gangsawlaw01_SpanAlgebra.j1 kj4 l0 l1 t609 t613 t617 bt621.1 (bt621.2 != 0)) else (gangsawlaw01_SpanAlgebra.j1 kj4 l0 l1 t609 t613 t617 bt621.1 true)) else (gangsawlaw01_SpanAlgebra.j1 kj4 l0 l1 t609 t613 t617 bt621.1 true)) else (gangsawlaw01_SpanAlgebra.j1 kj4 l0 l1 t609 t613 t617 bt621.1 true))) = some r := H
          have A11 := Aside0.mk A110
          clear A110
          replace H := Option.bind_eq_some_iff.mp H
          obtain ⟨⟨t621, t624⟩, A120, H⟩ := H
          replace H : (if t612 = 0 then (if t616 = 0 then (if t620 = 0 then (gangsawlaw01_SpanAlgebra.j1 kj4 l0 l1 t609 t613 t617 t621 (t624 != 0)) else (gangsawlaw01_SpanAlgebra.j1 kj4 l0 l1 t609 t613 t617 t621 true)) else (gangsawlaw01_SpanAlgebra.j1 kj4 l0 l1 t609 t613 t617 t621 true)) else (gangsawlaw01_SpanAlgebra.j1 kj4 l0 l1 t609 t613 t617 t621 true)) = some r := H
          have A12 := Aside0.mk A120
          clear A120
          have HC13 := Aside0.mk H
          clear H
          go_upto_region 9 with (first | ((with_reducible refine gate_callee (f := 30) rfl ?_); refine goesL_ (some 37) rfl rfl Try.func30 (by kernel_rfl) rfl #[.slice A0 l0.length c0] rfl (by (try simp only [List.map_toArray, List.map_cons, List.map_nil]); first | done | rfl | (simp only [List.length_drop, List.length_take]; rfl)) ?_; (with_reducible refine (span_Normalize.calls kj4 (fun k_ => k_ < w.heap.size) _ _ l0 t609 t612 _ ?side1 A9.out).mono ?_); (case side1 => exact Kd.V_mk HC0.out (Kd.F_below (Kd.C_F k23_heap HR0.out) (by repeat (first | (with_reducible first | exact HB.out | apply below_alloc | apply pw_below_drewN | apply below_drew1) | exact HB.out)))); rintro e w14 ⟨v610, rfl, ho0, hb⟩; refine ⟨_, rfl, ?_⟩; have n0_ := Aside0.mk (Kd.R_lower (Kd.R_mono (ok' := fun k_ => True) ho0 (fun _ hk_ => trivial)) (below_size (by repeat (first | (with_reducible first | exact HB.out | apply below_alloc | apply pw_below_drewN | apply below_drew1) | exact HB.out)))); have n1_ := Aside0.mk (below_step (by repeat (first | (with_reducible first | exact HB.out | apply below_alloc | apply pw_below_drewN | apply below_drew1) | exact HB.out)) hb); clear HB; have HO611 := n0_; have HB := n1_; clear n0_ n1_; (try clear hb); (try clear hb2); (try clear hk); (try clear hi); (try clear ho0)) | ((with_reducible refine gate_callee (f := 32) rfl ?_); refine goesL_ (some 43) rfl rfl Try.func32 (by kernel_rfl) rfl #[.slice A0 l0.length c0, .slice A1 l1.length c1] rfl (by (try simp only [List.map_toArray, List.map_cons, List.map_nil]); first | done | rfl | (simp only [List.length_drop, List.length_take]; rfl)) ?_; (with_reducible refine (span_Minus.calls kj4 (fun k_ => k_ < w.heap.size) _ _ l0 (fun k_ => k_ < w.heap.size) _ _ l1 t613 t616 _ ?side1 ?side2 A10.out).mono ?_); (case side1 => exact Kd.V_mk HC0.out (Kd.F_below (Kd.C_F k23_heap HR0.out) (by repeat (first | (with_reducible first | exact HB.out | apply below_alloc | apply pw_below_drewN | apply below_drew1) | exact HB.out)))); (case side2 => exact Kd.V_mk HC1.out (Kd.F_below (Kd.C_F k23_heap HR1.out) (by repeat (first | (with_reducible first | exact HB.out | apply below_alloc | apply pw_below_drewN | apply below_drew1) | exact HB.out)))); rintro e w15 ⟨v614, rfl, ho0, hb⟩; refine ⟨_, rfl, ?_⟩; have n0_ := Aside0.mk (Kd.R_elder' (by (with_reducible repeat (first | apply Kd.R_alloc | apply Kd.R_drewN | apply Kd.R_drew)); exact HO611.out) (Kd.R_base ho0) hb); have n1_ := Aside0.mk (Kd.R_lower (Kd.R_new' (Kd.R_mono (ok' := fun k_ => True) ho0 (fun _ hk_ => trivial)) (Kd.R_lt (by (with_reducible repeat (first | apply Kd.R_alloc | apply Kd.R_drewN | apply Kd.R_drew)); exact HO611.out))) (below_size (by repeat (first | (with_reducible first | exact HB.out | apply below_alloc | apply pw_below_drewN | apply below_drew1) | exact HB.out)))); have n2_ := Aside0.mk (below_step (by repeat (first | (with_reducible first | exact HB.out | apply below_alloc | apply pw_below_drewN | apply below_drew1) | exact HB.out)) hb); clear HO611; clear HB; have HO611 := n0_; have HO615 := n1_; have HB := n2_; clear n0_ n1_ n2_; (try clear hb); (try clear hb2); (try clear hk); (try clear hi); (try clear ho0)) | ((with_reducible refine gate_callee (f := 33) rfl ?_); refine goesL_ (some 49) rfl rfl Try.func33 (by kernel_rfl) rfl #[.slice A0 l0.length c0, .slice A1 l1.length c1] rfl (by (try simp only [List.map_toArray, List.map_cons, List.map_nil]); first | done | rfl | (simp only [List.length_drop, List.length_take]; rfl)) ?_; (with_reducible refine (span_Common.calls kj4 (fun k_ => k_ < w.heap.size) _ _ l0 (fun k_ => k_ < w.heap.size) _ _ l1 t617 t620 _ ?side1 ?side2 A11.out).mono ?_); (case side1 => exact Kd.V_mk HC0.out (Kd.F_below (Kd.C_F k23_heap HR0.out) (by repeat (first | (with_reducible first | exact HB.out | apply below_alloc | apply pw_below_drewN | apply below_drew1) | exact HB.out)))); (case side2 => exact Kd.V_mk HC1.out (Kd.F_below (Kd.C_F k23_heap HR1.out) (by repeat (first | (with_reducible first | exact HB.out | apply below_alloc | apply pw_below_drewN | apply below_drew1) | exact HB.out)))); rintro e w16 ⟨v618, rfl, ho0, hb⟩; refine ⟨_, rfl, ?_⟩; have n0_ := Aside0.mk (Kd.R_elder' (by (with_reducible repeat (first | apply Kd.R_alloc | apply Kd.R_drewN | apply Kd.R_drew)); exact HO611.out) (Kd.R_base ho0) hb); have n1_ := Aside0.mk (Kd.R_elder' (by (with_reducible repeat (first | apply Kd.R_alloc | apply Kd.R_drewN | apply Kd.R_drew)); exact HO615.out) (Kd.R_base ho0) hb); have n2_ := Aside0.mk (Kd.R_lower (Kd.R_new' (Kd.R_new' (Kd.R_mono (ok' := fun k_ => True) ho0 (fun _ hk_ => trivial)) (Kd.R_lt (by (with_reducible repeat (first | apply Kd.R_alloc | apply Kd.R_drewN | apply Kd.R_drew)); exact HO611.out))) (Kd.R_lt (by (with_reducible repeat (first | apply Kd.R_alloc | apply Kd.R_drewN | apply Kd.R_drew)); exact HO615.out))) (below_size (by repeat (first | (with_reducible first | exact HB.out | apply below_alloc | apply pw_below_drewN | apply below_drew1) | exact HB.out)))); have n3_ := Aside0.mk (below_step (by repeat (first | (with_reducible first | exact HB.out | apply below_alloc | apply pw_below_drewN | apply below_drew1) | exact HB.out)) hb); clear HO611; clear HO615; clear HB; have HO611 := n0_; have HO615 := n1_; have HO619 := n2_; have HB := n3_; clear n0_ n1_ n2_ n3_; (try clear hb); (try clear hb2); (try clear hk); (try clear hi); (try clear ho0)) | ((with_reducible refine gate_callee (f := 31) rfl ?_); refine goesL_ (some 55) rfl rfl Try.func31 (by kernel_rfl) rfl #[.slice A0 l0.length c0, .slice A1 l1.length c1] rfl (by (try simp only [List.map_toArray, List.map_cons, List.map_nil]); first | done | rfl | (simp only [List.length_drop, List.length_take]; rfl)) ?_; (with_reducible refine (span_Union.calls kj4 (fun k_ => k_ < w.heap.size) _ _ l0 (fun k_ => k_ < w.heap.size) _ _ l1 t621 t624 _ ?side1 ?side2 A12.out).mono ?_); (case side1 => exact Kd.V_mk HC0.out (Kd.F_below (Kd.C_F k23_heap HR0.out) (by repeat (first | (with_reducible first | exact HB.out | apply below_alloc | apply pw_below_drewN | apply below_drew1) | exact HB.out)))); (case side2 => exact Kd.V_mk HC1.out (Kd.F_below (Kd.C_F k23_heap HR1.out) (by repeat (first | (with_reducible first | exact HB.out | apply below_alloc | apply pw_below_drewN | apply below_drew1) | exact HB.out)))); rintro e w17 ⟨v622, rfl, ho0, hb⟩; refine ⟨_, rfl, ?_⟩; have n0_ := Aside0.mk (Kd.R_elder' (by (with_reducible repeat (first | apply Kd.R_alloc | apply Kd.R_drewN | apply Kd.R_drew)); exact HO611.out) (Kd.R_base ho0) hb); have n1_ := Aside0.mk (Kd.R_elder' (by (with_reducible repeat (first | apply Kd.R_alloc | apply Kd.R_drewN | apply Kd.R_drew)); exact HO615.out) (Kd.R_base ho0) hb); have n2_ := Aside0.mk (Kd.R_elder' (by (with_reducible repeat (first | apply Kd.R_alloc | apply Kd.R_drewN | apply Kd.R_drew)); exact HO619.out) (Kd.R_base ho0) hb); have n3_ := Aside0.mk (Kd.R_lower (Kd.R_new' (Kd.R_new' (Kd.R_new' (Kd.R_mono (ok' := fun k_ => True) ho0 (fun _ hk_ => trivial)) (Kd.R_lt (by (with_reducible repeat (first | apply Kd.R_alloc | apply Kd.R_drewN | apply Kd.R_drew)); exact HO611.out))) (Kd.R_lt (by (with_reducible repeat (first | apply Kd.R_alloc | apply Kd.R_drewN | apply Kd.R_drew)); exact HO615.out))) (Kd.R_lt (by (with_reducible repeat (first | apply Kd.R_alloc | apply Kd.R_drewN | apply Kd.R_drew)); exact HO619.out))) (below_size (by repeat (first | (with_reducible first | exact HB.out | apply below_alloc | apply pw_below_drewN | apply below_drew1) | exact HB.out)))); have n4_ := Aside0.mk (below_step (by repeat (first | (with_reducible first | exact HB.out | apply below_alloc | apply pw_below_drewN | apply below_drew1) | exact HB.out)) hb); clear HO611; clear HO615; clear HO619; clear HB; have HO611 := n0_; have HO615 := n1_; have HO619 := n2_; have HO623 := n3_; have HB := n4_; clear n0_ n1_ n2_ n3_ n4_; (try clear hb); (try clear hb2); (try clear hk); (try clear hi); (try clear ho0)))
          (try simp only [Act.put, List.setIfInBounds_toArray, List.set_cons_zero, List.set_cons_succ])
          go_cut [71] (fun v71 wc => ∃ (kq : Nat) (x71_12 : Bool), v71 = .bool x71_12 ∧ Aside0 (gangsawlaw01_SpanAlgebra.j1 kq l0 l1 t609 t613 t617 t621 x71_12 = some r) ∧ Aside0 (kq ≤ kj4) ∧ Aside0 (Kd.R k23 23 wc w.heap.size (fun k_ => some k_ ≠ (v614 : Value).ownBlock ∧ some k_ ≠ (v618 : Value).ownBlock ∧ some k_ ≠ (v622 : Value).ownBlock) v610 t609) ∧ Aside0 (Kd.R k23 23 wc w.heap.size (fun k_ => some k_ ≠ (v610 : Value).ownBlock ∧ some k_ ≠ (v618 : Value).ownBlock ∧ some k_ ≠ (v622 : Value).ownBlock) v614 t613) ∧ Aside0 (Kd.R k23 23 wc w.heap.size (fun k_ => some k_ ≠ (v610 : Value).ownBlock ∧ some k_ ≠ (v614 : Value).ownBlock ∧ some k_ ≠ (v622 : Value).ownBlock) v618 t617) ∧ Aside0 (Kd.R k23 23 wc w.heap.size (fun k_ => some k_ ≠ (v610 : Value).ownBlock ∧ some k_ ≠ (v614 : Value).ownBlock ∧ some k_ ≠ (v618 : Value).ownBlock) v622 t621) ∧ Aside0 (Below w.heap.size w wc))
          case first =>
            have H := HC13.out
            clear HC13
            by_cases c18 : t612 = 0
            · rw [if_pos c18] at H
              have c18b0 : (t612 == 0) = true := beq_iff_eq.mpr c18
              have c18b1 : (t612 != 0) = false := bne_eq_false_iff_eq.mpr c18
              clear c18
              (first | rw [c18b0] | (simp only [i64_w, i32_w]; rw [c18b0]) | skip)
              by_cases c19 : t616 = 0
              · rw [if_pos c19] at H
                have c19b0 : (t616 == 0) = true := beq_iff_eq.mpr c19
                have c19b1 : (t616 != 0) = false := bne_eq_false_iff_eq.mpr c19
                clear c19
                by_cases c20 : t620 = 0
                · rw [if_pos c20] at H
                  have c20b0 : (t620 == 0) = true := beq_iff_eq.mpr c20
                  have c20b1 : (t620 != 0) = false := bne_eq_false_iff_eq.mpr c20
                  clear c20
                  have H' := Aside0.mk H
                  clear H
                  go_wp2
                  go_meet
                  case rel => exact ⟨_, ((t624 != 0)), (by first | rfl | (simp; done) | (simp [*]; done)), H', ⟨by have := HJ4.out; first | omega | exact Nat.le_refl _⟩, ⟨by (with_reducible repeat (first | apply Kd.R_alloc | apply Kd.R_drewN | apply Kd.R_drew)); exact Kd.R_mono HO611.out (fun _ hk => ⟨hk.1.1.2, ⟨hk.1.2, hk.2⟩⟩)⟩, ⟨by (with_reducible repeat (first | apply Kd.R_alloc | apply Kd.R_drewN | apply Kd.R_drew)); exact Kd.R_mono HO615.out (fun _ hk => ⟨hk.1.1.2, ⟨hk.1.2, hk.2⟩⟩)⟩, ⟨by (with_reducible repeat (first | apply Kd.R_alloc | apply Kd.R_drewN | apply Kd.R_drew)); exact Kd.R_mono HO619.out (fun _ hk => ⟨hk.1.1.2, ⟨hk.1.2, hk.2⟩⟩)⟩, ⟨by (with_reducible repeat (first | apply Kd.R_alloc | apply Kd.R_drewN | apply Kd.R_drew)); exact Kd.R_mono HO623.out (fun _ hk => ⟨hk.1.1.2, ⟨hk.1.2, hk.2⟩⟩)⟩, ⟨by repeat (first | (with_reducible first | exact HB.out | apply below_alloc | apply pw_below_drewN | apply below_drew1) | exact HB.out)⟩⟩
                · rw [if_neg c20] at H
                  have c20b0 : (t620 == 0) = false := beq_eq_false_iff_ne.mpr c20
                  have c20b1 : (t620 != 0) = true := bne_iff_ne.mpr c20
                  have H' := Aside0.mk H
                  clear H
                  go_wp2
                  go_meet
                  case rel => exact ⟨_, (true), (by first | rfl | (simp; done) | (simp [*]; done)), H', ⟨by have := HJ4.out; first | omega | exact Nat.le_refl _⟩, ⟨by (with_reducible repeat (first | apply Kd.R_alloc | apply Kd.R_drewN | apply Kd.R_drew)); exact Kd.R_mono HO611.out (fun _ hk => ⟨hk.1.1.2, ⟨hk.1.2, hk.2⟩⟩)⟩, ⟨by (with_reducible repeat (first | apply Kd.R_alloc | apply Kd.R_drewN | apply Kd.R_drew)); exact Kd.R_mono HO615.out (fun _ hk => ⟨hk.1.1.2, ⟨hk.1.2, hk.2⟩⟩)⟩, ⟨by (with_reducible repeat (first | apply Kd.R_alloc | apply Kd.R_drewN | apply Kd.R_drew)); exact Kd.R_mono HO619.out (fun _ hk => ⟨hk.1.1.2, ⟨hk.1.2, hk.2⟩⟩)⟩, ⟨by (with_reducible repeat (first | apply Kd.R_alloc | apply Kd.R_drewN | apply Kd.R_drew)); exact Kd.R_mono HO623.out (fun _ hk => ⟨hk.1.1.2, ⟨hk.1.2, hk.2⟩⟩)⟩, ⟨by repeat (first | (with_reducible first | exact HB.out | apply below_alloc | apply pw_below_drewN | apply below_drew1) | exact HB.out)⟩⟩
              · rw [if_neg c19] at H
                have c19b0 : (t616 == 0) = false := beq_eq_false_iff_ne.mpr c19
                have c19b1 : (t616 != 0) = true := bne_iff_ne.mpr c19
                have H' := Aside0.mk H
                clear H
                go_wp2
                go_meet
                case rel => exact ⟨_, (true), (by first | rfl | (simp; done) | (simp [*]; done)), H', ⟨by have := HJ4.out; first | omega | exact Nat.le_refl _⟩, ⟨by (with_reducible repeat (first | apply Kd.R_alloc | apply Kd.R_drewN | apply Kd.R_drew)); exact Kd.R_mono HO611.out (fun _ hk => ⟨hk.1.1.2, ⟨hk.1.2, hk.2⟩⟩)⟩, ⟨by (with_reducible repeat (first | apply Kd.R_alloc | apply Kd.R_drewN | apply Kd.R_drew)); exact Kd.R_mono HO615.out (fun _ hk => ⟨hk.1.1.2, ⟨hk.1.2, hk.2⟩⟩)⟩, ⟨by (with_reducible repeat (first | apply Kd.R_alloc | apply Kd.R_drewN | apply Kd.R_drew)); exact Kd.R_mono HO619.out (fun _ hk => ⟨hk.1.1.2, ⟨hk.1.2, hk.2⟩⟩)⟩, ⟨by (with_reducible repeat (first | apply Kd.R_alloc | apply Kd.R_drewN | apply Kd.R_drew)); exact Kd.R_mono HO623.out (fun _ hk => ⟨hk.1.1.2, ⟨hk.1.2, hk.2⟩⟩)⟩, ⟨by repeat (first | (with_reducible first | exact HB.out | apply below_alloc | apply pw_below_drewN | apply below_drew1) | exact HB.out)⟩⟩
            · rw [if_neg c18] at H
              have c18b0 : (t612 == 0) = false := beq_eq_false_iff_ne.mpr c18
              have c18b1 : (t612 != 0) = true := bne_iff_ne.mpr c18
              (first | rw [c18b0] | (simp only [i64_w, i32_w]; rw [c18b0]) | skip)
              have H' := Aside0.mk H
              clear H
              go_wp2
              go_meet
              case rel => exact ⟨_, (true), (by first | rfl | (simp; done) | (simp [*]; done)), H', ⟨by have := HJ4.out; first | omega | exact Nat.le_refl _⟩, ⟨by (with_reducible repeat (first | apply Kd.R_alloc | apply Kd.R_drewN | apply Kd.R_drew)); exact Kd.R_mono HO611.out (fun _ hk => ⟨hk.1.1.2, ⟨hk.1.2, hk.2⟩⟩)⟩, ⟨by (with_reducible repeat (first | apply Kd.R_alloc | apply Kd.R_drewN | apply Kd.R_drew)); exact Kd.R_mono HO615.out (fun _ hk => ⟨hk.1.1.2, ⟨hk.1.2, hk.2⟩⟩)⟩, ⟨by (with_reducible repeat (first | apply Kd.R_alloc | apply Kd.R_drewN | apply Kd.R_drew)); exact Kd.R_mono HO619.out (fun _ hk => ⟨hk.1.1.2, ⟨hk.1.2, hk.2⟩⟩)⟩, ⟨by (with_reducible repeat (first | apply Kd.R_alloc | apply Kd.R_drewN | apply Kd.R_drew)); exact Kd.R_mono HO623.out (fun _ hk => ⟨hk.1.1.2, ⟨hk.1.2, hk.2⟩⟩)⟩, ⟨by repeat (first | (with_reducible first | exact HB.out | apply below_alloc | apply pw_below_drewN | apply below_drew1) | exact HB.out)⟩⟩
          case rest =>
            clear HC13
            try clear c1
            try clear c2
            try clear p2
            try clear c3
            try clear c4
            try clear c7
            try clear c7b0
            try clear c7b1
            try clear c8
            try clear c9
            try clear c10
            try clear c18
            try clear c18b0
            try clear c18b1
            try clear c19
            try clear c19b0
            try clear c19b1
            try clear c20
            try clear c20b0
            try clear c20b1
            try clear p2
            obtain ⟨kq, x71_12, rfl, HA, HJ12, HO_5, HO_7, HO_9, HO_11, HB⟩ := hcut
            cases kq with
            | zero => exact absurd HA.out (by simp [gangsawlaw01_SpanAlgebra.j1])
            | succ kj12 =>
              have H := HA.out
              clear HA
              simp only [gangsawlaw01_SpanAlgebra.j1] at H
              by_cases c21 : x71_12 = true
              · subst c21
                have H1 : (some true) = some r := by rw [if_pos rfl] at H; exact H
                clear H
                have H := H1
                clear H1
                obtain rfl := Option.some.inj H
                go_wp2
                go_ret
                exact ⟨by first | rfl | (simp [errW_none, errW_some] <;> rfl) | (simp [*, errW_none, errW_some] <;> rfl), by repeat (first | (with_reducible first | exact HB.out | apply below_alloc | apply pw_below_drewN | apply below_drew1) | exact HB.out)⟩
              · replace c21 := Bool.eq_false_iff.mpr c21
                subst c21
                have H1 : ((span_Union.f kj12 t613 t617).bind fun bt625 => ((span_Normalize.f kj12 t609).bind fun bt629 => (gangsawlaw01_SpanAlgebra.l0 kj12 l0 l1 t609 bt625.2 bt629.2 t617 t621 bt625.1 bt629.1 (([] : List (S23))) (wrap64 ((l0.length : Int) - 1))))) = some r := by rw [if_neg (show ¬ (false = true) by decide)] at H; exact H
                clear H
                have H := H1
                clear H1
                replace H := Option.bind_eq_some_iff.mp H
                obtain ⟨⟨t625, t628⟩, A220, H⟩ := H
                replace H : ((span_Normalize.f kj12 t609).bind fun bt629 => (gangsawlaw01_SpanAlgebra.l0 kj12 l0 l1 t609 t628 bt629.2 t617 t621 t625 bt629.1 (([] : List (S23))) (wrap64 ((l0.length : Int) - 1)))) = some r := H
                have A22 := Aside0.mk A220
                clear A220
                replace H := Option.bind_eq_some_iff.mp H
                obtain ⟨⟨t629, t632⟩, A230, H⟩ := H
                replace H : (gangsawlaw01_SpanAlgebra.l0 kj12 l0 l1 t609 t628 t632 t617 t621 t625 t629 (([] : List (S23))) (wrap64 ((l0.length : Int) - 1))) = some r := H
                have A23 := Aside0.mk A230
                clear A230
                obtain ⟨y633, hy633⟩ : ∃ y_ : List (S23), y_ = (([] : List (S23))) := ⟨_, rfl⟩
                replace H : (gangsawlaw01_SpanAlgebra.l0 kj12 l0 l1 t609 t628 t632 t617 t621 t625 t629 y633 (wrap64 ((l0.length : Int) - 1))) = some r := by first | (rw [hy633]; with_reducible exact H) | (have H2_ := (Option.bind_some _ _).symm.trans H; rw [hy633]; with_reducible exact H2_) | (have H2_ := (Option.bind_some _ _).symm.trans H; with_reducible exact H2_) | with_reducible exact H | (rw [hy633]; exact H) | exact H
                have Ny633 := Aside0.mk hy633
                clear hy633
                have H' := Aside0.mk H
                clear H
                obtain ⟨Ao24, co24, eo24⟩ := Kd.R_slice HO_7.out
                subst eo24
                obtain ⟨Ao25, co25, eo25⟩ := Kd.R_slice HO_9.out
                subst eo25
                go_wp2_with (first | ((with_reducible refine gate_callee (f := 31) rfl ?_); refine goesL_ (some 75) rfl rfl Try.func31 (by kernel_rfl) rfl #[.slice Ao24 t613.length co24, .slice Ao25 t617.length co25] rfl (by (try simp only [List.map_toArray, List.map_cons, List.map_nil]); first | done | rfl | (simp only [List.length_drop, List.length_take]; rfl)) ?_; (with_reducible refine (span_Union.calls kj12 (fun k_ => some k_ = (.slice Ao24 t613.length co24 : Value).ownBlock) _ _ t613 (fun k_ => some k_ = (.slice Ao25 t617.length co25 : Value).ownBlock) _ _ t617 t625 t628 _ ?side1 ?side2 A22.out).mono ?_); (case side1 => exact Kd.R_V (Kd.R_tight rfl (HO_7.out))); (case side2 => exact Kd.R_V (Kd.R_tight rfl (HO_9.out))); rintro e w26 ⟨v626, rfl, ho0, hb⟩; refine ⟨_, rfl, ?_⟩; have n0_ := Aside0.mk (Kd.R_elder' (by (with_reducible repeat (first | apply Kd.R_alloc | apply Kd.R_drewN | apply Kd.R_drew)); exact HO_5.out) (Kd.R_base ho0) hb); have n1_ := Aside0.mk (Kd.R_elder' (by (with_reducible repeat (first | apply Kd.R_alloc | apply Kd.R_drewN | apply Kd.R_drew)); exact HO_7.out) (Kd.R_base ho0) hb); have n2_ := Aside0.mk (Kd.R_elder' (by (with_reducible repeat (first | apply Kd.R_alloc | apply Kd.R_drewN | apply Kd.R_drew)); exact HO_9.out) (Kd.R_base ho0) hb); have n3_ := Aside0.mk (Kd.R_elder' (by (with_reducible repeat (first | apply Kd.R_alloc | apply Kd.R_drewN | apply Kd.R_drew)); exact HO_11.out) (Kd.R_base ho0) hb); have n4_ := Aside0.mk (Kd.R_lower (Kd.R_new' (Kd.R_new' (Kd.R_new' (Kd.R_new' (Kd.R_mono (ok' := fun k_ => True) ho0 (fun _ hk_ => trivial)) (Kd.R_lt (by (with_reducible repeat (first | apply Kd.R_alloc | apply Kd.R_drewN | apply Kd.R_drew)); exact HO_5.out))) (Kd.R_lt (by (with_reducible repeat (first | apply Kd.R_alloc | apply Kd.R_drewN | apply Kd.R_drew)); exact HO_7.out))) (Kd.R_lt (by (with_reducible repeat (first | apply Kd.R_alloc | apply Kd.R_drewN | apply Kd.R_drew)); exact HO_9.out))) (Kd.R_lt (by (with_reducible repeat (first | apply Kd.R_alloc | apply Kd.R_drewN | apply Kd.R_drew)); exact HO_11.out))) (below_size (by repeat (first | (with_reducible first | exact HB.out | apply below_alloc | apply pw_below_drewN | apply below_drew1) | exact HB.out)))); have n5_ := Aside0.mk (below_step (by repeat (first | (with_reducible first | exact HB.out | apply below_alloc | apply pw_below_drewN | apply below_drew1) | exact HB.out)) hb); clear HO_5; clear HO_7; clear HO_9; clear HO_11; clear HB; have HO_5 := n0_; have HO_7 := n1_; have HO_9 := n2_; have HO_11 := n3_; have HO627 := n4_; have HB := n5_; clear n0_ n1_ n2_ n3_ n4_ n5_; (try clear hb); (try clear hb2); (try clear hk); (try clear hi); (try clear ho0); obtain ⟨Ao27, co27, eo27⟩ := Kd.R_slice HO_5.out; subst eo27) | ((with_reducible refine gate_callee (f := 30) rfl ?_); refine goesL_ (some 80) rfl rfl Try.func30 (by kernel_rfl) rfl #[.slice Ao27 t609.length co27] rfl (by (try simp only [List.map_toArray, List.map_cons, List.map_nil]); first | done | rfl | (simp only [List.length_drop, List.length_take]; rfl)) ?_; (with_reducible refine (span_Normalize.calls kj12 (fun k_ => some k_ = (.slice Ao27 t609.length co27 : Value).ownBlock) _ _ t609 t629 t632 _ ?side1 A23.out).mono ?_); (case side1 => exact Kd.R_V (Kd.R_tight rfl (HO_5.out))); rintro e w28 ⟨v630, rfl, ho0, hb⟩; refine ⟨_, rfl, ?_⟩; have n0_ := Aside0.mk (Kd.R_elder' (by (with_reducible repeat (first | apply Kd.R_alloc | apply Kd.R_drewN | apply Kd.R_drew)); exact HO_5.out) (Kd.R_base ho0) hb); have n1_ := Aside0.mk (Kd.R_elder' (by (with_reducible repeat (first | apply Kd.R_alloc | apply Kd.R_drewN | apply Kd.R_drew)); exact HO_7.out) (Kd.R_base ho0) hb); have n2_ := Aside0.mk (Kd.R_elder' (by (with_reducible repeat (first | apply Kd.R_alloc | apply Kd.R_drewN | apply Kd.R_drew)); exact HO_9.out) (Kd.R_base ho0) hb); have n3_ := Aside0.mk (Kd.R_elder' (by (with_reducible repeat (first | apply Kd.R_alloc | apply Kd.R_drewN | apply Kd.R_drew)); exact HO_11.out) (Kd.R_base ho0) hb); have n4_ := Aside0.mk (Kd.R_elder' (by (with_reducible repeat (first | apply Kd.R_alloc | apply Kd.R_drewN | apply Kd.R_drew)); exact HO627.out) (Kd.R_base ho0) hb); have n5_ := Aside0.mk (Kd.R_lower (Kd.R_new' (Kd.R_new' (Kd.R_new' (Kd.R_new' (Kd.R_new' (Kd.R_mono (ok' := fun k_ => True) ho0 (fun _ hk_ => trivial)) (Kd.R_lt (by (with_reducible repeat (first | apply Kd.R_alloc | apply Kd.R_drewN | apply Kd.R_drew)); exact HO_5.out))) (Kd.R_lt (by (with_reducible repeat (first | apply Kd.R_alloc | apply Kd.R_drewN | apply Kd.R_drew)); exact HO_7.out))) (Kd.R_lt (by (with_reducible repeat (first | apply Kd.R_alloc | apply Kd.R_drewN | apply Kd.R_drew)); exact HO_9.out))) (Kd.R_lt (by (with_reducible repeat (first | apply Kd.R_alloc | apply Kd.R_drewN | apply Kd.R_drew)); exact HO_11.out))) (Kd.R_lt (by (with_reducible repeat (first | apply Kd.R_alloc | apply Kd.R_drewN | apply Kd.R_drew)); exact HO627.out))) (below_size (by repeat (first | (with_reducible first | exact HB.out | apply below_alloc | apply pw_below_drewN | apply below_drew1) | exact HB.out)))); have n6_ := Aside0.mk (below_step (by repeat (first | (with_reducible first | exact HB.out | apply below_alloc | apply pw_below_drewN | apply below_drew1) | exact HB.out)) hb); clear HO_5; clear HO_7; clear HO_9; clear HO_11; clear HO627; clear HB; have HO_5 := n0_; have HO_7 := n1_; have HO_9 := n2_; have HO_11 := n3_; have HO627 := n4_; have HO631 := n5_; have HB := n6_; clear n0_ n1_ n2_ n3_ n4_ n5_ n6_; (try clear hb); (try clear hb2); (try clear hk); (try clear hi); (try clear ho0)) | ((with_reducible refine gate_dst (N := 83) rfl ?_); (try (refine gate_guard (by rfl) ?_; dsimp only)); refine Kd.R_lit k23 _ 23 ?hg (N := 83) ?hd (xs := ([] : List (S23))) (inner := []) (ok := fun _ => True) (okp := fun _ => True) ?hr ?hp (fun _ hk => hk) trivial (Below.refl _ _) (Nat.le_refl _) (by simp) ?_; (case hd => rfl); (case hg => rfl); (case hr => first | (go_simp; done) | (go_simp; rfl)); (case hp => exact (Reps.none _ _)); intro v634 w29 ho30 hb hg_ hnew_; clear hg_ hnew_; (first | rw [← Ny633.out] at ho30 | (simp only [Int.reduceToNat] at ho30; rw [← Ny633.out] at ho30)); have n0_ := Aside0.mk (Kd.R_elder' (by (with_reducible repeat (first | apply Kd.R_alloc | apply Kd.R_drewN | apply Kd.R_drew)); exact HO_5.out) (Kd.R_base ho30) hb); have n1_ := Aside0.mk (Kd.R_elder' (by (with_reducible repeat (first | apply Kd.R_alloc | apply Kd.R_drewN | apply Kd.R_drew)); exact HO_7.out) (Kd.R_base ho30) hb); have n2_ := Aside0.mk (Kd.R_elder' (by (with_reducible repeat (first | apply Kd.R_alloc | apply Kd.R_drewN | apply Kd.R_drew)); exact HO_9.out) (Kd.R_base ho30) hb); have n3_ := Aside0.mk (Kd.R_elder' (by (with_reducible repeat (first | apply Kd.R_alloc | apply Kd.R_drewN | apply Kd.R_drew)); exact HO_11.out) (Kd.R_base ho30) hb); have n4_ := Aside0.mk (Kd.R_elder' (by (with_reducible repeat (first | apply Kd.R_alloc | apply Kd.R_drewN | apply Kd.R_drew)); exact HO627.out) (Kd.R_base ho30) hb); have n5_ := Aside0.mk (Kd.R_elder' (by (with_reducible repeat (first | apply Kd.R_alloc | apply Kd.R_drewN | apply Kd.R_drew)); exact HO631.out) (Kd.R_base ho30) hb); have n6_ := Aside0.mk (Kd.R_lower (Kd.R_new' (Kd.R_new' (Kd.R_new' (Kd.R_new' (Kd.R_new' (Kd.R_new' ho30 (Kd.R_lt (by (with_reducible repeat (first | apply Kd.R_alloc | apply Kd.R_drewN | apply Kd.R_drew)); exact HO_5.out))) (Kd.R_lt (by (with_reducible repeat (first | apply Kd.R_alloc | apply Kd.R_drewN | apply Kd.R_drew)); exact HO_7.out))) (Kd.R_lt (by (with_reducible repeat (first | apply Kd.R_alloc | apply Kd.R_drewN | apply Kd.R_drew)); exact HO_9.out))) (Kd.R_lt (by (with_reducible repeat (first | apply Kd.R_alloc | apply Kd.R_drewN | apply Kd.R_drew)); exact HO_11.out))) (Kd.R_lt (by (with_reducible repeat (first | apply Kd.R_alloc | apply Kd.R_drewN | apply Kd.R_drew)); exact HO627.out))) (Kd.R_lt (by (with_reducible repeat (first | apply Kd.R_alloc | apply Kd.R_drewN | apply Kd.R_drew)); exact HO631.out))) (below_size (by repeat (first | (with_reducible first | exact HB.out | apply below_alloc | apply pw_below_drewN | apply below_drew1) | exact HB.out)))); have n7_ := Aside0.mk (below_step (by repeat (first | (with_reducible first | exact HB.out | apply below_alloc | apply pw_below_drewN | apply below_drew1) | exact HB.out)) hb); clear HO_5; clear HO_7; clear HO_9; clear HO_11; clear HO627; clear HO631; clear HB; have HO_5 := n0_; have HO_7 := n1_; have HO_9 := n2_; have HO_11 := n3_; have HO627 := n4_; have HO631 := n5_; have HO635 := n6_; have HB := n7_; clear n0_ n1_ n2_ n3_ n4_ n5_ n6_ n7_; clear hb ho30))
                go_loopg [15, 16] kj12 (fun kq v15 v16 w' => ∃ (x15_3 : List (S23)) (x16_3 : Int), v16 = .int .i64 x16_3 ∧ Aside0 (gangsawlaw01_SpanAlgebra.l0 kq l0 l1 t609 t628 t632 t617 t621 t625 t629 x15_3 x16_3 = some r) ∧ Aside0 (kq ≤ kj12) ∧ Aside0 (Kd.R k23 23 w' w.heap.size (fun k_ => some k_ ≠ ((.slice Ao25 t617.length co25) : Value).ownBlock ∧ some k_ ≠ (v622 : Value).ownBlock ∧ some k_ ≠ (v626 : Value).ownBlock ∧ some k_ ≠ (v630 : Value).ownBlock ∧ some k_ ≠ (v15 : Value).ownBlock) (.slice Ao27 t609.length co27) t609) ∧ Aside0 (Kd.R k23 23 w' w.heap.size (fun k_ => some k_ ≠ ((.slice Ao27 t609.length co27) : Value).ownBlock ∧ some k_ ≠ (v622 : Value).ownBlock ∧ some k_ ≠ (v626 : Value).ownBlock ∧ some k_ ≠ (v630 : Value).ownBlock ∧ some k_ ≠ (v15 : Value).ownBlock) (.slice Ao25 t617.length co25) t617) ∧ Aside0 (Kd.R k23 23 w' w.heap.size (fun k_ => some k_ ≠ ((.slice Ao27 t609.length co27) : Value).ownBlock ∧ some k_ ≠ ((.slice Ao25 t617.length co25) : Value).ownBlock ∧ some k_ ≠ (v626 : Value).ownBlock ∧ some k_ ≠ (v630 : Value).ownBlock ∧ some k_ ≠ (v15 : Value).ownBlock) v622 t621) ∧ Aside0 (Kd.R k23 23 w' w.heap.size (fun k_ => some k_ ≠ ((.slice Ao27 t609.length co27) : Value).ownBlock ∧ some k_ ≠ ((.slice Ao25 t617.length co25) : Value).ownBlock ∧ some k_ ≠ (v622 : Value).ownBlock ∧ some k_ ≠ (v630 : Value).ownBlock ∧ some k_ ≠ (v15 : Value).ownBlock) v626 t625) ∧ Aside0 (Kd.R k23 23 w' w.heap.size (fun k_ => some k_ ≠ ((.slice Ao27 t609.length co27) : Value).ownBlock ∧ some k_ ≠ ((.slice Ao25 t617.length co25) : Value).ownBlock ∧ some k_ ≠ (v622 : Value).ownBlock ∧ some k_ ≠ (v626 : Value).ownBlock ∧ some k_ ≠ (v15 : Value).ownBlock) v630 t629) ∧ Aside0 (Kd.R k23 23 w' w.heap.size (fun k_ => some k_ ≠ ((.slice Ao27 t609.length co27) : Value).ownBlock ∧ some k_ ≠ ((.slice Ao25 t617.length co25) : Value).ownBlock ∧ some k_ ≠ (v622 : Value).ownBlock ∧ some k_ ≠ (v626 : Value).ownBlock ∧ some k_ ≠ (v630 : Value).ownBlock) v15 x15_3) ∧ Aside0 (Below w.heap.size w w'))
                case atStart => exact ⟨(y633), (wrap64 ((l0.length : Int) - 1)), (by first | rfl | (simp; done) | (simp [*]; done)), H', ⟨Nat.le_refl _⟩, ⟨by (with_reducible repeat (first | apply Kd.R_alloc | apply Kd.R_drewN | apply Kd.R_drew)); exact Kd.R_mono HO_5.out (fun _ hk => ⟨hk.1.1.1.2.1, ⟨hk.1.1.1.2.2, ⟨hk.1.1.2, ⟨hk.1.2, hk.2⟩⟩⟩⟩)⟩, ⟨by (with_reducible repeat (first | apply Kd.R_alloc | apply Kd.R_drewN | apply Kd.R_drew)); exact Kd.R_mono HO_9.out (fun _ hk => ⟨hk.1.1.1.1, ⟨hk.1.1.1.2.2, ⟨hk.1.1.2, ⟨hk.1.2, hk.2⟩⟩⟩⟩)⟩, ⟨by (with_reducible repeat (first | apply Kd.R_alloc | apply Kd.R_drewN | apply Kd.R_drew)); exact Kd.R_mono HO_11.out (fun _ hk => ⟨hk.1.1.1.1, ⟨hk.1.1.1.2.2, ⟨hk.1.1.2, ⟨hk.1.2, hk.2⟩⟩⟩⟩)⟩, ⟨by (with_reducible repeat (first | apply Kd.R_alloc | apply Kd.R_drewN | apply Kd.R_drew)); exact Kd.R_mono HO627.out (fun _ hk => ⟨hk.1.1.1.1.1.2, ⟨hk.1.1.1.2, ⟨hk.1.1.2, ⟨hk.1.2, hk.2⟩⟩⟩⟩)⟩, ⟨by (with_reducible repeat (first | apply Kd.R_alloc | apply Kd.R_drewN | apply Kd.R_drew)); exact Kd.R_mono HO631.out (fun _ hk => ⟨hk.1.1.1.1.1.2, ⟨hk.1.1.1.2, ⟨hk.1.1.2, ⟨hk.1.2, hk.2⟩⟩⟩⟩)⟩, ⟨by (with_reducible repeat (first | apply Kd.R_alloc | apply Kd.R_drewN | apply Kd.R_drew)); exact Kd.R_mono HO635.out (fun _ hk => ⟨hk.1.1.1.1.1.2, ⟨hk.1.1.1.2, ⟨hk.1.1.2, ⟨hk.1.2, hk.2⟩⟩⟩⟩)⟩, ⟨by repeat (first | (with_reducible first | exact HB.out | apply below_alloc | apply pw_below_drewN | apply below_drew1) | exact HB.out)⟩⟩
                case round =>
                  clear H'
                  try clear c1
                  try clear c2
                  try clear p2
                  try clear c3
                  try clear c4
                  try clear p6
                  try clear c7
                  try clear c7b0
                  try clear c7b1
                  try clear c8
                  try clear c9
                  try clear c10
                  try clear c18
                  try clear c18b0
                  try clear c18b1
                  try clear c19
                  try clear c19b0
                  try clear c19b1
                  try clear c20
                  try clear c20b0
                  try clear c20b1
                  try clear c21
                  try clear c30
                  try clear p2
                  obtain ⟨x15_3, x16_3, rfl, HA, HK3, HO_5, HO_9, HO_11, HO_13, HO_14, HO_15, HB⟩ := hrel
                  cases gk with
                  | zero => exact absurd HA.out (by simp [gangsawlaw01_SpanAlgebra.l0])
                  | succ k3 =>
                    have H := HA.out
                    clear HA
                    simp only [gangsawlaw01_SpanAlgebra.l0] at H
                    by_cases c31 : x16_3 ≥ 0
                    · rw [if_pos c31] at H
                      have c31b0 : decide (0 ≤ x16_3) = true := decide_eq_true c31
                      clear c31
                      by_cases c32 : 0 ≤ x16_3
                      · rw [if_pos c32] at H
                        have c32b0 : decide (0 ≤ x16_3) = true := decide_eq_true c32
                        clear c32
                        by_cases c33 : x16_3 < (l0.length : Int)
                        · rw [if_pos c33] at H
                          have c33b0 : decide (x16_3 < (l0.length : Int)) = true := decide_eq_true c33
                          clear c33
                          by_cases c34 : x15_3.length < 8796093022208
                          · rw [if_pos c34] at H
                            have LMc34 := Aside0.mk c34
                            clear c34
                            obtain ⟨y637, hy637⟩ : ∃ y_ : List (S23), y_ = (x15_3 ++ [(⟨(rd_T23 l0 x16_3).f0, (rd_T23 l0 x16_3).f1⟩ : S23)]) := ⟨_, rfl⟩
                            replace H : (gangsawlaw01_SpanAlgebra.l0 k3 l0 l1 t609 t628 t632 t617 t621 t625 t629 y637 (wrap64 (x16_3 - 1))) = some r := by first | (rw [hy637]; with_reducible exact H) | (have H2_ := (Option.bind_some _ _).symm.trans H; rw [hy637]; with_reducible exact H2_) | (have H2_ := (Option.bind_some _ _).symm.trans H; with_reducible exact H2_) | with_reducible exact H | (rw [hy637]; exact H) | exact H
                            have Ny637 := Aside0.mk hy637
                            clear hy637
                            have H' := Aside0.mk H
                            clear H
                            have p636 : 0 ≤ (x16_3 : Int) := of_decide_eq_true (by first | (with_reducible assumption) | assumption)
                            have q636 : x16_3 < (l0.length : Int) := of_decide_eq_true (by first | (with_reducible assumption) | assumption)
                            obtain ⟨ad636, e636, hx636_0, hx636_1⟩ := at_T23 HR0.out x16_3 p636 q636
                            cases e636
                            replace hx636_0 := (HB.out.cell (World.block_lt_of_cell? w _ hx636_0)).trans hx636_0
                            replace hx636_1 := (HB.out.cell (World.block_lt_of_cell? w _ hx636_1)).trans hx636_1
                            replace p636 := eq_true p636
                            replace q636 := eq_true q636
                            go_wp2_with (first | ((with_reducible refine gate_builtin (b := .append) (xs := #[.tmp 91, .tmp 96]) rfl ?_); (try (refine gate_guard (by rfl) ?_; dsimp only)); at_builtin; refine Kd.R_append k23 (w0 := w) w.heap.size rfl (.tmp 91) (.tmp 96) 31 23 (.agg #[(.int .i64 0), (.int .i64 0)]) 16 rfl Try.underlying31 info23 rfl (by decide) (by omega) u15 x15_3 (⟨(rd_T23 l0 x16_3).f0, (rd_T23 l0 x16_3).f1⟩ : S23) [.int .i64 ((rd_T23 l0 x16_3).f0), .int .i64 ((rd_T23 l0 x16_3).f1)] (fun k_ => some k_ ≠ (.slice Ao27 t609.length co27 : Value).ownBlock ∧ some k_ ≠ (.slice Ao25 t617.length co25 : Value).ownBlock ∧ some k_ ≠ (v622 : Value).ownBlock ∧ some k_ ≠ (v626 : Value).ownBlock ∧ some k_ ≠ (v630 : Value).ownBlock) (fun _ => False) rfl rfl ?aP (fun _ hk => hk.elim) ?aF ?aO ?aB ?aS ?aL ?_; (case aP => exact k23_mkM _ _ _ (⟨(rd_T23 l0 x16_3).f0, (rd_T23 l0 x16_3).f1⟩ : S23)); (case aB => exact (by repeat (first | (with_reducible first | exact HB.out | apply below_alloc | apply pw_below_drewN | apply below_drew1) | exact HB.out))); (case aF => exact (fun k_ hk => ⟨Kd.fresh' (Kd.R_lt (by (with_reducible repeat (first | apply Kd.R_alloc | apply Kd.R_drewN | apply Kd.R_drew)); exact HO_5.out)) k_ hk, Kd.fresh' (Kd.R_lt (by (with_reducible repeat (first | apply Kd.R_alloc | apply Kd.R_drewN | apply Kd.R_drew)); exact HO_9.out)) k_ hk, Kd.fresh' (Kd.R_lt (by (with_reducible repeat (first | apply Kd.R_alloc | apply Kd.R_drewN | apply Kd.R_drew)); exact HO_11.out)) k_ hk, Kd.fresh' (Kd.R_lt (by (with_reducible repeat (first | apply Kd.R_alloc | apply Kd.R_drewN | apply Kd.R_drew)); exact HO_13.out)) k_ hk, Kd.fresh' (Kd.R_lt (by (with_reducible repeat (first | apply Kd.R_alloc | apply Kd.R_drewN | apply Kd.R_drew)); exact HO_14.out)) k_ hk⟩)); (case aO => exact (by (with_reducible repeat (first | apply Kd.R_alloc | apply Kd.R_drewN | apply Kd.R_drew)); exact HO_15.out)); (case aS => exact (below_size (by repeat (first | (with_reducible first | exact HB.out | apply below_alloc | apply pw_below_drewN | apply below_drew1) | exact HB.out)))); (case aL => have := LMc34.out; omega); intro v638 w35 ho hb hg hat; rw [← Ny637.out] at ho; have n0_ := Aside0.mk (Kd.R_after (ok := (fun k_ => some k_ ≠ (.slice Ao25 t617.length co25 : Value).ownBlock ∧ some k_ ≠ (v622 : Value).ownBlock ∧ some k_ ≠ (v626 : Value).ownBlock ∧ some k_ ≠ (v630 : Value).ownBlock)) (by (with_reducible repeat (first | apply Kd.R_alloc | apply Kd.R_drewN | apply Kd.R_drew)); exact Kd.R_mono HO_5.out (fun _ hk => ⟨⟨hk.1, ⟨hk.2.1, ⟨hk.2.2.1, hk.2.2.2.1⟩⟩⟩, hk.2.2.2.2⟩)) hg hat); have n1_ := Aside0.mk (Kd.R_after (ok := (fun k_ => some k_ ≠ (.slice Ao27 t609.length co27 : Value).ownBlock ∧ some k_ ≠ (v622 : Value).ownBlock ∧ some k_ ≠ (v626 : Value).ownBlock ∧ some k_ ≠ (v630 : Value).ownBlock)) (by (with_reducible repeat (first | apply Kd.R_alloc | apply Kd.R_drewN | apply Kd.R_drew)); exact Kd.R_mono HO_9.out (fun _ hk => ⟨⟨hk.1, ⟨hk.2.1, ⟨hk.2.2.1, hk.2.2.2.1⟩⟩⟩, hk.2.2.2.2⟩)) hg hat); have n2_ := Aside0.mk (Kd.R_after (ok := (fun k_ => some k_ ≠ (.slice Ao27 t609.length co27 : Value).ownBlock ∧ some k_ ≠ (.slice Ao25 t617.length co25 : Value).ownBlock ∧ some k_ ≠ (v626 : Value).ownBlock ∧ some k_ ≠ (v630 : Value).ownBlock)) (by (with_reducible repeat (first | apply Kd.R_alloc | apply Kd.R_drewN | apply Kd.R_drew)); exact Kd.R_mono HO_11.out (fun _ hk => ⟨⟨hk.1, ⟨hk.2.1, ⟨hk.2.2.1, hk.2.2.2.1⟩⟩⟩, hk.2.2.2.2⟩)) hg hat); have n3_ := Aside0.mk (Kd.R_after (ok := (fun k_ => some k_ ≠ (.slice Ao27 t609.length co27 : Value).ownBlock ∧ some k_ ≠ (.slice Ao25 t617.length co25 : Value).ownBlock ∧ some k_ ≠ (v622 : Value).ownBlock ∧ some k_ ≠ (v630 : Value).ownBlock)) (by (with_reducible repeat (first | apply Kd.R_alloc | apply Kd.R_drewN | apply Kd.R_drew)); exact Kd.R_mono HO_13.out (fun _ hk => ⟨⟨hk.1, ⟨hk.2.1, ⟨hk.2.2.1, hk.2.2.2.1⟩⟩⟩, hk.2.2.2.2⟩)) hg hat); have n4_ := Aside0.mk (Kd.R_after (ok := (fun k_ => some k_ ≠ (.slice Ao27 t609.length co27 : Value).ownBlock ∧ some k_ ≠ (.slice Ao25 t617.length co25 : Value).ownBlock ∧ some k_ ≠ (v622 : Value).ownBlock ∧ some k_ ≠ (v626 : Value).ownBlock)) (by (with_reducible repeat (first | apply Kd.R_alloc | apply Kd.R_drewN | apply Kd.R_drew)); exact Kd.R_mono HO_14.out (fun _ hk => ⟨⟨hk.1, ⟨hk.2.1, ⟨hk.2.2.1, hk.2.2.2.1⟩⟩⟩, hk.2.2.2.2⟩)) hg hat); have n5_ := Aside0.mk (hb); have n6_ := Aside0.mk (ho); clear HO_5; clear HO_9; clear HO_11; clear HO_13; clear HO_14; clear HB; clear HO_15; have HO_5 := n0_; have HO_9 := n1_; have HO_11 := n2_; have HO_13 := n3_; have HO_14 := n4_; have HB := n5_; have HO639 := n6_; clear n0_ n1_ n2_ n3_ n4_ n5_ n6_; clear ho hb hg hat))
                            go_roundg k3
                            case measure => have := HJ4.out; have := HJ12.out; have := HK3.out; omega
                            case rel => exact ⟨(y637), (wrap64 (x16_3 - 1)), (by first | rfl | (simp; done) | (simp [*]; done)), H', ⟨by have := HJ4.out; have := HJ12.out; have := HK3.out; omega⟩, ⟨by (with_reducible repeat (first | apply Kd.R_alloc | apply Kd.R_drewN | apply Kd.R_drew)); exact Kd.R_mono HO_5.out (fun _ hk => ⟨hk.1.1, ⟨hk.1.2.1, ⟨hk.1.2.2.1, ⟨hk.1.2.2.2, hk.2⟩⟩⟩⟩)⟩, ⟨by (with_reducible repeat (first | apply Kd.R_alloc | apply Kd.R_drewN | apply Kd.R_drew)); exact Kd.R_mono HO_9.out (fun _ hk => ⟨hk.1.1, ⟨hk.1.2.1, ⟨hk.1.2.2.1, ⟨hk.1.2.2.2, hk.2⟩⟩⟩⟩)⟩, ⟨by (with_reducible repeat (first | apply Kd.R_alloc | apply Kd.R_drewN | apply Kd.R_drew)); exact Kd.R_mono HO_11.out (fun _ hk => ⟨hk.1.1, ⟨hk.1.2.1, ⟨hk.1.2.2.1, ⟨hk.1.2.2.2, hk.2⟩⟩⟩⟩)⟩, ⟨by (with_reducible repeat (first | apply Kd.R_alloc | apply Kd.R_drewN | apply Kd.R_drew)); exact Kd.R_mono HO_13.out (fun _ hk => ⟨hk.1.1, ⟨hk.1.2.1, ⟨hk.1.2.2.1, ⟨hk.1.2.2.2, hk.2⟩⟩⟩⟩)⟩, ⟨by (with_reducible repeat (first | apply Kd.R_alloc | apply Kd.R_drewN | apply Kd.R_drew)); exact Kd.R_mono HO_14.out (fun _ hk => ⟨hk.1.1, ⟨hk.1.2.1, ⟨hk.1.2.2.1, ⟨hk.1.2.2.2, hk.2⟩⟩⟩⟩)⟩, ⟨by (with_reducible repeat (first | apply Kd.R_alloc | apply Kd.R_drewN | apply Kd.R_drew)); exact HO639.out⟩, ⟨by repeat (first | (with_reducible first | exact HB.out | apply below_alloc | apply pw_below_drewN | apply below_drew1) | exact HB.out)⟩⟩
                          · rw [if_neg c34] at H
                            exact absurd H (by simp)
                        · rw [if_neg c33] at H
                          exact absurd H (by simp)
                      · rw [if_neg c32] at H
                        exact absurd H (by simp)
                    · rw [if_neg c31] at H
                      have c31b0 : decide (0 ≤ x16_3) = false := decide_eq_false c31
                      clear c31
                      replace H := Option.bind_eq_some_iff.mp H
                      obtain ⟨⟨t640, t643⟩, A360, H⟩ := H
                      replace H : ((span_Count.f k3 l0).bind fun bt644 => ((span_Count.f k3 l1).bind fun bt646 => ((span_Count.f k3 t617).bind fun bt648 => ((span_Count.f k3 t621).bind fun bt650 => (if t628 = 0 then ((gangsawref01_Same.f k3 t625 t609).bind fun t652 => (if t652 = true then (if t632 = 0 then ((gangsawref01_Same.f k3 t629 t609).bind fun t653 => (if t653 = true then (if t643 = 0 then ((gangsawref01_Same.f k3 t640 t609).bind fun t654 => (if t654 = true then (if bt644.2 = 0 then (if bt646.2 = 0 then (if bt648.2 = 0 then (if bt650.2 = 0 then (gangsawlaw01_SpanAlgebra.j3 k3 (bt650.1 == (wrap64 ((wrap64 (bt644.1 + bt646.1)) - bt648.1)))) else (gangsawlaw01_SpanAlgebra.j3 k3 false)) else (gangsawlaw01_SpanAlgebra.j3 k3 false)) else (gangsawlaw01_SpanAlgebra.j3 k3 false)) else (gangsawlaw01_SpanAlgebra.j3 k3 false)) else (gangsawlaw01_SpanAlgebra.j3 k3 false))) else (gangsawlaw01_SpanAlgebra.j3 k3 false)) else (gangsawlaw01_SpanAlgebra.j3 k3 false))) else (gangsawlaw01_SpanAlgebra.j3 k3 false)) else (gangsawlaw01_SpanAlgebra.j3 k3 false))) else (gangsawlaw01_SpanAlgebra.j3 k3 false)))))) = some r := H
                      have A36 := Aside0.mk A360
                      clear A360
                      replace H := Option.bind_eq_some_iff.mp H
                      obtain ⟨⟨t644, t645⟩, A370, H⟩ := H
                      replace H : ((span_Count.f k3 l1).bind fun bt646 => ((span_Count.f k3 t617).bind fun bt648 => ((span_Count.f k3 t621).bind fun bt650 => (if t628 = 0 then ((gangsawref01_Same.f k3 t625 t609).bind fun t652 => (if t652 = true then (if t632 = 0 then ((gangsawref01_Same.f k3 t629 t609).bind fun t653 => (if t653 = true then (if t643 = 0 then ((gangsawref01_Same.f k3 t640 t609).bind fun t654 => (if t654 = true then (if t645 = 0 then (if bt646.2 = 0 then (if bt648.2 = 0 then (if bt650.2 = 0 then (gangsawlaw01_SpanAlgebra.j3 k3 (bt650.1 == (wrap64 ((wrap64 (t644 + bt646.1)) - bt648.1)))) else (gangsawlaw01_SpanAlgebra.j3 k3 false)) else (gangsawlaw01_SpanAlgebra.j3 k3 false)) else (gangsawlaw01_SpanAlgebra.j3 k3 false)) else (gangsawlaw01_SpanAlgebra.j3 k3 false)) else (gangsawlaw01_SpanAlgebra.j3 k3 false))) else (gangsawlaw01_SpanAlgebra.j3 k3 false)) else (gangsawlaw01_SpanAlgebra.j3 k3 false))) else (gangsawlaw01_SpanAlgebra.j3 k3 false)) else (gangsawlaw01_SpanAlgebra.j3 k3 false))) else (gangsawlaw01_SpanAlgebra.j3 k3 false))))) = some r := H
                      have A37 := Aside0.mk A370
                      clear A370
                      replace H := Option.bind_eq_some_iff.mp H
                      obtain ⟨⟨t646, t647⟩, A380, H⟩ := H
                      replace H : ((span_Count.f k3 t617).bind fun bt648 => ((span_Count.f k3 t621).bind fun bt650 => (if t628 = 0 then ((gangsawref01_Same.f k3 t625 t609).bind fun t652 => (if t652 = true then (if t632 = 0 then ((gangsawref01_Same.f k3 t629 t609).bind fun t653 => (if t653 = true then (if t643 = 0 then ((gangsawref01_Same.f k3 t640 t609).bind fun t654 => (if t654 = true then (if t645 = 0 then (if t647 = 0 then (if bt648.2 = 0 then (if bt650.2 = 0 then (gangsawlaw01_SpanAlgebra.j3 k3 (bt650.1 == (wrap64 ((wrap64 (t644 + t646)) - bt648.1)))) else (gangsawlaw01_SpanAlgebra.j3 k3 false)) else (gangsawlaw01_SpanAlgebra.j3 k3 false)) else (gangsawlaw01_SpanAlgebra.j3 k3 false)) else (gangsawlaw01_SpanAlgebra.j3 k3 false)) else (gangsawlaw01_SpanAlgebra.j3 k3 false))) else (gangsawlaw01_SpanAlgebra.j3 k3 false)) else (gangsawlaw01_SpanAlgebra.j3 k3 false))) else (gangsawlaw01_SpanAlgebra.j3 k3 false)) else (gangsawlaw01_SpanAlgebra.j3 k3 false))) else (gangsawlaw01_SpanAlgebra.j3 k3 false)))) = some r := H
                      have A38 := Aside0.mk A380
                      clear A380
                      replace H := Option.bind_eq_some_iff.mp H
                      obtain ⟨⟨t648, t649⟩, A390, H⟩ := H
                      replace H : ((span_Count.f k3 t621).bind fun bt650 => (if t628 = 0 then ((gangsawref01_Same.f k3 t625 t609).bind fun t652 => (if t652 = true then (if t632 = 0 then ((gangsawref01_Same.f k3 t629 t609).bind fun t653 => (if t653 = true then (if t643 = 0 then ((gangsawref01_Same.f k3 t640 t609).bind fun t654 => (if t654 = true then (if t645 = 0 then (if t647 = 0 then (if t649 = 0 then (if bt650.2 = 0 then (gangsawlaw01_SpanAlgebra.j3 k3 (bt650.1 == (wrap64 ((wrap64 (t644 + t646)) - t648)))) else (gangsawlaw01_SpanAlgebra.j3 k3 false)) else (gangsawlaw01_SpanAlgebra.j3 k3 false)) else (gangsawlaw01_SpanAlgebra.j3 k3 false)) else (gangsawlaw01_SpanAlgebra.j3 k3 false)) else (gangsawlaw01_SpanAlgebra.j3 k3 false))) else (gangsawlaw01_SpanAlgebra.j3 k3 false)) else (gangsawlaw01_SpanAlgebra.j3 k3 false))) else (gangsawlaw01_SpanAlgebra.j3 k3 false)) else (gangsawlaw01_SpanAlgebra.j3 k3 false))) else (gangsawlaw01_SpanAlgebra.j3 k3 false))) = some r := H
                      have A39 := Aside0.mk A390
                      clear A390
                      replace H := Option.bind_eq_some_iff.mp H
                      obtain ⟨⟨t650, t651⟩, A400, H⟩ := H
                      replace H : (if t628 = 0 then ((gangsawref01_Same.f k3 t625 t609).bind fun t652 => (if t652 = true then (if t632 = 0 then ((gangsawref01_Same.f k3 t629 t609).bind fun t653 => (if t653 = true then (if t643 = 0 then ((gangsawref01_Same.f k3 t640 t609).bind fun t654 => (if t654 = true then (if t645 = 0 then (if t647 = 0 then (if t649 = 0 then (if t651 = 0 then (gangsawlaw01_SpanAlgebra.j3 k3 (t650 == (wrap64 ((wrap64 (t644 + t646)) - t648)))) else (gangsawlaw01_SpanAlgebra.j3 k3 false)) else (gangsawlaw01_SpanAlgebra.j3 k3 false)) else (gangsawlaw01_SpanAlgebra.j3 k3 false)) else (gangsawlaw01_SpanAlgebra.j3 k3 false)) else (gangsawlaw01_SpanAlgebra.j3 k3 false))) else (gangsawlaw01_SpanAlgebra.j3 k3 false)) else (gangsawlaw01_SpanAlgebra.j3 k3 false))) else (gangsawlaw01_SpanAlgebra.j3 k3 false)) else (gangsawlaw01_SpanAlgebra.j3 k3 false))) else (gangsawlaw01_SpanAlgebra.j3 k3 false)) = some r := H
                      have A40 := Aside0.mk A400
                      clear A400
                      have HC41 := Aside0.mk H
                      clear H
                      obtain ⟨Ao42, co42, eo42⟩ := Kd.R_slice HO_15.out
                      subst eo42
                      go_upto_region 23 with (first | ((with_reducible refine gate_callee (f := 30) rfl ?_); refine goesL_ (some 100) rfl rfl Try.func30 (by kernel_rfl) rfl #[.slice Ao42 x15_3.length co42] rfl (by (try simp only [List.map_toArray, List.map_cons, List.map_nil]); first | done | rfl | (simp only [List.length_drop, List.length_take]; rfl)) ?_; (with_reducible refine (span_Normalize.calls k3 (fun k_ => some k_ = (.slice Ao42 x15_3.length co42 : Value).ownBlock) _ _ x15_3 t640 t643 _ ?side1 A36.out).mono ?_); (case side1 => exact Kd.R_V (Kd.R_tight rfl (HO_15.out))); rintro e w43 ⟨v641, rfl, ho0, hb⟩; refine ⟨_, rfl, ?_⟩; have n0_ := Aside0.mk (Kd.R_elder' (by (with_reducible repeat (first | apply Kd.R_alloc | apply Kd.R_drewN | apply Kd.R_drew)); exact HO_5.out) (Kd.R_base ho0) hb); have n1_ := Aside0.mk (Kd.R_elder' (by (with_reducible repeat (first | apply Kd.R_alloc | apply Kd.R_drewN | apply Kd.R_drew)); exact HO_9.out) (Kd.R_base ho0) hb); have n2_ := Aside0.mk (Kd.R_elder' (by (with_reducible repeat (first | apply Kd.R_alloc | apply Kd.R_drewN | apply Kd.R_drew)); exact HO_11.out) (Kd.R_base ho0) hb); have n3_ := Aside0.mk (Kd.R_elder' (by (with_reducible repeat (first | apply Kd.R_alloc | apply Kd.R_drewN | apply Kd.R_drew)); exact HO_13.out) (Kd.R_base ho0) hb); have n4_ := Aside0.mk (Kd.R_elder' (by (with_reducible repeat (first | apply Kd.R_alloc | apply Kd.R_drewN | apply Kd.R_drew)); exact HO_14.out) (Kd.R_base ho0) hb); have n5_ := Aside0.mk (Kd.R_elder' (by (with_reducible repeat (first | apply Kd.R_alloc | apply Kd.R_drewN | apply Kd.R_drew)); exact HO_15.out) (Kd.R_base ho0) hb); have n6_ := Aside0.mk (Kd.R_lower (Kd.R_new' (Kd.R_new' (Kd.R_new' (Kd.R_new' (Kd.R_new' (Kd.R_new' (Kd.R_mono (ok' := fun k_ => True) ho0 (fun _ hk_ => trivial)) (Kd.R_lt (by (with_reducible repeat (first | apply Kd.R_alloc | apply Kd.R_drewN | apply Kd.R_drew)); exact HO_5.out))) (Kd.R_lt (by (with_reducible repeat (first | apply Kd.R_alloc | apply Kd.R_drewN | apply Kd.R_drew)); exact HO_9.out))) (Kd.R_lt (by (with_reducible repeat (first | apply Kd.R_alloc | apply Kd.R_drewN | apply Kd.R_drew)); exact HO_11.out))) (Kd.R_lt (by (with_reducible repeat (first | apply Kd.R_alloc | apply Kd.R_drewN | apply Kd.R_drew)); exact HO_13.out))) (Kd.R_lt (by (with_reducible repeat (first | apply Kd.R_alloc | apply Kd.R_drewN | apply Kd.R_drew)); exact HO_14.out))) (Kd.R_lt (by (with_reducible repeat (first | apply Kd.R_alloc | apply Kd.R_drewN | apply Kd.R_drew)); exact HO_15.out))) (below_size (by repeat (first | (with_reducible first | exact HB.out | apply below_alloc | apply pw_below_drewN | apply below_drew1) | exact HB.out)))); have n7_ := Aside0.mk (below_step (by repeat (first | (with_reducible first | exact HB.out | apply below_alloc | apply pw_below_drewN | apply below_drew1) | exact HB.out)) hb); clear HO_5; clear HO_9; clear HO_11; clear HO_13; clear HO_14; clear HO_15; clear HB; have HO_5 := n0_; have HO_9 := n1_; have HO_11 := n2_; have HO_13 := n3_; have HO_14 := n4_; have HO_15 := n5_; have HO642 := n6_; have HB := n7_; clear n0_ n1_ n2_ n3_ n4_ n5_ n6_ n7_; (try clear hb); (try clear hb2); (try clear hk); (try clear hi); (try clear ho0)) | ((with_reducible refine gate_callee (f := 34) rfl ?_); refine goesL_ (some 105) rfl rfl Try.func34 (by kernel_rfl) rfl #[.slice A0 l0.length c0] rfl (by (try simp only [List.map_toArray, List.map_cons, List.map_nil]); first | done | rfl | (simp only [List.length_drop, List.length_take]; rfl)) ?_; (with_reducible refine (span_Count.calls k3 (fun k_ => k_ < w.heap.size) _ _ l0 t644 t645 _ ?side1 A37.out).mono ?_); (case side1 => exact Kd.V_mk HC0.out (Kd.F_below (Kd.C_F k23_heap HR0.out) (by repeat (first | (with_reducible first | exact HB.out | apply below_alloc | apply pw_below_drewN | apply below_drew1) | exact HB.out)))); rintro e w44 ⟨rfl, hb⟩; refine ⟨_, rfl, ?_⟩; have n0_ := Aside0.mk (Kd.R_below (by (with_reducible repeat (first | apply Kd.R_alloc | apply Kd.R_drewN | apply Kd.R_drew)); exact HO_5.out) hb); have n1_ := Aside0.mk (Kd.R_below (by (with_reducible repeat (first | apply Kd.R_alloc | apply Kd.R_drewN | apply Kd.R_drew)); exact HO_9.out) hb); have n2_ := Aside0.mk (Kd.R_below (by (with_reducible repeat (first | apply Kd.R_alloc | apply Kd.R_drewN | apply Kd.R_drew)); exact HO_11.out) hb); have n3_ := Aside0.mk (Kd.R_below (by (with_reducible repeat (first | apply Kd.R_alloc | apply Kd.R_drewN | apply Kd.R_drew)); exact HO_13.out) hb); have n4_ := Aside0.mk (Kd.R_below (by (with_reducible repeat (first | apply Kd.R_alloc | apply Kd.R_drewN | apply Kd.R_drew)); exact HO_14.out) hb); have n5_ := Aside0.mk (Kd.R_below (by (with_reducible repeat (first | apply Kd.R_alloc | apply Kd.R_drewN | apply Kd.R_drew)); exact HO_15.out) hb); have n6_ := Aside0.mk (Kd.R_below (by (with_reducible repeat (first | apply Kd.R_alloc | apply Kd.R_drewN | apply Kd.R_drew)); exact HO642.out) hb); have n7_ := Aside0.mk (below_step (by repeat (first | (with_reducible first | exact HB.out | apply below_alloc | apply pw_below_drewN | apply below_drew1) | exact HB.out)) hb); clear HO_5; clear HO_9; clear HO_11; clear HO_13; clear HO_14; clear HO_15; clear HO642; clear HB; have HO_5 := n0_; have HO_9 := n1_; have HO_11 := n2_; have HO_13 := n3_; have HO_14 := n4_; have HO_15 := n5_; have HO642 := n6_; have HB := n7_; clear n0_ n1_ n2_ n3_ n4_ n5_ n6_ n7_; (try clear hb); (try clear hb2); (try clear hk); (try clear hi)) | ((with_reducible refine gate_callee (f := 34) rfl ?_); refine goesL_ (some 110) rfl rfl Try.func34 (by kernel_rfl) rfl #[.slice A1 l1.length c1] rfl (by (try simp only [List.map_toArray, List.map_cons, List.map_nil]); first | done | rfl | (simp only [List.length_drop, List.length_take]; rfl)) ?_; (with_reducible refine (span_Count.calls k3 (fun k_ => k_ < w.heap.size) _ _ l1 t646 t647 _ ?side1 A38.out).mono ?_); (case side1 => exact Kd.V_mk HC1.out (Kd.F_below (Kd.C_F k23_heap HR1.out) (by repeat (first | (with_reducible first | exact HB.out | apply below_alloc | apply pw_below_drewN | apply below_drew1) | exact HB.out)))); rintro e w45 ⟨rfl, hb⟩; refine ⟨_, rfl, ?_⟩; have n0_ := Aside0.mk (Kd.R_below (by (with_reducible repeat (first | apply Kd.R_alloc | apply Kd.R_drewN | apply Kd.R_drew)); exact HO_5.out) hb); have n1_ := Aside0.mk (Kd.R_below (by (with_reducible repeat (first | apply Kd.R_alloc | apply Kd.R_drewN | apply Kd.R_drew)); exact HO_9.out) hb); have n2_ := Aside0.mk (Kd.R_below (by (with_reducible repeat (first | apply Kd.R_alloc | apply Kd.R_drewN | apply Kd.R_drew)); exact HO_11.out) hb); have n3_ := Aside0.mk (Kd.R_below (by (with_reducible repeat (first | apply Kd.R_alloc | apply Kd.R_drewN | apply Kd.R_drew)); exact HO_13.out) hb); have n4_ := Aside0.mk (Kd.R_below (by (with_reducible repeat (first | apply Kd.R_alloc | apply Kd.R_drewN | apply Kd.R_drew)); exact HO_14.out) hb); have n5_ := Aside0.mk (Kd.R_below (by (with_reducible repeat (first | apply Kd.R_alloc | apply Kd.R_drewN | apply Kd.R_drew)); exact HO_15.out) hb); have n6_ := Aside0.mk (Kd.R_below (by (with_reducible repeat (first | apply Kd.R_alloc | apply Kd.R_drewN | apply Kd.R_drew)); exact HO642.out) hb); have n7_ := Aside0.mk (below_step (by repeat (first | (with_reducible first | exact HB.out | apply below_alloc | apply pw_below_drewN | apply below_drew1) | exact HB.out)) hb); clear HO_5; clear HO_9; clear HO_11; clear HO_13; clear HO_14; clear HO_15; clear HO642; clear HB; have HO_5 := n0_; have HO_9 := n1_; have HO_11 := n2_; have HO_13 := n3_; have HO_14 := n4_; have HO_15 := n5_; have HO642 := n6_; have HB := n7_; clear n0_ n1_ n2_ n3_ n4_ n5_ n6_ n7_; (try clear hb); (try clear hb2); (try clear hk); (try clear hi)) | ((with_reducible refine gate_callee (f := 34) rfl ?_); refine goesL_ (some 115) rfl rfl Try.func34 (by kernel_rfl) rfl #[.slice Ao25 t617.length co25] rfl (by (try simp only [List.map_toArray, List.map_cons, List.map_nil]); first | done | rfl | (simp only [List.length_drop, List.length_take]; rfl)) ?_; (with_reducible refine (span_Count.calls k3 (fun k_ => some k_ = (.slice Ao25 t617.length co25 : Value).ownBlock) _ _ t617 t648 t649 _ ?side1 A39.out).mono ?_); (case side1 => exact Kd.R_V (Kd.R_tight rfl (HO_9.out))); rintro e w46 ⟨rfl, hb⟩; refine ⟨_, rfl, ?_⟩; have n0_ := Aside0.mk (Kd.R_below (by (with_reducible repeat (first | apply Kd.R_alloc | apply Kd.R_drewN | apply Kd.R_drew)); exact HO_5.out) hb); have n1_ := Aside0.mk (Kd.R_below (by (with_reducible repeat (first | apply Kd.R_alloc | apply Kd.R_drewN | apply Kd.R_drew)); exact HO_9.out) hb); have n2_ := Aside0.mk (Kd.R_below (by (with_reducible repeat (first | apply Kd.R_alloc | apply Kd.R_drewN | apply Kd.R_drew)); exact HO_11.out) hb); have n3_ := Aside0.mk (Kd.R_below (by (with_reducible repeat (first | apply Kd.R_alloc | apply Kd.R_drewN | apply Kd.R_drew)); exact HO_13.out) hb); have n4_ := Aside0.mk (Kd.R_below (by (with_reducible repeat (first | apply Kd.R_alloc | apply Kd.R_drewN | apply Kd.R_drew)); exact HO_14.out) hb); have n5_ := Aside0.mk (Kd.R_below (by (with_reducible repeat (first | apply Kd.R_alloc | apply Kd.R_drewN | apply Kd.R_drew)); exact HO_15.out) hb); have n6_ := Aside0.mk (Kd.R_below (by (with_reducible repeat (first | apply Kd.R_alloc | apply Kd.R_drewN | apply Kd.R_drew)); exact HO642.out) hb); have n7_ := Aside0.mk (below_step (by repeat (first | (with_reducible first | exact HB.out | apply below_alloc | apply pw_below_drewN | apply below_drew1) | exact HB.out)) hb); clear HO_5; clear HO_9; clear HO_11; clear HO_13; clear HO_14; clear HO_15; clear HO642; clear HB; have HO_5 := n0_; have HO_9 := n1_; have HO_11 := n2_; have HO_13 := n3_; have HO_14 := n4_; have HO_15 := n5_; have HO642 := n6_; have HB := n7_; clear n0_ n1_ n2_ n3_ n4_ n5_ n6_ n7_; (try clear hb); (try clear hb2); (try clear hk); (try clear hi); obtain ⟨Ao47, co47, eo47⟩ := Kd.R_slice HO_11.out; subst eo47) | ((with_reducible refine gate_callee (f := 34) rfl ?_); refine goesL_ (some 120) rfl rfl Try.func34 (by kernel_rfl) rfl #[.slice Ao47 t621.length co47] rfl (by (try simp only [List.map_toArray, List.map_cons, List.map_nil]); first | done | rfl | (simp only [List.length_drop, List.length_take]; rfl)) ?_; (with_reducible refine (span_Count.calls k3 (fun k_ => some k_ = (.slice Ao47 t621.length co47 : Value).ownBlock) _ _ t621 t650 t651 _ ?side1 A40.out).mono ?_); (case side1 => exact Kd.R_V (Kd.R_tight rfl (HO_11.out))); rintro e w48 ⟨rfl, hb⟩; refine ⟨_, rfl, ?_⟩; have n0_ := Aside0.mk (Kd.R_below (by (with_reducible repeat (first | apply Kd.R_alloc | apply Kd.R_drewN | apply Kd.R_drew)); exact HO_5.out) hb); have n1_ := Aside0.mk (Kd.R_below (by (with_reducible repeat (first | apply Kd.R_alloc | apply Kd.R_drewN | apply Kd.R_drew)); exact HO_9.out) hb); have n2_ := Aside0.mk (Kd.R_below (by (with_reducible repeat (first | apply Kd.R_alloc | apply Kd.R_drewN | apply Kd.R_drew)); exact HO_11.out) hb); have n3_ := Aside0.mk (Kd.R_below (by (with_reducible repeat (first | apply Kd.R_alloc | apply Kd.R_drewN | apply Kd.R_drew)); exact HO_13.out) hb); have n4_ := Aside0.mk (Kd.R_below (by (with_reducible repeat (first | apply Kd.R_alloc | apply Kd.R_drewN | apply Kd.R_drew)); exact HO_14.out) hb); have n5_ := Aside0.mk (Kd.R_below (by (with_reducible repeat (first | apply Kd.R_alloc | apply Kd.R_drewN | apply Kd.R_drew)); exact HO_15.out) hb); have n6_ := Aside0.mk (Kd.R_below (by (with_reducible repeat (first | apply Kd.R_alloc | apply Kd.R_drewN | apply Kd.R_drew)); exact HO642.out) hb); have n7_ := Aside0.mk (below_step (by repeat (first | (with_reducible first | exact HB.out | apply below_alloc | apply pw_below_drewN | apply below_drew1) | exact HB.out)) hb); clear HO_5; clear HO_9; clear HO_11; clear HO_13; clear HO_14; clear HO_15; clear HO642; clear HB; have HO_5 := n0_; have HO_9 := n1_; have HO_11 := n2_; have HO_13 := n3_; have HO_14 := n4_; have HO_15 := n5_; have HO642 := n6_; have HB := n7_; clear n0_ n1_ n2_ n3_ n4_ n5_ n6_ n7_; (try clear hb); (try clear hb2); (try clear hk); (try clear hi)))
                      (try simp only [Act.put, List.setIfInBounds_toArray, List.set_cons_zero, List.set_cons_succ])
                      go_cut [4] (fun v4 wc => ∃ (kq : Nat) (x4_40 : Bool), v4 = .bool x4_40 ∧ Aside0 (gangsawlaw01_SpanAlgebra.j3 kq x4_40 = some r) ∧ Aside0 (kq ≤ k3) ∧ Aside0 (Below w.heap.size w wc))
                      case first =>
                        have H := HC41.out
                        clear HC41
                        by_cases c49 : t628 = 0
                        · rw [if_pos c49] at H
                          have c49b0 : (t628 == 0) = true := beq_iff_eq.mpr c49
                          have c49b1 : (t628 != 0) = false := bne_eq_false_iff_eq.mpr c49
                          clear c49
                          (first | rw [c49b0] | (simp only [i64_w, i32_w]; rw [c49b0]) | skip)
                          replace H := Option.bind_eq_some_iff.mp H
                          obtain ⟨t652, A500, H⟩ := H
                          replace H : (if t652 = true then (if t632 = 0 then ((gangsawref01_Same.f k3 t629 t609).bind fun t653 => (if t653 = true then (if t643 = 0 then ((gangsawref01_Same.f k3 t640 t609).bind fun t654 => (if t654 = true then (if t645 = 0 then (if t647 = 0 then (if t649 = 0 then (if t651 = 0 then (gangsawlaw01_SpanAlgebra.j3 k3 (t650 == (wrap64 ((wrap64 (t644 + t646)) - t648)))) else (gangsawlaw01_SpanAlgebra.j3 k3 false)) else (gangsawlaw01_SpanAlgebra.j3 k3 false)) else (gangsawlaw01_SpanAlgebra.j3 k3 false)) else (gangsawlaw01_SpanAlgebra.j3 k3 false)) else (gangsawlaw01_SpanAlgebra.j3 k3 false))) else (gangsawlaw01_SpanAlgebra.j3 k3 false)) else (gangsawlaw01_SpanAlgebra.j3 k3 false))) else (gangsawlaw01_SpanAlgebra.j3 k3 false)) else (gangsawlaw01_SpanAlgebra.j3 k3 false)) = some r := H
                          have A50 := Aside0.mk A500
                          clear A500
                          by_cases c51 : t652 = true
                          · subst c51
                            have H1 : (if t632 = 0 then ((gangsawref01_Same.f k3 t629 t609).bind fun t653 => (if t653 = true then (if t643 = 0 then ((gangsawref01_Same.f k3 t640 t609).bind fun t654 => (if t654 = true then (if t645 = 0 then (if t647 = 0 then (if t649 = 0 then (if t651 = 0 then (gangsawlaw01_SpanAlgebra.j3 k3 (t650 == (wrap64 ((wrap64 (t644 + t646)) - t648)))) else (gangsawlaw01_SpanAlgebra.j3 k3 false)) else (gangsawlaw01_SpanAlgebra.j3 k3 false)) else (gangsawlaw01_SpanAlgebra.j3 k3 false)) else (gangsawlaw01_SpanAlgebra.j3 k3 false)) else (gangsawlaw01_SpanAlgebra.j3 k3 false))) else (gangsawlaw01_SpanAlgebra.j3 k3 false)) else (gangsawlaw01_SpanAlgebra.j3 k3 false))) else (gangsawlaw01_SpanAlgebra.j3 k3 false)) = some r := by rw [if_pos rfl] at H; exact H
                            clear H
                            have H := H1
                            clear H1
                            by_cases c52 : t632 = 0
                            · rw [if_pos c52] at H
                              have c52b0 : (t632 == 0) = true := beq_iff_eq.mpr c52
                              have c52b1 : (t632 != 0) = false := bne_eq_false_iff_eq.mpr c52
                              clear c52
                              replace H := Option.bind_eq_some_iff.mp H
                              obtain ⟨t653, A530, H⟩ := H
                              replace H : (if t653 = true then (if t643 = 0 then ((gangsawref01_Same.f k3 t640 t609).bind fun t654 => (if t654 = true then (if t645 = 0 then (if t647 = 0 then (if t649 = 0 then (if t651 = 0 then (gangsawlaw01_SpanAlgebra.j3 k3 (t650 == (wrap64 ((wrap64 (t644 + t646)) - t648)))) else (gangsawlaw01_SpanAlgebra.j3 k3 false)) else (gangsawlaw01_SpanAlgebra.j3 k3 false)) else (gangsawlaw01_SpanAlgebra.j3 k3 false)) else (gangsawlaw01_SpanAlgebra.j3 k3 false)) else (gangsawlaw01_SpanAlgebra.j3 k3 false))) else (gangsawlaw01_SpanAlgebra.j3 k3 false)) else (gangsawlaw01_SpanAlgebra.j3 k3 false)) = some r := H
                              have A53 := Aside0.mk A530
                              clear A530
                              by_cases c54 : t653 = true
                              · subst c54
                                have H1 : (if t643 = 0 then ((gangsawref01_Same.f k3 t640 t609).bind fun t654 => (if t654 = true then (if t645 = 0 then (if t647 = 0 then (if t649 = 0 then (if t651 = 0 then (gangsawlaw01_SpanAlgebra.j3 k3 (t650 == (wrap64 ((wrap64 (t644 + t646)) - t648)))) else (gangsawlaw01_SpanAlgebra.j3 k3 false)) else (gangsawlaw01_SpanAlgebra.j3 k3 false)) else (gangsawlaw01_SpanAlgebra.j3 k3 false)) else (gangsawlaw01_SpanAlgebra.j3 k3 false)) else (gangsawlaw01_SpanAlgebra.j3 k3 false))) else (gangsawlaw01_SpanAlgebra.j3 k3 false)) = some r := by rw [if_pos rfl] at H; exact H
                                clear H
                                have H := H1
                                clear H1
                                by_cases c55 : t643 = 0
                                · rw [if_pos c55] at H
                                  have c55b0 : (t643 == 0) = true := beq_iff_eq.mpr c55
                                  have c55b1 : (t643 != 0) = false := bne_eq_false_iff_eq.mpr c55
                                  clear c55
                                  replace H := Option.bind_eq_some_iff.mp H
                                  obtain ⟨t654, A560, H⟩ := H
                                  replace H : (if t654 = true then (if t645 = 0 then (if t647 = 0 then (if t649 = 0 then (if t651 = 0 then (gangsawlaw01_SpanAlgebra.j3 k3 (t650 == (wrap64 ((wrap64 (t644 + t646)) - t648)))) else (gangsawlaw01_SpanAlgebra.j3 k3 false)) else (gangsawlaw01_SpanAlgebra.j3 k3 false)) else (gangsawlaw01_SpanAlgebra.j3 k3 false)) else (gangsawlaw01_SpanAlgebra.j3 k3 false)) else (gangsawlaw01_SpanAlgebra.j3 k3 false)) = some r := H
                                  have A56 := Aside0.mk A560
                                  clear A560
                                  by_cases c57 : t654 = true
                                  · subst c57
                                    have H1 : (if t645 = 0 then (if t647 = 0 then (if t649 = 0 then (if t651 = 0 then (gangsawlaw01_SpanAlgebra.j3 k3 (t650 == (wrap64 ((wrap64 (t644 + t646)) - t648)))) else (gangsawlaw01_SpanAlgebra.j3 k3 false)) else (gangsawlaw01_SpanAlgebra.j3 k3 false)) else (gangsawlaw01_SpanAlgebra.j3 k3 false)) else (gangsawlaw01_SpanAlgebra.j3 k3 false)) = some r := by rw [if_pos rfl] at H; exact H
                                    clear H
                                    have H := H1
                                    clear H1
                                    by_cases c58 : t645 = 0
                                    · rw [if_pos c58] at H
                                      have c58b0 : (t645 == 0) = true := beq_iff_eq.mpr c58
                                      have c58b1 : (t645 != 0) = false := bne_eq_false_iff_eq.mpr c58
                                      clear c58
                                      by_cases c59 : t647 = 0
                                      · rw [if_pos c59] at H
                                        have c59b0 : (t647 == 0) = true := beq_iff_eq.mpr c59
                                        have c59b1 : (t647 != 0) = false := bne_eq_false_iff_eq.mpr c59
                                        clear c59
                                        by_cases c60 : t649 = 0
                                        · rw [if_pos c60] at H
                                          have c60b0 : (t649 == 0) = true := beq_iff_eq.mpr c60
                                          have c60b1 : (t649 != 0) = false := bne_eq_false_iff_eq.mpr c60
                                          clear c60
                                          by_cases c61 : t651 = 0
                                          · rw [if_pos c61] at H
                                            have c61b0 : (t651 == 0) = true := beq_iff_eq.mpr c61
                                            have c61b1 : (t651 != 0) = false := bne_eq_false_iff_eq.mpr c61
                                            clear c61
                                            have H' := Aside0.mk H
                                            clear H
                                            obtain ⟨Ao62, co62, eo62⟩ := Kd.R_slice HO_13.out
                                            subst eo62
                                            go_wp2_with (first | (go_at_call 36; (with_reducible refine (gangsawref01_Same.calls k3 _ _ t625 _ _ t609 true _ ?side1 ?side2 ?side3 ?side4 A50.out).mono ?_); (case side1 => repeat (first | exact (Kd.R_reads' HO_13.out).2.2 | (with_reducible refine Kd.C_alloc ?_ _) | (with_reducible refine Kd.C_drewN ?_ _) | (with_reducible refine Kd.C_drew ?_))); (case side2 => exact (Kd.R_reads' HO_13.out).2.1); (case side3 => repeat (first | exact (Kd.R_reads' HO_5.out).2.2 | (with_reducible refine Kd.C_alloc ?_ _) | (with_reducible refine Kd.C_drewN ?_ _) | (with_reducible refine Kd.C_drew ?_))); (case side4 => exact (Kd.R_reads' HO_5.out).2.1); rintro e w' ⟨rfl, ⟨nd, rfl⟩⟩; obtain ⟨Ao63, co63, eo63⟩ := Kd.R_slice HO_14.out; subst eo63) | (go_at_call 36; (with_reducible refine (gangsawref01_Same.calls k3 _ _ t629 _ _ t609 true _ ?side1 ?side2 ?side3 ?side4 A53.out).mono ?_); (case side1 => repeat (first | exact (Kd.R_reads' HO_14.out).2.2 | (with_reducible refine Kd.C_alloc ?_ _) | (with_reducible refine Kd.C_drewN ?_ _) | (with_reducible refine Kd.C_drew ?_))); (case side2 => exact (Kd.R_reads' HO_14.out).2.1); (case side3 => repeat (first | exact (Kd.R_reads' HO_5.out).2.2 | (with_reducible refine Kd.C_alloc ?_ _) | (with_reducible refine Kd.C_drewN ?_ _) | (with_reducible refine Kd.C_drew ?_))); (case side4 => exact (Kd.R_reads' HO_5.out).2.1); rintro e w' ⟨rfl, ⟨nd, rfl⟩⟩; obtain ⟨Ao64, co64, eo64⟩ := Kd.R_slice HO642.out; subst eo64) | (go_at_call 36; (with_reducible refine (gangsawref01_Same.calls k3 _ _ t640 _ _ t609 true _ ?side1 ?side2 ?side3 ?side4 A56.out).mono ?_); (case side1 => repeat (first | exact (Kd.R_reads' HO642.out).2.2 | (with_reducible refine Kd.C_alloc ?_ _) | (with_reducible refine Kd.C_drewN ?_ _) | (with_reducible refine Kd.C_drew ?_))); (case side2 => exact (Kd.R_reads' HO642.out).2.1); (case side3 => repeat (first | exact (Kd.R_reads' HO_5.out).2.2 | (with_reducible refine Kd.C_alloc ?_ _) | (with_reducible refine Kd.C_drewN ?_ _) | (with_reducible refine Kd.C_drew ?_))); (case side4 => exact (Kd.R_reads' HO_5.out).2.1); rintro e w' ⟨rfl, ⟨nd, rfl⟩⟩))
                                            go_meet
                                            case rel => exact ⟨_, ((t650 == (wrap64 ((wrap64 (t644 + t646)) - t648)))), (by first | rfl | (simp; done) | (simp [*]; done)), H', ⟨by have := HJ4.out; have := HJ12.out; have := HK3.out; first | omega | exact Nat.le_refl _⟩, ⟨by repeat (first | (with_reducible first | exact HB.out | apply below_alloc | apply pw_below_drewN | apply below_drew1) | exact HB.out)⟩⟩
                                          · rw [if_neg c61] at H
                                            have c61b0 : (t651 == 0) = false := beq_eq_false_iff_ne.mpr c61
                                            have c61b1 : (t651 != 0) = true := bne_iff_ne.mpr c61
                                            have H' := Aside0.mk H
                                            clear H
                                            obtain ⟨Ao65, co65, eo65⟩ := Kd.R_slice HO_13.out
                                            subst eo65
                                            go_wp2_with (first | (go_at_call 36; (with_reducible refine (gangsawref01_Same.calls k3 _ _ t625 _ _ t609 true _ ?side1 ?side2 ?side3 ?side4 A50.out).mono ?_); (case side1 => repeat (first | exact (Kd.R_reads' HO_13.out).2.2 | (with_reducible refine Kd.C_alloc ?_ _) | (with_reducible refine Kd.C_drewN ?_ _) | (with_reducible refine Kd.C_drew ?_))); (case side2 => exact (Kd.R_reads' HO_13.out).2.1); (case side3 => repeat (first | exact (Kd.R_reads' HO_5.out).2.2 | (with_reducible refine Kd.C_alloc ?_ _) | (with_reducible refine Kd.C_drewN ?_ _) | (with_reducible refine Kd.C_drew ?_))); (case side4 => exact (Kd.R_reads' HO_5.out).2.1); rintro e w' ⟨rfl, ⟨nd, rfl⟩⟩; obtain ⟨Ao66, co66, eo66⟩ := Kd.R_slice HO_14.out; subst eo66) | (go_at_call 36; (with_reducible refine (gangsawref01_Same.calls k3 _ _ t629 _ _ t609 true _ ?side1 ?side2 ?side3 ?side4 A53.out).mono ?_); (case side1 => repeat (first | exact (Kd.R_reads' HO_14.out).2.2 | (with_reducible refine Kd.C_alloc ?_ _) | (with_reducible refine Kd.C_drewN ?_ _) | (with_reducible refine Kd.C_drew ?_))); (case side2 => exact (Kd.R_reads' HO_14.out).2.1); (case side3 => repeat (first | exact (Kd.R_reads' HO_5.out).2.2 | (with_reducible refine Kd.C_alloc ?_ _) | (with_reducible refine Kd.C_drewN ?_ _) | (with_reducible refine Kd.C_drew ?_))); (case side4 => exact (Kd.R_reads' HO_5.out).2.1); rintro e w' ⟨rfl, ⟨nd, rfl⟩⟩; obtain ⟨Ao67, co67, eo67⟩ := Kd.R_slice HO642.out; subst eo67) | (go_at_call 36; (with_reducible refine (gangsawref01_Same.calls k3 _ _ t640 _ _ t609 true _ ?side1 ?side2 ?side3 ?side4 A56.out).mono ?_); (case side1 => repeat (first | exact (Kd.R_reads' HO642.out).2.2 | (with_reducible refine Kd.C_alloc ?_ _) | (with_reducible refine Kd.C_drewN ?_ _) | (with_reducible refine Kd.C_drew ?_))); (case side2 => exact (Kd.R_reads' HO642.out).2.1); (case side3 => repeat (first | exact (Kd.R_reads' HO_5.out).2.2 | (with_reducible refine Kd.C_alloc ?_ _) | (with_reducible refine Kd.C_drewN ?_ _) | (with_reducible refine Kd.C_drew ?_))); (case side4 => exact (Kd.R_reads' HO_5.out).2.1); rintro e w' ⟨rfl, ⟨nd, rfl⟩⟩))
                                            go_meet
                                            case rel => exact ⟨_, (false), (by first | rfl | (simp; done) | (simp [*]; done)), H', ⟨by have := HJ4.out; have := HJ12.out; have := HK3.out; first | omega | exact Nat.le_refl _⟩, ⟨by repeat (first | (with_reducible first | exact HB.out | apply below_alloc | apply pw_below_drewN | apply below_drew1) | exact HB.out)⟩⟩
                                        · rw [if_neg c60] at H
                                          have c60b0 : (t649 == 0) = false := beq_eq_false_iff_ne.mpr c60
                                          have c60b1 : (t649 != 0) = true := bne_iff_ne.mpr c60
                                          have H' := Aside0.mk H
                                          clear H
                                          obtain ⟨Ao68, co68, eo68⟩ := Kd.R_slice HO_13.out
                                          subst eo68
                                          go_wp2_with (first | (go_at_call 36; (with_reducible refine (gangsawref01_Same.calls k3 _ _ t625 _ _ t609 true _ ?side1 ?side2 ?side3 ?side4 A50.out).mono ?_); (case side1 => repeat (first | exact (Kd.R_reads' HO_13.out).2.2 | (with_reducible refine Kd.C_alloc ?_ _) | (with_reducible refine Kd.C_drewN ?_ _) | (with_reducible refine Kd.C_drew ?_))); (case side2 => exact (Kd.R_reads' HO_13.out).2.1); (case side3 => repeat (first | exact (Kd.R_reads' HO_5.out).2.2 | (with_reducible refine Kd.C_alloc ?_ _) | (with_reducible refine Kd.C_drewN ?_ _) | (with_reducible refine Kd.C_drew ?_))); (case side4 => exact (Kd.R_reads' HO_5.out).2.1); rintro e w' ⟨rfl, ⟨nd, rfl⟩⟩; obtain ⟨Ao69, co69, eo69⟩ := Kd.R_slice HO_14.out; subst eo69) | (go_at_call 36; (with_reducible refine (gangsawref01_Same.calls k3 _ _ t629 _ _ t609 true _ ?side1 ?side2 ?side3 ?side4 A53.out).mono ?_); (case side1 => repeat (first | exact (Kd.R_reads' HO_14.out).2.2 | (with_reducible refine Kd.C_alloc ?_ _) | (with_reducible refine Kd.C_drewN ?_ _) | (with_reducible refine Kd.C_drew ?_))); (case side2 => exact (Kd.R_reads' HO_14.out).2.1); (case side3 => repeat (first | exact (Kd.R_reads' HO_5.out).2.2 | (with_reducible refine Kd.C_alloc ?_ _) | (with_reducible refine Kd.C_drewN ?_ _) | (with_reducible refine Kd.C_drew ?_))); (case side4 => exact (Kd.R_reads' HO_5.out).2.1); rintro e w' ⟨rfl, ⟨nd, rfl⟩⟩; obtain ⟨Ao70, co70, eo70⟩ := Kd.R_slice HO642.out; subst eo70) | (go_at_call 36; (with_reducible refine (gangsawref01_Same.calls k3 _ _ t640 _ _ t609 true _ ?side1 ?side2 ?side3 ?side4 A56.out).mono ?_); (case side1 => repeat (first | exact (Kd.R_reads' HO642.out).2.2 | (with_reducible refine Kd.C_alloc ?_ _) | (with_reducible refine Kd.C_drewN ?_ _) | (with_reducible refine Kd.C_drew ?_))); (case side2 => exact (Kd.R_reads' HO642.out).2.1); (case side3 => repeat (first | exact (Kd.R_reads' HO_5.out).2.2 | (with_reducible refine Kd.C_alloc ?_ _) | (with_reducible refine Kd.C_drewN ?_ _) | (with_reducible refine Kd.C_drew ?_))); (case side4 => exact (Kd.R_reads' HO_5.out).2.1); rintro e w' ⟨rfl, ⟨nd, rfl⟩⟩))
                                          go_meet
                                          case rel => exact ⟨_, (false), (by first | rfl | (simp; done) | (simp [*]; done)), H', ⟨by have := HJ4.out; have := HJ12.out; have := HK3.out; first | omega | exact Nat.le_refl _⟩, ⟨by repeat (first | (with_reducible first | exact HB.out | apply below_alloc | apply pw_below_drewN | apply below_drew1) | exact HB.out)⟩⟩
                                      · rw [if_neg c59] at H
                                        have c59b0 : (t647 == 0) = false := beq_eq_false_iff_ne.mpr c59
                                        have c59b1 : (t647 != 0) = true := bne_iff_ne.mpr c59
                                        have H' := Aside0.mk H
                                        clear H
                                        obtain ⟨Ao71, co71, eo71⟩ := Kd.R_slice HO_13.out
                                        subst eo71
                                        go_wp2_with (first | (go_at_call 36; (with_reducible refine (gangsawref01_Same.calls k3 _ _ t625 _ _ t609 true _ ?side1 ?side2 ?side3 ?side4 A50.out).mono ?_); (case side1 => repeat (first | exact (Kd.R_reads' HO_13.out).2.2 | (with_reducible refine Kd.C_alloc ?_ _) | (with_reducible refine Kd.C_drewN ?_ _) | (with_reducible refine Kd.C_drew ?_))); (case side2 => exact (Kd.R_reads' HO_13.out).2.1); (case side3 => repeat (first | exact (Kd.R_reads' HO_5.out).2.2 | (with_reducible refine Kd.C_alloc ?_ _) | (with_reducible refine Kd.C_drewN ?_ _) | (with_reducible refine Kd.C_drew ?_))); (case side4 => exact (Kd.R_reads' HO_5.out).2.1); rintro e w' ⟨rfl, ⟨nd, rfl⟩⟩; obtain ⟨Ao72, co72, eo72⟩ := Kd.R_slice HO_14.out; subst eo72) | (go_at_call 36; (with_reducible refine (gangsawref01_Same.calls k3 _ _ t629 _ _ t609 true _ ?side1 ?side2 ?side3 ?side4 A53.out).mono ?_); (case side1 => repeat (first | exact (Kd.R_reads' HO_14.out).2.2 | (with_reducible refine Kd.C_alloc ?_ _) | (with_reducible refine Kd.C_drewN ?_ _) | (with_reducible refine Kd.C_drew ?_))); (case side2 => exact (Kd.R_reads' HO_14.out).2.1); (case side3 => repeat (first | exact (Kd.R_reads' HO_5.out).2.2 | (with_reducible refine Kd.C_alloc ?_ _) | (with_reducible refine Kd.C_drewN ?_ _) | (with_reducible refine Kd.C_drew ?_))); (case side4 => exact (Kd.R_reads' HO_5.out).2.1); rintro e w' ⟨rfl, ⟨nd, rfl⟩⟩; obtain ⟨Ao73, co73, eo73⟩ := Kd.R_slice HO642.out; subst eo73) | (go_at_call 36; (with_reducible refine (gangsawref01_Same.calls k3 _ _ t640 _ _ t609 true _ ?side1 ?side2 ?side3 ?side4 A56.out).mono ?_); (case side1 => repeat (first | exact (Kd.R_reads' HO642.out).2.2 | (with_reducible refine Kd.C_alloc ?_ _) | (with_reducible refine Kd.C_drewN ?_ _) | (with_reducible refine Kd.C_drew ?_))); (case side2 => exact (Kd.R_reads' HO642.out).2.1); (case side3 => repeat (first | exact (Kd.R_reads' HO_5.out).2.2 | (with_reducible refine Kd.C_alloc ?_ _) | (with_reducible refine Kd.C_drewN ?_ _) | (with_reducible refine Kd.C_drew ?_))); (case side4 => exact (Kd.R_reads' HO_5.out).2.1); rintro e w' ⟨rfl, ⟨nd, rfl⟩⟩))
                                        go_meet
                                        case rel => exact ⟨_, (false), (by first | rfl | (simp; done) | (simp [*]; done)), H', ⟨by have := HJ4.out; have := HJ12.out; have := HK3.out; first | omega | exact Nat.le_refl _⟩, ⟨by repeat (first | (with_reducible first | exact HB.out | apply below_alloc | apply pw_below_drewN | apply below_drew1) | exact HB.out)⟩⟩
                                    · rw [if_neg c58] at H
                                      have c58b0 : (t645 == 0) = false := beq_eq_false_iff_ne.mpr c58
                                      have c58b1 : (t645 != 0) = true := bne_iff_ne.mpr c58
                                      have H' := Aside0.mk H
                                      clear H
                                      obtain ⟨Ao74, co74, eo74⟩ := Kd.R_slice HO_13.out
                                      subst eo74
                                      go_wp2_with (first | (go_at_call 36; (with_reducible refine (gangsawref01_Same.calls k3 _ _ t625 _ _ t609 true _ ?side1 ?side2 ?side3 ?side4 A50.out).mono ?_); (case side1 => repeat (first | exact (Kd.R_reads' HO_13.out).2.2 | (with_reducible refine Kd.C_alloc ?_ _) | (with_reducible refine Kd.C_drewN ?_ _) | (with_reducible refine Kd.C_drew ?_))); (case side2 => exact (Kd.R_reads' HO_13.out).2.1); (case side3 => repeat (first | exact (Kd.R_reads' HO_5.out).2.2 | (with_reducible refine Kd.C_alloc ?_ _) | (with_reducible refine Kd.C_drewN ?_ _) | (with_reducible refine Kd.C_drew ?_))); (case side4 => exact (Kd.R_reads' HO_5.out).2.1); rintro e w' ⟨rfl, ⟨nd, rfl⟩⟩; obtain ⟨Ao75, co75, eo75⟩ := Kd.R_slice HO_14.out; subst eo75) | (go_at_call 36; (with_reducible refine (gangsawref01_Same.calls k3 _ _ t629 _ _ t609 true _ ?side1 ?side2 ?side3 ?side4 A53.out).mono ?_); (case side1 => repeat (first | exact (Kd.R_reads' HO_14.out).2.2 | (with_reducible refine Kd.C_alloc ?_ _) | (with_reducible refine Kd.C_drewN ?_ _) | (with_reducible refine Kd.C_drew ?_))); (case side2 => exact (Kd.R_reads' HO_14.out).2.1); (case side3 => repeat (first | exact (Kd.R_reads' HO_5.out).2.2 | (with_reducible refine Kd.C_alloc ?_ _) | (with_reducible refine Kd.C_drewN ?_ _) | (with_reducible refine Kd.C_drew ?_))); (case side4 => exact (Kd.R_reads' HO_5.out).2.1); rintro e w' ⟨rfl, ⟨nd, rfl⟩⟩; obtain ⟨Ao76, co76, eo76⟩ := Kd.R_slice HO642.out; subst eo76) | (go_at_call 36; (with_reducible refine (gangsawref01_Same.calls k3 _ _ t640 _ _ t609 true _ ?side1 ?side2 ?side3 ?side4 A56.out).mono ?_); (case side1 => repeat (first | exact (Kd.R_reads' HO642.out).2.2 | (with_reducible refine Kd.C_alloc ?_ _) | (with_reducible refine Kd.C_drewN ?_ _) | (with_reducible refine Kd.C_drew ?_))); (case side2 => exact (Kd.R_reads' HO642.out).2.1); (case side3 => repeat (first | exact (Kd.R_reads' HO_5.out).2.2 | (with_reducible refine Kd.C_alloc ?_ _) | (with_reducible refine Kd.C_drewN ?_ _) | (with_reducible refine Kd.C_drew ?_))); (case side4 => exact (Kd.R_reads' HO_5.out).2.1); rintro e w' ⟨rfl, ⟨nd, rfl⟩⟩))
                                      go_meet
                                      case rel => exact ⟨_, (false), (by first | rfl | (simp; done) | (simp [*]; done)), H', ⟨by have := HJ4.out; have := HJ12.out; have := HK3.out; first | omega | exact Nat.le_refl _⟩, ⟨by repeat (first | (with_reducible first | exact HB.out | apply below_alloc | apply pw_below_drewN | apply below_drew1) | exact HB.out)⟩⟩
                                  · replace c57 := Bool.eq_false_iff.mpr c57
                                    subst c57
                                    have H1 : (gangsawlaw01_SpanAlgebra.j3 k3 false) = some r := by rw [if_neg (show ¬ (false = true) by decide)] at H; exact H
                                    clear H
                                    have H := H1
                                    clear H1
                                    have H' := Aside0.mk H
                                    clear H
                                    obtain ⟨Ao77, co77, eo77⟩ := Kd.R_slice HO_13.out
                                    subst eo77
                                    go_wp2_with (first | (go_at_call 36; (with_reducible refine (gangsawref01_Same.calls k3 _ _ t625 _ _ t609 true _ ?side1 ?side2 ?side3 ?side4 A50.out).mono ?_); (case side1 => repeat (first | exact (Kd.R_reads' HO_13.out).2.2 | (with_reducible refine Kd.C_alloc ?_ _) | (with_reducible refine Kd.C_drewN ?_ _) | (with_reducible refine Kd.C_drew ?_))); (case side2 => exact (Kd.R_reads' HO_13.out).2.1); (case side3 => repeat (first | exact (Kd.R_reads' HO_5.out).2.2 | (with_reducible refine Kd.C_alloc ?_ _) | (with_reducible refine Kd.C_drewN ?_ _) | (with_reducible refine Kd.C_drew ?_))); (case side4 => exact (Kd.R_reads' HO_5.out).2.1); rintro e w' ⟨rfl, ⟨nd, rfl⟩⟩; obtain ⟨Ao78, co78, eo78⟩ := Kd.R_slice HO_14.out; subst eo78) | (go_at_call 36; (with_reducible refine (gangsawref01_Same.calls k3 _ _ t629 _ _ t609 true _ ?side1 ?side2 ?side3 ?side4 A53.out).mono ?_); (case side1 => repeat (first | exact (Kd.R_reads' HO_14.out).2.2 | (with_reducible refine Kd.C_alloc ?_ _) | (with_reducible refine Kd.C_drewN ?_ _) | (with_reducible refine Kd.C_drew ?_))); (case side2 => exact (Kd.R_reads' HO_14.out).2.1); (case side3 => repeat (first | exact (Kd.R_reads' HO_5.out).2.2 | (with_reducible refine Kd.C_alloc ?_ _) | (with_reducible refine Kd.C_drewN ?_ _) | (with_reducible refine Kd.C_drew ?_))); (case side4 => exact (Kd.R_reads' HO_5.out).2.1); rintro e w' ⟨rfl, ⟨nd, rfl⟩⟩; obtain ⟨Ao79, co79, eo79⟩ := Kd.R_slice HO642.out; subst eo79) | (go_at_call 36; (with_reducible refine (gangsawref01_Same.calls k3 _ _ t640 _ _ t609 false _ ?side1 ?side2 ?side3 ?side4 A56.out).mono ?_); (case side1 => repeat (first | exact (Kd.R_reads' HO642.out).2.2 | (with_reducible refine Kd.C_alloc ?_ _) | (with_reducible refine Kd.C_drewN ?_ _) | (with_reducible refine Kd.C_drew ?_))); (case side2 => exact (Kd.R_reads' HO642.out).2.1); (case side3 => repeat (first | exact (Kd.R_reads' HO_5.out).2.2 | (with_reducible refine Kd.C_alloc ?_ _) | (with_reducible refine Kd.C_drewN ?_ _) | (with_reducible refine Kd.C_drew ?_))); (case side4 => exact (Kd.R_reads' HO_5.out).2.1); rintro e w' ⟨rfl, ⟨nd, rfl⟩⟩))
                                    go_meet
                                    case rel => exact ⟨_, (false), (by first | rfl | (simp; done) | (simp [*]; done)), H', ⟨by have := HJ4.out; have := HJ12.out; have := HK3.out; first | omega | exact Nat.le_refl _⟩, ⟨by repeat (first | (with_reducible first | exact HB.out | apply below_alloc | apply pw_below_drewN | apply below_drew1) | exact HB.out)⟩⟩
                                · rw [if_neg c55] at H
                                  have c55b0 : (t643 == 0) = false := beq_eq_false_iff_ne.mpr c55
                                  have c55b1 : (t643 != 0) = true := bne_iff_ne.mpr c55
                                  have H' := Aside0.mk H
                                  clear H
                                  obtain ⟨Ao80, co80, eo80⟩ := Kd.R_slice HO_13.out
                                  subst eo80
                                  go_wp2_with (first | (go_at_call 36; (with_reducible refine (gangsawref01_Same.calls k3 _ _ t625 _ _ t609 true _ ?side1 ?side2 ?side3 ?side4 A50.out).mono ?_); (case side1 => repeat (first | exact (Kd.R_reads' HO_13.out).2.2 | (with_reducible refine Kd.C_alloc ?_ _) | (with_reducible refine Kd.C_drewN ?_ _) | (with_reducible refine Kd.C_drew ?_))); (case side2 => exact (Kd.R_reads' HO_13.out).2.1); (case side3 => repeat (first | exact (Kd.R_reads' HO_5.out).2.2 | (with_reducible refine Kd.C_alloc ?_ _) | (with_reducible refine Kd.C_drewN ?_ _) | (with_reducible refine Kd.C_drew ?_))); (case side4 => exact (Kd.R_reads' HO_5.out).2.1); rintro e w' ⟨rfl, ⟨nd, rfl⟩⟩; obtain ⟨Ao81, co81, eo81⟩ := Kd.R_slice HO_14.out; subst eo81) | (go_at_call 36; (with_reducible refine (gangsawref01_Same.calls k3 _ _ t629 _ _ t609 true _ ?side1 ?side2 ?side3 ?side4 A53.out).mono ?_); (case side1 => repeat (first | exact (Kd.R_reads' HO_14.out).2.2 | (with_reducible refine Kd.C_alloc ?_ _) | (with_reducible refine Kd.C_drewN ?_ _) | (with_reducible refine Kd.C_drew ?_))); (case side2 => exact (Kd.R_reads' HO_14.out).2.1); (case side3 => repeat (first | exact (Kd.R_reads' HO_5.out).2.2 | (with_reducible refine Kd.C_alloc ?_ _) | (with_reducible refine Kd.C_drewN ?_ _) | (with_reducible refine Kd.C_drew ?_))); (case side4 => exact (Kd.R_reads' HO_5.out).2.1); rintro e w' ⟨rfl, ⟨nd, rfl⟩⟩))
                                  go_meet
                                  case rel => exact ⟨_, (false), (by first | rfl | (simp; done) | (simp [*]; done)), H', ⟨by have := HJ4.out; have := HJ12.out; have := HK3.out; first | omega | exact Nat.le_refl _⟩, ⟨by repeat (first | (with_reducible first | exact HB.out | apply below_alloc | apply pw_below_drewN | apply below_drew1) | exact HB.out)⟩⟩
                              · replace c54 := Bool.eq_false_iff.mpr c54
                                subst c54
                                have H1 : (gangsawlaw01_SpanAlgebra.j3 k3 false) = some r := by rw [if_neg (show ¬ (false = true) by decide)] at H; exact H
                                clear H
                                have H := H1
                                clear H1
                                have H' := Aside0.mk H
                                clear H
                                obtain ⟨Ao82, co82, eo82⟩ := Kd.R_slice HO_13.out
                                subst eo82
                                go_wp2_with (first | (go_at_call 36; (with_reducible refine (gangsawref01_Same.calls k3 _ _ t625 _ _ t609 true _ ?side1 ?side2 ?side3 ?side4 A50.out).mono ?_); (case side1 => repeat (first | exact (Kd.R_reads' HO_13.out).2.2 | (with_reducible refine Kd.C_alloc ?_ _) | (with_reducible refine Kd.C_drewN ?_ _) | (with_reducible refine Kd.C_drew ?_))); (case side2 => exact (Kd.R_reads' HO_13.out).2.1); (case side3 => repeat (first | exact (Kd.R_reads' HO_5.out).2.2 | (with_reducible refine Kd.C_alloc ?_ _) | (with_reducible refine Kd.C_drewN ?_ _) | (with_reducible refine Kd.C_drew ?_))); (case side4 => exact (Kd.R_reads' HO_5.out).2.1); rintro e w' ⟨rfl, ⟨nd, rfl⟩⟩; obtain ⟨Ao83, co83, eo83⟩ := Kd.R_slice HO_14.out; subst eo83) | (go_at_call 36; (with_reducible refine (gangsawref01_Same.calls k3 _ _ t629 _ _ t609 false _ ?side1 ?side2 ?side3 ?side4 A53.out).mono ?_); (case side1 => repeat (first | exact (Kd.R_reads' HO_14.out).2.2 | (with_reducible refine Kd.C_alloc ?_ _) | (with_reducible refine Kd.C_drewN ?_ _) | (with_reducible refine Kd.C_drew ?_))); (case side2 => exact (Kd.R_reads' HO_14.out).2.1); (case side3 => repeat (first | exact (Kd.R_reads' HO_5.out).2.2 | (with_reducible refine Kd.C_alloc ?_ _) | (with_reducible refine Kd.C_drewN ?_ _) | (with_reducible refine Kd.C_drew ?_))); (case side4 => exact (Kd.R_reads' HO_5.out).2.1); rintro e w' ⟨rfl, ⟨nd, rfl⟩⟩))
                                go_meet
                                case rel => exact ⟨_, (false), (by first | rfl | (simp; done) | (simp [*]; done)), H', ⟨by have := HJ4.out; have := HJ12.out; have := HK3.out; first | omega | exact Nat.le_refl _⟩, ⟨by repeat (first | (with_reducible first | exact HB.out | apply below_alloc | apply pw_below_drewN | apply below_drew1) | exact HB.out)⟩⟩
                            · rw [if_neg c52] at H
                              have c52b0 : (t632 == 0) = false := beq_eq_false_iff_ne.mpr c52
                              have c52b1 : (t632 != 0) = true := bne_iff_ne.mpr c52
                              have H' := Aside0.mk H
                              clear H
                              obtain ⟨Ao84, co84, eo84⟩ := Kd.R_slice HO_13.out
                              subst eo84
                              go_wp2_with (first | (go_at_call 36; (with_reducible refine (gangsawref01_Same.calls k3 _ _ t625 _ _ t609 true _ ?side1 ?side2 ?side3 ?side4 A50.out).mono ?_); (case side1 => repeat (first | exact (Kd.R_reads' HO_13.out).2.2 | (with_reducible refine Kd.C_alloc ?_ _) | (with_reducible refine Kd.C_drewN ?_ _) | (with_reducible refine Kd.C_drew ?_))); (case side2 => exact (Kd.R_reads' HO_13.out).2.1); (case side3 => repeat (first | exact (Kd.R_reads' HO_5.out).2.2 | (with_reducible refine Kd.C_alloc ?_ _) | (with_reducible refine Kd.C_drewN ?_ _) | (with_reducible refine Kd.C_drew ?_))); (case side4 => exact (Kd.R_reads' HO_5.out).2.1); rintro e w' ⟨rfl, ⟨nd, rfl⟩⟩))
                              go_meet
                              case rel => exact ⟨_, (false), (by first | rfl | (simp; done) | (simp [*]; done)), H', ⟨by have := HJ4.out; have := HJ12.out; have := HK3.out; first | omega | exact Nat.le_refl _⟩, ⟨by repeat (first | (with_reducible first | exact HB.out | apply below_alloc | apply pw_below_drewN | apply below_drew1) | exact HB.out)⟩⟩
                          · replace c51 := Bool.eq_false_iff.mpr c51
                            subst c51
                            have H1 : (gangsawlaw01_SpanAlgebra.j3 k3 false) = some r := by rw [if_neg (show ¬ (false = true) by decide)] at H; exact H
                            clear H
                            have H := H1
                            clear H1
                            have H' := Aside0.mk H
                            clear H
                            obtain ⟨Ao85, co85, eo85⟩ := Kd.R_slice HO_13.out
                            subst eo85
                            go_wp2_with (first | (go_at_call 36; (with_reducible refine (gangsawref01_Same.calls k3 _ _ t625 _ _ t609 false _ ?side1 ?side2 ?side3 ?side4 A50.out).mono ?_); (case side1 => repeat (first | exact (Kd.R_reads' HO_13.out).2.2 | (with_reducible refine Kd.C_alloc ?_ _) | (with_reducible refine Kd.C_drewN ?_ _) | (with_reducible refine Kd.C_drew ?_))); (case side2 => exact (Kd.R_reads' HO_13.out).2.1); (case side3 => repeat (first | exact (Kd.R_reads' HO_5.out).2.2 | (with_reducible refine Kd.C_alloc ?_ _) | (with_reducible refine Kd.C_drewN ?_ _) | (with_reducible refine Kd.C_drew ?_))); (case side4 => exact (Kd.R_reads' HO_5.out).2.1); rintro e w' ⟨rfl, ⟨nd, rfl⟩⟩))
                            go_meet
                            case rel => exact ⟨_, (false), (by first | rfl | (simp; done) | (simp [*]; done)), H', ⟨by have := HJ4.out; have := HJ12.out; have := HK3.out; first | omega | exact Nat.le_refl _⟩, ⟨by repeat (first | (with_reducible first | exact HB.out | apply below_alloc | apply pw_below_drewN | apply below_drew1) | exact HB.out)⟩⟩
                        · rw [if_neg c49] at H
                          have c49b0 : (t628 == 0) = false := beq_eq_false_iff_ne.mpr c49
                          have c49b1 : (t628 != 0) = true := bne_iff_ne.mpr c49
                          (first | rw [c49b0] | (simp only [i64_w, i32_w]; rw [c49b0]) | skip)
                          have H' := Aside0.mk H
                          clear H
                          go_wp2
                          go_meet
                          case rel => exact ⟨_, (false), (by first | rfl | (simp; done) | (simp [*]; done)), H', ⟨by have := HJ4.out; have := HJ12.out; have := HK3.out; first | omega | exact Nat.le_refl _⟩, ⟨by repeat (first | (with_reducible first | exact HB.out | apply below_alloc | apply pw_below_drewN | apply below_drew1) | exact HB.out)⟩⟩
                      case rest =>
                        clear HC41
                        try clear c1
                        try clear c2
                        try clear p2
                        try clear c3
                        try clear c4
                        try clear c5
                        try clear c6
                        try clear p6
                        try clear q6
                        try clear hx6
                        try clear c7
                        try clear c7b0
                        try clear c7b1
                        try clear c8
                        try clear c9
                        try clear c10
                        try clear c18
                        try clear c18b0
                        try clear c18b1
                        try clear c19
                        try clear c19b0
                        try clear c19b1
                        try clear c20
                        try clear c20b0
                        try clear c20b1
                        try clear c21
                        try clear c30
                        try clear c31
                        try clear c31b0
                        try clear c32
                        try clear c32b0
                        try clear c33
                        try clear c33b0
                        try clear c34
                        try clear c49
                        try clear c49b0
                        try clear c49b1
                        try clear c51
                        try clear c52
                        try clear c52b0
                        try clear c52b1
                        try clear c54
                        try clear c55
                        try clear c55b0
                        try clear c55b1
                        try clear c57
                        try clear c58
                        try clear c58b0
                        try clear c58b1
                        try clear c59
                        try clear c59b0
                        try clear c59b1
                        try clear c60
                        try clear c60b0
                        try clear c60b1
                        try clear c61
                        try clear c61b0
                        try clear c61b1
                        try clear p63
                        try clear q63
                        try clear hx63
                        try clear p64
                        try clear hx636_0
                        try clear hx636_1
                        try clear p2
                        try clear p6
                        try clear p636
                        try clear q636
                        obtain ⟨kq, x4_40, rfl, HA, HJ40, HB⟩ := hcut
                        cases kq with
                        | zero => exact absurd HA.out (by simp [gangsawlaw01_SpanAlgebra.j3])
                        | succ kj40 =>
                          have H := HA.out
                          clear HA
                          simp only [gangsawlaw01_SpanAlgebra.j3] at H
                          obtain rfl := Option.some.inj H
                          go_wp2
                          go_ret
                          exact ⟨by first | rfl | (simp [errW_none, errW_some] <;> rfl) | (simp [*, errW_none, errW_some] <;> rfl), by repeat (first | (with_reducible first | exact HB.out | apply below_alloc | apply pw_below_drewN | apply below_drew1) | exact HB.out)⟩
  · replace c4 := Bool.eq_false_iff.mpr c4
    subst c4
    have H1 : (some false) = some r := by rw [if_neg (show ¬ (false = true) by decide)] at H; exact H
    clear H
    have H := H1
    clear H1
    obtain rfl := Option.some.inj H
    go_enter Try.func9, Try.ntmps9
    go_wp2_with (first | ((with_reducible refine gate_callee (f := 10) rfl ?_); refine goesL_ (some 25) rfl rfl Try.func10 (by kernel_rfl) rfl #[] rfl (by (try simp only [List.map_toArray, List.map_cons, List.map_nil]); first | done | rfl | (simp only [List.length_drop, List.length_take]; rfl)) ?_; (with_reducible refine (gangsawlaw01_awake.calls k  false _ A3.out).mono ?_); rintro e w86 ⟨rfl, hb⟩; refine ⟨_, rfl, ?_⟩; have n0_ := Aside0.mk (below_step (by repeat (first | (with_reducible first | exact HB.out | apply below_alloc | apply pw_below_drewN | apply below_drew1) | exact HB.out)) hb); clear HB; have HB := n0_; clear n0_; (try clear hb); (try clear hb2); (try clear hk); (try clear hi)))
    go_ret
    exact ⟨by first | rfl | (simp [errW_none, errW_some] <;> rfl) | (simp [*, errW_none, errW_some] <;> rfl), by repeat (first | (with_reducible first | exact HB.out | apply below_alloc | apply pw_below_drewN | apply below_drew1) | exact HB.out)⟩

/-- THE ONE PURE STATEMENT of gangsawlaw01_SpanAlgebra. -/
def gangsawlaw01_SpanAlgebra.Pure : Prop := ∀ (l0 : List (S23)) (l1 : List (S23)), (l0.length ≤ maxLen ∧ ∀ e8_, e8_ ∈ l0 → okS23 e8_) → (l1.length ≤ maxLen ∧ ∀ e9_, e9_ ∈ l1 → okS23 e9_) → ∃ k, gangsawlaw01_SpanAlgebra.f k l0 l1 = some true
theorem gangsawlaw01_SpanAlgebra.walk (P_ : gangsawlaw01_SpanAlgebra.Pure) (A0 : Option Addr) (c0 : Nat) (l0 : List (S23)) (A1 : Option Addr) (c1 : Nat) (l1 : List (S23)) (w : World) (hr0 : Kd.C k23 w A0 l0.length l0) (hc0 : l0.length ≤ c0) (hr1 : Kd.C k23 w A1 l1.length l1) (hc1 : l1.length ≤ c1) (o0 : (l0.length ≤ maxLen ∧ ∀ e8_, e8_ ∈ l0 → okS23 e8_)) (o1 : (l1.length ≤ maxLen ∧ ∀ e9_, e9_ ∈ l1 → okS23 e9_)) :
    Calls Try.prog 9 #[.slice A0 l0.length c0, .slice A1 l1.length c1] w fun e w' => e = .returned (.bool true) ∧ Below w.heap.size w w' := by
  obtain ⟨k, h⟩ := P_ l0 l1 o0 o1
  refine (gangsawlaw01_SpanAlgebra.calls k A0 c0 l0 A1 c1 l1 true w hr0 hc0 hr1 hc1 h).mono ?_
  rintro e w' ⟨rfl, hd⟩
  exact ⟨rfl, hd⟩

end Go.Proofs.Ytedhcdganddiiaa.QA
