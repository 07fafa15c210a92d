-- Written by a program of this session (wip/tools) out of the translation; Lean checks it.
import Derived.Test.YtedhcdganddiiaaQAx0
import Derived.Test.YtedhcdganddiiaaQAx1
import Derived.Test.YtedhcdganddiiaaQAx4
import Derived.Test.YtedhcdganddiiaaQAx5
import Derived.Test.YtedhcdganddiiaaQAx7
namespace Go.Proofs.Ytedhcdganddiiaa.QA
open Go.RowKit Go.Proofs.YtedhcdganddiiaaW.PrintWords Go.Proofs.YtedhcdganddiiaaW.PrintLast Go.Proofs.YtedhcdganddiiaaW.PrintMore
attribute [local go_sem] max2_int min2_int max_two min_two max_three min_three max_four min_four   -- for this text's walks alone
set_option linter.unusedVariables false
set_option linter.unusedSimpArgs false

attribute [local go_sem high] eqA23
/-! ### gangsawlaw01_SpanSound: function 5 -/
mutual
def gangsawlaw01_SpanSound.j0 : Nat → List (S23) → List Int → Bool → Option (Bool)
  | 0, _, _, _ => none
  | k + 1, x0, x1, x22 => if x22 = true then (some true) else ((span_Sum.f k x0).bind fun bt247 => (if bt247.2.2 = 0 then ((gangsawref01_Lists.f k x0 ([] : List (S23))).bind fun t251 => (gangsawlaw01_SpanSound.j1 k x0 x1 bt247.2.2 (t251 != 0) bt247.1 bt247.2.1)) else (gangsawlaw01_SpanSound.j1 k x0 x1 bt247.2.2 true bt247.1 bt247.2.1)))
def gangsawlaw01_SpanSound.j1 : Nat → List (S23) → List Int → Int → Bool → Int → Int → Option (Bool)
  | 0, _, _, _, _, _, _ => none
  | k + 1, x0, x1, x6, x34, x251000, x251001 => if x34 = true then (if (x251000 == 0 && (x251001 == 0)) = true then (some (x6 != 0)) else (some false)) else (gangsawlaw01_SpanSound.l0 k x0 x1 0 0 0 0 x251000 x251001)
def gangsawlaw01_SpanSound.l0 : Nat → List (S23) → List Int → Int → Int → Int → Int → Int → Int → Option (Bool)
  | 0, _, _, _, _, _, _, _, _ => none
  | k + 1, x0, x1, x7, x8, x9, x10, x251000, x251001 => if x10 < (x0.length : Int) then (if 0 ≤ x10 then (if x10 < (x1.length : Int) then ((gangsawref01_Length.f k ((rd_T23 x0 x10).f0) ((rd_T23 x0 x10).f1)).bind fun t255 => (if (IntKind.u64.wrap (t255)) = 0 then (none) else (gangsawlaw01_SpanSound.l0 k x0 x1 (wrap64 (x7 + (wrap64 (((rd_T23 x0 x10).f0) + (wrap64 (Int.tmod (IntKind.u64.wrap (rd x1 x10)) (IntKind.u64.wrap (t255)))))))) (wrap64 (x8 + ((rd_T23 x0 x10).f0))) (wrap64 (x9 + ((rd_T23 x0 x10).f1))) (wrap64 (x10 + 1)) x251000 x251001))) else (none)) else (none)) else ((span_Contains.f x251000 x251001 x7).bind fun t258 => (if t258 = true then (if x251000 = x8 then (gangsawlaw01_SpanSound.j3 k (x251001 == x9)) else (gangsawlaw01_SpanSound.j3 k false)) else (gangsawlaw01_SpanSound.j3 k false)))
def gangsawlaw01_SpanSound.j3 : Nat → Bool → Option (Bool)
  | 0, _ => none
  | k + 1, x4 => some x4
end
def gangsawlaw01_SpanSound.f (k : Nat) (l0 : List (S23)) (l1 : List Int) : Option (Bool) := (gangsawlaw01_awake.f k).bind fun t246 => (if t246 = true then (if (l0.length : Int) > 30 then (gangsawlaw01_SpanSound.j0 k l0 l1 true) else (gangsawlaw01_SpanSound.j0 k l0 l1 (decide ((l1.length : Int) < (l0.length : Int))))) else (some false))
theorem gangsawlaw01_SpanSound.mono_l : ∀ k, (∀ y0 y1 y2, LeO (gangsawlaw01_SpanSound.j0 k y0 y1 y2) (gangsawlaw01_SpanSound.j0 (k + 1) y0 y1 y2)) ∧ (∀ y0 y1 y2 y3 y4 y5, LeO (gangsawlaw01_SpanSound.j1 k y0 y1 y2 y3 y4 y5) (gangsawlaw01_SpanSound.j1 (k + 1) y0 y1 y2 y3 y4 y5)) ∧ (∀ y0 y1 y2 y3 y4 y5 y6 y7, LeO (gangsawlaw01_SpanSound.l0 k y0 y1 y2 y3 y4 y5 y6 y7) (gangsawlaw01_SpanSound.l0 (k + 1) y0 y1 y2 y3 y4 y5 y6 y7)) ∧ (∀ y0, LeO (gangsawlaw01_SpanSound.j3 k y0) (gangsawlaw01_SpanSound.j3 (k + 1) y0))
  | 0 => ⟨fun _ _ _ r h => by simp [gangsawlaw01_SpanSound.j0] at h, fun _ _ _ _ _ _ r h => by simp [gangsawlaw01_SpanSound.j1] at h, fun _ _ _ _ _ _ _ _ r h => by simp [gangsawlaw01_SpanSound.l0] at h, fun _ r h => by simp [gangsawlaw01_SpanSound.j3] at h⟩
  | k + 1 => by
    obtain ⟨ih0, ih1, ih2, ih3⟩ := gangsawlaw01_SpanSound.mono_l k
    refine ⟨?_, ?_, ?_, ?_⟩
    · intro y0 y1 y2
      unfold gangsawlaw01_SpanSound.j0
      repeat' first
      | (with_reducible exact ih0 _ _ _)
      | (with_reducible exact ih1 _ _ _ _ _ _)
      | (with_reducible exact ih2 _ _ _ _ _ _ _ _)
      | (with_reducible exact ih3 _)
      | (with_reducible exact gangsawlaw01_awake.mono _)
      | (with_reducible exact gangsawref01_Length.mono _ _ _)
      | (with_reducible exact gangsawref01_Lists.mono _ _ _)
      | (with_reducible exact span_Sum.mono _ _)
      | (with_reducible exact LeO.refl _)
      | (with_reducible exact LeO.none _)
      | (with_reducible refine LeO.ite ?_ ?_)
      | (with_reducible refine LeO.bind ?_ (fun _ => ?_))
      | exact ih0 _ _ _
      | exact ih1 _ _ _ _ _ _
      | exact ih2 _ _ _ _ _ _ _ _
      | exact ih3 _
      | exact gangsawlaw01_awake.mono _
      | exact gangsawref01_Length.mono _ _ _
      | exact gangsawref01_Lists.mono _ _ _
      | exact span_Sum.mono _ _
      | exact LeO.none _
      | refine LeO.ite ?_ ?_
      | refine LeO.bind ?_ (fun _ => ?_)
    · intro y0 y1 y2 y3 y4 y5
      unfold gangsawlaw01_SpanSound.j1
      repeat' first
      | (with_reducible exact ih0 _ _ _)
      | (with_reducible exact ih1 _ _ _ _ _ _)
      | (with_reducible exact ih2 _ _ _ _ _ _ _ _)
      | (with_reducible exact ih3 _)
      | (with_reducible exact gangsawlaw01_awake.mono _)
      | (with_reducible exact gangsawref01_Length.mono _ _ _)
      | (with_reducible exact gangsawref01_Lists.mono _ _ _)
      | (with_reducible exact span_Sum.mono _ _)
      | (with_reducible exact LeO.refl _)
      | (with_reducible exact LeO.none _)
      | (with_reducible refine LeO.ite ?_ ?_)
      | (with_reducible refine LeO.bind ?_ (fun _ => ?_))
      | exact ih0 _ _ _
      | exact ih1 _ _ _ _ _ _
      | exact ih2 _ _ _ _ _ _ _ _
      | exact ih3 _
      | exact gangsawlaw01_awake.mono _
      | exact gangsawref01_Length.mono _ _ _
      | exact gangsawref01_Lists.mono _ _ _
      | exact span_Sum.mono _ _
      | exact LeO.none _
      | refine LeO.ite ?_ ?_
      | refine LeO.bind ?_ (fun _ => ?_)
    · intro y0 y1 y2 y3 y4 y5 y6 y7
      unfold gangsawlaw01_SpanSound.l0
      repeat' first
      | (with_reducible exact ih0 _ _ _)
      | (with_reducible exact ih1 _ _ _ _ _ _)
      | (with_reducible exact ih2 _ _ _ _ _ _ _ _)
      | (with_reducible exact ih3 _)
      | (with_reducible exact gangsawlaw01_awake.mono _)
      | (with_reducible exact gangsawref01_Length.mono _ _ _)
      | (with_reducible exact gangsawref01_Lists.mono _ _ _)
      | (with_reducible exact span_Sum.mono _ _)
      | (with_reducible exact LeO.refl _)
      | (with_reducible exact LeO.none _)
      | (with_reducible refine LeO.ite ?_ ?_)
      | (with_reducible refine LeO.bind ?_ (fun _ => ?_))
      | exact ih0 _ _ _
      | exact ih1 _ _ _ _ _ _
      | exact ih2 _ _ _ _ _ _ _ _
      | exact ih3 _
      | exact gangsawlaw01_awake.mono _
      | exact gangsawref01_Length.mono _ _ _
      | exact gangsawref01_Lists.mono _ _ _
      | exact span_Sum.mono _ _
      | exact LeO.none _
      | refine LeO.ite ?_ ?_
      | refine LeO.bind ?_ (fun _ => ?_)
    · intro y0
      unfold gangsawlaw01_SpanSound.j3
      repeat' first
      | (with_reducible exact ih0 _ _ _)
      | (with_reducible exact ih1 _ _ _ _ _ _)
      | (with_reducible exact ih2 _ _ _ _ _ _ _ _)
      | (with_reducible exact ih3 _)
      | (with_reducible exact gangsawlaw01_awake.mono _)
      | (with_reducible exact gangsawref01_Length.mono _ _ _)
      | (with_reducible exact gangsawref01_Lists.mono _ _ _)
      | (with_reducible exact span_Sum.mono _ _)
      | (with_reducible exact LeO.refl _)
      | (with_reducible exact LeO.none _)
      | (with_reducible refine LeO.ite ?_ ?_)
      | (with_reducible refine LeO.bind ?_ (fun _ => ?_))
      | exact ih0 _ _ _
      | exact ih1 _ _ _ _ _ _
      | exact ih2 _ _ _ _ _ _ _ _
      | exact ih3 _
      | exact gangsawlaw01_awake.mono _
      | exact gangsawref01_Length.mono _ _ _
      | exact gangsawref01_Lists.mono _ _ _
      | exact span_Sum.mono _ _
      | exact LeO.none _
      | refine LeO.ite ?_ ?_
      | refine LeO.bind ?_ (fun _ => ?_)
theorem gangsawlaw01_SpanSound.mono : ∀ a0 a1 k, LeO (gangsawlaw01_SpanSound.f k a0 a1) (gangsawlaw01_SpanSound.f (k + 1) a0 a1) := by
  intro a0 a1 k
  obtain ⟨ih0, ih1, ih2, ih3⟩ := gangsawlaw01_SpanSound.mono_l k
  unfold gangsawlaw01_SpanSound.f
  repeat' first
      | (with_reducible exact ih0 _ _ _)
      | (with_reducible exact ih1 _ _ _ _ _ _)
      | (with_reducible exact ih2 _ _ _ _ _ _ _ _)
      | (with_reducible exact ih3 _)
      | (with_reducible exact gangsawlaw01_awake.mono _)
      | (with_reducible exact gangsawref01_Length.mono _ _ _)
      | (with_reducible exact gangsawref01_Lists.mono _ _ _)
      | (with_reducible exact span_Sum.mono _ _)
      | (with_reducible exact LeO.refl _)
      | (with_reducible exact LeO.none _)
      | (with_reducible refine LeO.ite ?_ ?_)
      | (with_reducible refine LeO.bind ?_ (fun _ => ?_))
      | exact ih0 _ _ _
      | exact ih1 _ _ _ _ _ _
      | exact ih2 _ _ _ _ _ _ _ _
      | exact ih3 _
      | exact gangsawlaw01_awake.mono _
      | exact gangsawref01_Length.mono _ _ _
      | exact gangsawref01_Lists.mono _ _ _
      | exact span_Sum.mono _ _
      | exact LeO.none _
      | refine LeO.ite ?_ ?_
      | refine LeO.bind ?_ (fun _ => ?_)
def gangsawlaw01_SpanSound.T14 : Bool × List (List Nat × List Nat) := (true, [([], []), ([], []), ([], []), ([1, 2], [1, 2]), ([3], [3]), ([4], [4]), ([], []), ([], []), ([6, 7], [6, 7]), ([8], [8]), ([9], [9]), ([], []), ([], []), ([11, 12], [11, 12]), ([13], [13]), ([14], [14]), ([15], [15]), ([10, 16], [10, 16]), ([17], [17]), ([5, 18], [5, 18]), ([0, 19], [0, 19]), ([20, 15, 0, 1, 2, 3, 4, 5, 6, 7, 8, 9, 10, 11, 12, 13, 14, 15, 16, 17, 18, 19, 20], [0, 20])])
def gangsawlaw01_SpanSound.B14 : List Nat := [0, 0, 0, 6, 14, 30, 0, 0, 192, 448, 960, 0, 0, 6144, 14336, 30720, 63488, 131008, 262080, 524286, 1048575, 2097151]
theorem gangsawlaw01_SpanSound.tab14 : rtab .any (opsOf Try.f5 14) = gangsawlaw01_SpanSound.T14 := by kernel_rfl
theorem gangsawlaw01_SpanSound.bits14 : waitsOk gangsawlaw01_SpanSound.T14.2 gangsawlaw01_SpanSound.B14 = true := by kernel_rfl
set_option maxHeartbeats 8000000 in
set_option maxRecDepth 100000 in
theorem gangsawlaw01_SpanSound.calls (k : Nat) (A0 : Option Addr) (c0 : Nat) (l0 : List (S23)) (A1 : Option Addr) (c1 : Nat) (l1 : List Int) (r : Bool) (w : World) (hr0 : Kd.C k23 w A0 l0.length l0) (hc0 : l0.length ≤ c0) (hr1 : Kd.C (Kd.int .i64) w A1 l1.length l1) (hc1 : l1.length ≤ c1) (h : gangsawlaw01_SpanSound.f k l0 l1 = some r) :
    Calls Try.prog 5 #[.slice A0 l0.length c0, .slice A1 l1.length c1] w fun e w' => e = .returned (.bool r) ∧ Below w.heap.size w w' := by
  have hu23 := Try.underlying23
  have HR0 := Aside0.mk hr0
  have HC0 := Aside0.mk hc0
  clear hr0 hc0
  have HR1 := Aside0.mk hr1
  have HC1 := Aside0.mk hc1
  clear hr1 hc1
  have HB := Aside0.mk (Below.refl w.heap.size w)
  have H : ((gangsawlaw01_awake.f k).bind fun t246 => (if t246 = true then (if (l0.length : Int) > 30 then (gangsawlaw01_SpanSound.j0 k l0 l1 true) else (gangsawlaw01_SpanSound.j0 k l0 l1 (decide ((l1.length : Int) < (l0.length : Int))))) else (some false))) = some r := h
  clear h
  replace H := Option.bind_eq_some_iff.mp H
  obtain ⟨t246, A30, H⟩ := H
  replace H : (if t246 = true then (if (l0.length : Int) > 30 then (gangsawlaw01_SpanSound.j0 k l0 l1 true) else (gangsawlaw01_SpanSound.j0 k l0 l1 (decide ((l1.length : Int) < (l0.length : Int))))) else (some false)) = some r := H
  have A3 := Aside0.mk A30
  clear A30
  by_cases c4 : t246 = true
  · subst c4
    have H1 : (if (l0.length : Int) > 30 then (gangsawlaw01_SpanSound.j0 k l0 l1 true) else (gangsawlaw01_SpanSound.j0 k l0 l1 (decide ((l1.length : Int) < (l0.length : Int))))) = some r := by rw [if_pos rfl] at H; exact H
    clear H
    have H := H1
    clear H1
    have HC5 := Aside0.mk H
    clear H
    go_enter Try.func5, Try.ntmps5
    go_upto_region 3 with (first | ((with_reducible refine gate_callee (f := 10) rfl ?_); refine goesL_ (some 11) rfl rfl Try.func10 (by kernel_rfl) rfl #[] rfl (by (try simp only [List.map_toArray, List.map_cons, List.map_nil]); first | done | rfl | (simp only [List.length_drop, List.length_take]; rfl)) ?_; (with_reducible refine (gangsawlaw01_awake.calls k  true _ A3.out).mono ?_); rintro e w6 ⟨rfl, hb⟩; refine ⟨_, rfl, ?_⟩; have n0_ := Aside0.mk (below_step (by repeat (first | (with_reducible first | exact HB.out | apply below_alloc | apply pw_below_drewN | apply below_drew1) | exact HB.out)) hb); clear HB; have HB := n0_; clear n0_; (try clear hb); (try clear hb2); (try clear hk); (try clear hi)))
    (try simp only [Act.put, List.setIfInBounds_toArray, List.set_cons_zero, List.set_cons_succ])
    go_cut [22] (fun v22 wc => ∃ (kq : Nat) (x22_4 : Bool), v22 = .bool x22_4 ∧ Aside0 (gangsawlaw01_SpanSound.j0 kq l0 l1 x22_4 = some r) ∧ Aside0 (kq ≤ k) ∧ Aside0 (Below w.heap.size w wc))
    case first =>
      have H := HC5.out
      clear HC5
      by_cases c7 : (l0.length : Int) > 30
      · rw [if_pos c7] at H
        have c7b0 : decide (30 < (l0.length : Int)) = true := decide_eq_true c7
        have c7b1 : decide (30 < l0.length) = true := decide_eq_true (by omega)
        clear c7
        (first | rw [c7b0] | (simp only [i64_w, i32_w]; rw [c7b0]) | skip)
        have H' := Aside0.mk H
        clear H
        go_wp2
        go_meet
        case rel => exact ⟨_, (true), (by first | rfl | (simp; done) | (simp [*]; done)), H', ⟨by first | omega | exact Nat.le_refl _⟩, ⟨by repeat (first | (with_reducible first | exact HB.out | apply below_alloc | apply pw_below_drewN | apply below_drew1) | exact HB.out)⟩⟩
      · rw [if_neg c7] at H
        have c7b0 : decide (30 < (l0.length : Int)) = false := decide_eq_false c7
        have c7b1 : decide (30 < l0.length) = false := decide_eq_false (by omega)
        clear c7
        (first | rw [c7b0] | (simp only [i64_w, i32_w]; rw [c7b0]) | skip)
        have H' := Aside0.mk H
        clear H
        go_wp2
        go_meet
        case rel => exact ⟨_, (decide ((l1.length : Int) < (l0.length : Int))), (by first | rfl | (simp; done) | (simp [*]; done)), H', ⟨by first | omega | exact Nat.le_refl _⟩, ⟨by repeat (first | (with_reducible first | exact HB.out | apply below_alloc | apply pw_below_drewN | apply below_drew1) | exact HB.out)⟩⟩
    case rest =>
      clear HC5
      try clear c1
      try clear p2
      try clear c4
      try clear c5
      try clear c7
      try clear c7b0
      try clear c7b1
      obtain ⟨kq, x22_4, rfl, HA, HJ4, HB⟩ := hcut
      cases kq with
      | zero => exact absurd HA.out (by simp [gangsawlaw01_SpanSound.j0])
      | succ kj4 =>
        have H := HA.out
        clear HA
        simp only [gangsawlaw01_SpanSound.j0] at H
        by_cases c8 : x22_4 = true
        · subst c8
          have H1 : (some true) = some r := by rw [if_pos rfl] at H; exact H
          clear H
          have H := H1
          clear H1
          obtain rfl := Option.some.inj H
          go_wp2
          go_ret
          exact ⟨by first | rfl | (simp [errW_none, errW_some] <;> rfl) | (simp [*, errW_none, errW_some] <;> rfl), by repeat (first | (with_reducible first | exact HB.out | apply below_alloc | apply pw_below_drewN | apply below_drew1) | exact HB.out)⟩
        · replace c8 := Bool.eq_false_iff.mpr c8
          subst c8
          have H1 : ((span_Sum.f kj4 l0).bind fun bt247 => (if bt247.2.2 = 0 then ((gangsawref01_Lists.f kj4 l0 ([] : List (S23))).bind fun t251 => (gangsawlaw01_SpanSound.j1 kj4 l0 l1 bt247.2.2 (t251 != 0) bt247.1 bt247.2.1)) else (gangsawlaw01_SpanSound.j1 kj4 l0 l1 bt247.2.2 true bt247.1 bt247.2.1))) = some r := by rw [if_neg (show ¬ (false = true) by decide)] at H; exact H
          clear H
          have H := H1
          clear H1
          replace H := Option.bind_eq_some_iff.mp H
          obtain ⟨⟨t247, t248, t249⟩, A90, H⟩ := H
          replace H : (if t249 = 0 then ((gangsawref01_Lists.f kj4 l0 ([] : List (S23))).bind fun t251 => (gangsawlaw01_SpanSound.j1 kj4 l0 l1 t249 (t251 != 0) t247 t248)) else (gangsawlaw01_SpanSound.j1 kj4 l0 l1 t249 true t247 t248)) = some r := H
          have A9 := Aside0.mk A90
          clear A90
          have HC10 := Aside0.mk H
          clear H
          go_upto_region 6 with (first | ((with_reducible refine gate_callee (f := 19) rfl ?_); refine goesL_ (some 25) rfl rfl Try.func19 (by kernel_rfl) rfl #[.slice A0 l0.length c0] rfl (by (try simp only [List.map_toArray, List.map_cons, List.map_nil]); first | done | rfl | (simp only [List.length_drop, List.length_take]; rfl)) ?_; (with_reducible refine (span_Sum.calls kj4 (fun k_ => k_ < w.heap.size) _ _ l0 t247 t248 t249 _ ?side1 A9.out).mono ?_); (case side1 => exact Kd.V_mk HC0.out (Kd.F_below (Kd.C_F k23_heap HR0.out) (by repeat (first | (with_reducible first | exact HB.out | apply below_alloc | apply pw_below_drewN | apply below_drew1) | exact HB.out)))); rintro e w11 ⟨rfl, hb⟩; refine ⟨_, rfl, ?_⟩; have n0_ := Aside0.mk (below_step (by repeat (first | (with_reducible first | exact HB.out | apply below_alloc | apply pw_below_drewN | apply below_drew1) | exact HB.out)) hb); clear HB; have HB := n0_; clear n0_; (try clear hb); (try clear hb2); (try clear hk); (try clear hi)) | ((with_reducible refine gate_dst (N := 5) rfl ?_); (try (refine gate_guard (by rfl) ?_; dsimp only)); refine box_event ?hg (N := 5) ?hd (cs := #[.int .i64 0, .int .i64 0]) (t := 23) ?hr ?_; (case hd => rfl); (case hg => rfl); (case hr => first | (go_simp; done) | (go_simp; rfl)); intro gb250 hg w12 hbox hb; have n0_ := Aside0.mk (below_step (by repeat (first | (with_reducible first | exact HB.out | apply below_alloc | apply pw_below_drewN | apply below_drew1) | exact HB.out)) hb); have n1_ := Aside0.mk (hbox); have n2_ := Aside0.mk ((by rw [hg]; exact (below_size (by repeat (first | (with_reducible first | exact HB.out | apply below_alloc | apply pw_below_drewN | apply below_drew1) | exact HB.out))) : w.heap.size ≤ gb250)); have n3_ := Aside0.mk ((by rw [hg]; exact (below_size (by repeat (first | (with_reducible first | exact HB.out | apply below_alloc | apply pw_below_drewN | apply below_drew1) | exact HB.out))) : w.heap.size ≤ gb250)); clear HB; have HB := n0_; have BK250 := n1_; have GW250 := n2_; have GE250 := n3_; clear n0_ n1_ n2_ n3_; clear hb hbox hg; have hcz13_0 : w12.cell? ⟨gb250, 0, none⟩ = some (.int .i64 0) := (blk_cell BK250.out 0).trans rfl; have hcz13_1 : w12.cell? ⟨gb250, 1, none⟩ = some (.int .i64 0) := (blk_cell BK250.out 1).trans rfl; have hfz13_0 := blk_frozen BK250.out 0; have hfz13_1 := blk_frozen BK250.out 1))
          (try simp only [Act.put, List.setIfInBounds_toArray, List.set_cons_zero, List.set_cons_succ])
          go_cut [34] (fun v34 wc => ∃ (kq : Nat) (x34_9 : Bool), v34 = .bool x34_9 ∧ Aside0 (gangsawlaw01_SpanSound.j1 kq l0 l1 t249 x34_9 t247 t248 = some r) ∧ Aside0 (kq ≤ kj4) ∧ Aside0 (wc.heap[gb250]? = some (.cells #[.int .i64 t247, .int .i64 t248] 23 (0, 0))) ∧ Aside0 (Below w.heap.size w wc))
          case first =>
            have H := HC10.out
            clear HC10
            by_cases c14 : t249 = 0
            · rw [if_pos c14] at H
              have c14b0 : (t249 == 0) = true := beq_iff_eq.mpr c14
              have c14b1 : (t249 != 0) = false := bne_eq_false_iff_eq.mpr c14
              clear c14
              (first | rw [c14b0] | (simp only [i64_w, i32_w]; rw [c14b0]) | skip)
              replace H := Option.bind_eq_some_iff.mp H
              obtain ⟨t251, A150, H⟩ := H
              replace H : (gangsawlaw01_SpanSound.j1 kj4 l0 l1 t249 (t251 != 0) t247 t248) = some r := H
              have A15 := Aside0.mk A150
              clear A150
              have H' := Aside0.mk H
              clear H
              go_wp2_with (first | (go_at_call 21; (refine (gangsawref01_Lists.calls kj4 _ _ l0 _ _ ([] : List (S23)) t251 _ ?side1 ?side2 ?side3 ?side4 A15.out).mono ?_); (case side1 => exact Kd.C_below HR0.out (by repeat (first | (with_reducible first | exact HB.out | apply below_alloc | apply pw_below_drewN | apply below_drew1 | refine below_set ?_ GE250.out) | exact HB.out))); (case side2 => exact HC0.out); (case side3 => exact Kd.C_nil _ _); (case side4 => exact Nat.le_refl _); rintro e w16 ⟨rfl, hb⟩; have n0_ := Aside0.mk (blk_below (g := gb250) (o := .cells #[.int .i64 t247, .int .i64 t248] 23 (0, 0)) (by (with_reducible repeat (first | refine blk_drewN ?_ _ | refine blk_drew ?_ | refine blk_alloc ?_ _)); refine blk_put (cs := #[.int .i64 t247, .int .i64 0]) ?_ 1 _ rfl; (with_reducible repeat (first | refine blk_drewN ?_ _ | refine blk_drew ?_ | refine blk_alloc ?_ _)); refine blk_put (cs := #[.int .i64 0, .int .i64 0]) ?_ 0 _ rfl; (with_reducible repeat (first | refine blk_drewN ?_ _ | refine blk_drew ?_ | refine blk_alloc ?_ _)); exact BK250.out) hb); have n1_ := Aside0.mk (below_step (by repeat (first | (with_reducible first | exact HB.out | apply below_alloc | apply pw_below_drewN | apply below_drew1 | refine below_set ?_ GE250.out) | exact HB.out)) hb); clear BK250; clear HB; have BK250 := n0_; have HB := n1_; clear n0_ n1_; (try clear hb); (try clear hb2); (try clear hk); (try clear hi)))
              go_meet
              case rel => exact ⟨_, ((t251 != 0)), (by first | rfl | (simp; done) | (simp [*]; done)), H', ⟨by have := HJ4.out; first | omega | exact Nat.le_refl _⟩, ⟨by (with_reducible repeat (first | refine blk_drewN ?_ _ | refine blk_drew ?_ | refine blk_alloc ?_ _)); exact BK250.out⟩, ⟨by repeat (first | (with_reducible first | exact HB.out | apply below_alloc | apply pw_below_drewN | apply below_drew1 | refine below_set ?_ GE250.out) | exact HB.out)⟩⟩
            · rw [if_neg c14] at H
              have c14b0 : (t249 == 0) = false := beq_eq_false_iff_ne.mpr c14
              have c14b1 : (t249 != 0) = true := bne_iff_ne.mpr c14
              (first | rw [c14b0] | (simp only [i64_w, i32_w]; rw [c14b0]) | skip)
              have H' := Aside0.mk H
              clear H
              go_wp2
              go_meet
              case rel => exact ⟨_, (true), (by first | rfl | (simp; done) | (simp [*]; done)), H', ⟨by have := HJ4.out; first | omega | exact Nat.le_refl _⟩, ⟨by (with_reducible repeat (first | refine blk_drewN ?_ _ | refine blk_drew ?_ | refine blk_alloc ?_ _)); refine blk_put (cs := #[.int .i64 t247, .int .i64 0]) ?_ 1 _ rfl; (with_reducible repeat (first | refine blk_drewN ?_ _ | refine blk_drew ?_ | refine blk_alloc ?_ _)); refine blk_put (cs := #[.int .i64 0, .int .i64 0]) ?_ 0 _ rfl; (with_reducible repeat (first | refine blk_drewN ?_ _ | refine blk_drew ?_ | refine blk_alloc ?_ _)); exact BK250.out⟩, ⟨by repeat (first | (with_reducible first | exact HB.out | apply below_alloc | apply pw_below_drewN | apply below_drew1 | refine below_set ?_ GE250.out) | exact HB.out)⟩⟩
          case rest =>
            clear HC10
            try clear c1
            try clear p2
            try clear c4
            try clear c5
            try clear c7
            try clear c7b0
            try clear c7b1
            try clear c8
            try clear c10
            try clear c14
            try clear c14b0
            try clear c14b1
            try clear hcz13_0
            try clear hcz13_1
            try clear hfz13_0
            try clear hfz13_1
            try clear p2
            obtain ⟨kq, x34_9, rfl, HA, HJ9, BK250, HB⟩ := hcut
            cases kq with
            | zero => exact absurd HA.out (by simp [gangsawlaw01_SpanSound.j1])
            | succ kj9 =>
              have H := HA.out
              clear HA
              simp only [gangsawlaw01_SpanSound.j1] at H
              by_cases c17 : x34_9 = true
              · subst c17
                have H1 : (if (t247 == 0 && (t248 == 0)) = true then (some (t249 != 0)) else (some false)) = some r := by rw [if_pos rfl] at H; exact H
                clear H
                have H := H1
                clear H1
                by_cases c18 : (t247 == 0 && (t248 == 0)) = true
                · rw [if_pos c18] at H
                  have c18b0 : (t247 == 0 && (t248 == 0)) = true := c18
                  (try (have c18b1 : decide (t247 = 0 && (t248 == 0)) = true := by simpa using c18))
                  (try (have c18b2 : (t247 == 0 && (t248 == 0)) = true := by simpa using c18))
                  clear c18
                  obtain rfl := Option.some.inj H
                  have hcz19_0 : wc.cell? ⟨gb250, 0, none⟩ = some (.int .i64 t247) := (blk_cell BK250.out 0).trans rfl
                  have hcz19_1 : wc.cell? ⟨gb250, 1, none⟩ = some (.int .i64 t248) := (blk_cell BK250.out 1).trans rfl
                  have hfz19_0 := blk_frozen BK250.out 0
                  have hfz19_1 := blk_frozen BK250.out 1
                  go_wp2
                  go_ret
                  exact ⟨by first | rfl | (simp [errW_none, errW_some] <;> rfl) | (simp [*, errW_none, errW_some] <;> rfl), by repeat (first | (with_reducible first | exact HB.out | apply below_alloc | apply pw_below_drewN | apply below_drew1 | refine below_set ?_ GE250.out) | exact HB.out)⟩
                · rw [if_neg c18] at H
                  have c18b0 : (t247 == 0 && (t248 == 0)) = false := by simpa using c18
                  (try (have c18b1 : decide (t247 = 0 && (t248 == 0)) = false := by simpa using c18))
                  (try (have c18b2 : (t247 == 0 && (t248 == 0)) = false := by simpa using c18))
                  (try (have c18b3 : ¬ (t247 = 0 && (t248 == 0)) := by simpa using c18))
                  clear c18
                  obtain rfl := Option.some.inj H
                  have hcz20_0 : wc.cell? ⟨gb250, 0, none⟩ = some (.int .i64 t247) := (blk_cell BK250.out 0).trans rfl
                  have hcz20_1 : wc.cell? ⟨gb250, 1, none⟩ = some (.int .i64 t248) := (blk_cell BK250.out 1).trans rfl
                  have hfz20_0 := blk_frozen BK250.out 0
                  have hfz20_1 := blk_frozen BK250.out 1
                  go_wp2
                  go_ret
                  exact ⟨by first | rfl | (simp [errW_none, errW_some] <;> rfl) | (simp [*, errW_none, errW_some] <;> rfl), by repeat (first | (with_reducible first | exact HB.out | apply below_alloc | apply pw_below_drewN | apply below_drew1 | refine below_set ?_ GE250.out) | exact HB.out)⟩
              · replace c17 := Bool.eq_false_iff.mpr c17
                subst c17
                have H1 : (gangsawlaw01_SpanSound.l0 kj9 l0 l1 0 0 0 0 t247 t248) = some r := by rw [if_neg (show ¬ (false = true) by decide)] at H; exact H
                clear H
                have H := H1
                clear H1
                have H' := Aside0.mk H
                clear H
                go_wp2
                go_loopg [7, 8, 9, 10] kj9 (fun kq v7 v8 v9 v10 w' => ∃ (x7_3 : Int) (x8_3 : Int) (x9_3 : Int) (x10_3 : Int), v7 = .int .i64 x7_3 ∧ v8 = .int .i64 x8_3 ∧ v9 = .int .i64 x9_3 ∧ v10 = .int .i64 x10_3 ∧ Aside0 (gangsawlaw01_SpanSound.l0 kq l0 l1 x7_3 x8_3 x9_3 x10_3 t247 t248 = some r) ∧ Aside0 (kq ≤ kj9) ∧ Aside0 (w'.heap[gb250]? = some (.cells #[.int .i64 t247, .int .i64 t248] 23 (0, 0))) ∧ Aside0 (Below w.heap.size w w'))
                case atStart => exact ⟨(0), (0), (0), (0), (by first | rfl | (simp; done) | (simp [*]; done)), (by first | rfl | (simp; done) | (simp [*]; done)), (by first | rfl | (simp; done) | (simp [*]; done)), (by first | rfl | (simp; done) | (simp [*]; done)), H', ⟨Nat.le_refl _⟩, ⟨by (with_reducible repeat (first | refine blk_drewN ?_ _ | refine blk_drew ?_ | refine blk_alloc ?_ _)); exact BK250.out⟩, ⟨by repeat (first | (with_reducible first | exact HB.out | apply below_alloc | apply pw_below_drewN | apply below_drew1 | refine below_set ?_ GE250.out) | exact HB.out)⟩⟩
                case round =>
                  clear H'
                  try clear c1
                  try clear p2
                  try clear c4
                  try clear c5
                  try clear c7
                  try clear c7b0
                  try clear c7b1
                  try clear c8
                  try clear c10
                  try clear c14
                  try clear c14b0
                  try clear c14b1
                  try clear c17
                  try clear c18
                  try clear c18b0
                  try clear c18b1
                  try clear c18b2
                  try clear c19
                  try clear hcz13_0
                  try clear hcz13_1
                  try clear hcz19_0
                  try clear hcz19_1
                  try clear hcz20_0
                  try clear hcz20_1
                  try clear hfz13_0
                  try clear hfz13_1
                  try clear hfz19_0
                  try clear hfz19_1
                  try clear hfz20_0
                  try clear hfz20_1
                  try clear p2
                  obtain ⟨x7_3, x8_3, x9_3, x10_3, rfl, rfl, rfl, rfl, HA, HK3, BK250, HB⟩ := hrel
                  cases gk with
                  | zero => exact absurd HA.out (by simp [gangsawlaw01_SpanSound.l0])
                  | succ k3 =>
                    have H := HA.out
                    clear HA
                    simp only [gangsawlaw01_SpanSound.l0] at H
                    by_cases c21 : x10_3 < (l0.length : Int)
                    · rw [if_pos c21] at H
                      have c21b0 : decide (x10_3 < (l0.length : Int)) = true := decide_eq_true c21
                      clear c21
                      by_cases c22 : 0 ≤ x10_3
                      · rw [if_pos c22] at H
                        have c22b0 : decide (0 ≤ x10_3) = true := decide_eq_true c22
                        clear c22
                        by_cases c23 : x10_3 < (l1.length : Int)
                        · rw [if_pos c23] at H
                          have c23b0 : decide (x10_3 < (l1.length : Int)) = true := decide_eq_true c23
                          clear c23
                          replace H := Option.bind_eq_some_iff.mp H
                          obtain ⟨t255, A240, H⟩ := H
                          replace H : (if (IntKind.u64.wrap (t255)) = 0 then (none) else (gangsawlaw01_SpanSound.l0 k3 l0 l1 (wrap64 (x7_3 + (wrap64 (((rd_T23 l0 x10_3).f0) + (wrap64 (Int.tmod (IntKind.u64.wrap (rd l1 x10_3)) (IntKind.u64.wrap (t255)))))))) (wrap64 (x8_3 + ((rd_T23 l0 x10_3).f0))) (wrap64 (x9_3 + ((rd_T23 l0 x10_3).f1))) (wrap64 (x10_3 + 1)) t247 t248)) = some r := H
                          have A24 := Aside0.mk A240
                          clear A240
                          by_cases c25 : (IntKind.u64.wrap (t255)) = 0
                          · rw [if_pos c25] at H
                            exact absurd H (by simp)
                          · rw [if_neg c25] at H
                            have c25b0 : ((IntKind.u64.wrap (t255)) == 0) = false := beq_eq_false_iff_ne.mpr c25
                            have c25b1 : ((IntKind.u64.wrap (t255)) != 0) = true := bne_iff_ne.mpr c25
                            have H' := Aside0.mk H
                            clear H
                            try go_wp2
                            have n0_ := Aside0.mk (blk_drew BK250.out)
                            have n1_ := Aside0.mk (below_drew1 HB.out)
                            clear BK250
                            clear HB
                            have BK250 := n0_
                            have HB := n1_
                            clear n0_ n1_
                            have p252 : 0 ≤ (x10_3 : Int) := of_decide_eq_true (by first | (with_reducible assumption) | assumption)
                            have q252 : x10_3 < (l0.length : Int) := of_decide_eq_true (by first | (with_reducible assumption) | assumption)
                            obtain ⟨ad252, e252, hx252_0, hx252_1⟩ := at_T23 HR0.out x10_3 p252 q252
                            have hw252_1 := hx252_1
                            have hw252_0 := hx252_0
                            cases e252
                            replace hx252_0 := (HB.out.cell (World.block_lt_of_cell? w _ hx252_0)).trans hx252_0
                            replace hx252_1 := (HB.out.cell (World.block_lt_of_cell? w _ hx252_1)).trans hx252_1
                            replace p252 := eq_true p252
                            replace q252 := eq_true q252
                            have p253 : 0 ≤ (x10_3 : Int) := of_decide_eq_true (by first | (with_reducible assumption) | assumption)
                            have q253 : x10_3 < (l1.length : Int) := of_decide_eq_true (by first | (with_reducible assumption) | assumption)
                            obtain ⟨ad253, e253, hx253_0⟩ := Kd.at_int HR1.out x10_3 p253 q253
                            have hw253_0 := hx253_0
                            cases e253
                            replace hx253_0 := (HB.out.cell (World.block_lt_of_cell? w _ hx253_0)).trans hx253_0
                            replace p253 := eq_true p253
                            replace q253 := eq_true q253
                            have p254 : 0 ≤ (x10_3 : Int) := of_decide_eq_true (by first | (with_reducible assumption) | assumption)
                            have q254 : x10_3 < (l0.length : Int) := of_decide_eq_true (by first | (with_reducible assumption) | assumption)
                            obtain ⟨ad254, e254, hx254_0, hx254_1⟩ := at_T23 HR0.out x10_3 p254 q254
                            have hw254_1 := hx254_1
                            have hw254_0 := hx254_0
                            obtain rfl : ad252 = ad254 := (by injection e254)
                            replace hx254_0 := (HB.out.cell (World.block_lt_of_cell? w _ hx254_0)).trans hx254_0
                            replace hx254_1 := (HB.out.cell (World.block_lt_of_cell? w _ hx254_1)).trans hx254_1
                            replace p254 := eq_true p254
                            replace q254 := eq_true q254
                            refine start_ (n := 22) (S := fun w' => w'.cell? (ad252.add ((x10_3).toNat * 2)) = some (.int .i64 ((rd_T23 l0 x10_3).f0)) ∧ w'.cell? ⟨(ad252.add ((x10_3).toNat * 2)).block, (ad252.add ((x10_3).toNat * 2)).off + 1, none⟩ = some (.int .i64 ((rd_T23 l0 x10_3).f1)) ∧ w'.cell? (ad253.add (x10_3).toNat) = some (.int .i64 (rd l1 x10_3)) ∧ w'.cell? (ad252.add ((x10_3).toNat * 2)) = some (.int .i64 ((rd_T23 l0 x10_3).f0)) ∧ w'.cell? ⟨(ad252.add ((x10_3).toNat * 2)).block, (ad252.add ((x10_3).toNat * 2)).off + 1, none⟩ = some (.int .i64 ((rd_T23 l0 x10_3).f1))) (ds := []) #[false, false, false, false, false, false, false, false, false, false, false, false, false, false, false, false, false, false, false, false, false, false] (by kernel_rfl) rfl rfl ⟨((HB.out.cell (World.block_lt_of_cell? w _ hw252_0)).trans hw252_0), ((HB.out.cell (World.block_lt_of_cell? w _ hw252_1)).trans hw252_1), ((HB.out.cell (World.block_lt_of_cell? w _ hw253_0)).trans hw253_0), ((HB.out.cell (World.block_lt_of_cell? w _ hw254_0)).trans hw254_0), ((HB.out.cell (World.block_lt_of_cell? w _ hw254_1)).trans hw254_1)⟩ (fun hHeld => ?_); refine with_tabW gangsawlaw01_SpanSound.tab14 gangsawlaw01_SpanSound.bits14 (fun HT_ HW_ => ?_)
                            generalize wr.drew = w26 at BK250 HB hx252_0 hx252_1 hx253_0 hx254_0 hx254_1 hHeld ⊢
                            refine pure_ (i := 0) (N := some 48) (v := ?_) (a' := ?_) #[true, false, false, false, false, false, false, false, false, false, false, false, false, false, false, false, false, false, false, false, false, false] rfl rfl (any_of HT_.out (by kernel_rfl)) (fun _ _ _ h => h) (Or.inl ⟨by rfl, ?_⟩) ?_ ?_
                            rotate_left
                            · intro w'
                              go_simp
                              with_reducible rfl
                            rotate_left
                            · simp only [Act.put, List.setIfInBounds_toArray, List.set_cons_zero, List.set_cons_succ, i64_w, i32_w]
                              rfl
                            refine pure_ (i := 1) (N := some 49) (v := ?_) (a' := ?_) #[true, true, false, false, false, false, false, false, false, false, false, false, false, false, false, false, false, false, false, false, false, false] rfl rfl (any_of HT_.out (by kernel_rfl)) (fun _ _ _ h => h) (Or.inl ⟨by rfl, ?_⟩) ?_ ?_
                            rotate_left
                            · intro w'
                              go_simp
                              with_reducible rfl
                            rotate_left
                            · simp only [Act.put, List.setIfInBounds_toArray, List.set_cons_zero, List.set_cons_succ, i64_w, i32_w]
                              rfl
                            refine pure_ (i := 2) (N := some 50) (v := ?_) (a' := ?_) #[true, true, true, false, false, false, false, false, false, false, false, false, false, false, false, false, false, false, false, false, false, false] rfl rfl (any_of HT_.out (by kernel_rfl)) (fun _ _ _ h => h) (Or.inl ⟨by rfl, ?_⟩) ?_ ?_
                            rotate_left
                            · intro w'
                              go_simp
                              with_reducible rfl
                            rotate_left
                            · simp only [Act.put, List.setIfInBounds_toArray, List.set_cons_zero, List.set_cons_succ, i64_w, i32_w]
                              rfl
                            refine pure_ (i := 3) (N := some 51) (v := ?_) (a' := ?_) #[true, true, true, true, false, false, false, false, false, false, false, false, false, false, false, false, false, false, false, false, false, false] rfl rfl (any_of HT_.out (by kernel_rfl)) (fun _ _ _ h => h) (Or.inl ⟨by rfl, ?_⟩) ?_ ?_
                            rotate_left
                            · intro w'
                              go_simp
                              with_reducible rfl
                            rotate_left
                            · simp only [Act.put, List.setIfInBounds_toArray, List.set_cons_zero, List.set_cons_succ, i64_w, i32_w]
                              rfl
                            refine pure_ (i := 4) (N := some 52) (v := ?_) (a' := ?_) #[true, true, true, true, true, false, false, false, false, false, false, false, false, false, false, false, false, false, false, false, false, false] rfl rfl (any_of HT_.out (by kernel_rfl)) (fun _ _ _ h => h) (Or.inl ⟨by rfl, ?_⟩) ?_ ?_
                            rotate_left
                            · intro w'
                              go_simp
                              with_reducible rfl
                            rotate_left
                            · simp only [Act.put, List.setIfInBounds_toArray, List.set_cons_zero, List.set_cons_succ, i64_w, i32_w]
                              rfl
                            refine pure_ (i := 6) (N := some 54) (v := ?_) (a' := ?_) #[true, true, true, true, true, false, true, false, false, false, false, false, false, false, false, false, false, false, false, false, false, false] rfl rfl (any_of HT_.out (by kernel_rfl)) (fun _ _ _ h => h) (Or.inl ⟨by rfl, ?_⟩) ?_ ?_
                            rotate_left
                            · intro w'
                              go_simp
                              with_reducible rfl
                            rotate_left
                            · simp only [Act.put, List.setIfInBounds_toArray, List.set_cons_zero, List.set_cons_succ, i64_w, i32_w]
                              rfl
                            refine pure_ (i := 7) (N := some 55) (v := ?_) (a' := ?_) #[true, true, true, true, true, false, true, true, false, false, false, false, false, false, false, false, false, false, false, false, false, false] rfl rfl (any_of HT_.out (by kernel_rfl)) (fun _ _ _ h => h) (Or.inl ⟨by rfl, ?_⟩) ?_ ?_
                            rotate_left
                            · intro w'
                              go_simp
                              with_reducible rfl
                            rotate_left
                            · simp only [Act.put, List.setIfInBounds_toArray, List.set_cons_zero, List.set_cons_succ, i64_w, i32_w]
                              rfl
                            refine pure_ (i := 8) (N := some 56) (v := ?_) (a' := ?_) #[true, true, true, true, true, false, true, true, true, false, false, false, false, false, false, false, false, false, false, false, false, false] rfl rfl (any_of HT_.out (by kernel_rfl)) (fun _ _ _ h => h) (Or.inl ⟨by rfl, ?_⟩) ?_ ?_
                            rotate_left
                            · intro w'
                              go_simp
                              with_reducible rfl
                            rotate_left
                            · simp only [Act.put, List.setIfInBounds_toArray, List.set_cons_zero, List.set_cons_succ, i64_w, i32_w]
                              rfl
                            refine pure_ (i := 11) (N := some 59) (v := ?_) (a' := ?_) #[true, true, true, true, true, false, true, true, true, false, false, true, false, false, false, false, false, false, false, false, false, false] rfl rfl (any_of HT_.out (by kernel_rfl)) (fun _ _ _ h => h) (Or.inl ⟨by rfl, ?_⟩) ?_ ?_
                            rotate_left
                            · intro w'
                              go_simp
                              with_reducible rfl
                            rotate_left
                            · simp only [Act.put, List.setIfInBounds_toArray, List.set_cons_zero, List.set_cons_succ, i64_w, i32_w]
                              rfl
                            refine pure_ (i := 12) (N := some 60) (v := ?_) (a' := ?_) #[true, true, true, true, true, false, true, true, true, false, false, true, true, false, false, false, false, false, false, false, false, false] rfl rfl (any_of HT_.out (by kernel_rfl)) (fun _ _ _ h => h) (Or.inl ⟨by rfl, ?_⟩) ?_ ?_
                            rotate_left
                            · intro w'
                              go_simp
                              with_reducible rfl
                            rotate_left
                            · simp only [Act.put, List.setIfInBounds_toArray, List.set_cons_zero, List.set_cons_succ, i64_w, i32_w]
                              rfl
                            refine pure_ (i := 13) (N := some 61) (v := ?_) (a' := ?_) #[true, true, true, true, true, false, true, true, true, false, false, true, true, true, false, false, false, false, false, false, false, false] rfl rfl (any_of HT_.out (by kernel_rfl)) (fun _ _ _ h => h) (Or.inl ⟨by rfl, ?_⟩) ?_ ?_
                            rotate_left
                            · intro w'
                              go_simp
                              with_reducible rfl
                            rotate_left
                            · simp only [Act.put, List.setIfInBounds_toArray, List.set_cons_zero, List.set_cons_succ, i64_w, i32_w]
                              rfl
                            refine take_ (i := 5) (N := some 53) (v := ?_) (a' := ?_) #[true, true, true, true, true, true, true, true, true, false, false, true, true, true, false, false, false, false, false, false, false, false] rfl rfl (take_ofW HT_.out HW_.out (by kernel_rfl)) (fun _ _ _ h => h) (Or.inl ⟨by rfl, ?_⟩) hHeld ?_ ?_
                            rotate_left
                            · rintro w' ⟨s0, s1, s2, s3, s4⟩
                              go_simp
                              with_reducible rfl
                            rotate_left
                            · simp only [Act.put, List.setIfInBounds_toArray, List.set_cons_zero, List.set_cons_succ, i64_w, i32_w]
                              rfl
                            refine take_ (i := 9) (N := some 57) (v := ?_) (a' := ?_) #[true, true, true, true, true, true, true, true, true, true, false, true, true, true, false, false, false, false, false, false, false, false] rfl rfl (take_ofW HT_.out HW_.out (by kernel_rfl)) (fun _ _ _ h => h) (Or.inl ⟨by rfl, ?_⟩) hHeld ?_ ?_
                            rotate_left
                            · rintro w' ⟨s0, s1, s2, s3, s4⟩
                              go_simp
                              with_reducible rfl
                            rotate_left
                            · simp only [Act.put, List.setIfInBounds_toArray, List.set_cons_zero, List.set_cons_succ, i64_w, i32_w]
                              rfl
                            refine pure_ (i := 10) (N := some 58) (v := ?_) (a' := ?_) #[true, true, true, true, true, true, true, true, true, true, true, true, true, true, false, false, false, false, false, false, false, false] rfl rfl (any_of HT_.out (by kernel_rfl)) (fun _ _ _ h => h) (Or.inl ⟨by rfl, ?_⟩) ?_ ?_
                            rotate_left
                            · intro w'
                              go_simp
                              with_reducible rfl
                            rotate_left
                            · simp only [Act.put, List.setIfInBounds_toArray, List.set_cons_zero, List.set_cons_succ, i64_w, i32_w]
                              rfl
                            refine take_ (i := 14) (N := some 62) (v := ?_) (a' := ?_) #[true, true, true, true, true, true, true, true, true, true, true, true, true, true, true, false, false, false, false, false, false, false] rfl rfl (take_ofW HT_.out HW_.out (by kernel_rfl)) (fun _ _ _ h => h) (Or.inl ⟨by rfl, ?_⟩) hHeld ?_ ?_
                            rotate_left
                            · rintro w' ⟨s0, s1, s2, s3, s4⟩
                              go_simp
                              with_reducible rfl
                            rotate_left
                            · simp only [Act.put, List.setIfInBounds_toArray, List.set_cons_zero, List.set_cons_succ, i64_w, i32_w]
                              rfl
                            refine one_ (i := 15) (N := some 63) #[true, true, true, true, true, true, true, true, true, true, true, true, true, true, true, true, false, false, false, false, false, false] rfl rfl (one_of HT_.out (by kernel_rfl)) (by decide) (fun K hK => ?_)
                            refine goes_ Try.func18 (by kernel_rfl) rfl #[.agg #[.int .i64 ((rd_T23 l0 x10_3).f0), .int .i64 ((rd_T23 l0 x10_3).f1)]] (by rfl) rfl rfl (by (try simp only [List.map_toArray, List.map_cons, List.map_nil]); first | done | rfl | (simp only [List.length_drop, List.length_take]; rfl)) ?_
                            with_reducible refine (gangsawref01_Length.calls k3 ((rd_T23 l0 x10_3).f0) ((rd_T23 l0 x10_3).f1) t255 _ A24.out).mono ?_
                            rintro e w27 ⟨rfl, hb⟩
                            refine ⟨_, rfl, ?_⟩
                            have n0_ := Aside0.mk (blk_below (g := gb250) (o := .cells #[.int .i64 t247, .int .i64 t248] 23 (0, 0)) (by (with_reducible repeat (first | refine blk_drewN ?_ _ | refine blk_drew ?_ | refine blk_alloc ?_ _)); exact BK250.out) hb)
                            have n1_ := Aside0.mk (below_step (by repeat (first | (with_reducible first | exact HB.out | apply below_alloc | apply pw_below_drewN | apply below_drew1 | refine below_set ?_ GE250.out) | exact HB.out)) hb)
                            clear BK250
                            clear HB
                            have BK250 := n0_
                            have HB := n1_
                            clear n0_ n1_
                            (try clear hb)
                            (try clear hb2)
                            (try clear hk)
                            (try clear hi)
                            refine hK.out _ _ ⟨((HB.out.cell (World.block_lt_of_cell? w _ hw252_0)).trans hw252_0), ((HB.out.cell (World.block_lt_of_cell? w _ hw252_1)).trans hw252_1), ((HB.out.cell (World.block_lt_of_cell? w _ hw253_0)).trans hw253_0), ((HB.out.cell (World.block_lt_of_cell? w _ hw254_0)).trans hw254_0), ((HB.out.cell (World.block_lt_of_cell? w _ hw254_1)).trans hw254_1)⟩ (fun hHeld => ?_)
                            clear hK K
                            refine norm_ (a' := ?_) ?_ ?_
                            rotate_left
                            · show Act.put _ (some 63) _ = _
                              simp only [Act.put, List.setIfInBounds_toArray, List.set_cons_zero, List.set_cons_succ, i64_w, i32_w]
                              rfl
                            refine pure_ (i := 16) (N := some 64) (v := ?_) (a' := ?_) #[true, true, true, true, true, true, true, true, true, true, true, true, true, true, true, true, true, false, false, false, false, false] rfl rfl (any_of HT_.out (by kernel_rfl)) (fun _ _ _ h => h) (Or.inl ⟨by rfl, ?_⟩) ?_ ?_
                            rotate_left
                            · intro w'
                              go_simp
                              with_reducible rfl
                            rotate_left
                            · simp only [Act.put, List.setIfInBounds_toArray, List.set_cons_zero, List.set_cons_succ, i64_w, i32_w]
                              rfl
                            refine pure_ (i := 17) (N := some 65) (v := ?_) (a' := ?_) #[true, true, true, true, true, true, true, true, true, true, true, true, true, true, true, true, true, true, false, false, false, false] rfl rfl (any_of HT_.out (by kernel_rfl)) (fun _ _ _ h => h) (Or.inl ⟨by rfl, ?_⟩) ?_ ?_
                            rotate_left
                            · intro w'
                              go_simp
                              with_reducible rfl
                            rotate_left
                            · simp only [Act.put, List.setIfInBounds_toArray, List.set_cons_zero, List.set_cons_succ, i64_w, i32_w]
                              rfl
                            refine pure_ (i := 18) (N := some 66) (v := ?_) (a' := ?_) #[true, true, true, true, true, true, true, true, true, true, true, true, true, true, true, true, true, true, true, false, false, false] rfl rfl (any_of HT_.out (by kernel_rfl)) (fun _ _ _ h => h) (Or.inl ⟨by rfl, ?_⟩) ?_ ?_
                            rotate_left
                            · intro w'
                              go_simp
                              with_reducible rfl
                            rotate_left
                            · simp only [Act.put, List.setIfInBounds_toArray, List.set_cons_zero, List.set_cons_succ, i64_w, i32_w]
                              rfl
                            refine pure_ (i := 19) (N := some 67) (v := ?_) (a' := ?_) #[true, true, true, true, true, true, true, true, true, true, true, true, true, true, true, true, true, true, true, true, false, false] rfl rfl (any_of HT_.out (by kernel_rfl)) (fun _ _ _ h => h) (Or.inl ⟨by rfl, ?_⟩) ?_ ?_
                            rotate_left
                            · intro w'
                              go_simp
                              with_reducible rfl
                            rotate_left
                            · simp only [Act.put, List.setIfInBounds_toArray, List.set_cons_zero, List.set_cons_succ, i64_w, i32_w]
                              rfl
                            refine pure_ (i := 20) (N := some 68) (v := ?_) (a' := ?_) #[true, true, true, true, true, true, true, true, true, true, true, true, true, true, true, true, true, true, true, true, true, false] rfl rfl (any_of HT_.out (by kernel_rfl)) (fun _ _ _ h => h) (Or.inl ⟨by rfl, ?_⟩) ?_ ?_
                            rotate_left
                            · intro w'
                              go_simp
                              with_reducible rfl
                            rotate_left
                            · simp only [Act.put, List.setIfInBounds_toArray, List.set_cons_zero, List.set_cons_succ, i64_w, i32_w]
                              rfl
                            refine pure_ (i := 21) (N := some 7) (v := ?_) (a' := ?_) #[true, true, true, true, true, true, true, true, true, true, true, true, true, true, true, true, true, true, true, true, true, true] rfl rfl (any_of HT_.out (by kernel_rfl)) (fun _ _ _ h => h) (Or.inl ⟨by rfl, ?_⟩) ?_ ?_
                            rotate_left
                            · intro w'
                              go_simp
                              with_reducible rfl
                            rotate_left
                            · simp only [Act.put, List.setIfInBounds_toArray, List.set_cons_zero, List.set_cons_succ, i64_w, i32_w]
                              rfl
                            refine done_ (done_of HT_.out (by kernel_rfl)) ?_
                            have p256 : 0 ≤ (x10_3 : Int) := of_decide_eq_true (by first | (with_reducible assumption) | assumption)
                            have q256 : x10_3 < (l0.length : Int) := of_decide_eq_true (by first | (with_reducible assumption) | assumption)
                            obtain ⟨ad256, e256, hx256_0, hx256_1⟩ := at_T23 HR0.out x10_3 p256 q256
                            obtain rfl : ad252 = ad256 := (by injection e256)
                            replace hx256_0 := (HB.out.cell (World.block_lt_of_cell? w _ hx256_0)).trans hx256_0
                            replace hx256_1 := (HB.out.cell (World.block_lt_of_cell? w _ hx256_1)).trans hx256_1
                            replace p256 := eq_true p256
                            replace q256 := eq_true q256
                            have p257 : 0 ≤ (x10_3 : Int) := of_decide_eq_true (by first | (with_reducible assumption) | assumption)
                            have q257 : x10_3 < (l0.length : Int) := of_decide_eq_true (by first | (with_reducible assumption) | assumption)
                            obtain ⟨ad257, e257, hx257_0, hx257_1⟩ := at_T23 HR0.out x10_3 p257 q257
                            obtain rfl : ad252 = ad257 := (by injection e257)
                            replace hx257_0 := (HB.out.cell (World.block_lt_of_cell? w _ hx257_0)).trans hx257_0
                            replace hx257_1 := (HB.out.cell (World.block_lt_of_cell? w _ hx257_1)).trans hx257_1
                            replace p257 := eq_true p257
                            replace q257 := eq_true q257
                            try go_wp2
                            go_roundg k3
                            case measure => have := HJ4.out; have := HJ9.out; have := HK3.out; omega
                            case rel => exact ⟨(wrap64 (x7_3 + (wrap64 (((rd_T23 l0 x10_3).f0) + (wrap64 (Int.tmod (IntKind.u64.wrap (rd l1 x10_3)) (IntKind.u64.wrap (t255)))))))), (wrap64 (x8_3 + ((rd_T23 l0 x10_3).f0))), (wrap64 (x9_3 + ((rd_T23 l0 x10_3).f1))), (wrap64 (x10_3 + 1)), (by first | rfl | (simp; done) | (simp [*]; done)), (by first | rfl | (simp; done) | (simp [*]; done)), (by first | rfl | (simp; done) | (simp [*]; done)), (by first | rfl | (simp; done) | (simp [*]; done)), H', ⟨by have := HJ4.out; have := HJ9.out; have := HK3.out; omega⟩, ⟨by (with_reducible repeat (first | refine blk_drewN ?_ _ | refine blk_drew ?_ | refine blk_alloc ?_ _)); exact BK250.out⟩, ⟨by repeat (first | (with_reducible first | exact HB.out | apply below_alloc | apply pw_below_drewN | apply below_drew1 | refine below_set ?_ GE250.out) | exact HB.out)⟩⟩
                        · rw [if_neg c23] at H
                          exact absurd H (by simp)
                      · rw [if_neg c22] at H
                        exact absurd H (by simp)
                    · rw [if_neg c21] at H
                      have c21b0 : decide (x10_3 < (l0.length : Int)) = false := decide_eq_false c21
                      clear c21
                      have HC28 := Aside0.mk H
                      clear H
                      go_upto_region 17 with (fail)
                      go_cut [4] (fun v4 wc => ∃ (kq : Nat) (x4_27 : Bool), v4 = .bool x4_27 ∧ Aside0 (gangsawlaw01_SpanSound.j3 kq x4_27 = some r) ∧ Aside0 (kq ≤ k3) ∧ Aside0 (wc.heap[gb250]? = some (.cells #[.int .i64 t247, .int .i64 t248] 23 (0, 0))) ∧ Aside0 (Below w.heap.size w wc))
                      case first =>
                        have H := HC28.out
                        clear HC28
                        replace H := Option.bind_eq_some_iff.mp H
                        obtain ⟨t258, A290, H⟩ := H
                        replace H : (if t258 = true then (if t247 = x8_3 then (gangsawlaw01_SpanSound.j3 k3 (t248 == x9_3)) else (gangsawlaw01_SpanSound.j3 k3 false)) else (gangsawlaw01_SpanSound.j3 k3 false)) = some r := H
                        have A29 := Aside0.mk A290
                        clear A290
                        by_cases c30 : t258 = true
                        · subst c30
                          have H1 : (if t247 = x8_3 then (gangsawlaw01_SpanSound.j3 k3 (t248 == x9_3)) else (gangsawlaw01_SpanSound.j3 k3 false)) = some r := by rw [if_pos rfl] at H; exact H
                          clear H
                          have H := H1
                          clear H1
                          by_cases c31 : t247 = x8_3
                          · rw [if_pos c31] at H
                            have c31b0 : (t247 == x8_3) = true := beq_iff_eq.mpr c31
                            have c31b1 : (t247 != x8_3) = false := bne_eq_false_iff_eq.mpr c31
                            clear c31
                            (first | rw [c31b0] | (simp only [i64_w, i32_w]; rw [c31b0]) | skip)
                            have H' := Aside0.mk H
                            clear H
                            have hcz32_0 : wr.cell? ⟨gb250, 0, none⟩ = some (.int .i64 t247) := (blk_cell BK250.out 0).trans rfl
                            have hcz32_1 : wr.cell? ⟨gb250, 1, none⟩ = some (.int .i64 t248) := (blk_cell BK250.out 1).trans rfl
                            have hfz32_0 := blk_frozen BK250.out 0
                            have hfz32_1 := blk_frozen BK250.out 1
                            go_wp2_with (first | ((with_reducible refine gate_callee (f := 13) rfl ?_); refine goesL_ (some 85) rfl rfl Try.func13 (by kernel_rfl) rfl #[.agg #[.int .i64 t247, .int .i64 t248], .int .i64 x7_3] rfl (by (try simp only [List.map_toArray, List.map_cons, List.map_nil]); first | done | rfl | (simp only [List.length_drop, List.length_take]; rfl)) ?_; (with_reducible refine (span_Contains.calls t247 t248 x7_3 true _ A29.out).mono ?_); rintro e w33 ⟨rfl, hb⟩; refine ⟨_, rfl, ?_⟩; have n0_ := Aside0.mk (blk_below (g := gb250) (o := .cells #[.int .i64 t247, .int .i64 t248] 23 (0, 0)) (by (with_reducible repeat (first | refine blk_drewN ?_ _ | refine blk_drew ?_ | refine blk_alloc ?_ _)); exact BK250.out) hb); have n1_ := Aside0.mk (below_step (by repeat (first | (with_reducible first | exact HB.out | apply below_alloc | apply pw_below_drewN | apply below_drew1 | refine below_set ?_ GE250.out) | exact HB.out)) hb); clear BK250; clear HB; have BK250 := n0_; have HB := n1_; clear n0_ n1_; (try clear hb); (try clear hb2); (try clear hk); (try clear hi); have hcz34_0 : w33.cell? ⟨gb250, 0, none⟩ = some (.int .i64 t247) := (blk_cell BK250.out 0).trans rfl; have hcz34_1 : w33.cell? ⟨gb250, 1, none⟩ = some (.int .i64 t248) := (blk_cell BK250.out 1).trans rfl; have hfz34_0 := blk_frozen BK250.out 0; have hfz34_1 := blk_frozen BK250.out 1))
                            go_meet
                            case rel => exact ⟨_, ((t248 == x9_3)), (by first | rfl | (simp; done) | (simp [*]; done)), H', ⟨by have := HJ4.out; have := HJ9.out; have := HK3.out; first | omega | exact Nat.le_refl _⟩, ⟨by (with_reducible repeat (first | refine blk_drewN ?_ _ | refine blk_drew ?_ | refine blk_alloc ?_ _)); exact BK250.out⟩, ⟨by repeat (first | (with_reducible first | exact HB.out | apply below_alloc | apply pw_below_drewN | apply below_drew1 | refine below_set ?_ GE250.out) | exact HB.out)⟩⟩
                          · rw [if_neg c31] at H
                            have c31b0 : (t247 == x8_3) = false := beq_eq_false_iff_ne.mpr c31
                            have c31b1 : (t247 != x8_3) = true := bne_iff_ne.mpr c31
                            (first | rw [c31b0] | (simp only [i64_w, i32_w]; rw [c31b0]) | skip)
                            have H' := Aside0.mk H
                            clear H
                            have hcz35_0 : wr.cell? ⟨gb250, 0, none⟩ = some (.int .i64 t247) := (blk_cell BK250.out 0).trans rfl
                            have hcz35_1 : wr.cell? ⟨gb250, 1, none⟩ = some (.int .i64 t248) := (blk_cell BK250.out 1).trans rfl
                            have hfz35_0 := blk_frozen BK250.out 0
                            have hfz35_1 := blk_frozen BK250.out 1
                            go_wp2_with (first | ((with_reducible refine gate_callee (f := 13) rfl ?_); refine goesL_ (some 85) rfl rfl Try.func13 (by kernel_rfl) rfl #[.agg #[.int .i64 t247, .int .i64 t248], .int .i64 x7_3] rfl (by (try simp only [List.map_toArray, List.map_cons, List.map_nil]); first | done | rfl | (simp only [List.length_drop, List.length_take]; rfl)) ?_; (with_reducible refine (span_Contains.calls t247 t248 x7_3 true _ A29.out).mono ?_); rintro e w36 ⟨rfl, hb⟩; refine ⟨_, rfl, ?_⟩; have n0_ := Aside0.mk (blk_below (g := gb250) (o := .cells #[.int .i64 t247, .int .i64 t248] 23 (0, 0)) (by (with_reducible repeat (first | refine blk_drewN ?_ _ | refine blk_drew ?_ | refine blk_alloc ?_ _)); exact BK250.out) hb); have n1_ := Aside0.mk (below_step (by repeat (first | (with_reducible first | exact HB.out | apply below_alloc | apply pw_below_drewN | apply below_drew1 | refine below_set ?_ GE250.out) | exact HB.out)) hb); clear BK250; clear HB; have BK250 := n0_; have HB := n1_; clear n0_ n1_; (try clear hb); (try clear hb2); (try clear hk); (try clear hi); have hcz37_0 : w36.cell? ⟨gb250, 0, none⟩ = some (.int .i64 t247) := (blk_cell BK250.out 0).trans rfl; have hcz37_1 : w36.cell? ⟨gb250, 1, none⟩ = some (.int .i64 t248) := (blk_cell BK250.out 1).trans rfl; have hfz37_0 := blk_frozen BK250.out 0; have hfz37_1 := blk_frozen BK250.out 1))
                            go_meet
                            case rel => exact ⟨_, (false), (by first | rfl | (simp; done) | (simp [*]; done)), H', ⟨by have := HJ4.out; have := HJ9.out; have := HK3.out; first | omega | exact Nat.le_refl _⟩, ⟨by (with_reducible repeat (first | refine blk_drewN ?_ _ | refine blk_drew ?_ | refine blk_alloc ?_ _)); exact BK250.out⟩, ⟨by repeat (first | (with_reducible first | exact HB.out | apply below_alloc | apply pw_below_drewN | apply below_drew1 | refine below_set ?_ GE250.out) | exact HB.out)⟩⟩
                        · replace c30 := Bool.eq_false_iff.mpr c30
                          subst c30
                          have H1 : (gangsawlaw01_SpanSound.j3 k3 false) = some r := by rw [if_neg (show ¬ (false = true) by decide)] at H; exact H
                          clear H
                          have H := H1
                          clear H1
                          have H' := Aside0.mk H
                          clear H
                          have hcz38_0 : wr.cell? ⟨gb250, 0, none⟩ = some (.int .i64 t247) := (blk_cell BK250.out 0).trans rfl
                          have hcz38_1 : wr.cell? ⟨gb250, 1, none⟩ = some (.int .i64 t248) := (blk_cell BK250.out 1).trans rfl
                          have hfz38_0 := blk_frozen BK250.out 0
                          have hfz38_1 := blk_frozen BK250.out 1
                          go_wp2_with (first | ((with_reducible refine gate_callee (f := 13) rfl ?_); refine goesL_ (some 85) rfl rfl Try.func13 (by kernel_rfl) rfl #[.agg #[.int .i64 t247, .int .i64 t248], .int .i64 x7_3] rfl (by (try simp only [List.map_toArray, List.map_cons, List.map_nil]); first | done | rfl | (simp only [List.length_drop, List.length_take]; rfl)) ?_; (with_reducible refine (span_Contains.calls t247 t248 x7_3 false _ A29.out).mono ?_); rintro e w39 ⟨rfl, hb⟩; refine ⟨_, rfl, ?_⟩; have n0_ := Aside0.mk (blk_below (g := gb250) (o := .cells #[.int .i64 t247, .int .i64 t248] 23 (0, 0)) (by (with_reducible repeat (first | refine blk_drewN ?_ _ | refine blk_drew ?_ | refine blk_alloc ?_ _)); exact BK250.out) hb); have n1_ := Aside0.mk (below_step (by repeat (first | (with_reducible first | exact HB.out | apply below_alloc | apply pw_below_drewN | apply below_drew1 | refine below_set ?_ GE250.out) | exact HB.out)) hb); clear BK250; clear HB; have BK250 := n0_; have HB := n1_; clear n0_ n1_; (try clear hb); (try clear hb2); (try clear hk); (try clear hi)))
                          go_meet
                          case rel => exact ⟨_, (false), (by first | rfl | (simp; done) | (simp [*]; done)), H', ⟨by have := HJ4.out; have := HJ9.out; have := HK3.out; first | omega | exact Nat.le_refl _⟩, ⟨by (with_reducible repeat (first | refine blk_drewN ?_ _ | refine blk_drew ?_ | refine blk_alloc ?_ _)); exact BK250.out⟩, ⟨by repeat (first | (with_reducible first | exact HB.out | apply below_alloc | apply pw_below_drewN | apply below_drew1 | refine below_set ?_ GE250.out) | exact HB.out)⟩⟩
                      case rest =>
                        clear HC28
                        try clear c1
                        try clear c2
                        try clear p2
                        try clear q2
                        try clear hx2
                        try clear c3
                        try clear c4
                        try clear c5
                        try clear p6
                        try clear c7
                        try clear c7b0
                        try clear c7b1
                        try clear c8
                        try clear c10
                        try clear c13
                        try clear c14
                        try clear c14b0
                        try clear c14b1
                        try clear c17
                        try clear c18
                        try clear c18b0
                        try clear c18b1
                        try clear c18b2
                        try clear c19
                        try clear c21
                        try clear c21b0
                        try clear c22
                        try clear c22b0
                        try clear c23
                        try clear c23b0
                        try clear c25
                        try clear c25b0
                        try clear c25b1
                        try clear p25
                        try clear q25
                        try clear hx25
                        try clear c30
                        try clear c31
                        try clear c31b0
                        try clear c31b1
                        try clear hcz13_0
                        try clear hcz13_1
                        try clear hcz19_0
                        try clear hcz19_1
                        try clear hcz20_0
                        try clear hcz20_1
                        try clear hcz32_0
                        try clear hcz32_1
                        try clear hcz34_0
                        try clear hcz34_1
                        try clear hcz35_0
                        try clear hcz35_1
                        try clear hcz37_0
                        try clear hcz37_1
                        try clear hcz38_0
                        try clear hcz38_1
                        try clear hfz13_0
                        try clear hfz13_1
                        try clear hfz19_0
                        try clear hfz19_1
                        try clear hfz20_0
                        try clear hfz20_1
                        try clear hfz32_0
                        try clear hfz32_1
                        try clear hfz34_0
                        try clear hfz34_1
                        try clear hfz35_0
                        try clear hfz35_1
                        try clear hfz37_0
                        try clear hfz37_1
                        try clear hfz38_0
                        try clear hfz38_1
                        try clear hx252_0
                        try clear hx252_1
                        try clear hx253_0
                        try clear hx254_0
                        try clear hx254_1
                        try clear hx256_0
                        try clear hx256_1
                        try clear hx257_0
                        try clear hx257_1
                        try clear p2
                        try clear p252
                        try clear p253
                        try clear p254
                        try clear p256
                        try clear p257
                        try clear q252
                        try clear q253
                        try clear q254
                        try clear q256
                        try clear q257
                        obtain ⟨kq, x4_27, rfl, HA, HJ27, BK250, HB⟩ := hcut
                        cases kq with
                        | zero => exact absurd HA.out (by simp [gangsawlaw01_SpanSound.j3])
                        | succ kj27 =>
                          have H := HA.out
                          clear HA
                          simp only [gangsawlaw01_SpanSound.j3] at H
                          obtain rfl := Option.some.inj H
                          go_wp2
                          go_ret
                          exact ⟨by first | rfl | (simp [errW_none, errW_some] <;> rfl) | (simp [*, errW_none, errW_some] <;> rfl), by repeat (first | (with_reducible first | exact HB.out | apply below_alloc | apply pw_below_drewN | apply below_drew1 | refine below_set ?_ GE250.out) | exact HB.out)⟩
  · replace c4 := Bool.eq_false_iff.mpr c4
    subst c4
    have H1 : (some false) = some r := by rw [if_neg (show ¬ (false = true) by decide)] at H; exact H
    clear H
    have H := H1
    clear H1
    obtain rfl := Option.some.inj H
    go_enter Try.func5, Try.ntmps5
    go_wp2_with (first | ((with_reducible refine gate_callee (f := 10) rfl ?_); refine goesL_ (some 11) rfl rfl Try.func10 (by kernel_rfl) rfl #[] rfl (by (try simp only [List.map_toArray, List.map_cons, List.map_nil]); first | done | rfl | (simp only [List.length_drop, List.length_take]; rfl)) ?_; (with_reducible refine (gangsawlaw01_awake.calls k  false _ A3.out).mono ?_); rintro e w40 ⟨rfl, hb⟩; refine ⟨_, rfl, ?_⟩; have n0_ := Aside0.mk (below_step (by repeat (first | (with_reducible first | exact HB.out | apply below_alloc | apply pw_below_drewN | apply below_drew1) | exact HB.out)) hb); clear HB; have HB := n0_; clear n0_; (try clear hb); (try clear hb2); (try clear hk); (try clear hi)))
    go_ret
    exact ⟨by first | rfl | (simp [errW_none, errW_some] <;> rfl) | (simp [*, errW_none, errW_some] <;> rfl), by repeat (first | (with_reducible first | exact HB.out | apply below_alloc | apply pw_below_drewN | apply below_drew1) | exact HB.out)⟩

/-- THE ONE PURE STATEMENT of gangsawlaw01_SpanSound. -/
def gangsawlaw01_SpanSound.Pure : Prop := ∀ (l0 : List (S23)) (l1 : List Int), (l0.length ≤ maxLen ∧ ∀ e2_, e2_ ∈ l0 → okS23 e2_) → (l1.length ≤ maxLen ∧ ∀ e3_, e3_ ∈ l1 → (Lit.int .i64 e3_).wf = true) → ∃ k, gangsawlaw01_SpanSound.f k l0 l1 = some true
theorem gangsawlaw01_SpanSound.walk (P_ : gangsawlaw01_SpanSound.Pure) (A0 : Option Addr) (c0 : Nat) (l0 : List (S23)) (A1 : Option Addr) (c1 : Nat) (l1 : List Int) (w : World) (hr0 : Kd.C k23 w A0 l0.length l0) (hc0 : l0.length ≤ c0) (hr1 : Kd.C (Kd.int .i64) w A1 l1.length l1) (hc1 : l1.length ≤ c1) (o0 : (l0.length ≤ maxLen ∧ ∀ e2_, e2_ ∈ l0 → okS23 e2_)) (o1 : (l1.length ≤ maxLen ∧ ∀ e3_, e3_ ∈ l1 → (Lit.int .i64 e3_).wf = true)) :
    Calls Try.prog 5 #[.slice A0 l0.length c0, .slice A1 l1.length c1] w fun e w' => e = .returned (.bool true) ∧ Below w.heap.size w w' := by
  obtain ⟨k, h⟩ := P_ l0 l1 o0 o1
  refine (gangsawlaw01_SpanSound.calls k A0 c0 l0 A1 c1 l1 true w hr0 hc0 hr1 hc1 h).mono ?_
  rintro e w' ⟨rfl, hd⟩
  exact ⟨rfl, hd⟩

end Go.Proofs.Ytedhcdganddiiaa.QA
