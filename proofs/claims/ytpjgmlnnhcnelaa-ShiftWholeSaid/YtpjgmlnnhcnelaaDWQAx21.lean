import Derived.Test.YtpjgmlnnhcnelaaDWQAx0
import Derived.Test.YtpjgmlnnhcnelaaDWQAx2
import Derived.Test.YtpjgmlnnhcnelaaDWQAx5
import Derived.Test.YtpjgmlnnhcnelaaDWQAx8
-- Written by a program of this session (wip/tools) out of the translation; Lean checks it.
namespace Go.Proofs.Ytpjgmlnnhcnelaa.QA
open Go.RowKit Go.Proofs.YtpjgmlnnhcnelaaW.PrintWords Go.Proofs.YtpjgmlnnhcnelaaW.PrintLast Go.Proofs.YtpjgmlnnhcnelaaW.PrintMore
attribute [local go_sem] max2_int min2_int max_two min_two max_three min_three max_four min_four
set_option linter.unusedVariables false
set_option linter.unusedSimpArgs false

mutual
def gangsawlaw12_ShiftWhole.j0 : Nat → Int → Int → Bool → List (S54) → List Int → Option (Bool)
  | 0, _, _, _, _, _ => none
  | k + 1, x1, x2, x24, x388000, x388001 => if x24 = true then ((gangsawlaw12_awake.f k).bind fun t389 => (some t389)) else ((gangsawlaw12_ours.f x388000 x388001).bind fun bt390 => ((shift_Whole.f k bt390.1 bt390.2 x1 x2).bind fun bt396 => (if bt396.2 = 0 then (gangsawlaw12_ShiftWhole.j1 k x1 x2 bt396.1 (decide ((wrap64 (bt396.1 - x1)) > 100000)) x388000 x388001) else (gangsawlaw12_ShiftWhole.j1 k x1 x2 bt396.1 true x388000 x388001))))
def gangsawlaw12_ShiftWhole.j1 : Nat → Int → Int → Int → Bool → List (S54) → List Int → Option (Bool)
  | 0, _, _, _, _, _, _ => none
  | k + 1, x1, x2, x7, x41, x388000, x388001 => if x41 = true then ((gangsawlaw12_awake.f k).bind fun t398 => (some t398)) else ((gangsawlaw12_ours.f x388000 x388001).bind fun bt399 => ((shift_Work.f k bt399.1 bt399.2 x7 (wrap64 (x7 + x2))).bind fun bt405 => ((gangsawlaw12_ours.f x388000 x388001).bind fun bt407 => ((shift_Open.f k bt407.1 bt407.2 x7).bind fun bt413 => (if bt405.2 = 0 then (if bt413.2 = 0 then (if x7 < x1 then (gangsawlaw12_ShiftWhole.j2 k x1 x2 x7 true x388000 x388001) else (if bt405.1 = x2 then (gangsawlaw12_ShiftWhole.j2 k x1 x2 x7 (!bt413.1) x388000 x388001) else (gangsawlaw12_ShiftWhole.j2 k x1 x2 x7 true x388000 x388001))) else (gangsawlaw12_ShiftWhole.j2 k x1 x2 x7 true x388000 x388001)) else (gangsawlaw12_ShiftWhole.j2 k x1 x2 x7 true x388000 x388001))))))
def gangsawlaw12_ShiftWhole.j2 : Nat → Int → Int → Int → Bool → List (S54) → List Int → Option (Bool)
  | 0, _, _, _, _, _, _ => none
  | k + 1, x1, x2, x7, x79, x388000, x388001 => if x79 = true then (some false) else (gangsawlaw12_ShiftWhole.l0 k x2 x7 (mx x1 (wrap64 (x7 - 1500))) x388000 x388001)
def gangsawlaw12_ShiftWhole.l0 : Nat → Int → Int → Int → List (S54) → List Int → Option (Bool)
  | 0, _, _, _, _, _ => none
  | k + 1, x2, x7, x13, x388000, x388001 => if x13 < x7 then ((gangsawlaw12_ours.f x388000 x388001).bind fun bt415 => ((shift_Work.f k bt415.1 bt415.2 x13 (mn 14400000 (wrap64 (x13 + x2)))).bind fun bt421 => ((gangsawlaw12_ours.f x388000 x388001).bind fun bt423 => ((shift_Open.f k bt423.1 bt423.2 x13).bind fun bt429 => (if bt421.2 = 0 then (if bt429.2 = 0 then (if bt421.1 = x2 then (gangsawlaw12_ShiftWhole.j4 k x2 x7 x13 bt429.1 x388000 x388001) else (gangsawlaw12_ShiftWhole.j4 k x2 x7 x13 false x388000 x388001)) else (gangsawlaw12_ShiftWhole.j4 k x2 x7 x13 true x388000 x388001)) else (gangsawlaw12_ShiftWhole.j4 k x2 x7 x13 true x388000 x388001)))))) else ((gangsawlaw12_awake.f k).bind fun t431 => (some t431))
def gangsawlaw12_ShiftWhole.j4 : Nat → Int → Int → Int → Bool → List (S54) → List Int → Option (Bool)
  | 0, _, _, _, _, _, _ => none
  | k + 1, x2, x7, x13, x120, x388000, x388001 => if x120 = true then (some false) else (gangsawlaw12_ShiftWhole.l0 k x2 x7 (wrap64 (x13 + 1)) x388000 x388001)
end
def gangsawlaw12_ShiftWhole.f (k : Nat) (l0_0 : List (S54)) (l0_1 : List Int) (a1 : Int) (a2 : Int) : Option (Bool) := (gangsawlaw12_few.f l0_0 l0_1).bind fun t388 => (if t388 = true then (gangsawlaw12_ShiftWhole.j0 k a1 a2 (decide (a2 > 2000)) l0_0 l0_1) else (gangsawlaw12_ShiftWhole.j0 k a1 a2 true l0_0 l0_1))
set_option maxHeartbeats 8000000 in
set_option maxRecDepth 100000 in
theorem gangsawlaw12_ShiftWhole.calls (k : Nat) (A0_0 : Option Addr) (c0_0 : Nat) (l0_0 : List (S54)) (A0_1 : Option Addr) (c0_1 : Nat) (l0_1 : List Int) (a1 : Int) (a2 : Int) (r : Bool) (w : World) (hr0_0 : Kd.C k54 w A0_0 l0_0.length l0_0) (hc0_0 : l0_0.length ≤ c0_0) (hr0_1 : Kd.C (Kd.int .i64) w A0_1 l0_1.length l0_1) (hc0_1 : l0_1.length ≤ c0_1) (h : gangsawlaw12_ShiftWhole.f k l0_0 l0_1 a1 a2 = some r) :
    Calls Try.prog 8 #[.agg #[.slice A0_0 l0_0.length c0_0, .slice A0_1 l0_1.length c0_1], .int .i64 a1, .int .i64 a2] w fun e w' => e = .returned (.bool r) ∧ Below w.heap.size w w' := by
  have hu25 := Try.underlying25
  have HR0_0 := Aside0.mk hr0_0
  have HC0_0 := Aside0.mk hc0_0
  clear hr0_0 hc0_0
  have HR0_1 := Aside0.mk hr0_1
  have HC0_1 := Aside0.mk hc0_1
  clear hr0_1 hc0_1
  have HB := Aside0.mk (Below.refl w.heap.size w)
  have H : ((gangsawlaw12_few.f l0_0 l0_1).bind fun t388 => (if t388 = true then (gangsawlaw12_ShiftWhole.j0 k a1 a2 (decide (a2 > 2000)) l0_0 l0_1) else (gangsawlaw12_ShiftWhole.j0 k a1 a2 true l0_0 l0_1))) = some r := h
  clear h
  have HC4 := Aside0.mk H
  clear H
  go_enter Try.func8, Try.ntmps8
  go_upto_region 1 with (first | ((with_reducible refine gate_dst (N := 3) rfl ?_); refine box_event ?hg (N := 3) ?hd (cs := #[.slice A0_0 l0_0.length c0_0, .slice A0_1 l0_1.length c0_1]) (t := 25) ?hr ?_; (case hd => rfl); (case hg => rfl); (case hr => first | (go_simp; done) | (go_simp; rfl)); intro gb387 hg w5 hbox hb; have n0_ := Aside0.mk (below_step (by repeat (first | (with_reducible first | exact HB.out | apply below_alloc | apply pw_below_drewN | apply below_drew1) | exact HB.out)) hb); have n1_ := Aside0.mk (hbox); have n2_ := Aside0.mk ((by rw [hg]; exact (below_size (by repeat (first | (with_reducible first | exact HB.out | apply below_alloc | apply pw_below_drewN | apply below_drew1) | exact HB.out))) : w.heap.size ≤ gb387)); have n3_ := Aside0.mk ((by rw [hg]; exact (below_size (by repeat (first | (with_reducible first | exact HB.out | apply below_alloc | apply pw_below_drewN | apply below_drew1) | exact HB.out))) : w.heap.size ≤ gb387)); clear HB; have HB := n0_; have BK387 := n1_; have GW387 := n2_; have GE387 := n3_; clear n0_ n1_ n2_ n3_; clear hb hbox hg))
  (try simp only [Act.put, List.setIfInBounds_toArray, List.set_cons_zero, List.set_cons_succ])
  go_cut [24] (fun v24 wc => ∃ (kq : Nat) (x24_3 : Bool), v24 = .bool x24_3 ∧ Aside0 (gangsawlaw12_ShiftWhole.j0 kq a1 a2 x24_3 l0_0 l0_1 = some r) ∧ Aside0 (kq ≤ k) ∧ Aside0 (wc.heap[gb387]? = some (.cells #[(.slice A0_0 l0_0.length c0_0), (.slice A0_1 l0_1.length c0_1)] 25 (0, 0))) ∧ Aside0 (Below w.heap.size w wc))
  case first =>
    have H := HC4.out
    clear HC4
    replace H := Option.bind_eq_some_iff.mp H
    obtain ⟨t388, A60, H⟩ := H
    replace H : (if t388 = true then (gangsawlaw12_ShiftWhole.j0 k a1 a2 (decide (a2 > 2000)) l0_0 l0_1) else (gangsawlaw12_ShiftWhole.j0 k a1 a2 true l0_0 l0_1)) = some r := H
    have A6 := Aside0.mk A60
    clear A60
    by_cases c7 : t388 = true
    · subst c7
      have H1 : (gangsawlaw12_ShiftWhole.j0 k a1 a2 (decide (a2 > 2000)) l0_0 l0_1) = some r := by rw [if_pos rfl] at H; exact H
      clear H
      have H := H1
      clear H1
      have H' := Aside0.mk H
      clear H
      have hcz8_0 : w5.cell? ⟨gb387, 0, none⟩ = some (.slice A0_0 l0_0.length c0_0) := (blk_cell BK387.out 0).trans rfl
      have hcz8_1 : w5.cell? ⟨gb387, 1, none⟩ = some (.slice A0_1 l0_1.length c0_1) := (blk_cell BK387.out 1).trans rfl
      have hfz8_0 := blk_frozen BK387.out 0
      have hfz8_1 := blk_frozen BK387.out 1
      go_wp2_with (first | ((with_reducible refine gate_callee (f := 11) rfl ?_); refine goesL_ (some 19) rfl rfl Try.func11 (by kernel_rfl) rfl #[.agg #[.slice A0_0 l0_0.length c0_0, .slice A0_1 l0_1.length c0_1]] rfl (by (try simp only [List.map_toArray, List.map_cons, List.map_nil]); first | done | rfl | (simp only [List.length_drop, List.length_take]; rfl)) ?_; (with_reducible refine (gangsawlaw12_few.calls _ _ l0_0 _ _ l0_1 true _ ?side1 ?side2 ?side3 ?side4 A6.out).mono ?_); (case side1 => repeat (first | exact (Kd.C_below HR0_0.out HB.out) | (with_reducible refine Kd.C_alloc ?_ _) | (with_reducible refine Kd.C_drewN ?_ _) | (with_reducible refine Kd.C_drew ?_))); (case side2 => exact HC0_0.out); (case side3 => repeat (first | exact (Kd.C_below HR0_1.out HB.out) | (with_reducible refine Kd.C_alloc ?_ _) | (with_reducible refine Kd.C_drewN ?_ _) | (with_reducible refine Kd.C_drew ?_))); (case side4 => exact HC0_1.out); rintro e w9 ⟨rfl, hb⟩; refine ⟨_, rfl, ?_⟩; have n0_ := Aside0.mk (blk_below (g := gb387) (o := .cells #[.slice A0_0 l0_0.length c0_0, .slice A0_1 l0_1.length c0_1] 25 (0, 0)) (by (with_reducible repeat (first | refine blk_drewN ?_ _ | refine blk_drew ?_ | refine blk_alloc ?_ _)); exact BK387.out) hb); have n1_ := Aside0.mk (below_step (by repeat (first | (with_reducible first | exact HB.out | apply below_alloc | apply pw_below_drewN | apply below_drew1 | refine below_set ?_ GE387.out) | exact HB.out)) hb); clear BK387; clear HB; have BK387 := n0_; have HB := n1_; clear n0_ n1_; (try clear hb); (try clear hb2); (try clear hk); (try clear hi)))
      go_meet
      case rel => exact ⟨_, (decide (a2 > 2000)), (by first | rfl | (simp; done) | (simp [*]; done)), H', ⟨by first | omega | exact Nat.le_refl _⟩, ⟨by (with_reducible repeat (first | refine blk_drewN ?_ _ | refine blk_drew ?_ | refine blk_alloc ?_ _)); exact BK387.out⟩, ⟨by repeat (first | (with_reducible first | exact HB.out | apply below_alloc | apply pw_below_drewN | apply below_drew1 | refine below_set ?_ GE387.out) | exact HB.out)⟩⟩
    · replace c7 := Bool.eq_false_iff.mpr c7
      subst c7
      have H1 : (gangsawlaw12_ShiftWhole.j0 k a1 a2 true l0_0 l0_1) = some r := by rw [if_neg (show ¬ (false = true) by decide)] at H; exact H
      clear H
      have H := H1
      clear H1
      have H' := Aside0.mk H
      clear H
      have hcz10_0 : w5.cell? ⟨gb387, 0, none⟩ = some (.slice A0_0 l0_0.length c0_0) := (blk_cell BK387.out 0).trans rfl
      have hcz10_1 : w5.cell? ⟨gb387, 1, none⟩ = some (.slice A0_1 l0_1.length c0_1) := (blk_cell BK387.out 1).trans rfl
      have hfz10_0 := blk_frozen BK387.out 0
      have hfz10_1 := blk_frozen BK387.out 1
      go_wp2_with (first | ((with_reducible refine gate_callee (f := 11) rfl ?_); refine goesL_ (some 19) rfl rfl Try.func11 (by kernel_rfl) rfl #[.agg #[.slice A0_0 l0_0.length c0_0, .slice A0_1 l0_1.length c0_1]] rfl (by (try simp only [List.map_toArray, List.map_cons, List.map_nil]); first | done | rfl | (simp only [List.length_drop, List.length_take]; rfl)) ?_; (with_reducible refine (gangsawlaw12_few.calls _ _ l0_0 _ _ l0_1 false _ ?side1 ?side2 ?side3 ?side4 A6.out).mono ?_); (case side1 => repeat (first | exact (Kd.C_below HR0_0.out HB.out) | (with_reducible refine Kd.C_alloc ?_ _) | (with_reducible refine Kd.C_drewN ?_ _) | (with_reducible refine Kd.C_drew ?_))); (case side2 => exact HC0_0.out); (case side3 => repeat (first | exact (Kd.C_below HR0_1.out HB.out) | (with_reducible refine Kd.C_alloc ?_ _) | (with_reducible refine Kd.C_drewN ?_ _) | (with_reducible refine Kd.C_drew ?_))); (case side4 => exact HC0_1.out); rintro e w11 ⟨rfl, hb⟩; refine ⟨_, rfl, ?_⟩; have n0_ := Aside0.mk (blk_below (g := gb387) (o := .cells #[.slice A0_0 l0_0.length c0_0, .slice A0_1 l0_1.length c0_1] 25 (0, 0)) (by (with_reducible repeat (first | refine blk_drewN ?_ _ | refine blk_drew ?_ | refine blk_alloc ?_ _)); exact BK387.out) hb); have n1_ := Aside0.mk (below_step (by repeat (first | (with_reducible first | exact HB.out | apply below_alloc | apply pw_below_drewN | apply below_drew1 | refine below_set ?_ GE387.out) | exact HB.out)) hb); clear BK387; clear HB; have BK387 := n0_; have HB := n1_; clear n0_ n1_; (try clear hb); (try clear hb2); (try clear hk); (try clear hi)))
      go_meet
      case rel => exact ⟨_, (true), (by first | rfl | (simp; done) | (simp [*]; done)), H', ⟨by first | omega | exact Nat.le_refl _⟩, ⟨by (with_reducible repeat (first | refine blk_drewN ?_ _ | refine blk_drew ?_ | refine blk_alloc ?_ _)); exact BK387.out⟩, ⟨by repeat (first | (with_reducible first | exact HB.out | apply below_alloc | apply pw_below_drewN | apply below_drew1 | refine below_set ?_ GE387.out) | exact HB.out)⟩⟩
  case rest =>
    clear HC4
    try clear c1
    try clear p2
    try clear c7
    try clear c8
    try clear c11
    try clear hcz10_0
    try clear hcz10_1
    try clear hcz8_0
    try clear hcz8_1
    try clear hfz10_0
    try clear hfz10_1
    try clear hfz8_0
    try clear hfz8_1
    obtain ⟨kq, x24_3, rfl, HA, HJ3, BK387, HB⟩ := hcut
    cases kq with
    | zero => exact absurd HA.out (by simp [gangsawlaw12_ShiftWhole.j0])
    | succ kj3 =>
      have H := HA.out
      clear HA
      simp only [gangsawlaw12_ShiftWhole.j0] at H
      by_cases c12 : x24_3 = true
      · subst c12
        have H1 : ((gangsawlaw12_awake.f kj3).bind fun t389 => (some t389)) = some r := by rw [if_pos rfl] at H; exact H
        clear H
        have H := H1
        clear H1
        replace H := Option.bind_eq_some_iff.mp H
        obtain ⟨t389, A130, H⟩ := H
        replace H : (some t389) = some r := H
        have A13 := Aside0.mk A130
        clear A130
        obtain rfl := Option.some.inj H
        go_wp2_with (first | ((with_reducible refine gate_callee (f := 12) rfl ?_); refine goesL_ (some 25) rfl rfl Try.func12 (by kernel_rfl) rfl #[] rfl (by (try simp only [List.map_toArray, List.map_cons, List.map_nil]); first | done | rfl | (simp only [List.length_drop, List.length_take]; rfl)) ?_; (with_reducible refine (gangsawlaw12_awake.calls kj3  t389 _ A13.out).mono ?_); rintro e w14 ⟨rfl, hb⟩; refine ⟨_, rfl, ?_⟩; have n0_ := Aside0.mk (blk_below (g := gb387) (o := .cells #[.slice A0_0 l0_0.length c0_0, .slice A0_1 l0_1.length c0_1] 25 (0, 0)) (by (with_reducible repeat (first | refine blk_drewN ?_ _ | refine blk_drew ?_ | refine blk_alloc ?_ _)); exact BK387.out) hb); have n1_ := Aside0.mk (below_step (by repeat (first | (with_reducible first | exact HB.out | apply below_alloc | apply pw_below_drewN | apply below_drew1 | refine below_set ?_ GE387.out) | exact HB.out)) hb); clear BK387; clear HB; have BK387 := n0_; have HB := n1_; clear n0_ n1_; (try clear hb); (try clear hb2); (try clear hk); (try clear hi)))
        go_ret
        exact ⟨by first | rfl | (simp [errW_none, errW_some] <;> rfl) | (simp [*, errW_none, errW_some] <;> rfl), by repeat (first | (with_reducible first | exact HB.out | apply below_alloc | apply pw_below_drewN | apply below_drew1 | refine below_set ?_ GE387.out) | exact HB.out)⟩
      · replace c12 := Bool.eq_false_iff.mpr c12
        subst c12
        have H1 : ((gangsawlaw12_ours.f l0_0 l0_1).bind fun bt390 => ((shift_Whole.f kj3 bt390.1 bt390.2 a1 a2).bind fun bt396 => (if bt396.2 = 0 then (gangsawlaw12_ShiftWhole.j1 kj3 a1 a2 bt396.1 (decide ((wrap64 (bt396.1 - a1)) > 100000)) l0_0 l0_1) else (gangsawlaw12_ShiftWhole.j1 kj3 a1 a2 bt396.1 true l0_0 l0_1)))) = some r := by rw [if_neg (show ¬ (false = true) by decide)] at H; exact H
        clear H
        have H := H1
        clear H1
        replace H := Option.bind_eq_some_iff.mp H
        obtain ⟨⟨t390, t393⟩, A150, H⟩ := H
        replace H : ((shift_Whole.f kj3 t390 t393 a1 a2).bind fun bt396 => (if bt396.2 = 0 then (gangsawlaw12_ShiftWhole.j1 kj3 a1 a2 bt396.1 (decide ((wrap64 (bt396.1 - a1)) > 100000)) l0_0 l0_1) else (gangsawlaw12_ShiftWhole.j1 kj3 a1 a2 bt396.1 true l0_0 l0_1))) = some r := H
        have A15 := Aside0.mk A150
        clear A150
        replace H := Option.bind_eq_some_iff.mp H
        obtain ⟨⟨t396, t397⟩, A160, H⟩ := H
        replace H : (if t397 = 0 then (gangsawlaw12_ShiftWhole.j1 kj3 a1 a2 t396 (decide ((wrap64 (t396 - a1)) > 100000)) l0_0 l0_1) else (gangsawlaw12_ShiftWhole.j1 kj3 a1 a2 t396 true l0_0 l0_1)) = some r := H
        have A16 := Aside0.mk A160
        clear A160
        have HC17 := Aside0.mk H
        clear H
        have hcz18_0 : wc.cell? ⟨gb387, 0, none⟩ = some (.slice A0_0 l0_0.length c0_0) := (blk_cell BK387.out 0).trans rfl
        have hcz18_1 : wc.cell? ⟨gb387, 1, none⟩ = some (.slice A0_1 l0_1.length c0_1) := (blk_cell BK387.out 1).trans rfl
        have hfz18_0 := blk_frozen BK387.out 0
        have hfz18_1 := blk_frozen BK387.out 1
        go_upto_region 4 with (first | ((with_reducible refine gate_callee (f := 14) rfl ?_); refine goesL_ (some 28) rfl rfl Try.func14 (by kernel_rfl) rfl #[.agg #[.slice A0_0 l0_0.length c0_0, .slice A0_1 l0_1.length c0_1]] rfl (by (try simp only [List.map_toArray, List.map_cons, List.map_nil]); first | done | rfl | (simp only [List.length_drop, List.length_take]; rfl)) ?_; (with_reducible refine (gangsawlaw12_ours.calls (fun k_ => k_ < w.heap.size) _ _ l0_0 (fun k_ => k_ < w.heap.size) _ _ l0_1 t390 t393 _ ?side1 ?side2 A15.out).mono ?_); (case side1 => exact Kd.V_mk HC0_0.out (Kd.F_below (Kd.C_F k54_heap HR0_0.out) (by repeat (first | (with_reducible first | exact HB.out | apply below_alloc | apply pw_below_drewN | apply below_drew1 | refine below_set ?_ GE387.out) | exact HB.out)))); (case side2 => exact Kd.V_mk HC0_1.out (Kd.F_below (Kd.C_F (Kd.heap_int .i64) HR0_1.out) (by repeat (first | (with_reducible first | exact HB.out | apply below_alloc | apply pw_below_drewN | apply below_drew1 | refine below_set ?_ GE387.out) | exact HB.out)))); rintro e w19 ⟨v391, v394, rfl, ho0, ho1, hb⟩; refine ⟨_, rfl, ?_⟩; have n0_ := Aside0.mk (Kd.V_lower (Kd.V_mono (ok' := fun k_ => k_ ≠ gb387) ho0 (fun k_ hk_ => Or.elim hk_ (fun hs_ => Or.elim hs_ (fun hs_ => fun e_ => Nat.not_le.2 hs_ (by rw [e_]; exact GW387.out)) (fun hs_ => fun e_ => Nat.not_le.2 hs_ (by rw [e_]; exact GW387.out))) (fun hn_ => (Kd.freshB (g := gb387) (o := .cells #[.slice A0_0 l0_0.length c0_0, .slice A0_1 l0_1.length c0_1] 25 (0, 0)) (by (with_reducible repeat (first | refine blk_drewN ?_ _ | refine blk_drew ?_ | refine blk_alloc ?_ _)); exact BK387.out) k_ hn_)))) (below_size (by repeat (first | (with_reducible first | exact HB.out | apply below_alloc | apply pw_below_drewN | apply below_drew1 | refine below_set ?_ GE387.out) | exact HB.out)))); have n1_ := Aside0.mk (Kd.V_lower (Kd.V_mono (ok' := fun k_ => k_ ≠ gb387) ho1 (fun k_ hk_ => Or.elim hk_ (fun hs_ => Or.elim hs_ (fun hs_ => fun e_ => Nat.not_le.2 hs_ (by rw [e_]; exact GW387.out)) (fun hs_ => fun e_ => Nat.not_le.2 hs_ (by rw [e_]; exact GW387.out))) (fun hn_ => (Kd.freshB (g := gb387) (o := .cells #[.slice A0_0 l0_0.length c0_0, .slice A0_1 l0_1.length c0_1] 25 (0, 0)) (by (with_reducible repeat (first | refine blk_drewN ?_ _ | refine blk_drew ?_ | refine blk_alloc ?_ _)); exact BK387.out) k_ hn_)))) (below_size (by repeat (first | (with_reducible first | exact HB.out | apply below_alloc | apply pw_below_drewN | apply below_drew1 | refine below_set ?_ GE387.out) | exact HB.out)))); have n2_ := Aside0.mk (blk_below (g := gb387) (o := .cells #[.slice A0_0 l0_0.length c0_0, .slice A0_1 l0_1.length c0_1] 25 (0, 0)) (by (with_reducible repeat (first | refine blk_drewN ?_ _ | refine blk_drew ?_ | refine blk_alloc ?_ _)); exact BK387.out) hb); have n3_ := Aside0.mk (below_step (by repeat (first | (with_reducible first | exact HB.out | apply below_alloc | apply pw_below_drewN | apply below_drew1 | refine below_set ?_ GE387.out) | exact HB.out)) hb); clear BK387; clear HB; have HO392 := n0_; have HO395 := n1_; have BK387 := n2_; have HB := n3_; clear n0_ n1_ n2_ n3_; (try clear hb); (try clear hb2); (try clear hk); (try clear hi); (try clear ho0); (try clear ho1); obtain ⟨Ao20, co20, eo20⟩ := Kd.V_slice HO392.out; subst eo20; obtain ⟨Ao21, co21, eo21⟩ := Kd.V_slice HO395.out; subst eo21) | ((with_reducible refine gate_callee (f := 22) rfl ?_); refine goesL_ (some 31) rfl rfl Try.func22 (by kernel_rfl) rfl #[.agg #[.slice Ao20 t390.length co20, .slice Ao21 t393.length co21], .int .i64 a1, .int .i64 a2] rfl (by (try simp only [List.map_toArray, List.map_cons, List.map_nil]); first | done | rfl | (simp only [List.length_drop, List.length_take]; rfl)) ?_; (with_reducible refine (shift_Whole.calls kj3 _ _ t390 _ _ t393 a1 a2 t396 t397 _ ?side1 ?side2 ?side3 ?side4 A16.out).mono ?_); (case side1 => repeat (first | exact (Kd.V_reads' HO392.out).2.2 | (with_reducible refine Kd.C_alloc ?_ _) | (with_reducible refine Kd.C_drewN ?_ _) | (with_reducible refine Kd.C_drew ?_))); (case side2 => exact (Kd.V_reads' HO392.out).2.1); (case side3 => repeat (first | exact (Kd.V_reads' HO395.out).2.2 | (with_reducible refine Kd.C_alloc ?_ _) | (with_reducible refine Kd.C_drewN ?_ _) | (with_reducible refine Kd.C_drew ?_))); (case side4 => exact (Kd.V_reads' HO395.out).2.1); rintro e w22 ⟨rfl, hb⟩; refine ⟨_, rfl, ?_⟩; have n0_ := Aside0.mk (Kd.V_below (by (with_reducible repeat (first | apply Kd.V_alloc | apply Kd.V_drewN | apply Kd.V_drew)); exact HO392.out) hb); have n1_ := Aside0.mk (Kd.V_below (by (with_reducible repeat (first | apply Kd.V_alloc | apply Kd.V_drewN | apply Kd.V_drew)); exact HO395.out) hb); have n2_ := Aside0.mk (blk_below (g := gb387) (o := .cells #[.slice A0_0 l0_0.length c0_0, .slice A0_1 l0_1.length c0_1] 25 (0, 0)) (by (with_reducible repeat (first | refine blk_drewN ?_ _ | refine blk_drew ?_ | refine blk_alloc ?_ _)); exact BK387.out) hb); have n3_ := Aside0.mk (below_step (by repeat (first | (with_reducible first | exact HB.out | apply below_alloc | apply pw_below_drewN | apply below_drew1 | refine below_set ?_ GE387.out) | exact HB.out)) hb); clear HO392; clear HO395; clear BK387; clear HB; have HO392 := n0_; have HO395 := n1_; have BK387 := n2_; have HB := n3_; clear n0_ n1_ n2_ n3_; (try clear hb); (try clear hb2); (try clear hk); (try clear hi)))
        (try simp only [Act.put, List.setIfInBounds_toArray, List.set_cons_zero, List.set_cons_succ])
        go_cut [41] (fun v41 wc => ∃ (kq : Nat) (x41_16 : Bool), v41 = .bool x41_16 ∧ Aside0 (gangsawlaw12_ShiftWhole.j1 kq a1 a2 t396 x41_16 l0_0 l0_1 = some r) ∧ Aside0 (kq ≤ kj3) ∧ Aside0 (wc.heap[gb387]? = some (.cells #[(.slice A0_0 l0_0.length c0_0), (.slice A0_1 l0_1.length c0_1)] 25 (0, 0))) ∧ Aside0 (Below w.heap.size w wc))
        case first =>
          have H := HC17.out
          clear HC17
          by_cases c23 : t397 = 0
          · rw [if_pos c23] at H
            have c23b0 : (t397 == 0) = true := beq_iff_eq.mpr c23
            have c23b1 : (t397 != 0) = false := bne_eq_false_iff_eq.mpr c23
            clear c23
            (first | rw [c23b0] | (simp only [i64_w, i32_w]; rw [c23b0]) | skip)
            have H' := Aside0.mk H
            clear H
            go_wp2
            go_meet
            case rel => exact ⟨_, (decide ((wrap64 (t396 - a1)) > 100000)), (by first | rfl | (simp; done) | (simp [*]; done)), H', ⟨by have := HJ3.out; first | omega | exact Nat.le_refl _⟩, ⟨by (with_reducible repeat (first | refine blk_drewN ?_ _ | refine blk_drew ?_ | refine blk_alloc ?_ _)); exact BK387.out⟩, ⟨by repeat (first | (with_reducible first | exact HB.out | apply below_alloc | apply pw_below_drewN | apply below_drew1 | refine below_set ?_ GE387.out) | exact HB.out)⟩⟩
          · rw [if_neg c23] at H
            have c23b0 : (t397 == 0) = false := beq_eq_false_iff_ne.mpr c23
            have c23b1 : (t397 != 0) = true := bne_iff_ne.mpr c23
            (first | rw [c23b0] | (simp only [i64_w, i32_w]; rw [c23b0]) | skip)
            have H' := Aside0.mk H
            clear H
            go_wp2
            go_meet
            case rel => exact ⟨_, (true), (by first | rfl | (simp; done) | (simp [*]; done)), H', ⟨by have := HJ3.out; first | omega | exact Nat.le_refl _⟩, ⟨by (with_reducible repeat (first | refine blk_drewN ?_ _ | refine blk_drew ?_ | refine blk_alloc ?_ _)); exact BK387.out⟩, ⟨by repeat (first | (with_reducible first | exact HB.out | apply below_alloc | apply pw_below_drewN | apply below_drew1 | refine below_set ?_ GE387.out) | exact HB.out)⟩⟩
        case rest =>
          clear HC17
          try clear c1
          try clear c2
          try clear p2
          try clear p6
          try clear c7
          try clear c8
          try clear c11
          try clear c12
          try clear c14
          try clear c22
          try clear c23
          try clear c23b0
          try clear c23b1
          try clear hcz10_0
          try clear hcz10_1
          try clear hcz18_0
          try clear hcz18_1
          try clear hcz8_0
          try clear hcz8_1
          try clear hfz10_0
          try clear hfz10_1
          try clear hfz18_0
          try clear hfz18_1
          try clear hfz8_0
          try clear hfz8_1
          try clear p2
          obtain ⟨kq, x41_16, rfl, HA, HJ16, BK387, HB⟩ := hcut
          cases kq with
          | zero => exact absurd HA.out (by simp [gangsawlaw12_ShiftWhole.j1])
          | succ kj16 =>
            have H := HA.out
            clear HA
            simp only [gangsawlaw12_ShiftWhole.j1] at H
            by_cases c24 : x41_16 = true
            · subst c24
              have H1 : ((gangsawlaw12_awake.f kj16).bind fun t398 => (some t398)) = some r := by rw [if_pos rfl] at H; exact H
              clear H
              have H := H1
              clear H1
              replace H := Option.bind_eq_some_iff.mp H
              obtain ⟨t398, A250, H⟩ := H
              replace H : (some t398) = some r := H
              have A25 := Aside0.mk A250
              clear A250
              obtain rfl := Option.some.inj H
              go_wp2_with (first | ((with_reducible refine gate_callee (f := 12) rfl ?_); refine goesL_ (some 42) rfl rfl Try.func12 (by kernel_rfl) rfl #[] rfl (by (try simp only [List.map_toArray, List.map_cons, List.map_nil]); first | done | rfl | (simp only [List.length_drop, List.length_take]; rfl)) ?_; (with_reducible refine (gangsawlaw12_awake.calls kj16  t398 _ A25.out).mono ?_); rintro e w26 ⟨rfl, hb⟩; refine ⟨_, rfl, ?_⟩; have n0_ := Aside0.mk (blk_below (g := gb387) (o := .cells #[.slice A0_0 l0_0.length c0_0, .slice A0_1 l0_1.length c0_1] 25 (0, 0)) (by (with_reducible repeat (first | refine blk_drewN ?_ _ | refine blk_drew ?_ | refine blk_alloc ?_ _)); exact BK387.out) hb); have n1_ := Aside0.mk (below_step (by repeat (first | (with_reducible first | exact HB.out | apply below_alloc | apply pw_below_drewN | apply below_drew1 | refine below_set ?_ GE387.out) | exact HB.out)) hb); clear BK387; clear HB; have BK387 := n0_; have HB := n1_; clear n0_ n1_; (try clear hb); (try clear hb2); (try clear hk); (try clear hi)))
              go_ret
              exact ⟨by first | rfl | (simp [errW_none, errW_some] <;> rfl) | (simp [*, errW_none, errW_some] <;> rfl), by repeat (first | (with_reducible first | exact HB.out | apply below_alloc | apply pw_below_drewN | apply below_drew1 | refine below_set ?_ GE387.out) | exact HB.out)⟩
            · replace c24 := Bool.eq_false_iff.mpr c24
              subst c24
              have H1 : ((gangsawlaw12_ours.f l0_0 l0_1).bind fun bt399 => ((shift_Work.f kj16 bt399.1 bt399.2 t396 (wrap64 (t396 + a2))).bind fun bt405 => ((gangsawlaw12_ours.f l0_0 l0_1).bind fun bt407 => ((shift_Open.f kj16 bt407.1 bt407.2 t396).bind fun bt413 => (if bt405.2 = 0 then (if bt413.2 = 0 then (if t396 < a1 then (gangsawlaw12_ShiftWhole.j2 kj16 a1 a2 t396 true l0_0 l0_1) else (if bt405.1 = a2 then (gangsawlaw12_ShiftWhole.j2 kj16 a1 a2 t396 (!bt413.1) l0_0 l0_1) else (gangsawlaw12_ShiftWhole.j2 kj16 a1 a2 t396 true l0_0 l0_1))) else (gangsawlaw12_ShiftWhole.j2 kj16 a1 a2 t396 true l0_0 l0_1)) else (gangsawlaw12_ShiftWhole.j2 kj16 a1 a2 t396 true l0_0 l0_1)))))) = some r := by rw [if_neg (show ¬ (false = true) by decide)] at H; exact H
              clear H
              have H := H1
              clear H1
              replace H := Option.bind_eq_some_iff.mp H
              obtain ⟨⟨t399, t402⟩, A270, H⟩ := H
              replace H : ((shift_Work.f kj16 t399 t402 t396 (wrap64 (t396 + a2))).bind fun bt405 => ((gangsawlaw12_ours.f l0_0 l0_1).bind fun bt407 => ((shift_Open.f kj16 bt407.1 bt407.2 t396).bind fun bt413 => (if bt405.2 = 0 then (if bt413.2 = 0 then (if t396 < a1 then (gangsawlaw12_ShiftWhole.j2 kj16 a1 a2 t396 true l0_0 l0_1) else (if bt405.1 = a2 then (gangsawlaw12_ShiftWhole.j2 kj16 a1 a2 t396 (!bt413.1) l0_0 l0_1) else (gangsawlaw12_ShiftWhole.j2 kj16 a1 a2 t396 true l0_0 l0_1))) else (gangsawlaw12_ShiftWhole.j2 kj16 a1 a2 t396 true l0_0 l0_1)) else (gangsawlaw12_ShiftWhole.j2 kj16 a1 a2 t396 true l0_0 l0_1))))) = some r := H
              have A27 := Aside0.mk A270
              clear A270
              replace H := Option.bind_eq_some_iff.mp H
              obtain ⟨⟨t405, t406⟩, A280, H⟩ := H
              replace H : ((gangsawlaw12_ours.f l0_0 l0_1).bind fun bt407 => ((shift_Open.f kj16 bt407.1 bt407.2 t396).bind fun bt413 => (if t406 = 0 then (if bt413.2 = 0 then (if t396 < a1 then (gangsawlaw12_ShiftWhole.j2 kj16 a1 a2 t396 true l0_0 l0_1) else (if t405 = a2 then (gangsawlaw12_ShiftWhole.j2 kj16 a1 a2 t396 (!bt413.1) l0_0 l0_1) else (gangsawlaw12_ShiftWhole.j2 kj16 a1 a2 t396 true l0_0 l0_1))) else (gangsawlaw12_ShiftWhole.j2 kj16 a1 a2 t396 true l0_0 l0_1)) else (gangsawlaw12_ShiftWhole.j2 kj16 a1 a2 t396 true l0_0 l0_1)))) = some r := H
              have A28 := Aside0.mk A280
              clear A280
              replace H := Option.bind_eq_some_iff.mp H
              obtain ⟨⟨t407, t410⟩, A290, H⟩ := H
              replace H : ((shift_Open.f kj16 t407 t410 t396).bind fun bt413 => (if t406 = 0 then (if bt413.2 = 0 then (if t396 < a1 then (gangsawlaw12_ShiftWhole.j2 kj16 a1 a2 t396 true l0_0 l0_1) else (if t405 = a2 then (gangsawlaw12_ShiftWhole.j2 kj16 a1 a2 t396 (!bt413.1) l0_0 l0_1) else (gangsawlaw12_ShiftWhole.j2 kj16 a1 a2 t396 true l0_0 l0_1))) else (gangsawlaw12_ShiftWhole.j2 kj16 a1 a2 t396 true l0_0 l0_1)) else (gangsawlaw12_ShiftWhole.j2 kj16 a1 a2 t396 true l0_0 l0_1))) = some r := H
              have A29 := Aside0.mk A290
              clear A290
              replace H := Option.bind_eq_some_iff.mp H
              obtain ⟨⟨t413, t414⟩, A300, H⟩ := H
              replace H : (if t406 = 0 then (if t414 = 0 then (if t396 < a1 then (gangsawlaw12_ShiftWhole.j2 kj16 a1 a2 t396 true l0_0 l0_1) else (if t405 = a2 then (gangsawlaw12_ShiftWhole.j2 kj16 a1 a2 t396 (!t413) l0_0 l0_1) else (gangsawlaw12_ShiftWhole.j2 kj16 a1 a2 t396 true l0_0 l0_1))) else (gangsawlaw12_ShiftWhole.j2 kj16 a1 a2 t396 true l0_0 l0_1)) else (gangsawlaw12_ShiftWhole.j2 kj16 a1 a2 t396 true l0_0 l0_1)) = some r := H
              have A30 := Aside0.mk A300
              clear A300
              have HC31 := Aside0.mk H
              clear H
              have hcz32_0 : wc.cell? ⟨gb387, 0, none⟩ = some (.slice A0_0 l0_0.length c0_0) := (blk_cell BK387.out 0).trans rfl
              have hcz32_1 : wc.cell? ⟨gb387, 1, none⟩ = some (.slice A0_1 l0_1.length c0_1) := (blk_cell BK387.out 1).trans rfl
              have hfz32_0 := blk_frozen BK387.out 0
              have hfz32_1 := blk_frozen BK387.out 1
              go_upto_region 8 with (first | ((with_reducible refine gate_callee (f := 14) rfl ?_); refine goesL_ (some 45) rfl rfl Try.func14 (by kernel_rfl) rfl #[.agg #[.slice A0_0 l0_0.length c0_0, .slice A0_1 l0_1.length c0_1]] rfl (by (try simp only [List.map_toArray, List.map_cons, List.map_nil]); first | done | rfl | (simp only [List.length_drop, List.length_take]; rfl)) ?_; (with_reducible refine (gangsawlaw12_ours.calls (fun k_ => k_ < w.heap.size) _ _ l0_0 (fun k_ => k_ < w.heap.size) _ _ l0_1 t399 t402 _ ?side1 ?side2 A27.out).mono ?_); (case side1 => exact Kd.V_mk HC0_0.out (Kd.F_below (Kd.C_F k54_heap HR0_0.out) (by repeat (first | (with_reducible first | exact HB.out | apply below_alloc | apply pw_below_drewN | apply below_drew1 | refine below_set ?_ GE387.out) | exact HB.out)))); (case side2 => exact Kd.V_mk HC0_1.out (Kd.F_below (Kd.C_F (Kd.heap_int .i64) HR0_1.out) (by repeat (first | (with_reducible first | exact HB.out | apply below_alloc | apply pw_below_drewN | apply below_drew1 | refine below_set ?_ GE387.out) | exact HB.out)))); rintro e w33 ⟨v400, v403, rfl, ho0, ho1, hb⟩; refine ⟨_, rfl, ?_⟩; have n0_ := Aside0.mk (Kd.V_lower (Kd.V_mono (ok' := fun k_ => k_ ≠ gb387) ho0 (fun k_ hk_ => Or.elim hk_ (fun hs_ => Or.elim hs_ (fun hs_ => fun e_ => Nat.not_le.2 hs_ (by rw [e_]; exact GW387.out)) (fun hs_ => fun e_ => Nat.not_le.2 hs_ (by rw [e_]; exact GW387.out))) (fun hn_ => (Kd.freshB (g := gb387) (o := .cells #[.slice A0_0 l0_0.length c0_0, .slice A0_1 l0_1.length c0_1] 25 (0, 0)) (by (with_reducible repeat (first | refine blk_drewN ?_ _ | refine blk_drew ?_ | refine blk_alloc ?_ _)); exact BK387.out) k_ hn_)))) (below_size (by repeat (first | (with_reducible first | exact HB.out | apply below_alloc | apply pw_below_drewN | apply below_drew1 | refine below_set ?_ GE387.out) | exact HB.out)))); have n1_ := Aside0.mk (Kd.V_lower (Kd.V_mono (ok' := fun k_ => k_ ≠ gb387) ho1 (fun k_ hk_ => Or.elim hk_ (fun hs_ => Or.elim hs_ (fun hs_ => fun e_ => Nat.not_le.2 hs_ (by rw [e_]; exact GW387.out)) (fun hs_ => fun e_ => Nat.not_le.2 hs_ (by rw [e_]; exact GW387.out))) (fun hn_ => (Kd.freshB (g := gb387) (o := .cells #[.slice A0_0 l0_0.length c0_0, .slice A0_1 l0_1.length c0_1] 25 (0, 0)) (by (with_reducible repeat (first | refine blk_drewN ?_ _ | refine blk_drew ?_ | refine blk_alloc ?_ _)); exact BK387.out) k_ hn_)))) (below_size (by repeat (first | (with_reducible first | exact HB.out | apply below_alloc | apply pw_below_drewN | apply below_drew1 | refine below_set ?_ GE387.out) | exact HB.out)))); have n2_ := Aside0.mk (blk_below (g := gb387) (o := .cells #[.slice A0_0 l0_0.length c0_0, .slice A0_1 l0_1.length c0_1] 25 (0, 0)) (by (with_reducible repeat (first | refine blk_drewN ?_ _ | refine blk_drew ?_ | refine blk_alloc ?_ _)); exact BK387.out) hb); have n3_ := Aside0.mk (below_step (by repeat (first | (with_reducible first | exact HB.out | apply below_alloc | apply pw_below_drewN | apply below_drew1 | refine below_set ?_ GE387.out) | exact HB.out)) hb); clear BK387; clear HB; have HO401 := n0_; have HO404 := n1_; have BK387 := n2_; have HB := n3_; clear n0_ n1_ n2_ n3_; (try clear hb); (try clear hb2); (try clear hk); (try clear hi); (try clear ho0); (try clear ho1); obtain ⟨Ao34, co34, eo34⟩ := Kd.V_slice HO401.out; subst eo34; obtain ⟨Ao35, co35, eo35⟩ := Kd.V_slice HO404.out; subst eo35) | ((with_reducible refine gate_callee (f := 13) rfl ?_); refine goesL_ (some 50) rfl rfl Try.func13 (by kernel_rfl) rfl #[.agg #[.slice Ao34 t399.length co34, .slice Ao35 t402.length co35], .int .i64 t396, .int .i64 (wrap64 (t396 + a2))] rfl (by (try simp only [List.map_toArray, List.map_cons, List.map_nil]); first | done | rfl | (simp only [List.length_drop, List.length_take]; rfl)) ?_; (with_reducible refine (shift_Work.calls kj16 _ _ t399 _ _ t402 t396 (wrap64 (t396 + a2)) t405 t406 _ ?side1 ?side2 ?side3 ?side4 A28.out).mono ?_); (case side1 => repeat (first | exact (Kd.V_reads' HO401.out).2.2 | (with_reducible refine Kd.C_alloc ?_ _) | (with_reducible refine Kd.C_drewN ?_ _) | (with_reducible refine Kd.C_drew ?_))); (case side2 => exact (Kd.V_reads' HO401.out).2.1); (case side3 => repeat (first | exact (Kd.V_reads' HO404.out).2.2 | (with_reducible refine Kd.C_alloc ?_ _) | (with_reducible refine Kd.C_drewN ?_ _) | (with_reducible refine Kd.C_drew ?_))); (case side4 => exact (Kd.V_reads' HO404.out).2.1); rintro e w36 ⟨rfl, hb⟩; refine ⟨_, rfl, ?_⟩; have n0_ := Aside0.mk (Kd.V_below (by (with_reducible repeat (first | apply Kd.V_alloc | apply Kd.V_drewN | apply Kd.V_drew)); exact HO401.out) hb); have n1_ := Aside0.mk (Kd.V_below (by (with_reducible repeat (first | apply Kd.V_alloc | apply Kd.V_drewN | apply Kd.V_drew)); exact HO404.out) hb); have n2_ := Aside0.mk (blk_below (g := gb387) (o := .cells #[.slice A0_0 l0_0.length c0_0, .slice A0_1 l0_1.length c0_1] 25 (0, 0)) (by (with_reducible repeat (first | refine blk_drewN ?_ _ | refine blk_drew ?_ | refine blk_alloc ?_ _)); exact BK387.out) hb); have n3_ := Aside0.mk (below_step (by repeat (first | (with_reducible first | exact HB.out | apply below_alloc | apply pw_below_drewN | apply below_drew1 | refine below_set ?_ GE387.out) | exact HB.out)) hb); clear HO401; clear HO404; clear BK387; clear HB; have HO401 := n0_; have HO404 := n1_; have BK387 := n2_; have HB := n3_; clear n0_ n1_ n2_ n3_; (try clear hb); (try clear hb2); (try clear hk); (try clear hi); have hcz37_0 : w36.cell? ⟨gb387, 0, none⟩ = some (.slice A0_0 l0_0.length c0_0) := (blk_cell BK387.out 0).trans rfl; have hcz37_1 : w36.cell? ⟨gb387, 1, none⟩ = some (.slice A0_1 l0_1.length c0_1) := (blk_cell BK387.out 1).trans rfl; have hfz37_0 := blk_frozen BK387.out 0; have hfz37_1 := blk_frozen BK387.out 1) | ((with_reducible refine gate_callee (f := 14) rfl ?_); refine goesL_ (some 55) rfl rfl Try.func14 (by kernel_rfl) rfl #[.agg #[.slice A0_0 l0_0.length c0_0, .slice A0_1 l0_1.length c0_1]] rfl (by (try simp only [List.map_toArray, List.map_cons, List.map_nil]); first | done | rfl | (simp only [List.length_drop, List.length_take]; rfl)) ?_; (with_reducible refine (gangsawlaw12_ours.calls (fun k_ => k_ < w.heap.size) _ _ l0_0 (fun k_ => k_ < w.heap.size) _ _ l0_1 t407 t410 _ ?side1 ?side2 A29.out).mono ?_); (case side1 => exact Kd.V_mk HC0_0.out (Kd.F_below (Kd.C_F k54_heap HR0_0.out) (by repeat (first | (with_reducible first | exact HB.out | apply below_alloc | apply pw_below_drewN | apply below_drew1 | refine below_set ?_ GE387.out) | exact HB.out)))); (case side2 => exact Kd.V_mk HC0_1.out (Kd.F_below (Kd.C_F (Kd.heap_int .i64) HR0_1.out) (by repeat (first | (with_reducible first | exact HB.out | apply below_alloc | apply pw_below_drewN | apply below_drew1 | refine below_set ?_ GE387.out) | exact HB.out)))); rintro e w38 ⟨v408, v411, rfl, ho0, ho1, hb⟩; refine ⟨_, rfl, ?_⟩; have n0_ := Aside0.mk (Kd.V_below (by (with_reducible repeat (first | apply Kd.V_alloc | apply Kd.V_drewN | apply Kd.V_drew)); exact HO401.out) hb); have n1_ := Aside0.mk (Kd.V_below (by (with_reducible repeat (first | apply Kd.V_alloc | apply Kd.V_drewN | apply Kd.V_drew)); exact HO404.out) hb); have n2_ := Aside0.mk (Kd.V_lower (Kd.V_mono (ok' := fun k_ => k_ ≠ gb387) ho0 (fun k_ hk_ => Or.elim hk_ (fun hs_ => Or.elim hs_ (fun hs_ => fun e_ => Nat.not_le.2 hs_ (by rw [e_]; exact GW387.out)) (fun hs_ => fun e_ => Nat.not_le.2 hs_ (by rw [e_]; exact GW387.out))) (fun hn_ => (Kd.freshB (g := gb387) (o := .cells #[.slice A0_0 l0_0.length c0_0, .slice A0_1 l0_1.length c0_1] 25 (0, 0)) (by (with_reducible repeat (first | refine blk_drewN ?_ _ | refine blk_drew ?_ | refine blk_alloc ?_ _)); exact BK387.out) k_ hn_)))) (below_size (by repeat (first | (with_reducible first | exact HB.out | apply below_alloc | apply pw_below_drewN | apply below_drew1 | refine below_set ?_ GE387.out) | exact HB.out)))); have n3_ := Aside0.mk (Kd.V_lower (Kd.V_mono (ok' := fun k_ => k_ ≠ gb387) ho1 (fun k_ hk_ => Or.elim hk_ (fun hs_ => Or.elim hs_ (fun hs_ => fun e_ => Nat.not_le.2 hs_ (by rw [e_]; exact GW387.out)) (fun hs_ => fun e_ => Nat.not_le.2 hs_ (by rw [e_]; exact GW387.out))) (fun hn_ => (Kd.freshB (g := gb387) (o := .cells #[.slice A0_0 l0_0.length c0_0, .slice A0_1 l0_1.length c0_1] 25 (0, 0)) (by (with_reducible repeat (first | refine blk_drewN ?_ _ | refine blk_drew ?_ | refine blk_alloc ?_ _)); exact BK387.out) k_ hn_)))) (below_size (by repeat (first | (with_reducible first | exact HB.out | apply below_alloc | apply pw_below_drewN | apply below_drew1 | refine below_set ?_ GE387.out) | exact HB.out)))); have n4_ := Aside0.mk (blk_below (g := gb387) (o := .cells #[.slice A0_0 l0_0.length c0_0, .slice A0_1 l0_1.length c0_1] 25 (0, 0)) (by (with_reducible repeat (first | refine blk_drewN ?_ _ | refine blk_drew ?_ | refine blk_alloc ?_ _)); exact BK387.out) hb); have n5_ := Aside0.mk (below_step (by repeat (first | (with_reducible first | exact HB.out | apply below_alloc | apply pw_below_drewN | apply below_drew1 | refine below_set ?_ GE387.out) | exact HB.out)) hb); clear HO401; clear HO404; clear BK387; clear HB; have HO401 := n0_; have HO404 := n1_; have HO409 := n2_; have HO412 := n3_; have BK387 := n4_; have HB := n5_; clear n0_ n1_ n2_ n3_ n4_ n5_; (try clear hb); (try clear hb2); (try clear hk); (try clear hi); (try clear ho0); (try clear ho1); obtain ⟨Ao39, co39, eo39⟩ := Kd.V_slice HO409.out; subst eo39; obtain ⟨Ao40, co40, eo40⟩ := Kd.V_slice HO412.out; subst eo40) | ((with_reducible refine gate_callee (f := 27) rfl ?_); refine goesL_ (some 57) rfl rfl Try.func27 (by kernel_rfl) rfl #[.agg #[.slice Ao39 t407.length co39, .slice Ao40 t410.length co40], .int .i64 t396] rfl (by (try simp only [List.map_toArray, List.map_cons, List.map_nil]); first | done | rfl | (simp only [List.length_drop, List.length_take]; rfl)) ?_; (with_reducible refine (shift_Open.calls kj16 _ _ t407 _ _ t410 t396 t413 t414 _ ?side1 ?side2 ?side3 ?side4 A30.out).mono ?_); (case side1 => repeat (first | exact (Kd.V_reads' HO409.out).2.2 | (with_reducible refine Kd.C_alloc ?_ _) | (with_reducible refine Kd.C_drewN ?_ _) | (with_reducible refine Kd.C_drew ?_))); (case side2 => exact (Kd.V_reads' HO409.out).2.1); (case side3 => repeat (first | exact (Kd.V_reads' HO412.out).2.2 | (with_reducible refine Kd.C_alloc ?_ _) | (with_reducible refine Kd.C_drewN ?_ _) | (with_reducible refine Kd.C_drew ?_))); (case side4 => exact (Kd.V_reads' HO412.out).2.1); rintro e w41 ⟨rfl, hb⟩; refine ⟨_, rfl, ?_⟩; have n0_ := Aside0.mk (Kd.V_below (by (with_reducible repeat (first | apply Kd.V_alloc | apply Kd.V_drewN | apply Kd.V_drew)); exact HO401.out) hb); have n1_ := Aside0.mk (Kd.V_below (by (with_reducible repeat (first | apply Kd.V_alloc | apply Kd.V_drewN | apply Kd.V_drew)); exact HO404.out) hb); have n2_ := Aside0.mk (Kd.V_below (by (with_reducible repeat (first | apply Kd.V_alloc | apply Kd.V_drewN | apply Kd.V_drew)); exact HO409.out) hb); have n3_ := Aside0.mk (Kd.V_below (by (with_reducible repeat (first | apply Kd.V_alloc | apply Kd.V_drewN | apply Kd.V_drew)); exact HO412.out) hb); have n4_ := Aside0.mk (blk_below (g := gb387) (o := .cells #[.slice A0_0 l0_0.length c0_0, .slice A0_1 l0_1.length c0_1] 25 (0, 0)) (by (with_reducible repeat (first | refine blk_drewN ?_ _ | refine blk_drew ?_ | refine blk_alloc ?_ _)); exact BK387.out) hb); have n5_ := Aside0.mk (below_step (by repeat (first | (with_reducible first | exact HB.out | apply below_alloc | apply pw_below_drewN | apply below_drew1 | refine below_set ?_ GE387.out) | exact HB.out)) hb); clear HO401; clear HO404; clear HO409; clear HO412; clear BK387; clear HB; have HO401 := n0_; have HO404 := n1_; have HO409 := n2_; have HO412 := n3_; have BK387 := n4_; have HB := n5_; clear n0_ n1_ n2_ n3_ n4_ n5_; (try clear hb); (try clear hb2); (try clear hk); (try clear hi)))
              (try simp only [Act.put, List.setIfInBounds_toArray, List.set_cons_zero, List.set_cons_succ])
              go_cut [79] (fun v79 wc => ∃ (kq : Nat) (x79_30 : Bool), v79 = .bool x79_30 ∧ Aside0 (gangsawlaw12_ShiftWhole.j2 kq a1 a2 t396 x79_30 l0_0 l0_1 = some r) ∧ Aside0 (kq ≤ kj16) ∧ Aside0 (wc.heap[gb387]? = some (.cells #[(.slice A0_0 l0_0.length c0_0), (.slice A0_1 l0_1.length c0_1)] 25 (0, 0))) ∧ Aside0 (Below w.heap.size w wc))
              case first =>
                have H := HC31.out
                clear HC31
                by_cases c42 : t406 = 0
                · rw [if_pos c42] at H
                  have c42b0 : (t406 == 0) = true := beq_iff_eq.mpr c42
                  have c42b1 : (t406 != 0) = false := bne_eq_false_iff_eq.mpr c42
                  clear c42
                  (first | rw [c42b0] | (simp only [i64_w, i32_w]; rw [c42b0]) | skip)
                  by_cases c43 : t414 = 0
                  · rw [if_pos c43] at H
                    have c43b0 : (t414 == 0) = true := beq_iff_eq.mpr c43
                    have c43b1 : (t414 != 0) = false := bne_eq_false_iff_eq.mpr c43
                    clear c43
                    by_cases c44 : t396 < a1
                    · rw [if_pos c44] at H
                      have c44b0 : decide (t396 < a1) = true := decide_eq_true c44
                      clear c44
                      have H' := Aside0.mk H
                      clear H
                      go_wp2
                      go_meet
                      case rel => exact ⟨_, (true), (by first | rfl | (simp; done) | (simp [*]; done)), H', ⟨by have := HJ3.out; have := HJ16.out; first | omega | exact Nat.le_refl _⟩, ⟨by (with_reducible repeat (first | refine blk_drewN ?_ _ | refine blk_drew ?_ | refine blk_alloc ?_ _)); exact BK387.out⟩, ⟨by repeat (first | (with_reducible first | exact HB.out | apply below_alloc | apply pw_below_drewN | apply below_drew1 | refine below_set ?_ GE387.out) | exact HB.out)⟩⟩
                    · rw [if_neg c44] at H
                      have c44b0 : decide (t396 < a1) = false := decide_eq_false c44
                      clear c44
                      by_cases c45 : t405 = a2
                      · rw [if_pos c45] at H
                        have c45b0 : (t405 == a2) = true := beq_iff_eq.mpr c45
                        have c45b1 : (t405 != a2) = false := bne_eq_false_iff_eq.mpr c45
                        clear c45
                        have H' := Aside0.mk H
                        clear H
                        go_wp2
                        go_meet
                        case rel => exact ⟨_, (!t413), (by first | rfl | (simp; done) | (simp [*]; done)), H', ⟨by have := HJ3.out; have := HJ16.out; first | omega | exact Nat.le_refl _⟩, ⟨by (with_reducible repeat (first | refine blk_drewN ?_ _ | refine blk_drew ?_ | refine blk_alloc ?_ _)); exact BK387.out⟩, ⟨by repeat (first | (with_reducible first | exact HB.out | apply below_alloc | apply pw_below_drewN | apply below_drew1 | refine below_set ?_ GE387.out) | exact HB.out)⟩⟩
                      · rw [if_neg c45] at H
                        have c45b0 : (t405 == a2) = false := beq_eq_false_iff_ne.mpr c45
                        have c45b1 : (t405 != a2) = true := bne_iff_ne.mpr c45
                        have H' := Aside0.mk H
                        clear H
                        go_wp2
                        go_meet
                        case rel => exact ⟨_, (true), (by first | rfl | (simp; done) | (simp [*]; done)), H', ⟨by have := HJ3.out; have := HJ16.out; first | omega | exact Nat.le_refl _⟩, ⟨by (with_reducible repeat (first | refine blk_drewN ?_ _ | refine blk_drew ?_ | refine blk_alloc ?_ _)); exact BK387.out⟩, ⟨by repeat (first | (with_reducible first | exact HB.out | apply below_alloc | apply pw_below_drewN | apply below_drew1 | refine below_set ?_ GE387.out) | exact HB.out)⟩⟩
                  · rw [if_neg c43] at H
                    have c43b0 : (t414 == 0) = false := beq_eq_false_iff_ne.mpr c43
                    have c43b1 : (t414 != 0) = true := bne_iff_ne.mpr c43
                    have H' := Aside0.mk H
                    clear H
                    go_wp2
                    go_meet
                    case rel => exact ⟨_, (true), (by first | rfl | (simp; done) | (simp [*]; done)), H', ⟨by have := HJ3.out; have := HJ16.out; first | omega | exact Nat.le_refl _⟩, ⟨by (with_reducible repeat (first | refine blk_drewN ?_ _ | refine blk_drew ?_ | refine blk_alloc ?_ _)); exact BK387.out⟩, ⟨by repeat (first | (with_reducible first | exact HB.out | apply below_alloc | apply pw_below_drewN | apply below_drew1 | refine below_set ?_ GE387.out) | exact HB.out)⟩⟩
                · rw [if_neg c42] at H
                  have c42b0 : (t406 == 0) = false := beq_eq_false_iff_ne.mpr c42
                  have c42b1 : (t406 != 0) = true := bne_iff_ne.mpr c42
                  (first | rw [c42b0] | (simp only [i64_w, i32_w]; rw [c42b0]) | skip)
                  have H' := Aside0.mk H
                  clear H
                  go_wp2
                  go_meet
                  case rel => exact ⟨_, (true), (by first | rfl | (simp; done) | (simp [*]; done)), H', ⟨by have := HJ3.out; have := HJ16.out; first | omega | exact Nat.le_refl _⟩, ⟨by (with_reducible repeat (first | refine blk_drewN ?_ _ | refine blk_drew ?_ | refine blk_alloc ?_ _)); exact BK387.out⟩, ⟨by repeat (first | (with_reducible first | exact HB.out | apply below_alloc | apply pw_below_drewN | apply below_drew1 | refine below_set ?_ GE387.out) | exact HB.out)⟩⟩
              case rest =>
                clear HC31
                try clear c1
                try clear c2
                try clear p2
                try clear c4
                try clear p6
                try clear c7
                try clear c8
                try clear c11
                try clear c12
                try clear c13
                try clear c14
                try clear c22
                try clear c23
                try clear c23b0
                try clear c23b1
                try clear c24
                try clear c27
                try clear c42
                try clear c42b0
                try clear c42b1
                try clear c43
                try clear c43b0
                try clear c43b1
                try clear c44
                try clear c44b0
                try clear c45
                try clear c45b0
                try clear c45b1
                try clear hcz10_0
                try clear hcz10_1
                try clear hcz18_0
                try clear hcz18_1
                try clear hcz32_0
                try clear hcz32_1
                try clear hcz37_0
                try clear hcz37_1
                try clear hcz8_0
                try clear hcz8_1
                try clear hfz10_0
                try clear hfz10_1
                try clear hfz18_0
                try clear hfz18_1
                try clear hfz32_0
                try clear hfz32_1
                try clear hfz37_0
                try clear hfz37_1
                try clear hfz8_0
                try clear hfz8_1
                try clear p2
                try clear p6
                obtain ⟨kq, x79_30, rfl, HA, HJ30, BK387, HB⟩ := hcut
                cases kq with
                | zero => exact absurd HA.out (by simp [gangsawlaw12_ShiftWhole.j2])
                | succ kj30 =>
                  have H := HA.out
                  clear HA
                  simp only [gangsawlaw12_ShiftWhole.j2] at H
                  by_cases c46 : x79_30 = true
                  · subst c46
                    have H1 : (some false) = some r := by rw [if_pos rfl] at H; exact H
                    clear H
                    have H := H1
                    clear H1
                    obtain rfl := Option.some.inj H
                    go_wp2
                    go_ret
                    exact ⟨by first | rfl | (simp [errW_none, errW_some] <;> rfl) | (simp [*, errW_none, errW_some] <;> rfl), by repeat (first | (with_reducible first | exact HB.out | apply below_alloc | apply pw_below_drewN | apply below_drew1 | refine below_set ?_ GE387.out) | exact HB.out)⟩
                  · replace c46 := Bool.eq_false_iff.mpr c46
                    subst c46
                    have H1 : (gangsawlaw12_ShiftWhole.l0 kj30 a2 t396 (mx a1 (wrap64 (t396 - 1500))) l0_0 l0_1) = some r := by rw [if_neg (show ¬ (false = true) by decide)] at H; exact H
                    clear H
                    have H := H1
                    clear H1
                    obtain ⟨ji47, hji47⟩ : ∃ j_ : Int, (mx a1 (wrap64 (t396 - 1500))) = j_ := ⟨_, rfl⟩
                    replace H : (gangsawlaw12_ShiftWhole.l0 kj30 a2 t396 ji47 l0_0 l0_1) = some r := by first | (rw [hji47] at H; exact H) | (simp only [hji47] at H ⊢; exact H)
                    have hji47_ : (if a1 < (wrap64 (t396 - 1500)) then (wrap64 (t396 - 1500)) else a1) = ji47 := hji47
                    have H' := Aside0.mk H
                    clear H
                    go_wp2
                    go_loopg [13] kj30 (fun kq v13 w' => ∃ (x13_4 : Int), v13 = .int .i64 x13_4 ∧ Aside0 (gangsawlaw12_ShiftWhole.l0 kq a2 t396 x13_4 l0_0 l0_1 = some r) ∧ Aside0 (kq ≤ kj30) ∧ Aside0 (w'.heap[gb387]? = some (.cells #[(.slice A0_0 l0_0.length c0_0), (.slice A0_1 l0_1.length c0_1)] 25 (0, 0))) ∧ Aside0 (Below w.heap.size w w'))
                    case atStart => exact ⟨(ji47), (by first | rfl | (simp; done) | (simp only [← hji47] <;> (first | rfl | simp)) | (simp [*]; done)), H', ⟨Nat.le_refl _⟩, ⟨by (with_reducible repeat (first | refine blk_drewN ?_ _ | refine blk_drew ?_ | refine blk_alloc ?_ _)); exact BK387.out⟩, ⟨by repeat (first | (with_reducible first | exact HB.out | apply below_alloc | apply pw_below_drewN | apply below_drew1 | refine below_set ?_ GE387.out) | exact HB.out)⟩⟩
                    case round =>
                      clear H'
                      try clear c1
                      try clear c2
                      try clear p2
                      try clear c4
                      try clear p6
                      try clear c7
                      try clear c8
                      try clear c11
                      try clear c12
                      try clear c13
                      try clear c14
                      try clear c22
                      try clear c23
                      try clear c23b0
                      try clear c23b1
                      try clear c24
                      try clear c27
                      try clear c42
                      try clear c42b0
                      try clear c42b1
                      try clear c43
                      try clear c43b0
                      try clear c43b1
                      try clear c44
                      try clear c44b0
                      try clear c45
                      try clear c45b0
                      try clear c45b1
                      try clear c46
                      try clear hcz10_0
                      try clear hcz10_1
                      try clear hcz18_0
                      try clear hcz18_1
                      try clear hcz32_0
                      try clear hcz32_1
                      try clear hcz37_0
                      try clear hcz37_1
                      try clear hcz8_0
                      try clear hcz8_1
                      try clear hfz10_0
                      try clear hfz10_1
                      try clear hfz18_0
                      try clear hfz18_1
                      try clear hfz32_0
                      try clear hfz32_1
                      try clear hfz37_0
                      try clear hfz37_1
                      try clear hfz8_0
                      try clear hfz8_1
                      try clear p2
                      try clear p6
                      obtain ⟨x13_4, rfl, HA, HK4, BK387, HB⟩ := hrel
                      cases gk with
                      | zero => exact absurd HA.out (by simp [gangsawlaw12_ShiftWhole.l0])
                      | succ k4 =>
                        have H := HA.out
                        clear HA
                        simp only [gangsawlaw12_ShiftWhole.l0] at H
                        by_cases c48 : x13_4 < t396
                        · rw [if_pos c48] at H
                          have c48b0 : decide (x13_4 < t396) = true := decide_eq_true c48
                          clear c48
                          replace H := Option.bind_eq_some_iff.mp H
                          obtain ⟨⟨t415, t418⟩, A490, H⟩ := H
                          replace H : ((shift_Work.f k4 t415 t418 x13_4 (mn 14400000 (wrap64 (x13_4 + a2)))).bind fun bt421 => ((gangsawlaw12_ours.f l0_0 l0_1).bind fun bt423 => ((shift_Open.f k4 bt423.1 bt423.2 x13_4).bind fun bt429 => (if bt421.2 = 0 then (if bt429.2 = 0 then (if bt421.1 = a2 then (gangsawlaw12_ShiftWhole.j4 k4 a2 t396 x13_4 bt429.1 l0_0 l0_1) else (gangsawlaw12_ShiftWhole.j4 k4 a2 t396 x13_4 false l0_0 l0_1)) else (gangsawlaw12_ShiftWhole.j4 k4 a2 t396 x13_4 true l0_0 l0_1)) else (gangsawlaw12_ShiftWhole.j4 k4 a2 t396 x13_4 true l0_0 l0_1))))) = some r := H
                          have A49 := Aside0.mk A490
                          clear A490
                          obtain ⟨ji50, hji50⟩ : ∃ j_ : Int, (mn 14400000 (wrap64 (x13_4 + a2))) = j_ := ⟨_, rfl⟩
                          replace H : ((shift_Work.f k4 t415 t418 x13_4 (ji50)).bind fun bt421 => ((gangsawlaw12_ours.f l0_0 l0_1).bind fun bt423 => ((shift_Open.f k4 bt423.1 bt423.2 x13_4).bind fun bt429 => (if bt421.2 = 0 then (if bt429.2 = 0 then (if bt421.1 = a2 then (gangsawlaw12_ShiftWhole.j4 k4 a2 t396 x13_4 bt429.1 l0_0 l0_1) else (gangsawlaw12_ShiftWhole.j4 k4 a2 t396 x13_4 false l0_0 l0_1)) else (gangsawlaw12_ShiftWhole.j4 k4 a2 t396 x13_4 true l0_0 l0_1)) else (gangsawlaw12_ShiftWhole.j4 k4 a2 t396 x13_4 true l0_0 l0_1))))) = some r := by first | (rw [hji50] at H; exact H) | (simp only [hji50] at H ⊢; exact H)
                          (try rw [hji50] at A49)
                          have hji50_ : (if (wrap64 (x13_4 + a2)) < 14400000 then (wrap64 (x13_4 + a2)) else 14400000) = ji50 := hji50
                          replace H := Option.bind_eq_some_iff.mp H
                          obtain ⟨⟨t421, t422⟩, A510, H⟩ := H
                          replace H : ((gangsawlaw12_ours.f l0_0 l0_1).bind fun bt423 => ((shift_Open.f k4 bt423.1 bt423.2 x13_4).bind fun bt429 => (if t422 = 0 then (if bt429.2 = 0 then (if t421 = a2 then (gangsawlaw12_ShiftWhole.j4 k4 a2 t396 x13_4 bt429.1 l0_0 l0_1) else (gangsawlaw12_ShiftWhole.j4 k4 a2 t396 x13_4 false l0_0 l0_1)) else (gangsawlaw12_ShiftWhole.j4 k4 a2 t396 x13_4 true l0_0 l0_1)) else (gangsawlaw12_ShiftWhole.j4 k4 a2 t396 x13_4 true l0_0 l0_1)))) = some r := H
                          have A51 := Aside0.mk A510
                          clear A510
                          replace H := Option.bind_eq_some_iff.mp H
                          obtain ⟨⟨t423, t426⟩, A520, H⟩ := H
                          replace H : ((shift_Open.f k4 t423 t426 x13_4).bind fun bt429 => (if t422 = 0 then (if bt429.2 = 0 then (if t421 = a2 then (gangsawlaw12_ShiftWhole.j4 k4 a2 t396 x13_4 bt429.1 l0_0 l0_1) else (gangsawlaw12_ShiftWhole.j4 k4 a2 t396 x13_4 false l0_0 l0_1)) else (gangsawlaw12_ShiftWhole.j4 k4 a2 t396 x13_4 true l0_0 l0_1)) else (gangsawlaw12_ShiftWhole.j4 k4 a2 t396 x13_4 true l0_0 l0_1))) = some r := H
                          have A52 := Aside0.mk A520
                          clear A520
                          replace H := Option.bind_eq_some_iff.mp H
                          obtain ⟨⟨t429, t430⟩, A530, H⟩ := H
                          replace H : (if t422 = 0 then (if t430 = 0 then (if t421 = a2 then (gangsawlaw12_ShiftWhole.j4 k4 a2 t396 x13_4 t429 l0_0 l0_1) else (gangsawlaw12_ShiftWhole.j4 k4 a2 t396 x13_4 false l0_0 l0_1)) else (gangsawlaw12_ShiftWhole.j4 k4 a2 t396 x13_4 true l0_0 l0_1)) else (gangsawlaw12_ShiftWhole.j4 k4 a2 t396 x13_4 true l0_0 l0_1)) = some r := H
                          have A53 := Aside0.mk A530
                          clear A530
                          have HC54 := Aside0.mk H
                          clear H
                          have hcz55_0 : wr.cell? ⟨gb387, 0, none⟩ = some (.slice A0_0 l0_0.length c0_0) := (blk_cell BK387.out 0).trans rfl
                          have hcz55_1 : wr.cell? ⟨gb387, 1, none⟩ = some (.slice A0_1 l0_1.length c0_1) := (blk_cell BK387.out 1).trans rfl
                          have hfz55_0 := blk_frozen BK387.out 0
                          have hfz55_1 := blk_frozen BK387.out 1
                          go_upto_region 15 with (first | ((with_reducible refine gate_callee (f := 14) rfl ?_); refine goesL_ (some 91) rfl rfl Try.func14 (by kernel_rfl) rfl #[.agg #[.slice A0_0 l0_0.length c0_0, .slice A0_1 l0_1.length c0_1]] rfl (by (try simp only [List.map_toArray, List.map_cons, List.map_nil]); first | done | rfl | (simp only [List.length_drop, List.length_take]; rfl)) ?_; (with_reducible refine (gangsawlaw12_ours.calls (fun k_ => k_ < w.heap.size) _ _ l0_0 (fun k_ => k_ < w.heap.size) _ _ l0_1 t415 t418 _ ?side1 ?side2 A49.out).mono ?_); (case side1 => exact Kd.V_mk HC0_0.out (Kd.F_below (Kd.C_F k54_heap HR0_0.out) (by repeat (first | (with_reducible first | exact HB.out | apply below_alloc | apply pw_below_drewN | apply below_drew1 | refine below_set ?_ GE387.out) | exact HB.out)))); (case side2 => exact Kd.V_mk HC0_1.out (Kd.F_below (Kd.C_F (Kd.heap_int .i64) HR0_1.out) (by repeat (first | (with_reducible first | exact HB.out | apply below_alloc | apply pw_below_drewN | apply below_drew1 | refine below_set ?_ GE387.out) | exact HB.out)))); rintro e w56 ⟨v416, v419, rfl, ho0, ho1, hb⟩; refine ⟨_, rfl, ?_⟩; have n0_ := Aside0.mk (Kd.V_lower (Kd.V_mono (ok' := fun k_ => k_ ≠ gb387) ho0 (fun k_ hk_ => Or.elim hk_ (fun hs_ => Or.elim hs_ (fun hs_ => fun e_ => Nat.not_le.2 hs_ (by rw [e_]; exact GW387.out)) (fun hs_ => fun e_ => Nat.not_le.2 hs_ (by rw [e_]; exact GW387.out))) (fun hn_ => (Kd.freshB (g := gb387) (o := .cells #[.slice A0_0 l0_0.length c0_0, .slice A0_1 l0_1.length c0_1] 25 (0, 0)) (by (with_reducible repeat (first | refine blk_drewN ?_ _ | refine blk_drew ?_ | refine blk_alloc ?_ _)); exact BK387.out) k_ hn_)))) (below_size (by repeat (first | (with_reducible first | exact HB.out | apply below_alloc | apply pw_below_drewN | apply below_drew1 | refine below_set ?_ GE387.out) | exact HB.out)))); have n1_ := Aside0.mk (Kd.V_lower (Kd.V_mono (ok' := fun k_ => k_ ≠ gb387) ho1 (fun k_ hk_ => Or.elim hk_ (fun hs_ => Or.elim hs_ (fun hs_ => fun e_ => Nat.not_le.2 hs_ (by rw [e_]; exact GW387.out)) (fun hs_ => fun e_ => Nat.not_le.2 hs_ (by rw [e_]; exact GW387.out))) (fun hn_ => (Kd.freshB (g := gb387) (o := .cells #[.slice A0_0 l0_0.length c0_0, .slice A0_1 l0_1.length c0_1] 25 (0, 0)) (by (with_reducible repeat (first | refine blk_drewN ?_ _ | refine blk_drew ?_ | refine blk_alloc ?_ _)); exact BK387.out) k_ hn_)))) (below_size (by repeat (first | (with_reducible first | exact HB.out | apply below_alloc | apply pw_below_drewN | apply below_drew1 | refine below_set ?_ GE387.out) | exact HB.out)))); have n2_ := Aside0.mk (blk_below (g := gb387) (o := .cells #[.slice A0_0 l0_0.length c0_0, .slice A0_1 l0_1.length c0_1] 25 (0, 0)) (by (with_reducible repeat (first | refine blk_drewN ?_ _ | refine blk_drew ?_ | refine blk_alloc ?_ _)); exact BK387.out) hb); have n3_ := Aside0.mk (below_step (by repeat (first | (with_reducible first | exact HB.out | apply below_alloc | apply pw_below_drewN | apply below_drew1 | refine below_set ?_ GE387.out) | exact HB.out)) hb); clear BK387; clear HB; have HO417 := n0_; have HO420 := n1_; have BK387 := n2_; have HB := n3_; clear n0_ n1_ n2_ n3_; (try clear hb); (try clear hb2); (try clear hk); (try clear hi); (try clear ho0); (try clear ho1); obtain ⟨Ao57, co57, eo57⟩ := Kd.V_slice HO417.out; subst eo57; obtain ⟨Ao58, co58, eo58⟩ := Kd.V_slice HO420.out; subst eo58) | ((with_reducible refine gate_callee (f := 13) rfl ?_); refine goesL_ (some 97) rfl rfl Try.func13 (by kernel_rfl) rfl #[.agg #[.slice Ao57 t415.length co57, .slice Ao58 t418.length co58], .int .i64 x13_4, .int .i64 ji50] rfl (by (try simp only [List.map_toArray, List.map_cons, List.map_nil]); first | done | (simp only [hji50]; rfl) | rfl | (simp only [List.length_drop, List.length_take]; rfl)) ?_; (with_reducible refine (shift_Work.calls k4 _ _ t415 _ _ t418 x13_4 ji50 t421 t422 _ ?side1 ?side2 ?side3 ?side4 A51.out).mono ?_); (case side1 => repeat (first | exact (Kd.V_reads' HO417.out).2.2 | (with_reducible refine Kd.C_alloc ?_ _) | (with_reducible refine Kd.C_drewN ?_ _) | (with_reducible refine Kd.C_drew ?_))); (case side2 => exact (Kd.V_reads' HO417.out).2.1); (case side3 => repeat (first | exact (Kd.V_reads' HO420.out).2.2 | (with_reducible refine Kd.C_alloc ?_ _) | (with_reducible refine Kd.C_drewN ?_ _) | (with_reducible refine Kd.C_drew ?_))); (case side4 => exact (Kd.V_reads' HO420.out).2.1); rintro e w59 ⟨rfl, hb⟩; refine ⟨_, rfl, ?_⟩; have n0_ := Aside0.mk (Kd.V_below (by (with_reducible repeat (first | apply Kd.V_alloc | apply Kd.V_drewN | apply Kd.V_drew)); exact HO417.out) hb); have n1_ := Aside0.mk (Kd.V_below (by (with_reducible repeat (first | apply Kd.V_alloc | apply Kd.V_drewN | apply Kd.V_drew)); exact HO420.out) hb); have n2_ := Aside0.mk (blk_below (g := gb387) (o := .cells #[.slice A0_0 l0_0.length c0_0, .slice A0_1 l0_1.length c0_1] 25 (0, 0)) (by (with_reducible repeat (first | refine blk_drewN ?_ _ | refine blk_drew ?_ | refine blk_alloc ?_ _)); exact BK387.out) hb); have n3_ := Aside0.mk (below_step (by repeat (first | (with_reducible first | exact HB.out | apply below_alloc | apply pw_below_drewN | apply below_drew1 | refine below_set ?_ GE387.out) | exact HB.out)) hb); clear HO417; clear HO420; clear BK387; clear HB; have HO417 := n0_; have HO420 := n1_; have BK387 := n2_; have HB := n3_; clear n0_ n1_ n2_ n3_; (try clear hb); (try clear hb2); (try clear hk); (try clear hi); have hcz60_0 : w59.cell? ⟨gb387, 0, none⟩ = some (.slice A0_0 l0_0.length c0_0) := (blk_cell BK387.out 0).trans rfl; have hcz60_1 : w59.cell? ⟨gb387, 1, none⟩ = some (.slice A0_1 l0_1.length c0_1) := (blk_cell BK387.out 1).trans rfl; have hfz60_0 := blk_frozen BK387.out 0; have hfz60_1 := blk_frozen BK387.out 1) | ((with_reducible refine gate_callee (f := 14) rfl ?_); refine goesL_ (some 102) rfl rfl Try.func14 (by kernel_rfl) rfl #[.agg #[.slice A0_0 l0_0.length c0_0, .slice A0_1 l0_1.length c0_1]] rfl (by (try simp only [List.map_toArray, List.map_cons, List.map_nil]); first | done | rfl | (simp only [List.length_drop, List.length_take]; rfl)) ?_; (with_reducible refine (gangsawlaw12_ours.calls (fun k_ => k_ < w.heap.size) _ _ l0_0 (fun k_ => k_ < w.heap.size) _ _ l0_1 t423 t426 _ ?side1 ?side2 A52.out).mono ?_); (case side1 => exact Kd.V_mk HC0_0.out (Kd.F_below (Kd.C_F k54_heap HR0_0.out) (by repeat (first | (with_reducible first | exact HB.out | apply below_alloc | apply pw_below_drewN | apply below_drew1 | refine below_set ?_ GE387.out) | exact HB.out)))); (case side2 => exact Kd.V_mk HC0_1.out (Kd.F_below (Kd.C_F (Kd.heap_int .i64) HR0_1.out) (by repeat (first | (with_reducible first | exact HB.out | apply below_alloc | apply pw_below_drewN | apply below_drew1 | refine below_set ?_ GE387.out) | exact HB.out)))); rintro e w61 ⟨v424, v427, rfl, ho0, ho1, hb⟩; refine ⟨_, rfl, ?_⟩; have n0_ := Aside0.mk (Kd.V_below (by (with_reducible repeat (first | apply Kd.V_alloc | apply Kd.V_drewN | apply Kd.V_drew)); exact HO417.out) hb); have n1_ := Aside0.mk (Kd.V_below (by (with_reducible repeat (first | apply Kd.V_alloc | apply Kd.V_drewN | apply Kd.V_drew)); exact HO420.out) hb); have n2_ := Aside0.mk (Kd.V_lower (Kd.V_mono (ok' := fun k_ => k_ ≠ gb387) ho0 (fun k_ hk_ => Or.elim hk_ (fun hs_ => Or.elim hs_ (fun hs_ => fun e_ => Nat.not_le.2 hs_ (by rw [e_]; exact GW387.out)) (fun hs_ => fun e_ => Nat.not_le.2 hs_ (by rw [e_]; exact GW387.out))) (fun hn_ => (Kd.freshB (g := gb387) (o := .cells #[.slice A0_0 l0_0.length c0_0, .slice A0_1 l0_1.length c0_1] 25 (0, 0)) (by (with_reducible repeat (first | refine blk_drewN ?_ _ | refine blk_drew ?_ | refine blk_alloc ?_ _)); exact BK387.out) k_ hn_)))) (below_size (by repeat (first | (with_reducible first | exact HB.out | apply below_alloc | apply pw_below_drewN | apply below_drew1 | refine below_set ?_ GE387.out) | exact HB.out)))); have n3_ := Aside0.mk (Kd.V_lower (Kd.V_mono (ok' := fun k_ => k_ ≠ gb387) ho1 (fun k_ hk_ => Or.elim hk_ (fun hs_ => Or.elim hs_ (fun hs_ => fun e_ => Nat.not_le.2 hs_ (by rw [e_]; exact GW387.out)) (fun hs_ => fun e_ => Nat.not_le.2 hs_ (by rw [e_]; exact GW387.out))) (fun hn_ => (Kd.freshB (g := gb387) (o := .cells #[.slice A0_0 l0_0.length c0_0, .slice A0_1 l0_1.length c0_1] 25 (0, 0)) (by (with_reducible repeat (first | refine blk_drewN ?_ _ | refine blk_drew ?_ | refine blk_alloc ?_ _)); exact BK387.out) k_ hn_)))) (below_size (by repeat (first | (with_reducible first | exact HB.out | apply below_alloc | apply pw_below_drewN | apply below_drew1 | refine below_set ?_ GE387.out) | exact HB.out)))); have n4_ := Aside0.mk (blk_below (g := gb387) (o := .cells #[.slice A0_0 l0_0.length c0_0, .slice A0_1 l0_1.length c0_1] 25 (0, 0)) (by (with_reducible repeat (first | refine blk_drewN ?_ _ | refine blk_drew ?_ | refine blk_alloc ?_ _)); exact BK387.out) hb); have n5_ := Aside0.mk (below_step (by repeat (first | (with_reducible first | exact HB.out | apply below_alloc | apply pw_below_drewN | apply below_drew1 | refine below_set ?_ GE387.out) | exact HB.out)) hb); clear HO417; clear HO420; clear BK387; clear HB; have HO417 := n0_; have HO420 := n1_; have HO425 := n2_; have HO428 := n3_; have BK387 := n4_; have HB := n5_; clear n0_ n1_ n2_ n3_ n4_ n5_; (try clear hb); (try clear hb2); (try clear hk); (try clear hi); (try clear ho0); (try clear ho1); obtain ⟨Ao62, co62, eo62⟩ := Kd.V_slice HO425.out; subst eo62; obtain ⟨Ao63, co63, eo63⟩ := Kd.V_slice HO428.out; subst eo63) | ((with_reducible refine gate_callee (f := 27) rfl ?_); refine goesL_ (some 104) rfl rfl Try.func27 (by kernel_rfl) rfl #[.agg #[.slice Ao62 t423.length co62, .slice Ao63 t426.length co63], .int .i64 x13_4] rfl (by (try simp only [List.map_toArray, List.map_cons, List.map_nil]); first | done | rfl | (simp only [List.length_drop, List.length_take]; rfl)) ?_; (with_reducible refine (shift_Open.calls k4 _ _ t423 _ _ t426 x13_4 t429 t430 _ ?side1 ?side2 ?side3 ?side4 A53.out).mono ?_); (case side1 => repeat (first | exact (Kd.V_reads' HO425.out).2.2 | (with_reducible refine Kd.C_alloc ?_ _) | (with_reducible refine Kd.C_drewN ?_ _) | (with_reducible refine Kd.C_drew ?_))); (case side2 => exact (Kd.V_reads' HO425.out).2.1); (case side3 => repeat (first | exact (Kd.V_reads' HO428.out).2.2 | (with_reducible refine Kd.C_alloc ?_ _) | (with_reducible refine Kd.C_drewN ?_ _) | (with_reducible refine Kd.C_drew ?_))); (case side4 => exact (Kd.V_reads' HO428.out).2.1); rintro e w64 ⟨rfl, hb⟩; refine ⟨_, rfl, ?_⟩; have n0_ := Aside0.mk (Kd.V_below (by (with_reducible repeat (first | apply Kd.V_alloc | apply Kd.V_drewN | apply Kd.V_drew)); exact HO417.out) hb); have n1_ := Aside0.mk (Kd.V_below (by (with_reducible repeat (first | apply Kd.V_alloc | apply Kd.V_drewN | apply Kd.V_drew)); exact HO420.out) hb); have n2_ := Aside0.mk (Kd.V_below (by (with_reducible repeat (first | apply Kd.V_alloc | apply Kd.V_drewN | apply Kd.V_drew)); exact HO425.out) hb); have n3_ := Aside0.mk (Kd.V_below (by (with_reducible repeat (first | apply Kd.V_alloc | apply Kd.V_drewN | apply Kd.V_drew)); exact HO428.out) hb); have n4_ := Aside0.mk (blk_below (g := gb387) (o := .cells #[.slice A0_0 l0_0.length c0_0, .slice A0_1 l0_1.length c0_1] 25 (0, 0)) (by (with_reducible repeat (first | refine blk_drewN ?_ _ | refine blk_drew ?_ | refine blk_alloc ?_ _)); exact BK387.out) hb); have n5_ := Aside0.mk (below_step (by repeat (first | (with_reducible first | exact HB.out | apply below_alloc | apply pw_below_drewN | apply below_drew1 | refine below_set ?_ GE387.out) | exact HB.out)) hb); clear HO417; clear HO420; clear HO425; clear HO428; clear BK387; clear HB; have HO417 := n0_; have HO420 := n1_; have HO425 := n2_; have HO428 := n3_; have BK387 := n4_; have HB := n5_; clear n0_ n1_ n2_ n3_ n4_ n5_; (try clear hb); (try clear hb2); (try clear hk); (try clear hi)))
                          (try simp only [Act.put, List.setIfInBounds_toArray, List.set_cons_zero, List.set_cons_succ])
                          go_cut [120] (fun v120 wc => ∃ (kq : Nat) (x120_53 : Bool), v120 = .bool x120_53 ∧ Aside0 (gangsawlaw12_ShiftWhole.j4 kq a2 t396 x13_4 x120_53 l0_0 l0_1 = some r) ∧ Aside0 (kq ≤ k4) ∧ Aside0 (wc.heap[gb387]? = some (.cells #[(.slice A0_0 l0_0.length c0_0), (.slice A0_1 l0_1.length c0_1)] 25 (0, 0))) ∧ Aside0 (Below w.heap.size w wc))
                          case first =>
                            have H := HC54.out
                            clear HC54
                            by_cases c65 : t422 = 0
                            · rw [if_pos c65] at H
                              have c65b0 : (t422 == 0) = true := beq_iff_eq.mpr c65
                              have c65b1 : (t422 != 0) = false := bne_eq_false_iff_eq.mpr c65
                              clear c65
                              (first | rw [c65b0] | (simp only [i64_w, i32_w]; rw [c65b0]) | skip)
                              by_cases c66 : t430 = 0
                              · rw [if_pos c66] at H
                                have c66b0 : (t430 == 0) = true := beq_iff_eq.mpr c66
                                have c66b1 : (t430 != 0) = false := bne_eq_false_iff_eq.mpr c66
                                clear c66
                                by_cases c67 : t421 = a2
                                · rw [if_pos c67] at H
                                  have c67b0 : (t421 == a2) = true := beq_iff_eq.mpr c67
                                  have c67b1 : (t421 != a2) = false := bne_eq_false_iff_eq.mpr c67
                                  clear c67
                                  have H' := Aside0.mk H
                                  clear H
                                  go_wp2
                                  go_meet
                                  case rel => exact ⟨_, (t429), (by first | rfl | (simp; done) | (simp [*]; done)), H', ⟨by have := HJ3.out; have := HJ16.out; have := HJ30.out; have := HK4.out; first | omega | exact Nat.le_refl _⟩, ⟨by (with_reducible repeat (first | refine blk_drewN ?_ _ | refine blk_drew ?_ | refine blk_alloc ?_ _)); exact BK387.out⟩, ⟨by repeat (first | (with_reducible first | exact HB.out | apply below_alloc | apply pw_below_drewN | apply below_drew1 | refine below_set ?_ GE387.out) | exact HB.out)⟩⟩
                                · rw [if_neg c67] at H
                                  have c67b0 : (t421 == a2) = false := beq_eq_false_iff_ne.mpr c67
                                  have c67b1 : (t421 != a2) = true := bne_iff_ne.mpr c67
                                  have H' := Aside0.mk H
                                  clear H
                                  go_wp2
                                  go_meet
                                  case rel => exact ⟨_, (false), (by first | rfl | (simp; done) | (simp [*]; done)), H', ⟨by have := HJ3.out; have := HJ16.out; have := HJ30.out; have := HK4.out; first | omega | exact Nat.le_refl _⟩, ⟨by (with_reducible repeat (first | refine blk_drewN ?_ _ | refine blk_drew ?_ | refine blk_alloc ?_ _)); exact BK387.out⟩, ⟨by repeat (first | (with_reducible first | exact HB.out | apply below_alloc | apply pw_below_drewN | apply below_drew1 | refine below_set ?_ GE387.out) | exact HB.out)⟩⟩
                              · rw [if_neg c66] at H
                                have c66b0 : (t430 == 0) = false := beq_eq_false_iff_ne.mpr c66
                                have c66b1 : (t430 != 0) = true := bne_iff_ne.mpr c66
                                have H' := Aside0.mk H
                                clear H
                                go_wp2
                                go_meet
                                case rel => exact ⟨_, (true), (by first | rfl | (simp; done) | (simp [*]; done)), H', ⟨by have := HJ3.out; have := HJ16.out; have := HJ30.out; have := HK4.out; first | omega | exact Nat.le_refl _⟩, ⟨by (with_reducible repeat (first | refine blk_drewN ?_ _ | refine blk_drew ?_ | refine blk_alloc ?_ _)); exact BK387.out⟩, ⟨by repeat (first | (with_reducible first | exact HB.out | apply below_alloc | apply pw_below_drewN | apply below_drew1 | refine below_set ?_ GE387.out) | exact HB.out)⟩⟩
                            · rw [if_neg c65] at H
                              have c65b0 : (t422 == 0) = false := beq_eq_false_iff_ne.mpr c65
                              have c65b1 : (t422 != 0) = true := bne_iff_ne.mpr c65
                              (first | rw [c65b0] | (simp only [i64_w, i32_w]; rw [c65b0]) | skip)
                              have H' := Aside0.mk H
                              clear H
                              go_wp2
                              go_meet
                              case rel => exact ⟨_, (true), (by first | rfl | (simp; done) | (simp [*]; done)), H', ⟨by have := HJ3.out; have := HJ16.out; have := HJ30.out; have := HK4.out; first | omega | exact Nat.le_refl _⟩, ⟨by (with_reducible repeat (first | refine blk_drewN ?_ _ | refine blk_drew ?_ | refine blk_alloc ?_ _)); exact BK387.out⟩, ⟨by repeat (first | (with_reducible first | exact HB.out | apply below_alloc | apply pw_below_drewN | apply below_drew1 | refine below_set ?_ GE387.out) | exact HB.out)⟩⟩
                          case rest =>
                            clear HC54
                            try clear c1
                            try clear c2
                            try clear p2
                            try clear c4
                            try clear c6
                            try clear p6
                            try clear c7
                            try clear c8
                            try clear c11
                            try clear c12
                            try clear c13
                            try clear c14
                            try clear c22
                            try clear c23
                            try clear c23b0
                            try clear c23b1
                            try clear c24
                            try clear c27
                            try clear c42
                            try clear c42b0
                            try clear c42b1
                            try clear c43
                            try clear c43b0
                            try clear c43b1
                            try clear c44
                            try clear c44b0
                            try clear c45
                            try clear c45b0
                            try clear c45b1
                            try clear c46
                            try clear c48
                            try clear c48b0
                            try clear p64
                            try clear c65
                            try clear c65b0
                            try clear c65b1
                            try clear c66
                            try clear c66b0
                            try clear c66b1
                            try clear c67
                            try clear c67b0
                            try clear c67b1
                            try clear hcz10_0
                            try clear hcz10_1
                            try clear hcz18_0
                            try clear hcz18_1
                            try clear hcz32_0
                            try clear hcz32_1
                            try clear hcz37_0
                            try clear hcz37_1
                            try clear hcz55_0
                            try clear hcz55_1
                            try clear hcz60_0
                            try clear hcz60_1
                            try clear hcz8_0
                            try clear hcz8_1
                            try clear hfz10_0
                            try clear hfz10_1
                            try clear hfz18_0
                            try clear hfz18_1
                            try clear hfz32_0
                            try clear hfz32_1
                            try clear hfz37_0
                            try clear hfz37_1
                            try clear hfz55_0
                            try clear hfz55_1
                            try clear hfz60_0
                            try clear hfz60_1
                            try clear hfz8_0
                            try clear hfz8_1
                            try clear p2
                            try clear p6
                            obtain ⟨kq, x120_53, rfl, HA, HJ53, BK387, HB⟩ := hcut
                            cases kq with
                            | zero => exact absurd HA.out (by simp [gangsawlaw12_ShiftWhole.j4])
                            | succ kj53 =>
                              have H := HA.out
                              clear HA
                              simp only [gangsawlaw12_ShiftWhole.j4] at H
                              by_cases c68 : x120_53 = true
                              · subst c68
                                have H1 : (some false) = some r := by rw [if_pos rfl] at H; exact H
                                clear H
                                have H := H1
                                clear H1
                                obtain rfl := Option.some.inj H
                                go_wp2
                                go_ret
                                exact ⟨by first | rfl | (simp [errW_none, errW_some] <;> rfl) | (simp only [← hji47, ← hji50]; first | rfl | (simp [errW_none, errW_some] <;> rfl)) | (simp [*, errW_none, errW_some] <;> rfl), by repeat (first | (with_reducible first | exact HB.out | apply below_alloc | apply pw_below_drewN | apply below_drew1 | refine below_set ?_ GE387.out) | exact HB.out)⟩
                              · replace c68 := Bool.eq_false_iff.mpr c68
                                subst c68
                                have H1 : (gangsawlaw12_ShiftWhole.l0 kj53 a2 t396 (wrap64 (x13_4 + 1)) l0_0 l0_1) = some r := by rw [if_neg (show ¬ (false = true) by decide)] at H; exact H
                                clear H
                                have H := H1
                                clear H1
                                have H' := Aside0.mk H
                                clear H
                                go_wp2
                                go_roundg kj53
                                case measure => have := HJ3.out; have := HJ16.out; have := HJ30.out; have := HK4.out; have := HJ53.out; omega
                                case rel => exact ⟨(wrap64 (x13_4 + 1)), (by first | rfl | (simp; done) | (simp [*]; done)), H', ⟨by have := HJ3.out; have := HJ16.out; have := HJ30.out; have := HK4.out; have := HJ53.out; omega⟩, ⟨by (with_reducible repeat (first | refine blk_drewN ?_ _ | refine blk_drew ?_ | refine blk_alloc ?_ _)); exact BK387.out⟩, ⟨by repeat (first | (with_reducible first | exact HB.out | apply below_alloc | apply pw_below_drewN | apply below_drew1 | refine below_set ?_ GE387.out) | exact HB.out)⟩⟩
                        · rw [if_neg c48] at H
                          have c48b0 : decide (x13_4 < t396) = false := decide_eq_false c48
                          clear c48
                          replace H := Option.bind_eq_some_iff.mp H
                          obtain ⟨t431, A690, H⟩ := H
                          replace H : (some t431) = some r := H
                          have A69 := Aside0.mk A690
                          clear A690
                          obtain rfl := Option.some.inj H
                          go_wp2_with (first | ((with_reducible refine gate_callee (f := 12) rfl ?_); refine goesL_ (some 121) rfl rfl Try.func12 (by kernel_rfl) rfl #[] rfl (by (try simp only [List.map_toArray, List.map_cons, List.map_nil]); first | done | rfl | (simp only [List.length_drop, List.length_take]; rfl)) ?_; (with_reducible refine (gangsawlaw12_awake.calls k4  t431 _ A69.out).mono ?_); rintro e w70 ⟨rfl, hb⟩; refine ⟨_, rfl, ?_⟩; have n0_ := Aside0.mk (blk_below (g := gb387) (o := .cells #[.slice A0_0 l0_0.length c0_0, .slice A0_1 l0_1.length c0_1] 25 (0, 0)) (by (with_reducible repeat (first | refine blk_drewN ?_ _ | refine blk_drew ?_ | refine blk_alloc ?_ _)); exact BK387.out) hb); have n1_ := Aside0.mk (below_step (by repeat (first | (with_reducible first | exact HB.out | apply below_alloc | apply pw_below_drewN | apply below_drew1 | refine below_set ?_ GE387.out) | exact HB.out)) hb); clear BK387; clear HB; have BK387 := n0_; have HB := n1_; clear n0_ n1_; (try clear hb); (try clear hb2); (try clear hk); (try clear hi)))
                          go_ret
                          exact ⟨by first | rfl | (simp [errW_none, errW_some] <;> rfl) | (simp only [← hji47]; first | rfl | (simp [errW_none, errW_some] <;> rfl)) | (simp [*, errW_none, errW_some] <;> rfl), by repeat (first | (with_reducible first | exact HB.out | apply below_alloc | apply pw_below_drewN | apply below_drew1 | refine below_set ?_ GE387.out) | exact HB.out)⟩

/-- THE ONE PURE STATEMENT of gangsawlaw12_ShiftWhole. -/
def gangsawlaw12_ShiftWhole.Pure : Prop := ∀ (l0_0 : List (S54)) (l0_1 : List Int) (a1 : Int) (a2 : Int), (l0_0.length ≤ maxLen ∧ ∀ e11_, e11_ ∈ l0_0 → okS54 e11_) → (l0_1.length ≤ maxLen ∧ ∀ e12_, e12_ ∈ l0_1 → (Lit.int .i64 e12_).wf = true) → ((Lit.int .i64 a1).wf = true) → ((Lit.int .i64 a2).wf = true) → ∃ k, gangsawlaw12_ShiftWhole.f k l0_0 l0_1 a1 a2 = some true
theorem gangsawlaw12_ShiftWhole.walk (P_ : gangsawlaw12_ShiftWhole.Pure) (A0_0 : Option Addr) (c0_0 : Nat) (l0_0 : List (S54)) (A0_1 : Option Addr) (c0_1 : Nat) (l0_1 : List Int) (a1 : Int) (a2 : Int) (w : World) (hr0_0 : Kd.C k54 w A0_0 l0_0.length l0_0) (hc0_0 : l0_0.length ≤ c0_0) (hr0_1 : Kd.C (Kd.int .i64) w A0_1 l0_1.length l0_1) (hc0_1 : l0_1.length ≤ c0_1) (o0 : (l0_0.length ≤ maxLen ∧ ∀ e11_, e11_ ∈ l0_0 → okS54 e11_)) (o1 : (l0_1.length ≤ maxLen ∧ ∀ e12_, e12_ ∈ l0_1 → (Lit.int .i64 e12_).wf = true)) (o2 : ((Lit.int .i64 a1).wf = true)) (o3 : ((Lit.int .i64 a2).wf = true)) :
    Calls Try.prog 8 #[.agg #[.slice A0_0 l0_0.length c0_0, .slice A0_1 l0_1.length c0_1], .int .i64 a1, .int .i64 a2] w fun e w' => e = .returned (.bool true) ∧ Below w.heap.size w w' := by
  obtain ⟨k, h⟩ := P_ l0_0 l0_1 a1 a2 o0 o1 o2 o3
  refine (gangsawlaw12_ShiftWhole.calls k A0_0 c0_0 l0_0 A0_1 c0_1 l0_1 a1 a2 true w hr0_0 hc0_0 hr0_1 hc0_1 h).mono ?_
  rintro e w' ⟨rfl, hd⟩
  exact ⟨rfl, hd⟩

-- NOT PRINTED: function 56 (slices_Grow_int_int)

-- NOT PRINTED: function 46 (slices_Concat_int_int)

end Go.Proofs.Ytpjgmlnnhcnelaa.QA
