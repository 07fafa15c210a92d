import Derived.Test.YtpjgmlnnhcnelaaDIQAx0
import Derived.Test.YtpjgmlnnhcnelaaDIQAx2
import Derived.Test.YtpjgmlnnhcnelaaDIQAx5
import Derived.Test.YtpjgmlnnhcnelaaDIQAx6
import Derived.Test.YtpjgmlnnhcnelaaDIQAx7
import Derived.Test.YtpjgmlnnhcnelaaDIQAx8
-- Written by a program of this session (wip/tools) out of the translation; Lean checks it.
namespace Go.Proofs.Ytpjgmlnnhcnelaa.QA
open Go.RowKit Go.Proofs.YtpjgmlnnhcnelaaW.PrintWords Go.Proofs.YtpjgmlnnhcnelaaW.PrintLast Go.Proofs.YtpjgmlnnhcnelaaW.PrintMore
attribute [local go_sem] max2_int min2_int max_two min_two max_three min_three max_four min_four
set_option linter.unusedVariables false
set_option linter.unusedSimpArgs false

mutual
def gangsawlaw12_ShiftInverse.j0 : Nat → Int → Int → Int → Bool → List (S54) → List Int → Option (Bool)
  | 0, _, _, _, _, _, _ => none
  | k + 1, x1, x2, x7, x66, x350000, x350001 => if x66 = true then (some false) else (if x2 = 0 then ((gangsawlaw12_awake.f k).bind fun t377 => (if t377 = true then (some (x7 == x1)) else (some false))) else ((gangsawlaw12_ours.f x350000 x350001).bind fun bt378 => ((shift_Open.f k bt378.1 bt378.2 x7).bind fun bt384 => ((gangsawlaw12_awake.f k).bind fun t386 => (if t386 = true then (if bt384.2 = 0 then (gangsawlaw12_ShiftInverse.j1 k bt384.1) else (gangsawlaw12_ShiftInverse.j1 k false)) else (gangsawlaw12_ShiftInverse.j1 k false))))))
def gangsawlaw12_ShiftInverse.j1 : Nat → Bool → Option (Bool)
  | 0, _ => none
  | k + 1, x6 => some x6
end
def gangsawlaw12_ShiftInverse.f (k : Nat) (l0_0 : List (S54)) (l0_1 : List Int) (a1 : Int) (a2 : Int) : Option (Bool) := (gangsawlaw12_few.f l0_0 l0_1).bind fun t350 => (if t350 = true then ((gangsawlaw12_ours.f l0_0 l0_1).bind fun bt352 => ((shift_Before.f k bt352.1 bt352.2 a1 a2).bind fun bt358 => (if bt358.2 = 0 then ((gangsawlaw12_ours.f l0_0 l0_1).bind fun bt361 => ((shift_Work.f k bt361.1 bt361.2 bt358.1 a1).bind fun bt367 => ((gangsawlaw12_ours.f l0_0 l0_1).bind fun bt369 => ((shift_After.f k bt369.1 bt369.2 bt358.1 a2).bind fun bt375 => (if bt367.2 = 0 then (if bt375.2 = 0 then (if bt367.1 = a2 then (if bt375.1 > a1 then (gangsawlaw12_ShiftInverse.j0 k a1 a2 bt358.1 true l0_0 l0_1) else (gangsawlaw12_ShiftInverse.j0 k a1 a2 bt358.1 (decide (bt358.1 > a1)) l0_0 l0_1)) else (gangsawlaw12_ShiftInverse.j0 k a1 a2 bt358.1 true l0_0 l0_1)) else (gangsawlaw12_ShiftInverse.j0 k a1 a2 bt358.1 true l0_0 l0_1)) else (gangsawlaw12_ShiftInverse.j0 k a1 a2 bt358.1 true l0_0 l0_1)))))) else ((gangsawlaw12_awake.f k).bind fun t360 => (some t360))))) else ((gangsawlaw12_awake.f k).bind fun t351 => (some t351)))
set_option maxHeartbeats 8000000 in
set_option maxRecDepth 100000 in
theorem gangsawlaw12_ShiftInverse.calls (k : Nat) (A0_0 : Option Addr) (c0_0 : Nat) (l0_0 : List (S54)) (A0_1 : Option Addr) (c0_1 : Nat) (l0_1 : List Int) (a1 : Int) (a2 : Int) (r : Bool) (w : World) (hr0_0 : Kd.C k54 w A0_0 l0_0.length l0_0) (hc0_0 : l0_0.length ≤ c0_0) (hr0_1 : Kd.C (Kd.int .i64) w A0_1 l0_1.length l0_1) (hc0_1 : l0_1.length ≤ c0_1) (h : gangsawlaw12_ShiftInverse.f k l0_0 l0_1 a1 a2 = some r) :
    Calls Try.prog 7 #[.agg #[.slice A0_0 l0_0.length c0_0, .slice A0_1 l0_1.length c0_1], .int .i64 a1, .int .i64 a2] w fun e w' => e = .returned (.bool r) ∧ Below w.heap.size w w' := by
  have hu25 := Try.underlying25
  have HR0_0 := Aside0.mk hr0_0
  have HC0_0 := Aside0.mk hc0_0
  clear hr0_0 hc0_0
  have HR0_1 := Aside0.mk hr0_1
  have HC0_1 := Aside0.mk hc0_1
  clear hr0_1 hc0_1
  have HB := Aside0.mk (Below.refl w.heap.size w)
  have H : ((gangsawlaw12_few.f l0_0 l0_1).bind fun t350 => (if t350 = true then ((gangsawlaw12_ours.f l0_0 l0_1).bind fun bt352 => ((shift_Before.f k bt352.1 bt352.2 a1 a2).bind fun bt358 => (if bt358.2 = 0 then ((gangsawlaw12_ours.f l0_0 l0_1).bind fun bt361 => ((shift_Work.f k bt361.1 bt361.2 bt358.1 a1).bind fun bt367 => ((gangsawlaw12_ours.f l0_0 l0_1).bind fun bt369 => ((shift_After.f k bt369.1 bt369.2 bt358.1 a2).bind fun bt375 => (if bt367.2 = 0 then (if bt375.2 = 0 then (if bt367.1 = a2 then (if bt375.1 > a1 then (gangsawlaw12_ShiftInverse.j0 k a1 a2 bt358.1 true l0_0 l0_1) else (gangsawlaw12_ShiftInverse.j0 k a1 a2 bt358.1 (decide (bt358.1 > a1)) l0_0 l0_1)) else (gangsawlaw12_ShiftInverse.j0 k a1 a2 bt358.1 true l0_0 l0_1)) else (gangsawlaw12_ShiftInverse.j0 k a1 a2 bt358.1 true l0_0 l0_1)) else (gangsawlaw12_ShiftInverse.j0 k a1 a2 bt358.1 true l0_0 l0_1)))))) else ((gangsawlaw12_awake.f k).bind fun t360 => (some t360))))) else ((gangsawlaw12_awake.f k).bind fun t351 => (some t351)))) = some r := h
  clear h
  replace H := Option.bind_eq_some_iff.mp H
  obtain ⟨t350, A40, H⟩ := H
  replace H : (if t350 = true then ((gangsawlaw12_ours.f l0_0 l0_1).bind fun bt352 => ((shift_Before.f k bt352.1 bt352.2 a1 a2).bind fun bt358 => (if bt358.2 = 0 then ((gangsawlaw12_ours.f l0_0 l0_1).bind fun bt361 => ((shift_Work.f k bt361.1 bt361.2 bt358.1 a1).bind fun bt367 => ((gangsawlaw12_ours.f l0_0 l0_1).bind fun bt369 => ((shift_After.f k bt369.1 bt369.2 bt358.1 a2).bind fun bt375 => (if bt367.2 = 0 then (if bt375.2 = 0 then (if bt367.1 = a2 then (if bt375.1 > a1 then (gangsawlaw12_ShiftInverse.j0 k a1 a2 bt358.1 true l0_0 l0_1) else (gangsawlaw12_ShiftInverse.j0 k a1 a2 bt358.1 (decide (bt358.1 > a1)) l0_0 l0_1)) else (gangsawlaw12_ShiftInverse.j0 k a1 a2 bt358.1 true l0_0 l0_1)) else (gangsawlaw12_ShiftInverse.j0 k a1 a2 bt358.1 true l0_0 l0_1)) else (gangsawlaw12_ShiftInverse.j0 k a1 a2 bt358.1 true l0_0 l0_1)))))) else ((gangsawlaw12_awake.f k).bind fun t360 => (some t360))))) else ((gangsawlaw12_awake.f k).bind fun t351 => (some t351))) = some r := H
  have A4 := Aside0.mk A40
  clear A40
  by_cases c5 : t350 = true
  · subst c5
    have H1 : ((gangsawlaw12_ours.f l0_0 l0_1).bind fun bt352 => ((shift_Before.f k bt352.1 bt352.2 a1 a2).bind fun bt358 => (if bt358.2 = 0 then ((gangsawlaw12_ours.f l0_0 l0_1).bind fun bt361 => ((shift_Work.f k bt361.1 bt361.2 bt358.1 a1).bind fun bt367 => ((gangsawlaw12_ours.f l0_0 l0_1).bind fun bt369 => ((shift_After.f k bt369.1 bt369.2 bt358.1 a2).bind fun bt375 => (if bt367.2 = 0 then (if bt375.2 = 0 then (if bt367.1 = a2 then (if bt375.1 > a1 then (gangsawlaw12_ShiftInverse.j0 k a1 a2 bt358.1 true l0_0 l0_1) else (gangsawlaw12_ShiftInverse.j0 k a1 a2 bt358.1 (decide (bt358.1 > a1)) l0_0 l0_1)) else (gangsawlaw12_ShiftInverse.j0 k a1 a2 bt358.1 true l0_0 l0_1)) else (gangsawlaw12_ShiftInverse.j0 k a1 a2 bt358.1 true l0_0 l0_1)) else (gangsawlaw12_ShiftInverse.j0 k a1 a2 bt358.1 true l0_0 l0_1)))))) else ((gangsawlaw12_awake.f k).bind fun t360 => (some t360))))) = some r := by rw [if_pos rfl] at H; exact H
    clear H
    have H := H1
    clear H1
    replace H := Option.bind_eq_some_iff.mp H
    obtain ⟨⟨t352, t355⟩, A60, H⟩ := H
    replace H : ((shift_Before.f k t352 t355 a1 a2).bind fun bt358 => (if bt358.2 = 0 then ((gangsawlaw12_ours.f l0_0 l0_1).bind fun bt361 => ((shift_Work.f k bt361.1 bt361.2 bt358.1 a1).bind fun bt367 => ((gangsawlaw12_ours.f l0_0 l0_1).bind fun bt369 => ((shift_After.f k bt369.1 bt369.2 bt358.1 a2).bind fun bt375 => (if bt367.2 = 0 then (if bt375.2 = 0 then (if bt367.1 = a2 then (if bt375.1 > a1 then (gangsawlaw12_ShiftInverse.j0 k a1 a2 bt358.1 true l0_0 l0_1) else (gangsawlaw12_ShiftInverse.j0 k a1 a2 bt358.1 (decide (bt358.1 > a1)) l0_0 l0_1)) else (gangsawlaw12_ShiftInverse.j0 k a1 a2 bt358.1 true l0_0 l0_1)) else (gangsawlaw12_ShiftInverse.j0 k a1 a2 bt358.1 true l0_0 l0_1)) else (gangsawlaw12_ShiftInverse.j0 k a1 a2 bt358.1 true l0_0 l0_1)))))) else ((gangsawlaw12_awake.f k).bind fun t360 => (some t360)))) = some r := H
    have A6 := Aside0.mk A60
    clear A60
    replace H := Option.bind_eq_some_iff.mp H
    obtain ⟨⟨t358, t359⟩, A70, H⟩ := H
    replace H : (if t359 = 0 then ((gangsawlaw12_ours.f l0_0 l0_1).bind fun bt361 => ((shift_Work.f k bt361.1 bt361.2 t358 a1).bind fun bt367 => ((gangsawlaw12_ours.f l0_0 l0_1).bind fun bt369 => ((shift_After.f k bt369.1 bt369.2 t358 a2).bind fun bt375 => (if bt367.2 = 0 then (if bt375.2 = 0 then (if bt367.1 = a2 then (if bt375.1 > a1 then (gangsawlaw12_ShiftInverse.j0 k a1 a2 t358 true l0_0 l0_1) else (gangsawlaw12_ShiftInverse.j0 k a1 a2 t358 (decide (t358 > a1)) l0_0 l0_1)) else (gangsawlaw12_ShiftInverse.j0 k a1 a2 t358 true l0_0 l0_1)) else (gangsawlaw12_ShiftInverse.j0 k a1 a2 t358 true l0_0 l0_1)) else (gangsawlaw12_ShiftInverse.j0 k a1 a2 t358 true l0_0 l0_1)))))) else ((gangsawlaw12_awake.f k).bind fun t360 => (some t360))) = some r := H
    have A7 := Aside0.mk A70
    clear A70
    by_cases c8 : t359 = 0
    · rw [if_pos c8] at H
      have c8b0 : (t359 == 0) = true := beq_iff_eq.mpr c8
      have c8b1 : (t359 != 0) = false := bne_eq_false_iff_eq.mpr c8
      clear c8
      replace H := Option.bind_eq_some_iff.mp H
      obtain ⟨⟨t361, t364⟩, A90, H⟩ := H
      replace H : ((shift_Work.f k t361 t364 t358 a1).bind fun bt367 => ((gangsawlaw12_ours.f l0_0 l0_1).bind fun bt369 => ((shift_After.f k bt369.1 bt369.2 t358 a2).bind fun bt375 => (if bt367.2 = 0 then (if bt375.2 = 0 then (if bt367.1 = a2 then (if bt375.1 > a1 then (gangsawlaw12_ShiftInverse.j0 k a1 a2 t358 true l0_0 l0_1) else (gangsawlaw12_ShiftInverse.j0 k a1 a2 t358 (decide (t358 > a1)) l0_0 l0_1)) else (gangsawlaw12_ShiftInverse.j0 k a1 a2 t358 true l0_0 l0_1)) else (gangsawlaw12_ShiftInverse.j0 k a1 a2 t358 true l0_0 l0_1)) else (gangsawlaw12_ShiftInverse.j0 k a1 a2 t358 true l0_0 l0_1))))) = some r := H
      have A9 := Aside0.mk A90
      clear A90
      replace H := Option.bind_eq_some_iff.mp H
      obtain ⟨⟨t367, t368⟩, A100, H⟩ := H
      replace H : ((gangsawlaw12_ours.f l0_0 l0_1).bind fun bt369 => ((shift_After.f k bt369.1 bt369.2 t358 a2).bind fun bt375 => (if t368 = 0 then (if bt375.2 = 0 then (if t367 = a2 then (if bt375.1 > a1 then (gangsawlaw12_ShiftInverse.j0 k a1 a2 t358 true l0_0 l0_1) else (gangsawlaw12_ShiftInverse.j0 k a1 a2 t358 (decide (t358 > a1)) l0_0 l0_1)) else (gangsawlaw12_ShiftInverse.j0 k a1 a2 t358 true l0_0 l0_1)) else (gangsawlaw12_ShiftInverse.j0 k a1 a2 t358 true l0_0 l0_1)) else (gangsawlaw12_ShiftInverse.j0 k a1 a2 t358 true l0_0 l0_1)))) = some r := H
      have A10 := Aside0.mk A100
      clear A100
      replace H := Option.bind_eq_some_iff.mp H
      obtain ⟨⟨t369, t372⟩, A110, H⟩ := H
      replace H : ((shift_After.f k t369 t372 t358 a2).bind fun bt375 => (if t368 = 0 then (if bt375.2 = 0 then (if t367 = a2 then (if bt375.1 > a1 then (gangsawlaw12_ShiftInverse.j0 k a1 a2 t358 true l0_0 l0_1) else (gangsawlaw12_ShiftInverse.j0 k a1 a2 t358 (decide (t358 > a1)) l0_0 l0_1)) else (gangsawlaw12_ShiftInverse.j0 k a1 a2 t358 true l0_0 l0_1)) else (gangsawlaw12_ShiftInverse.j0 k a1 a2 t358 true l0_0 l0_1)) else (gangsawlaw12_ShiftInverse.j0 k a1 a2 t358 true l0_0 l0_1))) = some r := H
      have A11 := Aside0.mk A110
      clear A110
      replace H := Option.bind_eq_some_iff.mp H
      obtain ⟨⟨t375, t376⟩, A120, H⟩ := H
      replace H : (if t368 = 0 then (if t376 = 0 then (if t367 = a2 then (if t375 > a1 then (gangsawlaw12_ShiftInverse.j0 k a1 a2 t358 true l0_0 l0_1) else (gangsawlaw12_ShiftInverse.j0 k a1 a2 t358 (decide (t358 > a1)) l0_0 l0_1)) else (gangsawlaw12_ShiftInverse.j0 k a1 a2 t358 true l0_0 l0_1)) else (gangsawlaw12_ShiftInverse.j0 k a1 a2 t358 true l0_0 l0_1)) else (gangsawlaw12_ShiftInverse.j0 k a1 a2 t358 true l0_0 l0_1)) = some r := H
      have A12 := Aside0.mk A120
      clear A120
      have HC13 := Aside0.mk H
      clear H
      go_enter Try.func7, Try.ntmps7
      go_upto_region 8 with (first | ((with_reducible refine gate_dst (N := 3) rfl ?_); refine box_event ?hg (N := 3) ?hd (cs := #[.slice A0_0 l0_0.length c0_0, .slice A0_1 l0_1.length c0_1]) (t := 25) ?hr ?_; (case hd => rfl); (case hg => rfl); (case hr => first | (go_simp; done) | (go_simp; rfl)); intro gb349 hg w14 hbox hb; have n0_ := Aside0.mk (below_step (by repeat (first | (with_reducible first | exact HB.out | apply below_alloc | apply pw_below_drewN | apply below_drew1) | exact HB.out)) hb); have n1_ := Aside0.mk (hbox); have n2_ := Aside0.mk ((by rw [hg]; exact (below_size (by repeat (first | (with_reducible first | exact HB.out | apply below_alloc | apply pw_below_drewN | apply below_drew1) | exact HB.out))) : w.heap.size ≤ gb349)); have n3_ := Aside0.mk ((by rw [hg]; exact (below_size (by repeat (first | (with_reducible first | exact HB.out | apply below_alloc | apply pw_below_drewN | apply below_drew1) | exact HB.out))) : w.heap.size ≤ gb349)); clear HB; have HB := n0_; have BK349 := n1_; have GW349 := n2_; have GE349 := n3_; clear n0_ n1_ n2_ n3_; clear hb hbox hg; have hcz15_0 : w14.cell? ⟨gb349, 0, none⟩ = some (.slice A0_0 l0_0.length c0_0) := (blk_cell BK349.out 0).trans rfl; have hcz15_1 : w14.cell? ⟨gb349, 1, none⟩ = some (.slice A0_1 l0_1.length c0_1) := (blk_cell BK349.out 1).trans rfl; have hfz15_0 := blk_frozen BK349.out 0; have hfz15_1 := blk_frozen BK349.out 1) | ((with_reducible refine gate_callee (f := 11) rfl ?_); refine goesL_ (some 16) rfl rfl Try.func11 (by kernel_rfl) rfl #[.agg #[.slice A0_0 l0_0.length c0_0, .slice A0_1 l0_1.length c0_1]] rfl (by (try simp only [List.map_toArray, List.map_cons, List.map_nil]); first | done | rfl | (simp only [List.length_drop, List.length_take]; rfl)) ?_; (with_reducible refine (gangsawlaw12_few.calls _ _ l0_0 _ _ l0_1 true _ ?side1 ?side2 ?side3 ?side4 A4.out).mono ?_); (case side1 => repeat (first | exact (Kd.C_below HR0_0.out HB.out) | (with_reducible refine Kd.C_alloc ?_ _) | (with_reducible refine Kd.C_drewN ?_ _) | (with_reducible refine Kd.C_drew ?_))); (case side2 => exact HC0_0.out); (case side3 => repeat (first | exact (Kd.C_below HR0_1.out HB.out) | (with_reducible refine Kd.C_alloc ?_ _) | (with_reducible refine Kd.C_drewN ?_ _) | (with_reducible refine Kd.C_drew ?_))); (case side4 => exact HC0_1.out); rintro e w16 ⟨rfl, hb⟩; refine ⟨_, rfl, ?_⟩; have n0_ := Aside0.mk (blk_below (g := gb349) (o := .cells #[.slice A0_0 l0_0.length c0_0, .slice A0_1 l0_1.length c0_1] 25 (0, 0)) (by (with_reducible repeat (first | refine blk_drewN ?_ _ | refine blk_drew ?_ | refine blk_alloc ?_ _)); exact BK349.out) hb); have n1_ := Aside0.mk (below_step (by repeat (first | (with_reducible first | exact HB.out | apply below_alloc | apply pw_below_drewN | apply below_drew1 | refine below_set ?_ GE349.out) | exact HB.out)) hb); clear BK349; clear HB; have BK349 := n0_; have HB := n1_; clear n0_ n1_; (try clear hb); (try clear hb2); (try clear hk); (try clear hi); have hcz17_0 : w16.cell? ⟨gb349, 0, none⟩ = some (.slice A0_0 l0_0.length c0_0) := (blk_cell BK349.out 0).trans rfl; have hcz17_1 : w16.cell? ⟨gb349, 1, none⟩ = some (.slice A0_1 l0_1.length c0_1) := (blk_cell BK349.out 1).trans rfl; have hfz17_0 := blk_frozen BK349.out 0; have hfz17_1 := blk_frozen BK349.out 1) | ((with_reducible refine gate_callee (f := 14) rfl ?_); refine goesL_ (some 21) rfl rfl Try.func14 (by kernel_rfl) rfl #[.agg #[.slice A0_0 l0_0.length c0_0, .slice A0_1 l0_1.length c0_1]] rfl (by (try simp only [List.map_toArray, List.map_cons, List.map_nil]); first | done | rfl | (simp only [List.length_drop, List.length_take]; rfl)) ?_; (with_reducible refine (gangsawlaw12_ours.calls (fun k_ => k_ < w.heap.size) _ _ l0_0 (fun k_ => k_ < w.heap.size) _ _ l0_1 t352 t355 _ ?side1 ?side2 A6.out).mono ?_); (case side1 => exact Kd.V_mk HC0_0.out (Kd.F_below (Kd.C_F k54_heap HR0_0.out) (by repeat (first | (with_reducible first | exact HB.out | apply below_alloc | apply pw_below_drewN | apply below_drew1 | refine below_set ?_ GE349.out) | exact HB.out)))); (case side2 => exact Kd.V_mk HC0_1.out (Kd.F_below (Kd.C_F (Kd.heap_int .i64) HR0_1.out) (by repeat (first | (with_reducible first | exact HB.out | apply below_alloc | apply pw_below_drewN | apply below_drew1 | refine below_set ?_ GE349.out) | exact HB.out)))); rintro e w18 ⟨v353, v356, rfl, ho0, ho1, hb⟩; refine ⟨_, rfl, ?_⟩; have n0_ := Aside0.mk (Kd.V_lower (Kd.V_mono (ok' := fun k_ => k_ ≠ gb349) ho0 (fun k_ hk_ => Or.elim hk_ (fun hs_ => Or.elim hs_ (fun hs_ => fun e_ => Nat.not_le.2 hs_ (by rw [e_]; exact GW349.out)) (fun hs_ => fun e_ => Nat.not_le.2 hs_ (by rw [e_]; exact GW349.out))) (fun hn_ => (Kd.freshB (g := gb349) (o := .cells #[.slice A0_0 l0_0.length c0_0, .slice A0_1 l0_1.length c0_1] 25 (0, 0)) (by (with_reducible repeat (first | refine blk_drewN ?_ _ | refine blk_drew ?_ | refine blk_alloc ?_ _)); exact BK349.out) k_ hn_)))) (below_size (by repeat (first | (with_reducible first | exact HB.out | apply below_alloc | apply pw_below_drewN | apply below_drew1 | refine below_set ?_ GE349.out) | exact HB.out)))); have n1_ := Aside0.mk (Kd.V_lower (Kd.V_mono (ok' := fun k_ => k_ ≠ gb349) ho1 (fun k_ hk_ => Or.elim hk_ (fun hs_ => Or.elim hs_ (fun hs_ => fun e_ => Nat.not_le.2 hs_ (by rw [e_]; exact GW349.out)) (fun hs_ => fun e_ => Nat.not_le.2 hs_ (by rw [e_]; exact GW349.out))) (fun hn_ => (Kd.freshB (g := gb349) (o := .cells #[.slice A0_0 l0_0.length c0_0, .slice A0_1 l0_1.length c0_1] 25 (0, 0)) (by (with_reducible repeat (first | refine blk_drewN ?_ _ | refine blk_drew ?_ | refine blk_alloc ?_ _)); exact BK349.out) k_ hn_)))) (below_size (by repeat (first | (with_reducible first | exact HB.out | apply below_alloc | apply pw_below_drewN | apply below_drew1 | refine below_set ?_ GE349.out) | exact HB.out)))); have n2_ := Aside0.mk (blk_below (g := gb349) (o := .cells #[.slice A0_0 l0_0.length c0_0, .slice A0_1 l0_1.length c0_1] 25 (0, 0)) (by (with_reducible repeat (first | refine blk_drewN ?_ _ | refine blk_drew ?_ | refine blk_alloc ?_ _)); exact BK349.out) hb); have n3_ := Aside0.mk (below_step (by repeat (first | (with_reducible first | exact HB.out | apply below_alloc | apply pw_below_drewN | apply below_drew1 | refine below_set ?_ GE349.out) | exact HB.out)) hb); clear BK349; clear HB; have HO354 := n0_; have HO357 := n1_; have BK349 := n2_; have HB := n3_; clear n0_ n1_ n2_ n3_; (try clear hb); (try clear hb2); (try clear hk); (try clear hi); (try clear ho0); (try clear ho1); obtain ⟨Ao19, co19, eo19⟩ := Kd.V_slice HO354.out; subst eo19; obtain ⟨Ao20, co20, eo20⟩ := Kd.V_slice HO357.out; subst eo20) | ((with_reducible refine gate_callee (f := 21) rfl ?_); refine goesL_ (some 24) rfl rfl Try.func21 (by kernel_rfl) rfl #[.agg #[.slice Ao19 t352.length co19, .slice Ao20 t355.length co20], .int .i64 a1, .int .i64 a2] rfl (by (try simp only [List.map_toArray, List.map_cons, List.map_nil]); first | done | rfl | (simp only [List.length_drop, List.length_take]; rfl)) ?_; (with_reducible refine (shift_Before.calls k _ _ t352 _ _ t355 a1 a2 t358 t359 _ ?side1 ?side2 ?side3 ?side4 A7.out).mono ?_); (case side1 => repeat (first | exact (Kd.V_reads' HO354.out).2.2 | (with_reducible refine Kd.C_alloc ?_ _) | (with_reducible refine Kd.C_drewN ?_ _) | (with_reducible refine Kd.C_drew ?_))); (case side2 => exact (Kd.V_reads' HO354.out).2.1); (case side3 => repeat (first | exact (Kd.V_reads' HO357.out).2.2 | (with_reducible refine Kd.C_alloc ?_ _) | (with_reducible refine Kd.C_drewN ?_ _) | (with_reducible refine Kd.C_drew ?_))); (case side4 => exact (Kd.V_reads' HO357.out).2.1); rintro e w21 ⟨rfl, hb⟩; refine ⟨_, rfl, ?_⟩; have n0_ := Aside0.mk (Kd.V_below (by (with_reducible repeat (first | apply Kd.V_alloc | apply Kd.V_drewN | apply Kd.V_drew)); exact HO354.out) hb); have n1_ := Aside0.mk (Kd.V_below (by (with_reducible repeat (first | apply Kd.V_alloc | apply Kd.V_drewN | apply Kd.V_drew)); exact HO357.out) hb); have n2_ := Aside0.mk (blk_below (g := gb349) (o := .cells #[.slice A0_0 l0_0.length c0_0, .slice A0_1 l0_1.length c0_1] 25 (0, 0)) (by (with_reducible repeat (first | refine blk_drewN ?_ _ | refine blk_drew ?_ | refine blk_alloc ?_ _)); exact BK349.out) hb); have n3_ := Aside0.mk (below_step (by repeat (first | (with_reducible first | exact HB.out | apply below_alloc | apply pw_below_drewN | apply below_drew1 | refine below_set ?_ GE349.out) | exact HB.out)) hb); clear HO354; clear HO357; clear BK349; clear HB; have HO354 := n0_; have HO357 := n1_; have BK349 := n2_; have HB := n3_; clear n0_ n1_ n2_ n3_; (try clear hb); (try clear hb2); (try clear hk); (try clear hi); have hcz22_0 : w21.cell? ⟨gb349, 0, none⟩ = some (.slice A0_0 l0_0.length c0_0) := (blk_cell BK349.out 0).trans rfl; have hcz22_1 : w21.cell? ⟨gb349, 1, none⟩ = some (.slice A0_1 l0_1.length c0_1) := (blk_cell BK349.out 1).trans rfl; have hfz22_0 := blk_frozen BK349.out 0; have hfz22_1 := blk_frozen BK349.out 1) | ((with_reducible refine gate_callee (f := 14) rfl ?_); refine goesL_ (some 32) rfl rfl Try.func14 (by kernel_rfl) rfl #[.agg #[.slice A0_0 l0_0.length c0_0, .slice A0_1 l0_1.length c0_1]] rfl (by (try simp only [List.map_toArray, List.map_cons, List.map_nil]); first | done | rfl | (simp only [List.length_drop, List.length_take]; rfl)) ?_; (with_reducible refine (gangsawlaw12_ours.calls (fun k_ => k_ < w.heap.size) _ _ l0_0 (fun k_ => k_ < w.heap.size) _ _ l0_1 t361 t364 _ ?side1 ?side2 A9.out).mono ?_); (case side1 => exact Kd.V_mk HC0_0.out (Kd.F_below (Kd.C_F k54_heap HR0_0.out) (by repeat (first | (with_reducible first | exact HB.out | apply below_alloc | apply pw_below_drewN | apply below_drew1 | refine below_set ?_ GE349.out) | exact HB.out)))); (case side2 => exact Kd.V_mk HC0_1.out (Kd.F_below (Kd.C_F (Kd.heap_int .i64) HR0_1.out) (by repeat (first | (with_reducible first | exact HB.out | apply below_alloc | apply pw_below_drewN | apply below_drew1 | refine below_set ?_ GE349.out) | exact HB.out)))); rintro e w23 ⟨v362, v365, rfl, ho0, ho1, hb⟩; refine ⟨_, rfl, ?_⟩; have n0_ := Aside0.mk (Kd.V_below (by (with_reducible repeat (first | apply Kd.V_alloc | apply Kd.V_drewN | apply Kd.V_drew)); exact HO354.out) hb); have n1_ := Aside0.mk (Kd.V_below (by (with_reducible repeat (first | apply Kd.V_alloc | apply Kd.V_drewN | apply Kd.V_drew)); exact HO357.out) hb); have n2_ := Aside0.mk (Kd.V_lower (Kd.V_mono (ok' := fun k_ => k_ ≠ gb349) ho0 (fun k_ hk_ => Or.elim hk_ (fun hs_ => Or.elim hs_ (fun hs_ => fun e_ => Nat.not_le.2 hs_ (by rw [e_]; exact GW349.out)) (fun hs_ => fun e_ => Nat.not_le.2 hs_ (by rw [e_]; exact GW349.out))) (fun hn_ => (Kd.freshB (g := gb349) (o := .cells #[.slice A0_0 l0_0.length c0_0, .slice A0_1 l0_1.length c0_1] 25 (0, 0)) (by (with_reducible repeat (first | refine blk_drewN ?_ _ | refine blk_drew ?_ | refine blk_alloc ?_ _)); exact BK349.out) k_ hn_)))) (below_size (by repeat (first | (with_reducible first | exact HB.out | apply below_alloc | apply pw_below_drewN | apply below_drew1 | refine below_set ?_ GE349.out) | exact HB.out)))); have n3_ := Aside0.mk (Kd.V_lower (Kd.V_mono (ok' := fun k_ => k_ ≠ gb349) ho1 (fun k_ hk_ => Or.elim hk_ (fun hs_ => Or.elim hs_ (fun hs_ => fun e_ => Nat.not_le.2 hs_ (by rw [e_]; exact GW349.out)) (fun hs_ => fun e_ => Nat.not_le.2 hs_ (by rw [e_]; exact GW349.out))) (fun hn_ => (Kd.freshB (g := gb349) (o := .cells #[.slice A0_0 l0_0.length c0_0, .slice A0_1 l0_1.length c0_1] 25 (0, 0)) (by (with_reducible repeat (first | refine blk_drewN ?_ _ | refine blk_drew ?_ | refine blk_alloc ?_ _)); exact BK349.out) k_ hn_)))) (below_size (by repeat (first | (with_reducible first | exact HB.out | apply below_alloc | apply pw_below_drewN | apply below_drew1 | refine below_set ?_ GE349.out) | exact HB.out)))); have n4_ := Aside0.mk (blk_below (g := gb349) (o := .cells #[.slice A0_0 l0_0.length c0_0, .slice A0_1 l0_1.length c0_1] 25 (0, 0)) (by (with_reducible repeat (first | refine blk_drewN ?_ _ | refine blk_drew ?_ | refine blk_alloc ?_ _)); exact BK349.out) hb); have n5_ := Aside0.mk (below_step (by repeat (first | (with_reducible first | exact HB.out | apply below_alloc | apply pw_below_drewN | apply below_drew1 | refine below_set ?_ GE349.out) | exact HB.out)) hb); clear HO354; clear HO357; clear BK349; clear HB; have HO354 := n0_; have HO357 := n1_; have HO363 := n2_; have HO366 := n3_; have BK349 := n4_; have HB := n5_; clear n0_ n1_ n2_ n3_ n4_ n5_; (try clear hb); (try clear hb2); (try clear hk); (try clear hi); (try clear ho0); (try clear ho1); obtain ⟨Ao24, co24, eo24⟩ := Kd.V_slice HO363.out; subst eo24; obtain ⟨Ao25, co25, eo25⟩ := Kd.V_slice HO366.out; subst eo25) | ((with_reducible refine gate_callee (f := 13) rfl ?_); refine goesL_ (some 35) rfl rfl Try.func13 (by kernel_rfl) rfl #[.agg #[.slice Ao24 t361.length co24, .slice Ao25 t364.length co25], .int .i64 t358, .int .i64 a1] rfl (by (try simp only [List.map_toArray, List.map_cons, List.map_nil]); first | done | rfl | (simp only [List.length_drop, List.length_take]; rfl)) ?_; (with_reducible refine (shift_Work.calls k _ _ t361 _ _ t364 t358 a1 t367 t368 _ ?side1 ?side2 ?side3 ?side4 A10.out).mono ?_); (case side1 => repeat (first | exact (Kd.V_reads' HO363.out).2.2 | (with_reducible refine Kd.C_alloc ?_ _) | (with_reducible refine Kd.C_drewN ?_ _) | (with_reducible refine Kd.C_drew ?_))); (case side2 => exact (Kd.V_reads' HO363.out).2.1); (case side3 => repeat (first | exact (Kd.V_reads' HO366.out).2.2 | (with_reducible refine Kd.C_alloc ?_ _) | (with_reducible refine Kd.C_drewN ?_ _) | (with_reducible refine Kd.C_drew ?_))); (case side4 => exact (Kd.V_reads' HO366.out).2.1); rintro e w26 ⟨rfl, hb⟩; refine ⟨_, rfl, ?_⟩; have n0_ := Aside0.mk (Kd.V_below (by (with_reducible repeat (first | apply Kd.V_alloc | apply Kd.V_drewN | apply Kd.V_drew)); exact HO354.out) hb); have n1_ := Aside0.mk (Kd.V_below (by (with_reducible repeat (first | apply Kd.V_alloc | apply Kd.V_drewN | apply Kd.V_drew)); exact HO357.out) hb); have n2_ := Aside0.mk (Kd.V_below (by (with_reducible repeat (first | apply Kd.V_alloc | apply Kd.V_drewN | apply Kd.V_drew)); exact HO363.out) hb); have n3_ := Aside0.mk (Kd.V_below (by (with_reducible repeat (first | apply Kd.V_alloc | apply Kd.V_drewN | apply Kd.V_drew)); exact HO366.out) hb); have n4_ := Aside0.mk (blk_below (g := gb349) (o := .cells #[.slice A0_0 l0_0.length c0_0, .slice A0_1 l0_1.length c0_1] 25 (0, 0)) (by (with_reducible repeat (first | refine blk_drewN ?_ _ | refine blk_drew ?_ | refine blk_alloc ?_ _)); exact BK349.out) hb); have n5_ := Aside0.mk (below_step (by repeat (first | (with_reducible first | exact HB.out | apply below_alloc | apply pw_below_drewN | apply below_drew1 | refine below_set ?_ GE349.out) | exact HB.out)) hb); clear HO354; clear HO357; clear HO363; clear HO366; clear BK349; clear HB; have HO354 := n0_; have HO357 := n1_; have HO363 := n2_; have HO366 := n3_; have BK349 := n4_; have HB := n5_; clear n0_ n1_ n2_ n3_ n4_ n5_; (try clear hb); (try clear hb2); (try clear hk); (try clear hi); have hcz27_0 : w26.cell? ⟨gb349, 0, none⟩ = some (.slice A0_0 l0_0.length c0_0) := (blk_cell BK349.out 0).trans rfl; have hcz27_1 : w26.cell? ⟨gb349, 1, none⟩ = some (.slice A0_1 l0_1.length c0_1) := (blk_cell BK349.out 1).trans rfl; have hfz27_0 := blk_frozen BK349.out 0; have hfz27_1 := blk_frozen BK349.out 1) | ((with_reducible refine gate_callee (f := 14) rfl ?_); refine goesL_ (some 40) rfl rfl Try.func14 (by kernel_rfl) rfl #[.agg #[.slice A0_0 l0_0.length c0_0, .slice A0_1 l0_1.length c0_1]] rfl (by (try simp only [List.map_toArray, List.map_cons, List.map_nil]); first | done | rfl | (simp only [List.length_drop, List.length_take]; rfl)) ?_; (with_reducible refine (gangsawlaw12_ours.calls (fun k_ => k_ < w.heap.size) _ _ l0_0 (fun k_ => k_ < w.heap.size) _ _ l0_1 t369 t372 _ ?side1 ?side2 A11.out).mono ?_); (case side1 => exact Kd.V_mk HC0_0.out (Kd.F_below (Kd.C_F k54_heap HR0_0.out) (by repeat (first | (with_reducible first | exact HB.out | apply below_alloc | apply pw_below_drewN | apply below_drew1 | refine below_set ?_ GE349.out) | exact HB.out)))); (case side2 => exact Kd.V_mk HC0_1.out (Kd.F_below (Kd.C_F (Kd.heap_int .i64) HR0_1.out) (by repeat (first | (with_reducible first | exact HB.out | apply below_alloc | apply pw_below_drewN | apply below_drew1 | refine below_set ?_ GE349.out) | exact HB.out)))); rintro e w28 ⟨v370, v373, rfl, ho0, ho1, hb⟩; refine ⟨_, rfl, ?_⟩; have n0_ := Aside0.mk (Kd.V_below (by (with_reducible repeat (first | apply Kd.V_alloc | apply Kd.V_drewN | apply Kd.V_drew)); exact HO354.out) hb); have n1_ := Aside0.mk (Kd.V_below (by (with_reducible repeat (first | apply Kd.V_alloc | apply Kd.V_drewN | apply Kd.V_drew)); exact HO357.out) hb); have n2_ := Aside0.mk (Kd.V_below (by (with_reducible repeat (first | apply Kd.V_alloc | apply Kd.V_drewN | apply Kd.V_drew)); exact HO363.out) hb); have n3_ := Aside0.mk (Kd.V_below (by (with_reducible repeat (first | apply Kd.V_alloc | apply Kd.V_drewN | apply Kd.V_drew)); exact HO366.out) hb); have n4_ := Aside0.mk (Kd.V_lower (Kd.V_mono (ok' := fun k_ => k_ ≠ gb349) ho0 (fun k_ hk_ => Or.elim hk_ (fun hs_ => Or.elim hs_ (fun hs_ => fun e_ => Nat.not_le.2 hs_ (by rw [e_]; exact GW349.out)) (fun hs_ => fun e_ => Nat.not_le.2 hs_ (by rw [e_]; exact GW349.out))) (fun hn_ => (Kd.freshB (g := gb349) (o := .cells #[.slice A0_0 l0_0.length c0_0, .slice A0_1 l0_1.length c0_1] 25 (0, 0)) (by (with_reducible repeat (first | refine blk_drewN ?_ _ | refine blk_drew ?_ | refine blk_alloc ?_ _)); exact BK349.out) k_ hn_)))) (below_size (by repeat (first | (with_reducible first | exact HB.out | apply below_alloc | apply pw_below_drewN | apply below_drew1 | refine below_set ?_ GE349.out) | exact HB.out)))); have n5_ := Aside0.mk (Kd.V_lower (Kd.V_mono (ok' := fun k_ => k_ ≠ gb349) ho1 (fun k_ hk_ => Or.elim hk_ (fun hs_ => Or.elim hs_ (fun hs_ => fun e_ => Nat.not_le.2 hs_ (by rw [e_]; exact GW349.out)) (fun hs_ => fun e_ => Nat.not_le.2 hs_ (by rw [e_]; exact GW349.out))) (fun hn_ => (Kd.freshB (g := gb349) (o := .cells #[.slice A0_0 l0_0.length c0_0, .slice A0_1 l0_1.length c0_1] 25 (0, 0)) (by (with_reducible repeat (first | refine blk_drewN ?_ _ | refine blk_drew ?_ | refine blk_alloc ?_ _)); exact BK349.out) k_ hn_)))) (below_size (by repeat (first | (with_reducible first | exact HB.out | apply below_alloc | apply pw_below_drewN | apply below_drew1 | refine below_set ?_ GE349.out) | exact HB.out)))); have n6_ := Aside0.mk (blk_below (g := gb349) (o := .cells #[.slice A0_0 l0_0.length c0_0, .slice A0_1 l0_1.length c0_1] 25 (0, 0)) (by (with_reducible repeat (first | refine blk_drewN ?_ _ | refine blk_drew ?_ | refine blk_alloc ?_ _)); exact BK349.out) hb); have n7_ := Aside0.mk (below_step (by repeat (first | (with_reducible first | exact HB.out | apply below_alloc | apply pw_below_drewN | apply below_drew1 | refine below_set ?_ GE349.out) | exact HB.out)) hb); clear HO354; clear HO357; clear HO363; clear HO366; clear BK349; clear HB; have HO354 := n0_; have HO357 := n1_; have HO363 := n2_; have HO366 := n3_; have HO371 := n4_; have HO374 := n5_; have BK349 := n6_; have HB := n7_; clear n0_ n1_ n2_ n3_ n4_ n5_ n6_ n7_; (try clear hb); (try clear hb2); (try clear hk); (try clear hi); (try clear ho0); (try clear ho1); obtain ⟨Ao29, co29, eo29⟩ := Kd.V_slice HO371.out; subst eo29; obtain ⟨Ao30, co30, eo30⟩ := Kd.V_slice HO374.out; subst eo30) | ((with_reducible refine gate_callee (f := 20) rfl ?_); refine goesL_ (some 43) rfl rfl Try.func20 (by kernel_rfl) rfl #[.agg #[.slice Ao29 t369.length co29, .slice Ao30 t372.length co30], .int .i64 t358, .int .i64 a2] rfl (by (try simp only [List.map_toArray, List.map_cons, List.map_nil]); first | done | rfl | (simp only [List.length_drop, List.length_take]; rfl)) ?_; (with_reducible refine (shift_After.calls k _ _ t369 _ _ t372 t358 a2 t375 t376 _ ?side1 ?side2 ?side3 ?side4 A12.out).mono ?_); (case side1 => repeat (first | exact (Kd.V_reads' HO371.out).2.2 | (with_reducible refine Kd.C_alloc ?_ _) | (with_reducible refine Kd.C_drewN ?_ _) | (with_reducible refine Kd.C_drew ?_))); (case side2 => exact (Kd.V_reads' HO371.out).2.1); (case side3 => repeat (first | exact (Kd.V_reads' HO374.out).2.2 | (with_reducible refine Kd.C_alloc ?_ _) | (with_reducible refine Kd.C_drewN ?_ _) | (with_reducible refine Kd.C_drew ?_))); (case side4 => exact (Kd.V_reads' HO374.out).2.1); rintro e w31 ⟨rfl, hb⟩; refine ⟨_, rfl, ?_⟩; have n0_ := Aside0.mk (Kd.V_below (by (with_reducible repeat (first | apply Kd.V_alloc | apply Kd.V_drewN | apply Kd.V_drew)); exact HO354.out) hb); have n1_ := Aside0.mk (Kd.V_below (by (with_reducible repeat (first | apply Kd.V_alloc | apply Kd.V_drewN | apply Kd.V_drew)); exact HO357.out) hb); have n2_ := Aside0.mk (Kd.V_below (by (with_reducible repeat (first | apply Kd.V_alloc | apply Kd.V_drewN | apply Kd.V_drew)); exact HO363.out) hb); have n3_ := Aside0.mk (Kd.V_below (by (with_reducible repeat (first | apply Kd.V_alloc | apply Kd.V_drewN | apply Kd.V_drew)); exact HO366.out) hb); have n4_ := Aside0.mk (Kd.V_below (by (with_reducible repeat (first | apply Kd.V_alloc | apply Kd.V_drewN | apply Kd.V_drew)); exact HO371.out) hb); have n5_ := Aside0.mk (Kd.V_below (by (with_reducible repeat (first | apply Kd.V_alloc | apply Kd.V_drewN | apply Kd.V_drew)); exact HO374.out) hb); have n6_ := Aside0.mk (blk_below (g := gb349) (o := .cells #[.slice A0_0 l0_0.length c0_0, .slice A0_1 l0_1.length c0_1] 25 (0, 0)) (by (with_reducible repeat (first | refine blk_drewN ?_ _ | refine blk_drew ?_ | refine blk_alloc ?_ _)); exact BK349.out) hb); have n7_ := Aside0.mk (below_step (by repeat (first | (with_reducible first | exact HB.out | apply below_alloc | apply pw_below_drewN | apply below_drew1 | refine below_set ?_ GE349.out) | exact HB.out)) hb); clear HO354; clear HO357; clear HO363; clear HO366; clear HO371; clear HO374; clear BK349; clear HB; have HO354 := n0_; have HO357 := n1_; have HO363 := n2_; have HO366 := n3_; have HO371 := n4_; have HO374 := n5_; have BK349 := n6_; have HB := n7_; clear n0_ n1_ n2_ n3_ n4_ n5_ n6_ n7_; (try clear hb); (try clear hb2); (try clear hk); (try clear hi)))
      (try simp only [Act.put, List.setIfInBounds_toArray, List.set_cons_zero, List.set_cons_succ])
      go_cut [66] (fun v66 wc => ∃ (kq : Nat) (x66_12 : Bool), v66 = .bool x66_12 ∧ Aside0 (gangsawlaw12_ShiftInverse.j0 kq a1 a2 t358 x66_12 l0_0 l0_1 = some r) ∧ Aside0 (kq ≤ k) ∧ Aside0 (wc.heap[gb349]? = some (.cells #[(.slice A0_0 l0_0.length c0_0), (.slice A0_1 l0_1.length c0_1)] 25 (0, 0))) ∧ Aside0 (Below w.heap.size w wc))
      case first =>
        have H := HC13.out
        clear HC13
        by_cases c32 : t368 = 0
        · rw [if_pos c32] at H
          have c32b0 : (t368 == 0) = true := beq_iff_eq.mpr c32
          have c32b1 : (t368 != 0) = false := bne_eq_false_iff_eq.mpr c32
          clear c32
          (first | rw [c32b0] | (simp only [i64_w, i32_w]; rw [c32b0]) | skip)
          by_cases c33 : t376 = 0
          · rw [if_pos c33] at H
            have c33b0 : (t376 == 0) = true := beq_iff_eq.mpr c33
            have c33b1 : (t376 != 0) = false := bne_eq_false_iff_eq.mpr c33
            clear c33
            by_cases c34 : t367 = a2
            · rw [if_pos c34] at H
              have c34b0 : (t367 == a2) = true := beq_iff_eq.mpr c34
              have c34b1 : (t367 != a2) = false := bne_eq_false_iff_eq.mpr c34
              clear c34
              by_cases c35 : t375 > a1
              · rw [if_pos c35] at H
                have c35b0 : decide (a1 < t375) = true := decide_eq_true c35
                clear c35
                have H' := Aside0.mk H
                clear H
                go_wp2
                go_meet
                case rel => exact ⟨_, (true), (by first | rfl | (simp; done) | (simp [*]; done)), H', ⟨by first | omega | exact Nat.le_refl _⟩, ⟨by (with_reducible repeat (first | refine blk_drewN ?_ _ | refine blk_drew ?_ | refine blk_alloc ?_ _)); exact BK349.out⟩, ⟨by repeat (first | (with_reducible first | exact HB.out | apply below_alloc | apply pw_below_drewN | apply below_drew1 | refine below_set ?_ GE349.out) | exact HB.out)⟩⟩
              · rw [if_neg c35] at H
                have c35b0 : decide (a1 < t375) = false := decide_eq_false c35
                clear c35
                have H' := Aside0.mk H
                clear H
                go_wp2
                go_meet
                case rel => exact ⟨_, (decide (t358 > a1)), (by first | rfl | (simp; done) | (simp [*]; done)), H', ⟨by first | omega | exact Nat.le_refl _⟩, ⟨by (with_reducible repeat (first | refine blk_drewN ?_ _ | refine blk_drew ?_ | refine blk_alloc ?_ _)); exact BK349.out⟩, ⟨by repeat (first | (with_reducible first | exact HB.out | apply below_alloc | apply pw_below_drewN | apply below_drew1 | refine below_set ?_ GE349.out) | exact HB.out)⟩⟩
            · rw [if_neg c34] at H
              have c34b0 : (t367 == a2) = false := beq_eq_false_iff_ne.mpr c34
              have c34b1 : (t367 != a2) = true := bne_iff_ne.mpr c34
              have H' := Aside0.mk H
              clear H
              go_wp2
              go_meet
              case rel => exact ⟨_, (true), (by first | rfl | (simp; done) | (simp [*]; done)), H', ⟨by first | omega | exact Nat.le_refl _⟩, ⟨by (with_reducible repeat (first | refine blk_drewN ?_ _ | refine blk_drew ?_ | refine blk_alloc ?_ _)); exact BK349.out⟩, ⟨by repeat (first | (with_reducible first | exact HB.out | apply below_alloc | apply pw_below_drewN | apply below_drew1 | refine below_set ?_ GE349.out) | exact HB.out)⟩⟩
          · rw [if_neg c33] at H
            have c33b0 : (t376 == 0) = false := beq_eq_false_iff_ne.mpr c33
            have c33b1 : (t376 != 0) = true := bne_iff_ne.mpr c33
            have H' := Aside0.mk H
            clear H
            go_wp2
            go_meet
            case rel => exact ⟨_, (true), (by first | rfl | (simp; done) | (simp [*]; done)), H', ⟨by first | omega | exact Nat.le_refl _⟩, ⟨by (with_reducible repeat (first | refine blk_drewN ?_ _ | refine blk_drew ?_ | refine blk_alloc ?_ _)); exact BK349.out⟩, ⟨by repeat (first | (with_reducible first | exact HB.out | apply below_alloc | apply pw_below_drewN | apply below_drew1 | refine below_set ?_ GE349.out) | exact HB.out)⟩⟩
        · rw [if_neg c32] at H
          have c32b0 : (t368 == 0) = false := beq_eq_false_iff_ne.mpr c32
          have c32b1 : (t368 != 0) = true := bne_iff_ne.mpr c32
          (first | rw [c32b0] | (simp only [i64_w, i32_w]; rw [c32b0]) | skip)
          have H' := Aside0.mk H
          clear H
          go_wp2
          go_meet
          case rel => exact ⟨_, (true), (by first | rfl | (simp; done) | (simp [*]; done)), H', ⟨by first | omega | exact Nat.le_refl _⟩, ⟨by (with_reducible repeat (first | refine blk_drewN ?_ _ | refine blk_drew ?_ | refine blk_alloc ?_ _)); exact BK349.out⟩, ⟨by repeat (first | (with_reducible first | exact HB.out | apply below_alloc | apply pw_below_drewN | apply below_drew1 | refine below_set ?_ GE349.out) | exact HB.out)⟩⟩
      case rest =>
        clear HC13
        try clear c1
        try clear c2
        try clear p2
        try clear c3
        try clear c5
        try clear c7
        try clear c8
        try clear c8b0
        try clear c8b1
        try clear c11
        try clear c13
        try clear c14
        try clear c20
        try clear c21
        try clear c32
        try clear c32b0
        try clear c32b1
        try clear c33
        try clear c33b0
        try clear c33b1
        try clear c34
        try clear c34b0
        try clear c34b1
        try clear c35
        try clear c35b0
        try clear hcz15_0
        try clear hcz15_1
        try clear hcz17_0
        try clear hcz17_1
        try clear hcz22_0
        try clear hcz22_1
        try clear hcz27_0
        try clear hcz27_1
        try clear hfz15_0
        try clear hfz15_1
        try clear hfz17_0
        try clear hfz17_1
        try clear hfz22_0
        try clear hfz22_1
        try clear hfz27_0
        try clear hfz27_1
        obtain ⟨kq, x66_12, rfl, HA, HJ12, BK349, HB⟩ := hcut
        cases kq with
        | zero => exact absurd HA.out (by simp [gangsawlaw12_ShiftInverse.j0])
        | succ kj12 =>
          have H := HA.out
          clear HA
          simp only [gangsawlaw12_ShiftInverse.j0] at H
          by_cases c36 : x66_12 = true
          · subst c36
            have H1 : (some false) = some r := by rw [if_pos rfl] at H; exact H
            clear H
            have H := H1
            clear H1
            obtain rfl := Option.some.inj H
            go_wp2
            go_ret
            exact ⟨by first | rfl | (simp [errW_none, errW_some] <;> rfl) | (simp [*, errW_none, errW_some] <;> rfl), by repeat (first | (with_reducible first | exact HB.out | apply below_alloc | apply pw_below_drewN | apply below_drew1 | refine below_set ?_ GE349.out) | exact HB.out)⟩
          · replace c36 := Bool.eq_false_iff.mpr c36
            subst c36
            have H1 : (if a2 = 0 then ((gangsawlaw12_awake.f kj12).bind fun t377 => (if t377 = true then (some (t358 == a1)) else (some false))) else ((gangsawlaw12_ours.f l0_0 l0_1).bind fun bt378 => ((shift_Open.f kj12 bt378.1 bt378.2 t358).bind fun bt384 => ((gangsawlaw12_awake.f kj12).bind fun t386 => (if t386 = true then (if bt384.2 = 0 then (gangsawlaw12_ShiftInverse.j1 kj12 bt384.1) else (gangsawlaw12_ShiftInverse.j1 kj12 false)) else (gangsawlaw12_ShiftInverse.j1 kj12 false)))))) = some r := by rw [if_neg (show ¬ (false = true) by decide)] at H; exact H
            clear H
            have H := H1
            clear H1
            by_cases c37 : a2 = 0
            · rw [if_pos c37] at H
              have c37b0 : (a2 == 0) = true := beq_iff_eq.mpr c37
              have c37b1 : (a2 != 0) = false := bne_eq_false_iff_eq.mpr c37
              clear c37
              replace H := Option.bind_eq_some_iff.mp H
              obtain ⟨t377, A380, H⟩ := H
              replace H : (if t377 = true then (some (t358 == a1)) else (some false)) = some r := H
              have A38 := Aside0.mk A380
              clear A380
              by_cases c39 : t377 = true
              · subst c39
                have H1 : (some (t358 == a1)) = some r := by rw [if_pos rfl] at H; exact H
                clear H
                have H := H1
                clear H1
                obtain rfl := Option.some.inj H
                go_wp2_with (first | ((with_reducible refine gate_callee (f := 12) rfl ?_); refine goesL_ (some 69) rfl rfl Try.func12 (by kernel_rfl) rfl #[] rfl (by (try simp only [List.map_toArray, List.map_cons, List.map_nil]); first | done | rfl | (simp only [List.length_drop, List.length_take]; rfl)) ?_; (with_reducible refine (gangsawlaw12_awake.calls kj12  true _ A38.out).mono ?_); rintro e w40 ⟨rfl, hb⟩; refine ⟨_, rfl, ?_⟩; have n0_ := Aside0.mk (blk_below (g := gb349) (o := .cells #[.slice A0_0 l0_0.length c0_0, .slice A0_1 l0_1.length c0_1] 25 (0, 0)) (by (with_reducible repeat (first | refine blk_drewN ?_ _ | refine blk_drew ?_ | refine blk_alloc ?_ _)); exact BK349.out) hb); have n1_ := Aside0.mk (below_step (by repeat (first | (with_reducible first | exact HB.out | apply below_alloc | apply pw_below_drewN | apply below_drew1 | refine below_set ?_ GE349.out) | exact HB.out)) hb); clear BK349; clear HB; have BK349 := n0_; have HB := n1_; clear n0_ n1_; (try clear hb); (try clear hb2); (try clear hk); (try clear hi)))
                go_ret
                exact ⟨by first | rfl | (simp [errW_none, errW_some] <;> rfl) | (simp [*, errW_none, errW_some] <;> rfl), by repeat (first | (with_reducible first | exact HB.out | apply below_alloc | apply pw_below_drewN | apply below_drew1 | refine below_set ?_ GE349.out) | exact HB.out)⟩
              · replace c39 := Bool.eq_false_iff.mpr c39
                subst c39
                have H1 : (some false) = some r := by rw [if_neg (show ¬ (false = true) by decide)] at H; exact H
                clear H
                have H := H1
                clear H1
                obtain rfl := Option.some.inj H
                go_wp2_with (first | ((with_reducible refine gate_callee (f := 12) rfl ?_); refine goesL_ (some 69) rfl rfl Try.func12 (by kernel_rfl) rfl #[] rfl (by (try simp only [List.map_toArray, List.map_cons, List.map_nil]); first | done | rfl | (simp only [List.length_drop, List.length_take]; rfl)) ?_; (with_reducible refine (gangsawlaw12_awake.calls kj12  false _ A38.out).mono ?_); rintro e w41 ⟨rfl, hb⟩; refine ⟨_, rfl, ?_⟩; have n0_ := Aside0.mk (blk_below (g := gb349) (o := .cells #[.slice A0_0 l0_0.length c0_0, .slice A0_1 l0_1.length c0_1] 25 (0, 0)) (by (with_reducible repeat (first | refine blk_drewN ?_ _ | refine blk_drew ?_ | refine blk_alloc ?_ _)); exact BK349.out) hb); have n1_ := Aside0.mk (below_step (by repeat (first | (with_reducible first | exact HB.out | apply below_alloc | apply pw_below_drewN | apply below_drew1 | refine below_set ?_ GE349.out) | exact HB.out)) hb); clear BK349; clear HB; have BK349 := n0_; have HB := n1_; clear n0_ n1_; (try clear hb); (try clear hb2); (try clear hk); (try clear hi)))
                go_ret
                exact ⟨by first | rfl | (simp [errW_none, errW_some] <;> rfl) | (simp [*, errW_none, errW_some] <;> rfl), by repeat (first | (with_reducible first | exact HB.out | apply below_alloc | apply pw_below_drewN | apply below_drew1 | refine below_set ?_ GE349.out) | exact HB.out)⟩
            · rw [if_neg c37] at H
              have c37b0 : (a2 == 0) = false := beq_eq_false_iff_ne.mpr c37
              have c37b1 : (a2 != 0) = true := bne_iff_ne.mpr c37
              replace H := Option.bind_eq_some_iff.mp H
              obtain ⟨⟨t378, t381⟩, A420, H⟩ := H
              replace H : ((shift_Open.f kj12 t378 t381 t358).bind fun bt384 => ((gangsawlaw12_awake.f kj12).bind fun t386 => (if t386 = true then (if bt384.2 = 0 then (gangsawlaw12_ShiftInverse.j1 kj12 bt384.1) else (gangsawlaw12_ShiftInverse.j1 kj12 false)) else (gangsawlaw12_ShiftInverse.j1 kj12 false)))) = some r := H
              have A42 := Aside0.mk A420
              clear A420
              replace H := Option.bind_eq_some_iff.mp H
              obtain ⟨⟨t384, t385⟩, A430, H⟩ := H
              replace H : ((gangsawlaw12_awake.f kj12).bind fun t386 => (if t386 = true then (if t385 = 0 then (gangsawlaw12_ShiftInverse.j1 kj12 t384) else (gangsawlaw12_ShiftInverse.j1 kj12 false)) else (gangsawlaw12_ShiftInverse.j1 kj12 false))) = some r := H
              have A43 := Aside0.mk A430
              clear A430
              have HC44 := Aside0.mk H
              clear H
              have hcz45_0 : wc.cell? ⟨gb349, 0, none⟩ = some (.slice A0_0 l0_0.length c0_0) := (blk_cell BK349.out 0).trans rfl
              have hcz45_1 : wc.cell? ⟨gb349, 1, none⟩ = some (.slice A0_1 l0_1.length c0_1) := (blk_cell BK349.out 1).trans rfl
              have hfz45_0 := blk_frozen BK349.out 0
              have hfz45_1 := blk_frozen BK349.out 1
              go_upto_region 13 with (first | ((with_reducible refine gate_callee (f := 14) rfl ?_); refine goesL_ (some 77) rfl rfl Try.func14 (by kernel_rfl) rfl #[.agg #[.slice A0_0 l0_0.length c0_0, .slice A0_1 l0_1.length c0_1]] rfl (by (try simp only [List.map_toArray, List.map_cons, List.map_nil]); first | done | rfl | (simp only [List.length_drop, List.length_take]; rfl)) ?_; (with_reducible refine (gangsawlaw12_ours.calls (fun k_ => k_ < w.heap.size) _ _ l0_0 (fun k_ => k_ < w.heap.size) _ _ l0_1 t378 t381 _ ?side1 ?side2 A42.out).mono ?_); (case side1 => exact Kd.V_mk HC0_0.out (Kd.F_below (Kd.C_F k54_heap HR0_0.out) (by repeat (first | (with_reducible first | exact HB.out | apply below_alloc | apply pw_below_drewN | apply below_drew1 | refine below_set ?_ GE349.out) | exact HB.out)))); (case side2 => exact Kd.V_mk HC0_1.out (Kd.F_below (Kd.C_F (Kd.heap_int .i64) HR0_1.out) (by repeat (first | (with_reducible first | exact HB.out | apply below_alloc | apply pw_below_drewN | apply below_drew1 | refine below_set ?_ GE349.out) | exact HB.out)))); rintro e w46 ⟨v379, v382, rfl, ho0, ho1, hb⟩; refine ⟨_, rfl, ?_⟩; have n0_ := Aside0.mk (Kd.V_lower (Kd.V_mono (ok' := fun k_ => k_ ≠ gb349) ho0 (fun k_ hk_ => Or.elim hk_ (fun hs_ => Or.elim hs_ (fun hs_ => fun e_ => Nat.not_le.2 hs_ (by rw [e_]; exact GW349.out)) (fun hs_ => fun e_ => Nat.not_le.2 hs_ (by rw [e_]; exact GW349.out))) (fun hn_ => (Kd.freshB (g := gb349) (o := .cells #[.slice A0_0 l0_0.length c0_0, .slice A0_1 l0_1.length c0_1] 25 (0, 0)) (by (with_reducible repeat (first | refine blk_drewN ?_ _ | refine blk_drew ?_ | refine blk_alloc ?_ _)); exact BK349.out) k_ hn_)))) (below_size (by repeat (first | (with_reducible first | exact HB.out | apply below_alloc | apply pw_below_drewN | apply below_drew1 | refine below_set ?_ GE349.out) | exact HB.out)))); have n1_ := Aside0.mk (Kd.V_lower (Kd.V_mono (ok' := fun k_ => k_ ≠ gb349) ho1 (fun k_ hk_ => Or.elim hk_ (fun hs_ => Or.elim hs_ (fun hs_ => fun e_ => Nat.not_le.2 hs_ (by rw [e_]; exact GW349.out)) (fun hs_ => fun e_ => Nat.not_le.2 hs_ (by rw [e_]; exact GW349.out))) (fun hn_ => (Kd.freshB (g := gb349) (o := .cells #[.slice A0_0 l0_0.length c0_0, .slice A0_1 l0_1.length c0_1] 25 (0, 0)) (by (with_reducible repeat (first | refine blk_drewN ?_ _ | refine blk_drew ?_ | refine blk_alloc ?_ _)); exact BK349.out) k_ hn_)))) (below_size (by repeat (first | (with_reducible first | exact HB.out | apply below_alloc | apply pw_below_drewN | apply below_drew1 | refine below_set ?_ GE349.out) | exact HB.out)))); have n2_ := Aside0.mk (blk_below (g := gb349) (o := .cells #[.slice A0_0 l0_0.length c0_0, .slice A0_1 l0_1.length c0_1] 25 (0, 0)) (by (with_reducible repeat (first | refine blk_drewN ?_ _ | refine blk_drew ?_ | refine blk_alloc ?_ _)); exact BK349.out) hb); have n3_ := Aside0.mk (below_step (by repeat (first | (with_reducible first | exact HB.out | apply below_alloc | apply pw_below_drewN | apply below_drew1 | refine below_set ?_ GE349.out) | exact HB.out)) hb); clear BK349; clear HB; have HO380 := n0_; have HO383 := n1_; have BK349 := n2_; have HB := n3_; clear n0_ n1_ n2_ n3_; (try clear hb); (try clear hb2); (try clear hk); (try clear hi); (try clear ho0); (try clear ho1); obtain ⟨Ao47, co47, eo47⟩ := Kd.V_slice HO380.out; subst eo47; obtain ⟨Ao48, co48, eo48⟩ := Kd.V_slice HO383.out; subst eo48) | ((with_reducible refine gate_callee (f := 27) rfl ?_); refine goesL_ (some 79) rfl rfl Try.func27 (by kernel_rfl) rfl #[.agg #[.slice Ao47 t378.length co47, .slice Ao48 t381.length co48], .int .i64 t358] rfl (by (try simp only [List.map_toArray, List.map_cons, List.map_nil]); first | done | rfl | (simp only [List.length_drop, List.length_take]; rfl)) ?_; (with_reducible refine (shift_Open.calls kj12 _ _ t378 _ _ t381 t358 t384 t385 _ ?side1 ?side2 ?side3 ?side4 A43.out).mono ?_); (case side1 => repeat (first | exact (Kd.V_reads' HO380.out).2.2 | (with_reducible refine Kd.C_alloc ?_ _) | (with_reducible refine Kd.C_drewN ?_ _) | (with_reducible refine Kd.C_drew ?_))); (case side2 => exact (Kd.V_reads' HO380.out).2.1); (case side3 => repeat (first | exact (Kd.V_reads' HO383.out).2.2 | (with_reducible refine Kd.C_alloc ?_ _) | (with_reducible refine Kd.C_drewN ?_ _) | (with_reducible refine Kd.C_drew ?_))); (case side4 => exact (Kd.V_reads' HO383.out).2.1); rintro e w49 ⟨rfl, hb⟩; refine ⟨_, rfl, ?_⟩; have n0_ := Aside0.mk (Kd.V_below (by (with_reducible repeat (first | apply Kd.V_alloc | apply Kd.V_drewN | apply Kd.V_drew)); exact HO380.out) hb); have n1_ := Aside0.mk (Kd.V_below (by (with_reducible repeat (first | apply Kd.V_alloc | apply Kd.V_drewN | apply Kd.V_drew)); exact HO383.out) hb); have n2_ := Aside0.mk (blk_below (g := gb349) (o := .cells #[.slice A0_0 l0_0.length c0_0, .slice A0_1 l0_1.length c0_1] 25 (0, 0)) (by (with_reducible repeat (first | refine blk_drewN ?_ _ | refine blk_drew ?_ | refine blk_alloc ?_ _)); exact BK349.out) hb); have n3_ := Aside0.mk (below_step (by repeat (first | (with_reducible first | exact HB.out | apply below_alloc | apply pw_below_drewN | apply below_drew1 | refine below_set ?_ GE349.out) | exact HB.out)) hb); clear HO380; clear HO383; clear BK349; clear HB; have HO380 := n0_; have HO383 := n1_; have BK349 := n2_; have HB := n3_; clear n0_ n1_ n2_ n3_; (try clear hb); (try clear hb2); (try clear hk); (try clear hi)))
              (try simp only [Act.put, List.setIfInBounds_toArray, List.set_cons_zero, List.set_cons_succ])
              go_cut [6] (fun v6 wc => ∃ (kq : Nat) (x6_43 : Bool), v6 = .bool x6_43 ∧ Aside0 (gangsawlaw12_ShiftInverse.j1 kq x6_43 = some r) ∧ Aside0 (kq ≤ kj12) ∧ Aside0 (wc.heap[gb349]? = some (.cells #[(.slice A0_0 l0_0.length c0_0), (.slice A0_1 l0_1.length c0_1)] 25 (0, 0))) ∧ Aside0 (Below w.heap.size w wc))
              case first =>
                have H := HC44.out
                clear HC44
                replace H := Option.bind_eq_some_iff.mp H
                obtain ⟨t386, A500, H⟩ := H
                replace H : (if t386 = true then (if t385 = 0 then (gangsawlaw12_ShiftInverse.j1 kj12 t384) else (gangsawlaw12_ShiftInverse.j1 kj12 false)) else (gangsawlaw12_ShiftInverse.j1 kj12 false)) = some r := H
                have A50 := Aside0.mk A500
                clear A500
                by_cases c51 : t386 = true
                · subst c51
                  have H1 : (if t385 = 0 then (gangsawlaw12_ShiftInverse.j1 kj12 t384) else (gangsawlaw12_ShiftInverse.j1 kj12 false)) = some r := by rw [if_pos rfl] at H; exact H
                  clear H
                  have H := H1
                  clear H1
                  by_cases c52 : t385 = 0
                  · rw [if_pos c52] at H
                    have c52b0 : (t385 == 0) = true := beq_iff_eq.mpr c52
                    have c52b1 : (t385 != 0) = false := bne_eq_false_iff_eq.mpr c52
                    clear c52
                    (first | rw [c52b0] | (simp only [i64_w, i32_w]; rw [c52b0]) | skip)
                    have H' := Aside0.mk H
                    clear H
                    go_wp2_with (first | ((with_reducible refine gate_callee (f := 12) rfl ?_); refine goesL_ (some 82) rfl rfl Try.func12 (by kernel_rfl) rfl #[] rfl (by (try simp only [List.map_toArray, List.map_cons, List.map_nil]); first | done | rfl | (simp only [List.length_drop, List.length_take]; rfl)) ?_; (with_reducible refine (gangsawlaw12_awake.calls kj12  true _ A50.out).mono ?_); rintro e w53 ⟨rfl, hb⟩; refine ⟨_, rfl, ?_⟩; have n0_ := Aside0.mk (Kd.V_below (by (with_reducible repeat (first | apply Kd.V_alloc | apply Kd.V_drewN | apply Kd.V_drew)); exact HO380.out) hb); have n1_ := Aside0.mk (Kd.V_below (by (with_reducible repeat (first | apply Kd.V_alloc | apply Kd.V_drewN | apply Kd.V_drew)); exact HO383.out) hb); have n2_ := Aside0.mk (blk_below (g := gb349) (o := .cells #[.slice A0_0 l0_0.length c0_0, .slice A0_1 l0_1.length c0_1] 25 (0, 0)) (by (with_reducible repeat (first | refine blk_drewN ?_ _ | refine blk_drew ?_ | refine blk_alloc ?_ _)); exact BK349.out) hb); have n3_ := Aside0.mk (below_step (by repeat (first | (with_reducible first | exact HB.out | apply below_alloc | apply pw_below_drewN | apply below_drew1 | refine below_set ?_ GE349.out) | exact HB.out)) hb); clear HO380; clear HO383; clear BK349; clear HB; have HO380 := n0_; have HO383 := n1_; have BK349 := n2_; have HB := n3_; clear n0_ n1_ n2_ n3_; (try clear hb); (try clear hb2); (try clear hk); (try clear hi)))
                    go_meet
                    case rel => exact ⟨_, (t384), (by first | rfl | (simp; done) | (simp [*]; done)), H', ⟨by have := HJ12.out; first | omega | exact Nat.le_refl _⟩, ⟨by (with_reducible repeat (first | refine blk_drewN ?_ _ | refine blk_drew ?_ | refine blk_alloc ?_ _)); exact BK349.out⟩, ⟨by repeat (first | (with_reducible first | exact HB.out | apply below_alloc | apply pw_below_drewN | apply below_drew1 | refine below_set ?_ GE349.out) | exact HB.out)⟩⟩
                  · rw [if_neg c52] at H
                    have c52b0 : (t385 == 0) = false := beq_eq_false_iff_ne.mpr c52
                    have c52b1 : (t385 != 0) = true := bne_iff_ne.mpr c52
                    (first | rw [c52b0] | (simp only [i64_w, i32_w]; rw [c52b0]) | skip)
                    have H' := Aside0.mk H
                    clear H
                    go_wp2_with (first | ((with_reducible refine gate_callee (f := 12) rfl ?_); refine goesL_ (some 82) rfl rfl Try.func12 (by kernel_rfl) rfl #[] rfl (by (try simp only [List.map_toArray, List.map_cons, List.map_nil]); first | done | rfl | (simp only [List.length_drop, List.length_take]; rfl)) ?_; (with_reducible refine (gangsawlaw12_awake.calls kj12  true _ A50.out).mono ?_); rintro e w54 ⟨rfl, hb⟩; refine ⟨_, rfl, ?_⟩; have n0_ := Aside0.mk (Kd.V_below (by (with_reducible repeat (first | apply Kd.V_alloc | apply Kd.V_drewN | apply Kd.V_drew)); exact HO380.out) hb); have n1_ := Aside0.mk (Kd.V_below (by (with_reducible repeat (first | apply Kd.V_alloc | apply Kd.V_drewN | apply Kd.V_drew)); exact HO383.out) hb); have n2_ := Aside0.mk (blk_below (g := gb349) (o := .cells #[.slice A0_0 l0_0.length c0_0, .slice A0_1 l0_1.length c0_1] 25 (0, 0)) (by (with_reducible repeat (first | refine blk_drewN ?_ _ | refine blk_drew ?_ | refine blk_alloc ?_ _)); exact BK349.out) hb); have n3_ := Aside0.mk (below_step (by repeat (first | (with_reducible first | exact HB.out | apply below_alloc | apply pw_below_drewN | apply below_drew1 | refine below_set ?_ GE349.out) | exact HB.out)) hb); clear HO380; clear HO383; clear BK349; clear HB; have HO380 := n0_; have HO383 := n1_; have BK349 := n2_; have HB := n3_; clear n0_ n1_ n2_ n3_; (try clear hb); (try clear hb2); (try clear hk); (try clear hi)))
                    go_meet
                    case rel => exact ⟨_, (false), (by first | rfl | (simp; done) | (simp [*]; done)), H', ⟨by have := HJ12.out; first | omega | exact Nat.le_refl _⟩, ⟨by (with_reducible repeat (first | refine blk_drewN ?_ _ | refine blk_drew ?_ | refine blk_alloc ?_ _)); exact BK349.out⟩, ⟨by repeat (first | (with_reducible first | exact HB.out | apply below_alloc | apply pw_below_drewN | apply below_drew1 | refine below_set ?_ GE349.out) | exact HB.out)⟩⟩
                · replace c51 := Bool.eq_false_iff.mpr c51
                  subst c51
                  have H1 : (gangsawlaw12_ShiftInverse.j1 kj12 false) = some r := by rw [if_neg (show ¬ (false = true) by decide)] at H; exact H
                  clear H
                  have H := H1
                  clear H1
                  have H' := Aside0.mk H
                  clear H
                  go_wp2_with (first | ((with_reducible refine gate_callee (f := 12) rfl ?_); refine goesL_ (some 82) rfl rfl Try.func12 (by kernel_rfl) rfl #[] rfl (by (try simp only [List.map_toArray, List.map_cons, List.map_nil]); first | done | rfl | (simp only [List.length_drop, List.length_take]; rfl)) ?_; (with_reducible refine (gangsawlaw12_awake.calls kj12  false _ A50.out).mono ?_); rintro e w55 ⟨rfl, hb⟩; refine ⟨_, rfl, ?_⟩; have n0_ := Aside0.mk (Kd.V_below (by (with_reducible repeat (first | apply Kd.V_alloc | apply Kd.V_drewN | apply Kd.V_drew)); exact HO380.out) hb); have n1_ := Aside0.mk (Kd.V_below (by (with_reducible repeat (first | apply Kd.V_alloc | apply Kd.V_drewN | apply Kd.V_drew)); exact HO383.out) hb); have n2_ := Aside0.mk (blk_below (g := gb349) (o := .cells #[.slice A0_0 l0_0.length c0_0, .slice A0_1 l0_1.length c0_1] 25 (0, 0)) (by (with_reducible repeat (first | refine blk_drewN ?_ _ | refine blk_drew ?_ | refine blk_alloc ?_ _)); exact BK349.out) hb); have n3_ := Aside0.mk (below_step (by repeat (first | (with_reducible first | exact HB.out | apply below_alloc | apply pw_below_drewN | apply below_drew1 | refine below_set ?_ GE349.out) | exact HB.out)) hb); clear HO380; clear HO383; clear BK349; clear HB; have HO380 := n0_; have HO383 := n1_; have BK349 := n2_; have HB := n3_; clear n0_ n1_ n2_ n3_; (try clear hb); (try clear hb2); (try clear hk); (try clear hi)))
                  go_meet
                  case rel => exact ⟨_, (false), (by first | rfl | (simp; done) | (simp [*]; done)), H', ⟨by have := HJ12.out; first | omega | exact Nat.le_refl _⟩, ⟨by (with_reducible repeat (first | refine blk_drewN ?_ _ | refine blk_drew ?_ | refine blk_alloc ?_ _)); exact BK349.out⟩, ⟨by repeat (first | (with_reducible first | exact HB.out | apply below_alloc | apply pw_below_drewN | apply below_drew1 | refine below_set ?_ GE349.out) | exact HB.out)⟩⟩
              case rest =>
                clear HC44
                try clear c1
                try clear c2
                try clear p2
                try clear c3
                try clear c5
                try clear c7
                try clear c8
                try clear c8b0
                try clear c8b1
                try clear c11
                try clear c12
                try clear c13
                try clear c14
                try clear c20
                try clear c21
                try clear c27
                try clear c32
                try clear c32b0
                try clear c32b1
                try clear c33
                try clear c33b0
                try clear c33b1
                try clear c34
                try clear c34b0
                try clear c34b1
                try clear c35
                try clear c35b0
                try clear c36
                try clear c37
                try clear c37b0
                try clear c37b1
                try clear c39
                try clear c51
                try clear c52
                try clear c52b0
                try clear c52b1
                try clear hcz15_0
                try clear hcz15_1
                try clear hcz17_0
                try clear hcz17_1
                try clear hcz22_0
                try clear hcz22_1
                try clear hcz27_0
                try clear hcz27_1
                try clear hcz45_0
                try clear hcz45_1
                try clear hfz15_0
                try clear hfz15_1
                try clear hfz17_0
                try clear hfz17_1
                try clear hfz22_0
                try clear hfz22_1
                try clear hfz27_0
                try clear hfz27_1
                try clear hfz45_0
                try clear hfz45_1
                try clear p2
                obtain ⟨kq, x6_43, rfl, HA, HJ43, BK349, HB⟩ := hcut
                cases kq with
                | zero => exact absurd HA.out (by simp [gangsawlaw12_ShiftInverse.j1])
                | succ kj43 =>
                  have H := HA.out
                  clear HA
                  simp only [gangsawlaw12_ShiftInverse.j1] at H
                  obtain rfl := Option.some.inj H
                  go_wp2
                  go_ret
                  exact ⟨by first | rfl | (simp [errW_none, errW_some] <;> rfl) | (simp [*, errW_none, errW_some] <;> rfl), by repeat (first | (with_reducible first | exact HB.out | apply below_alloc | apply pw_below_drewN | apply below_drew1 | refine below_set ?_ GE349.out) | exact HB.out)⟩
    · rw [if_neg c8] at H
      have c8b0 : (t359 == 0) = false := beq_eq_false_iff_ne.mpr c8
      have c8b1 : (t359 != 0) = true := bne_iff_ne.mpr c8
      replace H := Option.bind_eq_some_iff.mp H
      obtain ⟨t360, A560, H⟩ := H
      replace H : (some t360) = some r := H
      have A56 := Aside0.mk A560
      clear A560
      obtain rfl := Option.some.inj H
      go_enter Try.func7, Try.ntmps7
      go_wp2_with (first | ((with_reducible refine gate_dst (N := 3) rfl ?_); refine box_event ?hg (N := 3) ?hd (cs := #[.slice A0_0 l0_0.length c0_0, .slice A0_1 l0_1.length c0_1]) (t := 25) ?hr ?_; (case hd => rfl); (case hg => rfl); (case hr => first | (go_simp; done) | (go_simp; rfl)); intro gb349 hg w57 hbox hb; have n0_ := Aside0.mk (below_step (by repeat (first | (with_reducible first | exact HB.out | apply below_alloc | apply pw_below_drewN | apply below_drew1) | exact HB.out)) hb); have n1_ := Aside0.mk (hbox); have n2_ := Aside0.mk ((by rw [hg]; exact (below_size (by repeat (first | (with_reducible first | exact HB.out | apply below_alloc | apply pw_below_drewN | apply below_drew1) | exact HB.out))) : w.heap.size ≤ gb349)); have n3_ := Aside0.mk ((by rw [hg]; exact (below_size (by repeat (first | (with_reducible first | exact HB.out | apply below_alloc | apply pw_below_drewN | apply below_drew1) | exact HB.out))) : w.heap.size ≤ gb349)); clear HB; have HB := n0_; have BK349 := n1_; have GW349 := n2_; have GE349 := n3_; clear n0_ n1_ n2_ n3_; clear hb hbox hg; have hcz58_0 : w57.cell? ⟨gb349, 0, none⟩ = some (.slice A0_0 l0_0.length c0_0) := (blk_cell BK349.out 0).trans rfl; have hcz58_1 : w57.cell? ⟨gb349, 1, none⟩ = some (.slice A0_1 l0_1.length c0_1) := (blk_cell BK349.out 1).trans rfl; have hfz58_0 := blk_frozen BK349.out 0; have hfz58_1 := blk_frozen BK349.out 1) | ((with_reducible refine gate_callee (f := 11) rfl ?_); refine goesL_ (some 16) rfl rfl Try.func11 (by kernel_rfl) rfl #[.agg #[.slice A0_0 l0_0.length c0_0, .slice A0_1 l0_1.length c0_1]] rfl (by (try simp only [List.map_toArray, List.map_cons, List.map_nil]); first | done | rfl | (simp only [List.length_drop, List.length_take]; rfl)) ?_; (with_reducible refine (gangsawlaw12_few.calls _ _ l0_0 _ _ l0_1 true _ ?side1 ?side2 ?side3 ?side4 A4.out).mono ?_); (case side1 => repeat (first | exact (Kd.C_below HR0_0.out HB.out) | (with_reducible refine Kd.C_alloc ?_ _) | (with_reducible refine Kd.C_drewN ?_ _) | (with_reducible refine Kd.C_drew ?_))); (case side2 => exact HC0_0.out); (case side3 => repeat (first | exact (Kd.C_below HR0_1.out HB.out) | (with_reducible refine Kd.C_alloc ?_ _) | (with_reducible refine Kd.C_drewN ?_ _) | (with_reducible refine Kd.C_drew ?_))); (case side4 => exact HC0_1.out); rintro e w59 ⟨rfl, hb⟩; refine ⟨_, rfl, ?_⟩; have n0_ := Aside0.mk (blk_below (g := gb349) (o := .cells #[.slice A0_0 l0_0.length c0_0, .slice A0_1 l0_1.length c0_1] 25 (0, 0)) (by (with_reducible repeat (first | refine blk_drewN ?_ _ | refine blk_drew ?_ | refine blk_alloc ?_ _)); exact BK349.out) hb); have n1_ := Aside0.mk (below_step (by repeat (first | (with_reducible first | exact HB.out | apply below_alloc | apply pw_below_drewN | apply below_drew1 | refine below_set ?_ GE349.out) | exact HB.out)) hb); clear BK349; clear HB; have BK349 := n0_; have HB := n1_; clear n0_ n1_; (try clear hb); (try clear hb2); (try clear hk); (try clear hi); have hcz60_0 : w59.cell? ⟨gb349, 0, none⟩ = some (.slice A0_0 l0_0.length c0_0) := (blk_cell BK349.out 0).trans rfl; have hcz60_1 : w59.cell? ⟨gb349, 1, none⟩ = some (.slice A0_1 l0_1.length c0_1) := (blk_cell BK349.out 1).trans rfl; have hfz60_0 := blk_frozen BK349.out 0; have hfz60_1 := blk_frozen BK349.out 1) | ((with_reducible refine gate_callee (f := 14) rfl ?_); refine goesL_ (some 21) rfl rfl Try.func14 (by kernel_rfl) rfl #[.agg #[.slice A0_0 l0_0.length c0_0, .slice A0_1 l0_1.length c0_1]] rfl (by (try simp only [List.map_toArray, List.map_cons, List.map_nil]); first | done | rfl | (simp only [List.length_drop, List.length_take]; rfl)) ?_; (with_reducible refine (gangsawlaw12_ours.calls (fun k_ => k_ < w.heap.size) _ _ l0_0 (fun k_ => k_ < w.heap.size) _ _ l0_1 t352 t355 _ ?side1 ?side2 A6.out).mono ?_); (case side1 => exact Kd.V_mk HC0_0.out (Kd.F_below (Kd.C_F k54_heap HR0_0.out) (by repeat (first | (with_reducible first | exact HB.out | apply below_alloc | apply pw_below_drewN | apply below_drew1 | refine below_set ?_ GE349.out) | exact HB.out)))); (case side2 => exact Kd.V_mk HC0_1.out (Kd.F_below (Kd.C_F (Kd.heap_int .i64) HR0_1.out) (by repeat (first | (with_reducible first | exact HB.out | apply below_alloc | apply pw_below_drewN | apply below_drew1 | refine below_set ?_ GE349.out) | exact HB.out)))); rintro e w61 ⟨v353, v356, rfl, ho0, ho1, hb⟩; refine ⟨_, rfl, ?_⟩; have n0_ := Aside0.mk (Kd.V_lower (Kd.V_mono (ok' := fun k_ => k_ ≠ gb349) ho0 (fun k_ hk_ => Or.elim hk_ (fun hs_ => Or.elim hs_ (fun hs_ => fun e_ => Nat.not_le.2 hs_ (by rw [e_]; exact GW349.out)) (fun hs_ => fun e_ => Nat.not_le.2 hs_ (by rw [e_]; exact GW349.out))) (fun hn_ => (Kd.freshB (g := gb349) (o := .cells #[.slice A0_0 l0_0.length c0_0, .slice A0_1 l0_1.length c0_1] 25 (0, 0)) (by (with_reducible repeat (first | refine blk_drewN ?_ _ | refine blk_drew ?_ | refine blk_alloc ?_ _)); exact BK349.out) k_ hn_)))) (below_size (by repeat (first | (with_reducible first | exact HB.out | apply below_alloc | apply pw_below_drewN | apply below_drew1 | refine below_set ?_ GE349.out) | exact HB.out)))); have n1_ := Aside0.mk (Kd.V_lower (Kd.V_mono (ok' := fun k_ => k_ ≠ gb349) ho1 (fun k_ hk_ => Or.elim hk_ (fun hs_ => Or.elim hs_ (fun hs_ => fun e_ => Nat.not_le.2 hs_ (by rw [e_]; exact GW349.out)) (fun hs_ => fun e_ => Nat.not_le.2 hs_ (by rw [e_]; exact GW349.out))) (fun hn_ => (Kd.freshB (g := gb349) (o := .cells #[.slice A0_0 l0_0.length c0_0, .slice A0_1 l0_1.length c0_1] 25 (0, 0)) (by (with_reducible repeat (first | refine blk_drewN ?_ _ | refine blk_drew ?_ | refine blk_alloc ?_ _)); exact BK349.out) k_ hn_)))) (below_size (by repeat (first | (with_reducible first | exact HB.out | apply below_alloc | apply pw_below_drewN | apply below_drew1 | refine below_set ?_ GE349.out) | exact HB.out)))); have n2_ := Aside0.mk (blk_below (g := gb349) (o := .cells #[.slice A0_0 l0_0.length c0_0, .slice A0_1 l0_1.length c0_1] 25 (0, 0)) (by (with_reducible repeat (first | refine blk_drewN ?_ _ | refine blk_drew ?_ | refine blk_alloc ?_ _)); exact BK349.out) hb); have n3_ := Aside0.mk (below_step (by repeat (first | (with_reducible first | exact HB.out | apply below_alloc | apply pw_below_drewN | apply below_drew1 | refine below_set ?_ GE349.out) | exact HB.out)) hb); clear BK349; clear HB; have HO354 := n0_; have HO357 := n1_; have BK349 := n2_; have HB := n3_; clear n0_ n1_ n2_ n3_; (try clear hb); (try clear hb2); (try clear hk); (try clear hi); (try clear ho0); (try clear ho1); obtain ⟨Ao62, co62, eo62⟩ := Kd.V_slice HO354.out; subst eo62; obtain ⟨Ao63, co63, eo63⟩ := Kd.V_slice HO357.out; subst eo63) | ((with_reducible refine gate_callee (f := 21) rfl ?_); refine goesL_ (some 24) rfl rfl Try.func21 (by kernel_rfl) rfl #[.agg #[.slice Ao62 t352.length co62, .slice Ao63 t355.length co63], .int .i64 a1, .int .i64 a2] rfl (by (try simp only [List.map_toArray, List.map_cons, List.map_nil]); first | done | rfl | (simp only [List.length_drop, List.length_take]; rfl)) ?_; (with_reducible refine (shift_Before.calls k _ _ t352 _ _ t355 a1 a2 t358 t359 _ ?side1 ?side2 ?side3 ?side4 A7.out).mono ?_); (case side1 => repeat (first | exact (Kd.V_reads' HO354.out).2.2 | (with_reducible refine Kd.C_alloc ?_ _) | (with_reducible refine Kd.C_drewN ?_ _) | (with_reducible refine Kd.C_drew ?_))); (case side2 => exact (Kd.V_reads' HO354.out).2.1); (case side3 => repeat (first | exact (Kd.V_reads' HO357.out).2.2 | (with_reducible refine Kd.C_alloc ?_ _) | (with_reducible refine Kd.C_drewN ?_ _) | (with_reducible refine Kd.C_drew ?_))); (case side4 => exact (Kd.V_reads' HO357.out).2.1); rintro e w64 ⟨rfl, hb⟩; refine ⟨_, rfl, ?_⟩; have n0_ := Aside0.mk (Kd.V_below (by (with_reducible repeat (first | apply Kd.V_alloc | apply Kd.V_drewN | apply Kd.V_drew)); exact HO354.out) hb); have n1_ := Aside0.mk (Kd.V_below (by (with_reducible repeat (first | apply Kd.V_alloc | apply Kd.V_drewN | apply Kd.V_drew)); exact HO357.out) hb); have n2_ := Aside0.mk (blk_below (g := gb349) (o := .cells #[.slice A0_0 l0_0.length c0_0, .slice A0_1 l0_1.length c0_1] 25 (0, 0)) (by (with_reducible repeat (first | refine blk_drewN ?_ _ | refine blk_drew ?_ | refine blk_alloc ?_ _)); exact BK349.out) hb); have n3_ := Aside0.mk (below_step (by repeat (first | (with_reducible first | exact HB.out | apply below_alloc | apply pw_below_drewN | apply below_drew1 | refine below_set ?_ GE349.out) | exact HB.out)) hb); clear HO354; clear HO357; clear BK349; clear HB; have HO354 := n0_; have HO357 := n1_; have BK349 := n2_; have HB := n3_; clear n0_ n1_ n2_ n3_; (try clear hb); (try clear hb2); (try clear hk); (try clear hi)) | ((with_reducible refine gate_callee (f := 12) rfl ?_); refine goesL_ (some 29) rfl rfl Try.func12 (by kernel_rfl) rfl #[] rfl (by (try simp only [List.map_toArray, List.map_cons, List.map_nil]); first | done | rfl | (simp only [List.length_drop, List.length_take]; rfl)) ?_; (with_reducible refine (gangsawlaw12_awake.calls k  t360 _ A56.out).mono ?_); rintro e w65 ⟨rfl, hb⟩; refine ⟨_, rfl, ?_⟩; have n0_ := Aside0.mk (Kd.V_below (by (with_reducible repeat (first | apply Kd.V_alloc | apply Kd.V_drewN | apply Kd.V_drew)); exact HO354.out) hb); have n1_ := Aside0.mk (Kd.V_below (by (with_reducible repeat (first | apply Kd.V_alloc | apply Kd.V_drewN | apply Kd.V_drew)); exact HO357.out) hb); have n2_ := Aside0.mk (blk_below (g := gb349) (o := .cells #[.slice A0_0 l0_0.length c0_0, .slice A0_1 l0_1.length c0_1] 25 (0, 0)) (by (with_reducible repeat (first | refine blk_drewN ?_ _ | refine blk_drew ?_ | refine blk_alloc ?_ _)); exact BK349.out) hb); have n3_ := Aside0.mk (below_step (by repeat (first | (with_reducible first | exact HB.out | apply below_alloc | apply pw_below_drewN | apply below_drew1 | refine below_set ?_ GE349.out) | exact HB.out)) hb); clear HO354; clear HO357; clear BK349; clear HB; have HO354 := n0_; have HO357 := n1_; have BK349 := n2_; have HB := n3_; clear n0_ n1_ n2_ n3_; (try clear hb); (try clear hb2); (try clear hk); (try clear hi)))
      go_ret
      exact ⟨by first | rfl | (simp [errW_none, errW_some] <;> rfl) | (simp [*, errW_none, errW_some] <;> rfl), by repeat (first | (with_reducible first | exact HB.out | apply below_alloc | apply pw_below_drewN | apply below_drew1 | refine below_set ?_ GE349.out) | exact HB.out)⟩
  · replace c5 := Bool.eq_false_iff.mpr c5
    subst c5
    have H1 : ((gangsawlaw12_awake.f k).bind fun t351 => (some t351)) = some r := by rw [if_neg (show ¬ (false = true) by decide)] at H; exact H
    clear H
    have H := H1
    clear H1
    replace H := Option.bind_eq_some_iff.mp H
    obtain ⟨t351, A660, H⟩ := H
    replace H : (some t351) = some r := H
    have A66 := Aside0.mk A660
    clear A660
    obtain rfl := Option.some.inj H
    go_enter Try.func7, Try.ntmps7
    go_wp2_with (first | ((with_reducible refine gate_dst (N := 3) rfl ?_); refine box_event ?hg (N := 3) ?hd (cs := #[.slice A0_0 l0_0.length c0_0, .slice A0_1 l0_1.length c0_1]) (t := 25) ?hr ?_; (case hd => rfl); (case hg => rfl); (case hr => first | (go_simp; done) | (go_simp; rfl)); intro gb349 hg w67 hbox hb; have n0_ := Aside0.mk (below_step (by repeat (first | (with_reducible first | exact HB.out | apply below_alloc | apply pw_below_drewN | apply below_drew1) | exact HB.out)) hb); have n1_ := Aside0.mk (hbox); have n2_ := Aside0.mk ((by rw [hg]; exact (below_size (by repeat (first | (with_reducible first | exact HB.out | apply below_alloc | apply pw_below_drewN | apply below_drew1) | exact HB.out))) : w.heap.size ≤ gb349)); have n3_ := Aside0.mk ((by rw [hg]; exact (below_size (by repeat (first | (with_reducible first | exact HB.out | apply below_alloc | apply pw_below_drewN | apply below_drew1) | exact HB.out))) : w.heap.size ≤ gb349)); clear HB; have HB := n0_; have BK349 := n1_; have GW349 := n2_; have GE349 := n3_; clear n0_ n1_ n2_ n3_; clear hb hbox hg; have hcz68_0 : w67.cell? ⟨gb349, 0, none⟩ = some (.slice A0_0 l0_0.length c0_0) := (blk_cell BK349.out 0).trans rfl; have hcz68_1 : w67.cell? ⟨gb349, 1, none⟩ = some (.slice A0_1 l0_1.length c0_1) := (blk_cell BK349.out 1).trans rfl; have hfz68_0 := blk_frozen BK349.out 0; have hfz68_1 := blk_frozen BK349.out 1) | ((with_reducible refine gate_callee (f := 11) rfl ?_); refine goesL_ (some 16) rfl rfl Try.func11 (by kernel_rfl) rfl #[.agg #[.slice A0_0 l0_0.length c0_0, .slice A0_1 l0_1.length c0_1]] rfl (by (try simp only [List.map_toArray, List.map_cons, List.map_nil]); first | done | rfl | (simp only [List.length_drop, List.length_take]; rfl)) ?_; (with_reducible refine (gangsawlaw12_few.calls _ _ l0_0 _ _ l0_1 false _ ?side1 ?side2 ?side3 ?side4 A4.out).mono ?_); (case side1 => repeat (first | exact (Kd.C_below HR0_0.out HB.out) | (with_reducible refine Kd.C_alloc ?_ _) | (with_reducible refine Kd.C_drewN ?_ _) | (with_reducible refine Kd.C_drew ?_))); (case side2 => exact HC0_0.out); (case side3 => repeat (first | exact (Kd.C_below HR0_1.out HB.out) | (with_reducible refine Kd.C_alloc ?_ _) | (with_reducible refine Kd.C_drewN ?_ _) | (with_reducible refine Kd.C_drew ?_))); (case side4 => exact HC0_1.out); rintro e w69 ⟨rfl, hb⟩; refine ⟨_, rfl, ?_⟩; have n0_ := Aside0.mk (blk_below (g := gb349) (o := .cells #[.slice A0_0 l0_0.length c0_0, .slice A0_1 l0_1.length c0_1] 25 (0, 0)) (by (with_reducible repeat (first | refine blk_drewN ?_ _ | refine blk_drew ?_ | refine blk_alloc ?_ _)); exact BK349.out) hb); have n1_ := Aside0.mk (below_step (by repeat (first | (with_reducible first | exact HB.out | apply below_alloc | apply pw_below_drewN | apply below_drew1 | refine below_set ?_ GE349.out) | exact HB.out)) hb); clear BK349; clear HB; have BK349 := n0_; have HB := n1_; clear n0_ n1_; (try clear hb); (try clear hb2); (try clear hk); (try clear hi)) | ((with_reducible refine gate_callee (f := 12) rfl ?_); refine goesL_ (some 18) rfl rfl Try.func12 (by kernel_rfl) rfl #[] rfl (by (try simp only [List.map_toArray, List.map_cons, List.map_nil]); first | done | rfl | (simp only [List.length_drop, List.length_take]; rfl)) ?_; (with_reducible refine (gangsawlaw12_awake.calls k  t351 _ A66.out).mono ?_); rintro e w70 ⟨rfl, hb⟩; refine ⟨_, rfl, ?_⟩; have n0_ := Aside0.mk (blk_below (g := gb349) (o := .cells #[.slice A0_0 l0_0.length c0_0, .slice A0_1 l0_1.length c0_1] 25 (0, 0)) (by (with_reducible repeat (first | refine blk_drewN ?_ _ | refine blk_drew ?_ | refine blk_alloc ?_ _)); exact BK349.out) hb); have n1_ := Aside0.mk (below_step (by repeat (first | (with_reducible first | exact HB.out | apply below_alloc | apply pw_below_drewN | apply below_drew1 | refine below_set ?_ GE349.out) | exact HB.out)) hb); clear BK349; clear HB; have BK349 := n0_; have HB := n1_; clear n0_ n1_; (try clear hb); (try clear hb2); (try clear hk); (try clear hi)))
    go_ret
    exact ⟨by first | rfl | (simp [errW_none, errW_some] <;> rfl) | (simp [*, errW_none, errW_some] <;> rfl), by repeat (first | (with_reducible first | exact HB.out | apply below_alloc | apply pw_below_drewN | apply below_drew1 | refine below_set ?_ GE349.out) | exact HB.out)⟩

/-- THE ONE PURE STATEMENT of gangsawlaw12_ShiftInverse. -/
def gangsawlaw12_ShiftInverse.Pure : Prop := ∀ (l0_0 : List (S54)) (l0_1 : List Int) (a1 : Int) (a2 : Int), (l0_0.length ≤ maxLen ∧ ∀ e9_, e9_ ∈ l0_0 → okS54 e9_) → (l0_1.length ≤ maxLen ∧ ∀ e10_, e10_ ∈ l0_1 → (Lit.int .i64 e10_).wf = true) → ((Lit.int .i64 a1).wf = true) → ((Lit.int .i64 a2).wf = true) → ∃ k, gangsawlaw12_ShiftInverse.f k l0_0 l0_1 a1 a2 = some true
theorem gangsawlaw12_ShiftInverse.walk (P_ : gangsawlaw12_ShiftInverse.Pure) (A0_0 : Option Addr) (c0_0 : Nat) (l0_0 : List (S54)) (A0_1 : Option Addr) (c0_1 : Nat) (l0_1 : List Int) (a1 : Int) (a2 : Int) (w : World) (hr0_0 : Kd.C k54 w A0_0 l0_0.length l0_0) (hc0_0 : l0_0.length ≤ c0_0) (hr0_1 : Kd.C (Kd.int .i64) w A0_1 l0_1.length l0_1) (hc0_1 : l0_1.length ≤ c0_1) (o0 : (l0_0.length ≤ maxLen ∧ ∀ e9_, e9_ ∈ l0_0 → okS54 e9_)) (o1 : (l0_1.length ≤ maxLen ∧ ∀ e10_, e10_ ∈ l0_1 → (Lit.int .i64 e10_).wf = true)) (o2 : ((Lit.int .i64 a1).wf = true)) (o3 : ((Lit.int .i64 a2).wf = true)) :
    Calls Try.prog 7 #[.agg #[.slice A0_0 l0_0.length c0_0, .slice A0_1 l0_1.length c0_1], .int .i64 a1, .int .i64 a2] w fun e w' => e = .returned (.bool true) ∧ Below w.heap.size w w' := by
  obtain ⟨k, h⟩ := P_ l0_0 l0_1 a1 a2 o0 o1 o2 o3
  refine (gangsawlaw12_ShiftInverse.calls k A0_0 c0_0 l0_0 A0_1 c0_1 l0_1 a1 a2 true w hr0_0 hc0_0 hr0_1 hc0_1 h).mono ?_
  rintro e w' ⟨rfl, hd⟩
  exact ⟨rfl, hd⟩

end Go.Proofs.Ytpjgmlnnhcnelaa.QA
