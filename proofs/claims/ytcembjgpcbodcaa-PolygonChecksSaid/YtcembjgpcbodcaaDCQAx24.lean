import Derived.Test.YtcembjgpcbodcaaDCQAx0
import Derived.Test.YtcembjgpcbodcaaDCQAx1
import Derived.Test.YtcembjgpcbodcaaDCQAx2
import Derived.Test.YtcembjgpcbodcaaDCQAx5
import Derived.Test.YtcembjgpcbodcaaDCQAx9
import Derived.Test.YtcembjgpcbodcaaDCQAx10
import Derived.Test.YtcembjgpcbodcaaDCQAx11
import Derived.Test.YtcembjgpcbodcaaDCQAx12
import Derived.Test.YtcembjgpcbodcaaDCQAx13
import Derived.Test.YtcembjgpcbodcaaDCQAx22
import Derived.Test.YtcembjgpcbodcaaDCQAx23
-- Written by a program of this session (wip/tools) out of the translation; Lean checks it.
namespace Go.Proofs.Ytcembjgpcbodcaa.QA
open Go.RowKit Go.Proofs.YtcembjgpcbodcaaW.PrintWords Go.Proofs.YtcembjgpcbodcaaW.PrintLast Go.Proofs.YtcembjgpcbodcaaW.PrintMore
attribute [local go_sem] max2_int min2_int max_two min_two max_three min_three max_four min_four
set_option linter.unusedVariables false
set_option linter.unusedSimpArgs false

attribute [local go_sem high] eqA23
mutual
def gangsawlaw05_PolygonChecks.j0 : Nat → List (S23) → Int → Int → Bool → Int → Int → Int → Int → Option (Bool)
  | 0, _, _, _, _, _, _, _, _ => none
  | k + 1, x0, x3, x4, x50, x442000, x442001, x443000, x443001 => if x50 = true then (some false) else (if x3 = 0 then ((gangsawref05_Bounds.f k x0).bind fun bt451 => ((gangsawref05_Area2.f k x0).bind fun t457 => (if x4 = t457 then (if (x442000 == bt451.1 && (x442001 == bt451.2.1)) = true then (gangsawlaw05_PolygonChecks.j2 k (x443000 == bt451.2.2.1 && (x443001 == bt451.2.2.2))) else (gangsawlaw05_PolygonChecks.j2 k false)) else (gangsawlaw05_PolygonChecks.j2 k false)))) else (if x4 = 0 then (if (x442000 == 0 && (x442001 == 0)) = true then (gangsawlaw05_PolygonChecks.j1 k (x443000 == 0 && (x443001 == 0))) else (gangsawlaw05_PolygonChecks.j1 k false)) else (gangsawlaw05_PolygonChecks.j1 k false)))
def gangsawlaw05_PolygonChecks.j2 : Nat → Bool → Option (Bool)
  | 0, _ => none
  | k + 1, x2 => some x2
def gangsawlaw05_PolygonChecks.j1 : Nat → Bool → Option (Bool)
  | 0, _ => none
  | k + 1, x2 => some x2
end
def gangsawlaw05_PolygonChecks.f (k : Nat) (l0 : List (S23)) : Option (Bool) := (gangsawlaw05_awake.f k).bind fun t431 => (if t431 = true then ((gangsawlaw05_few.f k l0).bind fun t432 => (if t432 = true then ((gangsawref05_Check.f k l0).bind fun t433 => ((polygon_Area2.f k l0).bind fun bt434 => ((polygon_Bounds.f k l0).bind fun bt436 => ((polygon_Check.f k l0).bind fun t443 => (if t443 = t433 then (if bt434.2 = t433 then (if bt436.2.2.2.2 = t433 then ((polygon_Reverse.f l0).bind fun t444 => ((gangsawref05_Reverse.f k l0).bind fun t447 => ((gangsawref05_Same.f k t444 t447).bind fun t450 => (gangsawlaw05_PolygonChecks.j0 k l0 t433 bt434.1 (!t450) bt436.1 bt436.2.1 bt436.2.2.1 bt436.2.2.2.1)))) else (gangsawlaw05_PolygonChecks.j0 k l0 t433 bt434.1 true bt436.1 bt436.2.1 bt436.2.2.1 bt436.2.2.2.1)) else (gangsawlaw05_PolygonChecks.j0 k l0 t433 bt434.1 true bt436.1 bt436.2.1 bt436.2.2.1 bt436.2.2.2.1)) else (gangsawlaw05_PolygonChecks.j0 k l0 t433 bt434.1 true bt436.1 bt436.2.1 bt436.2.2.1 bt436.2.2.2.1)))))) else (some true))) else (some false))
set_option maxHeartbeats 8000000 in
set_option maxRecDepth 100000 in
theorem gangsawlaw05_PolygonChecks.calls (k : Nat) (A0 : Option Addr) (c0 : Nat) (l0 : List (S23)) (r : Bool) (w : World) (hr0 : Kd.C k23 w A0 l0.length l0) (hc0 : l0.length ≤ c0) (h : gangsawlaw05_PolygonChecks.f k l0 = some r) :
    Calls Try.prog 7 #[.slice A0 l0.length c0] w fun e w' => e = .returned (.bool r) ∧ Below w.heap.size w w' := by
  have hu23 := Try.underlying23
  have HR0 := Aside0.mk hr0
  have HC0 := Aside0.mk hc0
  clear hr0 hc0
  have HB := Aside0.mk (Below.refl w.heap.size w)
  have H : ((gangsawlaw05_awake.f k).bind fun t431 => (if t431 = true then ((gangsawlaw05_few.f k l0).bind fun t432 => (if t432 = true then ((gangsawref05_Check.f k l0).bind fun t433 => ((polygon_Area2.f k l0).bind fun bt434 => ((polygon_Bounds.f k l0).bind fun bt436 => ((polygon_Check.f k l0).bind fun t443 => (if t443 = t433 then (if bt434.2 = t433 then (if bt436.2.2.2.2 = t433 then ((polygon_Reverse.f l0).bind fun t444 => ((gangsawref05_Reverse.f k l0).bind fun t447 => ((gangsawref05_Same.f k t444 t447).bind fun t450 => (gangsawlaw05_PolygonChecks.j0 k l0 t433 bt434.1 (!t450) bt436.1 bt436.2.1 bt436.2.2.1 bt436.2.2.2.1)))) else (gangsawlaw05_PolygonChecks.j0 k l0 t433 bt434.1 true bt436.1 bt436.2.1 bt436.2.2.1 bt436.2.2.2.1)) else (gangsawlaw05_PolygonChecks.j0 k l0 t433 bt434.1 true bt436.1 bt436.2.1 bt436.2.2.1 bt436.2.2.2.1)) else (gangsawlaw05_PolygonChecks.j0 k l0 t433 bt434.1 true bt436.1 bt436.2.1 bt436.2.2.1 bt436.2.2.2.1)))))) else (some true))) else (some false))) = some r := h
  clear h
  replace H := Option.bind_eq_some_iff.mp H
  obtain ⟨t431, A20, H⟩ := H
  replace H : (if t431 = true then ((gangsawlaw05_few.f k l0).bind fun t432 => (if t432 = true then ((gangsawref05_Check.f k l0).bind fun t433 => ((polygon_Area2.f k l0).bind fun bt434 => ((polygon_Bounds.f k l0).bind fun bt436 => ((polygon_Check.f k l0).bind fun t443 => (if t443 = t433 then (if bt434.2 = t433 then (if bt436.2.2.2.2 = t433 then ((polygon_Reverse.f l0).bind fun t444 => ((gangsawref05_Reverse.f k l0).bind fun t447 => ((gangsawref05_Same.f k t444 t447).bind fun t450 => (gangsawlaw05_PolygonChecks.j0 k l0 t433 bt434.1 (!t450) bt436.1 bt436.2.1 bt436.2.2.1 bt436.2.2.2.1)))) else (gangsawlaw05_PolygonChecks.j0 k l0 t433 bt434.1 true bt436.1 bt436.2.1 bt436.2.2.1 bt436.2.2.2.1)) else (gangsawlaw05_PolygonChecks.j0 k l0 t433 bt434.1 true bt436.1 bt436.2.1 bt436.2.2.1 bt436.2.2.2.1)) else (gangsawlaw05_PolygonChecks.j0 k l0 t433 bt434.1 true bt436.1 bt436.2.1 bt436.2.2.1 bt436.2.2.2.1)))))) else (some true))) else (some false)) = some r := H
  have A2 := Aside0.mk A20
  clear A20
  by_cases c3 : t431 = true
  · subst c3
    have H1 : ((gangsawlaw05_few.f k l0).bind fun t432 => (if t432 = true then ((gangsawref05_Check.f k l0).bind fun t433 => ((polygon_Area2.f k l0).bind fun bt434 => ((polygon_Bounds.f k l0).bind fun bt436 => ((polygon_Check.f k l0).bind fun t443 => (if t443 = t433 then (if bt434.2 = t433 then (if bt436.2.2.2.2 = t433 then ((polygon_Reverse.f l0).bind fun t444 => ((gangsawref05_Reverse.f k l0).bind fun t447 => ((gangsawref05_Same.f k t444 t447).bind fun t450 => (gangsawlaw05_PolygonChecks.j0 k l0 t433 bt434.1 (!t450) bt436.1 bt436.2.1 bt436.2.2.1 bt436.2.2.2.1)))) else (gangsawlaw05_PolygonChecks.j0 k l0 t433 bt434.1 true bt436.1 bt436.2.1 bt436.2.2.1 bt436.2.2.2.1)) else (gangsawlaw05_PolygonChecks.j0 k l0 t433 bt434.1 true bt436.1 bt436.2.1 bt436.2.2.1 bt436.2.2.2.1)) else (gangsawlaw05_PolygonChecks.j0 k l0 t433 bt434.1 true bt436.1 bt436.2.1 bt436.2.2.1 bt436.2.2.2.1)))))) else (some true))) = some r := by rw [if_pos rfl] at H; exact H
    clear H
    have H := H1
    clear H1
    replace H := Option.bind_eq_some_iff.mp H
    obtain ⟨t432, A40, H⟩ := H
    replace H : (if t432 = true then ((gangsawref05_Check.f k l0).bind fun t433 => ((polygon_Area2.f k l0).bind fun bt434 => ((polygon_Bounds.f k l0).bind fun bt436 => ((polygon_Check.f k l0).bind fun t443 => (if t443 = t433 then (if bt434.2 = t433 then (if bt436.2.2.2.2 = t433 then ((polygon_Reverse.f l0).bind fun t444 => ((gangsawref05_Reverse.f k l0).bind fun t447 => ((gangsawref05_Same.f k t444 t447).bind fun t450 => (gangsawlaw05_PolygonChecks.j0 k l0 t433 bt434.1 (!t450) bt436.1 bt436.2.1 bt436.2.2.1 bt436.2.2.2.1)))) else (gangsawlaw05_PolygonChecks.j0 k l0 t433 bt434.1 true bt436.1 bt436.2.1 bt436.2.2.1 bt436.2.2.2.1)) else (gangsawlaw05_PolygonChecks.j0 k l0 t433 bt434.1 true bt436.1 bt436.2.1 bt436.2.2.1 bt436.2.2.2.1)) else (gangsawlaw05_PolygonChecks.j0 k l0 t433 bt434.1 true bt436.1 bt436.2.1 bt436.2.2.1 bt436.2.2.2.1)))))) else (some true)) = some r := H
    have A4 := Aside0.mk A40
    clear A40
    by_cases c5 : t432 = true
    · subst c5
      have H1 : ((gangsawref05_Check.f k l0).bind fun t433 => ((polygon_Area2.f k l0).bind fun bt434 => ((polygon_Bounds.f k l0).bind fun bt436 => ((polygon_Check.f k l0).bind fun t443 => (if t443 = t433 then (if bt434.2 = t433 then (if bt436.2.2.2.2 = t433 then ((polygon_Reverse.f l0).bind fun t444 => ((gangsawref05_Reverse.f k l0).bind fun t447 => ((gangsawref05_Same.f k t444 t447).bind fun t450 => (gangsawlaw05_PolygonChecks.j0 k l0 t433 bt434.1 (!t450) bt436.1 bt436.2.1 bt436.2.2.1 bt436.2.2.2.1)))) else (gangsawlaw05_PolygonChecks.j0 k l0 t433 bt434.1 true bt436.1 bt436.2.1 bt436.2.2.1 bt436.2.2.2.1)) else (gangsawlaw05_PolygonChecks.j0 k l0 t433 bt434.1 true bt436.1 bt436.2.1 bt436.2.2.1 bt436.2.2.2.1)) else (gangsawlaw05_PolygonChecks.j0 k l0 t433 bt434.1 true bt436.1 bt436.2.1 bt436.2.2.1 bt436.2.2.2.1)))))) = some r := by rw [if_pos rfl] at H; exact H
      clear H
      have H := H1
      clear H1
      replace H := Option.bind_eq_some_iff.mp H
      obtain ⟨t433, A60, H⟩ := H
      replace H : ((polygon_Area2.f k l0).bind fun bt434 => ((polygon_Bounds.f k l0).bind fun bt436 => ((polygon_Check.f k l0).bind fun t443 => (if t443 = t433 then (if bt434.2 = t433 then (if bt436.2.2.2.2 = t433 then ((polygon_Reverse.f l0).bind fun t444 => ((gangsawref05_Reverse.f k l0).bind fun t447 => ((gangsawref05_Same.f k t444 t447).bind fun t450 => (gangsawlaw05_PolygonChecks.j0 k l0 t433 bt434.1 (!t450) bt436.1 bt436.2.1 bt436.2.2.1 bt436.2.2.2.1)))) else (gangsawlaw05_PolygonChecks.j0 k l0 t433 bt434.1 true bt436.1 bt436.2.1 bt436.2.2.1 bt436.2.2.2.1)) else (gangsawlaw05_PolygonChecks.j0 k l0 t433 bt434.1 true bt436.1 bt436.2.1 bt436.2.2.1 bt436.2.2.2.1)) else (gangsawlaw05_PolygonChecks.j0 k l0 t433 bt434.1 true bt436.1 bt436.2.1 bt436.2.2.1 bt436.2.2.2.1))))) = some r := H
      have A6 := Aside0.mk A60
      clear A60
      replace H := Option.bind_eq_some_iff.mp H
      obtain ⟨⟨t434, t435⟩, A70, H⟩ := H
      replace H : ((polygon_Bounds.f k l0).bind fun bt436 => ((polygon_Check.f k l0).bind fun t443 => (if t443 = t433 then (if t435 = t433 then (if bt436.2.2.2.2 = t433 then ((polygon_Reverse.f l0).bind fun t444 => ((gangsawref05_Reverse.f k l0).bind fun t447 => ((gangsawref05_Same.f k t444 t447).bind fun t450 => (gangsawlaw05_PolygonChecks.j0 k l0 t433 t434 (!t450) bt436.1 bt436.2.1 bt436.2.2.1 bt436.2.2.2.1)))) else (gangsawlaw05_PolygonChecks.j0 k l0 t433 t434 true bt436.1 bt436.2.1 bt436.2.2.1 bt436.2.2.2.1)) else (gangsawlaw05_PolygonChecks.j0 k l0 t433 t434 true bt436.1 bt436.2.1 bt436.2.2.1 bt436.2.2.2.1)) else (gangsawlaw05_PolygonChecks.j0 k l0 t433 t434 true bt436.1 bt436.2.1 bt436.2.2.1 bt436.2.2.2.1)))) = some r := H
      have A7 := Aside0.mk A70
      clear A70
      replace H := Option.bind_eq_some_iff.mp H
      obtain ⟨⟨t436, t437, t438, t439, t440⟩, A80, H⟩ := H
      replace H : ((polygon_Check.f k l0).bind fun t443 => (if t443 = t433 then (if t435 = t433 then (if t440 = t433 then ((polygon_Reverse.f l0).bind fun t444 => ((gangsawref05_Reverse.f k l0).bind fun t447 => ((gangsawref05_Same.f k t444 t447).bind fun t450 => (gangsawlaw05_PolygonChecks.j0 k l0 t433 t434 (!t450) t436 t437 t438 t439)))) else (gangsawlaw05_PolygonChecks.j0 k l0 t433 t434 true t436 t437 t438 t439)) else (gangsawlaw05_PolygonChecks.j0 k l0 t433 t434 true t436 t437 t438 t439)) else (gangsawlaw05_PolygonChecks.j0 k l0 t433 t434 true t436 t437 t438 t439))) = some r := H
      have A8 := Aside0.mk A80
      clear A80
      have HC9 := Aside0.mk H
      clear H
      go_enter Try.func7, Try.ntmps7
      go_upto_region 8 with (first | ((with_reducible refine gate_callee (f := 11) rfl ?_); refine goesL_ (some 11) rfl rfl Try.func11 (by kernel_rfl) rfl #[] rfl (by (try simp only [List.map_toArray, List.map_cons, List.map_nil]); first | done | rfl | (simp only [List.length_drop, List.length_take]; rfl)) ?_; (with_reducible refine (gangsawlaw05_awake.calls k  true _ A2.out).mono ?_); rintro e w10 ⟨rfl, hb⟩; refine ⟨_, rfl, ?_⟩; have n0_ := Aside0.mk (below_step (by repeat (first | (with_reducible first | exact HB.out | apply below_alloc | apply pw_below_drewN | apply below_drew1) | exact HB.out)) hb); clear HB; have HB := n0_; clear n0_; (try clear hb); (try clear hb2); (try clear hk); (try clear hi)) | ((with_reducible refine gate_callee (f := 15) rfl ?_); refine goesL_ (some 14) rfl rfl Try.func15 (by kernel_rfl) rfl #[.slice A0 l0.length c0] rfl (by (try simp only [List.map_toArray, List.map_cons, List.map_nil]); first | done | rfl | (simp only [List.length_drop, List.length_take]; rfl)) ?_; (with_reducible refine (gangsawlaw05_few.calls k _ _ l0 true _ ?side1 ?side2 A4.out).mono ?_); (case side1 => repeat (first | exact (Kd.C_below HR0.out HB.out) | (with_reducible refine Kd.C_alloc ?_ _) | (with_reducible refine Kd.C_drewN ?_ _) | (with_reducible refine Kd.C_drew ?_))); (case side2 => exact HC0.out); rintro e w' ⟨rfl, ⟨nd, rfl⟩⟩; refine ⟨_, rfl, ?_⟩; (try (rw [drewN_self w10]; generalize hq_ : World.drewN w10 _ = w10; have n0_ : Aside0 (Below w.heap.size w w10) := ⟨by rw [← hq_]; exact (by repeat (first | (with_reducible first | exact HB.out | apply below_alloc | apply pw_below_drewN | apply below_drew1) | exact HB.out))⟩; clear HB hq_; have HB := n0_; clear n0_))) | ((with_reducible refine gate_callee (f := 17) rfl ?_); refine goesL_ (some 17) rfl rfl Try.func17 (by kernel_rfl) rfl #[.slice A0 l0.length c0] rfl (by (try simp only [List.map_toArray, List.map_cons, List.map_nil]); first | done | rfl | (simp only [List.length_drop, List.length_take]; rfl)) ?_; (with_reducible refine (gangsawref05_Check.calls k _ _ l0 t433 _ ?side1 ?side2 A6.out).mono ?_); (case side1 => repeat (first | exact (Kd.C_below HR0.out HB.out) | (with_reducible refine Kd.C_alloc ?_ _) | (with_reducible refine Kd.C_drewN ?_ _) | (with_reducible refine Kd.C_drew ?_))); (case side2 => exact HC0.out); rintro e w11 ⟨rfl, hb⟩; refine ⟨_, rfl, ?_⟩; have n0_ := Aside0.mk (below_step (by repeat (first | (with_reducible first | exact HB.out | apply below_alloc | apply pw_below_drewN | apply below_drew1) | exact HB.out)) hb); clear HB; have HB := n0_; clear n0_; (try clear hb); (try clear hb2); (try clear hk); (try clear hi)) | ((with_reducible refine gate_callee (f := 25) rfl ?_); refine goesL_ (some 20) rfl rfl Try.func25 (by kernel_rfl) rfl #[.slice A0 l0.length c0] rfl (by (try simp only [List.map_toArray, List.map_cons, List.map_nil]); first | done | rfl | (simp only [List.length_drop, List.length_take]; rfl)) ?_; (with_reducible refine (polygon_Area2.calls k _ _ l0 t434 t435 _ ?side1 ?side2 A7.out).mono ?_); (case side1 => repeat (first | exact (Kd.C_below HR0.out HB.out) | (with_reducible refine Kd.C_alloc ?_ _) | (with_reducible refine Kd.C_drewN ?_ _) | (with_reducible refine Kd.C_drew ?_))); (case side2 => exact HC0.out); rintro e w12 ⟨rfl, hb⟩; refine ⟨_, rfl, ?_⟩; have n0_ := Aside0.mk (below_step (by repeat (first | (with_reducible first | exact HB.out | apply below_alloc | apply pw_below_drewN | apply below_drew1) | exact HB.out)) hb); clear HB; have HB := n0_; clear n0_; (try clear hb); (try clear hb2); (try clear hk); (try clear hi)) | ((with_reducible refine gate_callee (f := 26) rfl ?_); refine goesL_ (some 25) rfl rfl Try.func26 (by kernel_rfl) rfl #[.slice A0 l0.length c0] rfl (by (try simp only [List.map_toArray, List.map_cons, List.map_nil]); first | done | rfl | (simp only [List.length_drop, List.length_take]; rfl)) ?_; (with_reducible refine (polygon_Bounds.calls k _ _ l0 t436 t437 t438 t439 t440 _ ?side1 ?side2 A8.out).mono ?_); (case side1 => repeat (first | exact (Kd.C_below HR0.out HB.out) | (with_reducible refine Kd.C_alloc ?_ _) | (with_reducible refine Kd.C_drewN ?_ _) | (with_reducible refine Kd.C_drew ?_))); (case side2 => exact HC0.out); rintro e w13 ⟨rfl, hb⟩; refine ⟨_, rfl, ?_⟩; have n0_ := Aside0.mk (below_step (by repeat (first | (with_reducible first | exact HB.out | apply below_alloc | apply pw_below_drewN | apply below_drew1) | exact HB.out)) hb); clear HB; have HB := n0_; clear n0_; (try clear hb); (try clear hb2); (try clear hk); (try clear hi)) | ((with_reducible refine gate_dst (N := 6) rfl ?_); refine box_event ?hg (N := 6) ?hd (cs := #[.int .i64 0, .int .i64 0]) (t := 23) ?hr ?_; (case hd => rfl); (case hg => rfl); (case hr => first | (go_simp; done) | (go_simp; rfl)); intro gb441 hg w14 hbox hb; have n0_ := Aside0.mk (below_step (by repeat (first | (with_reducible first | exact HB.out | apply below_alloc | apply pw_below_drewN | apply below_drew1) | exact HB.out)) hb); have n1_ := Aside0.mk (hbox); have n2_ := Aside0.mk ((by rw [hg]; exact (below_size (by repeat (first | (with_reducible first | exact HB.out | apply below_alloc | apply pw_below_drewN | apply below_drew1) | exact HB.out))) : w.heap.size ≤ gb441)); have n3_ := Aside0.mk ((by rw [hg]; exact (below_size (by repeat (first | (with_reducible first | exact HB.out | apply below_alloc | apply pw_below_drewN | apply below_drew1) | exact HB.out))) : w.heap.size ≤ gb441)); clear HB; have HB := n0_; have BK441 := n1_; have GW441 := n2_; have GE441 := n3_; clear n0_ n1_ n2_ n3_; clear hb hbox hg) | ((with_reducible refine gate_dst (N := 7) rfl ?_); refine box_event ?hg (N := 7) ?hd (cs := #[.int .i64 0, .int .i64 0]) (t := 23) ?hr ?_; (case hd => rfl); (case hg => rfl); (case hr => first | (go_simp; done) | (go_simp; rfl)); intro gb442 hg w15 hbox hb; have n0_ := Aside0.mk (blk_below (g := gb441) (o := .cells #[.int .i64 0, .int .i64 0] 23 (0, 0)) (by (with_reducible repeat (first | refine blk_drewN ?_ _ | refine blk_drew ?_ | refine blk_alloc ?_ _)); exact BK441.out) hb); have n1_ := Aside0.mk (below_step (by repeat (first | (with_reducible first | exact HB.out | apply below_alloc | apply pw_below_drewN | apply below_drew1 | refine below_set ?_ GE441.out) | exact HB.out)) hb); have n2_ := Aside0.mk (hbox); have n3_ := Aside0.mk ((by rw [hg]; exact (below_size (by repeat (first | (with_reducible first | exact HB.out | apply below_alloc | apply pw_below_drewN | apply below_drew1 | refine below_set ?_ GE441.out) | exact HB.out))) : w.heap.size ≤ gb442)); have n4_ := Aside0.mk ((by rw [hg]; exact (below_size (by repeat (first | (with_reducible first | exact HB.out | apply below_alloc | apply pw_below_drewN | apply below_drew1 | refine below_set ?_ GE441.out) | exact HB.out))) : w.heap.size ≤ gb442)); have n5_ := Aside0.mk ((by rw [hg]; exact Nat.ne_of_lt (blk_lt (g := gb441) (o := .cells #[.int .i64 0, .int .i64 0] 23 (0, 0)) (by (with_reducible repeat (first | refine blk_drewN ?_ _ | refine blk_drew ?_ | refine blk_alloc ?_ _)); exact BK441.out)) : gb441 ≠ gb442)); have n6_ := Aside0.mk ((by rw [hg]; exact Nat.ne_of_gt (blk_lt (g := gb441) (o := .cells #[.int .i64 0, .int .i64 0] 23 (0, 0)) (by (with_reducible repeat (first | refine blk_drewN ?_ _ | refine blk_drew ?_ | refine blk_alloc ?_ _)); exact BK441.out)) : gb442 ≠ gb441)); clear BK441; clear HB; have BK441 := n0_; have HB := n1_; have BK442 := n2_; have GW442 := n3_; have GE442 := n4_; have NB441_442 := n5_; have NB442_441 := n6_; clear n0_ n1_ n2_ n3_ n4_ n5_ n6_; clear hb hbox hg; have hnb16 := NB441_442.out; have hnc16 := NB442_441.out; have hcz17_0 : w15.cell? ⟨gb441, 0, none⟩ = some (.int .i64 0) := (blk_cell BK441.out 0).trans rfl; have hcz17_1 : w15.cell? ⟨gb441, 1, none⟩ = some (.int .i64 0) := (blk_cell BK441.out 1).trans rfl; have hfz17_0 := blk_frozen BK441.out 0; have hfz17_1 := blk_frozen BK441.out 1; have hcz18_0 : w15.cell? ⟨gb442, 0, none⟩ = some (.int .i64 0) := (blk_cell BK442.out 0).trans rfl; have hcz18_1 : w15.cell? ⟨gb442, 1, none⟩ = some (.int .i64 0) := (blk_cell BK442.out 1).trans rfl; have hfz18_0 := blk_frozen BK442.out 0; have hfz18_1 := blk_frozen BK442.out 1))
      (try simp only [Act.put, List.setIfInBounds_toArray, List.set_cons_zero, List.set_cons_succ])
      go_cut [50] (fun v50 wc => ∃ (kq : Nat) (x50_8 : Bool), v50 = .bool x50_8 ∧ Aside0 (gangsawlaw05_PolygonChecks.j0 kq l0 t433 t434 x50_8 t436 t437 t438 t439 = some r) ∧ Aside0 (kq ≤ k) ∧ Aside0 (wc.heap[gb441]? = some (.cells #[.int .i64 t436, .int .i64 t437] 23 (0, 0))) ∧ Aside0 (wc.heap[gb442]? = some (.cells #[.int .i64 t438, .int .i64 t439] 23 (0, 0))) ∧ Aside0 (Below w.heap.size w wc))
      case first =>
        have H := HC9.out
        clear HC9
        replace H := Option.bind_eq_some_iff.mp H
        obtain ⟨t443, A190, H⟩ := H
        replace H : (if t443 = t433 then (if t435 = t433 then (if t440 = t433 then ((polygon_Reverse.f l0).bind fun t444 => ((gangsawref05_Reverse.f k l0).bind fun t447 => ((gangsawref05_Same.f k t444 t447).bind fun t450 => (gangsawlaw05_PolygonChecks.j0 k l0 t433 t434 (!t450) t436 t437 t438 t439)))) else (gangsawlaw05_PolygonChecks.j0 k l0 t433 t434 true t436 t437 t438 t439)) else (gangsawlaw05_PolygonChecks.j0 k l0 t433 t434 true t436 t437 t438 t439)) else (gangsawlaw05_PolygonChecks.j0 k l0 t433 t434 true t436 t437 t438 t439)) = some r := H
        have A19 := Aside0.mk A190
        clear A190
        by_cases c20 : t443 = t433
        · rw [if_pos c20] at H
          have c20b0 : (t443 == t433) = true := beq_iff_eq.mpr c20
          have c20b1 : (t443 != t433) = false := bne_eq_false_iff_eq.mpr c20
          clear c20
          (first | rw [c20b0] | (simp only [i64_w, i32_w]; rw [c20b0]) | skip)
          by_cases c21 : t435 = t433
          · rw [if_pos c21] at H
            have c21b0 : (t435 == t433) = true := beq_iff_eq.mpr c21
            have c21b1 : (t435 != t433) = false := bne_eq_false_iff_eq.mpr c21
            clear c21
            by_cases c22 : t440 = t433
            · rw [if_pos c22] at H
              have c22b0 : (t440 == t433) = true := beq_iff_eq.mpr c22
              have c22b1 : (t440 != t433) = false := bne_eq_false_iff_eq.mpr c22
              clear c22
              replace H := Option.bind_eq_some_iff.mp H
              obtain ⟨t444, A230, H⟩ := H
              replace H : ((gangsawref05_Reverse.f k l0).bind fun t447 => ((gangsawref05_Same.f k t444 t447).bind fun t450 => (gangsawlaw05_PolygonChecks.j0 k l0 t433 t434 (!t450) t436 t437 t438 t439))) = some r := H
              have A23 := Aside0.mk A230
              clear A230
              replace H := Option.bind_eq_some_iff.mp H
              obtain ⟨t447, A240, H⟩ := H
              replace H : ((gangsawref05_Same.f k t444 t447).bind fun t450 => (gangsawlaw05_PolygonChecks.j0 k l0 t433 t434 (!t450) t436 t437 t438 t439)) = some r := H
              have A24 := Aside0.mk A240
              clear A240
              replace H := Option.bind_eq_some_iff.mp H
              obtain ⟨t450, A250, H⟩ := H
              replace H : (gangsawlaw05_PolygonChecks.j0 k l0 t433 t434 (!t450) t436 t437 t438 t439) = some r := H
              have A25 := Aside0.mk A250
              clear A250
              have H' := Aside0.mk H
              clear H
              go_wp2_with (first | ((with_reducible refine gate_callee (f := 27) rfl ?_); refine goesL_ (some 30) rfl rfl Try.func27 (by kernel_rfl) rfl #[.slice A0 l0.length c0] rfl (by (try simp only [List.map_toArray, List.map_cons, List.map_nil]); first | done | rfl | (simp only [List.length_drop, List.length_take]; rfl)) ?_; (with_reducible refine (polygon_Check.calls k _ _ l0 t443 _ ?side1 ?side2 A19.out).mono ?_); (case side1 => exact Kd.C_below HR0.out (by repeat (first | (with_reducible first | exact HB.out | apply below_alloc | apply pw_below_drewN | apply below_drew1 | refine below_set ?_ GE441.out | refine below_set ?_ GE442.out) | exact HB.out))); (case side2 => exact HC0.out); rintro e w26 ⟨rfl, hb⟩; refine ⟨_, rfl, ?_⟩; have n0_ := Aside0.mk (blk_below (g := gb441) (o := .cells #[.int .i64 t436, .int .i64 t437] 23 (0, 0)) (by (with_reducible repeat (first | refine blk_drewN ?_ _ | refine blk_drew ?_ | refine blk_alloc ?_ _)); refine blk_far ?_ NB441_442.out _; (with_reducible repeat (first | refine blk_drewN ?_ _ | refine blk_drew ?_ | refine blk_alloc ?_ _)); refine blk_far ?_ NB441_442.out _; (with_reducible repeat (first | refine blk_drewN ?_ _ | refine blk_drew ?_ | refine blk_alloc ?_ _)); refine blk_put (cs := #[.int .i64 t436, .int .i64 0]) ?_ 1 _ rfl; (with_reducible repeat (first | refine blk_drewN ?_ _ | refine blk_drew ?_ | refine blk_alloc ?_ _)); refine blk_put (cs := #[.int .i64 0, .int .i64 0]) ?_ 0 _ rfl; (with_reducible repeat (first | refine blk_drewN ?_ _ | refine blk_drew ?_ | refine blk_alloc ?_ _)); exact BK441.out) hb); have n1_ := Aside0.mk (blk_below (g := gb442) (o := .cells #[.int .i64 t438, .int .i64 t439] 23 (0, 0)) (by (with_reducible repeat (first | refine blk_drewN ?_ _ | refine blk_drew ?_ | refine blk_alloc ?_ _)); refine blk_put (cs := #[.int .i64 t438, .int .i64 0]) ?_ 1 _ rfl; (with_reducible repeat (first | refine blk_drewN ?_ _ | refine blk_drew ?_ | refine blk_alloc ?_ _)); refine blk_put (cs := #[.int .i64 0, .int .i64 0]) ?_ 0 _ rfl; (with_reducible repeat (first | refine blk_drewN ?_ _ | refine blk_drew ?_ | refine blk_alloc ?_ _)); refine blk_far ?_ NB442_441.out _; (with_reducible repeat (first | refine blk_drewN ?_ _ | refine blk_drew ?_ | refine blk_alloc ?_ _)); refine blk_far ?_ NB442_441.out _; (with_reducible repeat (first | refine blk_drewN ?_ _ | refine blk_drew ?_ | refine blk_alloc ?_ _)); exact BK442.out) hb); have n2_ := Aside0.mk (below_step (by repeat (first | (with_reducible first | exact HB.out | apply below_alloc | apply pw_below_drewN | apply below_drew1 | refine below_set ?_ GE441.out | refine below_set ?_ GE442.out) | exact HB.out)) hb); clear BK441; clear BK442; clear HB; have BK441 := n0_; have BK442 := n1_; have HB := n2_; clear n0_ n1_ n2_; (try clear hb); (try clear hb2); (try clear hk); (try clear hi)) | (go_at_call 28; (with_reducible refine (polygon_Reverse.calls _ _ l0 t444 _ ?side1 ?side2 A23.out).mono ?_); (case side1 => repeat (first | exact (Kd.C_below HR0.out HB.out) | (with_reducible refine Kd.C_alloc ?_ _) | (with_reducible refine Kd.C_drewN ?_ _) | (with_reducible refine Kd.C_drew ?_))); (case side2 => exact HC0.out); rintro e w27 ⟨v445, rfl, ho0, hb⟩; have n0_ := Aside0.mk (Kd.R_lower (Kd.R_newB (Kd.R_newB ho0 (g := gb441) (o := .cells #[.int .i64 t436, .int .i64 t437] 23 (0, 0)) (by (with_reducible repeat (first | refine blk_drewN ?_ _ | refine blk_drew ?_ | refine blk_alloc ?_ _)); exact BK441.out)) (g := gb442) (o := .cells #[.int .i64 t438, .int .i64 t439] 23 (0, 0)) (by (with_reducible repeat (first | refine blk_drewN ?_ _ | refine blk_drew ?_ | refine blk_alloc ?_ _)); exact BK442.out)) (below_size (by repeat (first | (with_reducible first | exact HB.out | apply below_alloc | apply pw_below_drewN | apply below_drew1 | refine below_set ?_ GE441.out | refine below_set ?_ GE442.out) | exact HB.out)))); have n1_ := Aside0.mk (blk_below (g := gb441) (o := .cells #[.int .i64 t436, .int .i64 t437] 23 (0, 0)) (by (with_reducible repeat (first | refine blk_drewN ?_ _ | refine blk_drew ?_ | refine blk_alloc ?_ _)); exact BK441.out) hb); have n2_ := Aside0.mk (blk_below (g := gb442) (o := .cells #[.int .i64 t438, .int .i64 t439] 23 (0, 0)) (by (with_reducible repeat (first | refine blk_drewN ?_ _ | refine blk_drew ?_ | refine blk_alloc ?_ _)); exact BK442.out) hb); have n3_ := Aside0.mk (below_step (by repeat (first | (with_reducible first | exact HB.out | apply below_alloc | apply pw_below_drewN | apply below_drew1 | refine below_set ?_ GE441.out | refine below_set ?_ GE442.out) | exact HB.out)) hb); clear BK441; clear BK442; clear HB; have HO446 := n0_; have BK441 := n1_; have BK442 := n2_; have HB := n3_; clear n0_ n1_ n2_ n3_; (try clear hb); (try clear hb2); (try clear hk); (try clear hi); (try clear ho0)) | (go_at_call 29; (with_reducible refine (gangsawref05_Reverse.calls k _ _ l0 t447 _ ?side1 ?side2 A24.out).mono ?_); (case side1 => repeat (first | exact (Kd.C_below HR0.out HB.out) | (with_reducible refine Kd.C_alloc ?_ _) | (with_reducible refine Kd.C_drewN ?_ _) | (with_reducible refine Kd.C_drew ?_))); (case side2 => exact HC0.out); rintro e w28 ⟨v448, rfl, ho0, hb⟩; have n0_ := Aside0.mk (Kd.R_elder' (by (with_reducible repeat (first | apply Kd.R_alloc | apply Kd.R_drewN | apply Kd.R_drew)); exact HO446.out) (Kd.R_base ho0) hb); have n1_ := Aside0.mk (Kd.R_lower (Kd.R_newB (Kd.R_newB (Kd.R_new' ho0 (Kd.R_lt (by (with_reducible repeat (first | apply Kd.R_alloc | apply Kd.R_drewN | apply Kd.R_drew)); exact HO446.out))) (g := gb441) (o := .cells #[.int .i64 t436, .int .i64 t437] 23 (0, 0)) (by (with_reducible repeat (first | refine blk_drewN ?_ _ | refine blk_drew ?_ | refine blk_alloc ?_ _)); exact BK441.out)) (g := gb442) (o := .cells #[.int .i64 t438, .int .i64 t439] 23 (0, 0)) (by (with_reducible repeat (first | refine blk_drewN ?_ _ | refine blk_drew ?_ | refine blk_alloc ?_ _)); exact BK442.out)) (below_size (by repeat (first | (with_reducible first | exact HB.out | apply below_alloc | apply pw_below_drewN | apply below_drew1 | refine below_set ?_ GE441.out | refine below_set ?_ GE442.out) | exact HB.out)))); have n2_ := Aside0.mk (blk_below (g := gb441) (o := .cells #[.int .i64 t436, .int .i64 t437] 23 (0, 0)) (by (with_reducible repeat (first | refine blk_drewN ?_ _ | refine blk_drew ?_ | refine blk_alloc ?_ _)); exact BK441.out) hb); have n3_ := Aside0.mk (blk_below (g := gb442) (o := .cells #[.int .i64 t438, .int .i64 t439] 23 (0, 0)) (by (with_reducible repeat (first | refine blk_drewN ?_ _ | refine blk_drew ?_ | refine blk_alloc ?_ _)); exact BK442.out) hb); have n4_ := Aside0.mk (below_step (by repeat (first | (with_reducible first | exact HB.out | apply below_alloc | apply pw_below_drewN | apply below_drew1 | refine below_set ?_ GE441.out | refine below_set ?_ GE442.out) | exact HB.out)) hb); clear HO446; clear BK441; clear BK442; clear HB; have HO446 := n0_; have HO449 := n1_; have BK441 := n2_; have BK442 := n3_; have HB := n4_; clear n0_ n1_ n2_ n3_ n4_; (try clear hb); (try clear hb2); (try clear hk); (try clear hi); (try clear ho0); obtain ⟨Ao29, co29, eo29⟩ := Kd.R_slice HO446.out; subst eo29; obtain ⟨Ao30, co30, eo30⟩ := Kd.R_slice HO449.out; subst eo30) | (go_at_call 22; (with_reducible refine (gangsawref05_Same.calls k _ _ t444 _ _ t447 t450 _ ?side1 ?side2 ?side3 ?side4 A25.out).mono ?_); (case side1 => repeat (first | exact (Kd.R_reads' HO446.out).2.2 | (with_reducible refine Kd.C_alloc ?_ _) | (with_reducible refine Kd.C_drewN ?_ _) | (with_reducible refine Kd.C_drew ?_))); (case side2 => exact (Kd.R_reads' HO446.out).2.1); (case side3 => repeat (first | exact (Kd.R_reads' HO449.out).2.2 | (with_reducible refine Kd.C_alloc ?_ _) | (with_reducible refine Kd.C_drewN ?_ _) | (with_reducible refine Kd.C_drew ?_))); (case side4 => exact (Kd.R_reads' HO449.out).2.1); rintro e w' ⟨rfl, ⟨nd, rfl⟩⟩))
              go_meet
              case rel => exact ⟨_, (!t450), (by first | rfl | (simp; done) | (simp [*]; done)), H', ⟨by first | omega | exact Nat.le_refl _⟩, ⟨by (with_reducible repeat (first | refine blk_drewN ?_ _ | refine blk_drew ?_ | refine blk_alloc ?_ _)); exact BK441.out⟩, ⟨by (with_reducible repeat (first | refine blk_drewN ?_ _ | refine blk_drew ?_ | refine blk_alloc ?_ _)); exact BK442.out⟩, ⟨by repeat (first | (with_reducible first | exact HB.out | apply below_alloc | apply pw_below_drewN | apply below_drew1 | refine below_set ?_ GE441.out | refine below_set ?_ GE442.out) | exact HB.out)⟩⟩
            · rw [if_neg c22] at H
              have c22b0 : (t440 == t433) = false := beq_eq_false_iff_ne.mpr c22
              have c22b1 : (t440 != t433) = true := bne_iff_ne.mpr c22
              have H' := Aside0.mk H
              clear H
              go_wp2_with (first | ((with_reducible refine gate_callee (f := 27) rfl ?_); refine goesL_ (some 30) rfl rfl Try.func27 (by kernel_rfl) rfl #[.slice A0 l0.length c0] rfl (by (try simp only [List.map_toArray, List.map_cons, List.map_nil]); first | done | rfl | (simp only [List.length_drop, List.length_take]; rfl)) ?_; (with_reducible refine (polygon_Check.calls k _ _ l0 t443 _ ?side1 ?side2 A19.out).mono ?_); (case side1 => exact Kd.C_below HR0.out (by repeat (first | (with_reducible first | exact HB.out | apply below_alloc | apply pw_below_drewN | apply below_drew1 | refine below_set ?_ GE441.out | refine below_set ?_ GE442.out) | exact HB.out))); (case side2 => exact HC0.out); rintro e w31 ⟨rfl, hb⟩; refine ⟨_, rfl, ?_⟩; have n0_ := Aside0.mk (blk_below (g := gb441) (o := .cells #[.int .i64 t436, .int .i64 t437] 23 (0, 0)) (by (with_reducible repeat (first | refine blk_drewN ?_ _ | refine blk_drew ?_ | refine blk_alloc ?_ _)); refine blk_far ?_ NB441_442.out _; (with_reducible repeat (first | refine blk_drewN ?_ _ | refine blk_drew ?_ | refine blk_alloc ?_ _)); refine blk_far ?_ NB441_442.out _; (with_reducible repeat (first | refine blk_drewN ?_ _ | refine blk_drew ?_ | refine blk_alloc ?_ _)); refine blk_put (cs := #[.int .i64 t436, .int .i64 0]) ?_ 1 _ rfl; (with_reducible repeat (first | refine blk_drewN ?_ _ | refine blk_drew ?_ | refine blk_alloc ?_ _)); refine blk_put (cs := #[.int .i64 0, .int .i64 0]) ?_ 0 _ rfl; (with_reducible repeat (first | refine blk_drewN ?_ _ | refine blk_drew ?_ | refine blk_alloc ?_ _)); exact BK441.out) hb); have n1_ := Aside0.mk (blk_below (g := gb442) (o := .cells #[.int .i64 t438, .int .i64 t439] 23 (0, 0)) (by (with_reducible repeat (first | refine blk_drewN ?_ _ | refine blk_drew ?_ | refine blk_alloc ?_ _)); refine blk_put (cs := #[.int .i64 t438, .int .i64 0]) ?_ 1 _ rfl; (with_reducible repeat (first | refine blk_drewN ?_ _ | refine blk_drew ?_ | refine blk_alloc ?_ _)); refine blk_put (cs := #[.int .i64 0, .int .i64 0]) ?_ 0 _ rfl; (with_reducible repeat (first | refine blk_drewN ?_ _ | refine blk_drew ?_ | refine blk_alloc ?_ _)); refine blk_far ?_ NB442_441.out _; (with_reducible repeat (first | refine blk_drewN ?_ _ | refine blk_drew ?_ | refine blk_alloc ?_ _)); refine blk_far ?_ NB442_441.out _; (with_reducible repeat (first | refine blk_drewN ?_ _ | refine blk_drew ?_ | refine blk_alloc ?_ _)); exact BK442.out) hb); have n2_ := Aside0.mk (below_step (by repeat (first | (with_reducible first | exact HB.out | apply below_alloc | apply pw_below_drewN | apply below_drew1 | refine below_set ?_ GE441.out | refine below_set ?_ GE442.out) | exact HB.out)) hb); clear BK441; clear BK442; clear HB; have BK441 := n0_; have BK442 := n1_; have HB := n2_; clear n0_ n1_ n2_; (try clear hb); (try clear hb2); (try clear hk); (try clear hi)))
              go_meet
              case rel => exact ⟨_, (true), (by first | rfl | (simp; done) | (simp [*]; done)), H', ⟨by first | omega | exact Nat.le_refl _⟩, ⟨by (with_reducible repeat (first | refine blk_drewN ?_ _ | refine blk_drew ?_ | refine blk_alloc ?_ _)); exact BK441.out⟩, ⟨by (with_reducible repeat (first | refine blk_drewN ?_ _ | refine blk_drew ?_ | refine blk_alloc ?_ _)); exact BK442.out⟩, ⟨by repeat (first | (with_reducible first | exact HB.out | apply below_alloc | apply pw_below_drewN | apply below_drew1 | refine below_set ?_ GE441.out | refine below_set ?_ GE442.out) | exact HB.out)⟩⟩
          · rw [if_neg c21] at H
            have c21b0 : (t435 == t433) = false := beq_eq_false_iff_ne.mpr c21
            have c21b1 : (t435 != t433) = true := bne_iff_ne.mpr c21
            have H' := Aside0.mk H
            clear H
            go_wp2_with (first | ((with_reducible refine gate_callee (f := 27) rfl ?_); refine goesL_ (some 30) rfl rfl Try.func27 (by kernel_rfl) rfl #[.slice A0 l0.length c0] rfl (by (try simp only [List.map_toArray, List.map_cons, List.map_nil]); first | done | rfl | (simp only [List.length_drop, List.length_take]; rfl)) ?_; (with_reducible refine (polygon_Check.calls k _ _ l0 t443 _ ?side1 ?side2 A19.out).mono ?_); (case side1 => exact Kd.C_below HR0.out (by repeat (first | (with_reducible first | exact HB.out | apply below_alloc | apply pw_below_drewN | apply below_drew1 | refine below_set ?_ GE441.out | refine below_set ?_ GE442.out) | exact HB.out))); (case side2 => exact HC0.out); rintro e w32 ⟨rfl, hb⟩; refine ⟨_, rfl, ?_⟩; have n0_ := Aside0.mk (blk_below (g := gb441) (o := .cells #[.int .i64 t436, .int .i64 t437] 23 (0, 0)) (by (with_reducible repeat (first | refine blk_drewN ?_ _ | refine blk_drew ?_ | refine blk_alloc ?_ _)); refine blk_far ?_ NB441_442.out _; (with_reducible repeat (first | refine blk_drewN ?_ _ | refine blk_drew ?_ | refine blk_alloc ?_ _)); refine blk_far ?_ NB441_442.out _; (with_reducible repeat (first | refine blk_drewN ?_ _ | refine blk_drew ?_ | refine blk_alloc ?_ _)); refine blk_put (cs := #[.int .i64 t436, .int .i64 0]) ?_ 1 _ rfl; (with_reducible repeat (first | refine blk_drewN ?_ _ | refine blk_drew ?_ | refine blk_alloc ?_ _)); refine blk_put (cs := #[.int .i64 0, .int .i64 0]) ?_ 0 _ rfl; (with_reducible repeat (first | refine blk_drewN ?_ _ | refine blk_drew ?_ | refine blk_alloc ?_ _)); exact BK441.out) hb); have n1_ := Aside0.mk (blk_below (g := gb442) (o := .cells #[.int .i64 t438, .int .i64 t439] 23 (0, 0)) (by (with_reducible repeat (first | refine blk_drewN ?_ _ | refine blk_drew ?_ | refine blk_alloc ?_ _)); refine blk_put (cs := #[.int .i64 t438, .int .i64 0]) ?_ 1 _ rfl; (with_reducible repeat (first | refine blk_drewN ?_ _ | refine blk_drew ?_ | refine blk_alloc ?_ _)); refine blk_put (cs := #[.int .i64 0, .int .i64 0]) ?_ 0 _ rfl; (with_reducible repeat (first | refine blk_drewN ?_ _ | refine blk_drew ?_ | refine blk_alloc ?_ _)); refine blk_far ?_ NB442_441.out _; (with_reducible repeat (first | refine blk_drewN ?_ _ | refine blk_drew ?_ | refine blk_alloc ?_ _)); refine blk_far ?_ NB442_441.out _; (with_reducible repeat (first | refine blk_drewN ?_ _ | refine blk_drew ?_ | refine blk_alloc ?_ _)); exact BK442.out) hb); have n2_ := Aside0.mk (below_step (by repeat (first | (with_reducible first | exact HB.out | apply below_alloc | apply pw_below_drewN | apply below_drew1 | refine below_set ?_ GE441.out | refine below_set ?_ GE442.out) | exact HB.out)) hb); clear BK441; clear BK442; clear HB; have BK441 := n0_; have BK442 := n1_; have HB := n2_; clear n0_ n1_ n2_; (try clear hb); (try clear hb2); (try clear hk); (try clear hi)))
            go_meet
            case rel => exact ⟨_, (true), (by first | rfl | (simp; done) | (simp [*]; done)), H', ⟨by first | omega | exact Nat.le_refl _⟩, ⟨by (with_reducible repeat (first | refine blk_drewN ?_ _ | refine blk_drew ?_ | refine blk_alloc ?_ _)); exact BK441.out⟩, ⟨by (with_reducible repeat (first | refine blk_drewN ?_ _ | refine blk_drew ?_ | refine blk_alloc ?_ _)); exact BK442.out⟩, ⟨by repeat (first | (with_reducible first | exact HB.out | apply below_alloc | apply pw_below_drewN | apply below_drew1 | refine below_set ?_ GE441.out | refine below_set ?_ GE442.out) | exact HB.out)⟩⟩
        · rw [if_neg c20] at H
          have c20b0 : (t443 == t433) = false := beq_eq_false_iff_ne.mpr c20
          have c20b1 : (t443 != t433) = true := bne_iff_ne.mpr c20
          (first | rw [c20b0] | (simp only [i64_w, i32_w]; rw [c20b0]) | skip)
          have H' := Aside0.mk H
          clear H
          go_wp2_with (first | ((with_reducible refine gate_callee (f := 27) rfl ?_); refine goesL_ (some 30) rfl rfl Try.func27 (by kernel_rfl) rfl #[.slice A0 l0.length c0] rfl (by (try simp only [List.map_toArray, List.map_cons, List.map_nil]); first | done | rfl | (simp only [List.length_drop, List.length_take]; rfl)) ?_; (with_reducible refine (polygon_Check.calls k _ _ l0 t443 _ ?side1 ?side2 A19.out).mono ?_); (case side1 => exact Kd.C_below HR0.out (by repeat (first | (with_reducible first | exact HB.out | apply below_alloc | apply pw_below_drewN | apply below_drew1 | refine below_set ?_ GE441.out | refine below_set ?_ GE442.out) | exact HB.out))); (case side2 => exact HC0.out); rintro e w33 ⟨rfl, hb⟩; refine ⟨_, rfl, ?_⟩; have n0_ := Aside0.mk (blk_below (g := gb441) (o := .cells #[.int .i64 t436, .int .i64 t437] 23 (0, 0)) (by (with_reducible repeat (first | refine blk_drewN ?_ _ | refine blk_drew ?_ | refine blk_alloc ?_ _)); refine blk_far ?_ NB441_442.out _; (with_reducible repeat (first | refine blk_drewN ?_ _ | refine blk_drew ?_ | refine blk_alloc ?_ _)); refine blk_far ?_ NB441_442.out _; (with_reducible repeat (first | refine blk_drewN ?_ _ | refine blk_drew ?_ | refine blk_alloc ?_ _)); refine blk_put (cs := #[.int .i64 t436, .int .i64 0]) ?_ 1 _ rfl; (with_reducible repeat (first | refine blk_drewN ?_ _ | refine blk_drew ?_ | refine blk_alloc ?_ _)); refine blk_put (cs := #[.int .i64 0, .int .i64 0]) ?_ 0 _ rfl; (with_reducible repeat (first | refine blk_drewN ?_ _ | refine blk_drew ?_ | refine blk_alloc ?_ _)); exact BK441.out) hb); have n1_ := Aside0.mk (blk_below (g := gb442) (o := .cells #[.int .i64 t438, .int .i64 t439] 23 (0, 0)) (by (with_reducible repeat (first | refine blk_drewN ?_ _ | refine blk_drew ?_ | refine blk_alloc ?_ _)); refine blk_put (cs := #[.int .i64 t438, .int .i64 0]) ?_ 1 _ rfl; (with_reducible repeat (first | refine blk_drewN ?_ _ | refine blk_drew ?_ | refine blk_alloc ?_ _)); refine blk_put (cs := #[.int .i64 0, .int .i64 0]) ?_ 0 _ rfl; (with_reducible repeat (first | refine blk_drewN ?_ _ | refine blk_drew ?_ | refine blk_alloc ?_ _)); refine blk_far ?_ NB442_441.out _; (with_reducible repeat (first | refine blk_drewN ?_ _ | refine blk_drew ?_ | refine blk_alloc ?_ _)); refine blk_far ?_ NB442_441.out _; (with_reducible repeat (first | refine blk_drewN ?_ _ | refine blk_drew ?_ | refine blk_alloc ?_ _)); exact BK442.out) hb); have n2_ := Aside0.mk (below_step (by repeat (first | (with_reducible first | exact HB.out | apply below_alloc | apply pw_below_drewN | apply below_drew1 | refine below_set ?_ GE441.out | refine below_set ?_ GE442.out) | exact HB.out)) hb); clear BK441; clear BK442; clear HB; have BK441 := n0_; have BK442 := n1_; have HB := n2_; clear n0_ n1_ n2_; (try clear hb); (try clear hb2); (try clear hk); (try clear hi)))
          go_meet
          case rel => exact ⟨_, (true), (by first | rfl | (simp; done) | (simp [*]; done)), H', ⟨by first | omega | exact Nat.le_refl _⟩, ⟨by (with_reducible repeat (first | refine blk_drewN ?_ _ | refine blk_drew ?_ | refine blk_alloc ?_ _)); exact BK441.out⟩, ⟨by (with_reducible repeat (first | refine blk_drewN ?_ _ | refine blk_drew ?_ | refine blk_alloc ?_ _)); exact BK442.out⟩, ⟨by repeat (first | (with_reducible first | exact HB.out | apply below_alloc | apply pw_below_drewN | apply below_drew1 | refine below_set ?_ GE441.out | refine below_set ?_ GE442.out) | exact HB.out)⟩⟩
      case rest =>
        clear HC9
        try clear c1
        try clear c2
        try clear p2
        try clear c3
        try clear c5
        try clear c7
        try clear c11
        try clear c15
        try clear c16
        try clear c17
        try clear c20
        try clear c20b0
        try clear c20b1
        try clear c21
        try clear c21b0
        try clear c21b1
        try clear c22
        try clear c22b0
        try clear c22b1
        try clear c25
        try clear c26
        try clear c27
        try clear hcz17_0
        try clear hcz17_1
        try clear hcz18_0
        try clear hcz18_1
        try clear hfz17_0
        try clear hfz17_1
        try clear hfz18_0
        try clear hfz18_1
        obtain ⟨kq, x50_8, rfl, HA, HJ8, BK441, BK442, HB⟩ := hcut
        cases kq with
        | zero => exact absurd HA.out (by simp [gangsawlaw05_PolygonChecks.j0])
        | succ kj8 =>
          have H := HA.out
          clear HA
          simp only [gangsawlaw05_PolygonChecks.j0] at H
          by_cases c34 : x50_8 = true
          · subst c34
            have H1 : (some false) = some r := by rw [if_pos rfl] at H; exact H
            clear H
            have H := H1
            clear H1
            obtain rfl := Option.some.inj H
            go_wp2
            go_ret
            exact ⟨by first | rfl | (simp [errW_none, errW_some] <;> rfl) | (simp [*, errW_none, errW_some] <;> rfl), by repeat (first | (with_reducible first | exact HB.out | apply below_alloc | apply pw_below_drewN | apply below_drew1 | refine below_set ?_ GE441.out | refine below_set ?_ GE442.out) | exact HB.out)⟩
          · replace c34 := Bool.eq_false_iff.mpr c34
            subst c34
            have H1 : (if t433 = 0 then ((gangsawref05_Bounds.f kj8 l0).bind fun bt451 => ((gangsawref05_Area2.f kj8 l0).bind fun t457 => (if t434 = t457 then (if (t436 == bt451.1 && (t437 == bt451.2.1)) = true then (gangsawlaw05_PolygonChecks.j2 kj8 (t438 == bt451.2.2.1 && (t439 == bt451.2.2.2))) else (gangsawlaw05_PolygonChecks.j2 kj8 false)) else (gangsawlaw05_PolygonChecks.j2 kj8 false)))) else (if t434 = 0 then (if (t436 == 0 && (t437 == 0)) = true then (gangsawlaw05_PolygonChecks.j1 kj8 (t438 == 0 && (t439 == 0))) else (gangsawlaw05_PolygonChecks.j1 kj8 false)) else (gangsawlaw05_PolygonChecks.j1 kj8 false))) = some r := by rw [if_neg (show ¬ (false = true) by decide)] at H; exact H
            clear H
            have H := H1
            clear H1
            by_cases c35 : t433 = 0
            · rw [if_pos c35] at H
              have c35b0 : (t433 == 0) = true := beq_iff_eq.mpr c35
              have c35b1 : (t433 != 0) = false := bne_eq_false_iff_eq.mpr c35
              clear c35
              replace H := Option.bind_eq_some_iff.mp H
              obtain ⟨⟨t451, t452, t453, t454⟩, A360, H⟩ := H
              replace H : ((gangsawref05_Area2.f kj8 l0).bind fun t457 => (if t434 = t457 then (if (t436 == t451 && (t437 == t452)) = true then (gangsawlaw05_PolygonChecks.j2 kj8 (t438 == t453 && (t439 == t454))) else (gangsawlaw05_PolygonChecks.j2 kj8 false)) else (gangsawlaw05_PolygonChecks.j2 kj8 false))) = some r := H
              have A36 := Aside0.mk A360
              clear A360
              have HC37 := Aside0.mk H
              clear H
              go_upto_region 13 with (first | ((with_reducible refine gate_callee (f := 30) rfl ?_); refine goesL_ (some 67) rfl rfl Try.func30 (by kernel_rfl) rfl #[.slice A0 l0.length c0] rfl (by (try simp only [List.map_toArray, List.map_cons, List.map_nil]); first | done | rfl | (simp only [List.length_drop, List.length_take]; rfl)) ?_; (with_reducible refine (gangsawref05_Bounds.calls kj8 _ _ l0 t451 t452 t453 t454 _ ?side1 ?side2 A36.out).mono ?_); (case side1 => repeat (first | exact (Kd.C_below HR0.out HB.out) | (with_reducible refine Kd.C_alloc ?_ _) | (with_reducible refine Kd.C_drewN ?_ _) | (with_reducible refine Kd.C_drew ?_))); (case side2 => exact HC0.out); rintro e w38 ⟨rfl, hb⟩; refine ⟨_, rfl, ?_⟩; have n0_ := Aside0.mk (blk_below (g := gb441) (o := .cells #[.int .i64 t436, .int .i64 t437] 23 (0, 0)) (by (with_reducible repeat (first | refine blk_drewN ?_ _ | refine blk_drew ?_ | refine blk_alloc ?_ _)); exact BK441.out) hb); have n1_ := Aside0.mk (blk_below (g := gb442) (o := .cells #[.int .i64 t438, .int .i64 t439] 23 (0, 0)) (by (with_reducible repeat (first | refine blk_drewN ?_ _ | refine blk_drew ?_ | refine blk_alloc ?_ _)); exact BK442.out) hb); have n2_ := Aside0.mk (below_step (by repeat (first | (with_reducible first | exact HB.out | apply below_alloc | apply pw_below_drewN | apply below_drew1 | refine below_set ?_ GE441.out | refine below_set ?_ GE442.out) | exact HB.out)) hb); clear BK441; clear BK442; clear HB; have BK441 := n0_; have BK442 := n1_; have HB := n2_; clear n0_ n1_ n2_; (try clear hb); (try clear hb2); (try clear hk); (try clear hi)) | ((with_reducible refine gate_dst (N := 9) rfl ?_); refine box_event ?hg (N := 9) ?hd (cs := #[.int .i64 0, .int .i64 0]) (t := 23) ?hr ?_; (case hd => rfl); (case hg => rfl); (case hr => first | (go_simp; done) | (go_simp; rfl)); intro gb455 hg w39 hbox hb; have n0_ := Aside0.mk (blk_below (g := gb441) (o := .cells #[.int .i64 t436, .int .i64 t437] 23 (0, 0)) (by (with_reducible repeat (first | refine blk_drewN ?_ _ | refine blk_drew ?_ | refine blk_alloc ?_ _)); exact BK441.out) hb); have n1_ := Aside0.mk (blk_below (g := gb442) (o := .cells #[.int .i64 t438, .int .i64 t439] 23 (0, 0)) (by (with_reducible repeat (first | refine blk_drewN ?_ _ | refine blk_drew ?_ | refine blk_alloc ?_ _)); exact BK442.out) hb); have n2_ := Aside0.mk (below_step (by repeat (first | (with_reducible first | exact HB.out | apply below_alloc | apply pw_below_drewN | apply below_drew1 | refine below_set ?_ GE441.out | refine below_set ?_ GE442.out) | exact HB.out)) hb); have n3_ := Aside0.mk (hbox); have n4_ := Aside0.mk ((by rw [hg]; exact (below_size (by repeat (first | (with_reducible first | exact HB.out | apply below_alloc | apply pw_below_drewN | apply below_drew1 | refine below_set ?_ GE441.out | refine below_set ?_ GE442.out) | exact HB.out))) : w.heap.size ≤ gb455)); have n5_ := Aside0.mk ((by rw [hg]; exact (below_size (by repeat (first | (with_reducible first | exact HB.out | apply below_alloc | apply pw_below_drewN | apply below_drew1 | refine below_set ?_ GE441.out | refine below_set ?_ GE442.out) | exact HB.out))) : w.heap.size ≤ gb455)); have n6_ := Aside0.mk ((by rw [hg]; exact Nat.ne_of_lt (blk_lt (g := gb441) (o := .cells #[.int .i64 t436, .int .i64 t437] 23 (0, 0)) (by (with_reducible repeat (first | refine blk_drewN ?_ _ | refine blk_drew ?_ | refine blk_alloc ?_ _)); exact BK441.out)) : gb441 ≠ gb455)); have n7_ := Aside0.mk ((by rw [hg]; exact Nat.ne_of_gt (blk_lt (g := gb441) (o := .cells #[.int .i64 t436, .int .i64 t437] 23 (0, 0)) (by (with_reducible repeat (first | refine blk_drewN ?_ _ | refine blk_drew ?_ | refine blk_alloc ?_ _)); exact BK441.out)) : gb455 ≠ gb441)); have n8_ := Aside0.mk ((by rw [hg]; exact Nat.ne_of_lt (blk_lt (g := gb442) (o := .cells #[.int .i64 t438, .int .i64 t439] 23 (0, 0)) (by (with_reducible repeat (first | refine blk_drewN ?_ _ | refine blk_drew ?_ | refine blk_alloc ?_ _)); exact BK442.out)) : gb442 ≠ gb455)); have n9_ := Aside0.mk ((by rw [hg]; exact Nat.ne_of_gt (blk_lt (g := gb442) (o := .cells #[.int .i64 t438, .int .i64 t439] 23 (0, 0)) (by (with_reducible repeat (first | refine blk_drewN ?_ _ | refine blk_drew ?_ | refine blk_alloc ?_ _)); exact BK442.out)) : gb455 ≠ gb442)); clear BK441; clear BK442; clear HB; have BK441 := n0_; have BK442 := n1_; have HB := n2_; have BK455 := n3_; have GW455 := n4_; have GE455 := n5_; have NB441_455 := n6_; have NB455_441 := n7_; have NB442_455 := n8_; have NB455_442 := n9_; clear n0_ n1_ n2_ n3_ n4_ n5_ n6_ n7_ n8_ n9_; clear hb hbox hg) | ((with_reducible refine gate_dst (N := 10) rfl ?_); refine box_event ?hg (N := 10) ?hd (cs := #[.int .i64 0, .int .i64 0]) (t := 23) ?hr ?_; (case hd => rfl); (case hg => rfl); (case hr => first | (go_simp; done) | (go_simp; rfl)); intro gb456 hg w40 hbox hb; have n0_ := Aside0.mk (blk_below (g := gb441) (o := .cells #[.int .i64 t436, .int .i64 t437] 23 (0, 0)) (by (with_reducible repeat (first | refine blk_drewN ?_ _ | refine blk_drew ?_ | refine blk_alloc ?_ _)); exact BK441.out) hb); have n1_ := Aside0.mk (blk_below (g := gb442) (o := .cells #[.int .i64 t438, .int .i64 t439] 23 (0, 0)) (by (with_reducible repeat (first | refine blk_drewN ?_ _ | refine blk_drew ?_ | refine blk_alloc ?_ _)); exact BK442.out) hb); have n2_ := Aside0.mk (blk_below (g := gb455) (o := .cells #[.int .i64 0, .int .i64 0] 23 (0, 0)) (by (with_reducible repeat (first | refine blk_drewN ?_ _ | refine blk_drew ?_ | refine blk_alloc ?_ _)); exact BK455.out) hb); have n3_ := Aside0.mk (below_step (by repeat (first | (with_reducible first | exact HB.out | apply below_alloc | apply pw_below_drewN | apply below_drew1 | refine below_set ?_ GE441.out | refine below_set ?_ GE442.out | refine below_set ?_ GE455.out) | exact HB.out)) hb); have n4_ := Aside0.mk (hbox); have n5_ := Aside0.mk ((by rw [hg]; exact (below_size (by repeat (first | (with_reducible first | exact HB.out | apply below_alloc | apply pw_below_drewN | apply below_drew1 | refine below_set ?_ GE441.out | refine below_set ?_ GE442.out | refine below_set ?_ GE455.out) | exact HB.out))) : w.heap.size ≤ gb456)); have n6_ := Aside0.mk ((by rw [hg]; exact (below_size (by repeat (first | (with_reducible first | exact HB.out | apply below_alloc | apply pw_below_drewN | apply below_drew1 | refine below_set ?_ GE441.out | refine below_set ?_ GE442.out | refine below_set ?_ GE455.out) | exact HB.out))) : w.heap.size ≤ gb456)); have n7_ := Aside0.mk ((by rw [hg]; exact Nat.ne_of_lt (blk_lt (g := gb441) (o := .cells #[.int .i64 t436, .int .i64 t437] 23 (0, 0)) (by (with_reducible repeat (first | refine blk_drewN ?_ _ | refine blk_drew ?_ | refine blk_alloc ?_ _)); exact BK441.out)) : gb441 ≠ gb456)); have n8_ := Aside0.mk ((by rw [hg]; exact Nat.ne_of_gt (blk_lt (g := gb441) (o := .cells #[.int .i64 t436, .int .i64 t437] 23 (0, 0)) (by (with_reducible repeat (first | refine blk_drewN ?_ _ | refine blk_drew ?_ | refine blk_alloc ?_ _)); exact BK441.out)) : gb456 ≠ gb441)); have n9_ := Aside0.mk ((by rw [hg]; exact Nat.ne_of_lt (blk_lt (g := gb442) (o := .cells #[.int .i64 t438, .int .i64 t439] 23 (0, 0)) (by (with_reducible repeat (first | refine blk_drewN ?_ _ | refine blk_drew ?_ | refine blk_alloc ?_ _)); exact BK442.out)) : gb442 ≠ gb456)); have n10_ := Aside0.mk ((by rw [hg]; exact Nat.ne_of_gt (blk_lt (g := gb442) (o := .cells #[.int .i64 t438, .int .i64 t439] 23 (0, 0)) (by (with_reducible repeat (first | refine blk_drewN ?_ _ | refine blk_drew ?_ | refine blk_alloc ?_ _)); exact BK442.out)) : gb456 ≠ gb442)); have n11_ := Aside0.mk ((by rw [hg]; exact Nat.ne_of_lt (blk_lt (g := gb455) (o := .cells #[.int .i64 0, .int .i64 0] 23 (0, 0)) (by (with_reducible repeat (first | refine blk_drewN ?_ _ | refine blk_drew ?_ | refine blk_alloc ?_ _)); exact BK455.out)) : gb455 ≠ gb456)); have n12_ := Aside0.mk ((by rw [hg]; exact Nat.ne_of_gt (blk_lt (g := gb455) (o := .cells #[.int .i64 0, .int .i64 0] 23 (0, 0)) (by (with_reducible repeat (first | refine blk_drewN ?_ _ | refine blk_drew ?_ | refine blk_alloc ?_ _)); exact BK455.out)) : gb456 ≠ gb455)); clear BK441; clear BK442; clear BK455; clear HB; have BK441 := n0_; have BK442 := n1_; have BK455 := n2_; have HB := n3_; have BK456 := n4_; have GW456 := n5_; have GE456 := n6_; have NB441_456 := n7_; have NB456_441 := n8_; have NB442_456 := n9_; have NB456_442 := n10_; have NB455_456 := n11_; have NB456_455 := n12_; clear n0_ n1_ n2_ n3_ n4_ n5_ n6_ n7_ n8_ n9_ n10_ n11_ n12_; clear hb hbox hg; have hnb41 := NB455_441.out; have hnc41 := NB441_455.out; have hnb42 := NB455_442.out; have hnc42 := NB442_455.out; have hnb43 := NB455_456.out; have hnc43 := NB456_455.out; have hcz44_0 : w40.cell? ⟨gb455, 0, none⟩ = some (.int .i64 0) := (blk_cell BK455.out 0).trans rfl; have hcz44_1 : w40.cell? ⟨gb455, 1, none⟩ = some (.int .i64 0) := (blk_cell BK455.out 1).trans rfl; have hfz44_0 := blk_frozen BK455.out 0; have hfz44_1 := blk_frozen BK455.out 1; have hnb45 := NB456_441.out; have hnc45 := NB441_456.out; have hnb46 := NB456_442.out; have hnc46 := NB442_456.out; have hcz47_0 : w40.cell? ⟨gb456, 0, none⟩ = some (.int .i64 0) := (blk_cell BK456.out 0).trans rfl; have hcz47_1 : w40.cell? ⟨gb456, 1, none⟩ = some (.int .i64 0) := (blk_cell BK456.out 1).trans rfl; have hfz47_0 := blk_frozen BK456.out 0; have hfz47_1 := blk_frozen BK456.out 1))
              (try simp only [Act.put, List.setIfInBounds_toArray, List.set_cons_zero, List.set_cons_succ])
              go_cut [2] (fun v2 wc => ∃ (kq : Nat) (x2_36 : Bool), v2 = .bool x2_36 ∧ Aside0 (gangsawlaw05_PolygonChecks.j2 kq x2_36 = some r) ∧ Aside0 (kq ≤ kj8) ∧ Aside0 (wc.heap[gb441]? = some (.cells #[.int .i64 t436, .int .i64 t437] 23 (0, 0))) ∧ Aside0 (wc.heap[gb442]? = some (.cells #[.int .i64 t438, .int .i64 t439] 23 (0, 0))) ∧ Aside0 (wc.heap[gb455]? = some (.cells #[.int .i64 t451, .int .i64 t452] 23 (0, 0))) ∧ Aside0 (wc.heap[gb456]? = some (.cells #[.int .i64 t453, .int .i64 t454] 23 (0, 0))) ∧ Aside0 (Below w.heap.size w wc))
              case first =>
                have H := HC37.out
                clear HC37
                replace H := Option.bind_eq_some_iff.mp H
                obtain ⟨t457, A480, H⟩ := H
                replace H : (if t434 = t457 then (if (t436 == t451 && (t437 == t452)) = true then (gangsawlaw05_PolygonChecks.j2 kj8 (t438 == t453 && (t439 == t454))) else (gangsawlaw05_PolygonChecks.j2 kj8 false)) else (gangsawlaw05_PolygonChecks.j2 kj8 false)) = some r := H
                have A48 := Aside0.mk A480
                clear A480
                by_cases c49 : t434 = t457
                · rw [if_pos c49] at H
                  have c49b0 : (t434 == t457) = true := beq_iff_eq.mpr c49
                  have c49b1 : (t434 != t457) = false := bne_eq_false_iff_eq.mpr c49
                  clear c49
                  (first | rw [c49b0] | (simp only [i64_w, i32_w]; rw [c49b0]) | skip)
                  by_cases c50 : (t436 == t451 && (t437 == t452)) = true
                  · rw [if_pos c50] at H
                    have c50b0 : (t436 == t451 && (t437 == t452)) = true := c50
                    (try (have c50b1 : decide (t436 = t451 && (t437 == t452)) = true := by simpa using c50))
                    (try (have c50b2 : (t436 == t451 && (t437 == t452)) = true := by simpa using c50))
                    clear c50
                    have H' := Aside0.mk H
                    clear H
                    go_wp2_with (first | ((with_reducible refine gate_callee (f := 31) rfl ?_); refine goesL_ (some 72) rfl rfl Try.func31 (by kernel_rfl) rfl #[.slice A0 l0.length c0] rfl (by (try simp only [List.map_toArray, List.map_cons, List.map_nil]); first | done | rfl | (simp only [List.length_drop, List.length_take]; rfl)) ?_; (with_reducible refine (gangsawref05_Area2.calls kj8 _ _ l0 t457 _ ?side1 ?side2 A48.out).mono ?_); (case side1 => exact Kd.C_below HR0.out (by repeat (first | (with_reducible first | exact HB.out | apply below_alloc | apply pw_below_drewN | apply below_drew1 | refine below_set ?_ GE441.out | refine below_set ?_ GE442.out | refine below_set ?_ GE455.out | refine below_set ?_ GE456.out) | exact HB.out))); (case side2 => exact HC0.out); rintro e w' ⟨rfl, ⟨nd, rfl⟩⟩; refine ⟨_, rfl, ?_⟩; have hnb51 := NB441_442.out; have hnc51 := NB442_441.out; have hnb52 := NB441_455.out; have hnc52 := NB455_441.out; have hnb53 := NB441_456.out; have hnc53 := NB456_441.out; have hcz54_0 : w40.cell? ⟨gb441, 0, none⟩ = some (.int .i64 t436) := (blk_cell BK441.out 0).trans rfl; have hcz54_1 : w40.cell? ⟨gb441, 1, none⟩ = some (.int .i64 t437) := (blk_cell BK441.out 1).trans rfl; have hfz54_0 := blk_frozen BK441.out 0; have hfz54_1 := blk_frozen BK441.out 1; have hnb55 := NB455_442.out; have hnc55 := NB442_455.out; have hnb56 := NB455_456.out; have hnc56 := NB456_455.out; have hcz57_0 : w40.cell? ⟨gb455, 0, none⟩ = some (.int .i64 0) := (blk_cell BK455.out 0).trans rfl; have hcz57_1 : w40.cell? ⟨gb455, 1, none⟩ = some (.int .i64 0) := (blk_cell BK455.out 1).trans rfl; have hfz57_0 := blk_frozen BK455.out 0; have hfz57_1 := blk_frozen BK455.out 1; have hnb58 := NB442_456.out; have hnc58 := NB456_442.out; have hcz59_0 : w40.cell? ⟨gb442, 0, none⟩ = some (.int .i64 t438) := (blk_cell BK442.out 0).trans rfl; have hcz59_1 : w40.cell? ⟨gb442, 1, none⟩ = some (.int .i64 t439) := (blk_cell BK442.out 1).trans rfl; have hfz59_0 := blk_frozen BK442.out 0; have hfz59_1 := blk_frozen BK442.out 1; have hcz60_0 : w40.cell? ⟨gb456, 0, none⟩ = some (.int .i64 0) := (blk_cell BK456.out 0).trans rfl; have hcz60_1 : w40.cell? ⟨gb456, 1, none⟩ = some (.int .i64 0) := (blk_cell BK456.out 1).trans rfl; have hfz60_0 := blk_frozen BK456.out 0; have hfz60_1 := blk_frozen BK456.out 1))
                    go_meet
                    case rel => exact ⟨_, ((t438 == t453 && (t439 == t454))), (by first | rfl | (simp; done) | (simp [*]; done)), H', ⟨by have := HJ8.out; first | omega | exact Nat.le_refl _⟩, ⟨by (with_reducible repeat (first | refine blk_drewN ?_ _ | refine blk_drew ?_ | refine blk_alloc ?_ _)); refine blk_far ?_ NB441_456.out _; (with_reducible repeat (first | refine blk_drewN ?_ _ | refine blk_drew ?_ | refine blk_alloc ?_ _)); refine blk_far ?_ NB441_456.out _; (with_reducible repeat (first | refine blk_drewN ?_ _ | refine blk_drew ?_ | refine blk_alloc ?_ _)); refine blk_far ?_ NB441_455.out _; (with_reducible repeat (first | refine blk_drewN ?_ _ | refine blk_drew ?_ | refine blk_alloc ?_ _)); refine blk_far ?_ NB441_455.out _; (with_reducible repeat (first | refine blk_drewN ?_ _ | refine blk_drew ?_ | refine blk_alloc ?_ _)); exact BK441.out⟩, ⟨by (with_reducible repeat (first | refine blk_drewN ?_ _ | refine blk_drew ?_ | refine blk_alloc ?_ _)); refine blk_far ?_ NB442_456.out _; (with_reducible repeat (first | refine blk_drewN ?_ _ | refine blk_drew ?_ | refine blk_alloc ?_ _)); refine blk_far ?_ NB442_456.out _; (with_reducible repeat (first | refine blk_drewN ?_ _ | refine blk_drew ?_ | refine blk_alloc ?_ _)); refine blk_far ?_ NB442_455.out _; (with_reducible repeat (first | refine blk_drewN ?_ _ | refine blk_drew ?_ | refine blk_alloc ?_ _)); refine blk_far ?_ NB442_455.out _; (with_reducible repeat (first | refine blk_drewN ?_ _ | refine blk_drew ?_ | refine blk_alloc ?_ _)); exact BK442.out⟩, ⟨by (with_reducible repeat (first | refine blk_drewN ?_ _ | refine blk_drew ?_ | refine blk_alloc ?_ _)); refine blk_far ?_ NB455_456.out _; (with_reducible repeat (first | refine blk_drewN ?_ _ | refine blk_drew ?_ | refine blk_alloc ?_ _)); refine blk_far ?_ NB455_456.out _; (with_reducible repeat (first | refine blk_drewN ?_ _ | refine blk_drew ?_ | refine blk_alloc ?_ _)); refine blk_put (cs := #[.int .i64 t451, .int .i64 0]) ?_ 1 _ rfl; (with_reducible repeat (first | refine blk_drewN ?_ _ | refine blk_drew ?_ | refine blk_alloc ?_ _)); refine blk_put (cs := #[.int .i64 0, .int .i64 0]) ?_ 0 _ rfl; (with_reducible repeat (first | refine blk_drewN ?_ _ | refine blk_drew ?_ | refine blk_alloc ?_ _)); exact BK455.out⟩, ⟨by (with_reducible repeat (first | refine blk_drewN ?_ _ | refine blk_drew ?_ | refine blk_alloc ?_ _)); refine blk_put (cs := #[.int .i64 t453, .int .i64 0]) ?_ 1 _ rfl; (with_reducible repeat (first | refine blk_drewN ?_ _ | refine blk_drew ?_ | refine blk_alloc ?_ _)); refine blk_put (cs := #[.int .i64 0, .int .i64 0]) ?_ 0 _ rfl; (with_reducible repeat (first | refine blk_drewN ?_ _ | refine blk_drew ?_ | refine blk_alloc ?_ _)); refine blk_far ?_ NB456_455.out _; (with_reducible repeat (first | refine blk_drewN ?_ _ | refine blk_drew ?_ | refine blk_alloc ?_ _)); refine blk_far ?_ NB456_455.out _; (with_reducible repeat (first | refine blk_drewN ?_ _ | refine blk_drew ?_ | refine blk_alloc ?_ _)); exact BK456.out⟩, ⟨by repeat (first | (with_reducible first | exact HB.out | apply below_alloc | apply pw_below_drewN | apply below_drew1 | refine below_set ?_ GE441.out | refine below_set ?_ GE442.out | refine below_set ?_ GE455.out | refine below_set ?_ GE456.out) | exact HB.out)⟩⟩
                  · rw [if_neg c50] at H
                    have c50b0 : (t436 == t451 && (t437 == t452)) = false := by simpa using c50
                    (try (have c50b1 : decide (t436 = t451 && (t437 == t452)) = false := by simpa using c50))
                    (try (have c50b2 : (t436 == t451 && (t437 == t452)) = false := by simpa using c50))
                    (try (have c50b3 : ¬ (t436 = t451 && (t437 == t452)) := by simpa using c50))
                    clear c50
                    have H' := Aside0.mk H
                    clear H
                    go_wp2_with (first | ((with_reducible refine gate_callee (f := 31) rfl ?_); refine goesL_ (some 72) rfl rfl Try.func31 (by kernel_rfl) rfl #[.slice A0 l0.length c0] rfl (by (try simp only [List.map_toArray, List.map_cons, List.map_nil]); first | done | rfl | (simp only [List.length_drop, List.length_take]; rfl)) ?_; (with_reducible refine (gangsawref05_Area2.calls kj8 _ _ l0 t457 _ ?side1 ?side2 A48.out).mono ?_); (case side1 => exact Kd.C_below HR0.out (by repeat (first | (with_reducible first | exact HB.out | apply below_alloc | apply pw_below_drewN | apply below_drew1 | refine below_set ?_ GE441.out | refine below_set ?_ GE442.out | refine below_set ?_ GE455.out | refine below_set ?_ GE456.out) | exact HB.out))); (case side2 => exact HC0.out); rintro e w' ⟨rfl, ⟨nd, rfl⟩⟩; refine ⟨_, rfl, ?_⟩; have hnb61 := NB441_442.out; have hnc61 := NB442_441.out; have hnb62 := NB441_455.out; have hnc62 := NB455_441.out; have hnb63 := NB441_456.out; have hnc63 := NB456_441.out; have hcz64_0 : w40.cell? ⟨gb441, 0, none⟩ = some (.int .i64 t436) := (blk_cell BK441.out 0).trans rfl; have hcz64_1 : w40.cell? ⟨gb441, 1, none⟩ = some (.int .i64 t437) := (blk_cell BK441.out 1).trans rfl; have hfz64_0 := blk_frozen BK441.out 0; have hfz64_1 := blk_frozen BK441.out 1; have hnb65 := NB455_442.out; have hnc65 := NB442_455.out; have hnb66 := NB455_456.out; have hnc66 := NB456_455.out; have hcz67_0 : w40.cell? ⟨gb455, 0, none⟩ = some (.int .i64 0) := (blk_cell BK455.out 0).trans rfl; have hcz67_1 : w40.cell? ⟨gb455, 1, none⟩ = some (.int .i64 0) := (blk_cell BK455.out 1).trans rfl; have hfz67_0 := blk_frozen BK455.out 0; have hfz67_1 := blk_frozen BK455.out 1))
                    go_meet
                    case rel => exact ⟨_, (false), (by first | rfl | (simp; done) | (simp [*]; done)), H', ⟨by have := HJ8.out; first | omega | exact Nat.le_refl _⟩, ⟨by (with_reducible repeat (first | refine blk_drewN ?_ _ | refine blk_drew ?_ | refine blk_alloc ?_ _)); refine blk_far ?_ NB441_456.out _; (with_reducible repeat (first | refine blk_drewN ?_ _ | refine blk_drew ?_ | refine blk_alloc ?_ _)); refine blk_far ?_ NB441_456.out _; (with_reducible repeat (first | refine blk_drewN ?_ _ | refine blk_drew ?_ | refine blk_alloc ?_ _)); refine blk_far ?_ NB441_455.out _; (with_reducible repeat (first | refine blk_drewN ?_ _ | refine blk_drew ?_ | refine blk_alloc ?_ _)); refine blk_far ?_ NB441_455.out _; (with_reducible repeat (first | refine blk_drewN ?_ _ | refine blk_drew ?_ | refine blk_alloc ?_ _)); exact BK441.out⟩, ⟨by (with_reducible repeat (first | refine blk_drewN ?_ _ | refine blk_drew ?_ | refine blk_alloc ?_ _)); refine blk_far ?_ NB442_456.out _; (with_reducible repeat (first | refine blk_drewN ?_ _ | refine blk_drew ?_ | refine blk_alloc ?_ _)); refine blk_far ?_ NB442_456.out _; (with_reducible repeat (first | refine blk_drewN ?_ _ | refine blk_drew ?_ | refine blk_alloc ?_ _)); refine blk_far ?_ NB442_455.out _; (with_reducible repeat (first | refine blk_drewN ?_ _ | refine blk_drew ?_ | refine blk_alloc ?_ _)); refine blk_far ?_ NB442_455.out _; (with_reducible repeat (first | refine blk_drewN ?_ _ | refine blk_drew ?_ | refine blk_alloc ?_ _)); exact BK442.out⟩, ⟨by (with_reducible repeat (first | refine blk_drewN ?_ _ | refine blk_drew ?_ | refine blk_alloc ?_ _)); refine blk_far ?_ NB455_456.out _; (with_reducible repeat (first | refine blk_drewN ?_ _ | refine blk_drew ?_ | refine blk_alloc ?_ _)); refine blk_far ?_ NB455_456.out _; (with_reducible repeat (first | refine blk_drewN ?_ _ | refine blk_drew ?_ | refine blk_alloc ?_ _)); refine blk_put (cs := #[.int .i64 t451, .int .i64 0]) ?_ 1 _ rfl; (with_reducible repeat (first | refine blk_drewN ?_ _ | refine blk_drew ?_ | refine blk_alloc ?_ _)); refine blk_put (cs := #[.int .i64 0, .int .i64 0]) ?_ 0 _ rfl; (with_reducible repeat (first | refine blk_drewN ?_ _ | refine blk_drew ?_ | refine blk_alloc ?_ _)); exact BK455.out⟩, ⟨by (with_reducible repeat (first | refine blk_drewN ?_ _ | refine blk_drew ?_ | refine blk_alloc ?_ _)); refine blk_put (cs := #[.int .i64 t453, .int .i64 0]) ?_ 1 _ rfl; (with_reducible repeat (first | refine blk_drewN ?_ _ | refine blk_drew ?_ | refine blk_alloc ?_ _)); refine blk_put (cs := #[.int .i64 0, .int .i64 0]) ?_ 0 _ rfl; (with_reducible repeat (first | refine blk_drewN ?_ _ | refine blk_drew ?_ | refine blk_alloc ?_ _)); refine blk_far ?_ NB456_455.out _; (with_reducible repeat (first | refine blk_drewN ?_ _ | refine blk_drew ?_ | refine blk_alloc ?_ _)); refine blk_far ?_ NB456_455.out _; (with_reducible repeat (first | refine blk_drewN ?_ _ | refine blk_drew ?_ | refine blk_alloc ?_ _)); exact BK456.out⟩, ⟨by repeat (first | (with_reducible first | exact HB.out | apply below_alloc | apply pw_below_drewN | apply below_drew1 | refine below_set ?_ GE441.out | refine below_set ?_ GE442.out | refine below_set ?_ GE455.out | refine below_set ?_ GE456.out) | exact HB.out)⟩⟩
                · rw [if_neg c49] at H
                  have c49b0 : (t434 == t457) = false := beq_eq_false_iff_ne.mpr c49
                  have c49b1 : (t434 != t457) = true := bne_iff_ne.mpr c49
                  (first | rw [c49b0] | (simp only [i64_w, i32_w]; rw [c49b0]) | skip)
                  have H' := Aside0.mk H
                  clear H
                  go_wp2_with (first | ((with_reducible refine gate_callee (f := 31) rfl ?_); refine goesL_ (some 72) rfl rfl Try.func31 (by kernel_rfl) rfl #[.slice A0 l0.length c0] rfl (by (try simp only [List.map_toArray, List.map_cons, List.map_nil]); first | done | rfl | (simp only [List.length_drop, List.length_take]; rfl)) ?_; (with_reducible refine (gangsawref05_Area2.calls kj8 _ _ l0 t457 _ ?side1 ?side2 A48.out).mono ?_); (case side1 => exact Kd.C_below HR0.out (by repeat (first | (with_reducible first | exact HB.out | apply below_alloc | apply pw_below_drewN | apply below_drew1 | refine below_set ?_ GE441.out | refine below_set ?_ GE442.out | refine below_set ?_ GE455.out | refine below_set ?_ GE456.out) | exact HB.out))); (case side2 => exact HC0.out); rintro e w' ⟨rfl, ⟨nd, rfl⟩⟩; refine ⟨_, rfl, ?_⟩))
                  go_meet
                  case rel => exact ⟨_, (false), (by first | rfl | (simp; done) | (simp [*]; done)), H', ⟨by have := HJ8.out; first | omega | exact Nat.le_refl _⟩, ⟨by (with_reducible repeat (first | refine blk_drewN ?_ _ | refine blk_drew ?_ | refine blk_alloc ?_ _)); refine blk_far ?_ NB441_456.out _; (with_reducible repeat (first | refine blk_drewN ?_ _ | refine blk_drew ?_ | refine blk_alloc ?_ _)); refine blk_far ?_ NB441_456.out _; (with_reducible repeat (first | refine blk_drewN ?_ _ | refine blk_drew ?_ | refine blk_alloc ?_ _)); refine blk_far ?_ NB441_455.out _; (with_reducible repeat (first | refine blk_drewN ?_ _ | refine blk_drew ?_ | refine blk_alloc ?_ _)); refine blk_far ?_ NB441_455.out _; (with_reducible repeat (first | refine blk_drewN ?_ _ | refine blk_drew ?_ | refine blk_alloc ?_ _)); exact BK441.out⟩, ⟨by (with_reducible repeat (first | refine blk_drewN ?_ _ | refine blk_drew ?_ | refine blk_alloc ?_ _)); refine blk_far ?_ NB442_456.out _; (with_reducible repeat (first | refine blk_drewN ?_ _ | refine blk_drew ?_ | refine blk_alloc ?_ _)); refine blk_far ?_ NB442_456.out _; (with_reducible repeat (first | refine blk_drewN ?_ _ | refine blk_drew ?_ | refine blk_alloc ?_ _)); refine blk_far ?_ NB442_455.out _; (with_reducible repeat (first | refine blk_drewN ?_ _ | refine blk_drew ?_ | refine blk_alloc ?_ _)); refine blk_far ?_ NB442_455.out _; (with_reducible repeat (first | refine blk_drewN ?_ _ | refine blk_drew ?_ | refine blk_alloc ?_ _)); exact BK442.out⟩, ⟨by (with_reducible repeat (first | refine blk_drewN ?_ _ | refine blk_drew ?_ | refine blk_alloc ?_ _)); refine blk_far ?_ NB455_456.out _; (with_reducible repeat (first | refine blk_drewN ?_ _ | refine blk_drew ?_ | refine blk_alloc ?_ _)); refine blk_far ?_ NB455_456.out _; (with_reducible repeat (first | refine blk_drewN ?_ _ | refine blk_drew ?_ | refine blk_alloc ?_ _)); refine blk_put (cs := #[.int .i64 t451, .int .i64 0]) ?_ 1 _ rfl; (with_reducible repeat (first | refine blk_drewN ?_ _ | refine blk_drew ?_ | refine blk_alloc ?_ _)); refine blk_put (cs := #[.int .i64 0, .int .i64 0]) ?_ 0 _ rfl; (with_reducible repeat (first | refine blk_drewN ?_ _ | refine blk_drew ?_ | refine blk_alloc ?_ _)); exact BK455.out⟩, ⟨by (with_reducible repeat (first | refine blk_drewN ?_ _ | refine blk_drew ?_ | refine blk_alloc ?_ _)); refine blk_put (cs := #[.int .i64 t453, .int .i64 0]) ?_ 1 _ rfl; (with_reducible repeat (first | refine blk_drewN ?_ _ | refine blk_drew ?_ | refine blk_alloc ?_ _)); refine blk_put (cs := #[.int .i64 0, .int .i64 0]) ?_ 0 _ rfl; (with_reducible repeat (first | refine blk_drewN ?_ _ | refine blk_drew ?_ | refine blk_alloc ?_ _)); refine blk_far ?_ NB456_455.out _; (with_reducible repeat (first | refine blk_drewN ?_ _ | refine blk_drew ?_ | refine blk_alloc ?_ _)); refine blk_far ?_ NB456_455.out _; (with_reducible repeat (first | refine blk_drewN ?_ _ | refine blk_drew ?_ | refine blk_alloc ?_ _)); exact BK456.out⟩, ⟨by repeat (first | (with_reducible first | exact HB.out | apply below_alloc | apply pw_below_drewN | apply below_drew1 | refine below_set ?_ GE441.out | refine below_set ?_ GE442.out | refine below_set ?_ GE455.out | refine below_set ?_ GE456.out) | exact HB.out)⟩⟩
              case rest =>
                clear HC37
                try clear c1
                try clear c2
                try clear p2
                try clear c3
                try clear c4
                try clear c5
                try clear c6
                try clear c7
                try clear c11
                try clear c15
                try clear c16
                try clear c17
                try clear c20
                try clear c20b0
                try clear c20b1
                try clear c21
                try clear c21b0
                try clear c21b1
                try clear c22
                try clear c22b0
                try clear c22b1
                try clear c25
                try clear c26
                try clear c27
                try clear c30
                try clear c31
                try clear c34
                try clear c35
                try clear c35b0
                try clear c35b1
                try clear c41
                try clear c42
                try clear c43
                try clear c45
                try clear c46
                try clear c49
                try clear c49b0
                try clear c49b1
                try clear c50
                try clear c50b0
                try clear c50b1
                try clear c50b2
                try clear c51
                try clear c52
                try clear c53
                try clear c55
                try clear c56
                try clear c58
                try clear c61
                try clear c62
                try clear c63
                try clear c65
                try clear c66
                try clear hcz17_0
                try clear hcz17_1
                try clear hcz18_0
                try clear hcz18_1
                try clear hcz44_0
                try clear hcz44_1
                try clear hcz47_0
                try clear hcz47_1
                try clear hcz54_0
                try clear hcz54_1
                try clear hcz57_0
                try clear hcz57_1
                try clear hcz59_0
                try clear hcz59_1
                try clear hcz60_0
                try clear hcz60_1
                try clear hcz64_0
                try clear hcz64_1
                try clear hcz67_0
                try clear hcz67_1
                try clear hfz17_0
                try clear hfz17_1
                try clear hfz18_0
                try clear hfz18_1
                try clear hfz44_0
                try clear hfz44_1
                try clear hfz47_0
                try clear hfz47_1
                try clear hfz54_0
                try clear hfz54_1
                try clear hfz57_0
                try clear hfz57_1
                try clear hfz59_0
                try clear hfz59_1
                try clear hfz60_0
                try clear hfz60_1
                try clear hfz64_0
                try clear hfz64_1
                try clear hfz67_0
                try clear hfz67_1
                try clear p2
                obtain ⟨kq, x2_36, rfl, HA, HJ36, BK441, BK442, BK455, BK456, HB⟩ := hcut
                cases kq with
                | zero => exact absurd HA.out (by simp [gangsawlaw05_PolygonChecks.j2])
                | succ kj36 =>
                  have H := HA.out
                  clear HA
                  simp only [gangsawlaw05_PolygonChecks.j2] at H
                  obtain rfl := Option.some.inj H
                  go_wp2
                  go_ret
                  exact ⟨by first | rfl | (simp [errW_none, errW_some] <;> rfl) | (simp [*, errW_none, errW_some] <;> rfl), by repeat (first | (with_reducible first | exact HB.out | apply below_alloc | apply pw_below_drewN | apply below_drew1 | refine below_set ?_ GE441.out | refine below_set ?_ GE442.out | refine below_set ?_ GE455.out | refine below_set ?_ GE456.out) | exact HB.out)⟩
            · rw [if_neg c35] at H
              have c35b0 : (t433 == 0) = false := beq_eq_false_iff_ne.mpr c35
              have c35b1 : (t433 != 0) = true := bne_iff_ne.mpr c35
              have HC68 := Aside0.mk H
              clear H
              go_upto_region 11 with (fail)
              go_cut [2] (fun v2 wc => ∃ (kq : Nat) (x2_67 : Bool), v2 = .bool x2_67 ∧ Aside0 (gangsawlaw05_PolygonChecks.j1 kq x2_67 = some r) ∧ Aside0 (kq ≤ kj8) ∧ Aside0 (wc.heap[gb441]? = some (.cells #[.int .i64 t436, .int .i64 t437] 23 (0, 0))) ∧ Aside0 (wc.heap[gb442]? = some (.cells #[.int .i64 t438, .int .i64 t439] 23 (0, 0))) ∧ Aside0 (Below w.heap.size w wc))
              case first =>
                have H := HC68.out
                clear HC68
                by_cases c69 : t434 = 0
                · rw [if_pos c69] at H
                  have c69b0 : (t434 == 0) = true := beq_iff_eq.mpr c69
                  have c69b1 : (t434 != 0) = false := bne_eq_false_iff_eq.mpr c69
                  clear c69
                  (first | rw [c69b0] | (simp only [i64_w, i32_w]; rw [c69b0]) | skip)
                  by_cases c70 : (t436 == 0 && (t437 == 0)) = true
                  · rw [if_pos c70] at H
                    have c70b0 : (t436 == 0 && (t437 == 0)) = true := c70
                    (try (have c70b1 : decide (t436 = 0 && (t437 == 0)) = true := by simpa using c70))
                    (try (have c70b2 : (t436 == 0 && (t437 == 0)) = true := by simpa using c70))
                    clear c70
                    have H' := Aside0.mk H
                    clear H
                    have hnb71 := NB441_442.out
                    have hnc71 := NB442_441.out
                    have hcz72_0 : wc.cell? ⟨gb441, 0, none⟩ = some (.int .i64 t436) := (blk_cell BK441.out 0).trans rfl
                    have hcz72_1 : wc.cell? ⟨gb441, 1, none⟩ = some (.int .i64 t437) := (blk_cell BK441.out 1).trans rfl
                    have hfz72_0 := blk_frozen BK441.out 0
                    have hfz72_1 := blk_frozen BK441.out 1
                    have hcz73_0 : wc.cell? ⟨gb442, 0, none⟩ = some (.int .i64 t438) := (blk_cell BK442.out 0).trans rfl
                    have hcz73_1 : wc.cell? ⟨gb442, 1, none⟩ = some (.int .i64 t439) := (blk_cell BK442.out 1).trans rfl
                    have hfz73_0 := blk_frozen BK442.out 0
                    have hfz73_1 := blk_frozen BK442.out 1
                    go_wp2
                    go_meet
                    case rel => exact ⟨_, ((t438 == 0 && (t439 == 0))), (by first | rfl | (simp; done) | (simp [*]; done)), H', ⟨by have := HJ8.out; first | omega | exact Nat.le_refl _⟩, ⟨by (with_reducible repeat (first | refine blk_drewN ?_ _ | refine blk_drew ?_ | refine blk_alloc ?_ _)); exact BK441.out⟩, ⟨by (with_reducible repeat (first | refine blk_drewN ?_ _ | refine blk_drew ?_ | refine blk_alloc ?_ _)); exact BK442.out⟩, ⟨by repeat (first | (with_reducible first | exact HB.out | apply below_alloc | apply pw_below_drewN | apply below_drew1 | refine below_set ?_ GE441.out | refine below_set ?_ GE442.out) | exact HB.out)⟩⟩
                  · rw [if_neg c70] at H
                    have c70b0 : (t436 == 0 && (t437 == 0)) = false := by simpa using c70
                    (try (have c70b1 : decide (t436 = 0 && (t437 == 0)) = false := by simpa using c70))
                    (try (have c70b2 : (t436 == 0 && (t437 == 0)) = false := by simpa using c70))
                    (try (have c70b3 : ¬ (t436 = 0 && (t437 == 0)) := by simpa using c70))
                    clear c70
                    have H' := Aside0.mk H
                    clear H
                    have hnb74 := NB441_442.out
                    have hnc74 := NB442_441.out
                    have hcz75_0 : wc.cell? ⟨gb441, 0, none⟩ = some (.int .i64 t436) := (blk_cell BK441.out 0).trans rfl
                    have hcz75_1 : wc.cell? ⟨gb441, 1, none⟩ = some (.int .i64 t437) := (blk_cell BK441.out 1).trans rfl
                    have hfz75_0 := blk_frozen BK441.out 0
                    have hfz75_1 := blk_frozen BK441.out 1
                    go_wp2
                    go_meet
                    case rel => exact ⟨_, (false), (by first | rfl | (simp; done) | (simp [*]; done)), H', ⟨by have := HJ8.out; first | omega | exact Nat.le_refl _⟩, ⟨by (with_reducible repeat (first | refine blk_drewN ?_ _ | refine blk_drew ?_ | refine blk_alloc ?_ _)); exact BK441.out⟩, ⟨by (with_reducible repeat (first | refine blk_drewN ?_ _ | refine blk_drew ?_ | refine blk_alloc ?_ _)); exact BK442.out⟩, ⟨by repeat (first | (with_reducible first | exact HB.out | apply below_alloc | apply pw_below_drewN | apply below_drew1 | refine below_set ?_ GE441.out | refine below_set ?_ GE442.out) | exact HB.out)⟩⟩
                · rw [if_neg c69] at H
                  have c69b0 : (t434 == 0) = false := beq_eq_false_iff_ne.mpr c69
                  have c69b1 : (t434 != 0) = true := bne_iff_ne.mpr c69
                  (first | rw [c69b0] | (simp only [i64_w, i32_w]; rw [c69b0]) | skip)
                  have H' := Aside0.mk H
                  clear H
                  go_wp2
                  go_meet
                  case rel => exact ⟨_, (false), (by first | rfl | (simp; done) | (simp [*]; done)), H', ⟨by have := HJ8.out; first | omega | exact Nat.le_refl _⟩, ⟨by (with_reducible repeat (first | refine blk_drewN ?_ _ | refine blk_drew ?_ | refine blk_alloc ?_ _)); exact BK441.out⟩, ⟨by (with_reducible repeat (first | refine blk_drewN ?_ _ | refine blk_drew ?_ | refine blk_alloc ?_ _)); exact BK442.out⟩, ⟨by repeat (first | (with_reducible first | exact HB.out | apply below_alloc | apply pw_below_drewN | apply below_drew1 | refine below_set ?_ GE441.out | refine below_set ?_ GE442.out) | exact HB.out)⟩⟩
              case rest =>
                clear HC68
                try clear c1
                try clear c2
                try clear p2
                try clear c3
                try clear c4
                try clear c5
                try clear c6
                try clear c7
                try clear c11
                try clear c15
                try clear c16
                try clear c17
                try clear c20
                try clear c20b0
                try clear c20b1
                try clear c21
                try clear c21b0
                try clear c21b1
                try clear c22
                try clear c22b0
                try clear c22b1
                try clear c25
                try clear c26
                try clear c27
                try clear c30
                try clear c31
                try clear c34
                try clear c35
                try clear c35b0
                try clear c35b1
                try clear c41
                try clear c42
                try clear c43
                try clear c45
                try clear c46
                try clear c49
                try clear c49b0
                try clear c49b1
                try clear c50
                try clear c50b0
                try clear c50b1
                try clear c50b2
                try clear c51
                try clear c52
                try clear c53
                try clear c55
                try clear c56
                try clear c58
                try clear c61
                try clear c62
                try clear c63
                try clear c65
                try clear c66
                try clear c69
                try clear c69b0
                try clear c69b1
                try clear c70
                try clear c70b0
                try clear c70b1
                try clear c70b2
                try clear c71
                try clear c74
                try clear hcz17_0
                try clear hcz17_1
                try clear hcz18_0
                try clear hcz18_1
                try clear hcz44_0
                try clear hcz44_1
                try clear hcz47_0
                try clear hcz47_1
                try clear hcz54_0
                try clear hcz54_1
                try clear hcz57_0
                try clear hcz57_1
                try clear hcz59_0
                try clear hcz59_1
                try clear hcz60_0
                try clear hcz60_1
                try clear hcz64_0
                try clear hcz64_1
                try clear hcz67_0
                try clear hcz67_1
                try clear hcz72_0
                try clear hcz72_1
                try clear hcz73_0
                try clear hcz73_1
                try clear hcz75_0
                try clear hcz75_1
                try clear hfz17_0
                try clear hfz17_1
                try clear hfz18_0
                try clear hfz18_1
                try clear hfz44_0
                try clear hfz44_1
                try clear hfz47_0
                try clear hfz47_1
                try clear hfz54_0
                try clear hfz54_1
                try clear hfz57_0
                try clear hfz57_1
                try clear hfz59_0
                try clear hfz59_1
                try clear hfz60_0
                try clear hfz60_1
                try clear hfz64_0
                try clear hfz64_1
                try clear hfz67_0
                try clear hfz67_1
                try clear hfz72_0
                try clear hfz72_1
                try clear hfz73_0
                try clear hfz73_1
                try clear hfz75_0
                try clear hfz75_1
                try clear p2
                obtain ⟨kq, x2_67, rfl, HA, HJ67, BK441, BK442, HB⟩ := hcut
                cases kq with
                | zero => exact absurd HA.out (by simp [gangsawlaw05_PolygonChecks.j1])
                | succ kj67 =>
                  have H := HA.out
                  clear HA
                  simp only [gangsawlaw05_PolygonChecks.j1] at H
                  obtain rfl := Option.some.inj H
                  go_wp2
                  go_ret
                  exact ⟨by first | rfl | (simp [errW_none, errW_some] <;> rfl) | (simp [*, errW_none, errW_some] <;> rfl), by repeat (first | (with_reducible first | exact HB.out | apply below_alloc | apply pw_below_drewN | apply below_drew1 | refine below_set ?_ GE441.out | refine below_set ?_ GE442.out) | exact HB.out)⟩
    · replace c5 := Bool.eq_false_iff.mpr c5
      subst c5
      have H1 : (some true) = some r := by rw [if_neg (show ¬ (false = true) by decide)] at H; exact H
      clear H
      have H := H1
      clear H1
      obtain rfl := Option.some.inj H
      go_enter Try.func7, Try.ntmps7
      go_wp2_with (first | ((with_reducible refine gate_callee (f := 11) rfl ?_); refine goesL_ (some 11) rfl rfl Try.func11 (by kernel_rfl) rfl #[] rfl (by (try simp only [List.map_toArray, List.map_cons, List.map_nil]); first | done | rfl | (simp only [List.length_drop, List.length_take]; rfl)) ?_; (with_reducible refine (gangsawlaw05_awake.calls k  true _ A2.out).mono ?_); rintro e w76 ⟨rfl, hb⟩; refine ⟨_, rfl, ?_⟩; have n0_ := Aside0.mk (below_step (by repeat (first | (with_reducible first | exact HB.out | apply below_alloc | apply pw_below_drewN | apply below_drew1) | exact HB.out)) hb); clear HB; have HB := n0_; clear n0_; (try clear hb); (try clear hb2); (try clear hk); (try clear hi)) | ((with_reducible refine gate_callee (f := 15) rfl ?_); refine goesL_ (some 14) rfl rfl Try.func15 (by kernel_rfl) rfl #[.slice A0 l0.length c0] rfl (by (try simp only [List.map_toArray, List.map_cons, List.map_nil]); first | done | rfl | (simp only [List.length_drop, List.length_take]; rfl)) ?_; (with_reducible refine (gangsawlaw05_few.calls k _ _ l0 false _ ?side1 ?side2 A4.out).mono ?_); (case side1 => repeat (first | exact (Kd.C_below HR0.out HB.out) | (with_reducible refine Kd.C_alloc ?_ _) | (with_reducible refine Kd.C_drewN ?_ _) | (with_reducible refine Kd.C_drew ?_))); (case side2 => exact HC0.out); rintro e w' ⟨rfl, ⟨nd, rfl⟩⟩; refine ⟨_, rfl, ?_⟩))
      go_ret
      exact ⟨by first | rfl | (simp [errW_none, errW_some] <;> rfl) | (simp [*, errW_none, errW_some] <;> rfl), by repeat (first | (with_reducible first | exact HB.out | apply below_alloc | apply pw_below_drewN | apply below_drew1) | exact HB.out)⟩
  · replace c3 := Bool.eq_false_iff.mpr c3
    subst c3
    have H1 : (some false) = some r := by rw [if_neg (show ¬ (false = true) by decide)] at H; exact H
    clear H
    have H := H1
    clear H1
    obtain rfl := Option.some.inj H
    go_enter Try.func7, Try.ntmps7
    go_wp2_with (first | ((with_reducible refine gate_callee (f := 11) rfl ?_); refine goesL_ (some 11) rfl rfl Try.func11 (by kernel_rfl) rfl #[] rfl (by (try simp only [List.map_toArray, List.map_cons, List.map_nil]); first | done | rfl | (simp only [List.length_drop, List.length_take]; rfl)) ?_; (with_reducible refine (gangsawlaw05_awake.calls k  false _ A2.out).mono ?_); rintro e w77 ⟨rfl, hb⟩; refine ⟨_, rfl, ?_⟩; have n0_ := Aside0.mk (below_step (by repeat (first | (with_reducible first | exact HB.out | apply below_alloc | apply pw_below_drewN | apply below_drew1) | exact HB.out)) hb); clear HB; have HB := n0_; clear n0_; (try clear hb); (try clear hb2); (try clear hk); (try clear hi)))
    go_ret
    exact ⟨by first | rfl | (simp [errW_none, errW_some] <;> rfl) | (simp [*, errW_none, errW_some] <;> rfl), by repeat (first | (with_reducible first | exact HB.out | apply below_alloc | apply pw_below_drewN | apply below_drew1) | exact HB.out)⟩

/-- THE ONE PURE STATEMENT of gangsawlaw05_PolygonChecks. -/
def gangsawlaw05_PolygonChecks.Pure : Prop := ∀ (l0 : List (S23)), (l0.length ≤ maxLen ∧ ∀ e4_, e4_ ∈ l0 → okS23 e4_) → ∃ k, gangsawlaw05_PolygonChecks.f k l0 = some true
theorem gangsawlaw05_PolygonChecks.walk (P_ : gangsawlaw05_PolygonChecks.Pure) (A0 : Option Addr) (c0 : Nat) (l0 : List (S23)) (w : World) (hr0 : Kd.C k23 w A0 l0.length l0) (hc0 : l0.length ≤ c0) (o0 : (l0.length ≤ maxLen ∧ ∀ e4_, e4_ ∈ l0 → okS23 e4_)) :
    Calls Try.prog 7 #[.slice A0 l0.length c0] w fun e w' => e = .returned (.bool true) ∧ Below w.heap.size w w' := by
  obtain ⟨k, h⟩ := P_ l0 o0
  refine (gangsawlaw05_PolygonChecks.calls k A0 c0 l0 true w hr0 hc0 h).mono ?_
  rintro e w' ⟨rfl, hd⟩
  exact ⟨rfl, hd⟩

end Go.Proofs.Ytcembjgpcbodcaa.QA
