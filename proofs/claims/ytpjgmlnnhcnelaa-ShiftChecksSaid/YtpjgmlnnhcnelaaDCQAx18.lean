import Derived.Test.YtpjgmlnnhcnelaaDCQAx0
import Derived.Test.YtpjgmlnnhcnelaaDCQAx2
import Derived.Test.YtpjgmlnnhcnelaaDCQAx3
import Derived.Test.YtpjgmlnnhcnelaaDCQAx5
import Derived.Test.YtpjgmlnnhcnelaaDCQAx8
import Derived.Test.YtpjgmlnnhcnelaaDCQAx9
import Derived.Test.YtpjgmlnnhcnelaaDCQAx10
import Derived.Test.YtpjgmlnnhcnelaaDCQAx15
import Derived.Test.YtpjgmlnnhcnelaaDCQAx17
-- Written by a program of this session (wip/tools) out of the translation; Lean checks it.
namespace Go.Proofs.Ytpjgmlnnhcnelaa.QA
open Go.RowKit Go.Proofs.YtpjgmlnnhcnelaaW.PrintWords Go.Proofs.YtpjgmlnnhcnelaaW.PrintLast Go.Proofs.YtpjgmlnnhcnelaaW.PrintMore
attribute [local go_sem] max2_int min2_int max_two min_two max_three min_three max_four min_four
set_option linter.unusedVariables false
set_option linter.unusedSimpArgs false

mutual
def gangsawlaw12_ShiftChecks.j0 : Nat → Int → Bool → Int → Int → Bool → List (S54) → List Int → Option (Bool)
  | 0, _, _, _, _, _, _, _ => none
  | k + 1, x1, x5, x6, x9, x56, x264000, x264001 => if x56 = true then (some false) else (if x9 = 0 then ((gangsawref12_Minute.f x1).bind fun t291 => (gangsawlaw12_ShiftChecks.j1 k x1 x5 x6 x9 (!t291) x264000 x264001)) else (gangsawlaw12_ShiftChecks.j1 k x1 x5 x6 x9 false x264000 x264001))
def gangsawlaw12_ShiftChecks.j1 : Nat → Int → Bool → Int → Int → Bool → List (S54) → List Int → Option (Bool)
  | 0, _, _, _, _, _, _, _ => none
  | k + 1, x1, x5, x6, x9, x63, x264000, x264001 => if x63 = true then (gangsawlaw12_ShiftChecks.j2 k x1 x5 x6 6 x264000 x264001) else (gangsawlaw12_ShiftChecks.j2 k x1 x5 x6 x9 x264000 x264001)
def gangsawlaw12_ShiftChecks.j2 : Nat → Int → Bool → Int → Int → List (S54) → List Int → Option (Bool)
  | 0, _, _, _, _, _, _ => none
  | k + 1, x1, x5, x6, x9, x264000, x264001 => (gangsawlaw12_awake.f k).bind fun t292 => (if t292 = true then (if x6 = x9 then (if x9 = 0 then ((gangsawref12_Calendar_Open.f k x264000 x264001 x1).bind fun t293 => (gangsawlaw12_ShiftChecks.j3 k (x5 == t293))) else (if x5 = true then (gangsawlaw12_ShiftChecks.j3 k false) else (gangsawlaw12_ShiftChecks.j3 k true))) else (gangsawlaw12_ShiftChecks.j3 k false)) else (gangsawlaw12_ShiftChecks.j3 k false))
def gangsawlaw12_ShiftChecks.j3 : Nat → Bool → Option (Bool)
  | 0, _ => none
  | k + 1, x4 => some x4
end
def gangsawlaw12_ShiftChecks.f (k : Nat) (l0_0 : List (S54)) (l0_1 : List Int) (a1 : Int) : Option (Bool) := (gangsawlaw12_few.f l0_0 l0_1).bind fun t264 => (if t264 = true then ((gangsawlaw12_ours.f l0_0 l0_1).bind fun bt266 => ((shift_Open.f k bt266.1 bt266.2 a1).bind fun bt272 => ((gangsawlaw12_ours.f l0_0 l0_1).bind fun bt274 => ((shift_Week.f k bt274.1 bt274.2).bind fun bt280 => ((gangsawref12_Check.f k l0_0 l0_1).bind fun t282 => ((gangsawlaw12_ours.f l0_0 l0_1).bind fun bt283 => ((shift_Check.f k bt283.1 bt283.2).bind fun t289 => (if t289 = t282 then (if bt280.2 = t282 then (if t282 = 0 then ((gangsawref12_Calendar_Week.f k l0_0 l0_1).bind fun t290 => (if bt280.1 = t290 then (gangsawlaw12_ShiftChecks.j0 k a1 bt272.1 bt272.2 t282 false l0_0 l0_1) else (gangsawlaw12_ShiftChecks.j0 k a1 bt272.1 bt272.2 t282 true l0_0 l0_1))) else (gangsawlaw12_ShiftChecks.j0 k a1 bt272.1 bt272.2 t282 (bt280.1 != 0) l0_0 l0_1)) else (gangsawlaw12_ShiftChecks.j0 k a1 bt272.1 bt272.2 t282 true l0_0 l0_1)) else (gangsawlaw12_ShiftChecks.j0 k a1 bt272.1 bt272.2 t282 true l0_0 l0_1))))))))) else ((gangsawlaw12_awake.f k).bind fun t265 => (some t265)))
set_option maxHeartbeats 8000000 in
set_option maxRecDepth 100000 in
theorem gangsawlaw12_ShiftChecks.calls (k : Nat) (A0_0 : Option Addr) (c0_0 : Nat) (l0_0 : List (S54)) (A0_1 : Option Addr) (c0_1 : Nat) (l0_1 : List Int) (a1 : Int) (r : Bool) (w : World) (hr0_0 : Kd.C k54 w A0_0 l0_0.length l0_0) (hc0_0 : l0_0.length ≤ c0_0) (hr0_1 : Kd.C (Kd.int .i64) w A0_1 l0_1.length l0_1) (hc0_1 : l0_1.length ≤ c0_1) (h : gangsawlaw12_ShiftChecks.f k l0_0 l0_1 a1 = some r) :
    Calls Try.prog 5 #[.agg #[.slice A0_0 l0_0.length c0_0, .slice A0_1 l0_1.length c0_1], .int .i64 a1] w fun e w' => e = .returned (.bool r) ∧ Below w.heap.size w w' := by
  have hu25 := Try.underlying25
  have HR0_0 := Aside0.mk hr0_0
  have HC0_0 := Aside0.mk hc0_0
  clear hr0_0 hc0_0
  have HR0_1 := Aside0.mk hr0_1
  have HC0_1 := Aside0.mk hc0_1
  clear hr0_1 hc0_1
  have HB := Aside0.mk (Below.refl w.heap.size w)
  have H : ((gangsawlaw12_few.f l0_0 l0_1).bind fun t264 => (if t264 = true then ((gangsawlaw12_ours.f l0_0 l0_1).bind fun bt266 => ((shift_Open.f k bt266.1 bt266.2 a1).bind fun bt272 => ((gangsawlaw12_ours.f l0_0 l0_1).bind fun bt274 => ((shift_Week.f k bt274.1 bt274.2).bind fun bt280 => ((gangsawref12_Check.f k l0_0 l0_1).bind fun t282 => ((gangsawlaw12_ours.f l0_0 l0_1).bind fun bt283 => ((shift_Check.f k bt283.1 bt283.2).bind fun t289 => (if t289 = t282 then (if bt280.2 = t282 then (if t282 = 0 then ((gangsawref12_Calendar_Week.f k l0_0 l0_1).bind fun t290 => (if bt280.1 = t290 then (gangsawlaw12_ShiftChecks.j0 k a1 bt272.1 bt272.2 t282 false l0_0 l0_1) else (gangsawlaw12_ShiftChecks.j0 k a1 bt272.1 bt272.2 t282 true l0_0 l0_1))) else (gangsawlaw12_ShiftChecks.j0 k a1 bt272.1 bt272.2 t282 (bt280.1 != 0) l0_0 l0_1)) else (gangsawlaw12_ShiftChecks.j0 k a1 bt272.1 bt272.2 t282 true l0_0 l0_1)) else (gangsawlaw12_ShiftChecks.j0 k a1 bt272.1 bt272.2 t282 true l0_0 l0_1))))))))) else ((gangsawlaw12_awake.f k).bind fun t265 => (some t265)))) = some r := h
  clear h
  replace H := Option.bind_eq_some_iff.mp H
  obtain ⟨t264, A30, H⟩ := H
  replace H : (if t264 = true then ((gangsawlaw12_ours.f l0_0 l0_1).bind fun bt266 => ((shift_Open.f k bt266.1 bt266.2 a1).bind fun bt272 => ((gangsawlaw12_ours.f l0_0 l0_1).bind fun bt274 => ((shift_Week.f k bt274.1 bt274.2).bind fun bt280 => ((gangsawref12_Check.f k l0_0 l0_1).bind fun t282 => ((gangsawlaw12_ours.f l0_0 l0_1).bind fun bt283 => ((shift_Check.f k bt283.1 bt283.2).bind fun t289 => (if t289 = t282 then (if bt280.2 = t282 then (if t282 = 0 then ((gangsawref12_Calendar_Week.f k l0_0 l0_1).bind fun t290 => (if bt280.1 = t290 then (gangsawlaw12_ShiftChecks.j0 k a1 bt272.1 bt272.2 t282 false l0_0 l0_1) else (gangsawlaw12_ShiftChecks.j0 k a1 bt272.1 bt272.2 t282 true l0_0 l0_1))) else (gangsawlaw12_ShiftChecks.j0 k a1 bt272.1 bt272.2 t282 (bt280.1 != 0) l0_0 l0_1)) else (gangsawlaw12_ShiftChecks.j0 k a1 bt272.1 bt272.2 t282 true l0_0 l0_1)) else (gangsawlaw12_ShiftChecks.j0 k a1 bt272.1 bt272.2 t282 true l0_0 l0_1))))))))) else ((gangsawlaw12_awake.f k).bind fun t265 => (some t265))) = some r := H
  have A3 := Aside0.mk A30
  clear A30
  by_cases c4 : t264 = true
  · subst c4
    have H1 : ((gangsawlaw12_ours.f l0_0 l0_1).bind fun bt266 => ((shift_Open.f k bt266.1 bt266.2 a1).bind fun bt272 => ((gangsawlaw12_ours.f l0_0 l0_1).bind fun bt274 => ((shift_Week.f k bt274.1 bt274.2).bind fun bt280 => ((gangsawref12_Check.f k l0_0 l0_1).bind fun t282 => ((gangsawlaw12_ours.f l0_0 l0_1).bind fun bt283 => ((shift_Check.f k bt283.1 bt283.2).bind fun t289 => (if t289 = t282 then (if bt280.2 = t282 then (if t282 = 0 then ((gangsawref12_Calendar_Week.f k l0_0 l0_1).bind fun t290 => (if bt280.1 = t290 then (gangsawlaw12_ShiftChecks.j0 k a1 bt272.1 bt272.2 t282 false l0_0 l0_1) else (gangsawlaw12_ShiftChecks.j0 k a1 bt272.1 bt272.2 t282 true l0_0 l0_1))) else (gangsawlaw12_ShiftChecks.j0 k a1 bt272.1 bt272.2 t282 (bt280.1 != 0) l0_0 l0_1)) else (gangsawlaw12_ShiftChecks.j0 k a1 bt272.1 bt272.2 t282 true l0_0 l0_1)) else (gangsawlaw12_ShiftChecks.j0 k a1 bt272.1 bt272.2 t282 true l0_0 l0_1))))))))) = some r := by rw [if_pos rfl] at H; exact H
    clear H
    have H := H1
    clear H1
    replace H := Option.bind_eq_some_iff.mp H
    obtain ⟨⟨t266, t269⟩, A50, H⟩ := H
    replace H : ((shift_Open.f k t266 t269 a1).bind fun bt272 => ((gangsawlaw12_ours.f l0_0 l0_1).bind fun bt274 => ((shift_Week.f k bt274.1 bt274.2).bind fun bt280 => ((gangsawref12_Check.f k l0_0 l0_1).bind fun t282 => ((gangsawlaw12_ours.f l0_0 l0_1).bind fun bt283 => ((shift_Check.f k bt283.1 bt283.2).bind fun t289 => (if t289 = t282 then (if bt280.2 = t282 then (if t282 = 0 then ((gangsawref12_Calendar_Week.f k l0_0 l0_1).bind fun t290 => (if bt280.1 = t290 then (gangsawlaw12_ShiftChecks.j0 k a1 bt272.1 bt272.2 t282 false l0_0 l0_1) else (gangsawlaw12_ShiftChecks.j0 k a1 bt272.1 bt272.2 t282 true l0_0 l0_1))) else (gangsawlaw12_ShiftChecks.j0 k a1 bt272.1 bt272.2 t282 (bt280.1 != 0) l0_0 l0_1)) else (gangsawlaw12_ShiftChecks.j0 k a1 bt272.1 bt272.2 t282 true l0_0 l0_1)) else (gangsawlaw12_ShiftChecks.j0 k a1 bt272.1 bt272.2 t282 true l0_0 l0_1)))))))) = some r := H
    have A5 := Aside0.mk A50
    clear A50
    replace H := Option.bind_eq_some_iff.mp H
    obtain ⟨⟨t272, t273⟩, A60, H⟩ := H
    replace H : ((gangsawlaw12_ours.f l0_0 l0_1).bind fun bt274 => ((shift_Week.f k bt274.1 bt274.2).bind fun bt280 => ((gangsawref12_Check.f k l0_0 l0_1).bind fun t282 => ((gangsawlaw12_ours.f l0_0 l0_1).bind fun bt283 => ((shift_Check.f k bt283.1 bt283.2).bind fun t289 => (if t289 = t282 then (if bt280.2 = t282 then (if t282 = 0 then ((gangsawref12_Calendar_Week.f k l0_0 l0_1).bind fun t290 => (if bt280.1 = t290 then (gangsawlaw12_ShiftChecks.j0 k a1 t272 t273 t282 false l0_0 l0_1) else (gangsawlaw12_ShiftChecks.j0 k a1 t272 t273 t282 true l0_0 l0_1))) else (gangsawlaw12_ShiftChecks.j0 k a1 t272 t273 t282 (bt280.1 != 0) l0_0 l0_1)) else (gangsawlaw12_ShiftChecks.j0 k a1 t272 t273 t282 true l0_0 l0_1)) else (gangsawlaw12_ShiftChecks.j0 k a1 t272 t273 t282 true l0_0 l0_1))))))) = some r := H
    have A6 := Aside0.mk A60
    clear A60
    replace H := Option.bind_eq_some_iff.mp H
    obtain ⟨⟨t274, t277⟩, A70, H⟩ := H
    replace H : ((shift_Week.f k t274 t277).bind fun bt280 => ((gangsawref12_Check.f k l0_0 l0_1).bind fun t282 => ((gangsawlaw12_ours.f l0_0 l0_1).bind fun bt283 => ((shift_Check.f k bt283.1 bt283.2).bind fun t289 => (if t289 = t282 then (if bt280.2 = t282 then (if t282 = 0 then ((gangsawref12_Calendar_Week.f k l0_0 l0_1).bind fun t290 => (if bt280.1 = t290 then (gangsawlaw12_ShiftChecks.j0 k a1 t272 t273 t282 false l0_0 l0_1) else (gangsawlaw12_ShiftChecks.j0 k a1 t272 t273 t282 true l0_0 l0_1))) else (gangsawlaw12_ShiftChecks.j0 k a1 t272 t273 t282 (bt280.1 != 0) l0_0 l0_1)) else (gangsawlaw12_ShiftChecks.j0 k a1 t272 t273 t282 true l0_0 l0_1)) else (gangsawlaw12_ShiftChecks.j0 k a1 t272 t273 t282 true l0_0 l0_1)))))) = some r := H
    have A7 := Aside0.mk A70
    clear A70
    replace H := Option.bind_eq_some_iff.mp H
    obtain ⟨⟨t280, t281⟩, A80, H⟩ := H
    replace H : ((gangsawref12_Check.f k l0_0 l0_1).bind fun t282 => ((gangsawlaw12_ours.f l0_0 l0_1).bind fun bt283 => ((shift_Check.f k bt283.1 bt283.2).bind fun t289 => (if t289 = t282 then (if t281 = t282 then (if t282 = 0 then ((gangsawref12_Calendar_Week.f k l0_0 l0_1).bind fun t290 => (if t280 = t290 then (gangsawlaw12_ShiftChecks.j0 k a1 t272 t273 t282 false l0_0 l0_1) else (gangsawlaw12_ShiftChecks.j0 k a1 t272 t273 t282 true l0_0 l0_1))) else (gangsawlaw12_ShiftChecks.j0 k a1 t272 t273 t282 (t280 != 0) l0_0 l0_1)) else (gangsawlaw12_ShiftChecks.j0 k a1 t272 t273 t282 true l0_0 l0_1)) else (gangsawlaw12_ShiftChecks.j0 k a1 t272 t273 t282 true l0_0 l0_1))))) = some r := H
    have A8 := Aside0.mk A80
    clear A80
    replace H := Option.bind_eq_some_iff.mp H
    obtain ⟨t282, A90, H⟩ := H
    replace H : ((gangsawlaw12_ours.f l0_0 l0_1).bind fun bt283 => ((shift_Check.f k bt283.1 bt283.2).bind fun t289 => (if t289 = t282 then (if t281 = t282 then (if t282 = 0 then ((gangsawref12_Calendar_Week.f k l0_0 l0_1).bind fun t290 => (if t280 = t290 then (gangsawlaw12_ShiftChecks.j0 k a1 t272 t273 t282 false l0_0 l0_1) else (gangsawlaw12_ShiftChecks.j0 k a1 t272 t273 t282 true l0_0 l0_1))) else (gangsawlaw12_ShiftChecks.j0 k a1 t272 t273 t282 (t280 != 0) l0_0 l0_1)) else (gangsawlaw12_ShiftChecks.j0 k a1 t272 t273 t282 true l0_0 l0_1)) else (gangsawlaw12_ShiftChecks.j0 k a1 t272 t273 t282 true l0_0 l0_1)))) = some r := H
    have A9 := Aside0.mk A90
    clear A90
    have HC10 := Aside0.mk H
    clear H
    go_enter Try.func5, Try.ntmps5
    go_upto_region 6 with (first | ((with_reducible refine gate_dst (N := 2) rfl ?_); refine box_event ?hg (N := 2) ?hd (cs := #[.slice A0_0 l0_0.length c0_0, .slice A0_1 l0_1.length c0_1]) (t := 25) ?hr ?_; (case hd => rfl); (case hg => rfl); (case hr => first | (go_simp; done) | (go_simp; rfl)); intro gb263 hg w11 hbox hb; have n0_ := Aside0.mk (below_step (by repeat (first | (with_reducible first | exact HB.out | apply below_alloc | apply pw_below_drewN | apply below_drew1) | exact HB.out)) hb); have n1_ := Aside0.mk (hbox); have n2_ := Aside0.mk ((by rw [hg]; exact (below_size (by repeat (first | (with_reducible first | exact HB.out | apply below_alloc | apply pw_below_drewN | apply below_drew1) | exact HB.out))) : w.heap.size ≤ gb263)); have n3_ := Aside0.mk ((by rw [hg]; exact (below_size (by repeat (first | (with_reducible first | exact HB.out | apply below_alloc | apply pw_below_drewN | apply below_drew1) | exact HB.out))) : w.heap.size ≤ gb263)); clear HB; have HB := n0_; have BK263 := n1_; have GW263 := n2_; have GE263 := n3_; clear n0_ n1_ n2_ n3_; clear hb hbox hg; have hcz12_0 : w11.cell? ⟨gb263, 0, none⟩ = some (.slice A0_0 l0_0.length c0_0) := (blk_cell BK263.out 0).trans rfl; have hcz12_1 : w11.cell? ⟨gb263, 1, none⟩ = some (.slice A0_1 l0_1.length c0_1) := (blk_cell BK263.out 1).trans rfl; have hfz12_0 := blk_frozen BK263.out 0; have hfz12_1 := blk_frozen BK263.out 1) | ((with_reducible refine gate_callee (f := 11) rfl ?_); refine goesL_ (some 11) rfl rfl Try.func11 (by kernel_rfl) rfl #[.agg #[.slice A0_0 l0_0.length c0_0, .slice A0_1 l0_1.length c0_1]] rfl (by (try simp only [List.map_toArray, List.map_cons, List.map_nil]); first | done | rfl | (simp only [List.length_drop, List.length_take]; rfl)) ?_; (with_reducible refine (gangsawlaw12_few.calls _ _ l0_0 _ _ l0_1 true _ ?side1 ?side2 ?side3 ?side4 A3.out).mono ?_); (case side1 => repeat (first | exact (Kd.C_below HR0_0.out HB.out) | (with_reducible refine Kd.C_alloc ?_ _) | (with_reducible refine Kd.C_drewN ?_ _) | (with_reducible refine Kd.C_drew ?_))); (case side2 => exact HC0_0.out); (case side3 => repeat (first | exact (Kd.C_below HR0_1.out HB.out) | (with_reducible refine Kd.C_alloc ?_ _) | (with_reducible refine Kd.C_drewN ?_ _) | (with_reducible refine Kd.C_drew ?_))); (case side4 => exact HC0_1.out); rintro e w13 ⟨rfl, hb⟩; refine ⟨_, rfl, ?_⟩; have n0_ := Aside0.mk (blk_below (g := gb263) (o := .cells #[.slice A0_0 l0_0.length c0_0, .slice A0_1 l0_1.length c0_1] 25 (0, 0)) (by (with_reducible repeat (first | refine blk_drewN ?_ _ | refine blk_drew ?_ | refine blk_alloc ?_ _)); exact BK263.out) hb); have n1_ := Aside0.mk (below_step (by repeat (first | (with_reducible first | exact HB.out | apply below_alloc | apply pw_below_drewN | apply below_drew1 | refine below_set ?_ GE263.out) | exact HB.out)) hb); clear BK263; clear HB; have BK263 := n0_; have HB := n1_; clear n0_ n1_; (try clear hb); (try clear hb2); (try clear hk); (try clear hi); have hcz14_0 : w13.cell? ⟨gb263, 0, none⟩ = some (.slice A0_0 l0_0.length c0_0) := (blk_cell BK263.out 0).trans rfl; have hcz14_1 : w13.cell? ⟨gb263, 1, none⟩ = some (.slice A0_1 l0_1.length c0_1) := (blk_cell BK263.out 1).trans rfl; have hfz14_0 := blk_frozen BK263.out 0; have hfz14_1 := blk_frozen BK263.out 1) | ((with_reducible refine gate_callee (f := 14) rfl ?_); refine goesL_ (some 16) rfl rfl Try.func14 (by kernel_rfl) rfl #[.agg #[.slice A0_0 l0_0.length c0_0, .slice A0_1 l0_1.length c0_1]] rfl (by (try simp only [List.map_toArray, List.map_cons, List.map_nil]); first | done | rfl | (simp only [List.length_drop, List.length_take]; rfl)) ?_; (with_reducible refine (gangsawlaw12_ours.calls (fun k_ => k_ < w.heap.size) _ _ l0_0 (fun k_ => k_ < w.heap.size) _ _ l0_1 t266 t269 _ ?side1 ?side2 A5.out).mono ?_); (case side1 => exact Kd.V_mk HC0_0.out (Kd.F_below (Kd.C_F k54_heap HR0_0.out) (by repeat (first | (with_reducible first | exact HB.out | apply below_alloc | apply pw_below_drewN | apply below_drew1 | refine below_set ?_ GE263.out) | exact HB.out)))); (case side2 => exact Kd.V_mk HC0_1.out (Kd.F_below (Kd.C_F (Kd.heap_int .i64) HR0_1.out) (by repeat (first | (with_reducible first | exact HB.out | apply below_alloc | apply pw_below_drewN | apply below_drew1 | refine below_set ?_ GE263.out) | exact HB.out)))); rintro e w15 ⟨v267, v270, rfl, ho0, ho1, hb⟩; refine ⟨_, rfl, ?_⟩; have n0_ := Aside0.mk (Kd.V_lower (Kd.V_mono (ok' := fun k_ => k_ ≠ gb263) ho0 (fun k_ hk_ => Or.elim hk_ (fun hs_ => Or.elim hs_ (fun hs_ => fun e_ => Nat.not_le.2 hs_ (by rw [e_]; exact GW263.out)) (fun hs_ => fun e_ => Nat.not_le.2 hs_ (by rw [e_]; exact GW263.out))) (fun hn_ => (Kd.freshB (g := gb263) (o := .cells #[.slice A0_0 l0_0.length c0_0, .slice A0_1 l0_1.length c0_1] 25 (0, 0)) (by (with_reducible repeat (first | refine blk_drewN ?_ _ | refine blk_drew ?_ | refine blk_alloc ?_ _)); exact BK263.out) k_ hn_)))) (below_size (by repeat (first | (with_reducible first | exact HB.out | apply below_alloc | apply pw_below_drewN | apply below_drew1 | refine below_set ?_ GE263.out) | exact HB.out)))); have n1_ := Aside0.mk (Kd.V_lower (Kd.V_mono (ok' := fun k_ => k_ ≠ gb263) ho1 (fun k_ hk_ => Or.elim hk_ (fun hs_ => Or.elim hs_ (fun hs_ => fun e_ => Nat.not_le.2 hs_ (by rw [e_]; exact GW263.out)) (fun hs_ => fun e_ => Nat.not_le.2 hs_ (by rw [e_]; exact GW263.out))) (fun hn_ => (Kd.freshB (g := gb263) (o := .cells #[.slice A0_0 l0_0.length c0_0, .slice A0_1 l0_1.length c0_1] 25 (0, 0)) (by (with_reducible repeat (first | refine blk_drewN ?_ _ | refine blk_drew ?_ | refine blk_alloc ?_ _)); exact BK263.out) k_ hn_)))) (below_size (by repeat (first | (with_reducible first | exact HB.out | apply below_alloc | apply pw_below_drewN | apply below_drew1 | refine below_set ?_ GE263.out) | exact HB.out)))); have n2_ := Aside0.mk (blk_below (g := gb263) (o := .cells #[.slice A0_0 l0_0.length c0_0, .slice A0_1 l0_1.length c0_1] 25 (0, 0)) (by (with_reducible repeat (first | refine blk_drewN ?_ _ | refine blk_drew ?_ | refine blk_alloc ?_ _)); exact BK263.out) hb); have n3_ := Aside0.mk (below_step (by repeat (first | (with_reducible first | exact HB.out | apply below_alloc | apply pw_below_drewN | apply below_drew1 | refine below_set ?_ GE263.out) | exact HB.out)) hb); clear BK263; clear HB; have HO268 := n0_; have HO271 := n1_; have BK263 := n2_; have HB := n3_; clear n0_ n1_ n2_ n3_; (try clear hb); (try clear hb2); (try clear hk); (try clear hi); (try clear ho0); (try clear ho1); obtain ⟨Ao16, co16, eo16⟩ := Kd.V_slice HO268.out; subst eo16; obtain ⟨Ao17, co17, eo17⟩ := Kd.V_slice HO271.out; subst eo17) | ((with_reducible refine gate_callee (f := 27) rfl ?_); refine goesL_ (some 18) rfl rfl Try.func27 (by kernel_rfl) rfl #[.agg #[.slice Ao16 t266.length co16, .slice Ao17 t269.length co17], .int .i64 a1] rfl (by (try simp only [List.map_toArray, List.map_cons, List.map_nil]); first | done | rfl | (simp only [List.length_drop, List.length_take]; rfl)) ?_; (with_reducible refine (shift_Open.calls k _ _ t266 _ _ t269 a1 t272 t273 _ ?side1 ?side2 ?side3 ?side4 A6.out).mono ?_); (case side1 => repeat (first | exact (Kd.V_reads' HO268.out).2.2 | (with_reducible refine Kd.C_alloc ?_ _) | (with_reducible refine Kd.C_drewN ?_ _) | (with_reducible refine Kd.C_drew ?_))); (case side2 => exact (Kd.V_reads' HO268.out).2.1); (case side3 => repeat (first | exact (Kd.V_reads' HO271.out).2.2 | (with_reducible refine Kd.C_alloc ?_ _) | (with_reducible refine Kd.C_drewN ?_ _) | (with_reducible refine Kd.C_drew ?_))); (case side4 => exact (Kd.V_reads' HO271.out).2.1); rintro e w18 ⟨rfl, hb⟩; refine ⟨_, rfl, ?_⟩; have n0_ := Aside0.mk (Kd.V_below (by (with_reducible repeat (first | apply Kd.V_alloc | apply Kd.V_drewN | apply Kd.V_drew)); exact HO268.out) hb); have n1_ := Aside0.mk (Kd.V_below (by (with_reducible repeat (first | apply Kd.V_alloc | apply Kd.V_drewN | apply Kd.V_drew)); exact HO271.out) hb); have n2_ := Aside0.mk (blk_below (g := gb263) (o := .cells #[.slice A0_0 l0_0.length c0_0, .slice A0_1 l0_1.length c0_1] 25 (0, 0)) (by (with_reducible repeat (first | refine blk_drewN ?_ _ | refine blk_drew ?_ | refine blk_alloc ?_ _)); exact BK263.out) hb); have n3_ := Aside0.mk (below_step (by repeat (first | (with_reducible first | exact HB.out | apply below_alloc | apply pw_below_drewN | apply below_drew1 | refine below_set ?_ GE263.out) | exact HB.out)) hb); clear HO268; clear HO271; clear BK263; clear HB; have HO268 := n0_; have HO271 := n1_; have BK263 := n2_; have HB := n3_; clear n0_ n1_ n2_ n3_; (try clear hb); (try clear hb2); (try clear hk); (try clear hi); have hcz19_0 : w18.cell? ⟨gb263, 0, none⟩ = some (.slice A0_0 l0_0.length c0_0) := (blk_cell BK263.out 0).trans rfl; have hcz19_1 : w18.cell? ⟨gb263, 1, none⟩ = some (.slice A0_1 l0_1.length c0_1) := (blk_cell BK263.out 1).trans rfl; have hfz19_0 := blk_frozen BK263.out 0; have hfz19_1 := blk_frozen BK263.out 1) | ((with_reducible refine gate_callee (f := 14) rfl ?_); refine goesL_ (some 23) rfl rfl Try.func14 (by kernel_rfl) rfl #[.agg #[.slice A0_0 l0_0.length c0_0, .slice A0_1 l0_1.length c0_1]] rfl (by (try simp only [List.map_toArray, List.map_cons, List.map_nil]); first | done | rfl | (simp only [List.length_drop, List.length_take]; rfl)) ?_; (with_reducible refine (gangsawlaw12_ours.calls (fun k_ => k_ < w.heap.size) _ _ l0_0 (fun k_ => k_ < w.heap.size) _ _ l0_1 t274 t277 _ ?side1 ?side2 A7.out).mono ?_); (case side1 => exact Kd.V_mk HC0_0.out (Kd.F_below (Kd.C_F k54_heap HR0_0.out) (by repeat (first | (with_reducible first | exact HB.out | apply below_alloc | apply pw_below_drewN | apply below_drew1 | refine below_set ?_ GE263.out) | exact HB.out)))); (case side2 => exact Kd.V_mk HC0_1.out (Kd.F_below (Kd.C_F (Kd.heap_int .i64) HR0_1.out) (by repeat (first | (with_reducible first | exact HB.out | apply below_alloc | apply pw_below_drewN | apply below_drew1 | refine below_set ?_ GE263.out) | exact HB.out)))); rintro e w20 ⟨v275, v278, rfl, ho0, ho1, hb⟩; refine ⟨_, rfl, ?_⟩; have n0_ := Aside0.mk (Kd.V_below (by (with_reducible repeat (first | apply Kd.V_alloc | apply Kd.V_drewN | apply Kd.V_drew)); exact HO268.out) hb); have n1_ := Aside0.mk (Kd.V_below (by (with_reducible repeat (first | apply Kd.V_alloc | apply Kd.V_drewN | apply Kd.V_drew)); exact HO271.out) hb); have n2_ := Aside0.mk (Kd.V_lower (Kd.V_mono (ok' := fun k_ => k_ ≠ gb263) ho0 (fun k_ hk_ => Or.elim hk_ (fun hs_ => Or.elim hs_ (fun hs_ => fun e_ => Nat.not_le.2 hs_ (by rw [e_]; exact GW263.out)) (fun hs_ => fun e_ => Nat.not_le.2 hs_ (by rw [e_]; exact GW263.out))) (fun hn_ => (Kd.freshB (g := gb263) (o := .cells #[.slice A0_0 l0_0.length c0_0, .slice A0_1 l0_1.length c0_1] 25 (0, 0)) (by (with_reducible repeat (first | refine blk_drewN ?_ _ | refine blk_drew ?_ | refine blk_alloc ?_ _)); exact BK263.out) k_ hn_)))) (below_size (by repeat (first | (with_reducible first | exact HB.out | apply below_alloc | apply pw_below_drewN | apply below_drew1 | refine below_set ?_ GE263.out) | exact HB.out)))); have n3_ := Aside0.mk (Kd.V_lower (Kd.V_mono (ok' := fun k_ => k_ ≠ gb263) ho1 (fun k_ hk_ => Or.elim hk_ (fun hs_ => Or.elim hs_ (fun hs_ => fun e_ => Nat.not_le.2 hs_ (by rw [e_]; exact GW263.out)) (fun hs_ => fun e_ => Nat.not_le.2 hs_ (by rw [e_]; exact GW263.out))) (fun hn_ => (Kd.freshB (g := gb263) (o := .cells #[.slice A0_0 l0_0.length c0_0, .slice A0_1 l0_1.length c0_1] 25 (0, 0)) (by (with_reducible repeat (first | refine blk_drewN ?_ _ | refine blk_drew ?_ | refine blk_alloc ?_ _)); exact BK263.out) k_ hn_)))) (below_size (by repeat (first | (with_reducible first | exact HB.out | apply below_alloc | apply pw_below_drewN | apply below_drew1 | refine below_set ?_ GE263.out) | exact HB.out)))); have n4_ := Aside0.mk (blk_below (g := gb263) (o := .cells #[.slice A0_0 l0_0.length c0_0, .slice A0_1 l0_1.length c0_1] 25 (0, 0)) (by (with_reducible repeat (first | refine blk_drewN ?_ _ | refine blk_drew ?_ | refine blk_alloc ?_ _)); exact BK263.out) hb); have n5_ := Aside0.mk (below_step (by repeat (first | (with_reducible first | exact HB.out | apply below_alloc | apply pw_below_drewN | apply below_drew1 | refine below_set ?_ GE263.out) | exact HB.out)) hb); clear HO268; clear HO271; clear BK263; clear HB; have HO268 := n0_; have HO271 := n1_; have HO276 := n2_; have HO279 := n3_; have BK263 := n4_; have HB := n5_; clear n0_ n1_ n2_ n3_ n4_ n5_; (try clear hb); (try clear hb2); (try clear hk); (try clear hi); (try clear ho0); (try clear ho1); obtain ⟨Ao21, co21, eo21⟩ := Kd.V_slice HO276.out; subst eo21; obtain ⟨Ao22, co22, eo22⟩ := Kd.V_slice HO279.out; subst eo22) | ((with_reducible refine gate_callee (f := 28) rfl ?_); refine goesL_ (some 24) rfl rfl Try.func28 (by kernel_rfl) rfl #[.agg #[.slice Ao21 t274.length co21, .slice Ao22 t277.length co22]] rfl (by (try simp only [List.map_toArray, List.map_cons, List.map_nil]); first | done | rfl | (simp only [List.length_drop, List.length_take]; rfl)) ?_; (with_reducible refine (shift_Week.calls k _ _ t274 _ _ t277 t280 t281 _ ?side1 ?side2 ?side3 ?side4 A8.out).mono ?_); (case side1 => repeat (first | exact (Kd.V_reads' HO276.out).2.2 | (with_reducible refine Kd.C_alloc ?_ _) | (with_reducible refine Kd.C_drewN ?_ _) | (with_reducible refine Kd.C_drew ?_))); (case side2 => exact (Kd.V_reads' HO276.out).2.1); (case side3 => repeat (first | exact (Kd.V_reads' HO279.out).2.2 | (with_reducible refine Kd.C_alloc ?_ _) | (with_reducible refine Kd.C_drewN ?_ _) | (with_reducible refine Kd.C_drew ?_))); (case side4 => exact (Kd.V_reads' HO279.out).2.1); rintro e w23 ⟨rfl, hb⟩; refine ⟨_, rfl, ?_⟩; have n0_ := Aside0.mk (Kd.V_below (by (with_reducible repeat (first | apply Kd.V_alloc | apply Kd.V_drewN | apply Kd.V_drew)); exact HO268.out) hb); have n1_ := Aside0.mk (Kd.V_below (by (with_reducible repeat (first | apply Kd.V_alloc | apply Kd.V_drewN | apply Kd.V_drew)); exact HO271.out) hb); have n2_ := Aside0.mk (Kd.V_below (by (with_reducible repeat (first | apply Kd.V_alloc | apply Kd.V_drewN | apply Kd.V_drew)); exact HO276.out) hb); have n3_ := Aside0.mk (Kd.V_below (by (with_reducible repeat (first | apply Kd.V_alloc | apply Kd.V_drewN | apply Kd.V_drew)); exact HO279.out) hb); have n4_ := Aside0.mk (blk_below (g := gb263) (o := .cells #[.slice A0_0 l0_0.length c0_0, .slice A0_1 l0_1.length c0_1] 25 (0, 0)) (by (with_reducible repeat (first | refine blk_drewN ?_ _ | refine blk_drew ?_ | refine blk_alloc ?_ _)); exact BK263.out) hb); have n5_ := Aside0.mk (below_step (by repeat (first | (with_reducible first | exact HB.out | apply below_alloc | apply pw_below_drewN | apply below_drew1 | refine below_set ?_ GE263.out) | exact HB.out)) hb); clear HO268; clear HO271; clear HO276; clear HO279; clear BK263; clear HB; have HO268 := n0_; have HO271 := n1_; have HO276 := n2_; have HO279 := n3_; have BK263 := n4_; have HB := n5_; clear n0_ n1_ n2_ n3_ n4_ n5_; (try clear hb); (try clear hb2); (try clear hk); (try clear hi); have hcz24_0 : w23.cell? ⟨gb263, 0, none⟩ = some (.slice A0_0 l0_0.length c0_0) := (blk_cell BK263.out 0).trans rfl; have hcz24_1 : w23.cell? ⟨gb263, 1, none⟩ = some (.slice A0_1 l0_1.length c0_1) := (blk_cell BK263.out 1).trans rfl; have hfz24_0 := blk_frozen BK263.out 0; have hfz24_1 := blk_frozen BK263.out 1) | ((with_reducible refine gate_callee (f := 16) rfl ?_); refine goesL_ (some 28) rfl rfl Try.func16 (by kernel_rfl) rfl #[.agg #[.slice A0_0 l0_0.length c0_0, .slice A0_1 l0_1.length c0_1]] rfl (by (try simp only [List.map_toArray, List.map_cons, List.map_nil]); first | done | rfl | (simp only [List.length_drop, List.length_take]; rfl)) ?_; (with_reducible refine (gangsawref12_Check.calls k _ _ l0_0 _ _ l0_1 t282 _ ?side1 ?side2 ?side3 ?side4 A9.out).mono ?_); (case side1 => repeat (first | exact (Kd.C_below HR0_0.out HB.out) | (with_reducible refine Kd.C_alloc ?_ _) | (with_reducible refine Kd.C_drewN ?_ _) | (with_reducible refine Kd.C_drew ?_))); (case side2 => exact HC0_0.out); (case side3 => repeat (first | exact (Kd.C_below HR0_1.out HB.out) | (with_reducible refine Kd.C_alloc ?_ _) | (with_reducible refine Kd.C_drewN ?_ _) | (with_reducible refine Kd.C_drew ?_))); (case side4 => exact HC0_1.out); rintro e w25 ⟨rfl, hb⟩; refine ⟨_, rfl, ?_⟩; have n0_ := Aside0.mk (Kd.V_below (by (with_reducible repeat (first | apply Kd.V_alloc | apply Kd.V_drewN | apply Kd.V_drew)); exact HO268.out) hb); have n1_ := Aside0.mk (Kd.V_below (by (with_reducible repeat (first | apply Kd.V_alloc | apply Kd.V_drewN | apply Kd.V_drew)); exact HO271.out) hb); have n2_ := Aside0.mk (Kd.V_below (by (with_reducible repeat (first | apply Kd.V_alloc | apply Kd.V_drewN | apply Kd.V_drew)); exact HO276.out) hb); have n3_ := Aside0.mk (Kd.V_below (by (with_reducible repeat (first | apply Kd.V_alloc | apply Kd.V_drewN | apply Kd.V_drew)); exact HO279.out) hb); have n4_ := Aside0.mk (blk_below (g := gb263) (o := .cells #[.slice A0_0 l0_0.length c0_0, .slice A0_1 l0_1.length c0_1] 25 (0, 0)) (by (with_reducible repeat (first | refine blk_drewN ?_ _ | refine blk_drew ?_ | refine blk_alloc ?_ _)); exact BK263.out) hb); have n5_ := Aside0.mk (below_step (by repeat (first | (with_reducible first | exact HB.out | apply below_alloc | apply pw_below_drewN | apply below_drew1 | refine below_set ?_ GE263.out) | exact HB.out)) hb); clear HO268; clear HO271; clear HO276; clear HO279; clear BK263; clear HB; have HO268 := n0_; have HO271 := n1_; have HO276 := n2_; have HO279 := n3_; have BK263 := n4_; have HB := n5_; clear n0_ n1_ n2_ n3_ n4_ n5_; (try clear hb); (try clear hb2); (try clear hk); (try clear hi)))
    (try simp only [Act.put, List.setIfInBounds_toArray, List.set_cons_zero, List.set_cons_succ])
    go_cut [56] (fun v56 wc => ∃ (kq : Nat) (x56_9 : Bool), v56 = .bool x56_9 ∧ Aside0 (gangsawlaw12_ShiftChecks.j0 kq a1 t272 t273 t282 x56_9 l0_0 l0_1 = some r) ∧ Aside0 (kq ≤ k) ∧ Aside0 (wc.heap[gb263]? = some (.cells #[(.slice A0_0 l0_0.length c0_0), (.slice A0_1 l0_1.length c0_1)] 25 (0, 0))) ∧ Aside0 (Below w.heap.size w wc))
    case first =>
      have H := HC10.out
      clear HC10
      replace H := Option.bind_eq_some_iff.mp H
      obtain ⟨⟨t283, t286⟩, A260, H⟩ := H
      replace H : ((shift_Check.f k t283 t286).bind fun t289 => (if t289 = t282 then (if t281 = t282 then (if t282 = 0 then ((gangsawref12_Calendar_Week.f k l0_0 l0_1).bind fun t290 => (if t280 = t290 then (gangsawlaw12_ShiftChecks.j0 k a1 t272 t273 t282 false l0_0 l0_1) else (gangsawlaw12_ShiftChecks.j0 k a1 t272 t273 t282 true l0_0 l0_1))) else (gangsawlaw12_ShiftChecks.j0 k a1 t272 t273 t282 (t280 != 0) l0_0 l0_1)) else (gangsawlaw12_ShiftChecks.j0 k a1 t272 t273 t282 true l0_0 l0_1)) else (gangsawlaw12_ShiftChecks.j0 k a1 t272 t273 t282 true l0_0 l0_1))) = some r := H
      have A26 := Aside0.mk A260
      clear A260
      replace H := Option.bind_eq_some_iff.mp H
      obtain ⟨t289, A270, H⟩ := H
      replace H : (if t289 = t282 then (if t281 = t282 then (if t282 = 0 then ((gangsawref12_Calendar_Week.f k l0_0 l0_1).bind fun t290 => (if t280 = t290 then (gangsawlaw12_ShiftChecks.j0 k a1 t272 t273 t282 false l0_0 l0_1) else (gangsawlaw12_ShiftChecks.j0 k a1 t272 t273 t282 true l0_0 l0_1))) else (gangsawlaw12_ShiftChecks.j0 k a1 t272 t273 t282 (t280 != 0) l0_0 l0_1)) else (gangsawlaw12_ShiftChecks.j0 k a1 t272 t273 t282 true l0_0 l0_1)) else (gangsawlaw12_ShiftChecks.j0 k a1 t272 t273 t282 true l0_0 l0_1)) = some r := H
      have A27 := Aside0.mk A270
      clear A270
      by_cases c28 : t289 = t282
      · rw [if_pos c28] at H
        have c28b0 : (t289 == t282) = true := beq_iff_eq.mpr c28
        have c28b1 : (t289 != t282) = false := bne_eq_false_iff_eq.mpr c28
        clear c28
        (first | rw [c28b0] | (simp only [i64_w, i32_w]; rw [c28b0]) | skip)
        by_cases c29 : t281 = t282
        · rw [if_pos c29] at H
          have c29b0 : (t281 == t282) = true := beq_iff_eq.mpr c29
          have c29b1 : (t281 != t282) = false := bne_eq_false_iff_eq.mpr c29
          clear c29
          by_cases c30 : t282 = 0
          · rw [if_pos c30] at H
            have c30b0 : (t282 == 0) = true := beq_iff_eq.mpr c30
            have c30b1 : (t282 != 0) = false := bne_eq_false_iff_eq.mpr c30
            clear c30
            replace H := Option.bind_eq_some_iff.mp H
            obtain ⟨t290, A310, H⟩ := H
            replace H : (if t280 = t290 then (gangsawlaw12_ShiftChecks.j0 k a1 t272 t273 t282 false l0_0 l0_1) else (gangsawlaw12_ShiftChecks.j0 k a1 t272 t273 t282 true l0_0 l0_1)) = some r := H
            have A31 := Aside0.mk A310
            clear A310
            by_cases c32 : t280 = t290
            · rw [if_pos c32] at H
              have c32b0 : (t280 == t290) = true := beq_iff_eq.mpr c32
              have c32b1 : (t280 != t290) = false := bne_eq_false_iff_eq.mpr c32
              clear c32
              have H' := Aside0.mk H
              clear H
              have hcz33_0 : w25.cell? ⟨gb263, 0, none⟩ = some (.slice A0_0 l0_0.length c0_0) := (blk_cell BK263.out 0).trans rfl
              have hcz33_1 : w25.cell? ⟨gb263, 1, none⟩ = some (.slice A0_1 l0_1.length c0_1) := (blk_cell BK263.out 1).trans rfl
              have hfz33_0 := blk_frozen BK263.out 0
              have hfz33_1 := blk_frozen BK263.out 1
              go_wp2_with (first | ((with_reducible refine gate_callee (f := 14) rfl ?_); refine goesL_ (some 30) rfl rfl Try.func14 (by kernel_rfl) rfl #[.agg #[.slice A0_0 l0_0.length c0_0, .slice A0_1 l0_1.length c0_1]] rfl (by (try simp only [List.map_toArray, List.map_cons, List.map_nil]); first | done | rfl | (simp only [List.length_drop, List.length_take]; rfl)) ?_; (with_reducible refine (gangsawlaw12_ours.calls (fun k_ => k_ < w.heap.size) _ _ l0_0 (fun k_ => k_ < w.heap.size) _ _ l0_1 t283 t286 _ ?side1 ?side2 A26.out).mono ?_); (case side1 => exact Kd.V_mk HC0_0.out (Kd.F_below (Kd.C_F k54_heap HR0_0.out) (by repeat (first | (with_reducible first | exact HB.out | apply below_alloc | apply pw_below_drewN | apply below_drew1 | refine below_set ?_ GE263.out) | exact HB.out)))); (case side2 => exact Kd.V_mk HC0_1.out (Kd.F_below (Kd.C_F (Kd.heap_int .i64) HR0_1.out) (by repeat (first | (with_reducible first | exact HB.out | apply below_alloc | apply pw_below_drewN | apply below_drew1 | refine below_set ?_ GE263.out) | exact HB.out)))); rintro e w34 ⟨v284, v287, rfl, ho0, ho1, hb⟩; refine ⟨_, rfl, ?_⟩; have n0_ := Aside0.mk (Kd.V_below (by (with_reducible repeat (first | apply Kd.V_alloc | apply Kd.V_drewN | apply Kd.V_drew)); exact HO268.out) hb); have n1_ := Aside0.mk (Kd.V_below (by (with_reducible repeat (first | apply Kd.V_alloc | apply Kd.V_drewN | apply Kd.V_drew)); exact HO271.out) hb); have n2_ := Aside0.mk (Kd.V_below (by (with_reducible repeat (first | apply Kd.V_alloc | apply Kd.V_drewN | apply Kd.V_drew)); exact HO276.out) hb); have n3_ := Aside0.mk (Kd.V_below (by (with_reducible repeat (first | apply Kd.V_alloc | apply Kd.V_drewN | apply Kd.V_drew)); exact HO279.out) hb); have n4_ := Aside0.mk (Kd.V_lower (Kd.V_mono (ok' := fun k_ => k_ ≠ gb263) ho0 (fun k_ hk_ => Or.elim hk_ (fun hs_ => Or.elim hs_ (fun hs_ => fun e_ => Nat.not_le.2 hs_ (by rw [e_]; exact GW263.out)) (fun hs_ => fun e_ => Nat.not_le.2 hs_ (by rw [e_]; exact GW263.out))) (fun hn_ => (Kd.freshB (g := gb263) (o := .cells #[.slice A0_0 l0_0.length c0_0, .slice A0_1 l0_1.length c0_1] 25 (0, 0)) (by (with_reducible repeat (first | refine blk_drewN ?_ _ | refine blk_drew ?_ | refine blk_alloc ?_ _)); exact BK263.out) k_ hn_)))) (below_size (by repeat (first | (with_reducible first | exact HB.out | apply below_alloc | apply pw_below_drewN | apply below_drew1 | refine below_set ?_ GE263.out) | exact HB.out)))); have n5_ := Aside0.mk (Kd.V_lower (Kd.V_mono (ok' := fun k_ => k_ ≠ gb263) ho1 (fun k_ hk_ => Or.elim hk_ (fun hs_ => Or.elim hs_ (fun hs_ => fun e_ => Nat.not_le.2 hs_ (by rw [e_]; exact GW263.out)) (fun hs_ => fun e_ => Nat.not_le.2 hs_ (by rw [e_]; exact GW263.out))) (fun hn_ => (Kd.freshB (g := gb263) (o := .cells #[.slice A0_0 l0_0.length c0_0, .slice A0_1 l0_1.length c0_1] 25 (0, 0)) (by (with_reducible repeat (first | refine blk_drewN ?_ _ | refine blk_drew ?_ | refine blk_alloc ?_ _)); exact BK263.out) k_ hn_)))) (below_size (by repeat (first | (with_reducible first | exact HB.out | apply below_alloc | apply pw_below_drewN | apply below_drew1 | refine below_set ?_ GE263.out) | exact HB.out)))); have n6_ := Aside0.mk (blk_below (g := gb263) (o := .cells #[.slice A0_0 l0_0.length c0_0, .slice A0_1 l0_1.length c0_1] 25 (0, 0)) (by (with_reducible repeat (first | refine blk_drewN ?_ _ | refine blk_drew ?_ | refine blk_alloc ?_ _)); exact BK263.out) hb); have n7_ := Aside0.mk (below_step (by repeat (first | (with_reducible first | exact HB.out | apply below_alloc | apply pw_below_drewN | apply below_drew1 | refine below_set ?_ GE263.out) | exact HB.out)) hb); clear HO268; clear HO271; clear HO276; clear HO279; clear BK263; clear HB; have HO268 := n0_; have HO271 := n1_; have HO276 := n2_; have HO279 := n3_; have HO285 := n4_; have HO288 := n5_; have BK263 := n6_; have HB := n7_; clear n0_ n1_ n2_ n3_ n4_ n5_ n6_ n7_; (try clear hb); (try clear hb2); (try clear hk); (try clear hi); (try clear ho0); (try clear ho1); obtain ⟨Ao35, co35, eo35⟩ := Kd.V_slice HO285.out; subst eo35; obtain ⟨Ao36, co36, eo36⟩ := Kd.V_slice HO288.out; subst eo36) | ((with_reducible refine gate_callee (f := 29) rfl ?_); refine goesL_ (some 31) rfl rfl Try.func29 (by kernel_rfl) rfl #[.agg #[.slice Ao35 t283.length co35, .slice Ao36 t286.length co36]] rfl (by (try simp only [List.map_toArray, List.map_cons, List.map_nil]); first | done | rfl | (simp only [List.length_drop, List.length_take]; rfl)) ?_; (with_reducible refine (shift_Check.calls k _ _ t283 _ _ t286 t289 _ ?side1 ?side2 ?side3 ?side4 A27.out).mono ?_); (case side1 => repeat (first | exact (Kd.V_reads' HO285.out).2.2 | (with_reducible refine Kd.C_alloc ?_ _) | (with_reducible refine Kd.C_drewN ?_ _) | (with_reducible refine Kd.C_drew ?_))); (case side2 => exact (Kd.V_reads' HO285.out).2.1); (case side3 => repeat (first | exact (Kd.V_reads' HO288.out).2.2 | (with_reducible refine Kd.C_alloc ?_ _) | (with_reducible refine Kd.C_drewN ?_ _) | (with_reducible refine Kd.C_drew ?_))); (case side4 => exact (Kd.V_reads' HO288.out).2.1); rintro e w37 ⟨rfl, hb⟩; refine ⟨_, rfl, ?_⟩; have n0_ := Aside0.mk (Kd.V_below (by (with_reducible repeat (first | apply Kd.V_alloc | apply Kd.V_drewN | apply Kd.V_drew)); exact HO268.out) hb); have n1_ := Aside0.mk (Kd.V_below (by (with_reducible repeat (first | apply Kd.V_alloc | apply Kd.V_drewN | apply Kd.V_drew)); exact HO271.out) hb); have n2_ := Aside0.mk (Kd.V_below (by (with_reducible repeat (first | apply Kd.V_alloc | apply Kd.V_drewN | apply Kd.V_drew)); exact HO276.out) hb); have n3_ := Aside0.mk (Kd.V_below (by (with_reducible repeat (first | apply Kd.V_alloc | apply Kd.V_drewN | apply Kd.V_drew)); exact HO279.out) hb); have n4_ := Aside0.mk (Kd.V_below (by (with_reducible repeat (first | apply Kd.V_alloc | apply Kd.V_drewN | apply Kd.V_drew)); exact HO285.out) hb); have n5_ := Aside0.mk (Kd.V_below (by (with_reducible repeat (first | apply Kd.V_alloc | apply Kd.V_drewN | apply Kd.V_drew)); exact HO288.out) hb); have n6_ := Aside0.mk (blk_below (g := gb263) (o := .cells #[.slice A0_0 l0_0.length c0_0, .slice A0_1 l0_1.length c0_1] 25 (0, 0)) (by (with_reducible repeat (first | refine blk_drewN ?_ _ | refine blk_drew ?_ | refine blk_alloc ?_ _)); exact BK263.out) hb); have n7_ := Aside0.mk (below_step (by repeat (first | (with_reducible first | exact HB.out | apply below_alloc | apply pw_below_drewN | apply below_drew1 | refine below_set ?_ GE263.out) | exact HB.out)) hb); clear HO268; clear HO271; clear HO276; clear HO279; clear HO285; clear HO288; clear BK263; clear HB; have HO268 := n0_; have HO271 := n1_; have HO276 := n2_; have HO279 := n3_; have HO285 := n4_; have HO288 := n5_; have BK263 := n6_; have HB := n7_; clear n0_ n1_ n2_ n3_ n4_ n5_ n6_ n7_; (try clear hb); (try clear hb2); (try clear hk); (try clear hi); have hcz38_0 : w37.cell? ⟨gb263, 0, none⟩ = some (.slice A0_0 l0_0.length c0_0) := (blk_cell BK263.out 0).trans rfl; have hcz38_1 : w37.cell? ⟨gb263, 1, none⟩ = some (.slice A0_1 l0_1.length c0_1) := (blk_cell BK263.out 1).trans rfl; have hfz38_0 := blk_frozen BK263.out 0; have hfz38_1 := blk_frozen BK263.out 1) | (go_at_call 30; (with_reducible refine (gangsawref12_Calendar_Week.calls k _ _ l0_0 _ _ l0_1 t290 _ ?side1 ?side2 ?side3 ?side4 A31.out).mono ?_); (case side1 => repeat (first | exact (Kd.C_below HR0_0.out HB.out) | (with_reducible refine Kd.C_alloc ?_ _) | (with_reducible refine Kd.C_drewN ?_ _) | (with_reducible refine Kd.C_drew ?_))); (case side2 => exact HC0_0.out); (case side3 => repeat (first | exact (Kd.C_below HR0_1.out HB.out) | (with_reducible refine Kd.C_alloc ?_ _) | (with_reducible refine Kd.C_drewN ?_ _) | (with_reducible refine Kd.C_drew ?_))); (case side4 => exact HC0_1.out); rintro e w39 ⟨rfl, hb⟩; have n0_ := Aside0.mk (Kd.V_below (by (with_reducible repeat (first | apply Kd.V_alloc | apply Kd.V_drewN | apply Kd.V_drew)); exact HO268.out) hb); have n1_ := Aside0.mk (Kd.V_below (by (with_reducible repeat (first | apply Kd.V_alloc | apply Kd.V_drewN | apply Kd.V_drew)); exact HO271.out) hb); have n2_ := Aside0.mk (Kd.V_below (by (with_reducible repeat (first | apply Kd.V_alloc | apply Kd.V_drewN | apply Kd.V_drew)); exact HO276.out) hb); have n3_ := Aside0.mk (Kd.V_below (by (with_reducible repeat (first | apply Kd.V_alloc | apply Kd.V_drewN | apply Kd.V_drew)); exact HO279.out) hb); have n4_ := Aside0.mk (Kd.V_below (by (with_reducible repeat (first | apply Kd.V_alloc | apply Kd.V_drewN | apply Kd.V_drew)); exact HO285.out) hb); have n5_ := Aside0.mk (Kd.V_below (by (with_reducible repeat (first | apply Kd.V_alloc | apply Kd.V_drewN | apply Kd.V_drew)); exact HO288.out) hb); have n6_ := Aside0.mk (blk_below (g := gb263) (o := .cells #[.slice A0_0 l0_0.length c0_0, .slice A0_1 l0_1.length c0_1] 25 (0, 0)) (by (with_reducible repeat (first | refine blk_drewN ?_ _ | refine blk_drew ?_ | refine blk_alloc ?_ _)); exact BK263.out) hb); have n7_ := Aside0.mk (below_step (by repeat (first | (with_reducible first | exact HB.out | apply below_alloc | apply pw_below_drewN | apply below_drew1 | refine below_set ?_ GE263.out) | exact HB.out)) hb); clear HO268; clear HO271; clear HO276; clear HO279; clear HO285; clear HO288; clear BK263; clear HB; have HO268 := n0_; have HO271 := n1_; have HO276 := n2_; have HO279 := n3_; have HO285 := n4_; have HO288 := n5_; have BK263 := n6_; have HB := n7_; clear n0_ n1_ n2_ n3_ n4_ n5_ n6_ n7_; (try clear hb); (try clear hb2); (try clear hk); (try clear hi)))
              go_meet
              case rel => exact ⟨_, (false), (by first | rfl | (simp; done) | (simp [*]; done)), H', ⟨by first | omega | exact Nat.le_refl _⟩, ⟨by (with_reducible repeat (first | refine blk_drewN ?_ _ | refine blk_drew ?_ | refine blk_alloc ?_ _)); exact BK263.out⟩, ⟨by repeat (first | (with_reducible first | exact HB.out | apply below_alloc | apply pw_below_drewN | apply below_drew1 | refine below_set ?_ GE263.out) | exact HB.out)⟩⟩
            · rw [if_neg c32] at H
              have c32b0 : (t280 == t290) = false := beq_eq_false_iff_ne.mpr c32
              have c32b1 : (t280 != t290) = true := bne_iff_ne.mpr c32
              have H' := Aside0.mk H
              clear H
              have hcz40_0 : w25.cell? ⟨gb263, 0, none⟩ = some (.slice A0_0 l0_0.length c0_0) := (blk_cell BK263.out 0).trans rfl
              have hcz40_1 : w25.cell? ⟨gb263, 1, none⟩ = some (.slice A0_1 l0_1.length c0_1) := (blk_cell BK263.out 1).trans rfl
              have hfz40_0 := blk_frozen BK263.out 0
              have hfz40_1 := blk_frozen BK263.out 1
              go_wp2_with (first | ((with_reducible refine gate_callee (f := 14) rfl ?_); refine goesL_ (some 30) rfl rfl Try.func14 (by kernel_rfl) rfl #[.agg #[.slice A0_0 l0_0.length c0_0, .slice A0_1 l0_1.length c0_1]] rfl (by (try simp only [List.map_toArray, List.map_cons, List.map_nil]); first | done | rfl | (simp only [List.length_drop, List.length_take]; rfl)) ?_; (with_reducible refine (gangsawlaw12_ours.calls (fun k_ => k_ < w.heap.size) _ _ l0_0 (fun k_ => k_ < w.heap.size) _ _ l0_1 t283 t286 _ ?side1 ?side2 A26.out).mono ?_); (case side1 => exact Kd.V_mk HC0_0.out (Kd.F_below (Kd.C_F k54_heap HR0_0.out) (by repeat (first | (with_reducible first | exact HB.out | apply below_alloc | apply pw_below_drewN | apply below_drew1 | refine below_set ?_ GE263.out) | exact HB.out)))); (case side2 => exact Kd.V_mk HC0_1.out (Kd.F_below (Kd.C_F (Kd.heap_int .i64) HR0_1.out) (by repeat (first | (with_reducible first | exact HB.out | apply below_alloc | apply pw_below_drewN | apply below_drew1 | refine below_set ?_ GE263.out) | exact HB.out)))); rintro e w41 ⟨v284, v287, rfl, ho0, ho1, hb⟩; refine ⟨_, rfl, ?_⟩; have n0_ := Aside0.mk (Kd.V_below (by (with_reducible repeat (first | apply Kd.V_alloc | apply Kd.V_drewN | apply Kd.V_drew)); exact HO268.out) hb); have n1_ := Aside0.mk (Kd.V_below (by (with_reducible repeat (first | apply Kd.V_alloc | apply Kd.V_drewN | apply Kd.V_drew)); exact HO271.out) hb); have n2_ := Aside0.mk (Kd.V_below (by (with_reducible repeat (first | apply Kd.V_alloc | apply Kd.V_drewN | apply Kd.V_drew)); exact HO276.out) hb); have n3_ := Aside0.mk (Kd.V_below (by (with_reducible repeat (first | apply Kd.V_alloc | apply Kd.V_drewN | apply Kd.V_drew)); exact HO279.out) hb); have n4_ := Aside0.mk (Kd.V_lower (Kd.V_mono (ok' := fun k_ => k_ ≠ gb263) ho0 (fun k_ hk_ => Or.elim hk_ (fun hs_ => Or.elim hs_ (fun hs_ => fun e_ => Nat.not_le.2 hs_ (by rw [e_]; exact GW263.out)) (fun hs_ => fun e_ => Nat.not_le.2 hs_ (by rw [e_]; exact GW263.out))) (fun hn_ => (Kd.freshB (g := gb263) (o := .cells #[.slice A0_0 l0_0.length c0_0, .slice A0_1 l0_1.length c0_1] 25 (0, 0)) (by (with_reducible repeat (first | refine blk_drewN ?_ _ | refine blk_drew ?_ | refine blk_alloc ?_ _)); exact BK263.out) k_ hn_)))) (below_size (by repeat (first | (with_reducible first | exact HB.out | apply below_alloc | apply pw_below_drewN | apply below_drew1 | refine below_set ?_ GE263.out) | exact HB.out)))); have n5_ := Aside0.mk (Kd.V_lower (Kd.V_mono (ok' := fun k_ => k_ ≠ gb263) ho1 (fun k_ hk_ => Or.elim hk_ (fun hs_ => Or.elim hs_ (fun hs_ => fun e_ => Nat.not_le.2 hs_ (by rw [e_]; exact GW263.out)) (fun hs_ => fun e_ => Nat.not_le.2 hs_ (by rw [e_]; exact GW263.out))) (fun hn_ => (Kd.freshB (g := gb263) (o := .cells #[.slice A0_0 l0_0.length c0_0, .slice A0_1 l0_1.length c0_1] 25 (0, 0)) (by (with_reducible repeat (first | refine blk_drewN ?_ _ | refine blk_drew ?_ | refine blk_alloc ?_ _)); exact BK263.out) k_ hn_)))) (below_size (by repeat (first | (with_reducible first | exact HB.out | apply below_alloc | apply pw_below_drewN | apply below_drew1 | refine below_set ?_ GE263.out) | exact HB.out)))); have n6_ := Aside0.mk (blk_below (g := gb263) (o := .cells #[.slice A0_0 l0_0.length c0_0, .slice A0_1 l0_1.length c0_1] 25 (0, 0)) (by (with_reducible repeat (first | refine blk_drewN ?_ _ | refine blk_drew ?_ | refine blk_alloc ?_ _)); exact BK263.out) hb); have n7_ := Aside0.mk (below_step (by repeat (first | (with_reducible first | exact HB.out | apply below_alloc | apply pw_below_drewN | apply below_drew1 | refine below_set ?_ GE263.out) | exact HB.out)) hb); clear HO268; clear HO271; clear HO276; clear HO279; clear BK263; clear HB; have HO268 := n0_; have HO271 := n1_; have HO276 := n2_; have HO279 := n3_; have HO285 := n4_; have HO288 := n5_; have BK263 := n6_; have HB := n7_; clear n0_ n1_ n2_ n3_ n4_ n5_ n6_ n7_; (try clear hb); (try clear hb2); (try clear hk); (try clear hi); (try clear ho0); (try clear ho1); obtain ⟨Ao42, co42, eo42⟩ := Kd.V_slice HO285.out; subst eo42; obtain ⟨Ao43, co43, eo43⟩ := Kd.V_slice HO288.out; subst eo43) | ((with_reducible refine gate_callee (f := 29) rfl ?_); refine goesL_ (some 31) rfl rfl Try.func29 (by kernel_rfl) rfl #[.agg #[.slice Ao42 t283.length co42, .slice Ao43 t286.length co43]] rfl (by (try simp only [List.map_toArray, List.map_cons, List.map_nil]); first | done | rfl | (simp only [List.length_drop, List.length_take]; rfl)) ?_; (with_reducible refine (shift_Check.calls k _ _ t283 _ _ t286 t289 _ ?side1 ?side2 ?side3 ?side4 A27.out).mono ?_); (case side1 => repeat (first | exact (Kd.V_reads' HO285.out).2.2 | (with_reducible refine Kd.C_alloc ?_ _) | (with_reducible refine Kd.C_drewN ?_ _) | (with_reducible refine Kd.C_drew ?_))); (case side2 => exact (Kd.V_reads' HO285.out).2.1); (case side3 => repeat (first | exact (Kd.V_reads' HO288.out).2.2 | (with_reducible refine Kd.C_alloc ?_ _) | (with_reducible refine Kd.C_drewN ?_ _) | (with_reducible refine Kd.C_drew ?_))); (case side4 => exact (Kd.V_reads' HO288.out).2.1); rintro e w44 ⟨rfl, hb⟩; refine ⟨_, rfl, ?_⟩; have n0_ := Aside0.mk (Kd.V_below (by (with_reducible repeat (first | apply Kd.V_alloc | apply Kd.V_drewN | apply Kd.V_drew)); exact HO268.out) hb); have n1_ := Aside0.mk (Kd.V_below (by (with_reducible repeat (first | apply Kd.V_alloc | apply Kd.V_drewN | apply Kd.V_drew)); exact HO271.out) hb); have n2_ := Aside0.mk (Kd.V_below (by (with_reducible repeat (first | apply Kd.V_alloc | apply Kd.V_drewN | apply Kd.V_drew)); exact HO276.out) hb); have n3_ := Aside0.mk (Kd.V_below (by (with_reducible repeat (first | apply Kd.V_alloc | apply Kd.V_drewN | apply Kd.V_drew)); exact HO279.out) hb); have n4_ := Aside0.mk (Kd.V_below (by (with_reducible repeat (first | apply Kd.V_alloc | apply Kd.V_drewN | apply Kd.V_drew)); exact HO285.out) hb); have n5_ := Aside0.mk (Kd.V_below (by (with_reducible repeat (first | apply Kd.V_alloc | apply Kd.V_drewN | apply Kd.V_drew)); exact HO288.out) hb); have n6_ := Aside0.mk (blk_below (g := gb263) (o := .cells #[.slice A0_0 l0_0.length c0_0, .slice A0_1 l0_1.length c0_1] 25 (0, 0)) (by (with_reducible repeat (first | refine blk_drewN ?_ _ | refine blk_drew ?_ | refine blk_alloc ?_ _)); exact BK263.out) hb); have n7_ := Aside0.mk (below_step (by repeat (first | (with_reducible first | exact HB.out | apply below_alloc | apply pw_below_drewN | apply below_drew1 | refine below_set ?_ GE263.out) | exact HB.out)) hb); clear HO268; clear HO271; clear HO276; clear HO279; clear HO285; clear HO288; clear BK263; clear HB; have HO268 := n0_; have HO271 := n1_; have HO276 := n2_; have HO279 := n3_; have HO285 := n4_; have HO288 := n5_; have BK263 := n6_; have HB := n7_; clear n0_ n1_ n2_ n3_ n4_ n5_ n6_ n7_; (try clear hb); (try clear hb2); (try clear hk); (try clear hi); have hcz45_0 : w44.cell? ⟨gb263, 0, none⟩ = some (.slice A0_0 l0_0.length c0_0) := (blk_cell BK263.out 0).trans rfl; have hcz45_1 : w44.cell? ⟨gb263, 1, none⟩ = some (.slice A0_1 l0_1.length c0_1) := (blk_cell BK263.out 1).trans rfl; have hfz45_0 := blk_frozen BK263.out 0; have hfz45_1 := blk_frozen BK263.out 1) | (go_at_call 30; (with_reducible refine (gangsawref12_Calendar_Week.calls k _ _ l0_0 _ _ l0_1 t290 _ ?side1 ?side2 ?side3 ?side4 A31.out).mono ?_); (case side1 => repeat (first | exact (Kd.C_below HR0_0.out HB.out) | (with_reducible refine Kd.C_alloc ?_ _) | (with_reducible refine Kd.C_drewN ?_ _) | (with_reducible refine Kd.C_drew ?_))); (case side2 => exact HC0_0.out); (case side3 => repeat (first | exact (Kd.C_below HR0_1.out HB.out) | (with_reducible refine Kd.C_alloc ?_ _) | (with_reducible refine Kd.C_drewN ?_ _) | (with_reducible refine Kd.C_drew ?_))); (case side4 => exact HC0_1.out); rintro e w46 ⟨rfl, hb⟩; have n0_ := Aside0.mk (Kd.V_below (by (with_reducible repeat (first | apply Kd.V_alloc | apply Kd.V_drewN | apply Kd.V_drew)); exact HO268.out) hb); have n1_ := Aside0.mk (Kd.V_below (by (with_reducible repeat (first | apply Kd.V_alloc | apply Kd.V_drewN | apply Kd.V_drew)); exact HO271.out) hb); have n2_ := Aside0.mk (Kd.V_below (by (with_reducible repeat (first | apply Kd.V_alloc | apply Kd.V_drewN | apply Kd.V_drew)); exact HO276.out) hb); have n3_ := Aside0.mk (Kd.V_below (by (with_reducible repeat (first | apply Kd.V_alloc | apply Kd.V_drewN | apply Kd.V_drew)); exact HO279.out) hb); have n4_ := Aside0.mk (Kd.V_below (by (with_reducible repeat (first | apply Kd.V_alloc | apply Kd.V_drewN | apply Kd.V_drew)); exact HO285.out) hb); have n5_ := Aside0.mk (Kd.V_below (by (with_reducible repeat (first | apply Kd.V_alloc | apply Kd.V_drewN | apply Kd.V_drew)); exact HO288.out) hb); have n6_ := Aside0.mk (blk_below (g := gb263) (o := .cells #[.slice A0_0 l0_0.length c0_0, .slice A0_1 l0_1.length c0_1] 25 (0, 0)) (by (with_reducible repeat (first | refine blk_drewN ?_ _ | refine blk_drew ?_ | refine blk_alloc ?_ _)); exact BK263.out) hb); have n7_ := Aside0.mk (below_step (by repeat (first | (with_reducible first | exact HB.out | apply below_alloc | apply pw_below_drewN | apply below_drew1 | refine below_set ?_ GE263.out) | exact HB.out)) hb); clear HO268; clear HO271; clear HO276; clear HO279; clear HO285; clear HO288; clear BK263; clear HB; have HO268 := n0_; have HO271 := n1_; have HO276 := n2_; have HO279 := n3_; have HO285 := n4_; have HO288 := n5_; have BK263 := n6_; have HB := n7_; clear n0_ n1_ n2_ n3_ n4_ n5_ n6_ n7_; (try clear hb); (try clear hb2); (try clear hk); (try clear hi)))
              go_meet
              case rel => exact ⟨_, (true), (by first | rfl | (simp; done) | (simp [*]; done)), H', ⟨by first | omega | exact Nat.le_refl _⟩, ⟨by (with_reducible repeat (first | refine blk_drewN ?_ _ | refine blk_drew ?_ | refine blk_alloc ?_ _)); exact BK263.out⟩, ⟨by repeat (first | (with_reducible first | exact HB.out | apply below_alloc | apply pw_below_drewN | apply below_drew1 | refine below_set ?_ GE263.out) | exact HB.out)⟩⟩
          · rw [if_neg c30] at H
            have c30b0 : (t282 == 0) = false := beq_eq_false_iff_ne.mpr c30
            have c30b1 : (t282 != 0) = true := bne_iff_ne.mpr c30
            have H' := Aside0.mk H
            clear H
            have hcz47_0 : w25.cell? ⟨gb263, 0, none⟩ = some (.slice A0_0 l0_0.length c0_0) := (blk_cell BK263.out 0).trans rfl
            have hcz47_1 : w25.cell? ⟨gb263, 1, none⟩ = some (.slice A0_1 l0_1.length c0_1) := (blk_cell BK263.out 1).trans rfl
            have hfz47_0 := blk_frozen BK263.out 0
            have hfz47_1 := blk_frozen BK263.out 1
            go_wp2_with (first | ((with_reducible refine gate_callee (f := 14) rfl ?_); refine goesL_ (some 30) rfl rfl Try.func14 (by kernel_rfl) rfl #[.agg #[.slice A0_0 l0_0.length c0_0, .slice A0_1 l0_1.length c0_1]] rfl (by (try simp only [List.map_toArray, List.map_cons, List.map_nil]); first | done | rfl | (simp only [List.length_drop, List.length_take]; rfl)) ?_; (with_reducible refine (gangsawlaw12_ours.calls (fun k_ => k_ < w.heap.size) _ _ l0_0 (fun k_ => k_ < w.heap.size) _ _ l0_1 t283 t286 _ ?side1 ?side2 A26.out).mono ?_); (case side1 => exact Kd.V_mk HC0_0.out (Kd.F_below (Kd.C_F k54_heap HR0_0.out) (by repeat (first | (with_reducible first | exact HB.out | apply below_alloc | apply pw_below_drewN | apply below_drew1 | refine below_set ?_ GE263.out) | exact HB.out)))); (case side2 => exact Kd.V_mk HC0_1.out (Kd.F_below (Kd.C_F (Kd.heap_int .i64) HR0_1.out) (by repeat (first | (with_reducible first | exact HB.out | apply below_alloc | apply pw_below_drewN | apply below_drew1 | refine below_set ?_ GE263.out) | exact HB.out)))); rintro e w48 ⟨v284, v287, rfl, ho0, ho1, hb⟩; refine ⟨_, rfl, ?_⟩; have n0_ := Aside0.mk (Kd.V_below (by (with_reducible repeat (first | apply Kd.V_alloc | apply Kd.V_drewN | apply Kd.V_drew)); exact HO268.out) hb); have n1_ := Aside0.mk (Kd.V_below (by (with_reducible repeat (first | apply Kd.V_alloc | apply Kd.V_drewN | apply Kd.V_drew)); exact HO271.out) hb); have n2_ := Aside0.mk (Kd.V_below (by (with_reducible repeat (first | apply Kd.V_alloc | apply Kd.V_drewN | apply Kd.V_drew)); exact HO276.out) hb); have n3_ := Aside0.mk (Kd.V_below (by (with_reducible repeat (first | apply Kd.V_alloc | apply Kd.V_drewN | apply Kd.V_drew)); exact HO279.out) hb); have n4_ := Aside0.mk (Kd.V_lower (Kd.V_mono (ok' := fun k_ => k_ ≠ gb263) ho0 (fun k_ hk_ => Or.elim hk_ (fun hs_ => Or.elim hs_ (fun hs_ => fun e_ => Nat.not_le.2 hs_ (by rw [e_]; exact GW263.out)) (fun hs_ => fun e_ => Nat.not_le.2 hs_ (by rw [e_]; exact GW263.out))) (fun hn_ => (Kd.freshB (g := gb263) (o := .cells #[.slice A0_0 l0_0.length c0_0, .slice A0_1 l0_1.length c0_1] 25 (0, 0)) (by (with_reducible repeat (first | refine blk_drewN ?_ _ | refine blk_drew ?_ | refine blk_alloc ?_ _)); exact BK263.out) k_ hn_)))) (below_size (by repeat (first | (with_reducible first | exact HB.out | apply below_alloc | apply pw_below_drewN | apply below_drew1 | refine below_set ?_ GE263.out) | exact HB.out)))); have n5_ := Aside0.mk (Kd.V_lower (Kd.V_mono (ok' := fun k_ => k_ ≠ gb263) ho1 (fun k_ hk_ => Or.elim hk_ (fun hs_ => Or.elim hs_ (fun hs_ => fun e_ => Nat.not_le.2 hs_ (by rw [e_]; exact GW263.out)) (fun hs_ => fun e_ => Nat.not_le.2 hs_ (by rw [e_]; exact GW263.out))) (fun hn_ => (Kd.freshB (g := gb263) (o := .cells #[.slice A0_0 l0_0.length c0_0, .slice A0_1 l0_1.length c0_1] 25 (0, 0)) (by (with_reducible repeat (first | refine blk_drewN ?_ _ | refine blk_drew ?_ | refine blk_alloc ?_ _)); exact BK263.out) k_ hn_)))) (below_size (by repeat (first | (with_reducible first | exact HB.out | apply below_alloc | apply pw_below_drewN | apply below_drew1 | refine below_set ?_ GE263.out) | exact HB.out)))); have n6_ := Aside0.mk (blk_below (g := gb263) (o := .cells #[.slice A0_0 l0_0.length c0_0, .slice A0_1 l0_1.length c0_1] 25 (0, 0)) (by (with_reducible repeat (first | refine blk_drewN ?_ _ | refine blk_drew ?_ | refine blk_alloc ?_ _)); exact BK263.out) hb); have n7_ := Aside0.mk (below_step (by repeat (first | (with_reducible first | exact HB.out | apply below_alloc | apply pw_below_drewN | apply below_drew1 | refine below_set ?_ GE263.out) | exact HB.out)) hb); clear HO268; clear HO271; clear HO276; clear HO279; clear BK263; clear HB; have HO268 := n0_; have HO271 := n1_; have HO276 := n2_; have HO279 := n3_; have HO285 := n4_; have HO288 := n5_; have BK263 := n6_; have HB := n7_; clear n0_ n1_ n2_ n3_ n4_ n5_ n6_ n7_; (try clear hb); (try clear hb2); (try clear hk); (try clear hi); (try clear ho0); (try clear ho1); obtain ⟨Ao49, co49, eo49⟩ := Kd.V_slice HO285.out; subst eo49; obtain ⟨Ao50, co50, eo50⟩ := Kd.V_slice HO288.out; subst eo50) | ((with_reducible refine gate_callee (f := 29) rfl ?_); refine goesL_ (some 31) rfl rfl Try.func29 (by kernel_rfl) rfl #[.agg #[.slice Ao49 t283.length co49, .slice Ao50 t286.length co50]] rfl (by (try simp only [List.map_toArray, List.map_cons, List.map_nil]); first | done | rfl | (simp only [List.length_drop, List.length_take]; rfl)) ?_; (with_reducible refine (shift_Check.calls k _ _ t283 _ _ t286 t289 _ ?side1 ?side2 ?side3 ?side4 A27.out).mono ?_); (case side1 => repeat (first | exact (Kd.V_reads' HO285.out).2.2 | (with_reducible refine Kd.C_alloc ?_ _) | (with_reducible refine Kd.C_drewN ?_ _) | (with_reducible refine Kd.C_drew ?_))); (case side2 => exact (Kd.V_reads' HO285.out).2.1); (case side3 => repeat (first | exact (Kd.V_reads' HO288.out).2.2 | (with_reducible refine Kd.C_alloc ?_ _) | (with_reducible refine Kd.C_drewN ?_ _) | (with_reducible refine Kd.C_drew ?_))); (case side4 => exact (Kd.V_reads' HO288.out).2.1); rintro e w51 ⟨rfl, hb⟩; refine ⟨_, rfl, ?_⟩; have n0_ := Aside0.mk (Kd.V_below (by (with_reducible repeat (first | apply Kd.V_alloc | apply Kd.V_drewN | apply Kd.V_drew)); exact HO268.out) hb); have n1_ := Aside0.mk (Kd.V_below (by (with_reducible repeat (first | apply Kd.V_alloc | apply Kd.V_drewN | apply Kd.V_drew)); exact HO271.out) hb); have n2_ := Aside0.mk (Kd.V_below (by (with_reducible repeat (first | apply Kd.V_alloc | apply Kd.V_drewN | apply Kd.V_drew)); exact HO276.out) hb); have n3_ := Aside0.mk (Kd.V_below (by (with_reducible repeat (first | apply Kd.V_alloc | apply Kd.V_drewN | apply Kd.V_drew)); exact HO279.out) hb); have n4_ := Aside0.mk (Kd.V_below (by (with_reducible repeat (first | apply Kd.V_alloc | apply Kd.V_drewN | apply Kd.V_drew)); exact HO285.out) hb); have n5_ := Aside0.mk (Kd.V_below (by (with_reducible repeat (first | apply Kd.V_alloc | apply Kd.V_drewN | apply Kd.V_drew)); exact HO288.out) hb); have n6_ := Aside0.mk (blk_below (g := gb263) (o := .cells #[.slice A0_0 l0_0.length c0_0, .slice A0_1 l0_1.length c0_1] 25 (0, 0)) (by (with_reducible repeat (first | refine blk_drewN ?_ _ | refine blk_drew ?_ | refine blk_alloc ?_ _)); exact BK263.out) hb); have n7_ := Aside0.mk (below_step (by repeat (first | (with_reducible first | exact HB.out | apply below_alloc | apply pw_below_drewN | apply below_drew1 | refine below_set ?_ GE263.out) | exact HB.out)) hb); clear HO268; clear HO271; clear HO276; clear HO279; clear HO285; clear HO288; clear BK263; clear HB; have HO268 := n0_; have HO271 := n1_; have HO276 := n2_; have HO279 := n3_; have HO285 := n4_; have HO288 := n5_; have BK263 := n6_; have HB := n7_; clear n0_ n1_ n2_ n3_ n4_ n5_ n6_ n7_; (try clear hb); (try clear hb2); (try clear hk); (try clear hi)))
            go_meet
            case rel => exact ⟨_, ((t280 != 0)), (by first | rfl | (simp; done) | (simp [*]; done)), H', ⟨by first | omega | exact Nat.le_refl _⟩, ⟨by (with_reducible repeat (first | refine blk_drewN ?_ _ | refine blk_drew ?_ | refine blk_alloc ?_ _)); exact BK263.out⟩, ⟨by repeat (first | (with_reducible first | exact HB.out | apply below_alloc | apply pw_below_drewN | apply below_drew1 | refine below_set ?_ GE263.out) | exact HB.out)⟩⟩
        · rw [if_neg c29] at H
          have c29b0 : (t281 == t282) = false := beq_eq_false_iff_ne.mpr c29
          have c29b1 : (t281 != t282) = true := bne_iff_ne.mpr c29
          have H' := Aside0.mk H
          clear H
          have hcz52_0 : w25.cell? ⟨gb263, 0, none⟩ = some (.slice A0_0 l0_0.length c0_0) := (blk_cell BK263.out 0).trans rfl
          have hcz52_1 : w25.cell? ⟨gb263, 1, none⟩ = some (.slice A0_1 l0_1.length c0_1) := (blk_cell BK263.out 1).trans rfl
          have hfz52_0 := blk_frozen BK263.out 0
          have hfz52_1 := blk_frozen BK263.out 1
          go_wp2_with (first | ((with_reducible refine gate_callee (f := 14) rfl ?_); refine goesL_ (some 30) rfl rfl Try.func14 (by kernel_rfl) rfl #[.agg #[.slice A0_0 l0_0.length c0_0, .slice A0_1 l0_1.length c0_1]] rfl (by (try simp only [List.map_toArray, List.map_cons, List.map_nil]); first | done | rfl | (simp only [List.length_drop, List.length_take]; rfl)) ?_; (with_reducible refine (gangsawlaw12_ours.calls (fun k_ => k_ < w.heap.size) _ _ l0_0 (fun k_ => k_ < w.heap.size) _ _ l0_1 t283 t286 _ ?side1 ?side2 A26.out).mono ?_); (case side1 => exact Kd.V_mk HC0_0.out (Kd.F_below (Kd.C_F k54_heap HR0_0.out) (by repeat (first | (with_reducible first | exact HB.out | apply below_alloc | apply pw_below_drewN | apply below_drew1 | refine below_set ?_ GE263.out) | exact HB.out)))); (case side2 => exact Kd.V_mk HC0_1.out (Kd.F_below (Kd.C_F (Kd.heap_int .i64) HR0_1.out) (by repeat (first | (with_reducible first | exact HB.out | apply below_alloc | apply pw_below_drewN | apply below_drew1 | refine below_set ?_ GE263.out) | exact HB.out)))); rintro e w53 ⟨v284, v287, rfl, ho0, ho1, hb⟩; refine ⟨_, rfl, ?_⟩; have n0_ := Aside0.mk (Kd.V_below (by (with_reducible repeat (first | apply Kd.V_alloc | apply Kd.V_drewN | apply Kd.V_drew)); exact HO268.out) hb); have n1_ := Aside0.mk (Kd.V_below (by (with_reducible repeat (first | apply Kd.V_alloc | apply Kd.V_drewN | apply Kd.V_drew)); exact HO271.out) hb); have n2_ := Aside0.mk (Kd.V_below (by (with_reducible repeat (first | apply Kd.V_alloc | apply Kd.V_drewN | apply Kd.V_drew)); exact HO276.out) hb); have n3_ := Aside0.mk (Kd.V_below (by (with_reducible repeat (first | apply Kd.V_alloc | apply Kd.V_drewN | apply Kd.V_drew)); exact HO279.out) hb); have n4_ := Aside0.mk (Kd.V_lower (Kd.V_mono (ok' := fun k_ => k_ ≠ gb263) ho0 (fun k_ hk_ => Or.elim hk_ (fun hs_ => Or.elim hs_ (fun hs_ => fun e_ => Nat.not_le.2 hs_ (by rw [e_]; exact GW263.out)) (fun hs_ => fun e_ => Nat.not_le.2 hs_ (by rw [e_]; exact GW263.out))) (fun hn_ => (Kd.freshB (g := gb263) (o := .cells #[.slice A0_0 l0_0.length c0_0, .slice A0_1 l0_1.length c0_1] 25 (0, 0)) (by (with_reducible repeat (first | refine blk_drewN ?_ _ | refine blk_drew ?_ | refine blk_alloc ?_ _)); exact BK263.out) k_ hn_)))) (below_size (by repeat (first | (with_reducible first | exact HB.out | apply below_alloc | apply pw_below_drewN | apply below_drew1 | refine below_set ?_ GE263.out) | exact HB.out)))); have n5_ := Aside0.mk (Kd.V_lower (Kd.V_mono (ok' := fun k_ => k_ ≠ gb263) ho1 (fun k_ hk_ => Or.elim hk_ (fun hs_ => Or.elim hs_ (fun hs_ => fun e_ => Nat.not_le.2 hs_ (by rw [e_]; exact GW263.out)) (fun hs_ => fun e_ => Nat.not_le.2 hs_ (by rw [e_]; exact GW263.out))) (fun hn_ => (Kd.freshB (g := gb263) (o := .cells #[.slice A0_0 l0_0.length c0_0, .slice A0_1 l0_1.length c0_1] 25 (0, 0)) (by (with_reducible repeat (first | refine blk_drewN ?_ _ | refine blk_drew ?_ | refine blk_alloc ?_ _)); exact BK263.out) k_ hn_)))) (below_size (by repeat (first | (with_reducible first | exact HB.out | apply below_alloc | apply pw_below_drewN | apply below_drew1 | refine below_set ?_ GE263.out) | exact HB.out)))); have n6_ := Aside0.mk (blk_below (g := gb263) (o := .cells #[.slice A0_0 l0_0.length c0_0, .slice A0_1 l0_1.length c0_1] 25 (0, 0)) (by (with_reducible repeat (first | refine blk_drewN ?_ _ | refine blk_drew ?_ | refine blk_alloc ?_ _)); exact BK263.out) hb); have n7_ := Aside0.mk (below_step (by repeat (first | (with_reducible first | exact HB.out | apply below_alloc | apply pw_below_drewN | apply below_drew1 | refine below_set ?_ GE263.out) | exact HB.out)) hb); clear HO268; clear HO271; clear HO276; clear HO279; clear BK263; clear HB; have HO268 := n0_; have HO271 := n1_; have HO276 := n2_; have HO279 := n3_; have HO285 := n4_; have HO288 := n5_; have BK263 := n6_; have HB := n7_; clear n0_ n1_ n2_ n3_ n4_ n5_ n6_ n7_; (try clear hb); (try clear hb2); (try clear hk); (try clear hi); (try clear ho0); (try clear ho1); obtain ⟨Ao54, co54, eo54⟩ := Kd.V_slice HO285.out; subst eo54; obtain ⟨Ao55, co55, eo55⟩ := Kd.V_slice HO288.out; subst eo55) | ((with_reducible refine gate_callee (f := 29) rfl ?_); refine goesL_ (some 31) rfl rfl Try.func29 (by kernel_rfl) rfl #[.agg #[.slice Ao54 t283.length co54, .slice Ao55 t286.length co55]] rfl (by (try simp only [List.map_toArray, List.map_cons, List.map_nil]); first | done | rfl | (simp only [List.length_drop, List.length_take]; rfl)) ?_; (with_reducible refine (shift_Check.calls k _ _ t283 _ _ t286 t289 _ ?side1 ?side2 ?side3 ?side4 A27.out).mono ?_); (case side1 => repeat (first | exact (Kd.V_reads' HO285.out).2.2 | (with_reducible refine Kd.C_alloc ?_ _) | (with_reducible refine Kd.C_drewN ?_ _) | (with_reducible refine Kd.C_drew ?_))); (case side2 => exact (Kd.V_reads' HO285.out).2.1); (case side3 => repeat (first | exact (Kd.V_reads' HO288.out).2.2 | (with_reducible refine Kd.C_alloc ?_ _) | (with_reducible refine Kd.C_drewN ?_ _) | (with_reducible refine Kd.C_drew ?_))); (case side4 => exact (Kd.V_reads' HO288.out).2.1); rintro e w56 ⟨rfl, hb⟩; refine ⟨_, rfl, ?_⟩; have n0_ := Aside0.mk (Kd.V_below (by (with_reducible repeat (first | apply Kd.V_alloc | apply Kd.V_drewN | apply Kd.V_drew)); exact HO268.out) hb); have n1_ := Aside0.mk (Kd.V_below (by (with_reducible repeat (first | apply Kd.V_alloc | apply Kd.V_drewN | apply Kd.V_drew)); exact HO271.out) hb); have n2_ := Aside0.mk (Kd.V_below (by (with_reducible repeat (first | apply Kd.V_alloc | apply Kd.V_drewN | apply Kd.V_drew)); exact HO276.out) hb); have n3_ := Aside0.mk (Kd.V_below (by (with_reducible repeat (first | apply Kd.V_alloc | apply Kd.V_drewN | apply Kd.V_drew)); exact HO279.out) hb); have n4_ := Aside0.mk (Kd.V_below (by (with_reducible repeat (first | apply Kd.V_alloc | apply Kd.V_drewN | apply Kd.V_drew)); exact HO285.out) hb); have n5_ := Aside0.mk (Kd.V_below (by (with_reducible repeat (first | apply Kd.V_alloc | apply Kd.V_drewN | apply Kd.V_drew)); exact HO288.out) hb); have n6_ := Aside0.mk (blk_below (g := gb263) (o := .cells #[.slice A0_0 l0_0.length c0_0, .slice A0_1 l0_1.length c0_1] 25 (0, 0)) (by (with_reducible repeat (first | refine blk_drewN ?_ _ | refine blk_drew ?_ | refine blk_alloc ?_ _)); exact BK263.out) hb); have n7_ := Aside0.mk (below_step (by repeat (first | (with_reducible first | exact HB.out | apply below_alloc | apply pw_below_drewN | apply below_drew1 | refine below_set ?_ GE263.out) | exact HB.out)) hb); clear HO268; clear HO271; clear HO276; clear HO279; clear HO285; clear HO288; clear BK263; clear HB; have HO268 := n0_; have HO271 := n1_; have HO276 := n2_; have HO279 := n3_; have HO285 := n4_; have HO288 := n5_; have BK263 := n6_; have HB := n7_; clear n0_ n1_ n2_ n3_ n4_ n5_ n6_ n7_; (try clear hb); (try clear hb2); (try clear hk); (try clear hi)))
          go_meet
          case rel => exact ⟨_, (true), (by first | rfl | (simp; done) | (simp [*]; done)), H', ⟨by first | omega | exact Nat.le_refl _⟩, ⟨by (with_reducible repeat (first | refine blk_drewN ?_ _ | refine blk_drew ?_ | refine blk_alloc ?_ _)); exact BK263.out⟩, ⟨by repeat (first | (with_reducible first | exact HB.out | apply below_alloc | apply pw_below_drewN | apply below_drew1 | refine below_set ?_ GE263.out) | exact HB.out)⟩⟩
      · rw [if_neg c28] at H
        have c28b0 : (t289 == t282) = false := beq_eq_false_iff_ne.mpr c28
        have c28b1 : (t289 != t282) = true := bne_iff_ne.mpr c28
        (first | rw [c28b0] | (simp only [i64_w, i32_w]; rw [c28b0]) | skip)
        have H' := Aside0.mk H
        clear H
        have hcz57_0 : w25.cell? ⟨gb263, 0, none⟩ = some (.slice A0_0 l0_0.length c0_0) := (blk_cell BK263.out 0).trans rfl
        have hcz57_1 : w25.cell? ⟨gb263, 1, none⟩ = some (.slice A0_1 l0_1.length c0_1) := (blk_cell BK263.out 1).trans rfl
        have hfz57_0 := blk_frozen BK263.out 0
        have hfz57_1 := blk_frozen BK263.out 1
        go_wp2_with (first | ((with_reducible refine gate_callee (f := 14) rfl ?_); refine goesL_ (some 30) rfl rfl Try.func14 (by kernel_rfl) rfl #[.agg #[.slice A0_0 l0_0.length c0_0, .slice A0_1 l0_1.length c0_1]] rfl (by (try simp only [List.map_toArray, List.map_cons, List.map_nil]); first | done | rfl | (simp only [List.length_drop, List.length_take]; rfl)) ?_; (with_reducible refine (gangsawlaw12_ours.calls (fun k_ => k_ < w.heap.size) _ _ l0_0 (fun k_ => k_ < w.heap.size) _ _ l0_1 t283 t286 _ ?side1 ?side2 A26.out).mono ?_); (case side1 => exact Kd.V_mk HC0_0.out (Kd.F_below (Kd.C_F k54_heap HR0_0.out) (by repeat (first | (with_reducible first | exact HB.out | apply below_alloc | apply pw_below_drewN | apply below_drew1 | refine below_set ?_ GE263.out) | exact HB.out)))); (case side2 => exact Kd.V_mk HC0_1.out (Kd.F_below (Kd.C_F (Kd.heap_int .i64) HR0_1.out) (by repeat (first | (with_reducible first | exact HB.out | apply below_alloc | apply pw_below_drewN | apply below_drew1 | refine below_set ?_ GE263.out) | exact HB.out)))); rintro e w58 ⟨v284, v287, rfl, ho0, ho1, hb⟩; refine ⟨_, rfl, ?_⟩; have n0_ := Aside0.mk (Kd.V_below (by (with_reducible repeat (first | apply Kd.V_alloc | apply Kd.V_drewN | apply Kd.V_drew)); exact HO268.out) hb); have n1_ := Aside0.mk (Kd.V_below (by (with_reducible repeat (first | apply Kd.V_alloc | apply Kd.V_drewN | apply Kd.V_drew)); exact HO271.out) hb); have n2_ := Aside0.mk (Kd.V_below (by (with_reducible repeat (first | apply Kd.V_alloc | apply Kd.V_drewN | apply Kd.V_drew)); exact HO276.out) hb); have n3_ := Aside0.mk (Kd.V_below (by (with_reducible repeat (first | apply Kd.V_alloc | apply Kd.V_drewN | apply Kd.V_drew)); exact HO279.out) hb); have n4_ := Aside0.mk (Kd.V_lower (Kd.V_mono (ok' := fun k_ => k_ ≠ gb263) ho0 (fun k_ hk_ => Or.elim hk_ (fun hs_ => Or.elim hs_ (fun hs_ => fun e_ => Nat.not_le.2 hs_ (by rw [e_]; exact GW263.out)) (fun hs_ => fun e_ => Nat.not_le.2 hs_ (by rw [e_]; exact GW263.out))) (fun hn_ => (Kd.freshB (g := gb263) (o := .cells #[.slice A0_0 l0_0.length c0_0, .slice A0_1 l0_1.length c0_1] 25 (0, 0)) (by (with_reducible repeat (first | refine blk_drewN ?_ _ | refine blk_drew ?_ | refine blk_alloc ?_ _)); exact BK263.out) k_ hn_)))) (below_size (by repeat (first | (with_reducible first | exact HB.out | apply below_alloc | apply pw_below_drewN | apply below_drew1 | refine below_set ?_ GE263.out) | exact HB.out)))); have n5_ := Aside0.mk (Kd.V_lower (Kd.V_mono (ok' := fun k_ => k_ ≠ gb263) ho1 (fun k_ hk_ => Or.elim hk_ (fun hs_ => Or.elim hs_ (fun hs_ => fun e_ => Nat.not_le.2 hs_ (by rw [e_]; exact GW263.out)) (fun hs_ => fun e_ => Nat.not_le.2 hs_ (by rw [e_]; exact GW263.out))) (fun hn_ => (Kd.freshB (g := gb263) (o := .cells #[.slice A0_0 l0_0.length c0_0, .slice A0_1 l0_1.length c0_1] 25 (0, 0)) (by (with_reducible repeat (first | refine blk_drewN ?_ _ | refine blk_drew ?_ | refine blk_alloc ?_ _)); exact BK263.out) k_ hn_)))) (below_size (by repeat (first | (with_reducible first | exact HB.out | apply below_alloc | apply pw_below_drewN | apply below_drew1 | refine below_set ?_ GE263.out) | exact HB.out)))); have n6_ := Aside0.mk (blk_below (g := gb263) (o := .cells #[.slice A0_0 l0_0.length c0_0, .slice A0_1 l0_1.length c0_1] 25 (0, 0)) (by (with_reducible repeat (first | refine blk_drewN ?_ _ | refine blk_drew ?_ | refine blk_alloc ?_ _)); exact BK263.out) hb); have n7_ := Aside0.mk (below_step (by repeat (first | (with_reducible first | exact HB.out | apply below_alloc | apply pw_below_drewN | apply below_drew1 | refine below_set ?_ GE263.out) | exact HB.out)) hb); clear HO268; clear HO271; clear HO276; clear HO279; clear BK263; clear HB; have HO268 := n0_; have HO271 := n1_; have HO276 := n2_; have HO279 := n3_; have HO285 := n4_; have HO288 := n5_; have BK263 := n6_; have HB := n7_; clear n0_ n1_ n2_ n3_ n4_ n5_ n6_ n7_; (try clear hb); (try clear hb2); (try clear hk); (try clear hi); (try clear ho0); (try clear ho1); obtain ⟨Ao59, co59, eo59⟩ := Kd.V_slice HO285.out; subst eo59; obtain ⟨Ao60, co60, eo60⟩ := Kd.V_slice HO288.out; subst eo60) | ((with_reducible refine gate_callee (f := 29) rfl ?_); refine goesL_ (some 31) rfl rfl Try.func29 (by kernel_rfl) rfl #[.agg #[.slice Ao59 t283.length co59, .slice Ao60 t286.length co60]] rfl (by (try simp only [List.map_toArray, List.map_cons, List.map_nil]); first | done | rfl | (simp only [List.length_drop, List.length_take]; rfl)) ?_; (with_reducible refine (shift_Check.calls k _ _ t283 _ _ t286 t289 _ ?side1 ?side2 ?side3 ?side4 A27.out).mono ?_); (case side1 => repeat (first | exact (Kd.V_reads' HO285.out).2.2 | (with_reducible refine Kd.C_alloc ?_ _) | (with_reducible refine Kd.C_drewN ?_ _) | (with_reducible refine Kd.C_drew ?_))); (case side2 => exact (Kd.V_reads' HO285.out).2.1); (case side3 => repeat (first | exact (Kd.V_reads' HO288.out).2.2 | (with_reducible refine Kd.C_alloc ?_ _) | (with_reducible refine Kd.C_drewN ?_ _) | (with_reducible refine Kd.C_drew ?_))); (case side4 => exact (Kd.V_reads' HO288.out).2.1); rintro e w61 ⟨rfl, hb⟩; refine ⟨_, rfl, ?_⟩; have n0_ := Aside0.mk (Kd.V_below (by (with_reducible repeat (first | apply Kd.V_alloc | apply Kd.V_drewN | apply Kd.V_drew)); exact HO268.out) hb); have n1_ := Aside0.mk (Kd.V_below (by (with_reducible repeat (first | apply Kd.V_alloc | apply Kd.V_drewN | apply Kd.V_drew)); exact HO271.out) hb); have n2_ := Aside0.mk (Kd.V_below (by (with_reducible repeat (first | apply Kd.V_alloc | apply Kd.V_drewN | apply Kd.V_drew)); exact HO276.out) hb); have n3_ := Aside0.mk (Kd.V_below (by (with_reducible repeat (first | apply Kd.V_alloc | apply Kd.V_drewN | apply Kd.V_drew)); exact HO279.out) hb); have n4_ := Aside0.mk (Kd.V_below (by (with_reducible repeat (first | apply Kd.V_alloc | apply Kd.V_drewN | apply Kd.V_drew)); exact HO285.out) hb); have n5_ := Aside0.mk (Kd.V_below (by (with_reducible repeat (first | apply Kd.V_alloc | apply Kd.V_drewN | apply Kd.V_drew)); exact HO288.out) hb); have n6_ := Aside0.mk (blk_below (g := gb263) (o := .cells #[.slice A0_0 l0_0.length c0_0, .slice A0_1 l0_1.length c0_1] 25 (0, 0)) (by (with_reducible repeat (first | refine blk_drewN ?_ _ | refine blk_drew ?_ | refine blk_alloc ?_ _)); exact BK263.out) hb); have n7_ := Aside0.mk (below_step (by repeat (first | (with_reducible first | exact HB.out | apply below_alloc | apply pw_below_drewN | apply below_drew1 | refine below_set ?_ GE263.out) | exact HB.out)) hb); clear HO268; clear HO271; clear HO276; clear HO279; clear HO285; clear HO288; clear BK263; clear HB; have HO268 := n0_; have HO271 := n1_; have HO276 := n2_; have HO279 := n3_; have HO285 := n4_; have HO288 := n5_; have BK263 := n6_; have HB := n7_; clear n0_ n1_ n2_ n3_ n4_ n5_ n6_ n7_; (try clear hb); (try clear hb2); (try clear hk); (try clear hi)))
        go_meet
        case rel => exact ⟨_, (true), (by first | rfl | (simp; done) | (simp [*]; done)), H', ⟨by first | omega | exact Nat.le_refl _⟩, ⟨by (with_reducible repeat (first | refine blk_drewN ?_ _ | refine blk_drew ?_ | refine blk_alloc ?_ _)); exact BK263.out⟩, ⟨by repeat (first | (with_reducible first | exact HB.out | apply below_alloc | apply pw_below_drewN | apply below_drew1 | refine below_set ?_ GE263.out) | exact HB.out)⟩⟩
    case rest =>
      clear HC10
      try clear c1
      try clear c2
      try clear p2
      try clear c3
      try clear c4
      try clear c5
      try clear c11
      try clear c14
      try clear c16
      try clear c27
      try clear c28
      try clear c28b0
      try clear c28b1
      try clear c29
      try clear c29b0
      try clear c29b1
      try clear c30
      try clear c30b0
      try clear c30b1
      try clear c32
      try clear c32b0
      try clear c32b1
      try clear hcz12_0
      try clear hcz12_1
      try clear hcz14_0
      try clear hcz14_1
      try clear hcz19_0
      try clear hcz19_1
      try clear hcz24_0
      try clear hcz24_1
      try clear hcz33_0
      try clear hcz33_1
      try clear hcz38_0
      try clear hcz38_1
      try clear hcz40_0
      try clear hcz40_1
      try clear hcz45_0
      try clear hcz45_1
      try clear hcz47_0
      try clear hcz47_1
      try clear hcz52_0
      try clear hcz52_1
      try clear hcz57_0
      try clear hcz57_1
      try clear hfz12_0
      try clear hfz12_1
      try clear hfz14_0
      try clear hfz14_1
      try clear hfz19_0
      try clear hfz19_1
      try clear hfz24_0
      try clear hfz24_1
      try clear hfz33_0
      try clear hfz33_1
      try clear hfz38_0
      try clear hfz38_1
      try clear hfz40_0
      try clear hfz40_1
      try clear hfz45_0
      try clear hfz45_1
      try clear hfz47_0
      try clear hfz47_1
      try clear hfz52_0
      try clear hfz52_1
      try clear hfz57_0
      try clear hfz57_1
      obtain ⟨kq, x56_9, rfl, HA, HJ9, BK263, HB⟩ := hcut
      cases kq with
      | zero => exact absurd HA.out (by simp [gangsawlaw12_ShiftChecks.j0])
      | succ kj9 =>
        have H := HA.out
        clear HA
        simp only [gangsawlaw12_ShiftChecks.j0] at H
        by_cases c62 : x56_9 = true
        · subst c62
          have H1 : (some false) = some r := by rw [if_pos rfl] at H; exact H
          clear H
          have H := H1
          clear H1
          obtain rfl := Option.some.inj H
          go_wp2
          go_ret
          exact ⟨by first | rfl | (simp [errW_none, errW_some] <;> rfl) | (simp [*, errW_none, errW_some] <;> rfl), by repeat (first | (with_reducible first | exact HB.out | apply below_alloc | apply pw_below_drewN | apply below_drew1 | refine below_set ?_ GE263.out) | exact HB.out)⟩
        · replace c62 := Bool.eq_false_iff.mpr c62
          subst c62
          have H1 : (if t282 = 0 then ((gangsawref12_Minute.f a1).bind fun t291 => (gangsawlaw12_ShiftChecks.j1 kj9 a1 t272 t273 t282 (!t291) l0_0 l0_1)) else (gangsawlaw12_ShiftChecks.j1 kj9 a1 t272 t273 t282 false l0_0 l0_1)) = some r := by rw [if_neg (show ¬ (false = true) by decide)] at H; exact H
          clear H
          have H := H1
          clear H1
          have HC63 := Aside0.mk H
          clear H
          go_upto_region 8 with (fail)
          go_cut [63] (fun v63 wc => ∃ (kq : Nat) (x63_62 : Bool), v63 = .bool x63_62 ∧ Aside0 (gangsawlaw12_ShiftChecks.j1 kq a1 t272 t273 t282 x63_62 l0_0 l0_1 = some r) ∧ Aside0 (kq ≤ kj9) ∧ Aside0 (wc.heap[gb263]? = some (.cells #[(.slice A0_0 l0_0.length c0_0), (.slice A0_1 l0_1.length c0_1)] 25 (0, 0))) ∧ Aside0 (Below w.heap.size w wc))
          case first =>
            have H := HC63.out
            clear HC63
            by_cases c64 : t282 = 0
            · rw [if_pos c64] at H
              have c64b0 : (t282 == 0) = true := beq_iff_eq.mpr c64
              have c64b1 : (t282 != 0) = false := bne_eq_false_iff_eq.mpr c64
              clear c64
              (first | rw [c64b0] | (simp only [i64_w, i32_w]; rw [c64b0]) | skip)
              replace H := Option.bind_eq_some_iff.mp H
              obtain ⟨t291, A650, H⟩ := H
              replace H : (gangsawlaw12_ShiftChecks.j1 kj9 a1 t272 t273 t282 (!t291) l0_0 l0_1) = some r := H
              have A65 := Aside0.mk A650
              clear A650
              have H' := Aside0.mk H
              clear H
              go_wp2_with (first | (go_at_call 17; (with_reducible refine (gangsawref12_Minute.calls a1 t291 _ A65.out).mono ?_); rintro e w' ⟨rfl, ⟨nd, rfl⟩⟩))
              go_meet
              case rel => exact ⟨_, (!t291), (by first | rfl | (simp; done) | (simp [*]; done)), H', ⟨by have := HJ9.out; first | omega | exact Nat.le_refl _⟩, ⟨by (with_reducible repeat (first | refine blk_drewN ?_ _ | refine blk_drew ?_ | refine blk_alloc ?_ _)); exact BK263.out⟩, ⟨by repeat (first | (with_reducible first | exact HB.out | apply below_alloc | apply pw_below_drewN | apply below_drew1 | refine below_set ?_ GE263.out) | exact HB.out)⟩⟩
            · rw [if_neg c64] at H
              have c64b0 : (t282 == 0) = false := beq_eq_false_iff_ne.mpr c64
              have c64b1 : (t282 != 0) = true := bne_iff_ne.mpr c64
              (first | rw [c64b0] | (simp only [i64_w, i32_w]; rw [c64b0]) | skip)
              have H' := Aside0.mk H
              clear H
              go_wp2
              go_meet
              case rel => exact ⟨_, (false), (by first | rfl | (simp; done) | (simp [*]; done)), H', ⟨by have := HJ9.out; first | omega | exact Nat.le_refl _⟩, ⟨by (with_reducible repeat (first | refine blk_drewN ?_ _ | refine blk_drew ?_ | refine blk_alloc ?_ _)); exact BK263.out⟩, ⟨by repeat (first | (with_reducible first | exact HB.out | apply below_alloc | apply pw_below_drewN | apply below_drew1 | refine below_set ?_ GE263.out) | exact HB.out)⟩⟩
          case rest =>
            clear HC63
            try clear c1
            try clear c2
            try clear p2
            try clear c3
            try clear c4
            try clear c5
            try clear c6
            try clear c11
            try clear c14
            try clear c16
            try clear c27
            try clear c28
            try clear c28b0
            try clear c28b1
            try clear c29
            try clear c29b0
            try clear c29b1
            try clear c30
            try clear c30b0
            try clear c30b1
            try clear c32
            try clear c32b0
            try clear c32b1
            try clear c62
            try clear c64
            try clear c64b0
            try clear c64b1
            try clear hcz12_0
            try clear hcz12_1
            try clear hcz14_0
            try clear hcz14_1
            try clear hcz19_0
            try clear hcz19_1
            try clear hcz24_0
            try clear hcz24_1
            try clear hcz33_0
            try clear hcz33_1
            try clear hcz38_0
            try clear hcz38_1
            try clear hcz40_0
            try clear hcz40_1
            try clear hcz45_0
            try clear hcz45_1
            try clear hcz47_0
            try clear hcz47_1
            try clear hcz52_0
            try clear hcz52_1
            try clear hcz57_0
            try clear hcz57_1
            try clear hfz12_0
            try clear hfz12_1
            try clear hfz14_0
            try clear hfz14_1
            try clear hfz19_0
            try clear hfz19_1
            try clear hfz24_0
            try clear hfz24_1
            try clear hfz33_0
            try clear hfz33_1
            try clear hfz38_0
            try clear hfz38_1
            try clear hfz40_0
            try clear hfz40_1
            try clear hfz45_0
            try clear hfz45_1
            try clear hfz47_0
            try clear hfz47_1
            try clear hfz52_0
            try clear hfz52_1
            try clear hfz57_0
            try clear hfz57_1
            try clear p2
            obtain ⟨kq, x63_62, rfl, HA, HJ62, BK263, HB⟩ := hcut
            cases kq with
            | zero => exact absurd HA.out (by simp [gangsawlaw12_ShiftChecks.j1])
            | succ kj62 =>
              have H := HA.out
              clear HA
              simp only [gangsawlaw12_ShiftChecks.j1] at H
              have HC66 := Aside0.mk H
              clear H
              go_upto_if 63 with (fail)
              go_cut [9] (fun v9 wc => ∃ (kq : Nat) (x9_65 : Int), v9 = .int .i64 x9_65 ∧ Aside0 (gangsawlaw12_ShiftChecks.j2 kq a1 t272 t273 x9_65 l0_0 l0_1 = some r) ∧ Aside0 (kq ≤ kj62) ∧ Aside0 (wc.heap[gb263]? = some (.cells #[(.slice A0_0 l0_0.length c0_0), (.slice A0_1 l0_1.length c0_1)] 25 (0, 0))) ∧ Aside0 (Below w.heap.size w wc))
              case first =>
                have H := HC66.out
                clear HC66
                by_cases c67 : x63_62 = true
                · subst c67
                  have H1 : (gangsawlaw12_ShiftChecks.j2 kj62 a1 t272 t273 6 l0_0 l0_1) = some r := by rw [if_pos rfl] at H; exact H
                  clear H
                  have H := H1
                  clear H1
                  have H' := Aside0.mk H
                  clear H
                  go_wp2
                  go_meet
                  case rel => exact ⟨_, (6), (by first | rfl | (simp; done) | (simp [*]; done)), H', ⟨by have := HJ9.out; have := HJ62.out; first | omega | exact Nat.le_refl _⟩, ⟨by (with_reducible repeat (first | refine blk_drewN ?_ _ | refine blk_drew ?_ | refine blk_alloc ?_ _)); exact BK263.out⟩, ⟨by repeat (first | (with_reducible first | exact HB.out | apply below_alloc | apply pw_below_drewN | apply below_drew1 | refine below_set ?_ GE263.out) | exact HB.out)⟩⟩
                · replace c67 := Bool.eq_false_iff.mpr c67
                  subst c67
                  have H1 : (gangsawlaw12_ShiftChecks.j2 kj62 a1 t272 t273 t282 l0_0 l0_1) = some r := by rw [if_neg (show ¬ (false = true) by decide)] at H; exact H
                  clear H
                  have H := H1
                  clear H1
                  have H' := Aside0.mk H
                  clear H
                  go_wp2
                  go_meet
                  case rel => exact ⟨_, (t282), (by first | rfl | (simp; done) | (simp [*]; done)), H', ⟨by have := HJ9.out; have := HJ62.out; first | omega | exact Nat.le_refl _⟩, ⟨by (with_reducible repeat (first | refine blk_drewN ?_ _ | refine blk_drew ?_ | refine blk_alloc ?_ _)); exact BK263.out⟩, ⟨by repeat (first | (with_reducible first | exact HB.out | apply below_alloc | apply pw_below_drewN | apply below_drew1 | refine below_set ?_ GE263.out) | exact HB.out)⟩⟩
              case rest =>
                clear HC66
                try clear c1
                try clear c2
                try clear p2
                try clear c3
                try clear c4
                try clear c5
                try clear c6
                try clear c11
                try clear c14
                try clear c16
                try clear c27
                try clear c28
                try clear c28b0
                try clear c28b1
                try clear c29
                try clear c29b0
                try clear c29b1
                try clear c30
                try clear c30b0
                try clear c30b1
                try clear c32
                try clear c32b0
                try clear c32b1
                try clear c62
                try clear c64
                try clear c64b0
                try clear c64b1
                try clear c67
                try clear hcz12_0
                try clear hcz12_1
                try clear hcz14_0
                try clear hcz14_1
                try clear hcz19_0
                try clear hcz19_1
                try clear hcz24_0
                try clear hcz24_1
                try clear hcz33_0
                try clear hcz33_1
                try clear hcz38_0
                try clear hcz38_1
                try clear hcz40_0
                try clear hcz40_1
                try clear hcz45_0
                try clear hcz45_1
                try clear hcz47_0
                try clear hcz47_1
                try clear hcz52_0
                try clear hcz52_1
                try clear hcz57_0
                try clear hcz57_1
                try clear hfz12_0
                try clear hfz12_1
                try clear hfz14_0
                try clear hfz14_1
                try clear hfz19_0
                try clear hfz19_1
                try clear hfz24_0
                try clear hfz24_1
                try clear hfz33_0
                try clear hfz33_1
                try clear hfz38_0
                try clear hfz38_1
                try clear hfz40_0
                try clear hfz40_1
                try clear hfz45_0
                try clear hfz45_1
                try clear hfz47_0
                try clear hfz47_1
                try clear hfz52_0
                try clear hfz52_1
                try clear hfz57_0
                try clear hfz57_1
                try clear p2
                obtain ⟨kq, x9_65, rfl, HA, HJ65, BK263, HB⟩ := hcut
                cases kq with
                | zero => exact absurd HA.out (by simp [gangsawlaw12_ShiftChecks.j2])
                | succ kj65 =>
                  have H := HA.out
                  clear HA
                  simp only [gangsawlaw12_ShiftChecks.j2] at H
                  have HC68 := Aside0.mk H
                  clear H
                  go_upto_region 10 with (fail)
                  go_cut [4] (fun v4 wc => ∃ (kq : Nat) (x4_67 : Bool), v4 = .bool x4_67 ∧ Aside0 (gangsawlaw12_ShiftChecks.j3 kq x4_67 = some r) ∧ Aside0 (kq ≤ kj65) ∧ Aside0 (wc.heap[gb263]? = some (.cells #[(.slice A0_0 l0_0.length c0_0), (.slice A0_1 l0_1.length c0_1)] 25 (0, 0))) ∧ Aside0 (Below w.heap.size w wc))
                  case first =>
                    have H := HC68.out
                    clear HC68
                    replace H := Option.bind_eq_some_iff.mp H
                    obtain ⟨t292, A690, H⟩ := H
                    replace H : (if t292 = true then (if t273 = x9_65 then (if x9_65 = 0 then ((gangsawref12_Calendar_Open.f kj65 l0_0 l0_1 a1).bind fun t293 => (gangsawlaw12_ShiftChecks.j3 kj65 (t272 == t293))) else (if t272 = true then (gangsawlaw12_ShiftChecks.j3 kj65 false) else (gangsawlaw12_ShiftChecks.j3 kj65 true))) else (gangsawlaw12_ShiftChecks.j3 kj65 false)) else (gangsawlaw12_ShiftChecks.j3 kj65 false)) = some r := H
                    have A69 := Aside0.mk A690
                    clear A690
                    by_cases c70 : t292 = true
                    · subst c70
                      have H1 : (if t273 = x9_65 then (if x9_65 = 0 then ((gangsawref12_Calendar_Open.f kj65 l0_0 l0_1 a1).bind fun t293 => (gangsawlaw12_ShiftChecks.j3 kj65 (t272 == t293))) else (if t272 = true then (gangsawlaw12_ShiftChecks.j3 kj65 false) else (gangsawlaw12_ShiftChecks.j3 kj65 true))) else (gangsawlaw12_ShiftChecks.j3 kj65 false)) = some r := by rw [if_pos rfl] at H; exact H
                      clear H
                      have H := H1
                      clear H1
                      by_cases c71 : t273 = x9_65
                      · rw [if_pos c71] at H
                        have c71b0 : (t273 == x9_65) = true := beq_iff_eq.mpr c71
                        have c71b1 : (t273 != x9_65) = false := bne_eq_false_iff_eq.mpr c71
                        clear c71
                        (first | rw [c71b0] | (simp only [i64_w, i32_w]; rw [c71b0]) | skip)
                        by_cases c72 : x9_65 = 0
                        · rw [if_pos c72] at H
                          have c72b0 : (x9_65 == 0) = true := beq_iff_eq.mpr c72
                          have c72b1 : (x9_65 != 0) = false := bne_eq_false_iff_eq.mpr c72
                          clear c72
                          replace H := Option.bind_eq_some_iff.mp H
                          obtain ⟨t293, A730, H⟩ := H
                          replace H : (gangsawlaw12_ShiftChecks.j3 kj65 (t272 == t293)) = some r := H
                          have A73 := Aside0.mk A730
                          clear A730
                          have H' := Aside0.mk H
                          clear H
                          go_wp2_with (first | ((with_reducible refine gate_callee (f := 12) rfl ?_); refine goesL_ (some 64) rfl rfl Try.func12 (by kernel_rfl) rfl #[] rfl (by (try simp only [List.map_toArray, List.map_cons, List.map_nil]); first | done | rfl | (simp only [List.length_drop, List.length_take]; rfl)) ?_; (with_reducible refine (gangsawlaw12_awake.calls kj65  true _ A69.out).mono ?_); rintro e w74 ⟨rfl, hb⟩; refine ⟨_, rfl, ?_⟩; have n0_ := Aside0.mk (blk_below (g := gb263) (o := .cells #[.slice A0_0 l0_0.length c0_0, .slice A0_1 l0_1.length c0_1] 25 (0, 0)) (by (with_reducible repeat (first | refine blk_drewN ?_ _ | refine blk_drew ?_ | refine blk_alloc ?_ _)); exact BK263.out) hb); have n1_ := Aside0.mk (below_step (by repeat (first | (with_reducible first | exact HB.out | apply below_alloc | apply pw_below_drewN | apply below_drew1 | refine below_set ?_ GE263.out) | exact HB.out)) hb); clear BK263; clear HB; have BK263 := n0_; have HB := n1_; clear n0_ n1_; (try clear hb); (try clear hb2); (try clear hk); (try clear hi); have hcz75_0 : w74.cell? ⟨gb263, 0, none⟩ = some (.slice A0_0 l0_0.length c0_0) := (blk_cell BK263.out 0).trans rfl; have hcz75_1 : w74.cell? ⟨gb263, 1, none⟩ = some (.slice A0_1 l0_1.length c0_1) := (blk_cell BK263.out 1).trans rfl; have hfz75_0 := blk_frozen BK263.out 0; have hfz75_1 := blk_frozen BK263.out 1) | (go_at_call 31; (with_reducible refine (gangsawref12_Calendar_Open.calls kj65 _ _ l0_0 _ _ l0_1 a1 t293 _ ?side1 ?side2 ?side3 ?side4 A73.out).mono ?_); (case side1 => repeat (first | exact (Kd.C_below HR0_0.out HB.out) | (with_reducible refine Kd.C_alloc ?_ _) | (with_reducible refine Kd.C_drewN ?_ _) | (with_reducible refine Kd.C_drew ?_))); (case side2 => exact HC0_0.out); (case side3 => repeat (first | exact (Kd.C_below HR0_1.out HB.out) | (with_reducible refine Kd.C_alloc ?_ _) | (with_reducible refine Kd.C_drewN ?_ _) | (with_reducible refine Kd.C_drew ?_))); (case side4 => exact HC0_1.out); rintro e w76 ⟨rfl, hb⟩; have n0_ := Aside0.mk (blk_below (g := gb263) (o := .cells #[.slice A0_0 l0_0.length c0_0, .slice A0_1 l0_1.length c0_1] 25 (0, 0)) (by (with_reducible repeat (first | refine blk_drewN ?_ _ | refine blk_drew ?_ | refine blk_alloc ?_ _)); exact BK263.out) hb); have n1_ := Aside0.mk (below_step (by repeat (first | (with_reducible first | exact HB.out | apply below_alloc | apply pw_below_drewN | apply below_drew1 | refine below_set ?_ GE263.out) | exact HB.out)) hb); clear BK263; clear HB; have BK263 := n0_; have HB := n1_; clear n0_ n1_; (try clear hb); (try clear hb2); (try clear hk); (try clear hi)))
                          go_meet
                          case rel => exact ⟨_, ((t272 == t293)), (by first | rfl | (simp; done) | (simp [*]; done)), H', ⟨by have := HJ9.out; have := HJ62.out; have := HJ65.out; first | omega | exact Nat.le_refl _⟩, ⟨by (with_reducible repeat (first | refine blk_drewN ?_ _ | refine blk_drew ?_ | refine blk_alloc ?_ _)); exact BK263.out⟩, ⟨by repeat (first | (with_reducible first | exact HB.out | apply below_alloc | apply pw_below_drewN | apply below_drew1 | refine below_set ?_ GE263.out) | exact HB.out)⟩⟩
                        · rw [if_neg c72] at H
                          have c72b0 : (x9_65 == 0) = false := beq_eq_false_iff_ne.mpr c72
                          have c72b1 : (x9_65 != 0) = true := bne_iff_ne.mpr c72
                          by_cases c77 : t272 = true
                          · subst c77
                            have H1 : (gangsawlaw12_ShiftChecks.j3 kj65 false) = some r := by rw [if_pos rfl] at H; exact H
                            clear H
                            have H := H1
                            clear H1
                            have H' := Aside0.mk H
                            clear H
                            go_wp2_with (first | ((with_reducible refine gate_callee (f := 12) rfl ?_); refine goesL_ (some 64) rfl rfl Try.func12 (by kernel_rfl) rfl #[] rfl (by (try simp only [List.map_toArray, List.map_cons, List.map_nil]); first | done | rfl | (simp only [List.length_drop, List.length_take]; rfl)) ?_; (with_reducible refine (gangsawlaw12_awake.calls kj65  true _ A69.out).mono ?_); rintro e w78 ⟨rfl, hb⟩; refine ⟨_, rfl, ?_⟩; have n0_ := Aside0.mk (blk_below (g := gb263) (o := .cells #[.slice A0_0 l0_0.length c0_0, .slice A0_1 l0_1.length c0_1] 25 (0, 0)) (by (with_reducible repeat (first | refine blk_drewN ?_ _ | refine blk_drew ?_ | refine blk_alloc ?_ _)); exact BK263.out) hb); have n1_ := Aside0.mk (below_step (by repeat (first | (with_reducible first | exact HB.out | apply below_alloc | apply pw_below_drewN | apply below_drew1 | refine below_set ?_ GE263.out) | exact HB.out)) hb); clear BK263; clear HB; have BK263 := n0_; have HB := n1_; clear n0_ n1_; (try clear hb); (try clear hb2); (try clear hk); (try clear hi)))
                            go_meet
                            case rel => exact ⟨_, (false), (by first | rfl | (simp; done) | (simp [*]; done)), H', ⟨by have := HJ9.out; have := HJ62.out; have := HJ65.out; first | omega | exact Nat.le_refl _⟩, ⟨by (with_reducible repeat (first | refine blk_drewN ?_ _ | refine blk_drew ?_ | refine blk_alloc ?_ _)); exact BK263.out⟩, ⟨by repeat (first | (with_reducible first | exact HB.out | apply below_alloc | apply pw_below_drewN | apply below_drew1 | refine below_set ?_ GE263.out) | exact HB.out)⟩⟩
                          · replace c77 := Bool.eq_false_iff.mpr c77
                            subst c77
                            have H1 : (gangsawlaw12_ShiftChecks.j3 kj65 true) = some r := by rw [if_neg (show ¬ (false = true) by decide)] at H; exact H
                            clear H
                            have H := H1
                            clear H1
                            have H' := Aside0.mk H
                            clear H
                            go_wp2_with (first | ((with_reducible refine gate_callee (f := 12) rfl ?_); refine goesL_ (some 64) rfl rfl Try.func12 (by kernel_rfl) rfl #[] rfl (by (try simp only [List.map_toArray, List.map_cons, List.map_nil]); first | done | rfl | (simp only [List.length_drop, List.length_take]; rfl)) ?_; (with_reducible refine (gangsawlaw12_awake.calls kj65  true _ A69.out).mono ?_); rintro e w79 ⟨rfl, hb⟩; refine ⟨_, rfl, ?_⟩; have n0_ := Aside0.mk (blk_below (g := gb263) (o := .cells #[.slice A0_0 l0_0.length c0_0, .slice A0_1 l0_1.length c0_1] 25 (0, 0)) (by (with_reducible repeat (first | refine blk_drewN ?_ _ | refine blk_drew ?_ | refine blk_alloc ?_ _)); exact BK263.out) hb); have n1_ := Aside0.mk (below_step (by repeat (first | (with_reducible first | exact HB.out | apply below_alloc | apply pw_below_drewN | apply below_drew1 | refine below_set ?_ GE263.out) | exact HB.out)) hb); clear BK263; clear HB; have BK263 := n0_; have HB := n1_; clear n0_ n1_; (try clear hb); (try clear hb2); (try clear hk); (try clear hi)))
                            go_meet
                            case rel => exact ⟨_, (true), (by first | rfl | (simp; done) | (simp [*]; done)), H', ⟨by have := HJ9.out; have := HJ62.out; have := HJ65.out; first | omega | exact Nat.le_refl _⟩, ⟨by (with_reducible repeat (first | refine blk_drewN ?_ _ | refine blk_drew ?_ | refine blk_alloc ?_ _)); exact BK263.out⟩, ⟨by repeat (first | (with_reducible first | exact HB.out | apply below_alloc | apply pw_below_drewN | apply below_drew1 | refine below_set ?_ GE263.out) | exact HB.out)⟩⟩
                      · rw [if_neg c71] at H
                        have c71b0 : (t273 == x9_65) = false := beq_eq_false_iff_ne.mpr c71
                        have c71b1 : (t273 != x9_65) = true := bne_iff_ne.mpr c71
                        (first | rw [c71b0] | (simp only [i64_w, i32_w]; rw [c71b0]) | skip)
                        have H' := Aside0.mk H
                        clear H
                        go_wp2_with (first | ((with_reducible refine gate_callee (f := 12) rfl ?_); refine goesL_ (some 64) rfl rfl Try.func12 (by kernel_rfl) rfl #[] rfl (by (try simp only [List.map_toArray, List.map_cons, List.map_nil]); first | done | rfl | (simp only [List.length_drop, List.length_take]; rfl)) ?_; (with_reducible refine (gangsawlaw12_awake.calls kj65  true _ A69.out).mono ?_); rintro e w80 ⟨rfl, hb⟩; refine ⟨_, rfl, ?_⟩; have n0_ := Aside0.mk (blk_below (g := gb263) (o := .cells #[.slice A0_0 l0_0.length c0_0, .slice A0_1 l0_1.length c0_1] 25 (0, 0)) (by (with_reducible repeat (first | refine blk_drewN ?_ _ | refine blk_drew ?_ | refine blk_alloc ?_ _)); exact BK263.out) hb); have n1_ := Aside0.mk (below_step (by repeat (first | (with_reducible first | exact HB.out | apply below_alloc | apply pw_below_drewN | apply below_drew1 | refine below_set ?_ GE263.out) | exact HB.out)) hb); clear BK263; clear HB; have BK263 := n0_; have HB := n1_; clear n0_ n1_; (try clear hb); (try clear hb2); (try clear hk); (try clear hi)))
                        go_meet
                        case rel => exact ⟨_, (false), (by first | rfl | (simp; done) | (simp [*]; done)), H', ⟨by have := HJ9.out; have := HJ62.out; have := HJ65.out; first | omega | exact Nat.le_refl _⟩, ⟨by (with_reducible repeat (first | refine blk_drewN ?_ _ | refine blk_drew ?_ | refine blk_alloc ?_ _)); exact BK263.out⟩, ⟨by repeat (first | (with_reducible first | exact HB.out | apply below_alloc | apply pw_below_drewN | apply below_drew1 | refine below_set ?_ GE263.out) | exact HB.out)⟩⟩
                    · replace c70 := Bool.eq_false_iff.mpr c70
                      subst c70
                      have H1 : (gangsawlaw12_ShiftChecks.j3 kj65 false) = some r := by rw [if_neg (show ¬ (false = true) by decide)] at H; exact H
                      clear H
                      have H := H1
                      clear H1
                      have H' := Aside0.mk H
                      clear H
                      go_wp2_with (first | ((with_reducible refine gate_callee (f := 12) rfl ?_); refine goesL_ (some 64) rfl rfl Try.func12 (by kernel_rfl) rfl #[] rfl (by (try simp only [List.map_toArray, List.map_cons, List.map_nil]); first | done | rfl | (simp only [List.length_drop, List.length_take]; rfl)) ?_; (with_reducible refine (gangsawlaw12_awake.calls kj65  false _ A69.out).mono ?_); rintro e w81 ⟨rfl, hb⟩; refine ⟨_, rfl, ?_⟩; have n0_ := Aside0.mk (blk_below (g := gb263) (o := .cells #[.slice A0_0 l0_0.length c0_0, .slice A0_1 l0_1.length c0_1] 25 (0, 0)) (by (with_reducible repeat (first | refine blk_drewN ?_ _ | refine blk_drew ?_ | refine blk_alloc ?_ _)); exact BK263.out) hb); have n1_ := Aside0.mk (below_step (by repeat (first | (with_reducible first | exact HB.out | apply below_alloc | apply pw_below_drewN | apply below_drew1 | refine below_set ?_ GE263.out) | exact HB.out)) hb); clear BK263; clear HB; have BK263 := n0_; have HB := n1_; clear n0_ n1_; (try clear hb); (try clear hb2); (try clear hk); (try clear hi)))
                      go_meet
                      case rel => exact ⟨_, (false), (by first | rfl | (simp; done) | (simp [*]; done)), H', ⟨by have := HJ9.out; have := HJ62.out; have := HJ65.out; first | omega | exact Nat.le_refl _⟩, ⟨by (with_reducible repeat (first | refine blk_drewN ?_ _ | refine blk_drew ?_ | refine blk_alloc ?_ _)); exact BK263.out⟩, ⟨by repeat (first | (with_reducible first | exact HB.out | apply below_alloc | apply pw_below_drewN | apply below_drew1 | refine below_set ?_ GE263.out) | exact HB.out)⟩⟩
                  case rest =>
                    clear HC68
                    try clear c1
                    try clear c2
                    try clear p2
                    try clear c3
                    try clear c4
                    try clear c5
                    try clear c6
                    try clear c7
                    try clear c11
                    try clear c12
                    try clear c14
                    try clear c16
                    try clear c27
                    try clear c28
                    try clear c28b0
                    try clear c28b1
                    try clear c29
                    try clear c29b0
                    try clear c29b1
                    try clear c30
                    try clear c30b0
                    try clear c30b1
                    try clear c32
                    try clear c32b0
                    try clear c32b1
                    try clear c62
                    try clear c64
                    try clear c64b0
                    try clear c64b1
                    try clear c67
                    try clear c70
                    try clear c71
                    try clear c71b0
                    try clear c71b1
                    try clear c72
                    try clear c72b0
                    try clear c72b1
                    try clear c77
                    try clear hcz12_0
                    try clear hcz12_1
                    try clear hcz14_0
                    try clear hcz14_1
                    try clear hcz19_0
                    try clear hcz19_1
                    try clear hcz24_0
                    try clear hcz24_1
                    try clear hcz33_0
                    try clear hcz33_1
                    try clear hcz38_0
                    try clear hcz38_1
                    try clear hcz40_0
                    try clear hcz40_1
                    try clear hcz45_0
                    try clear hcz45_1
                    try clear hcz47_0
                    try clear hcz47_1
                    try clear hcz52_0
                    try clear hcz52_1
                    try clear hcz57_0
                    try clear hcz57_1
                    try clear hcz75_0
                    try clear hcz75_1
                    try clear hfz12_0
                    try clear hfz12_1
                    try clear hfz14_0
                    try clear hfz14_1
                    try clear hfz19_0
                    try clear hfz19_1
                    try clear hfz24_0
                    try clear hfz24_1
                    try clear hfz33_0
                    try clear hfz33_1
                    try clear hfz38_0
                    try clear hfz38_1
                    try clear hfz40_0
                    try clear hfz40_1
                    try clear hfz45_0
                    try clear hfz45_1
                    try clear hfz47_0
                    try clear hfz47_1
                    try clear hfz52_0
                    try clear hfz52_1
                    try clear hfz57_0
                    try clear hfz57_1
                    try clear hfz75_0
                    try clear hfz75_1
                    try clear p2
                    obtain ⟨kq, x4_67, rfl, HA, HJ67, BK263, HB⟩ := hcut
                    cases kq with
                    | zero => exact absurd HA.out (by simp [gangsawlaw12_ShiftChecks.j3])
                    | succ kj67 =>
                      have H := HA.out
                      clear HA
                      simp only [gangsawlaw12_ShiftChecks.j3] at H
                      obtain rfl := Option.some.inj H
                      go_wp2
                      go_ret
                      exact ⟨by first | rfl | (simp [errW_none, errW_some] <;> rfl) | (simp [*, errW_none, errW_some] <;> rfl), by repeat (first | (with_reducible first | exact HB.out | apply below_alloc | apply pw_below_drewN | apply below_drew1 | refine below_set ?_ GE263.out) | exact HB.out)⟩
  · replace c4 := Bool.eq_false_iff.mpr c4
    subst c4
    have H1 : ((gangsawlaw12_awake.f k).bind fun t265 => (some t265)) = some r := by rw [if_neg (show ¬ (false = true) by decide)] at H; exact H
    clear H
    have H := H1
    clear H1
    replace H := Option.bind_eq_some_iff.mp H
    obtain ⟨t265, A820, H⟩ := H
    replace H : (some t265) = some r := H
    have A82 := Aside0.mk A820
    clear A820
    obtain rfl := Option.some.inj H
    go_enter Try.func5, Try.ntmps5
    go_wp2_with (first | ((with_reducible refine gate_dst (N := 2) rfl ?_); refine box_event ?hg (N := 2) ?hd (cs := #[.slice A0_0 l0_0.length c0_0, .slice A0_1 l0_1.length c0_1]) (t := 25) ?hr ?_; (case hd => rfl); (case hg => rfl); (case hr => first | (go_simp; done) | (go_simp; rfl)); intro gb263 hg w83 hbox hb; have n0_ := Aside0.mk (below_step (by repeat (first | (with_reducible first | exact HB.out | apply below_alloc | apply pw_below_drewN | apply below_drew1) | exact HB.out)) hb); have n1_ := Aside0.mk (hbox); have n2_ := Aside0.mk ((by rw [hg]; exact (below_size (by repeat (first | (with_reducible first | exact HB.out | apply below_alloc | apply pw_below_drewN | apply below_drew1) | exact HB.out))) : w.heap.size ≤ gb263)); have n3_ := Aside0.mk ((by rw [hg]; exact (below_size (by repeat (first | (with_reducible first | exact HB.out | apply below_alloc | apply pw_below_drewN | apply below_drew1) | exact HB.out))) : w.heap.size ≤ gb263)); clear HB; have HB := n0_; have BK263 := n1_; have GW263 := n2_; have GE263 := n3_; clear n0_ n1_ n2_ n3_; clear hb hbox hg; have hcz84_0 : w83.cell? ⟨gb263, 0, none⟩ = some (.slice A0_0 l0_0.length c0_0) := (blk_cell BK263.out 0).trans rfl; have hcz84_1 : w83.cell? ⟨gb263, 1, none⟩ = some (.slice A0_1 l0_1.length c0_1) := (blk_cell BK263.out 1).trans rfl; have hfz84_0 := blk_frozen BK263.out 0; have hfz84_1 := blk_frozen BK263.out 1) | ((with_reducible refine gate_callee (f := 11) rfl ?_); refine goesL_ (some 11) rfl rfl Try.func11 (by kernel_rfl) rfl #[.agg #[.slice A0_0 l0_0.length c0_0, .slice A0_1 l0_1.length c0_1]] rfl (by (try simp only [List.map_toArray, List.map_cons, List.map_nil]); first | done | rfl | (simp only [List.length_drop, List.length_take]; rfl)) ?_; (with_reducible refine (gangsawlaw12_few.calls _ _ l0_0 _ _ l0_1 false _ ?side1 ?side2 ?side3 ?side4 A3.out).mono ?_); (case side1 => repeat (first | exact (Kd.C_below HR0_0.out HB.out) | (with_reducible refine Kd.C_alloc ?_ _) | (with_reducible refine Kd.C_drewN ?_ _) | (with_reducible refine Kd.C_drew ?_))); (case side2 => exact HC0_0.out); (case side3 => repeat (first | exact (Kd.C_below HR0_1.out HB.out) | (with_reducible refine Kd.C_alloc ?_ _) | (with_reducible refine Kd.C_drewN ?_ _) | (with_reducible refine Kd.C_drew ?_))); (case side4 => exact HC0_1.out); rintro e w85 ⟨rfl, hb⟩; refine ⟨_, rfl, ?_⟩; have n0_ := Aside0.mk (blk_below (g := gb263) (o := .cells #[.slice A0_0 l0_0.length c0_0, .slice A0_1 l0_1.length c0_1] 25 (0, 0)) (by (with_reducible repeat (first | refine blk_drewN ?_ _ | refine blk_drew ?_ | refine blk_alloc ?_ _)); exact BK263.out) hb); have n1_ := Aside0.mk (below_step (by repeat (first | (with_reducible first | exact HB.out | apply below_alloc | apply pw_below_drewN | apply below_drew1 | refine below_set ?_ GE263.out) | exact HB.out)) hb); clear BK263; clear HB; have BK263 := n0_; have HB := n1_; clear n0_ n1_; (try clear hb); (try clear hb2); (try clear hk); (try clear hi)) | ((with_reducible refine gate_callee (f := 12) rfl ?_); refine goesL_ (some 13) rfl rfl Try.func12 (by kernel_rfl) rfl #[] rfl (by (try simp only [List.map_toArray, List.map_cons, List.map_nil]); first | done | rfl | (simp only [List.length_drop, List.length_take]; rfl)) ?_; (with_reducible refine (gangsawlaw12_awake.calls k  t265 _ A82.out).mono ?_); rintro e w86 ⟨rfl, hb⟩; refine ⟨_, rfl, ?_⟩; have n0_ := Aside0.mk (blk_below (g := gb263) (o := .cells #[.slice A0_0 l0_0.length c0_0, .slice A0_1 l0_1.length c0_1] 25 (0, 0)) (by (with_reducible repeat (first | refine blk_drewN ?_ _ | refine blk_drew ?_ | refine blk_alloc ?_ _)); exact BK263.out) hb); have n1_ := Aside0.mk (below_step (by repeat (first | (with_reducible first | exact HB.out | apply below_alloc | apply pw_below_drewN | apply below_drew1 | refine below_set ?_ GE263.out) | exact HB.out)) hb); clear BK263; clear HB; have BK263 := n0_; have HB := n1_; clear n0_ n1_; (try clear hb); (try clear hb2); (try clear hk); (try clear hi)))
    go_ret
    exact ⟨by first | rfl | (simp [errW_none, errW_some] <;> rfl) | (simp [*, errW_none, errW_some] <;> rfl), by repeat (first | (with_reducible first | exact HB.out | apply below_alloc | apply pw_below_drewN | apply below_drew1 | refine below_set ?_ GE263.out) | exact HB.out)⟩

/-- THE ONE PURE STATEMENT of gangsawlaw12_ShiftChecks. -/
def gangsawlaw12_ShiftChecks.Pure : Prop := ∀ (l0_0 : List (S54)) (l0_1 : List Int) (a1 : Int), (l0_0.length ≤ maxLen ∧ ∀ e5_, e5_ ∈ l0_0 → okS54 e5_) → (l0_1.length ≤ maxLen ∧ ∀ e6_, e6_ ∈ l0_1 → (Lit.int .i64 e6_).wf = true) → ((Lit.int .i64 a1).wf = true) → ∃ k, gangsawlaw12_ShiftChecks.f k l0_0 l0_1 a1 = some true
theorem gangsawlaw12_ShiftChecks.walk (P_ : gangsawlaw12_ShiftChecks.Pure) (A0_0 : Option Addr) (c0_0 : Nat) (l0_0 : List (S54)) (A0_1 : Option Addr) (c0_1 : Nat) (l0_1 : List Int) (a1 : Int) (w : World) (hr0_0 : Kd.C k54 w A0_0 l0_0.length l0_0) (hc0_0 : l0_0.length ≤ c0_0) (hr0_1 : Kd.C (Kd.int .i64) w A0_1 l0_1.length l0_1) (hc0_1 : l0_1.length ≤ c0_1) (o0 : (l0_0.length ≤ maxLen ∧ ∀ e5_, e5_ ∈ l0_0 → okS54 e5_)) (o1 : (l0_1.length ≤ maxLen ∧ ∀ e6_, e6_ ∈ l0_1 → (Lit.int .i64 e6_).wf = true)) (o2 : ((Lit.int .i64 a1).wf = true)) :
    Calls Try.prog 5 #[.agg #[.slice A0_0 l0_0.length c0_0, .slice A0_1 l0_1.length c0_1], .int .i64 a1] w fun e w' => e = .returned (.bool true) ∧ Below w.heap.size w w' := by
  obtain ⟨k, h⟩ := P_ l0_0 l0_1 a1 o0 o1 o2
  refine (gangsawlaw12_ShiftChecks.calls k A0_0 c0_0 l0_0 A0_1 c0_1 l0_1 a1 true w hr0_0 hc0_0 hr0_1 hc0_1 h).mono ?_
  rintro e w' ⟨rfl, hd⟩
  exact ⟨rfl, hd⟩

end Go.Proofs.Ytpjgmlnnhcnelaa.QA
