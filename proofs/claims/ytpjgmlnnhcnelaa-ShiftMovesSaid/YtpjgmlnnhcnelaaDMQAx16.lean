import Derived.Test.YtpjgmlnnhcnelaaDMQAx0
import Derived.Test.YtpjgmlnnhcnelaaDMQAx2
import Derived.Test.YtpjgmlnnhcnelaaDMQAx6
import Derived.Test.YtpjgmlnnhcnelaaDMQAx7
import Derived.Test.YtpjgmlnnhcnelaaDMQAx8
import Derived.Test.YtpjgmlnnhcnelaaDMQAx9
import Derived.Test.YtpjgmlnnhcnelaaDMQAx10
import Derived.Test.YtpjgmlnnhcnelaaDMQAx13
import Derived.Test.YtpjgmlnnhcnelaaDMQAx14
import Derived.Test.YtpjgmlnnhcnelaaDMQAx15
-- Written by a program of this session (wip/tools) out of the translation; Lean checks it.
namespace Go.Proofs.Ytpjgmlnnhcnelaa.QA
open Go.RowKit Go.Proofs.YtpjgmlnnhcnelaaW.PrintWords Go.Proofs.YtpjgmlnnhcnelaaW.PrintLast Go.Proofs.YtpjgmlnnhcnelaaW.PrintMore
attribute [local go_sem] max2_int min2_int max_two min_two max_three min_three max_four min_four
set_option linter.unusedVariables false
set_option linter.unusedSimpArgs false

mutual
def gangsawlaw12_ShiftMoves.j0 : Nat → Int → Int → Int → Int → Int → Int → Int → Int → Int → Bool → List (S54) → List Int → Option (Bool)
  | 0, _, _, _, _, _, _, _, _, _, _, _, _ => none
  | k + 1, x1, x2, x7, x8, x9, x10, x11, x12, x13, x55, x223000, x223001 => if x55 = true then (gangsawlaw12_ShiftMoves.j1 k x1 x2 x7 x8 x9 x10 x11 x12 6 x223000 x223001) else (gangsawlaw12_ShiftMoves.j1 k x1 x2 x7 x8 x9 x10 x11 x12 x13 x223000 x223001)
def gangsawlaw12_ShiftMoves.j1 : Nat → Int → Int → Int → Int → Int → Int → Int → Int → Int → List (S54) → List Int → Option (Bool)
  | 0, _, _, _, _, _, _, _, _, _, _, _ => none
  | k + 1, x1, x2, x7, x8, x9, x10, x11, x12, x13, x223000, x223001 => if x13 = 0 then ((gangsawlaw12_awake.f k).bind fun t253 => (if t253 = true then ((gangsawref12_Calendar_After.f k x223000 x223001 x1 x2).bind fun t254 => ((gangsawlaw12_answer.f x7 x8 t254).bind fun t255 => (if t255 = true then ((gangsawref12_Calendar_Before.f k x223000 x223001 x1 x2).bind fun t256 => ((gangsawlaw12_answer.f x9 x10 t256).bind fun t257 => (if t257 = true then ((gangsawref12_Calendar_Whole.f k x223000 x223001 x1 x2).bind fun t258 => ((gangsawlaw12_answer.f x11 x12 t258).bind fun t259 => (gangsawlaw12_ShiftMoves.j3 k t259))) else (gangsawlaw12_ShiftMoves.j3 k false)))) else (gangsawlaw12_ShiftMoves.j3 k false)))) else (gangsawlaw12_ShiftMoves.j3 k false))) else ((gangsawlaw12_awake.f k).bind fun t252 => (if t252 = true then (if x8 = x13 then (if x10 = x13 then (if x12 = x13 then (if x7 = 0 then (if x9 = 0 then (gangsawlaw12_ShiftMoves.j2 k (x11 == 0)) else (gangsawlaw12_ShiftMoves.j2 k false)) else (gangsawlaw12_ShiftMoves.j2 k false)) else (gangsawlaw12_ShiftMoves.j2 k false)) else (gangsawlaw12_ShiftMoves.j2 k false)) else (gangsawlaw12_ShiftMoves.j2 k false)) else (gangsawlaw12_ShiftMoves.j2 k false)))
def gangsawlaw12_ShiftMoves.j3 : Nat → Bool → Option (Bool)
  | 0, _ => none
  | k + 1, x6 => some x6
def gangsawlaw12_ShiftMoves.j2 : Nat → Bool → Option (Bool)
  | 0, _ => none
  | k + 1, x6 => some x6
end
def gangsawlaw12_ShiftMoves.f (k : Nat) (l0_0 : List (S54)) (l0_1 : List Int) (a1 : Int) (a2 : Int) : Option (Bool) := (gangsawlaw12_few.f l0_0 l0_1).bind fun t223 => (if t223 = true then ((gangsawlaw12_ours.f l0_0 l0_1).bind fun bt225 => ((shift_After.f k bt225.1 bt225.2 a1 a2).bind fun bt231 => ((gangsawlaw12_ours.f l0_0 l0_1).bind fun bt233 => ((shift_Before.f k bt233.1 bt233.2 a1 a2).bind fun bt239 => ((gangsawlaw12_ours.f l0_0 l0_1).bind fun bt241 => ((shift_Whole.f k bt241.1 bt241.2 a1 a2).bind fun bt247 => ((gangsawref12_Check.f k l0_0 l0_1).bind fun t249 => (if t249 = 0 then ((gangsawref12_Minute.f a1).bind fun t250 => (if t250 = true then ((gangsawref12_Minute.f a2).bind fun t251 => (gangsawlaw12_ShiftMoves.j0 k a1 a2 bt231.1 bt231.2 bt239.1 bt239.2 bt247.1 bt247.2 t249 (!t251) l0_0 l0_1)) else (gangsawlaw12_ShiftMoves.j0 k a1 a2 bt231.1 bt231.2 bt239.1 bt239.2 bt247.1 bt247.2 t249 true l0_0 l0_1))) else (gangsawlaw12_ShiftMoves.j0 k a1 a2 bt231.1 bt231.2 bt239.1 bt239.2 bt247.1 bt247.2 t249 false l0_0 l0_1))))))))) else ((gangsawlaw12_awake.f k).bind fun t224 => (some t224)))
set_option maxHeartbeats 8000000 in
set_option maxRecDepth 100000 in
theorem gangsawlaw12_ShiftMoves.calls (k : Nat) (A0_0 : Option Addr) (c0_0 : Nat) (l0_0 : List (S54)) (A0_1 : Option Addr) (c0_1 : Nat) (l0_1 : List Int) (a1 : Int) (a2 : Int) (r : Bool) (w : World) (hr0_0 : Kd.C k54 w A0_0 l0_0.length l0_0) (hc0_0 : l0_0.length ≤ c0_0) (hr0_1 : Kd.C (Kd.int .i64) w A0_1 l0_1.length l0_1) (hc0_1 : l0_1.length ≤ c0_1) (h : gangsawlaw12_ShiftMoves.f k l0_0 l0_1 a1 a2 = some r) :
    Calls Try.prog 4 #[.agg #[.slice A0_0 l0_0.length c0_0, .slice A0_1 l0_1.length c0_1], .int .i64 a1, .int .i64 a2] w fun e w' => e = .returned (.bool r) ∧ Below w.heap.size w w' := by
  have hu25 := Try.underlying25
  have HR0_0 := Aside0.mk hr0_0
  have HC0_0 := Aside0.mk hc0_0
  clear hr0_0 hc0_0
  have HR0_1 := Aside0.mk hr0_1
  have HC0_1 := Aside0.mk hc0_1
  clear hr0_1 hc0_1
  have HB := Aside0.mk (Below.refl w.heap.size w)
  have H : ((gangsawlaw12_few.f l0_0 l0_1).bind fun t223 => (if t223 = true then ((gangsawlaw12_ours.f l0_0 l0_1).bind fun bt225 => ((shift_After.f k bt225.1 bt225.2 a1 a2).bind fun bt231 => ((gangsawlaw12_ours.f l0_0 l0_1).bind fun bt233 => ((shift_Before.f k bt233.1 bt233.2 a1 a2).bind fun bt239 => ((gangsawlaw12_ours.f l0_0 l0_1).bind fun bt241 => ((shift_Whole.f k bt241.1 bt241.2 a1 a2).bind fun bt247 => ((gangsawref12_Check.f k l0_0 l0_1).bind fun t249 => (if t249 = 0 then ((gangsawref12_Minute.f a1).bind fun t250 => (if t250 = true then ((gangsawref12_Minute.f a2).bind fun t251 => (gangsawlaw12_ShiftMoves.j0 k a1 a2 bt231.1 bt231.2 bt239.1 bt239.2 bt247.1 bt247.2 t249 (!t251) l0_0 l0_1)) else (gangsawlaw12_ShiftMoves.j0 k a1 a2 bt231.1 bt231.2 bt239.1 bt239.2 bt247.1 bt247.2 t249 true l0_0 l0_1))) else (gangsawlaw12_ShiftMoves.j0 k a1 a2 bt231.1 bt231.2 bt239.1 bt239.2 bt247.1 bt247.2 t249 false l0_0 l0_1))))))))) else ((gangsawlaw12_awake.f k).bind fun t224 => (some t224)))) = some r := h
  clear h
  replace H := Option.bind_eq_some_iff.mp H
  obtain ⟨t223, A40, H⟩ := H
  replace H : (if t223 = true then ((gangsawlaw12_ours.f l0_0 l0_1).bind fun bt225 => ((shift_After.f k bt225.1 bt225.2 a1 a2).bind fun bt231 => ((gangsawlaw12_ours.f l0_0 l0_1).bind fun bt233 => ((shift_Before.f k bt233.1 bt233.2 a1 a2).bind fun bt239 => ((gangsawlaw12_ours.f l0_0 l0_1).bind fun bt241 => ((shift_Whole.f k bt241.1 bt241.2 a1 a2).bind fun bt247 => ((gangsawref12_Check.f k l0_0 l0_1).bind fun t249 => (if t249 = 0 then ((gangsawref12_Minute.f a1).bind fun t250 => (if t250 = true then ((gangsawref12_Minute.f a2).bind fun t251 => (gangsawlaw12_ShiftMoves.j0 k a1 a2 bt231.1 bt231.2 bt239.1 bt239.2 bt247.1 bt247.2 t249 (!t251) l0_0 l0_1)) else (gangsawlaw12_ShiftMoves.j0 k a1 a2 bt231.1 bt231.2 bt239.1 bt239.2 bt247.1 bt247.2 t249 true l0_0 l0_1))) else (gangsawlaw12_ShiftMoves.j0 k a1 a2 bt231.1 bt231.2 bt239.1 bt239.2 bt247.1 bt247.2 t249 false l0_0 l0_1))))))))) else ((gangsawlaw12_awake.f k).bind fun t224 => (some t224))) = some r := H
  have A4 := Aside0.mk A40
  clear A40
  by_cases c5 : t223 = true
  · subst c5
    have H1 : ((gangsawlaw12_ours.f l0_0 l0_1).bind fun bt225 => ((shift_After.f k bt225.1 bt225.2 a1 a2).bind fun bt231 => ((gangsawlaw12_ours.f l0_0 l0_1).bind fun bt233 => ((shift_Before.f k bt233.1 bt233.2 a1 a2).bind fun bt239 => ((gangsawlaw12_ours.f l0_0 l0_1).bind fun bt241 => ((shift_Whole.f k bt241.1 bt241.2 a1 a2).bind fun bt247 => ((gangsawref12_Check.f k l0_0 l0_1).bind fun t249 => (if t249 = 0 then ((gangsawref12_Minute.f a1).bind fun t250 => (if t250 = true then ((gangsawref12_Minute.f a2).bind fun t251 => (gangsawlaw12_ShiftMoves.j0 k a1 a2 bt231.1 bt231.2 bt239.1 bt239.2 bt247.1 bt247.2 t249 (!t251) l0_0 l0_1)) else (gangsawlaw12_ShiftMoves.j0 k a1 a2 bt231.1 bt231.2 bt239.1 bt239.2 bt247.1 bt247.2 t249 true l0_0 l0_1))) else (gangsawlaw12_ShiftMoves.j0 k a1 a2 bt231.1 bt231.2 bt239.1 bt239.2 bt247.1 bt247.2 t249 false l0_0 l0_1))))))))) = some r := by rw [if_pos rfl] at H; exact H
    clear H
    have H := H1
    clear H1
    replace H := Option.bind_eq_some_iff.mp H
    obtain ⟨⟨t225, t228⟩, A60, H⟩ := H
    replace H : ((shift_After.f k t225 t228 a1 a2).bind fun bt231 => ((gangsawlaw12_ours.f l0_0 l0_1).bind fun bt233 => ((shift_Before.f k bt233.1 bt233.2 a1 a2).bind fun bt239 => ((gangsawlaw12_ours.f l0_0 l0_1).bind fun bt241 => ((shift_Whole.f k bt241.1 bt241.2 a1 a2).bind fun bt247 => ((gangsawref12_Check.f k l0_0 l0_1).bind fun t249 => (if t249 = 0 then ((gangsawref12_Minute.f a1).bind fun t250 => (if t250 = true then ((gangsawref12_Minute.f a2).bind fun t251 => (gangsawlaw12_ShiftMoves.j0 k a1 a2 bt231.1 bt231.2 bt239.1 bt239.2 bt247.1 bt247.2 t249 (!t251) l0_0 l0_1)) else (gangsawlaw12_ShiftMoves.j0 k a1 a2 bt231.1 bt231.2 bt239.1 bt239.2 bt247.1 bt247.2 t249 true l0_0 l0_1))) else (gangsawlaw12_ShiftMoves.j0 k a1 a2 bt231.1 bt231.2 bt239.1 bt239.2 bt247.1 bt247.2 t249 false l0_0 l0_1)))))))) = some r := H
    have A6 := Aside0.mk A60
    clear A60
    replace H := Option.bind_eq_some_iff.mp H
    obtain ⟨⟨t231, t232⟩, A70, H⟩ := H
    replace H : ((gangsawlaw12_ours.f l0_0 l0_1).bind fun bt233 => ((shift_Before.f k bt233.1 bt233.2 a1 a2).bind fun bt239 => ((gangsawlaw12_ours.f l0_0 l0_1).bind fun bt241 => ((shift_Whole.f k bt241.1 bt241.2 a1 a2).bind fun bt247 => ((gangsawref12_Check.f k l0_0 l0_1).bind fun t249 => (if t249 = 0 then ((gangsawref12_Minute.f a1).bind fun t250 => (if t250 = true then ((gangsawref12_Minute.f a2).bind fun t251 => (gangsawlaw12_ShiftMoves.j0 k a1 a2 t231 t232 bt239.1 bt239.2 bt247.1 bt247.2 t249 (!t251) l0_0 l0_1)) else (gangsawlaw12_ShiftMoves.j0 k a1 a2 t231 t232 bt239.1 bt239.2 bt247.1 bt247.2 t249 true l0_0 l0_1))) else (gangsawlaw12_ShiftMoves.j0 k a1 a2 t231 t232 bt239.1 bt239.2 bt247.1 bt247.2 t249 false l0_0 l0_1))))))) = some r := H
    have A7 := Aside0.mk A70
    clear A70
    replace H := Option.bind_eq_some_iff.mp H
    obtain ⟨⟨t233, t236⟩, A80, H⟩ := H
    replace H : ((shift_Before.f k t233 t236 a1 a2).bind fun bt239 => ((gangsawlaw12_ours.f l0_0 l0_1).bind fun bt241 => ((shift_Whole.f k bt241.1 bt241.2 a1 a2).bind fun bt247 => ((gangsawref12_Check.f k l0_0 l0_1).bind fun t249 => (if t249 = 0 then ((gangsawref12_Minute.f a1).bind fun t250 => (if t250 = true then ((gangsawref12_Minute.f a2).bind fun t251 => (gangsawlaw12_ShiftMoves.j0 k a1 a2 t231 t232 bt239.1 bt239.2 bt247.1 bt247.2 t249 (!t251) l0_0 l0_1)) else (gangsawlaw12_ShiftMoves.j0 k a1 a2 t231 t232 bt239.1 bt239.2 bt247.1 bt247.2 t249 true l0_0 l0_1))) else (gangsawlaw12_ShiftMoves.j0 k a1 a2 t231 t232 bt239.1 bt239.2 bt247.1 bt247.2 t249 false l0_0 l0_1)))))) = some r := H
    have A8 := Aside0.mk A80
    clear A80
    replace H := Option.bind_eq_some_iff.mp H
    obtain ⟨⟨t239, t240⟩, A90, H⟩ := H
    replace H : ((gangsawlaw12_ours.f l0_0 l0_1).bind fun bt241 => ((shift_Whole.f k bt241.1 bt241.2 a1 a2).bind fun bt247 => ((gangsawref12_Check.f k l0_0 l0_1).bind fun t249 => (if t249 = 0 then ((gangsawref12_Minute.f a1).bind fun t250 => (if t250 = true then ((gangsawref12_Minute.f a2).bind fun t251 => (gangsawlaw12_ShiftMoves.j0 k a1 a2 t231 t232 t239 t240 bt247.1 bt247.2 t249 (!t251) l0_0 l0_1)) else (gangsawlaw12_ShiftMoves.j0 k a1 a2 t231 t232 t239 t240 bt247.1 bt247.2 t249 true l0_0 l0_1))) else (gangsawlaw12_ShiftMoves.j0 k a1 a2 t231 t232 t239 t240 bt247.1 bt247.2 t249 false l0_0 l0_1))))) = some r := H
    have A9 := Aside0.mk A90
    clear A90
    replace H := Option.bind_eq_some_iff.mp H
    obtain ⟨⟨t241, t244⟩, A100, H⟩ := H
    replace H : ((shift_Whole.f k t241 t244 a1 a2).bind fun bt247 => ((gangsawref12_Check.f k l0_0 l0_1).bind fun t249 => (if t249 = 0 then ((gangsawref12_Minute.f a1).bind fun t250 => (if t250 = true then ((gangsawref12_Minute.f a2).bind fun t251 => (gangsawlaw12_ShiftMoves.j0 k a1 a2 t231 t232 t239 t240 bt247.1 bt247.2 t249 (!t251) l0_0 l0_1)) else (gangsawlaw12_ShiftMoves.j0 k a1 a2 t231 t232 t239 t240 bt247.1 bt247.2 t249 true l0_0 l0_1))) else (gangsawlaw12_ShiftMoves.j0 k a1 a2 t231 t232 t239 t240 bt247.1 bt247.2 t249 false l0_0 l0_1)))) = some r := H
    have A10 := Aside0.mk A100
    clear A100
    replace H := Option.bind_eq_some_iff.mp H
    obtain ⟨⟨t247, t248⟩, A110, H⟩ := H
    replace H : ((gangsawref12_Check.f k l0_0 l0_1).bind fun t249 => (if t249 = 0 then ((gangsawref12_Minute.f a1).bind fun t250 => (if t250 = true then ((gangsawref12_Minute.f a2).bind fun t251 => (gangsawlaw12_ShiftMoves.j0 k a1 a2 t231 t232 t239 t240 t247 t248 t249 (!t251) l0_0 l0_1)) else (gangsawlaw12_ShiftMoves.j0 k a1 a2 t231 t232 t239 t240 t247 t248 t249 true l0_0 l0_1))) else (gangsawlaw12_ShiftMoves.j0 k a1 a2 t231 t232 t239 t240 t247 t248 t249 false l0_0 l0_1))) = some r := H
    have A11 := Aside0.mk A110
    clear A110
    replace H := Option.bind_eq_some_iff.mp H
    obtain ⟨t249, A120, H⟩ := H
    replace H : (if t249 = 0 then ((gangsawref12_Minute.f a1).bind fun t250 => (if t250 = true then ((gangsawref12_Minute.f a2).bind fun t251 => (gangsawlaw12_ShiftMoves.j0 k a1 a2 t231 t232 t239 t240 t247 t248 t249 (!t251) l0_0 l0_1)) else (gangsawlaw12_ShiftMoves.j0 k a1 a2 t231 t232 t239 t240 t247 t248 t249 true l0_0 l0_1))) else (gangsawlaw12_ShiftMoves.j0 k a1 a2 t231 t232 t239 t240 t247 t248 t249 false l0_0 l0_1)) = some r := H
    have A12 := Aside0.mk A120
    clear A120
    have HC13 := Aside0.mk H
    clear H
    go_enter Try.func4, Try.ntmps4
    go_upto_region 7 with (first | ((with_reducible refine gate_dst (N := 3) rfl ?_); refine box_event ?hg (N := 3) ?hd (cs := #[.slice A0_0 l0_0.length c0_0, .slice A0_1 l0_1.length c0_1]) (t := 25) ?hr ?_; (case hd => rfl); (case hg => rfl); (case hr => first | (go_simp; done) | (go_simp; rfl)); intro gb222 hg w14 hbox hb; have n0_ := Aside0.mk (below_step (by repeat (first | (with_reducible first | exact HB.out | apply below_alloc | apply pw_below_drewN | apply below_drew1) | exact HB.out)) hb); have n1_ := Aside0.mk (hbox); have n2_ := Aside0.mk ((by rw [hg]; exact (below_size (by repeat (first | (with_reducible first | exact HB.out | apply below_alloc | apply pw_below_drewN | apply below_drew1) | exact HB.out))) : w.heap.size ≤ gb222)); have n3_ := Aside0.mk ((by rw [hg]; exact (below_size (by repeat (first | (with_reducible first | exact HB.out | apply below_alloc | apply pw_below_drewN | apply below_drew1) | exact HB.out))) : w.heap.size ≤ gb222)); clear HB; have HB := n0_; have BK222 := n1_; have GW222 := n2_; have GE222 := n3_; clear n0_ n1_ n2_ n3_; clear hb hbox hg; have hcz15_0 : w14.cell? ⟨gb222, 0, none⟩ = some (.slice A0_0 l0_0.length c0_0) := (blk_cell BK222.out 0).trans rfl; have hcz15_1 : w14.cell? ⟨gb222, 1, none⟩ = some (.slice A0_1 l0_1.length c0_1) := (blk_cell BK222.out 1).trans rfl; have hfz15_0 := blk_frozen BK222.out 0; have hfz15_1 := blk_frozen BK222.out 1) | ((with_reducible refine gate_callee (f := 11) rfl ?_); refine goesL_ (some 15) rfl rfl Try.func11 (by kernel_rfl) rfl #[.agg #[.slice A0_0 l0_0.length c0_0, .slice A0_1 l0_1.length c0_1]] rfl (by (try simp only [List.map_toArray, List.map_cons, List.map_nil]); first | done | rfl | (simp only [List.length_drop, List.length_take]; rfl)) ?_; (with_reducible refine (gangsawlaw12_few.calls _ _ l0_0 _ _ l0_1 true _ ?side1 ?side2 ?side3 ?side4 A4.out).mono ?_); (case side1 => repeat (first | exact (Kd.C_below HR0_0.out HB.out) | (with_reducible refine Kd.C_alloc ?_ _) | (with_reducible refine Kd.C_drewN ?_ _) | (with_reducible refine Kd.C_drew ?_))); (case side2 => exact HC0_0.out); (case side3 => repeat (first | exact (Kd.C_below HR0_1.out HB.out) | (with_reducible refine Kd.C_alloc ?_ _) | (with_reducible refine Kd.C_drewN ?_ _) | (with_reducible refine Kd.C_drew ?_))); (case side4 => exact HC0_1.out); rintro e w16 ⟨rfl, hb⟩; refine ⟨_, rfl, ?_⟩; have n0_ := Aside0.mk (blk_below (g := gb222) (o := .cells #[.slice A0_0 l0_0.length c0_0, .slice A0_1 l0_1.length c0_1] 25 (0, 0)) (by (with_reducible repeat (first | refine blk_drewN ?_ _ | refine blk_drew ?_ | refine blk_alloc ?_ _)); exact BK222.out) hb); have n1_ := Aside0.mk (below_step (by repeat (first | (with_reducible first | exact HB.out | apply below_alloc | apply pw_below_drewN | apply below_drew1 | refine below_set ?_ GE222.out) | exact HB.out)) hb); clear BK222; clear HB; have BK222 := n0_; have HB := n1_; clear n0_ n1_; (try clear hb); (try clear hb2); (try clear hk); (try clear hi); have hcz17_0 : w16.cell? ⟨gb222, 0, none⟩ = some (.slice A0_0 l0_0.length c0_0) := (blk_cell BK222.out 0).trans rfl; have hcz17_1 : w16.cell? ⟨gb222, 1, none⟩ = some (.slice A0_1 l0_1.length c0_1) := (blk_cell BK222.out 1).trans rfl; have hfz17_0 := blk_frozen BK222.out 0; have hfz17_1 := blk_frozen BK222.out 1) | ((with_reducible refine gate_callee (f := 14) rfl ?_); refine goesL_ (some 20) rfl rfl Try.func14 (by kernel_rfl) rfl #[.agg #[.slice A0_0 l0_0.length c0_0, .slice A0_1 l0_1.length c0_1]] rfl (by (try simp only [List.map_toArray, List.map_cons, List.map_nil]); first | done | rfl | (simp only [List.length_drop, List.length_take]; rfl)) ?_; (with_reducible refine (gangsawlaw12_ours.calls (fun k_ => k_ < w.heap.size) _ _ l0_0 (fun k_ => k_ < w.heap.size) _ _ l0_1 t225 t228 _ ?side1 ?side2 A6.out).mono ?_); (case side1 => exact Kd.V_mk HC0_0.out (Kd.F_below (Kd.C_F k54_heap HR0_0.out) (by repeat (first | (with_reducible first | exact HB.out | apply below_alloc | apply pw_below_drewN | apply below_drew1 | refine below_set ?_ GE222.out) | exact HB.out)))); (case side2 => exact Kd.V_mk HC0_1.out (Kd.F_below (Kd.C_F (Kd.heap_int .i64) HR0_1.out) (by repeat (first | (with_reducible first | exact HB.out | apply below_alloc | apply pw_below_drewN | apply below_drew1 | refine below_set ?_ GE222.out) | exact HB.out)))); rintro e w18 ⟨v226, v229, rfl, ho0, ho1, hb⟩; refine ⟨_, rfl, ?_⟩; have n0_ := Aside0.mk (Kd.V_lower (Kd.V_mono (ok' := fun k_ => k_ ≠ gb222) ho0 (fun k_ hk_ => Or.elim hk_ (fun hs_ => Or.elim hs_ (fun hs_ => fun e_ => Nat.not_le.2 hs_ (by rw [e_]; exact GW222.out)) (fun hs_ => fun e_ => Nat.not_le.2 hs_ (by rw [e_]; exact GW222.out))) (fun hn_ => (Kd.freshB (g := gb222) (o := .cells #[.slice A0_0 l0_0.length c0_0, .slice A0_1 l0_1.length c0_1] 25 (0, 0)) (by (with_reducible repeat (first | refine blk_drewN ?_ _ | refine blk_drew ?_ | refine blk_alloc ?_ _)); exact BK222.out) k_ hn_)))) (below_size (by repeat (first | (with_reducible first | exact HB.out | apply below_alloc | apply pw_below_drewN | apply below_drew1 | refine below_set ?_ GE222.out) | exact HB.out)))); have n1_ := Aside0.mk (Kd.V_lower (Kd.V_mono (ok' := fun k_ => k_ ≠ gb222) ho1 (fun k_ hk_ => Or.elim hk_ (fun hs_ => Or.elim hs_ (fun hs_ => fun e_ => Nat.not_le.2 hs_ (by rw [e_]; exact GW222.out)) (fun hs_ => fun e_ => Nat.not_le.2 hs_ (by rw [e_]; exact GW222.out))) (fun hn_ => (Kd.freshB (g := gb222) (o := .cells #[.slice A0_0 l0_0.length c0_0, .slice A0_1 l0_1.length c0_1] 25 (0, 0)) (by (with_reducible repeat (first | refine blk_drewN ?_ _ | refine blk_drew ?_ | refine blk_alloc ?_ _)); exact BK222.out) k_ hn_)))) (below_size (by repeat (first | (with_reducible first | exact HB.out | apply below_alloc | apply pw_below_drewN | apply below_drew1 | refine below_set ?_ GE222.out) | exact HB.out)))); have n2_ := Aside0.mk (blk_below (g := gb222) (o := .cells #[.slice A0_0 l0_0.length c0_0, .slice A0_1 l0_1.length c0_1] 25 (0, 0)) (by (with_reducible repeat (first | refine blk_drewN ?_ _ | refine blk_drew ?_ | refine blk_alloc ?_ _)); exact BK222.out) hb); have n3_ := Aside0.mk (below_step (by repeat (first | (with_reducible first | exact HB.out | apply below_alloc | apply pw_below_drewN | apply below_drew1 | refine below_set ?_ GE222.out) | exact HB.out)) hb); clear BK222; clear HB; have HO227 := n0_; have HO230 := n1_; have BK222 := n2_; have HB := n3_; clear n0_ n1_ n2_ n3_; (try clear hb); (try clear hb2); (try clear hk); (try clear hi); (try clear ho0); (try clear ho1); obtain ⟨Ao19, co19, eo19⟩ := Kd.V_slice HO227.out; subst eo19; obtain ⟨Ao20, co20, eo20⟩ := Kd.V_slice HO230.out; subst eo20) | ((with_reducible refine gate_callee (f := 20) rfl ?_); refine goesL_ (some 23) rfl rfl Try.func20 (by kernel_rfl) rfl #[.agg #[.slice Ao19 t225.length co19, .slice Ao20 t228.length co20], .int .i64 a1, .int .i64 a2] rfl (by (try simp only [List.map_toArray, List.map_cons, List.map_nil]); first | done | rfl | (simp only [List.length_drop, List.length_take]; rfl)) ?_; (with_reducible refine (shift_After.calls k _ _ t225 _ _ t228 a1 a2 t231 t232 _ ?side1 ?side2 ?side3 ?side4 A7.out).mono ?_); (case side1 => repeat (first | exact (Kd.V_reads' HO227.out).2.2 | (with_reducible refine Kd.C_alloc ?_ _) | (with_reducible refine Kd.C_drewN ?_ _) | (with_reducible refine Kd.C_drew ?_))); (case side2 => exact (Kd.V_reads' HO227.out).2.1); (case side3 => repeat (first | exact (Kd.V_reads' HO230.out).2.2 | (with_reducible refine Kd.C_alloc ?_ _) | (with_reducible refine Kd.C_drewN ?_ _) | (with_reducible refine Kd.C_drew ?_))); (case side4 => exact (Kd.V_reads' HO230.out).2.1); rintro e w21 ⟨rfl, hb⟩; refine ⟨_, rfl, ?_⟩; have n0_ := Aside0.mk (Kd.V_below (by (with_reducible repeat (first | apply Kd.V_alloc | apply Kd.V_drewN | apply Kd.V_drew)); exact HO227.out) hb); have n1_ := Aside0.mk (Kd.V_below (by (with_reducible repeat (first | apply Kd.V_alloc | apply Kd.V_drewN | apply Kd.V_drew)); exact HO230.out) hb); have n2_ := Aside0.mk (blk_below (g := gb222) (o := .cells #[.slice A0_0 l0_0.length c0_0, .slice A0_1 l0_1.length c0_1] 25 (0, 0)) (by (with_reducible repeat (first | refine blk_drewN ?_ _ | refine blk_drew ?_ | refine blk_alloc ?_ _)); exact BK222.out) hb); have n3_ := Aside0.mk (below_step (by repeat (first | (with_reducible first | exact HB.out | apply below_alloc | apply pw_below_drewN | apply below_drew1 | refine below_set ?_ GE222.out) | exact HB.out)) hb); clear HO227; clear HO230; clear BK222; clear HB; have HO227 := n0_; have HO230 := n1_; have BK222 := n2_; have HB := n3_; clear n0_ n1_ n2_ n3_; (try clear hb); (try clear hb2); (try clear hk); (try clear hi); have hcz22_0 : w21.cell? ⟨gb222, 0, none⟩ = some (.slice A0_0 l0_0.length c0_0) := (blk_cell BK222.out 0).trans rfl; have hcz22_1 : w21.cell? ⟨gb222, 1, none⟩ = some (.slice A0_1 l0_1.length c0_1) := (blk_cell BK222.out 1).trans rfl; have hfz22_0 := blk_frozen BK222.out 0; have hfz22_1 := blk_frozen BK222.out 1) | ((with_reducible refine gate_callee (f := 14) rfl ?_); refine goesL_ (some 28) rfl rfl Try.func14 (by kernel_rfl) rfl #[.agg #[.slice A0_0 l0_0.length c0_0, .slice A0_1 l0_1.length c0_1]] rfl (by (try simp only [List.map_toArray, List.map_cons, List.map_nil]); first | done | rfl | (simp only [List.length_drop, List.length_take]; rfl)) ?_; (with_reducible refine (gangsawlaw12_ours.calls (fun k_ => k_ < w.heap.size) _ _ l0_0 (fun k_ => k_ < w.heap.size) _ _ l0_1 t233 t236 _ ?side1 ?side2 A8.out).mono ?_); (case side1 => exact Kd.V_mk HC0_0.out (Kd.F_below (Kd.C_F k54_heap HR0_0.out) (by repeat (first | (with_reducible first | exact HB.out | apply below_alloc | apply pw_below_drewN | apply below_drew1 | refine below_set ?_ GE222.out) | exact HB.out)))); (case side2 => exact Kd.V_mk HC0_1.out (Kd.F_below (Kd.C_F (Kd.heap_int .i64) HR0_1.out) (by repeat (first | (with_reducible first | exact HB.out | apply below_alloc | apply pw_below_drewN | apply below_drew1 | refine below_set ?_ GE222.out) | exact HB.out)))); rintro e w23 ⟨v234, v237, rfl, ho0, ho1, hb⟩; refine ⟨_, rfl, ?_⟩; have n0_ := Aside0.mk (Kd.V_below (by (with_reducible repeat (first | apply Kd.V_alloc | apply Kd.V_drewN | apply Kd.V_drew)); exact HO227.out) hb); have n1_ := Aside0.mk (Kd.V_below (by (with_reducible repeat (first | apply Kd.V_alloc | apply Kd.V_drewN | apply Kd.V_drew)); exact HO230.out) hb); have n2_ := Aside0.mk (Kd.V_lower (Kd.V_mono (ok' := fun k_ => k_ ≠ gb222) ho0 (fun k_ hk_ => Or.elim hk_ (fun hs_ => Or.elim hs_ (fun hs_ => fun e_ => Nat.not_le.2 hs_ (by rw [e_]; exact GW222.out)) (fun hs_ => fun e_ => Nat.not_le.2 hs_ (by rw [e_]; exact GW222.out))) (fun hn_ => (Kd.freshB (g := gb222) (o := .cells #[.slice A0_0 l0_0.length c0_0, .slice A0_1 l0_1.length c0_1] 25 (0, 0)) (by (with_reducible repeat (first | refine blk_drewN ?_ _ | refine blk_drew ?_ | refine blk_alloc ?_ _)); exact BK222.out) k_ hn_)))) (below_size (by repeat (first | (with_reducible first | exact HB.out | apply below_alloc | apply pw_below_drewN | apply below_drew1 | refine below_set ?_ GE222.out) | exact HB.out)))); have n3_ := Aside0.mk (Kd.V_lower (Kd.V_mono (ok' := fun k_ => k_ ≠ gb222) ho1 (fun k_ hk_ => Or.elim hk_ (fun hs_ => Or.elim hs_ (fun hs_ => fun e_ => Nat.not_le.2 hs_ (by rw [e_]; exact GW222.out)) (fun hs_ => fun e_ => Nat.not_le.2 hs_ (by rw [e_]; exact GW222.out))) (fun hn_ => (Kd.freshB (g := gb222) (o := .cells #[.slice A0_0 l0_0.length c0_0, .slice A0_1 l0_1.length c0_1] 25 (0, 0)) (by (with_reducible repeat (first | refine blk_drewN ?_ _ | refine blk_drew ?_ | refine blk_alloc ?_ _)); exact BK222.out) k_ hn_)))) (below_size (by repeat (first | (with_reducible first | exact HB.out | apply below_alloc | apply pw_below_drewN | apply below_drew1 | refine below_set ?_ GE222.out) | exact HB.out)))); have n4_ := Aside0.mk (blk_below (g := gb222) (o := .cells #[.slice A0_0 l0_0.length c0_0, .slice A0_1 l0_1.length c0_1] 25 (0, 0)) (by (with_reducible repeat (first | refine blk_drewN ?_ _ | refine blk_drew ?_ | refine blk_alloc ?_ _)); exact BK222.out) hb); have n5_ := Aside0.mk (below_step (by repeat (first | (with_reducible first | exact HB.out | apply below_alloc | apply pw_below_drewN | apply below_drew1 | refine below_set ?_ GE222.out) | exact HB.out)) hb); clear HO227; clear HO230; clear BK222; clear HB; have HO227 := n0_; have HO230 := n1_; have HO235 := n2_; have HO238 := n3_; have BK222 := n4_; have HB := n5_; clear n0_ n1_ n2_ n3_ n4_ n5_; (try clear hb); (try clear hb2); (try clear hk); (try clear hi); (try clear ho0); (try clear ho1); obtain ⟨Ao24, co24, eo24⟩ := Kd.V_slice HO235.out; subst eo24; obtain ⟨Ao25, co25, eo25⟩ := Kd.V_slice HO238.out; subst eo25) | ((with_reducible refine gate_callee (f := 21) rfl ?_); refine goesL_ (some 31) rfl rfl Try.func21 (by kernel_rfl) rfl #[.agg #[.slice Ao24 t233.length co24, .slice Ao25 t236.length co25], .int .i64 a1, .int .i64 a2] rfl (by (try simp only [List.map_toArray, List.map_cons, List.map_nil]); first | done | rfl | (simp only [List.length_drop, List.length_take]; rfl)) ?_; (with_reducible refine (shift_Before.calls k _ _ t233 _ _ t236 a1 a2 t239 t240 _ ?side1 ?side2 ?side3 ?side4 A9.out).mono ?_); (case side1 => repeat (first | exact (Kd.V_reads' HO235.out).2.2 | (with_reducible refine Kd.C_alloc ?_ _) | (with_reducible refine Kd.C_drewN ?_ _) | (with_reducible refine Kd.C_drew ?_))); (case side2 => exact (Kd.V_reads' HO235.out).2.1); (case side3 => repeat (first | exact (Kd.V_reads' HO238.out).2.2 | (with_reducible refine Kd.C_alloc ?_ _) | (with_reducible refine Kd.C_drewN ?_ _) | (with_reducible refine Kd.C_drew ?_))); (case side4 => exact (Kd.V_reads' HO238.out).2.1); rintro e w26 ⟨rfl, hb⟩; refine ⟨_, rfl, ?_⟩; have n0_ := Aside0.mk (Kd.V_below (by (with_reducible repeat (first | apply Kd.V_alloc | apply Kd.V_drewN | apply Kd.V_drew)); exact HO227.out) hb); have n1_ := Aside0.mk (Kd.V_below (by (with_reducible repeat (first | apply Kd.V_alloc | apply Kd.V_drewN | apply Kd.V_drew)); exact HO230.out) hb); have n2_ := Aside0.mk (Kd.V_below (by (with_reducible repeat (first | apply Kd.V_alloc | apply Kd.V_drewN | apply Kd.V_drew)); exact HO235.out) hb); have n3_ := Aside0.mk (Kd.V_below (by (with_reducible repeat (first | apply Kd.V_alloc | apply Kd.V_drewN | apply Kd.V_drew)); exact HO238.out) hb); have n4_ := Aside0.mk (blk_below (g := gb222) (o := .cells #[.slice A0_0 l0_0.length c0_0, .slice A0_1 l0_1.length c0_1] 25 (0, 0)) (by (with_reducible repeat (first | refine blk_drewN ?_ _ | refine blk_drew ?_ | refine blk_alloc ?_ _)); exact BK222.out) hb); have n5_ := Aside0.mk (below_step (by repeat (first | (with_reducible first | exact HB.out | apply below_alloc | apply pw_below_drewN | apply below_drew1 | refine below_set ?_ GE222.out) | exact HB.out)) hb); clear HO227; clear HO230; clear HO235; clear HO238; clear BK222; clear HB; have HO227 := n0_; have HO230 := n1_; have HO235 := n2_; have HO238 := n3_; have BK222 := n4_; have HB := n5_; clear n0_ n1_ n2_ n3_ n4_ n5_; (try clear hb); (try clear hb2); (try clear hk); (try clear hi); have hcz27_0 : w26.cell? ⟨gb222, 0, none⟩ = some (.slice A0_0 l0_0.length c0_0) := (blk_cell BK222.out 0).trans rfl; have hcz27_1 : w26.cell? ⟨gb222, 1, none⟩ = some (.slice A0_1 l0_1.length c0_1) := (blk_cell BK222.out 1).trans rfl; have hfz27_0 := blk_frozen BK222.out 0; have hfz27_1 := blk_frozen BK222.out 1) | ((with_reducible refine gate_callee (f := 14) rfl ?_); refine goesL_ (some 36) rfl rfl Try.func14 (by kernel_rfl) rfl #[.agg #[.slice A0_0 l0_0.length c0_0, .slice A0_1 l0_1.length c0_1]] rfl (by (try simp only [List.map_toArray, List.map_cons, List.map_nil]); first | done | rfl | (simp only [List.length_drop, List.length_take]; rfl)) ?_; (with_reducible refine (gangsawlaw12_ours.calls (fun k_ => k_ < w.heap.size) _ _ l0_0 (fun k_ => k_ < w.heap.size) _ _ l0_1 t241 t244 _ ?side1 ?side2 A10.out).mono ?_); (case side1 => exact Kd.V_mk HC0_0.out (Kd.F_below (Kd.C_F k54_heap HR0_0.out) (by repeat (first | (with_reducible first | exact HB.out | apply below_alloc | apply pw_below_drewN | apply below_drew1 | refine below_set ?_ GE222.out) | exact HB.out)))); (case side2 => exact Kd.V_mk HC0_1.out (Kd.F_below (Kd.C_F (Kd.heap_int .i64) HR0_1.out) (by repeat (first | (with_reducible first | exact HB.out | apply below_alloc | apply pw_below_drewN | apply below_drew1 | refine below_set ?_ GE222.out) | exact HB.out)))); rintro e w28 ⟨v242, v245, rfl, ho0, ho1, hb⟩; refine ⟨_, rfl, ?_⟩; have n0_ := Aside0.mk (Kd.V_below (by (with_reducible repeat (first | apply Kd.V_alloc | apply Kd.V_drewN | apply Kd.V_drew)); exact HO227.out) hb); have n1_ := Aside0.mk (Kd.V_below (by (with_reducible repeat (first | apply Kd.V_alloc | apply Kd.V_drewN | apply Kd.V_drew)); exact HO230.out) hb); have n2_ := Aside0.mk (Kd.V_below (by (with_reducible repeat (first | apply Kd.V_alloc | apply Kd.V_drewN | apply Kd.V_drew)); exact HO235.out) hb); have n3_ := Aside0.mk (Kd.V_below (by (with_reducible repeat (first | apply Kd.V_alloc | apply Kd.V_drewN | apply Kd.V_drew)); exact HO238.out) hb); have n4_ := Aside0.mk (Kd.V_lower (Kd.V_mono (ok' := fun k_ => k_ ≠ gb222) ho0 (fun k_ hk_ => Or.elim hk_ (fun hs_ => Or.elim hs_ (fun hs_ => fun e_ => Nat.not_le.2 hs_ (by rw [e_]; exact GW222.out)) (fun hs_ => fun e_ => Nat.not_le.2 hs_ (by rw [e_]; exact GW222.out))) (fun hn_ => (Kd.freshB (g := gb222) (o := .cells #[.slice A0_0 l0_0.length c0_0, .slice A0_1 l0_1.length c0_1] 25 (0, 0)) (by (with_reducible repeat (first | refine blk_drewN ?_ _ | refine blk_drew ?_ | refine blk_alloc ?_ _)); exact BK222.out) k_ hn_)))) (below_size (by repeat (first | (with_reducible first | exact HB.out | apply below_alloc | apply pw_below_drewN | apply below_drew1 | refine below_set ?_ GE222.out) | exact HB.out)))); have n5_ := Aside0.mk (Kd.V_lower (Kd.V_mono (ok' := fun k_ => k_ ≠ gb222) ho1 (fun k_ hk_ => Or.elim hk_ (fun hs_ => Or.elim hs_ (fun hs_ => fun e_ => Nat.not_le.2 hs_ (by rw [e_]; exact GW222.out)) (fun hs_ => fun e_ => Nat.not_le.2 hs_ (by rw [e_]; exact GW222.out))) (fun hn_ => (Kd.freshB (g := gb222) (o := .cells #[.slice A0_0 l0_0.length c0_0, .slice A0_1 l0_1.length c0_1] 25 (0, 0)) (by (with_reducible repeat (first | refine blk_drewN ?_ _ | refine blk_drew ?_ | refine blk_alloc ?_ _)); exact BK222.out) k_ hn_)))) (below_size (by repeat (first | (with_reducible first | exact HB.out | apply below_alloc | apply pw_below_drewN | apply below_drew1 | refine below_set ?_ GE222.out) | exact HB.out)))); have n6_ := Aside0.mk (blk_below (g := gb222) (o := .cells #[.slice A0_0 l0_0.length c0_0, .slice A0_1 l0_1.length c0_1] 25 (0, 0)) (by (with_reducible repeat (first | refine blk_drewN ?_ _ | refine blk_drew ?_ | refine blk_alloc ?_ _)); exact BK222.out) hb); have n7_ := Aside0.mk (below_step (by repeat (first | (with_reducible first | exact HB.out | apply below_alloc | apply pw_below_drewN | apply below_drew1 | refine below_set ?_ GE222.out) | exact HB.out)) hb); clear HO227; clear HO230; clear HO235; clear HO238; clear BK222; clear HB; have HO227 := n0_; have HO230 := n1_; have HO235 := n2_; have HO238 := n3_; have HO243 := n4_; have HO246 := n5_; have BK222 := n6_; have HB := n7_; clear n0_ n1_ n2_ n3_ n4_ n5_ n6_ n7_; (try clear hb); (try clear hb2); (try clear hk); (try clear hi); (try clear ho0); (try clear ho1); obtain ⟨Ao29, co29, eo29⟩ := Kd.V_slice HO243.out; subst eo29; obtain ⟨Ao30, co30, eo30⟩ := Kd.V_slice HO246.out; subst eo30) | ((with_reducible refine gate_callee (f := 22) rfl ?_); refine goesL_ (some 39) rfl rfl Try.func22 (by kernel_rfl) rfl #[.agg #[.slice Ao29 t241.length co29, .slice Ao30 t244.length co30], .int .i64 a1, .int .i64 a2] rfl (by (try simp only [List.map_toArray, List.map_cons, List.map_nil]); first | done | rfl | (simp only [List.length_drop, List.length_take]; rfl)) ?_; (with_reducible refine (shift_Whole.calls k _ _ t241 _ _ t244 a1 a2 t247 t248 _ ?side1 ?side2 ?side3 ?side4 A11.out).mono ?_); (case side1 => repeat (first | exact (Kd.V_reads' HO243.out).2.2 | (with_reducible refine Kd.C_alloc ?_ _) | (with_reducible refine Kd.C_drewN ?_ _) | (with_reducible refine Kd.C_drew ?_))); (case side2 => exact (Kd.V_reads' HO243.out).2.1); (case side3 => repeat (first | exact (Kd.V_reads' HO246.out).2.2 | (with_reducible refine Kd.C_alloc ?_ _) | (with_reducible refine Kd.C_drewN ?_ _) | (with_reducible refine Kd.C_drew ?_))); (case side4 => exact (Kd.V_reads' HO246.out).2.1); rintro e w31 ⟨rfl, hb⟩; refine ⟨_, rfl, ?_⟩; have n0_ := Aside0.mk (Kd.V_below (by (with_reducible repeat (first | apply Kd.V_alloc | apply Kd.V_drewN | apply Kd.V_drew)); exact HO227.out) hb); have n1_ := Aside0.mk (Kd.V_below (by (with_reducible repeat (first | apply Kd.V_alloc | apply Kd.V_drewN | apply Kd.V_drew)); exact HO230.out) hb); have n2_ := Aside0.mk (Kd.V_below (by (with_reducible repeat (first | apply Kd.V_alloc | apply Kd.V_drewN | apply Kd.V_drew)); exact HO235.out) hb); have n3_ := Aside0.mk (Kd.V_below (by (with_reducible repeat (first | apply Kd.V_alloc | apply Kd.V_drewN | apply Kd.V_drew)); exact HO238.out) hb); have n4_ := Aside0.mk (Kd.V_below (by (with_reducible repeat (first | apply Kd.V_alloc | apply Kd.V_drewN | apply Kd.V_drew)); exact HO243.out) hb); have n5_ := Aside0.mk (Kd.V_below (by (with_reducible repeat (first | apply Kd.V_alloc | apply Kd.V_drewN | apply Kd.V_drew)); exact HO246.out) hb); have n6_ := Aside0.mk (blk_below (g := gb222) (o := .cells #[.slice A0_0 l0_0.length c0_0, .slice A0_1 l0_1.length c0_1] 25 (0, 0)) (by (with_reducible repeat (first | refine blk_drewN ?_ _ | refine blk_drew ?_ | refine blk_alloc ?_ _)); exact BK222.out) hb); have n7_ := Aside0.mk (below_step (by repeat (first | (with_reducible first | exact HB.out | apply below_alloc | apply pw_below_drewN | apply below_drew1 | refine below_set ?_ GE222.out) | exact HB.out)) hb); clear HO227; clear HO230; clear HO235; clear HO238; clear HO243; clear HO246; clear BK222; clear HB; have HO227 := n0_; have HO230 := n1_; have HO235 := n2_; have HO238 := n3_; have HO243 := n4_; have HO246 := n5_; have BK222 := n6_; have HB := n7_; clear n0_ n1_ n2_ n3_ n4_ n5_ n6_ n7_; (try clear hb); (try clear hb2); (try clear hk); (try clear hi); have hcz32_0 : w31.cell? ⟨gb222, 0, none⟩ = some (.slice A0_0 l0_0.length c0_0) := (blk_cell BK222.out 0).trans rfl; have hcz32_1 : w31.cell? ⟨gb222, 1, none⟩ = some (.slice A0_1 l0_1.length c0_1) := (blk_cell BK222.out 1).trans rfl; have hfz32_0 := blk_frozen BK222.out 0; have hfz32_1 := blk_frozen BK222.out 1) | ((with_reducible refine gate_callee (f := 16) rfl ?_); refine goesL_ (some 43) rfl rfl Try.func16 (by kernel_rfl) rfl #[.agg #[.slice A0_0 l0_0.length c0_0, .slice A0_1 l0_1.length c0_1]] rfl (by (try simp only [List.map_toArray, List.map_cons, List.map_nil]); first | done | rfl | (simp only [List.length_drop, List.length_take]; rfl)) ?_; (with_reducible refine (gangsawref12_Check.calls k _ _ l0_0 _ _ l0_1 t249 _ ?side1 ?side2 ?side3 ?side4 A12.out).mono ?_); (case side1 => repeat (first | exact (Kd.C_below HR0_0.out HB.out) | (with_reducible refine Kd.C_alloc ?_ _) | (with_reducible refine Kd.C_drewN ?_ _) | (with_reducible refine Kd.C_drew ?_))); (case side2 => exact HC0_0.out); (case side3 => repeat (first | exact (Kd.C_below HR0_1.out HB.out) | (with_reducible refine Kd.C_alloc ?_ _) | (with_reducible refine Kd.C_drewN ?_ _) | (with_reducible refine Kd.C_drew ?_))); (case side4 => exact HC0_1.out); rintro e w33 ⟨rfl, hb⟩; refine ⟨_, rfl, ?_⟩; have n0_ := Aside0.mk (Kd.V_below (by (with_reducible repeat (first | apply Kd.V_alloc | apply Kd.V_drewN | apply Kd.V_drew)); exact HO227.out) hb); have n1_ := Aside0.mk (Kd.V_below (by (with_reducible repeat (first | apply Kd.V_alloc | apply Kd.V_drewN | apply Kd.V_drew)); exact HO230.out) hb); have n2_ := Aside0.mk (Kd.V_below (by (with_reducible repeat (first | apply Kd.V_alloc | apply Kd.V_drewN | apply Kd.V_drew)); exact HO235.out) hb); have n3_ := Aside0.mk (Kd.V_below (by (with_reducible repeat (first | apply Kd.V_alloc | apply Kd.V_drewN | apply Kd.V_drew)); exact HO238.out) hb); have n4_ := Aside0.mk (Kd.V_below (by (with_reducible repeat (first | apply Kd.V_alloc | apply Kd.V_drewN | apply Kd.V_drew)); exact HO243.out) hb); have n5_ := Aside0.mk (Kd.V_below (by (with_reducible repeat (first | apply Kd.V_alloc | apply Kd.V_drewN | apply Kd.V_drew)); exact HO246.out) hb); have n6_ := Aside0.mk (blk_below (g := gb222) (o := .cells #[.slice A0_0 l0_0.length c0_0, .slice A0_1 l0_1.length c0_1] 25 (0, 0)) (by (with_reducible repeat (first | refine blk_drewN ?_ _ | refine blk_drew ?_ | refine blk_alloc ?_ _)); exact BK222.out) hb); have n7_ := Aside0.mk (below_step (by repeat (first | (with_reducible first | exact HB.out | apply below_alloc | apply pw_below_drewN | apply below_drew1 | refine below_set ?_ GE222.out) | exact HB.out)) hb); clear HO227; clear HO230; clear HO235; clear HO238; clear HO243; clear HO246; clear BK222; clear HB; have HO227 := n0_; have HO230 := n1_; have HO235 := n2_; have HO238 := n3_; have HO243 := n4_; have HO246 := n5_; have BK222 := n6_; have HB := n7_; clear n0_ n1_ n2_ n3_ n4_ n5_ n6_ n7_; (try clear hb); (try clear hb2); (try clear hk); (try clear hi)))
    (try simp only [Act.put, List.setIfInBounds_toArray, List.set_cons_zero, List.set_cons_succ])
    go_cut [55] (fun v55 wc => ∃ (kq : Nat) (x55_12 : Bool), v55 = .bool x55_12 ∧ Aside0 (gangsawlaw12_ShiftMoves.j0 kq a1 a2 t231 t232 t239 t240 t247 t248 t249 x55_12 l0_0 l0_1 = some r) ∧ Aside0 (kq ≤ k) ∧ Aside0 (wc.heap[gb222]? = some (.cells #[(.slice A0_0 l0_0.length c0_0), (.slice A0_1 l0_1.length c0_1)] 25 (0, 0))) ∧ Aside0 (Below w.heap.size w wc))
    case first =>
      have H := HC13.out
      clear HC13
      by_cases c34 : t249 = 0
      · rw [if_pos c34] at H
        have c34b0 : (t249 == 0) = true := beq_iff_eq.mpr c34
        have c34b1 : (t249 != 0) = false := bne_eq_false_iff_eq.mpr c34
        clear c34
        (first | rw [c34b0] | (simp only [i64_w, i32_w]; rw [c34b0]) | skip)
        replace H := Option.bind_eq_some_iff.mp H
        obtain ⟨t250, A350, H⟩ := H
        replace H : (if t250 = true then ((gangsawref12_Minute.f a2).bind fun t251 => (gangsawlaw12_ShiftMoves.j0 k a1 a2 t231 t232 t239 t240 t247 t248 t249 (!t251) l0_0 l0_1)) else (gangsawlaw12_ShiftMoves.j0 k a1 a2 t231 t232 t239 t240 t247 t248 t249 true l0_0 l0_1)) = some r := H
        have A35 := Aside0.mk A350
        clear A350
        by_cases c36 : t250 = true
        · subst c36
          have H1 : ((gangsawref12_Minute.f a2).bind fun t251 => (gangsawlaw12_ShiftMoves.j0 k a1 a2 t231 t232 t239 t240 t247 t248 t249 (!t251) l0_0 l0_1)) = some r := by rw [if_pos rfl] at H; exact H
          clear H
          have H := H1
          clear H1
          replace H := Option.bind_eq_some_iff.mp H
          obtain ⟨t251, A370, H⟩ := H
          replace H : (gangsawlaw12_ShiftMoves.j0 k a1 a2 t231 t232 t239 t240 t247 t248 t249 (!t251) l0_0 l0_1) = some r := H
          have A37 := Aside0.mk A370
          clear A370
          have H' := Aside0.mk H
          clear H
          go_wp2_with (first | (go_at_call 17; (with_reducible refine (gangsawref12_Minute.calls a1 true _ A35.out).mono ?_); rintro e w' ⟨rfl, ⟨nd, rfl⟩⟩) | (go_at_call 17; (with_reducible refine (gangsawref12_Minute.calls a2 t251 _ A37.out).mono ?_); rintro e w' ⟨rfl, ⟨nd, rfl⟩⟩))
          go_meet
          case rel => exact ⟨_, (!t251), (by first | rfl | (simp; done) | (simp [*]; done)), H', ⟨by first | omega | exact Nat.le_refl _⟩, ⟨by (with_reducible repeat (first | refine blk_drewN ?_ _ | refine blk_drew ?_ | refine blk_alloc ?_ _)); exact BK222.out⟩, ⟨by repeat (first | (with_reducible first | exact HB.out | apply below_alloc | apply pw_below_drewN | apply below_drew1 | refine below_set ?_ GE222.out) | exact HB.out)⟩⟩
        · replace c36 := Bool.eq_false_iff.mpr c36
          subst c36
          have H1 : (gangsawlaw12_ShiftMoves.j0 k a1 a2 t231 t232 t239 t240 t247 t248 t249 true l0_0 l0_1) = some r := by rw [if_neg (show ¬ (false = true) by decide)] at H; exact H
          clear H
          have H := H1
          clear H1
          have H' := Aside0.mk H
          clear H
          go_wp2_with (first | (go_at_call 17; (with_reducible refine (gangsawref12_Minute.calls a1 false _ A35.out).mono ?_); rintro e w' ⟨rfl, ⟨nd, rfl⟩⟩))
          go_meet
          case rel => exact ⟨_, (true), (by first | rfl | (simp; done) | (simp [*]; done)), H', ⟨by first | omega | exact Nat.le_refl _⟩, ⟨by (with_reducible repeat (first | refine blk_drewN ?_ _ | refine blk_drew ?_ | refine blk_alloc ?_ _)); exact BK222.out⟩, ⟨by repeat (first | (with_reducible first | exact HB.out | apply below_alloc | apply pw_below_drewN | apply below_drew1 | refine below_set ?_ GE222.out) | exact HB.out)⟩⟩
      · rw [if_neg c34] at H
        have c34b0 : (t249 == 0) = false := beq_eq_false_iff_ne.mpr c34
        have c34b1 : (t249 != 0) = true := bne_iff_ne.mpr c34
        (first | rw [c34b0] | (simp only [i64_w, i32_w]; rw [c34b0]) | skip)
        have H' := Aside0.mk H
        clear H
        go_wp2
        go_meet
        case rel => exact ⟨_, (false), (by first | rfl | (simp; done) | (simp [*]; done)), H', ⟨by first | omega | exact Nat.le_refl _⟩, ⟨by (with_reducible repeat (first | refine blk_drewN ?_ _ | refine blk_drew ?_ | refine blk_alloc ?_ _)); exact BK222.out⟩, ⟨by repeat (first | (with_reducible first | exact HB.out | apply below_alloc | apply pw_below_drewN | apply below_drew1 | refine below_set ?_ GE222.out) | exact HB.out)⟩⟩
    case rest =>
      clear HC13
      try clear c1
      try clear c2
      try clear p2
      try clear c3
      try clear c4
      try clear c5
      try clear c11
      try clear c14
      try clear c16
      try clear c20
      try clear c21
      try clear c22
      try clear c34
      try clear c34b0
      try clear c34b1
      try clear c36
      try clear hcz15_0
      try clear hcz15_1
      try clear hcz17_0
      try clear hcz17_1
      try clear hcz22_0
      try clear hcz22_1
      try clear hcz27_0
      try clear hcz27_1
      try clear hcz32_0
      try clear hcz32_1
      try clear hfz15_0
      try clear hfz15_1
      try clear hfz17_0
      try clear hfz17_1
      try clear hfz22_0
      try clear hfz22_1
      try clear hfz27_0
      try clear hfz27_1
      try clear hfz32_0
      try clear hfz32_1
      obtain ⟨kq, x55_12, rfl, HA, HJ12, BK222, HB⟩ := hcut
      cases kq with
      | zero => exact absurd HA.out (by simp [gangsawlaw12_ShiftMoves.j0])
      | succ kj12 =>
        have H := HA.out
        clear HA
        simp only [gangsawlaw12_ShiftMoves.j0] at H
        have HC38 := Aside0.mk H
        clear H
        go_upto_if 55 with (fail)
        go_cut [13] (fun v13 wc => ∃ (kq : Nat) (x13_37 : Int), v13 = .int .i64 x13_37 ∧ Aside0 (gangsawlaw12_ShiftMoves.j1 kq a1 a2 t231 t232 t239 t240 t247 t248 x13_37 l0_0 l0_1 = some r) ∧ Aside0 (kq ≤ kj12) ∧ Aside0 (wc.heap[gb222]? = some (.cells #[(.slice A0_0 l0_0.length c0_0), (.slice A0_1 l0_1.length c0_1)] 25 (0, 0))) ∧ Aside0 (Below w.heap.size w wc))
        case first =>
          have H := HC38.out
          clear HC38
          by_cases c39 : x55_12 = true
          · subst c39
            have H1 : (gangsawlaw12_ShiftMoves.j1 kj12 a1 a2 t231 t232 t239 t240 t247 t248 6 l0_0 l0_1) = some r := by rw [if_pos rfl] at H; exact H
            clear H
            have H := H1
            clear H1
            have H' := Aside0.mk H
            clear H
            go_wp2
            go_meet
            case rel => exact ⟨_, (6), (by first | rfl | (simp; done) | (simp [*]; done)), H', ⟨by have := HJ12.out; first | omega | exact Nat.le_refl _⟩, ⟨by (with_reducible repeat (first | refine blk_drewN ?_ _ | refine blk_drew ?_ | refine blk_alloc ?_ _)); exact BK222.out⟩, ⟨by repeat (first | (with_reducible first | exact HB.out | apply below_alloc | apply pw_below_drewN | apply below_drew1 | refine below_set ?_ GE222.out) | exact HB.out)⟩⟩
          · replace c39 := Bool.eq_false_iff.mpr c39
            subst c39
            have H1 : (gangsawlaw12_ShiftMoves.j1 kj12 a1 a2 t231 t232 t239 t240 t247 t248 t249 l0_0 l0_1) = some r := by rw [if_neg (show ¬ (false = true) by decide)] at H; exact H
            clear H
            have H := H1
            clear H1
            have H' := Aside0.mk H
            clear H
            go_wp2
            go_meet
            case rel => exact ⟨_, (t249), (by first | rfl | (simp; done) | (simp [*]; done)), H', ⟨by have := HJ12.out; first | omega | exact Nat.le_refl _⟩, ⟨by (with_reducible repeat (first | refine blk_drewN ?_ _ | refine blk_drew ?_ | refine blk_alloc ?_ _)); exact BK222.out⟩, ⟨by repeat (first | (with_reducible first | exact HB.out | apply below_alloc | apply pw_below_drewN | apply below_drew1 | refine below_set ?_ GE222.out) | exact HB.out)⟩⟩
        case rest =>
          clear HC38
          try clear c1
          try clear c2
          try clear p2
          try clear c3
          try clear c4
          try clear c5
          try clear c11
          try clear c14
          try clear c16
          try clear c20
          try clear c21
          try clear c22
          try clear c34
          try clear c34b0
          try clear c34b1
          try clear c36
          try clear c39
          try clear hcz15_0
          try clear hcz15_1
          try clear hcz17_0
          try clear hcz17_1
          try clear hcz22_0
          try clear hcz22_1
          try clear hcz27_0
          try clear hcz27_1
          try clear hcz32_0
          try clear hcz32_1
          try clear hfz15_0
          try clear hfz15_1
          try clear hfz17_0
          try clear hfz17_1
          try clear hfz22_0
          try clear hfz22_1
          try clear hfz27_0
          try clear hfz27_1
          try clear hfz32_0
          try clear hfz32_1
          try clear p2
          obtain ⟨kq, x13_37, rfl, HA, HJ37, BK222, HB⟩ := hcut
          cases kq with
          | zero => exact absurd HA.out (by simp [gangsawlaw12_ShiftMoves.j1])
          | succ kj37 =>
            have H := HA.out
            clear HA
            simp only [gangsawlaw12_ShiftMoves.j1] at H
            by_cases c40 : x13_37 = 0
            · rw [if_pos c40] at H
              have c40b0 : (x13_37 == 0) = true := beq_iff_eq.mpr c40
              have c40b1 : (x13_37 != 0) = false := bne_eq_false_iff_eq.mpr c40
              clear c40
              have HC41 := Aside0.mk H
              clear H
              go_upto_region 11 with (fail)
              go_cut [6] (fun v6 wc => ∃ (kq : Nat) (x6_40 : Bool), v6 = .bool x6_40 ∧ Aside0 (gangsawlaw12_ShiftMoves.j3 kq x6_40 = some r) ∧ Aside0 (kq ≤ kj37) ∧ Aside0 (wc.heap[gb222]? = some (.cells #[(.slice A0_0 l0_0.length c0_0), (.slice A0_1 l0_1.length c0_1)] 25 (0, 0))) ∧ Aside0 (Below w.heap.size w wc))
              case first =>
                have H := HC41.out
                clear HC41
                replace H := Option.bind_eq_some_iff.mp H
                obtain ⟨t253, A420, H⟩ := H
                replace H : (if t253 = true then ((gangsawref12_Calendar_After.f kj37 l0_0 l0_1 a1 a2).bind fun t254 => ((gangsawlaw12_answer.f t231 t232 t254).bind fun t255 => (if t255 = true then ((gangsawref12_Calendar_Before.f kj37 l0_0 l0_1 a1 a2).bind fun t256 => ((gangsawlaw12_answer.f t239 t240 t256).bind fun t257 => (if t257 = true then ((gangsawref12_Calendar_Whole.f kj37 l0_0 l0_1 a1 a2).bind fun t258 => ((gangsawlaw12_answer.f t247 t248 t258).bind fun t259 => (gangsawlaw12_ShiftMoves.j3 kj37 t259))) else (gangsawlaw12_ShiftMoves.j3 kj37 false)))) else (gangsawlaw12_ShiftMoves.j3 kj37 false)))) else (gangsawlaw12_ShiftMoves.j3 kj37 false)) = some r := H
                have A42 := Aside0.mk A420
                clear A420
                by_cases c43 : t253 = true
                · subst c43
                  have H1 : ((gangsawref12_Calendar_After.f kj37 l0_0 l0_1 a1 a2).bind fun t254 => ((gangsawlaw12_answer.f t231 t232 t254).bind fun t255 => (if t255 = true then ((gangsawref12_Calendar_Before.f kj37 l0_0 l0_1 a1 a2).bind fun t256 => ((gangsawlaw12_answer.f t239 t240 t256).bind fun t257 => (if t257 = true then ((gangsawref12_Calendar_Whole.f kj37 l0_0 l0_1 a1 a2).bind fun t258 => ((gangsawlaw12_answer.f t247 t248 t258).bind fun t259 => (gangsawlaw12_ShiftMoves.j3 kj37 t259))) else (gangsawlaw12_ShiftMoves.j3 kj37 false)))) else (gangsawlaw12_ShiftMoves.j3 kj37 false)))) = some r := by rw [if_pos rfl] at H; exact H
                  clear H
                  have H := H1
                  clear H1
                  replace H := Option.bind_eq_some_iff.mp H
                  obtain ⟨t254, A440, H⟩ := H
                  replace H : ((gangsawlaw12_answer.f t231 t232 t254).bind fun t255 => (if t255 = true then ((gangsawref12_Calendar_Before.f kj37 l0_0 l0_1 a1 a2).bind fun t256 => ((gangsawlaw12_answer.f t239 t240 t256).bind fun t257 => (if t257 = true then ((gangsawref12_Calendar_Whole.f kj37 l0_0 l0_1 a1 a2).bind fun t258 => ((gangsawlaw12_answer.f t247 t248 t258).bind fun t259 => (gangsawlaw12_ShiftMoves.j3 kj37 t259))) else (gangsawlaw12_ShiftMoves.j3 kj37 false)))) else (gangsawlaw12_ShiftMoves.j3 kj37 false))) = some r := H
                  have A44 := Aside0.mk A440
                  clear A440
                  replace H := Option.bind_eq_some_iff.mp H
                  obtain ⟨t255, A450, H⟩ := H
                  replace H : (if t255 = true then ((gangsawref12_Calendar_Before.f kj37 l0_0 l0_1 a1 a2).bind fun t256 => ((gangsawlaw12_answer.f t239 t240 t256).bind fun t257 => (if t257 = true then ((gangsawref12_Calendar_Whole.f kj37 l0_0 l0_1 a1 a2).bind fun t258 => ((gangsawlaw12_answer.f t247 t248 t258).bind fun t259 => (gangsawlaw12_ShiftMoves.j3 kj37 t259))) else (gangsawlaw12_ShiftMoves.j3 kj37 false)))) else (gangsawlaw12_ShiftMoves.j3 kj37 false)) = some r := H
                  have A45 := Aside0.mk A450
                  clear A450
                  by_cases c46 : t255 = true
                  · subst c46
                    have H1 : ((gangsawref12_Calendar_Before.f kj37 l0_0 l0_1 a1 a2).bind fun t256 => ((gangsawlaw12_answer.f t239 t240 t256).bind fun t257 => (if t257 = true then ((gangsawref12_Calendar_Whole.f kj37 l0_0 l0_1 a1 a2).bind fun t258 => ((gangsawlaw12_answer.f t247 t248 t258).bind fun t259 => (gangsawlaw12_ShiftMoves.j3 kj37 t259))) else (gangsawlaw12_ShiftMoves.j3 kj37 false)))) = some r := by rw [if_pos rfl] at H; exact H
                    clear H
                    have H := H1
                    clear H1
                    replace H := Option.bind_eq_some_iff.mp H
                    obtain ⟨t256, A470, H⟩ := H
                    replace H : ((gangsawlaw12_answer.f t239 t240 t256).bind fun t257 => (if t257 = true then ((gangsawref12_Calendar_Whole.f kj37 l0_0 l0_1 a1 a2).bind fun t258 => ((gangsawlaw12_answer.f t247 t248 t258).bind fun t259 => (gangsawlaw12_ShiftMoves.j3 kj37 t259))) else (gangsawlaw12_ShiftMoves.j3 kj37 false))) = some r := H
                    have A47 := Aside0.mk A470
                    clear A470
                    replace H := Option.bind_eq_some_iff.mp H
                    obtain ⟨t257, A480, H⟩ := H
                    replace H : (if t257 = true then ((gangsawref12_Calendar_Whole.f kj37 l0_0 l0_1 a1 a2).bind fun t258 => ((gangsawlaw12_answer.f t247 t248 t258).bind fun t259 => (gangsawlaw12_ShiftMoves.j3 kj37 t259))) else (gangsawlaw12_ShiftMoves.j3 kj37 false)) = some r := H
                    have A48 := Aside0.mk A480
                    clear A480
                    by_cases c49 : t257 = true
                    · subst c49
                      have H1 : ((gangsawref12_Calendar_Whole.f kj37 l0_0 l0_1 a1 a2).bind fun t258 => ((gangsawlaw12_answer.f t247 t248 t258).bind fun t259 => (gangsawlaw12_ShiftMoves.j3 kj37 t259))) = some r := by rw [if_pos rfl] at H; exact H
                      clear H
                      have H := H1
                      clear H1
                      replace H := Option.bind_eq_some_iff.mp H
                      obtain ⟨t258, A500, H⟩ := H
                      replace H : ((gangsawlaw12_answer.f t247 t248 t258).bind fun t259 => (gangsawlaw12_ShiftMoves.j3 kj37 t259)) = some r := H
                      have A50 := Aside0.mk A500
                      clear A500
                      replace H := Option.bind_eq_some_iff.mp H
                      obtain ⟨t259, A510, H⟩ := H
                      replace H : (gangsawlaw12_ShiftMoves.j3 kj37 t259) = some r := H
                      have A51 := Aside0.mk A510
                      clear A510
                      have H' := Aside0.mk H
                      clear H
                      go_wp2_with (first | ((with_reducible refine gate_callee (f := 12) rfl ?_); refine goesL_ (some 86) rfl rfl Try.func12 (by kernel_rfl) rfl #[] rfl (by (try simp only [List.map_toArray, List.map_cons, List.map_nil]); first | done | rfl | (simp only [List.length_drop, List.length_take]; rfl)) ?_; (with_reducible refine (gangsawlaw12_awake.calls kj37  true _ A42.out).mono ?_); rintro e w52 ⟨rfl, hb⟩; refine ⟨_, rfl, ?_⟩; have n0_ := Aside0.mk (blk_below (g := gb222) (o := .cells #[.slice A0_0 l0_0.length c0_0, .slice A0_1 l0_1.length c0_1] 25 (0, 0)) (by (with_reducible repeat (first | refine blk_drewN ?_ _ | refine blk_drew ?_ | refine blk_alloc ?_ _)); exact BK222.out) hb); have n1_ := Aside0.mk (below_step (by repeat (first | (with_reducible first | exact HB.out | apply below_alloc | apply pw_below_drewN | apply below_drew1 | refine below_set ?_ GE222.out) | exact HB.out)) hb); clear BK222; clear HB; have BK222 := n0_; have HB := n1_; clear n0_ n1_; (try clear hb); (try clear hb2); (try clear hk); (try clear hi); have hcz53_0 : w52.cell? ⟨gb222, 0, none⟩ = some (.slice A0_0 l0_0.length c0_0) := (blk_cell BK222.out 0).trans rfl; have hcz53_1 : w52.cell? ⟨gb222, 1, none⟩ = some (.slice A0_1 l0_1.length c0_1) := (blk_cell BK222.out 1).trans rfl; have hfz53_0 := blk_frozen BK222.out 0; have hfz53_1 := blk_frozen BK222.out 1) | (go_at_call 24; (with_reducible refine (gangsawref12_Calendar_After.calls kj37 _ _ l0_0 _ _ l0_1 a1 a2 t254 _ ?side1 ?side2 ?side3 ?side4 A44.out).mono ?_); (case side1 => repeat (first | exact (Kd.C_below HR0_0.out HB.out) | (with_reducible refine Kd.C_alloc ?_ _) | (with_reducible refine Kd.C_drewN ?_ _) | (with_reducible refine Kd.C_drew ?_))); (case side2 => exact HC0_0.out); (case side3 => repeat (first | exact (Kd.C_below HR0_1.out HB.out) | (with_reducible refine Kd.C_alloc ?_ _) | (with_reducible refine Kd.C_drewN ?_ _) | (with_reducible refine Kd.C_drew ?_))); (case side4 => exact HC0_1.out); rintro e w54 ⟨rfl, hb⟩; have n0_ := Aside0.mk (blk_below (g := gb222) (o := .cells #[.slice A0_0 l0_0.length c0_0, .slice A0_1 l0_1.length c0_1] 25 (0, 0)) (by (with_reducible repeat (first | refine blk_drewN ?_ _ | refine blk_drew ?_ | refine blk_alloc ?_ _)); exact BK222.out) hb); have n1_ := Aside0.mk (below_step (by repeat (first | (with_reducible first | exact HB.out | apply below_alloc | apply pw_below_drewN | apply below_drew1 | refine below_set ?_ GE222.out) | exact HB.out)) hb); clear BK222; clear HB; have BK222 := n0_; have HB := n1_; clear n0_ n1_; (try clear hb); (try clear hb2); (try clear hk); (try clear hi)) | (go_at_call 23; (with_reducible refine (gangsawlaw12_answer.calls t231 t232 t254 true _ A45.out).mono ?_); rintro e w' ⟨rfl, ⟨nd, rfl⟩⟩; have hcz55_0 : w54.cell? ⟨gb222, 0, none⟩ = some (.slice A0_0 l0_0.length c0_0) := (blk_cell BK222.out 0).trans rfl; have hcz55_1 : w54.cell? ⟨gb222, 1, none⟩ = some (.slice A0_1 l0_1.length c0_1) := (blk_cell BK222.out 1).trans rfl; have hfz55_0 := blk_frozen BK222.out 0; have hfz55_1 := blk_frozen BK222.out 1) | (go_at_call 25; (with_reducible refine (gangsawref12_Calendar_Before.calls kj37 _ _ l0_0 _ _ l0_1 a1 a2 t256 _ ?side1 ?side2 ?side3 ?side4 A47.out).mono ?_); (case side1 => repeat (first | exact (Kd.C_below HR0_0.out (by repeat (first | (with_reducible first | exact HB.out | apply below_alloc | apply pw_below_drewN | apply below_drew1 | refine below_set ?_ GE222.out) | exact HB.out))) | (with_reducible refine Kd.C_alloc ?_ _) | (with_reducible refine Kd.C_drewN ?_ _) | (with_reducible refine Kd.C_drew ?_))); (case side2 => exact HC0_0.out); (case side3 => repeat (first | exact (Kd.C_below HR0_1.out (by repeat (first | (with_reducible first | exact HB.out | apply below_alloc | apply pw_below_drewN | apply below_drew1 | refine below_set ?_ GE222.out) | exact HB.out))) | (with_reducible refine Kd.C_alloc ?_ _) | (with_reducible refine Kd.C_drewN ?_ _) | (with_reducible refine Kd.C_drew ?_))); (case side4 => exact HC0_1.out); rintro e w56 ⟨rfl, hb⟩; have n0_ := Aside0.mk (blk_below (g := gb222) (o := .cells #[.slice A0_0 l0_0.length c0_0, .slice A0_1 l0_1.length c0_1] 25 (0, 0)) (by (with_reducible repeat (first | refine blk_drewN ?_ _ | refine blk_drew ?_ | refine blk_alloc ?_ _)); exact BK222.out) hb); have n1_ := Aside0.mk (below_step (by repeat (first | (with_reducible first | exact HB.out | apply below_alloc | apply pw_below_drewN | apply below_drew1 | refine below_set ?_ GE222.out) | exact HB.out)) hb); clear BK222; clear HB; have BK222 := n0_; have HB := n1_; clear n0_ n1_; (try clear hb); (try clear hb2); (try clear hk); (try clear hi)) | (go_at_call 23; (with_reducible refine (gangsawlaw12_answer.calls t239 t240 t256 true _ A48.out).mono ?_); rintro e w' ⟨rfl, ⟨nd, rfl⟩⟩; have hcz57_0 : w56.cell? ⟨gb222, 0, none⟩ = some (.slice A0_0 l0_0.length c0_0) := (blk_cell BK222.out 0).trans rfl; have hcz57_1 : w56.cell? ⟨gb222, 1, none⟩ = some (.slice A0_1 l0_1.length c0_1) := (blk_cell BK222.out 1).trans rfl; have hfz57_0 := blk_frozen BK222.out 0; have hfz57_1 := blk_frozen BK222.out 1) | (go_at_call 26; (with_reducible refine (gangsawref12_Calendar_Whole.calls kj37 _ _ l0_0 _ _ l0_1 a1 a2 t258 _ ?side1 ?side2 ?side3 ?side4 A50.out).mono ?_); (case side1 => repeat (first | exact (Kd.C_below HR0_0.out (by repeat (first | (with_reducible first | exact HB.out | apply below_alloc | apply pw_below_drewN | apply below_drew1 | refine below_set ?_ GE222.out) | exact HB.out))) | (with_reducible refine Kd.C_alloc ?_ _) | (with_reducible refine Kd.C_drewN ?_ _) | (with_reducible refine Kd.C_drew ?_))); (case side2 => exact HC0_0.out); (case side3 => repeat (first | exact (Kd.C_below HR0_1.out (by repeat (first | (with_reducible first | exact HB.out | apply below_alloc | apply pw_below_drewN | apply below_drew1 | refine below_set ?_ GE222.out) | exact HB.out))) | (with_reducible refine Kd.C_alloc ?_ _) | (with_reducible refine Kd.C_drewN ?_ _) | (with_reducible refine Kd.C_drew ?_))); (case side4 => exact HC0_1.out); rintro e w58 ⟨rfl, hb⟩; have n0_ := Aside0.mk (blk_below (g := gb222) (o := .cells #[.slice A0_0 l0_0.length c0_0, .slice A0_1 l0_1.length c0_1] 25 (0, 0)) (by (with_reducible repeat (first | refine blk_drewN ?_ _ | refine blk_drew ?_ | refine blk_alloc ?_ _)); exact BK222.out) hb); have n1_ := Aside0.mk (below_step (by repeat (first | (with_reducible first | exact HB.out | apply below_alloc | apply pw_below_drewN | apply below_drew1 | refine below_set ?_ GE222.out) | exact HB.out)) hb); clear BK222; clear HB; have BK222 := n0_; have HB := n1_; clear n0_ n1_; (try clear hb); (try clear hb2); (try clear hk); (try clear hi)) | (go_at_call 23; (with_reducible refine (gangsawlaw12_answer.calls t247 t248 t258 t259 _ A51.out).mono ?_); rintro e w' ⟨rfl, ⟨nd, rfl⟩⟩))
                      go_meet
                      case rel => exact ⟨_, (t259), (by first | rfl | (simp; done) | (simp [*]; done)), H', ⟨by have := HJ12.out; have := HJ37.out; first | omega | exact Nat.le_refl _⟩, ⟨by (with_reducible repeat (first | refine blk_drewN ?_ _ | refine blk_drew ?_ | refine blk_alloc ?_ _)); exact BK222.out⟩, ⟨by repeat (first | (with_reducible first | exact HB.out | apply below_alloc | apply pw_below_drewN | apply below_drew1 | refine below_set ?_ GE222.out) | exact HB.out)⟩⟩
                    · replace c49 := Bool.eq_false_iff.mpr c49
                      subst c49
                      have H1 : (gangsawlaw12_ShiftMoves.j3 kj37 false) = some r := by rw [if_neg (show ¬ (false = true) by decide)] at H; exact H
                      clear H
                      have H := H1
                      clear H1
                      have H' := Aside0.mk H
                      clear H
                      go_wp2_with (first | ((with_reducible refine gate_callee (f := 12) rfl ?_); refine goesL_ (some 86) rfl rfl Try.func12 (by kernel_rfl) rfl #[] rfl (by (try simp only [List.map_toArray, List.map_cons, List.map_nil]); first | done | rfl | (simp only [List.length_drop, List.length_take]; rfl)) ?_; (with_reducible refine (gangsawlaw12_awake.calls kj37  true _ A42.out).mono ?_); rintro e w59 ⟨rfl, hb⟩; refine ⟨_, rfl, ?_⟩; have n0_ := Aside0.mk (blk_below (g := gb222) (o := .cells #[.slice A0_0 l0_0.length c0_0, .slice A0_1 l0_1.length c0_1] 25 (0, 0)) (by (with_reducible repeat (first | refine blk_drewN ?_ _ | refine blk_drew ?_ | refine blk_alloc ?_ _)); exact BK222.out) hb); have n1_ := Aside0.mk (below_step (by repeat (first | (with_reducible first | exact HB.out | apply below_alloc | apply pw_below_drewN | apply below_drew1 | refine below_set ?_ GE222.out) | exact HB.out)) hb); clear BK222; clear HB; have BK222 := n0_; have HB := n1_; clear n0_ n1_; (try clear hb); (try clear hb2); (try clear hk); (try clear hi); have hcz60_0 : w59.cell? ⟨gb222, 0, none⟩ = some (.slice A0_0 l0_0.length c0_0) := (blk_cell BK222.out 0).trans rfl; have hcz60_1 : w59.cell? ⟨gb222, 1, none⟩ = some (.slice A0_1 l0_1.length c0_1) := (blk_cell BK222.out 1).trans rfl; have hfz60_0 := blk_frozen BK222.out 0; have hfz60_1 := blk_frozen BK222.out 1) | (go_at_call 24; (with_reducible refine (gangsawref12_Calendar_After.calls kj37 _ _ l0_0 _ _ l0_1 a1 a2 t254 _ ?side1 ?side2 ?side3 ?side4 A44.out).mono ?_); (case side1 => repeat (first | exact (Kd.C_below HR0_0.out HB.out) | (with_reducible refine Kd.C_alloc ?_ _) | (with_reducible refine Kd.C_drewN ?_ _) | (with_reducible refine Kd.C_drew ?_))); (case side2 => exact HC0_0.out); (case side3 => repeat (first | exact (Kd.C_below HR0_1.out HB.out) | (with_reducible refine Kd.C_alloc ?_ _) | (with_reducible refine Kd.C_drewN ?_ _) | (with_reducible refine Kd.C_drew ?_))); (case side4 => exact HC0_1.out); rintro e w61 ⟨rfl, hb⟩; have n0_ := Aside0.mk (blk_below (g := gb222) (o := .cells #[.slice A0_0 l0_0.length c0_0, .slice A0_1 l0_1.length c0_1] 25 (0, 0)) (by (with_reducible repeat (first | refine blk_drewN ?_ _ | refine blk_drew ?_ | refine blk_alloc ?_ _)); exact BK222.out) hb); have n1_ := Aside0.mk (below_step (by repeat (first | (with_reducible first | exact HB.out | apply below_alloc | apply pw_below_drewN | apply below_drew1 | refine below_set ?_ GE222.out) | exact HB.out)) hb); clear BK222; clear HB; have BK222 := n0_; have HB := n1_; clear n0_ n1_; (try clear hb); (try clear hb2); (try clear hk); (try clear hi)) | (go_at_call 23; (with_reducible refine (gangsawlaw12_answer.calls t231 t232 t254 true _ A45.out).mono ?_); rintro e w' ⟨rfl, ⟨nd, rfl⟩⟩; have hcz62_0 : w61.cell? ⟨gb222, 0, none⟩ = some (.slice A0_0 l0_0.length c0_0) := (blk_cell BK222.out 0).trans rfl; have hcz62_1 : w61.cell? ⟨gb222, 1, none⟩ = some (.slice A0_1 l0_1.length c0_1) := (blk_cell BK222.out 1).trans rfl; have hfz62_0 := blk_frozen BK222.out 0; have hfz62_1 := blk_frozen BK222.out 1) | (go_at_call 25; (with_reducible refine (gangsawref12_Calendar_Before.calls kj37 _ _ l0_0 _ _ l0_1 a1 a2 t256 _ ?side1 ?side2 ?side3 ?side4 A47.out).mono ?_); (case side1 => repeat (first | exact (Kd.C_below HR0_0.out (by repeat (first | (with_reducible first | exact HB.out | apply below_alloc | apply pw_below_drewN | apply below_drew1 | refine below_set ?_ GE222.out) | exact HB.out))) | (with_reducible refine Kd.C_alloc ?_ _) | (with_reducible refine Kd.C_drewN ?_ _) | (with_reducible refine Kd.C_drew ?_))); (case side2 => exact HC0_0.out); (case side3 => repeat (first | exact (Kd.C_below HR0_1.out (by repeat (first | (with_reducible first | exact HB.out | apply below_alloc | apply pw_below_drewN | apply below_drew1 | refine below_set ?_ GE222.out) | exact HB.out))) | (with_reducible refine Kd.C_alloc ?_ _) | (with_reducible refine Kd.C_drewN ?_ _) | (with_reducible refine Kd.C_drew ?_))); (case side4 => exact HC0_1.out); rintro e w63 ⟨rfl, hb⟩; have n0_ := Aside0.mk (blk_below (g := gb222) (o := .cells #[.slice A0_0 l0_0.length c0_0, .slice A0_1 l0_1.length c0_1] 25 (0, 0)) (by (with_reducible repeat (first | refine blk_drewN ?_ _ | refine blk_drew ?_ | refine blk_alloc ?_ _)); exact BK222.out) hb); have n1_ := Aside0.mk (below_step (by repeat (first | (with_reducible first | exact HB.out | apply below_alloc | apply pw_below_drewN | apply below_drew1 | refine below_set ?_ GE222.out) | exact HB.out)) hb); clear BK222; clear HB; have BK222 := n0_; have HB := n1_; clear n0_ n1_; (try clear hb); (try clear hb2); (try clear hk); (try clear hi)) | (go_at_call 23; (with_reducible refine (gangsawlaw12_answer.calls t239 t240 t256 false _ A48.out).mono ?_); rintro e w' ⟨rfl, ⟨nd, rfl⟩⟩))
                      go_meet
                      case rel => exact ⟨_, (false), (by first | rfl | (simp; done) | (simp [*]; done)), H', ⟨by have := HJ12.out; have := HJ37.out; first | omega | exact Nat.le_refl _⟩, ⟨by (with_reducible repeat (first | refine blk_drewN ?_ _ | refine blk_drew ?_ | refine blk_alloc ?_ _)); exact BK222.out⟩, ⟨by repeat (first | (with_reducible first | exact HB.out | apply below_alloc | apply pw_below_drewN | apply below_drew1 | refine below_set ?_ GE222.out) | exact HB.out)⟩⟩
                  · replace c46 := Bool.eq_false_iff.mpr c46
                    subst c46
                    have H1 : (gangsawlaw12_ShiftMoves.j3 kj37 false) = some r := by rw [if_neg (show ¬ (false = true) by decide)] at H; exact H
                    clear H
                    have H := H1
                    clear H1
                    have H' := Aside0.mk H
                    clear H
                    go_wp2_with (first | ((with_reducible refine gate_callee (f := 12) rfl ?_); refine goesL_ (some 86) rfl rfl Try.func12 (by kernel_rfl) rfl #[] rfl (by (try simp only [List.map_toArray, List.map_cons, List.map_nil]); first | done | rfl | (simp only [List.length_drop, List.length_take]; rfl)) ?_; (with_reducible refine (gangsawlaw12_awake.calls kj37  true _ A42.out).mono ?_); rintro e w64 ⟨rfl, hb⟩; refine ⟨_, rfl, ?_⟩; have n0_ := Aside0.mk (blk_below (g := gb222) (o := .cells #[.slice A0_0 l0_0.length c0_0, .slice A0_1 l0_1.length c0_1] 25 (0, 0)) (by (with_reducible repeat (first | refine blk_drewN ?_ _ | refine blk_drew ?_ | refine blk_alloc ?_ _)); exact BK222.out) hb); have n1_ := Aside0.mk (below_step (by repeat (first | (with_reducible first | exact HB.out | apply below_alloc | apply pw_below_drewN | apply below_drew1 | refine below_set ?_ GE222.out) | exact HB.out)) hb); clear BK222; clear HB; have BK222 := n0_; have HB := n1_; clear n0_ n1_; (try clear hb); (try clear hb2); (try clear hk); (try clear hi); have hcz65_0 : w64.cell? ⟨gb222, 0, none⟩ = some (.slice A0_0 l0_0.length c0_0) := (blk_cell BK222.out 0).trans rfl; have hcz65_1 : w64.cell? ⟨gb222, 1, none⟩ = some (.slice A0_1 l0_1.length c0_1) := (blk_cell BK222.out 1).trans rfl; have hfz65_0 := blk_frozen BK222.out 0; have hfz65_1 := blk_frozen BK222.out 1) | (go_at_call 24; (with_reducible refine (gangsawref12_Calendar_After.calls kj37 _ _ l0_0 _ _ l0_1 a1 a2 t254 _ ?side1 ?side2 ?side3 ?side4 A44.out).mono ?_); (case side1 => repeat (first | exact (Kd.C_below HR0_0.out HB.out) | (with_reducible refine Kd.C_alloc ?_ _) | (with_reducible refine Kd.C_drewN ?_ _) | (with_reducible refine Kd.C_drew ?_))); (case side2 => exact HC0_0.out); (case side3 => repeat (first | exact (Kd.C_below HR0_1.out HB.out) | (with_reducible refine Kd.C_alloc ?_ _) | (with_reducible refine Kd.C_drewN ?_ _) | (with_reducible refine Kd.C_drew ?_))); (case side4 => exact HC0_1.out); rintro e w66 ⟨rfl, hb⟩; have n0_ := Aside0.mk (blk_below (g := gb222) (o := .cells #[.slice A0_0 l0_0.length c0_0, .slice A0_1 l0_1.length c0_1] 25 (0, 0)) (by (with_reducible repeat (first | refine blk_drewN ?_ _ | refine blk_drew ?_ | refine blk_alloc ?_ _)); exact BK222.out) hb); have n1_ := Aside0.mk (below_step (by repeat (first | (with_reducible first | exact HB.out | apply below_alloc | apply pw_below_drewN | apply below_drew1 | refine below_set ?_ GE222.out) | exact HB.out)) hb); clear BK222; clear HB; have BK222 := n0_; have HB := n1_; clear n0_ n1_; (try clear hb); (try clear hb2); (try clear hk); (try clear hi)) | (go_at_call 23; (with_reducible refine (gangsawlaw12_answer.calls t231 t232 t254 false _ A45.out).mono ?_); rintro e w' ⟨rfl, ⟨nd, rfl⟩⟩))
                    go_meet
                    case rel => exact ⟨_, (false), (by first | rfl | (simp; done) | (simp [*]; done)), H', ⟨by have := HJ12.out; have := HJ37.out; first | omega | exact Nat.le_refl _⟩, ⟨by (with_reducible repeat (first | refine blk_drewN ?_ _ | refine blk_drew ?_ | refine blk_alloc ?_ _)); exact BK222.out⟩, ⟨by repeat (first | (with_reducible first | exact HB.out | apply below_alloc | apply pw_below_drewN | apply below_drew1 | refine below_set ?_ GE222.out) | exact HB.out)⟩⟩
                · replace c43 := Bool.eq_false_iff.mpr c43
                  subst c43
                  have H1 : (gangsawlaw12_ShiftMoves.j3 kj37 false) = some r := by rw [if_neg (show ¬ (false = true) by decide)] at H; exact H
                  clear H
                  have H := H1
                  clear H1
                  have H' := Aside0.mk H
                  clear H
                  go_wp2_with (first | ((with_reducible refine gate_callee (f := 12) rfl ?_); refine goesL_ (some 86) rfl rfl Try.func12 (by kernel_rfl) rfl #[] rfl (by (try simp only [List.map_toArray, List.map_cons, List.map_nil]); first | done | rfl | (simp only [List.length_drop, List.length_take]; rfl)) ?_; (with_reducible refine (gangsawlaw12_awake.calls kj37  false _ A42.out).mono ?_); rintro e w67 ⟨rfl, hb⟩; refine ⟨_, rfl, ?_⟩; have n0_ := Aside0.mk (blk_below (g := gb222) (o := .cells #[.slice A0_0 l0_0.length c0_0, .slice A0_1 l0_1.length c0_1] 25 (0, 0)) (by (with_reducible repeat (first | refine blk_drewN ?_ _ | refine blk_drew ?_ | refine blk_alloc ?_ _)); exact BK222.out) hb); have n1_ := Aside0.mk (below_step (by repeat (first | (with_reducible first | exact HB.out | apply below_alloc | apply pw_below_drewN | apply below_drew1 | refine below_set ?_ GE222.out) | exact HB.out)) hb); clear BK222; clear HB; have BK222 := n0_; have HB := n1_; clear n0_ n1_; (try clear hb); (try clear hb2); (try clear hk); (try clear hi)))
                  go_meet
                  case rel => exact ⟨_, (false), (by first | rfl | (simp; done) | (simp [*]; done)), H', ⟨by have := HJ12.out; have := HJ37.out; first | omega | exact Nat.le_refl _⟩, ⟨by (with_reducible repeat (first | refine blk_drewN ?_ _ | refine blk_drew ?_ | refine blk_alloc ?_ _)); exact BK222.out⟩, ⟨by repeat (first | (with_reducible first | exact HB.out | apply below_alloc | apply pw_below_drewN | apply below_drew1 | refine below_set ?_ GE222.out) | exact HB.out)⟩⟩
              case rest =>
                clear HC41
                try clear c1
                try clear c2
                try clear p2
                try clear c3
                try clear c4
                try clear c5
                try clear c11
                try clear c12
                try clear c14
                try clear c16
                try clear c20
                try clear c21
                try clear c22
                try clear c34
                try clear c34b0
                try clear c34b1
                try clear c36
                try clear c39
                try clear c40
                try clear c40b0
                try clear c40b1
                try clear c43
                try clear c46
                try clear c49
                try clear hcz15_0
                try clear hcz15_1
                try clear hcz17_0
                try clear hcz17_1
                try clear hcz22_0
                try clear hcz22_1
                try clear hcz27_0
                try clear hcz27_1
                try clear hcz32_0
                try clear hcz32_1
                try clear hcz53_0
                try clear hcz53_1
                try clear hcz55_0
                try clear hcz55_1
                try clear hcz57_0
                try clear hcz57_1
                try clear hcz60_0
                try clear hcz60_1
                try clear hcz62_0
                try clear hcz62_1
                try clear hcz65_0
                try clear hcz65_1
                try clear hfz15_0
                try clear hfz15_1
                try clear hfz17_0
                try clear hfz17_1
                try clear hfz22_0
                try clear hfz22_1
                try clear hfz27_0
                try clear hfz27_1
                try clear hfz32_0
                try clear hfz32_1
                try clear hfz53_0
                try clear hfz53_1
                try clear hfz55_0
                try clear hfz55_1
                try clear hfz57_0
                try clear hfz57_1
                try clear hfz60_0
                try clear hfz60_1
                try clear hfz62_0
                try clear hfz62_1
                try clear hfz65_0
                try clear hfz65_1
                try clear p2
                obtain ⟨kq, x6_40, rfl, HA, HJ40, BK222, HB⟩ := hcut
                cases kq with
                | zero => exact absurd HA.out (by simp [gangsawlaw12_ShiftMoves.j3])
                | succ kj40 =>
                  have H := HA.out
                  clear HA
                  simp only [gangsawlaw12_ShiftMoves.j3] at H
                  obtain rfl := Option.some.inj H
                  go_wp2
                  go_ret
                  exact ⟨by first | rfl | (simp [errW_none, errW_some] <;> rfl) | (simp [*, errW_none, errW_some] <;> rfl), by repeat (first | (with_reducible first | exact HB.out | apply below_alloc | apply pw_below_drewN | apply below_drew1 | refine below_set ?_ GE222.out) | exact HB.out)⟩
            · rw [if_neg c40] at H
              have c40b0 : (x13_37 == 0) = false := beq_eq_false_iff_ne.mpr c40
              have c40b1 : (x13_37 != 0) = true := bne_iff_ne.mpr c40
              have HC68 := Aside0.mk H
              clear H
              go_upto_region 10 with (fail)
              go_cut [6] (fun v6 wc => ∃ (kq : Nat) (x6_67 : Bool), v6 = .bool x6_67 ∧ Aside0 (gangsawlaw12_ShiftMoves.j2 kq x6_67 = some r) ∧ Aside0 (kq ≤ kj37) ∧ Aside0 (wc.heap[gb222]? = some (.cells #[(.slice A0_0 l0_0.length c0_0), (.slice A0_1 l0_1.length c0_1)] 25 (0, 0))) ∧ Aside0 (Below w.heap.size w wc))
              case first =>
                have H := HC68.out
                clear HC68
                replace H := Option.bind_eq_some_iff.mp H
                obtain ⟨t252, A690, H⟩ := H
                replace H : (if t252 = true then (if t232 = x13_37 then (if t240 = x13_37 then (if t248 = x13_37 then (if t231 = 0 then (if t239 = 0 then (gangsawlaw12_ShiftMoves.j2 kj37 (t247 == 0)) else (gangsawlaw12_ShiftMoves.j2 kj37 false)) else (gangsawlaw12_ShiftMoves.j2 kj37 false)) else (gangsawlaw12_ShiftMoves.j2 kj37 false)) else (gangsawlaw12_ShiftMoves.j2 kj37 false)) else (gangsawlaw12_ShiftMoves.j2 kj37 false)) else (gangsawlaw12_ShiftMoves.j2 kj37 false)) = some r := H
                have A69 := Aside0.mk A690
                clear A690
                by_cases c70 : t252 = true
                · subst c70
                  have H1 : (if t232 = x13_37 then (if t240 = x13_37 then (if t248 = x13_37 then (if t231 = 0 then (if t239 = 0 then (gangsawlaw12_ShiftMoves.j2 kj37 (t247 == 0)) else (gangsawlaw12_ShiftMoves.j2 kj37 false)) else (gangsawlaw12_ShiftMoves.j2 kj37 false)) else (gangsawlaw12_ShiftMoves.j2 kj37 false)) else (gangsawlaw12_ShiftMoves.j2 kj37 false)) else (gangsawlaw12_ShiftMoves.j2 kj37 false)) = some r := by rw [if_pos rfl] at H; exact H
                  clear H
                  have H := H1
                  clear H1
                  by_cases c71 : t232 = x13_37
                  · rw [if_pos c71] at H
                    have c71b0 : (t232 == x13_37) = true := beq_iff_eq.mpr c71
                    have c71b1 : (t232 != x13_37) = false := bne_eq_false_iff_eq.mpr c71
                    clear c71
                    (first | rw [c71b0] | (simp only [i64_w, i32_w]; rw [c71b0]) | skip)
                    by_cases c72 : t240 = x13_37
                    · rw [if_pos c72] at H
                      have c72b0 : (t240 == x13_37) = true := beq_iff_eq.mpr c72
                      have c72b1 : (t240 != x13_37) = false := bne_eq_false_iff_eq.mpr c72
                      clear c72
                      by_cases c73 : t248 = x13_37
                      · rw [if_pos c73] at H
                        have c73b0 : (t248 == x13_37) = true := beq_iff_eq.mpr c73
                        have c73b1 : (t248 != x13_37) = false := bne_eq_false_iff_eq.mpr c73
                        clear c73
                        by_cases c74 : t231 = 0
                        · rw [if_pos c74] at H
                          have c74b0 : (t231 == 0) = true := beq_iff_eq.mpr c74
                          have c74b1 : (t231 != 0) = false := bne_eq_false_iff_eq.mpr c74
                          clear c74
                          by_cases c75 : t239 = 0
                          · rw [if_pos c75] at H
                            have c75b0 : (t239 == 0) = true := beq_iff_eq.mpr c75
                            have c75b1 : (t239 != 0) = false := bne_eq_false_iff_eq.mpr c75
                            clear c75
                            have H' := Aside0.mk H
                            clear H
                            go_wp2_with (first | ((with_reducible refine gate_callee (f := 12) rfl ?_); refine goesL_ (some 58) rfl rfl Try.func12 (by kernel_rfl) rfl #[] rfl (by (try simp only [List.map_toArray, List.map_cons, List.map_nil]); first | done | rfl | (simp only [List.length_drop, List.length_take]; rfl)) ?_; (with_reducible refine (gangsawlaw12_awake.calls kj37  true _ A69.out).mono ?_); rintro e w76 ⟨rfl, hb⟩; refine ⟨_, rfl, ?_⟩; have n0_ := Aside0.mk (blk_below (g := gb222) (o := .cells #[.slice A0_0 l0_0.length c0_0, .slice A0_1 l0_1.length c0_1] 25 (0, 0)) (by (with_reducible repeat (first | refine blk_drewN ?_ _ | refine blk_drew ?_ | refine blk_alloc ?_ _)); exact BK222.out) hb); have n1_ := Aside0.mk (below_step (by repeat (first | (with_reducible first | exact HB.out | apply below_alloc | apply pw_below_drewN | apply below_drew1 | refine below_set ?_ GE222.out) | exact HB.out)) hb); clear BK222; clear HB; have BK222 := n0_; have HB := n1_; clear n0_ n1_; (try clear hb); (try clear hb2); (try clear hk); (try clear hi)))
                            go_meet
                            case rel => exact ⟨_, ((t247 == 0)), (by first | rfl | (simp; done) | (simp [*]; done)), H', ⟨by have := HJ12.out; have := HJ37.out; first | omega | exact Nat.le_refl _⟩, ⟨by (with_reducible repeat (first | refine blk_drewN ?_ _ | refine blk_drew ?_ | refine blk_alloc ?_ _)); exact BK222.out⟩, ⟨by repeat (first | (with_reducible first | exact HB.out | apply below_alloc | apply pw_below_drewN | apply below_drew1 | refine below_set ?_ GE222.out) | exact HB.out)⟩⟩
                          · rw [if_neg c75] at H
                            have c75b0 : (t239 == 0) = false := beq_eq_false_iff_ne.mpr c75
                            have c75b1 : (t239 != 0) = true := bne_iff_ne.mpr c75
                            have H' := Aside0.mk H
                            clear H
                            go_wp2_with (first | ((with_reducible refine gate_callee (f := 12) rfl ?_); refine goesL_ (some 58) rfl rfl Try.func12 (by kernel_rfl) rfl #[] rfl (by (try simp only [List.map_toArray, List.map_cons, List.map_nil]); first | done | rfl | (simp only [List.length_drop, List.length_take]; rfl)) ?_; (with_reducible refine (gangsawlaw12_awake.calls kj37  true _ A69.out).mono ?_); rintro e w77 ⟨rfl, hb⟩; refine ⟨_, rfl, ?_⟩; have n0_ := Aside0.mk (blk_below (g := gb222) (o := .cells #[.slice A0_0 l0_0.length c0_0, .slice A0_1 l0_1.length c0_1] 25 (0, 0)) (by (with_reducible repeat (first | refine blk_drewN ?_ _ | refine blk_drew ?_ | refine blk_alloc ?_ _)); exact BK222.out) hb); have n1_ := Aside0.mk (below_step (by repeat (first | (with_reducible first | exact HB.out | apply below_alloc | apply pw_below_drewN | apply below_drew1 | refine below_set ?_ GE222.out) | exact HB.out)) hb); clear BK222; clear HB; have BK222 := n0_; have HB := n1_; clear n0_ n1_; (try clear hb); (try clear hb2); (try clear hk); (try clear hi)))
                            go_meet
                            case rel => exact ⟨_, (false), (by first | rfl | (simp; done) | (simp [*]; done)), H', ⟨by have := HJ12.out; have := HJ37.out; first | omega | exact Nat.le_refl _⟩, ⟨by (with_reducible repeat (first | refine blk_drewN ?_ _ | refine blk_drew ?_ | refine blk_alloc ?_ _)); exact BK222.out⟩, ⟨by repeat (first | (with_reducible first | exact HB.out | apply below_alloc | apply pw_below_drewN | apply below_drew1 | refine below_set ?_ GE222.out) | exact HB.out)⟩⟩
                        · rw [if_neg c74] at H
                          have c74b0 : (t231 == 0) = false := beq_eq_false_iff_ne.mpr c74
                          have c74b1 : (t231 != 0) = true := bne_iff_ne.mpr c74
                          have H' := Aside0.mk H
                          clear H
                          go_wp2_with (first | ((with_reducible refine gate_callee (f := 12) rfl ?_); refine goesL_ (some 58) rfl rfl Try.func12 (by kernel_rfl) rfl #[] rfl (by (try simp only [List.map_toArray, List.map_cons, List.map_nil]); first | done | rfl | (simp only [List.length_drop, List.length_take]; rfl)) ?_; (with_reducible refine (gangsawlaw12_awake.calls kj37  true _ A69.out).mono ?_); rintro e w78 ⟨rfl, hb⟩; refine ⟨_, rfl, ?_⟩; have n0_ := Aside0.mk (blk_below (g := gb222) (o := .cells #[.slice A0_0 l0_0.length c0_0, .slice A0_1 l0_1.length c0_1] 25 (0, 0)) (by (with_reducible repeat (first | refine blk_drewN ?_ _ | refine blk_drew ?_ | refine blk_alloc ?_ _)); exact BK222.out) hb); have n1_ := Aside0.mk (below_step (by repeat (first | (with_reducible first | exact HB.out | apply below_alloc | apply pw_below_drewN | apply below_drew1 | refine below_set ?_ GE222.out) | exact HB.out)) hb); clear BK222; clear HB; have BK222 := n0_; have HB := n1_; clear n0_ n1_; (try clear hb); (try clear hb2); (try clear hk); (try clear hi)))
                          go_meet
                          case rel => exact ⟨_, (false), (by first | rfl | (simp; done) | (simp [*]; done)), H', ⟨by have := HJ12.out; have := HJ37.out; first | omega | exact Nat.le_refl _⟩, ⟨by (with_reducible repeat (first | refine blk_drewN ?_ _ | refine blk_drew ?_ | refine blk_alloc ?_ _)); exact BK222.out⟩, ⟨by repeat (first | (with_reducible first | exact HB.out | apply below_alloc | apply pw_below_drewN | apply below_drew1 | refine below_set ?_ GE222.out) | exact HB.out)⟩⟩
                      · rw [if_neg c73] at H
                        have c73b0 : (t248 == x13_37) = false := beq_eq_false_iff_ne.mpr c73
                        have c73b1 : (t248 != x13_37) = true := bne_iff_ne.mpr c73
                        have H' := Aside0.mk H
                        clear H
                        go_wp2_with (first | ((with_reducible refine gate_callee (f := 12) rfl ?_); refine goesL_ (some 58) rfl rfl Try.func12 (by kernel_rfl) rfl #[] rfl (by (try simp only [List.map_toArray, List.map_cons, List.map_nil]); first | done | rfl | (simp only [List.length_drop, List.length_take]; rfl)) ?_; (with_reducible refine (gangsawlaw12_awake.calls kj37  true _ A69.out).mono ?_); rintro e w79 ⟨rfl, hb⟩; refine ⟨_, rfl, ?_⟩; have n0_ := Aside0.mk (blk_below (g := gb222) (o := .cells #[.slice A0_0 l0_0.length c0_0, .slice A0_1 l0_1.length c0_1] 25 (0, 0)) (by (with_reducible repeat (first | refine blk_drewN ?_ _ | refine blk_drew ?_ | refine blk_alloc ?_ _)); exact BK222.out) hb); have n1_ := Aside0.mk (below_step (by repeat (first | (with_reducible first | exact HB.out | apply below_alloc | apply pw_below_drewN | apply below_drew1 | refine below_set ?_ GE222.out) | exact HB.out)) hb); clear BK222; clear HB; have BK222 := n0_; have HB := n1_; clear n0_ n1_; (try clear hb); (try clear hb2); (try clear hk); (try clear hi)))
                        go_meet
                        case rel => exact ⟨_, (false), (by first | rfl | (simp; done) | (simp [*]; done)), H', ⟨by have := HJ12.out; have := HJ37.out; first | omega | exact Nat.le_refl _⟩, ⟨by (with_reducible repeat (first | refine blk_drewN ?_ _ | refine blk_drew ?_ | refine blk_alloc ?_ _)); exact BK222.out⟩, ⟨by repeat (first | (with_reducible first | exact HB.out | apply below_alloc | apply pw_below_drewN | apply below_drew1 | refine below_set ?_ GE222.out) | exact HB.out)⟩⟩
                    · rw [if_neg c72] at H
                      have c72b0 : (t240 == x13_37) = false := beq_eq_false_iff_ne.mpr c72
                      have c72b1 : (t240 != x13_37) = true := bne_iff_ne.mpr c72
                      have H' := Aside0.mk H
                      clear H
                      go_wp2_with (first | ((with_reducible refine gate_callee (f := 12) rfl ?_); refine goesL_ (some 58) rfl rfl Try.func12 (by kernel_rfl) rfl #[] rfl (by (try simp only [List.map_toArray, List.map_cons, List.map_nil]); first | done | rfl | (simp only [List.length_drop, List.length_take]; rfl)) ?_; (with_reducible refine (gangsawlaw12_awake.calls kj37  true _ A69.out).mono ?_); rintro e w80 ⟨rfl, hb⟩; refine ⟨_, rfl, ?_⟩; have n0_ := Aside0.mk (blk_below (g := gb222) (o := .cells #[.slice A0_0 l0_0.length c0_0, .slice A0_1 l0_1.length c0_1] 25 (0, 0)) (by (with_reducible repeat (first | refine blk_drewN ?_ _ | refine blk_drew ?_ | refine blk_alloc ?_ _)); exact BK222.out) hb); have n1_ := Aside0.mk (below_step (by repeat (first | (with_reducible first | exact HB.out | apply below_alloc | apply pw_below_drewN | apply below_drew1 | refine below_set ?_ GE222.out) | exact HB.out)) hb); clear BK222; clear HB; have BK222 := n0_; have HB := n1_; clear n0_ n1_; (try clear hb); (try clear hb2); (try clear hk); (try clear hi)))
                      go_meet
                      case rel => exact ⟨_, (false), (by first | rfl | (simp; done) | (simp [*]; done)), H', ⟨by have := HJ12.out; have := HJ37.out; first | omega | exact Nat.le_refl _⟩, ⟨by (with_reducible repeat (first | refine blk_drewN ?_ _ | refine blk_drew ?_ | refine blk_alloc ?_ _)); exact BK222.out⟩, ⟨by repeat (first | (with_reducible first | exact HB.out | apply below_alloc | apply pw_below_drewN | apply below_drew1 | refine below_set ?_ GE222.out) | exact HB.out)⟩⟩
                  · rw [if_neg c71] at H
                    have c71b0 : (t232 == x13_37) = false := beq_eq_false_iff_ne.mpr c71
                    have c71b1 : (t232 != x13_37) = true := bne_iff_ne.mpr c71
                    (first | rw [c71b0] | (simp only [i64_w, i32_w]; rw [c71b0]) | skip)
                    have H' := Aside0.mk H
                    clear H
                    go_wp2_with (first | ((with_reducible refine gate_callee (f := 12) rfl ?_); refine goesL_ (some 58) rfl rfl Try.func12 (by kernel_rfl) rfl #[] rfl (by (try simp only [List.map_toArray, List.map_cons, List.map_nil]); first | done | rfl | (simp only [List.length_drop, List.length_take]; rfl)) ?_; (with_reducible refine (gangsawlaw12_awake.calls kj37  true _ A69.out).mono ?_); rintro e w81 ⟨rfl, hb⟩; refine ⟨_, rfl, ?_⟩; have n0_ := Aside0.mk (blk_below (g := gb222) (o := .cells #[.slice A0_0 l0_0.length c0_0, .slice A0_1 l0_1.length c0_1] 25 (0, 0)) (by (with_reducible repeat (first | refine blk_drewN ?_ _ | refine blk_drew ?_ | refine blk_alloc ?_ _)); exact BK222.out) hb); have n1_ := Aside0.mk (below_step (by repeat (first | (with_reducible first | exact HB.out | apply below_alloc | apply pw_below_drewN | apply below_drew1 | refine below_set ?_ GE222.out) | exact HB.out)) hb); clear BK222; clear HB; have BK222 := n0_; have HB := n1_; clear n0_ n1_; (try clear hb); (try clear hb2); (try clear hk); (try clear hi)))
                    go_meet
                    case rel => exact ⟨_, (false), (by first | rfl | (simp; done) | (simp [*]; done)), H', ⟨by have := HJ12.out; have := HJ37.out; first | omega | exact Nat.le_refl _⟩, ⟨by (with_reducible repeat (first | refine blk_drewN ?_ _ | refine blk_drew ?_ | refine blk_alloc ?_ _)); exact BK222.out⟩, ⟨by repeat (first | (with_reducible first | exact HB.out | apply below_alloc | apply pw_below_drewN | apply below_drew1 | refine below_set ?_ GE222.out) | exact HB.out)⟩⟩
                · replace c70 := Bool.eq_false_iff.mpr c70
                  subst c70
                  have H1 : (gangsawlaw12_ShiftMoves.j2 kj37 false) = some r := by rw [if_neg (show ¬ (false = true) by decide)] at H; exact H
                  clear H
                  have H := H1
                  clear H1
                  have H' := Aside0.mk H
                  clear H
                  go_wp2_with (first | ((with_reducible refine gate_callee (f := 12) rfl ?_); refine goesL_ (some 58) rfl rfl Try.func12 (by kernel_rfl) rfl #[] rfl (by (try simp only [List.map_toArray, List.map_cons, List.map_nil]); first | done | rfl | (simp only [List.length_drop, List.length_take]; rfl)) ?_; (with_reducible refine (gangsawlaw12_awake.calls kj37  false _ A69.out).mono ?_); rintro e w82 ⟨rfl, hb⟩; refine ⟨_, rfl, ?_⟩; have n0_ := Aside0.mk (blk_below (g := gb222) (o := .cells #[.slice A0_0 l0_0.length c0_0, .slice A0_1 l0_1.length c0_1] 25 (0, 0)) (by (with_reducible repeat (first | refine blk_drewN ?_ _ | refine blk_drew ?_ | refine blk_alloc ?_ _)); exact BK222.out) hb); have n1_ := Aside0.mk (below_step (by repeat (first | (with_reducible first | exact HB.out | apply below_alloc | apply pw_below_drewN | apply below_drew1 | refine below_set ?_ GE222.out) | exact HB.out)) hb); clear BK222; clear HB; have BK222 := n0_; have HB := n1_; clear n0_ n1_; (try clear hb); (try clear hb2); (try clear hk); (try clear hi)))
                  go_meet
                  case rel => exact ⟨_, (false), (by first | rfl | (simp; done) | (simp [*]; done)), H', ⟨by have := HJ12.out; have := HJ37.out; first | omega | exact Nat.le_refl _⟩, ⟨by (with_reducible repeat (first | refine blk_drewN ?_ _ | refine blk_drew ?_ | refine blk_alloc ?_ _)); exact BK222.out⟩, ⟨by repeat (first | (with_reducible first | exact HB.out | apply below_alloc | apply pw_below_drewN | apply below_drew1 | refine below_set ?_ GE222.out) | exact HB.out)⟩⟩
              case rest =>
                clear HC68
                try clear c1
                try clear c2
                try clear p2
                try clear c3
                try clear c4
                try clear c5
                try clear c7
                try clear c11
                try clear c12
                try clear c14
                try clear c16
                try clear c20
                try clear c21
                try clear c22
                try clear c34
                try clear c34b0
                try clear c34b1
                try clear c36
                try clear c39
                try clear c40
                try clear c40b0
                try clear c40b1
                try clear c43
                try clear c46
                try clear c49
                try clear c70
                try clear c71
                try clear c71b0
                try clear c71b1
                try clear c72
                try clear c72b0
                try clear c72b1
                try clear c73
                try clear c73b0
                try clear c73b1
                try clear c74
                try clear c74b0
                try clear c74b1
                try clear c75
                try clear c75b0
                try clear c75b1
                try clear hcz15_0
                try clear hcz15_1
                try clear hcz17_0
                try clear hcz17_1
                try clear hcz22_0
                try clear hcz22_1
                try clear hcz27_0
                try clear hcz27_1
                try clear hcz32_0
                try clear hcz32_1
                try clear hcz53_0
                try clear hcz53_1
                try clear hcz55_0
                try clear hcz55_1
                try clear hcz57_0
                try clear hcz57_1
                try clear hcz60_0
                try clear hcz60_1
                try clear hcz62_0
                try clear hcz62_1
                try clear hcz65_0
                try clear hcz65_1
                try clear hfz15_0
                try clear hfz15_1
                try clear hfz17_0
                try clear hfz17_1
                try clear hfz22_0
                try clear hfz22_1
                try clear hfz27_0
                try clear hfz27_1
                try clear hfz32_0
                try clear hfz32_1
                try clear hfz53_0
                try clear hfz53_1
                try clear hfz55_0
                try clear hfz55_1
                try clear hfz57_0
                try clear hfz57_1
                try clear hfz60_0
                try clear hfz60_1
                try clear hfz62_0
                try clear hfz62_1
                try clear hfz65_0
                try clear hfz65_1
                try clear p2
                obtain ⟨kq, x6_67, rfl, HA, HJ67, BK222, HB⟩ := hcut
                cases kq with
                | zero => exact absurd HA.out (by simp [gangsawlaw12_ShiftMoves.j2])
                | succ kj67 =>
                  have H := HA.out
                  clear HA
                  simp only [gangsawlaw12_ShiftMoves.j2] at H
                  obtain rfl := Option.some.inj H
                  go_wp2
                  go_ret
                  exact ⟨by first | rfl | (simp [errW_none, errW_some] <;> rfl) | (simp [*, errW_none, errW_some] <;> rfl), by repeat (first | (with_reducible first | exact HB.out | apply below_alloc | apply pw_below_drewN | apply below_drew1 | refine below_set ?_ GE222.out) | exact HB.out)⟩
  · replace c5 := Bool.eq_false_iff.mpr c5
    subst c5
    have H1 : ((gangsawlaw12_awake.f k).bind fun t224 => (some t224)) = some r := by rw [if_neg (show ¬ (false = true) by decide)] at H; exact H
    clear H
    have H := H1
    clear H1
    replace H := Option.bind_eq_some_iff.mp H
    obtain ⟨t224, A830, H⟩ := H
    replace H : (some t224) = some r := H
    have A83 := Aside0.mk A830
    clear A830
    obtain rfl := Option.some.inj H
    go_enter Try.func4, Try.ntmps4
    go_wp2_with (first | ((with_reducible refine gate_dst (N := 3) rfl ?_); refine box_event ?hg (N := 3) ?hd (cs := #[.slice A0_0 l0_0.length c0_0, .slice A0_1 l0_1.length c0_1]) (t := 25) ?hr ?_; (case hd => rfl); (case hg => rfl); (case hr => first | (go_simp; done) | (go_simp; rfl)); intro gb222 hg w84 hbox hb; have n0_ := Aside0.mk (below_step (by repeat (first | (with_reducible first | exact HB.out | apply below_alloc | apply pw_below_drewN | apply below_drew1) | exact HB.out)) hb); have n1_ := Aside0.mk (hbox); have n2_ := Aside0.mk ((by rw [hg]; exact (below_size (by repeat (first | (with_reducible first | exact HB.out | apply below_alloc | apply pw_below_drewN | apply below_drew1) | exact HB.out))) : w.heap.size ≤ gb222)); have n3_ := Aside0.mk ((by rw [hg]; exact (below_size (by repeat (first | (with_reducible first | exact HB.out | apply below_alloc | apply pw_below_drewN | apply below_drew1) | exact HB.out))) : w.heap.size ≤ gb222)); clear HB; have HB := n0_; have BK222 := n1_; have GW222 := n2_; have GE222 := n3_; clear n0_ n1_ n2_ n3_; clear hb hbox hg; have hcz85_0 : w84.cell? ⟨gb222, 0, none⟩ = some (.slice A0_0 l0_0.length c0_0) := (blk_cell BK222.out 0).trans rfl; have hcz85_1 : w84.cell? ⟨gb222, 1, none⟩ = some (.slice A0_1 l0_1.length c0_1) := (blk_cell BK222.out 1).trans rfl; have hfz85_0 := blk_frozen BK222.out 0; have hfz85_1 := blk_frozen BK222.out 1) | ((with_reducible refine gate_callee (f := 11) rfl ?_); refine goesL_ (some 15) rfl rfl Try.func11 (by kernel_rfl) rfl #[.agg #[.slice A0_0 l0_0.length c0_0, .slice A0_1 l0_1.length c0_1]] rfl (by (try simp only [List.map_toArray, List.map_cons, List.map_nil]); first | done | rfl | (simp only [List.length_drop, List.length_take]; rfl)) ?_; (with_reducible refine (gangsawlaw12_few.calls _ _ l0_0 _ _ l0_1 false _ ?side1 ?side2 ?side3 ?side4 A4.out).mono ?_); (case side1 => repeat (first | exact (Kd.C_below HR0_0.out HB.out) | (with_reducible refine Kd.C_alloc ?_ _) | (with_reducible refine Kd.C_drewN ?_ _) | (with_reducible refine Kd.C_drew ?_))); (case side2 => exact HC0_0.out); (case side3 => repeat (first | exact (Kd.C_below HR0_1.out HB.out) | (with_reducible refine Kd.C_alloc ?_ _) | (with_reducible refine Kd.C_drewN ?_ _) | (with_reducible refine Kd.C_drew ?_))); (case side4 => exact HC0_1.out); rintro e w86 ⟨rfl, hb⟩; refine ⟨_, rfl, ?_⟩; have n0_ := Aside0.mk (blk_below (g := gb222) (o := .cells #[.slice A0_0 l0_0.length c0_0, .slice A0_1 l0_1.length c0_1] 25 (0, 0)) (by (with_reducible repeat (first | refine blk_drewN ?_ _ | refine blk_drew ?_ | refine blk_alloc ?_ _)); exact BK222.out) hb); have n1_ := Aside0.mk (below_step (by repeat (first | (with_reducible first | exact HB.out | apply below_alloc | apply pw_below_drewN | apply below_drew1 | refine below_set ?_ GE222.out) | exact HB.out)) hb); clear BK222; clear HB; have BK222 := n0_; have HB := n1_; clear n0_ n1_; (try clear hb); (try clear hb2); (try clear hk); (try clear hi)) | ((with_reducible refine gate_callee (f := 12) rfl ?_); refine goesL_ (some 17) rfl rfl Try.func12 (by kernel_rfl) rfl #[] rfl (by (try simp only [List.map_toArray, List.map_cons, List.map_nil]); first | done | rfl | (simp only [List.length_drop, List.length_take]; rfl)) ?_; (with_reducible refine (gangsawlaw12_awake.calls k  t224 _ A83.out).mono ?_); rintro e w87 ⟨rfl, hb⟩; refine ⟨_, rfl, ?_⟩; have n0_ := Aside0.mk (blk_below (g := gb222) (o := .cells #[.slice A0_0 l0_0.length c0_0, .slice A0_1 l0_1.length c0_1] 25 (0, 0)) (by (with_reducible repeat (first | refine blk_drewN ?_ _ | refine blk_drew ?_ | refine blk_alloc ?_ _)); exact BK222.out) hb); have n1_ := Aside0.mk (below_step (by repeat (first | (with_reducible first | exact HB.out | apply below_alloc | apply pw_below_drewN | apply below_drew1 | refine below_set ?_ GE222.out) | exact HB.out)) hb); clear BK222; clear HB; have BK222 := n0_; have HB := n1_; clear n0_ n1_; (try clear hb); (try clear hb2); (try clear hk); (try clear hi)))
    go_ret
    exact ⟨by first | rfl | (simp [errW_none, errW_some] <;> rfl) | (simp [*, errW_none, errW_some] <;> rfl), by repeat (first | (with_reducible first | exact HB.out | apply below_alloc | apply pw_below_drewN | apply below_drew1 | refine below_set ?_ GE222.out) | exact HB.out)⟩

/-- THE ONE PURE STATEMENT of gangsawlaw12_ShiftMoves. -/
def gangsawlaw12_ShiftMoves.Pure : Prop := ∀ (l0_0 : List (S54)) (l0_1 : List Int) (a1 : Int) (a2 : Int), (l0_0.length ≤ maxLen ∧ ∀ e3_, e3_ ∈ l0_0 → okS54 e3_) → (l0_1.length ≤ maxLen ∧ ∀ e4_, e4_ ∈ l0_1 → (Lit.int .i64 e4_).wf = true) → ((Lit.int .i64 a1).wf = true) → ((Lit.int .i64 a2).wf = true) → ∃ k, gangsawlaw12_ShiftMoves.f k l0_0 l0_1 a1 a2 = some true
theorem gangsawlaw12_ShiftMoves.walk (P_ : gangsawlaw12_ShiftMoves.Pure) (A0_0 : Option Addr) (c0_0 : Nat) (l0_0 : List (S54)) (A0_1 : Option Addr) (c0_1 : Nat) (l0_1 : List Int) (a1 : Int) (a2 : Int) (w : World) (hr0_0 : Kd.C k54 w A0_0 l0_0.length l0_0) (hc0_0 : l0_0.length ≤ c0_0) (hr0_1 : Kd.C (Kd.int .i64) w A0_1 l0_1.length l0_1) (hc0_1 : l0_1.length ≤ c0_1) (o0 : (l0_0.length ≤ maxLen ∧ ∀ e3_, e3_ ∈ l0_0 → okS54 e3_)) (o1 : (l0_1.length ≤ maxLen ∧ ∀ e4_, e4_ ∈ l0_1 → (Lit.int .i64 e4_).wf = true)) (o2 : ((Lit.int .i64 a1).wf = true)) (o3 : ((Lit.int .i64 a2).wf = true)) :
    Calls Try.prog 4 #[.agg #[.slice A0_0 l0_0.length c0_0, .slice A0_1 l0_1.length c0_1], .int .i64 a1, .int .i64 a2] w fun e w' => e = .returned (.bool true) ∧ Below w.heap.size w w' := by
  obtain ⟨k, h⟩ := P_ l0_0 l0_1 a1 a2 o0 o1 o2 o3
  refine (gangsawlaw12_ShiftMoves.calls k A0_0 c0_0 l0_0 A0_1 c0_1 l0_1 a1 a2 true w hr0_0 hc0_0 hr0_1 hc0_1 h).mono ?_
  rintro e w' ⟨rfl, hd⟩
  exact ⟨rfl, hd⟩

end Go.Proofs.Ytpjgmlnnhcnelaa.QA
