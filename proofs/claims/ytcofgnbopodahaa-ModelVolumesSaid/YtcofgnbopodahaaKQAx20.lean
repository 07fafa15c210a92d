import Derived.Test.YtcofgnbopodahaaKQAx0
import Derived.Test.YtcofgnbopodahaaKQAx6
import Derived.Test.YtcofgnbopodahaaKQAx7
import Derived.Test.YtcofgnbopodahaaKQAx8
import Derived.Test.YtcofgnbopodahaaKEvKit
import Derived.Test.YtcofgnbopodahaaKMapKit
import Derived.Test.YtcofgnbopodahaaKMapS
import Derived.Test.YtcofgnbopodahaaKRegInv
import Derived.Carry
import Derived.Deep.RegionHeld3
import Derived.Deep.RegionLaw
import Derived.IntWalk
import Derived.Lib.SlicesCompact
import Derived.LoopN
import Derived.RegionTactic
import Derived.StillTailTactics
import Derived.WalkSpells
namespace Go.Proofs.Ytcofgnbopodahaa.QA
open Go.RowKit Go.Proofs.YtcofgnbopodahaaW.PrintWords Go.Proofs.YtcofgnbopodahaaW.PrintLast Go.Proofs.YtcofgnbopodahaaW.PrintMore
open Go.Proofs.YtcofgnbopodahaaW.PrintWords renaming blk_below → bb
open Aside0 renaming mk → am
attribute [local go_sem] max2_int min2_int max_two min_two max_three min_three max_four min_four
set_option linter.unusedVariables false
set_option linter.unusedSimpArgs false

section
open Go.Proofs.Ytcofgnbopodahaa.EvKit Go.Proofs.Ytcofgnbopodahaa.MapKit
attribute [local go_sem] max2_int min2_int max_two min_two Oper.semAt_some
set_option linter.unusedVariables false
set_option linter.unusedSimpArgs false
structure AllI (w : World) (g5 g9 : Nat) (n : Int) (s : Bool) (W : World) : Prop where
 b : Below w.heap.size w W
 n5 : W.heap[g5]? = some (.cells #[.int .i64 n] 3 (0, 0))
 n9 : W.heap[g9]? = some (.cells #[.bool s] 4 (0, 0))
theorem AllI.keep {w W W' : World} {g5 g9 : Nat} {n : Int} {s : Bool} (h : AllI w g5 g9 n s W) (hb : Below W.heap.size W W') : AllI w g5 g9 n s W' := ⟨below_step h.b hb, bb h.n5 hb, bb h.n9 hb⟩
def allStep (n : Int) (s : Bool) (p : S43) (m : Int) : Option (Bool × Bool) := some (s && (m == n), s && (m == n))
set_option maxHeartbeats 2000000 in
theorem clo55 (w : World) (g5 g9 B : Nat) (n : Int) (s : Bool) (W : World) (p : S43) (m : Int) (r : Bool × Bool) (h59 : g5 ≠ g9) (h9 : w.heap.size ≤ g9) (hB : g9 < B) (hI : AllI w g5 g9 n s W) (h : allStep n s p m = some r) :
  Calls Try.prog 55 (#[.agg #[.int .i64 p.f0.f0, .int .i64 p.f0.f1, .int .i64 p.f0.f2, .int .i64 p.f1.f0, .int .i64 p.f1.f1, .int .i64 p.f1.f2], .int .i64 m] ++ #[.pointer (some ⟨g9, 0, none⟩), .pointer (some ⟨g5, 0, none⟩)]) W fun e W' => e = .returned (.bool r.2) ∧ AllI w g5 g9 n r.1 W' ∧ Rest B W W' := by
 have hu43 := Try.underlying43
 have HI := am hI
 have c5 := (blk_cell (blk_alloc hI.n5 (.cells #[.int .i64 p.f0.f0, .int .i64 p.f0.f1, .int .i64 p.f0.f2, .int .i64 p.f1.f0, .int .i64 p.f1.f1, .int .i64 p.f1.f2] 43)) 0).trans rfl
 have c9 := (blk_cell (blk_alloc hI.n9 (.cells #[.int .i64 p.f0.f0, .int .i64 p.f0.f1, .int .i64 p.f0.f2, .int .i64 p.f1.f0, .int .i64 p.f1.f1, .int .i64 p.f1.f2] 43)) 0).trans rfl
 have f9 := blk_frozen (blk_alloc hI.n9 (.cells #[.int .i64 p.f0.f0, .int .i64 p.f0.f1, .int .i64 p.f0.f2, .int .i64 p.f1.f0, .int .i64 p.f1.f1, .int .i64 p.f1.f2] 43)) 0
 have HB1 := am (below_alloc (Below.refl W.heap.size W) (.cells #[.int .i64 p.f0.f0, .int .i64 p.f0.f1, .int .i64 p.f0.f2, .int .i64 p.f1.f0, .int .i64 p.f1.f1, .int .i64 p.f1.f2] 43))
 have H59 := am h59
 have H9 := am h9
 have HLB := am hB
 clear hI h59 h9 hB
 show Calls Try.prog 55 #[.agg #[.int .i64 p.f0.f0, .int .i64 p.f0.f1, .int .i64 p.f0.f2, .int .i64 p.f1.f0, .int .i64 p.f1.f1, .int .i64 p.f1.f2], .int .i64 m, .pointer (some ⟨g9, 0, none⟩), .pointer (some ⟨g5, 0, none⟩)] W _
 obtain rfl := Option.some.inj h
 clear h
 cases s with
 | true =>
  simp only [Bool.true_and]
  cases hmn : (m == n) with
  | true =>
   go_enter Try.func55, Try.ntmps55
   go_wp2
   go_ret
   refine ⟨rfl, ⟨below_set (below_step HI.out.b HB1.out) H9.out, blk_far (bb HI.out.n5 HB1.out) H59.out _, ?_⟩, rest_set HB1.out HLB.out⟩
   exact blk_put (bb HI.out.n9 HB1.out) 0 _ rfl
  | false =>
   go_enter Try.func55, Try.ntmps55
   go_wp2
   go_ret
   refine ⟨rfl, ⟨below_set (below_step HI.out.b HB1.out) H9.out, blk_far (bb HI.out.n5 HB1.out) H59.out _, ?_⟩, rest_set HB1.out HLB.out⟩
   exact blk_put (bb HI.out.n9 HB1.out) 0 _ rfl
 | false =>
  simp only [Bool.false_and]
  go_enter Try.func55, Try.ntmps55
  go_wp2
  go_ret
  refine ⟨rfl, ⟨below_set (below_step HI.out.b HB1.out) H9.out, blk_far (bb HI.out.n5 HB1.out) H59.out _, ?_⟩, rest_set HB1.out HLB.out⟩
  exact blk_put (bb HI.out.n9 HB1.out) 0 _ rfl
def model_All.f (k : Nat) (l0 : List S68) (a1_0 a1_1 a1_2 a1_3 a1_4 a1_5 a2 : Int) : Option (Bool × Int) :=
 (model_ready.f k l0 a1_0 a1_1 a1_2 a1_3 a1_4 a1_5 a2).bind fun e => if e = 0 then (if l0.length < 1000000 then (eachF (fun l p => model_at.f k l p.f0.f0 p.f0.f1 p.f0.f2) (allStep a2) l0 ⟨⟨a1_0, a1_1, a1_2⟩, ⟨a1_3, a1_4, a1_5⟩⟩ true).bind fun s => some (s, 0) else none) else some (false, e)
set_option maxHeartbeats 4000000 in
theorem model_All.calls (k : Nat) (A0 : Option Addr) (c0 : Nat) (l0 : List S68) (a1_0 a1_1 a1_2 a1_3 a1_4 a1_5 a2 : Int) (r1 : Bool) (r2 : Int) (w : World) (hr0 : Kd.C k68 w A0 l0.length l0) (hc0 : l0.length ≤ c0) (h : model_All.f k l0 a1_0 a1_1 a1_2 a1_3 a1_4 a1_5 a2 = some (r1, r2)) :
  Calls Try.prog 23 #[.slice A0 l0.length c0, .agg #[.int .i64 a1_0, .int .i64 a1_1, .int .i64 a1_2, .int .i64 a1_3, .int .i64 a1_4, .int .i64 a1_5], .int .i64 a2] w fun e w' => e = .returned (.tuple #[.bool r1, .int .i64 r2]) ∧ Below w.heap.size w w' := by
 have hu43 := Try.underlying43
 obtain ⟨e, he, hh⟩ := Option.bind_eq_some_iff.1 h
 replace h := hh
 clear hh
 obtain ⟨W2, hW2⟩ : ∃ W2, W2 = (w.alloc (.cells #[.int .i64 a1_0, .int .i64 a1_1, .int .i64 a1_2, .int .i64 a1_3, .int .i64 a1_4, .int .i64 a1_5] 43)).alloc (.cells #[.int .i64 a2] 3) := ⟨_, rfl⟩
 have hb2 : Below w.heap.size w W2 := by rw [hW2]; exact below_alloc (below_alloc (Below.refl _ _) _) _
 have b4 : W2.heap[w.heap.size]? = some (.cells #[.int .i64 a1_0, .int .i64 a1_1, .int .i64 a1_2, .int .i64 a1_3, .int .i64 a1_4, .int .i64 a1_5] 43 (0, 0)) := by rw [hW2]; exact blk_alloc (blk_new w _) _
 have b5 : W2.heap[w.heap.size + 1]? = some (.cells #[.int .i64 a2] 3 (0, 0)) := by
  rw [hW2]; have h := blk_new (w.alloc (.cells #[.int .i64 a1_0, .int .i64 a1_1, .int .i64 a1_2, .int .i64 a1_3, .int .i64 a1_4, .int .i64 a1_5] 43)) (.cells #[.int .i64 a2] 3); rw [World.size_alloc] at h; exact h
 have HB2 := am hb2
 have H4 := am b4
 have H5 := am b5
 have HW := am hW2
 have HR := am hr0
 have HE := am he
 clear hb2 b4 b5 hW2 hr0 he
 by_cases he0 : e = 0
 case neg =>
  rw [if_neg he0] at h
  obtain ⟨rfl, rfl⟩ : r1 = false ∧ r2 = e := by have := Option.some.inj h; simp only [Prod.mk.injEq] at this; exact ⟨this.1.symm, this.2.symm⟩
  have e2 : (r2 != 0) = true := by simpa using he0
  clear he0 h
  go_enter Try.func23, Try.ntmps23
  go_wp2_with (go_at_call 49; rw [← HW.out]; (with_reducible refine (model_ready.calls k _ c0 l0 a1_0 a1_1 a1_2 a1_3 a1_4 a1_5 a2 r2 _ (Kd.C_below HR.out HB2.out) hc0 HE.out).mono ?_); rintro e w3 ⟨rfl, hb⟩; have HB3 := am (below_step HB2.out hb); clear hb)
  go_ret2
  exact ⟨rfl, HB3.out⟩
 subst he0
 rw [if_pos rfl] at h
 have hl : l0.length < 1000000 := by
  by_cases hq : l0.length < 1000000
  ·exact hq
  rw [if_neg hq] at h; cases h
 rw [if_pos hl] at h
 obtain ⟨s, hs, hh⟩ := Option.bind_eq_some_iff.1 h
 replace h := hh
 clear hh
 obtain ⟨rfl, rfl⟩ : r1 = s ∧ r2 = 0 := by have := Option.some.inj h; simp only [Prod.mk.injEq] at this; exact ⟨this.1.symm, this.2.symm⟩
 have HS := am hs
 clear h hs
 go_enter Try.func23, Try.ntmps23
 go_wp2_with (first | (go_at_call 49; rw [← HW.out]; (with_reducible refine (model_ready.calls k _ c0 l0 a1_0 a1_1 a1_2 a1_3 a1_4 a1_5 a2 0 _ (Kd.C_below HR.out HB2.out) hc0 HE.out).mono ?_); rintro e w3 ⟨rfl, hb⟩; obtain ⟨k0, k1, k2, k3, k4, k5⟩ := RegInv.cells6 (blk_alloc (bb H4.out hb) (.cells #[.bool true] 4)); have HB3 := am hb; clear hb) | (go_at_call 50; have l5 := blk_lt H5.out; have ls := HB3.out.size; have HBn := am (below_alloc (Below.refl w3.heap.size w3) (.cells #[.bool true] 4)); (with_reducible refine (each_is 55 Try.f55 Try.func55 (by kernel_rfl) rfl #[.pointer (some ⟨w3.heap.size, 0, none⟩), .pointer (some ⟨w.heap.size + 1, 0, none⟩)] (AllI w (w.heap.size + 1) w3.heap.size a2) (allStep a2) k A0 c0 l0 ⟨⟨a1_0, a1_1, a1_2⟩, ⟨a1_3, a1_4, a1_5⟩⟩ true r1 _ (fun s W W' h hb => h.keep hb) (fun s W p m r hI hs => clo55 w (w.heap.size + 1) w3.heap.size _ a2 s W p m r (by omega) (by omega) (by simp) hI hs) (Kd.C_below (Kd.C_below (Kd.C_below HR.out HB2.out) HB3.out) HBn.out) hc0 hl ⟨below_step (below_step HB2.out HB3.out) HBn.out, bb (bb H5.out HB3.out) HBn.out, blk_new _ _⟩ HS.out).mono ?_); rintro e w5 ⟨rfl, hi, hr⟩; have c9 := (blk_cell hi.n9 0).trans rfl; have HI9 := am hi.b; clear hi hr k0 k1 k2 k3 k4 k5))
 go_ret2
 exact ⟨rfl, HI9.out⟩
end

end Go.Proofs.Ytcofgnbopodahaa.QA
