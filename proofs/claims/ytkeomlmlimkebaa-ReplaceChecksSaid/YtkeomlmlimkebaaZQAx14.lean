import Derived.Test.YtkeomlmlimkebaaZQAx0
import Derived.Test.YtkeomlmlimkebaaZQAx2
import Derived.Test.YtkeomlmlimkebaaZQAx3
import Derived.Test.YtkeomlmlimkebaaZQAx5
import Derived.Test.YtkeomlmlimkebaaZQAx7
import Derived.Test.YtkeomlmlimkebaaZQAx8
import Derived.Test.YtkeomlmlimkebaaZQAx9
import Derived.Test.YtkeomlmlimkebaaZQAx10
import Derived.Test.YtkeomlmlimkebaaZQAx11
import Derived.Test.YtkeomlmlimkebaaZQAx12
import Derived.Test.YtkeomlmlimkebaaZQAx13
namespace Go.Proofs.Ytkeomlmlimkebaa.QA
open Go.RowKit Go.Proofs.YtkeomlmlimkebaaW.PrintWords Go.Proofs.YtkeomlmlimkebaaW.PrintLast Go.Proofs.YtkeomlmlimkebaaW.PrintMore
open Go.Proofs.YtkeomlmlimkebaaW.PrintWords renaming blk_frozen → bf, blk_cell → bc, below_size → wz, gate_callee → gc
open Aside0 renaming mk → am
attribute [local go_sem] max2_int min2_int max_two min_two max_three min_three max_four min_four
set_option linter.unusedVariables false
set_option linter.unusedSimpArgs false

mutual
def w_ReplaceChecks.j0 : Nat → Int → Int → List Int → Int → Bool → List (List Int) → Int → List Int → List Bool → List (List Int) → Int → List Int → List Bool → Option (Bool)
 | 0, _, _, _, _, _, _, _, _, _, _, _, _, _ => none
 | k + 1, x1, x6, x7, x9, x39, x289000, x289001, x289002, x289003, x313000, x313001, x313002, x313003 => if x39 = true then (some false) else (if x9 = 0 then ((r_Free.f k x289000 x289001 x289002 x289003).bind fun t351 => ((r_SameInts.f k x7 t351).bind fun t354 => (if t354 = true then (if x1 < 0 then (w_ReplaceChecks.j2 k x1 x6 true x289000 x289001 x289002 x289003 x313000 x313001 x313002 x313003) else (w_ReplaceChecks.j2 k x1 x6 (decide (x1 ≥ x289001)) x289000 x289001 x289002 x289003 x313000 x313001 x313002 x313003)) else (some false)))) else ((w_awake.f k).bind fun t339 => (if t339 = true then (if x6 = x9 then ((w_theirs.f x313000 x313001 x313002 x313003).bind fun bt340 => ((r_Same.f k bt340.1 bt340.2.1 bt340.2.2.1 bt340.2.2.2 ([] : List (List Int)) 0 ([] : List Int) ([] : List Bool)).bind fun t350 => (if t350 = true then (w_ReplaceChecks.j1 k ((x7.length : Int) == 0)) else (w_ReplaceChecks.j1 k false)))) else (w_ReplaceChecks.j1 k false)) else (w_ReplaceChecks.j1 k false))))
def w_ReplaceChecks.j2 : Nat → Int → Int → Bool → List (List Int) → Int → List Int → List Bool → List (List Int) → Int → List Int → List Bool → Option (Bool)
 | 0, _, _, _, _, _, _, _, _, _, _, _ => none
 | k + 1, x1, x6, x71, x289000, x289001, x289002, x289003, x313000, x313001, x313002, x313003 => if x71 = true then ((w_awake.f k).bind fun t355 => (if t355 = true then (if x6 = 6 then ((w_theirs.f x313000 x313001 x313002 x313003).bind fun bt356 => ((r_Same.f k bt356.1 bt356.2.1 bt356.2.2.1 bt356.2.2.2 ([] : List (List Int)) 0 ([] : List Int) ([] : List Bool)).bind fun t366 => (w_ReplaceChecks.j3 k t366))) else (w_ReplaceChecks.j3 k false)) else (w_ReplaceChecks.j3 k false))) else ((r_User.f k x289000 x289001 x289002 x289003 x1).bind fun t367 => (if t367 ≥ 0 then (if 0 ≤ t367 then (if t367 < (x289003.length : Int) then (w_ReplaceChecks.j4 k x1 x6 (rdOf false x289003 t367) x289000 x289001 x289002 x289003 x313000 x313001 x313002 x313003) else (none)) else (none)) else (w_ReplaceChecks.j4 k x1 x6 false x289000 x289001 x289002 x289003 x313000 x313001 x313002 x313003)))
def w_ReplaceChecks.j3 : Nat → Bool → Option (Bool)
 | 0, _ => none
 | k + 1, x4 => some x4
def w_ReplaceChecks.j4 : Nat → Int → Int → Bool → List (List Int) → Int → List Int → List Bool → List (List Int) → Int → List Int → List Bool → Option (Bool)
 | 0, _, _, _, _, _, _, _, _, _, _, _ => none
 | k + 1, x1, x6, x94, x289000, x289001, x289002, x289003, x313000, x313001, x313002, x313003 => if x94 = true then ((w_awake.f k).bind fun t369 => (if t369 = true then (if x6 = 8 then ((w_theirs.f x313000 x313001 x313002 x313003).bind fun bt370 => ((r_Same.f k bt370.1 bt370.2.1 bt370.2.2.1 bt370.2.2.2 ([] : List (List Int)) 0 ([] : List Int) ([] : List Bool)).bind fun t380 => (w_ReplaceChecks.j5 k t380))) else (w_ReplaceChecks.j5 k false)) else (w_ReplaceChecks.j5 k false))) else ((w_awake.f k).bind fun t381 => (if t381 = true then (if x6 = 0 then ((w_theirs.f x313000 x313001 x313002 x313003).bind fun bt382 => ((r_Break.f k x289000 x289001 x289002 x289003 x1).bind fun bt392 => ((r_Same.f k bt382.1 bt382.2.1 bt382.2.2.1 bt382.2.2.2 bt392.1 bt392.2.1 bt392.2.2.1 bt392.2.2.2).bind fun t402 => (w_ReplaceChecks.j6 k t402)))) else (w_ReplaceChecks.j6 k false)) else (w_ReplaceChecks.j6 k false)))
def w_ReplaceChecks.j5 : Nat → Bool → Option (Bool)
 | 0, _ => none
 | k + 1, x4 => some x4
def w_ReplaceChecks.j6 : Nat → Bool → Option (Bool)
 | 0, _ => none
 | k + 1, x4 => some x4
def w_ReplaceChecks.j1 : Nat → Bool → Option (Bool)
 | 0, _ => none
 | k + 1, x4 => some x4
end
def w_ReplaceChecks.f (k : Nat) (l0_0 : List (List Int)) (a0_1 : Int) (l0_2 : List Int) (l0_3 : List Bool) (a1 : Int) : Option (Bool) := (r_Few.f k l0_0 a0_1 l0_2 l0_3).bind fun t289 => (if t289 = true then ((w_ours.f l0_0 a0_1 l0_2 l0_3).bind fun bt291 => ((replace_Break.f bt291.1 bt291.2.1 bt291.2.2.1 bt291.2.2.2 a1).bind fun bt301 => ((w_ours.f l0_0 a0_1 l0_2 l0_3).bind fun bt313 => ((replace_Free.f k bt313.1 bt313.2.1 bt313.2.2.1 bt313.2.2.2).bind fun bt323 => ((r_Check.f l0_0 a0_1 l0_2 l0_3).bind fun t327 => ((w_ours.f l0_0 a0_1 l0_2 l0_3).bind fun bt328 => ((replace_Check.f bt328.1 bt328.2.1 bt328.2.2.1 bt328.2.2.2).bind fun t338 => (if t338 = t327 then (w_ReplaceChecks.j0 k a1 bt301.2.2.2.2 bt323.1 t327 (bt323.2 != t327) l0_0 a0_1 l0_2 l0_3 bt301.1 bt301.2.1 bt301.2.2.1 bt301.2.2.2.1) else (w_ReplaceChecks.j0 k a1 bt301.2.2.2.2 bt323.1 t327 true l0_0 a0_1 l0_2 l0_3 bt301.1 bt301.2.1 bt301.2.2.1 bt301.2.2.2.1))))))))) else ((w_awake.f k).bind fun t290 => (some t290)))
def w_ReplaceChecks.T17 : Bool × List (List Nat × List Nat) := (true, [([], []), ([0, 0], [0]), ([1], [1]), ([2, 1], [1, 2]), ([1, 3], [1, 3]), ([4, 1], [4]), ([5], [5]), ([6, 5, 5], [5, 6]), ([5], [5]), ([5], [5]), ([8, 9, 7, 5], [5, 8, 9]), ([7, 10, 10, 5], [5, 7, 10]), ([5, 11], [5, 11]), ([12, 11, 0, 1, 2, 3, 4, 5, 6, 7, 8, 9, 10, 11, 12], [12])])
def w_ReplaceChecks.B17 : List Nat := [0, 1, 3, 7, 15, 31, 63, 127, 63, 63, 1023, 2047, 4095, 8191]
theorem w_ReplaceChecks.tab17 : rtab .any (opsOf Try.f6 17) = w_ReplaceChecks.T17 := by kernel_rfl
theorem w_ReplaceChecks.bits17 : waitsOk w_ReplaceChecks.T17.2 w_ReplaceChecks.B17 = true := by kernel_rfl
set_option maxHeartbeats 8000000 in
set_option maxRecDepth 100000 in
theorem w_ReplaceChecks.calls (k : Nat) (A0_0 : Option Addr) (c0_0 : Nat) (l0_0 : List (List Int)) (a0_1 : Int) (A0_2 : Option Addr) (c0_2 : Nat) (l0_2 : List Int) (A0_3 : Option Addr) (c0_3 : Nat) (l0_3 : List Bool) (a1 : Int) (r : Bool) (w : World) (hr0_0 : Kd.C (Kd.slice 3 (Kd.int .i64)) w A0_0 l0_0.length l0_0) (hc0_0 : l0_0.length ≤ c0_0) (hr0_2 : Kd.C (Kd.int .i64) w A0_2 l0_2.length l0_2) (hc0_2 : l0_2.length ≤ c0_2) (hr0_3 : Kd.C Kd.bool w A0_3 l0_3.length l0_3) (hc0_3 : l0_3.length ≤ c0_3) (h : w_ReplaceChecks.f k l0_0 a0_1 l0_2 l0_3 a1 = some r) :
  Calls Try.prog 6 #[.agg #[.slice A0_0 l0_0.length c0_0, .int .i64 a0_1, .slice A0_2 l0_2.length c0_2, .slice A0_3 l0_3.length c0_3], .int .i64 a1] w fun e w' => e = .returned (.bool r) ∧ Below w.heap.size w w' := by
 have hu26 := Try.underlying26
 have hu33 := Try.underlying33
 have HR0_0 := am hr0_0
 have HC0_0 := am hc0_0
 clear hr0_0 hc0_0
 have HR0_2 := am hr0_2
 have HC0_2 := am hc0_2
 clear hr0_2 hc0_2
 have HR0_3 := am hr0_3
 have HC0_3 := am hc0_3
 clear hr0_3 hc0_3
 have HB := am (Below.refl w.heap.size w)
 have H : ((r_Few.f k l0_0 a0_1 l0_2 l0_3).bind fun t289 => (if t289 = true then ((w_ours.f l0_0 a0_1 l0_2 l0_3).bind fun bt291 => ((replace_Break.f bt291.1 bt291.2.1 bt291.2.2.1 bt291.2.2.2 a1).bind fun bt301 => ((w_ours.f l0_0 a0_1 l0_2 l0_3).bind fun bt313 => ((replace_Free.f k bt313.1 bt313.2.1 bt313.2.2.1 bt313.2.2.2).bind fun bt323 => ((r_Check.f l0_0 a0_1 l0_2 l0_3).bind fun t327 => ((w_ours.f l0_0 a0_1 l0_2 l0_3).bind fun bt328 => ((replace_Check.f bt328.1 bt328.2.1 bt328.2.2.1 bt328.2.2.2).bind fun t338 => (if t338 = t327 then (w_ReplaceChecks.j0 k a1 bt301.2.2.2.2 bt323.1 t327 (bt323.2 != t327) l0_0 a0_1 l0_2 l0_3 bt301.1 bt301.2.1 bt301.2.2.1 bt301.2.2.2.1) else (w_ReplaceChecks.j0 k a1 bt301.2.2.2.2 bt323.1 t327 true l0_0 a0_1 l0_2 l0_3 bt301.1 bt301.2.1 bt301.2.2.1 bt301.2.2.2.1))))))))) else ((w_awake.f k).bind fun t290 => (some t290)))) = some r := h
 clear h
 replace H := Option.bind_eq_some_iff.mp H
 obtain ⟨t289, A30, H⟩ := H
 replace H : (if t289 = true then ((w_ours.f l0_0 a0_1 l0_2 l0_3).bind fun bt291 => ((replace_Break.f bt291.1 bt291.2.1 bt291.2.2.1 bt291.2.2.2 a1).bind fun bt301 => ((w_ours.f l0_0 a0_1 l0_2 l0_3).bind fun bt313 => ((replace_Free.f k bt313.1 bt313.2.1 bt313.2.2.1 bt313.2.2.2).bind fun bt323 => ((r_Check.f l0_0 a0_1 l0_2 l0_3).bind fun t327 => ((w_ours.f l0_0 a0_1 l0_2 l0_3).bind fun bt328 => ((replace_Check.f bt328.1 bt328.2.1 bt328.2.2.1 bt328.2.2.2).bind fun t338 => (if t338 = t327 then (w_ReplaceChecks.j0 k a1 bt301.2.2.2.2 bt323.1 t327 (bt323.2 != t327) l0_0 a0_1 l0_2 l0_3 bt301.1 bt301.2.1 bt301.2.2.1 bt301.2.2.2.1) else (w_ReplaceChecks.j0 k a1 bt301.2.2.2.2 bt323.1 t327 true l0_0 a0_1 l0_2 l0_3 bt301.1 bt301.2.1 bt301.2.2.1 bt301.2.2.2.1))))))))) else ((w_awake.f k).bind fun t290 => (some t290))) = some r := H
 have A3 := am A30
 clear A30
 by_cases c4 : t289 = true
 ·subst c4
  have H1 : ((w_ours.f l0_0 a0_1 l0_2 l0_3).bind fun bt291 => ((replace_Break.f bt291.1 bt291.2.1 bt291.2.2.1 bt291.2.2.2 a1).bind fun bt301 => ((w_ours.f l0_0 a0_1 l0_2 l0_3).bind fun bt313 => ((replace_Free.f k bt313.1 bt313.2.1 bt313.2.2.1 bt313.2.2.2).bind fun bt323 => ((r_Check.f l0_0 a0_1 l0_2 l0_3).bind fun t327 => ((w_ours.f l0_0 a0_1 l0_2 l0_3).bind fun bt328 => ((replace_Check.f bt328.1 bt328.2.1 bt328.2.2.1 bt328.2.2.2).bind fun t338 => (if t338 = t327 then (w_ReplaceChecks.j0 k a1 bt301.2.2.2.2 bt323.1 t327 (bt323.2 != t327) l0_0 a0_1 l0_2 l0_3 bt301.1 bt301.2.1 bt301.2.2.1 bt301.2.2.2.1) else (w_ReplaceChecks.j0 k a1 bt301.2.2.2.2 bt323.1 t327 true l0_0 a0_1 l0_2 l0_3 bt301.1 bt301.2.1 bt301.2.2.1 bt301.2.2.2.1))))))))) = some r := by rw [if_pos rfl] at H; exact H
  clear H
  have H := H1
  clear H1
  replace H := Option.bind_eq_some_iff.mp H
  obtain ⟨⟨t291, t294, t295, t298⟩, A50, H⟩ := H
  replace H : ((replace_Break.f t291 t294 t295 t298 a1).bind fun bt301 => ((w_ours.f l0_0 a0_1 l0_2 l0_3).bind fun bt313 => ((replace_Free.f k bt313.1 bt313.2.1 bt313.2.2.1 bt313.2.2.2).bind fun bt323 => ((r_Check.f l0_0 a0_1 l0_2 l0_3).bind fun t327 => ((w_ours.f l0_0 a0_1 l0_2 l0_3).bind fun bt328 => ((replace_Check.f bt328.1 bt328.2.1 bt328.2.2.1 bt328.2.2.2).bind fun t338 => (if t338 = t327 then (w_ReplaceChecks.j0 k a1 bt301.2.2.2.2 bt323.1 t327 (bt323.2 != t327) l0_0 a0_1 l0_2 l0_3 bt301.1 bt301.2.1 bt301.2.2.1 bt301.2.2.2.1) else (w_ReplaceChecks.j0 k a1 bt301.2.2.2.2 bt323.1 t327 true l0_0 a0_1 l0_2 l0_3 bt301.1 bt301.2.1 bt301.2.2.1 bt301.2.2.2.1)))))))) = some r := H
  have A5 := am A50
  clear A50
  replace H := Option.bind_eq_some_iff.mp H
  obtain ⟨⟨t301, t304, t305, t308, t311⟩, A60, H⟩ := H
  replace H : ((w_ours.f l0_0 a0_1 l0_2 l0_3).bind fun bt313 => ((replace_Free.f k bt313.1 bt313.2.1 bt313.2.2.1 bt313.2.2.2).bind fun bt323 => ((r_Check.f l0_0 a0_1 l0_2 l0_3).bind fun t327 => ((w_ours.f l0_0 a0_1 l0_2 l0_3).bind fun bt328 => ((replace_Check.f bt328.1 bt328.2.1 bt328.2.2.1 bt328.2.2.2).bind fun t338 => (if t338 = t327 then (w_ReplaceChecks.j0 k a1 t311 bt323.1 t327 (bt323.2 != t327) l0_0 a0_1 l0_2 l0_3 t301 t304 t305 t308) else (w_ReplaceChecks.j0 k a1 t311 bt323.1 t327 true l0_0 a0_1 l0_2 l0_3 t301 t304 t305 t308))))))) = some r := H
  have A6 := am A60
  clear A60
  replace H := Option.bind_eq_some_iff.mp H
  obtain ⟨⟨t313, t316, t317, t320⟩, A70, H⟩ := H
  replace H : ((replace_Free.f k t313 t316 t317 t320).bind fun bt323 => ((r_Check.f l0_0 a0_1 l0_2 l0_3).bind fun t327 => ((w_ours.f l0_0 a0_1 l0_2 l0_3).bind fun bt328 => ((replace_Check.f bt328.1 bt328.2.1 bt328.2.2.1 bt328.2.2.2).bind fun t338 => (if t338 = t327 then (w_ReplaceChecks.j0 k a1 t311 bt323.1 t327 (bt323.2 != t327) l0_0 a0_1 l0_2 l0_3 t301 t304 t305 t308) else (w_ReplaceChecks.j0 k a1 t311 bt323.1 t327 true l0_0 a0_1 l0_2 l0_3 t301 t304 t305 t308)))))) = some r := H
  have A7 := am A70
  clear A70
  replace H := Option.bind_eq_some_iff.mp H
  obtain ⟨⟨t323, t326⟩, A80, H⟩ := H
  replace H : ((r_Check.f l0_0 a0_1 l0_2 l0_3).bind fun t327 => ((w_ours.f l0_0 a0_1 l0_2 l0_3).bind fun bt328 => ((replace_Check.f bt328.1 bt328.2.1 bt328.2.2.1 bt328.2.2.2).bind fun t338 => (if t338 = t327 then (w_ReplaceChecks.j0 k a1 t311 t323 t327 (t326 != t327) l0_0 a0_1 l0_2 l0_3 t301 t304 t305 t308) else (w_ReplaceChecks.j0 k a1 t311 t323 t327 true l0_0 a0_1 l0_2 l0_3 t301 t304 t305 t308))))) = some r := H
  have A8 := am A80
  clear A80
  replace H := Option.bind_eq_some_iff.mp H
  obtain ⟨t327, A90, H⟩ := H
  replace H : ((w_ours.f l0_0 a0_1 l0_2 l0_3).bind fun bt328 => ((replace_Check.f bt328.1 bt328.2.1 bt328.2.2.1 bt328.2.2.2).bind fun t338 => (if t338 = t327 then (w_ReplaceChecks.j0 k a1 t311 t323 t327 (t326 != t327) l0_0 a0_1 l0_2 l0_3 t301 t304 t305 t308) else (w_ReplaceChecks.j0 k a1 t311 t323 t327 true l0_0 a0_1 l0_2 l0_3 t301 t304 t305 t308)))) = some r := H
  have A9 := am A90
  clear A90
  have HC10 := am H
  clear H
  go_enter Try.func6, Try.ntmps6
  go_upto_region 6 with (first | ((with_reducible refine gate_dst (N := 2) rfl ?_); (try (refine gate_guard (by rfl) ?_; dsimp only)); refine box_event ?hg (N := 2) ?hd (cs := #[.slice A0_0 l0_0.length c0_0, .int .i64 a0_1, .slice A0_2 l0_2.length c0_2, .slice A0_3 l0_3.length c0_3]) (t := 26) ?hr ?_; (case hd | hg => rfl); (case hr => first | (go_simp; done) | (go_simp; rfl)); intro gb288 hg w11 hbox hb; have BK288 := am hbox; have GW288 := sG HB hg; have GE288 := sG HB hg; replace HB := bS HB hb; clear hb hbox hg; obtain ⟨_, _, _, _, _, _, _, _⟩ := zC4 BK288) | ((with_reducible refine gc (f := 10) rfl ?_); refine goesL_ (some 12) rfl rfl Try.func10 (by kernel_rfl) rfl #[.agg #[.slice A0_0 l0_0.length c0_0, .int .i64 a0_1, .slice A0_2 l0_2.length c0_2, .slice A0_3 l0_3.length c0_3]] rfl (by (try simp only [pml]); first | done | rfl | (simp only [pdt]; rfl)) ?_; (with_reducible refine (r_Few.calls k _ _ l0_0 a0_1 _ _ l0_2 _ _ l0_3 true _ ?side1 ?side2 ?side3 ?side4 ?side5 ?side6 A3.out).mono ?_); (case side1 => repeat (first | exact (Kd.C_below HR0_0.out HB.out) | (with_reducible refine Kd.C_alloc ?_ _) | (with_reducible refine Kd.C_drewN ?_ _) | (with_reducible refine Kd.C_drew ?_))); (case side2 => exact HC0_0.out); (case side3 => repeat (first | exact (Kd.C_below HR0_2.out HB.out) | (with_reducible refine Kd.C_alloc ?_ _) | (with_reducible refine Kd.C_drewN ?_ _) | (with_reducible refine Kd.C_drew ?_))); (case side4 => exact HC0_2.out); (case side5 => repeat (first | exact (Kd.C_below HR0_3.out HB.out) | (with_reducible refine Kd.C_alloc ?_ _) | (with_reducible refine Kd.C_drewN ?_ _) | (with_reducible refine Kd.C_drew ?_))); (case side6 => exact HC0_3.out); rintro e w13 ⟨rfl, hb⟩; refine ⟨_, rfl, ?_⟩; replace BK288 := bB BK288 hb; replace HB := bS HB hb; (try clear hb); (try clear hb2); (try clear hk); (try clear hi); obtain ⟨_, _, _, _, _, _, _, _⟩ := zC4 BK288) | ((with_reducible refine gc (f := 13) rfl ?_); refine goesL_ (some 17) rfl rfl Try.func13 (by kernel_rfl) rfl #[.agg #[.slice A0_0 l0_0.length c0_0, .int .i64 a0_1, .slice A0_2 l0_2.length c0_2, .slice A0_3 l0_3.length c0_3]] rfl (by (try simp only [pml]); first | done | rfl | (simp only [pdt]; rfl)) ?_; (with_reducible refine (w_ours.calls (fun k_ => k_ < w.heap.size) _ _ l0_0 a0_1 (fun k_ => k_ < w.heap.size) _ _ l0_2 (fun k_ => k_ < w.heap.size) _ _ l0_3 t291 t294 t295 t298 _ ?side1 ?side2 ?side3 A5.out).mono ?_); (case side1 => exact Kd.V_mk HC0_0.out (Kd.F_below (Kd.C_F (Kd.heap_slice 3 (Kd.heap_int .i64)) HR0_0.out) (fW HB.out))); (case side2 => exact Kd.V_mk HC0_2.out (Kd.F_below (Kd.C_F (Kd.heap_int .i64) HR0_2.out) (fW HB.out))); (case side3 => exact Kd.V_mk HC0_3.out (Kd.F_below (Kd.C_F Kd.heap_bool HR0_3.out) (fW HB.out))); rintro e w15 ⟨v292, v296, v299, rfl, ho0, ho1, ho2, hb⟩; refine ⟨_, rfl, ?_⟩; have HO293 := am (Kd.V_lower (Kd.V_mono (ok' := fun k_ => k_ ≠ gb288) ho0 (fun k_ hk_ => Or.elim hk_ (fun hs_ => Or.elim hs_ (fun hs_ => fun e_ => Nat.not_le.2 hs_ (by rw [e_]; exact GW288.out)) (fun hs_ => Or.elim hs_ (fun hs_ => fun e_ => Nat.not_le.2 hs_ (by rw [e_]; exact GW288.out)) (fun hs_ => fun e_ => Nat.not_le.2 hs_ (by rw [e_]; exact GW288.out)))) (fun hn_ => (Kd.freshB (g := gb288) (o := .cells #[.slice A0_0 l0_0.length c0_0, .int .i64 a0_1, .slice A0_2 l0_2.length c0_2, .slice A0_3 l0_3.length c0_3] 26 (0, 0)) (fb BK288.out) k_ hn_)))) (wz (fW HB.out))); have HO297 := am (Kd.V_lower (Kd.V_mono (ok' := fun k_ => k_ ≠ gb288) ho1 (fun k_ hk_ => Or.elim hk_ (fun hs_ => Or.elim hs_ (fun hs_ => fun e_ => Nat.not_le.2 hs_ (by rw [e_]; exact GW288.out)) (fun hs_ => Or.elim hs_ (fun hs_ => fun e_ => Nat.not_le.2 hs_ (by rw [e_]; exact GW288.out)) (fun hs_ => fun e_ => Nat.not_le.2 hs_ (by rw [e_]; exact GW288.out)))) (fun hn_ => (Kd.freshB (g := gb288) (o := .cells #[.slice A0_0 l0_0.length c0_0, .int .i64 a0_1, .slice A0_2 l0_2.length c0_2, .slice A0_3 l0_3.length c0_3] 26 (0, 0)) (fb BK288.out) k_ hn_)))) (wz (fW HB.out))); have HO300 := am (Kd.V_lower (Kd.V_mono (ok' := fun k_ => k_ ≠ gb288) ho2 (fun k_ hk_ => Or.elim hk_ (fun hs_ => Or.elim hs_ (fun hs_ => fun e_ => Nat.not_le.2 hs_ (by rw [e_]; exact GW288.out)) (fun hs_ => Or.elim hs_ (fun hs_ => fun e_ => Nat.not_le.2 hs_ (by rw [e_]; exact GW288.out)) (fun hs_ => fun e_ => Nat.not_le.2 hs_ (by rw [e_]; exact GW288.out)))) (fun hn_ => (Kd.freshB (g := gb288) (o := .cells #[.slice A0_0 l0_0.length c0_0, .int .i64 a0_1, .slice A0_2 l0_2.length c0_2, .slice A0_3 l0_3.length c0_3] 26 (0, 0)) (fb BK288.out) k_ hn_)))) (wz (fW HB.out))); replace BK288 := bB BK288 hb; replace HB := bS HB hb; (try clear hb); (try clear hb2); (try clear hk); (try clear hi); (try clear ho0); (try clear ho1); (try clear ho2); obtain ⟨Ao16, co16, eo16⟩ := Kd.V_slice HO293.out; subst eo16; obtain ⟨Ao17, co17, eo17⟩ := Kd.V_slice HO297.out; subst eo17; obtain ⟨Ao18, co18, eo18⟩ := Kd.V_slice HO300.out; subst eo18) | ((with_reducible refine gc (f := 23) rfl ?_); refine goesL_ (some 19) rfl rfl Try.func23 (by kernel_rfl) rfl #[.agg #[.slice Ao16 t291.length co16, .int .i64 t294, .slice Ao17 t295.length co17, .slice Ao18 t298.length co18], .int .i64 a1] rfl (by (try simp only [pml]); first | done | rfl | (simp only [pdt]; rfl)) ?_; (with_reducible refine (replace_Break.calls _ _ t291 t294 _ _ t295 _ _ t298 a1 t301 t304 t305 t308 t311 _ ?side1 ?side2 ?side3 ?side4 ?side5 ?side6 A6.out).mono ?_); (case side1 => repeat (first | exact (Kd.V_reads' HO293.out).2.2 | (with_reducible refine Kd.C_alloc ?_ _) | (with_reducible refine Kd.C_drewN ?_ _) | (with_reducible refine Kd.C_drew ?_))); (case side2 => exact (Kd.V_reads' HO293.out).2.1); (case side3 => repeat (first | exact (Kd.V_reads' HO297.out).2.2 | (with_reducible refine Kd.C_alloc ?_ _) | (with_reducible refine Kd.C_drewN ?_ _) | (with_reducible refine Kd.C_drew ?_))); (case side4 => exact (Kd.V_reads' HO297.out).2.1); (case side5 => repeat (first | exact (Kd.V_reads' HO300.out).2.2 | (with_reducible refine Kd.C_alloc ?_ _) | (with_reducible refine Kd.C_drewN ?_ _) | (with_reducible refine Kd.C_drew ?_))); (case side6 => exact (Kd.V_reads' HO300.out).2.1); rintro e w19 ⟨v302, v306, v309, rfl, ho0, ho1, ho2, hb⟩; refine ⟨_, rfl, ?_⟩; replace HO293 := am (Kd.V_mono (Kd.V_told (Kd.V_told (Kd.V_told (Kd.V_old (fV HO293.out) hb) (Kd.S_base ho0)) (Kd.R_base ho1)) (Kd.R_base ho2)) (fun _ h_ => h_.1)); replace HO297 := am (Kd.V_mono (Kd.V_told (Kd.V_told (Kd.V_told (Kd.V_old (fV HO297.out) hb) (Kd.S_base ho0)) (Kd.R_base ho1)) (Kd.R_base ho2)) (fun _ h_ => h_.1)); replace HO300 := am (Kd.V_mono (Kd.V_told (Kd.V_told (Kd.V_told (Kd.V_old (fV HO300.out) hb) (Kd.S_base ho0)) (Kd.R_base ho1)) (Kd.R_base ho2)) (fun _ h_ => h_.1)); have HO303 := am (Kd.S_lower ho0 (wz (fW HB.out))); have HO307 := am (Kd.R_lower ho1 (wz (fW HB.out))); have HO310 := am (Kd.R_lower ho2 (wz (fW HB.out))); replace BK288 := bB BK288 hb; replace HB := bS HB hb; (try clear hb); (try clear hb2); (try clear hk); (try clear hi); (try clear ho0); (try clear ho1); (try clear ho2)) | ((with_reducible refine gate_dst (N := 5) rfl ?_); (try (refine gate_guard (by rfl) ?_; dsimp only)); refine box_event ?hg (N := 5) ?hd (cs := #[.slice none 0 0, .int .i64 0, .slice none 0 0, .slice none 0 0]) (t := 33) ?hr ?_; (case hd | hg => rfl); (case hr => first | (go_simp; done) | (go_simp; rfl)); intro gb312 hg w20 hbox hb; replace HO293 := eV HO293 hg hb; replace HO297 := eV HO297 hg hb; replace HO300 := eV HO300 hg hb; replace HO303 := am (Kd.S_below (by (with_reducible repeat (first | apply Kd.S_alloc | apply Kd.S_drewN | apply Kd.S_drew)); exact HO303.out) hb); replace HO307 := dR HO307 hb; replace HO310 := dR HO310 hb; have BK312 := am hbox; have GW312 := sG HB hg; have GE312 := sG HB hg; replace HB := bS HB hb; have NB288_312 := nL BK288 hg; have NB312_288 := nG BK288 hg; replace BK288 := bB BK288 hb; clear hb hbox hg; obtain ⟨Ao21, co21, eo21⟩ := Kd.S_slice HO303.out; subst eo21; have hnb22 := NB312_288.out; have hnc22 := NB288_312.out; obtain ⟨_, _, _, _, _, _, _, _⟩ := zC4 BK312; obtain ⟨Ao24, co24, eo24⟩ := Kd.R_slice HO307.out; subst eo24; obtain ⟨Ao25, co25, eo25⟩ := Kd.R_slice HO310.out; subst eo25) | ((with_reducible refine gate_store (t := 33) (p := 5) rfl ?_); refine store_event (t := 33) (p := 5) (v := ?vo_w26) (w1 := ((((w20.setCell ⟨gb312, 0, none⟩ (.slice Ao21 t301.length co21)).setCell ⟨gb312, 1, none⟩ (.int .i64 t304)).setCell ⟨gb312, 2, none⟩ (.slice Ao24 t305.length co24)).setCell ⟨gb312, 3, none⟩ (.slice Ao25 t308.length co25))) ?hg ?ho ?hn ?hr ?_; (case ho => rfl); (case hg => rfl); (case hn => rfl); (case hr => first | (go_simp; done) | (go_simp; rfl)); intro w26 hw; have n0_ : Aside0 (Kd.V (Kd.slice 3 (Kd.int .i64)) 23 w26 w.heap.size (fun k_ => some k_ ≠ (.slice Ao21 t301.length co21 : Value).ownBlock ∧ some k_ ≠ (.slice Ao24 t305.length co24 : Value).ownBlock ∧ some k_ ≠ (.slice Ao25 t308.length co25 : Value).ownBlock ∧ k_ ≠ gb288 ∧ k_ ≠ gb312) (.slice Ao16 t291.length co16) t291) := ⟨(by rw [hw]; exact (by (with_reducible repeat (first | apply Kd.V_alloc | apply Kd.V_drewN | apply Kd.V_drew)); exact Kd.V_mono (Kd.V_far (p := ⟨gb312, 3, none⟩) (Kd.V_far (p := ⟨gb312, 2, none⟩) (Kd.V_far (p := ⟨gb312, 1, none⟩) (Kd.V_far (p := ⟨gb312, 0, none⟩) (Kd.V_mono HO293.out (fun k_ hk => (⟨hk, hk.2⟩ : _ ∧ k_ ≠ gb312))) (fun _ hk => hk.2) (.slice Ao21 t301.length co21)) (fun _ hk => hk.2) (.int .i64 t304)) (fun _ hk => hk.2) (.slice Ao24 t305.length co24)) (fun _ hk => hk.2) (.slice Ao25 t308.length co25)) (fun _ hk => ⟨hk.1.1.1.1.2, ⟨hk.1.1.1.2, ⟨hk.1.1.2, ⟨hk.1.1.1.1.1, hk.1.2⟩⟩⟩⟩)))⟩; have n1_ : Aside0 (Kd.V (Kd.int .i64) 3 w26 w.heap.size (fun k_ => some k_ ≠ (.slice Ao21 t301.length co21 : Value).ownBlock ∧ some k_ ≠ (.slice Ao24 t305.length co24 : Value).ownBlock ∧ some k_ ≠ (.slice Ao25 t308.length co25 : Value).ownBlock ∧ k_ ≠ gb288 ∧ k_ ≠ gb312) (.slice Ao17 t295.length co17) t295) := ⟨(by rw [hw]; exact (by (with_reducible repeat (first | apply Kd.V_alloc | apply Kd.V_drewN | apply Kd.V_drew)); exact Kd.V_mono (Kd.V_far (p := ⟨gb312, 3, none⟩) (Kd.V_far (p := ⟨gb312, 2, none⟩) (Kd.V_far (p := ⟨gb312, 1, none⟩) (Kd.V_far (p := ⟨gb312, 0, none⟩) (Kd.V_mono HO297.out (fun k_ hk => (⟨hk, hk.2⟩ : _ ∧ k_ ≠ gb312))) (fun _ hk => hk.2) (.slice Ao21 t301.length co21)) (fun _ hk => hk.2) (.int .i64 t304)) (fun _ hk => hk.2) (.slice Ao24 t305.length co24)) (fun _ hk => hk.2) (.slice Ao25 t308.length co25)) (fun _ hk => ⟨hk.1.1.1.1.2, ⟨hk.1.1.1.2, ⟨hk.1.1.2, ⟨hk.1.1.1.1.1, hk.1.2⟩⟩⟩⟩)))⟩; have n2_ : Aside0 (Kd.V Kd.bool 4 w26 w.heap.size (fun k_ => some k_ ≠ (.slice Ao21 t301.length co21 : Value).ownBlock ∧ some k_ ≠ (.slice Ao24 t305.length co24 : Value).ownBlock ∧ some k_ ≠ (.slice Ao25 t308.length co25 : Value).ownBlock ∧ k_ ≠ gb288 ∧ k_ ≠ gb312) (.slice Ao18 t298.length co18) t298) := ⟨(by rw [hw]; exact (by (with_reducible repeat (first | apply Kd.V_alloc | apply Kd.V_drewN | apply Kd.V_drew)); exact Kd.V_mono (Kd.V_far (p := ⟨gb312, 3, none⟩) (Kd.V_far (p := ⟨gb312, 2, none⟩) (Kd.V_far (p := ⟨gb312, 1, none⟩) (Kd.V_far (p := ⟨gb312, 0, none⟩) (Kd.V_mono HO300.out (fun k_ hk => (⟨hk, hk.2⟩ : _ ∧ k_ ≠ gb312))) (fun _ hk => hk.2) (.slice Ao21 t301.length co21)) (fun _ hk => hk.2) (.int .i64 t304)) (fun _ hk => hk.2) (.slice Ao24 t305.length co24)) (fun _ hk => hk.2) (.slice Ao25 t308.length co25)) (fun _ hk => ⟨hk.1.1.1.1.2, ⟨hk.1.1.1.2, ⟨hk.1.1.2, ⟨hk.1.1.1.1.1, hk.1.2⟩⟩⟩⟩)))⟩; have n3_ : Aside0 (Kd.S (Kd.slice 3 (Kd.int .i64)) 23 w26 w.heap.size (fun k_ => some k_ ≠ (.slice Ao24 t305.length co24 : Value).ownBlock) (.slice Ao21 t301.length co21) t301) := ⟨(by rw [hw]; exact (by (with_reducible repeat (first | apply Kd.S_alloc | apply Kd.S_drewN | apply Kd.S_drew)); exact Kd.S_mono (Kd.S_far (p := ⟨gb312, 3, none⟩) (Kd.S_far (p := ⟨gb312, 2, none⟩) (Kd.S_far (p := ⟨gb312, 1, none⟩) (Kd.S_far (p := ⟨gb312, 0, none⟩) (Kd.S_types HO303.out BK312.out (by decide)) (fun _ hk => hk.2) (.slice Ao21 t301.length co21)) (fun _ hk => hk.2) (.int .i64 t304)) (fun _ hk => hk.2) (.slice Ao24 t305.length co24)) (fun _ hk => hk.2) (.slice Ao25 t308.length co25)) (fun _ hk => hk.1)))⟩; have n4_ : Aside0 (Kd.R (Kd.int .i64) 3 w26 w.heap.size (fun _ => True) (.slice Ao24 t305.length co24) t305) := ⟨(by rw [hw]; exact (by (with_reducible repeat (first | apply Kd.R_alloc | apply Kd.R_drewN | apply Kd.R_drew)); exact Kd.R_mono (Kd.R_far (p := ⟨gb312, 3, none⟩) (Kd.R_far (p := ⟨gb312, 2, none⟩) (Kd.R_far (p := ⟨gb312, 1, none⟩) (Kd.R_far (p := ⟨gb312, 0, none⟩) (Kd.R_types HO307.out BK312.out (by decide)) (fun _ hk => hk.2) (.slice Ao21 t301.length co21)) (fun _ hk => hk.2) (.int .i64 t304)) (fun _ hk => hk.2) (.slice Ao24 t305.length co24)) (fun _ hk => hk.2) (.slice Ao25 t308.length co25)) (fun _ hk => trivial)))⟩; have n5_ : Aside0 (Kd.R Kd.bool 4 w26 w.heap.size (fun _ => True) (.slice Ao25 t308.length co25) t308) := ⟨(by rw [hw]; exact (by (with_reducible repeat (first | apply Kd.R_alloc | apply Kd.R_drewN | apply Kd.R_drew)); exact Kd.R_mono (Kd.R_far (p := ⟨gb312, 3, none⟩) (Kd.R_far (p := ⟨gb312, 2, none⟩) (Kd.R_far (p := ⟨gb312, 1, none⟩) (Kd.R_far (p := ⟨gb312, 0, none⟩) (Kd.R_types HO310.out BK312.out (by decide)) (fun _ hk => hk.2) (.slice Ao21 t301.length co21)) (fun _ hk => hk.2) (.int .i64 t304)) (fun _ hk => hk.2) (.slice Ao24 t305.length co24)) (fun _ hk => hk.2) (.slice Ao25 t308.length co25)) (fun _ hk => trivial)))⟩; have n6_ : Aside0 (w26.heap[gb288]? = some (.cells #[.slice A0_0 l0_0.length c0_0, .int .i64 a0_1, .slice A0_2 l0_2.length c0_2, .slice A0_3 l0_3.length c0_3] 26 (0, 0))) := ⟨(by rw [hw]; exact (kfC BK288.out))⟩; have n7_ : Aside0 (w26.heap[gb312]? = some (.cells #[.slice Ao21 t301.length co21, .int .i64 t304, .slice Ao24 t305.length co24, .slice Ao25 t308.length co25] 33 (0, 0))) := ⟨(by rw [hw]; exact (kkC BK312.out))⟩; have n8_ : Aside0 (Below w.heap.size w w26) := ⟨(by rw [hw]; exact (fW HB.out))⟩; clear hw HO293 HO297 HO300 HO303 HO307 HO310 BK288; clear BK312 HB; have HO293 := n0_; have HO297 := n1_; have HO300 := n2_; have HO303 := n3_; have HO307 := n4_; have HO310 := n5_; have BK288 := n6_; have BK312 := n7_; have HB := n8_; clear n0_ n1_ n2_ n3_ n4_ n5_ n6_ n7_ n8_; obtain ⟨_, _, _, _, _, _, _, _⟩ := zC4 BK288) | ((with_reducible refine gc (f := 13) rfl ?_); refine goesL_ (some 24) rfl rfl Try.func13 (by kernel_rfl) rfl #[.agg #[.slice A0_0 l0_0.length c0_0, .int .i64 a0_1, .slice A0_2 l0_2.length c0_2, .slice A0_3 l0_3.length c0_3]] rfl (by (try simp only [pml]); first | done | rfl | (simp only [pdt]; rfl)) ?_; (with_reducible refine (w_ours.calls (fun k_ => k_ < w.heap.size) _ _ l0_0 a0_1 (fun k_ => k_ < w.heap.size) _ _ l0_2 (fun k_ => k_ < w.heap.size) _ _ l0_3 t313 t316 t317 t320 _ ?side1 ?side2 ?side3 A7.out).mono ?_); (case side1 => exact Kd.V_mk HC0_0.out (Kd.F_below (Kd.C_F (Kd.heap_slice 3 (Kd.heap_int .i64)) HR0_0.out) (fW HB.out))); (case side2 => exact Kd.V_mk HC0_2.out (Kd.F_below (Kd.C_F (Kd.heap_int .i64) HR0_2.out) (fW HB.out))); (case side3 => exact Kd.V_mk HC0_3.out (Kd.F_below (Kd.C_F Kd.heap_bool HR0_3.out) (fW HB.out))); rintro e w28 ⟨v314, v318, v321, rfl, ho0, ho1, ho2, hb⟩; refine ⟨_, rfl, ?_⟩; replace HO293 := dV HO293 hb; replace HO297 := dV HO297 hb; replace HO300 := dV HO300 hb; have HO315 := am (Kd.V_lower (Kd.V_mono (ok' := fun k_ => some k_ ≠ (.slice Ao21 t301.length co21 : Value).ownBlock ∧ some k_ ≠ (.slice Ao24 t305.length co24 : Value).ownBlock ∧ some k_ ≠ (.slice Ao25 t308.length co25 : Value).ownBlock ∧ k_ ≠ gb288 ∧ k_ ≠ gb312) ho0 (fun k_ hk_ => ⟨Or.elim hk_ (fun hs_ => Or.elim hs_ (fun hs_ => fun e_ => Nat.not_le.2 hs_ (Kd.S_base HO303.out k_ e_.symm)) (fun hs_ => Or.elim hs_ (fun hs_ => fun e_ => Nat.not_le.2 hs_ (Kd.S_base HO303.out k_ e_.symm)) (fun hs_ => fun e_ => Nat.not_le.2 hs_ (Kd.S_base HO303.out k_ e_.symm)))) (fun hn_ => (Kd.fresh' (Kd.S_lt (by (with_reducible repeat (first | apply Kd.S_alloc | apply Kd.S_drewN | apply Kd.S_drew)); exact HO303.out)) k_ hn_)), Or.elim hk_ (fun hs_ => Or.elim hs_ (fun hs_ => fun e_ => Nat.not_le.2 hs_ (Kd.R_base HO307.out k_ e_.symm)) (fun hs_ => Or.elim hs_ (fun hs_ => fun e_ => Nat.not_le.2 hs_ (Kd.R_base HO307.out k_ e_.symm)) (fun hs_ => fun e_ => Nat.not_le.2 hs_ (Kd.R_base HO307.out k_ e_.symm)))) (fun hn_ => (Kd.fresh' (Kd.R_lt (fR HO307.out)) k_ hn_)), Or.elim hk_ (fun hs_ => Or.elim hs_ (fun hs_ => fun e_ => Nat.not_le.2 hs_ (Kd.R_base HO310.out k_ e_.symm)) (fun hs_ => Or.elim hs_ (fun hs_ => fun e_ => Nat.not_le.2 hs_ (Kd.R_base HO310.out k_ e_.symm)) (fun hs_ => fun e_ => Nat.not_le.2 hs_ (Kd.R_base HO310.out k_ e_.symm)))) (fun hn_ => (Kd.fresh' (Kd.R_lt (fR HO310.out)) k_ hn_)), Or.elim hk_ (fun hs_ => Or.elim hs_ (fun hs_ => fun e_ => Nat.not_le.2 hs_ (by rw [e_]; exact GW288.out)) (fun hs_ => Or.elim hs_ (fun hs_ => fun e_ => Nat.not_le.2 hs_ (by rw [e_]; exact GW288.out)) (fun hs_ => fun e_ => Nat.not_le.2 hs_ (by rw [e_]; exact GW288.out)))) (fun hn_ => (Kd.freshB (g := gb288) (o := .cells #[.slice A0_0 l0_0.length c0_0, .int .i64 a0_1, .slice A0_2 l0_2.length c0_2, .slice A0_3 l0_3.length c0_3] 26 (0, 0)) (fb BK288.out) k_ hn_)), Or.elim hk_ (fun hs_ => Or.elim hs_ (fun hs_ => fun e_ => Nat.not_le.2 hs_ (by rw [e_]; exact GW312.out)) (fun hs_ => Or.elim hs_ (fun hs_ => fun e_ => Nat.not_le.2 hs_ (by rw [e_]; exact GW312.out)) (fun hs_ => fun e_ => Nat.not_le.2 hs_ (by rw [e_]; exact GW312.out)))) (fun hn_ => (Kd.freshB (g := gb312) (o := .cells #[.slice Ao21 t301.length co21, .int .i64 t304, .slice Ao24 t305.length co24, .slice Ao25 t308.length co25] 33 (0, 0)) (fb BK312.out) k_ hn_))⟩)) (wz (fW HB.out))); have HO319 := am (Kd.V_lower (Kd.V_mono (ok' := fun k_ => some k_ ≠ (.slice Ao21 t301.length co21 : Value).ownBlock ∧ some k_ ≠ (.slice Ao24 t305.length co24 : Value).ownBlock ∧ some k_ ≠ (.slice Ao25 t308.length co25 : Value).ownBlock ∧ k_ ≠ gb288 ∧ k_ ≠ gb312) ho1 (fun k_ hk_ => ⟨Or.elim hk_ (fun hs_ => Or.elim hs_ (fun hs_ => fun e_ => Nat.not_le.2 hs_ (Kd.S_base HO303.out k_ e_.symm)) (fun hs_ => Or.elim hs_ (fun hs_ => fun e_ => Nat.not_le.2 hs_ (Kd.S_base HO303.out k_ e_.symm)) (fun hs_ => fun e_ => Nat.not_le.2 hs_ (Kd.S_base HO303.out k_ e_.symm)))) (fun hn_ => (Kd.fresh' (Kd.S_lt (by (with_reducible repeat (first | apply Kd.S_alloc | apply Kd.S_drewN | apply Kd.S_drew)); exact HO303.out)) k_ hn_)), Or.elim hk_ (fun hs_ => Or.elim hs_ (fun hs_ => fun e_ => Nat.not_le.2 hs_ (Kd.R_base HO307.out k_ e_.symm)) (fun hs_ => Or.elim hs_ (fun hs_ => fun e_ => Nat.not_le.2 hs_ (Kd.R_base HO307.out k_ e_.symm)) (fun hs_ => fun e_ => Nat.not_le.2 hs_ (Kd.R_base HO307.out k_ e_.symm)))) (fun hn_ => (Kd.fresh' (Kd.R_lt (fR HO307.out)) k_ hn_)), Or.elim hk_ (fun hs_ => Or.elim hs_ (fun hs_ => fun e_ => Nat.not_le.2 hs_ (Kd.R_base HO310.out k_ e_.symm)) (fun hs_ => Or.elim hs_ (fun hs_ => fun e_ => Nat.not_le.2 hs_ (Kd.R_base HO310.out k_ e_.symm)) (fun hs_ => fun e_ => Nat.not_le.2 hs_ (Kd.R_base HO310.out k_ e_.symm)))) (fun hn_ => (Kd.fresh' (Kd.R_lt (fR HO310.out)) k_ hn_)), Or.elim hk_ (fun hs_ => Or.elim hs_ (fun hs_ => fun e_ => Nat.not_le.2 hs_ (by rw [e_]; exact GW288.out)) (fun hs_ => Or.elim hs_ (fun hs_ => fun e_ => Nat.not_le.2 hs_ (by rw [e_]; exact GW288.out)) (fun hs_ => fun e_ => Nat.not_le.2 hs_ (by rw [e_]; exact GW288.out)))) (fun hn_ => (Kd.freshB (g := gb288) (o := .cells #[.slice A0_0 l0_0.length c0_0, .int .i64 a0_1, .slice A0_2 l0_2.length c0_2, .slice A0_3 l0_3.length c0_3] 26 (0, 0)) (fb BK288.out) k_ hn_)), Or.elim hk_ (fun hs_ => Or.elim hs_ (fun hs_ => fun e_ => Nat.not_le.2 hs_ (by rw [e_]; exact GW312.out)) (fun hs_ => Or.elim hs_ (fun hs_ => fun e_ => Nat.not_le.2 hs_ (by rw [e_]; exact GW312.out)) (fun hs_ => fun e_ => Nat.not_le.2 hs_ (by rw [e_]; exact GW312.out)))) (fun hn_ => (Kd.freshB (g := gb312) (o := .cells #[.slice Ao21 t301.length co21, .int .i64 t304, .slice Ao24 t305.length co24, .slice Ao25 t308.length co25] 33 (0, 0)) (fb BK312.out) k_ hn_))⟩)) (wz (fW HB.out))); have HO322 := am (Kd.V_lower (Kd.V_mono (ok' := fun k_ => some k_ ≠ (.slice Ao21 t301.length co21 : Value).ownBlock ∧ some k_ ≠ (.slice Ao24 t305.length co24 : Value).ownBlock ∧ some k_ ≠ (.slice Ao25 t308.length co25 : Value).ownBlock ∧ k_ ≠ gb288 ∧ k_ ≠ gb312) ho2 (fun k_ hk_ => ⟨Or.elim hk_ (fun hs_ => Or.elim hs_ (fun hs_ => fun e_ => Nat.not_le.2 hs_ (Kd.S_base HO303.out k_ e_.symm)) (fun hs_ => Or.elim hs_ (fun hs_ => fun e_ => Nat.not_le.2 hs_ (Kd.S_base HO303.out k_ e_.symm)) (fun hs_ => fun e_ => Nat.not_le.2 hs_ (Kd.S_base HO303.out k_ e_.symm)))) (fun hn_ => (Kd.fresh' (Kd.S_lt (by (with_reducible repeat (first | apply Kd.S_alloc | apply Kd.S_drewN | apply Kd.S_drew)); exact HO303.out)) k_ hn_)), Or.elim hk_ (fun hs_ => Or.elim hs_ (fun hs_ => fun e_ => Nat.not_le.2 hs_ (Kd.R_base HO307.out k_ e_.symm)) (fun hs_ => Or.elim hs_ (fun hs_ => fun e_ => Nat.not_le.2 hs_ (Kd.R_base HO307.out k_ e_.symm)) (fun hs_ => fun e_ => Nat.not_le.2 hs_ (Kd.R_base HO307.out k_ e_.symm)))) (fun hn_ => (Kd.fresh' (Kd.R_lt (fR HO307.out)) k_ hn_)), Or.elim hk_ (fun hs_ => Or.elim hs_ (fun hs_ => fun e_ => Nat.not_le.2 hs_ (Kd.R_base HO310.out k_ e_.symm)) (fun hs_ => Or.elim hs_ (fun hs_ => fun e_ => Nat.not_le.2 hs_ (Kd.R_base HO310.out k_ e_.symm)) (fun hs_ => fun e_ => Nat.not_le.2 hs_ (Kd.R_base HO310.out k_ e_.symm)))) (fun hn_ => (Kd.fresh' (Kd.R_lt (fR HO310.out)) k_ hn_)), Or.elim hk_ (fun hs_ => Or.elim hs_ (fun hs_ => fun e_ => Nat.not_le.2 hs_ (by rw [e_]; exact GW288.out)) (fun hs_ => Or.elim hs_ (fun hs_ => fun e_ => Nat.not_le.2 hs_ (by rw [e_]; exact GW288.out)) (fun hs_ => fun e_ => Nat.not_le.2 hs_ (by rw [e_]; exact GW288.out)))) (fun hn_ => (Kd.freshB (g := gb288) (o := .cells #[.slice A0_0 l0_0.length c0_0, .int .i64 a0_1, .slice A0_2 l0_2.length c0_2, .slice A0_3 l0_3.length c0_3] 26 (0, 0)) (fb BK288.out) k_ hn_)), Or.elim hk_ (fun hs_ => Or.elim hs_ (fun hs_ => fun e_ => Nat.not_le.2 hs_ (by rw [e_]; exact GW312.out)) (fun hs_ => Or.elim hs_ (fun hs_ => fun e_ => Nat.not_le.2 hs_ (by rw [e_]; exact GW312.out)) (fun hs_ => fun e_ => Nat.not_le.2 hs_ (by rw [e_]; exact GW312.out)))) (fun hn_ => (Kd.freshB (g := gb312) (o := .cells #[.slice Ao21 t301.length co21, .int .i64 t304, .slice Ao24 t305.length co24, .slice Ao25 t308.length co25] 33 (0, 0)) (fb BK312.out) k_ hn_))⟩)) (wz (fW HB.out))); replace HO303 := am (Kd.S_below (by (with_reducible repeat (first | apply Kd.S_alloc | apply Kd.S_drewN | apply Kd.S_drew)); exact HO303.out) hb); replace HO307 := dR HO307 hb; replace HO310 := dR HO310 hb; replace BK288 := bB BK288 hb; replace BK312 := bB BK312 hb; replace HB := bS HB hb; (try clear hb); (try clear hb2); (try clear hk); (try clear hi); (try clear ho0); (try clear ho1); (try clear ho2); obtain ⟨Ao29, co29, eo29⟩ := Kd.V_slice HO315.out; subst eo29; obtain ⟨Ao30, co30, eo30⟩ := Kd.V_slice HO319.out; subst eo30; obtain ⟨Ao31, co31, eo31⟩ := Kd.V_slice HO322.out; subst eo31) | ((with_reducible refine gc (f := 25) rfl ?_); refine goesL_ (some 25) rfl rfl Try.func25 (by kernel_rfl) rfl #[.agg #[.slice Ao29 t313.length co29, .int .i64 t316, .slice Ao30 t317.length co30, .slice Ao31 t320.length co31]] rfl (by (try simp only [pml]); first | done | rfl | (simp only [pdt]; rfl)) ?_; (with_reducible refine (replace_Free.calls k _ _ t313 t316 _ _ t317 _ _ t320 t323 t326 _ ?side1 ?side2 ?side3 ?side4 ?side5 ?side6 A8.out).mono ?_); (case side1 => repeat (first | exact (Kd.V_reads' HO315.out).2.2 | (with_reducible refine Kd.C_alloc ?_ _) | (with_reducible refine Kd.C_drewN ?_ _) | (with_reducible refine Kd.C_drew ?_))); (case side2 => exact (Kd.V_reads' HO315.out).2.1); (case side3 => repeat (first | exact (Kd.V_reads' HO319.out).2.2 | (with_reducible refine Kd.C_alloc ?_ _) | (with_reducible refine Kd.C_drewN ?_ _) | (with_reducible refine Kd.C_drew ?_))); (case side4 => exact (Kd.V_reads' HO319.out).2.1); (case side5 => repeat (first | exact (Kd.V_reads' HO322.out).2.2 | (with_reducible refine Kd.C_alloc ?_ _) | (with_reducible refine Kd.C_drewN ?_ _) | (with_reducible refine Kd.C_drew ?_))); (case side6 => exact (Kd.V_reads' HO322.out).2.1); rintro e w32 ⟨v324, rfl, ho0, hb⟩; refine ⟨_, rfl, ?_⟩; replace HO293 := am (Kd.V_elder' (fV HO293.out) (Kd.R_base ho0) hb); replace HO297 := am (Kd.V_elder' (fV HO297.out) (Kd.R_base ho0) hb); replace HO300 := am (Kd.V_elder' (fV HO300.out) (Kd.R_base ho0) hb); replace HO303 := am (Kd.S_elder' (by (with_reducible repeat (first | apply Kd.S_alloc | apply Kd.S_drewN | apply Kd.S_drew)); exact HO303.out) (Kd.R_base ho0) hb); replace HO310 := dR HO310 hb; replace HO315 := am (Kd.V_elder' (fV HO315.out) (Kd.R_base ho0) hb); replace HO319 := am (Kd.V_elder' (fV HO319.out) (Kd.R_base ho0) hb); replace HO322 := am (Kd.V_elder' (fV HO322.out) (Kd.R_base ho0) hb); have HO325 := am (Kd.R_lower (Kd.R_new' ho0 (Kd.R_lt (fR HO307.out))) (wz (fW HB.out))); replace HO307 := am (Kd.R_elder' (fR HO307.out) (Kd.R_base ho0) hb); replace BK288 := bB BK288 hb; replace BK312 := bB BK312 hb; replace HB := bS HB hb; (try clear hb); (try clear hb2); (try clear hk); (try clear hi); (try clear ho0); obtain ⟨_, _, _, _, _, _, _, _⟩ := zC4 BK288) | ((with_reducible refine gc (f := 14) rfl ?_); refine goesL_ (some 29) rfl rfl Try.func14 (by kernel_rfl) rfl #[.agg #[.slice A0_0 l0_0.length c0_0, .int .i64 a0_1, .slice A0_2 l0_2.length c0_2, .slice A0_3 l0_3.length c0_3]] rfl (by (try simp only [pml]); first | done | rfl | (simp only [pdt]; rfl)) ?_; (with_reducible refine (r_Check.calls _ _ l0_0 a0_1 _ _ l0_2 _ _ l0_3 t327 _ ?side1 ?side2 ?side3 ?side4 ?side5 ?side6 A9.out).mono ?_); (case side1 => repeat (first | exact (Kd.C_below HR0_0.out HB.out) | (with_reducible refine Kd.C_alloc ?_ _) | (with_reducible refine Kd.C_drewN ?_ _) | (with_reducible refine Kd.C_drew ?_))); (case side2 => exact HC0_0.out); (case side3 => repeat (first | exact (Kd.C_below HR0_2.out HB.out) | (with_reducible refine Kd.C_alloc ?_ _) | (with_reducible refine Kd.C_drewN ?_ _) | (with_reducible refine Kd.C_drew ?_))); (case side4 => exact HC0_2.out); (case side5 => repeat (first | exact (Kd.C_below HR0_3.out HB.out) | (with_reducible refine Kd.C_alloc ?_ _) | (with_reducible refine Kd.C_drewN ?_ _) | (with_reducible refine Kd.C_drew ?_))); (case side6 => exact HC0_3.out); rintro e w34 ⟨rfl, hb⟩; refine ⟨_, rfl, ?_⟩; replace HO293 := dV HO293 hb; replace HO297 := dV HO297 hb; replace HO300 := dV HO300 hb; replace HO303 := am (Kd.S_below (by (with_reducible repeat (first | apply Kd.S_alloc | apply Kd.S_drewN | apply Kd.S_drew)); exact HO303.out) hb); replace HO307 := dR HO307 hb; replace HO310 := dR HO310 hb; replace HO315 := dV HO315 hb; replace HO319 := dV HO319 hb; replace HO322 := dV HO322 hb; replace HO325 := dR HO325 hb; replace BK288 := bB BK288 hb; replace BK312 := bB BK312 hb; replace HB := bS HB hb; (try clear hb); (try clear hb2); (try clear hk); (try clear hi)))
  (try simp only [Act.put, psl])
  go_cut [39] (fun v39 wc => ∃ (kq : Nat) (x39_9 : Bool), v39 = .bool x39_9 ∧ Aside0 (w_ReplaceChecks.j0 kq a1 t311 t323 t327 x39_9 l0_0 a0_1 l0_2 l0_3 t301 t304 t305 t308 = some r) ∧ Aside0 (kq ≤ k) ∧ Aside0 (Kd.R (Kd.int .i64) 3 wc w.heap.size (fun k_ => some k_ ≠ ((.slice Ao24 t305.length co24) : Value).ownBlock) v324 t323) ∧ Aside0 (Kd.S (Kd.slice 3 (Kd.int .i64)) 23 wc w.heap.size (fun k_ => some k_ ≠ (v324 : Value).ownBlock ∧ some k_ ≠ ((.slice Ao24 t305.length co24) : Value).ownBlock) (.slice Ao21 t301.length co21) t301) ∧ Aside0 (Kd.R (Kd.int .i64) 3 wc w.heap.size (fun k_ => some k_ ≠ (v324 : Value).ownBlock) (.slice Ao24 t305.length co24) t305) ∧ Aside0 (Kd.R Kd.bool 4 wc w.heap.size (fun _ => True) (.slice Ao25 t308.length co25) t308) ∧ Aside0 (wc.heap[gb288]? = some (.cells #[(.slice A0_0 l0_0.length c0_0), .int .i64 a0_1, (.slice A0_2 l0_2.length c0_2), (.slice A0_3 l0_3.length c0_3)] 26 (0, 0))) ∧ Aside0 (wc.heap[gb312]? = some (.cells #[(.slice Ao21 t301.length co21), .int .i64 t304, (.slice Ao24 t305.length co24), (.slice Ao25 t308.length co25)] 33 (0, 0))) ∧ Aside0 (Below w.heap.size w wc))
  case first =>
   have H := HC10.out
   clear HC10
   replace H := Option.bind_eq_some_iff.mp H
   obtain ⟨⟨t328, t331, t332, t335⟩, A350, H⟩ := H
   replace H : ((replace_Check.f t328 t331 t332 t335).bind fun t338 => (if t338 = t327 then (w_ReplaceChecks.j0 k a1 t311 t323 t327 (t326 != t327) l0_0 a0_1 l0_2 l0_3 t301 t304 t305 t308) else (w_ReplaceChecks.j0 k a1 t311 t323 t327 true l0_0 a0_1 l0_2 l0_3 t301 t304 t305 t308))) = some r := H
   have A35 := am A350
   clear A350
   replace H := Option.bind_eq_some_iff.mp H
   obtain ⟨t338, A360, H⟩ := H
   replace H : (if t338 = t327 then (w_ReplaceChecks.j0 k a1 t311 t323 t327 (t326 != t327) l0_0 a0_1 l0_2 l0_3 t301 t304 t305 t308) else (w_ReplaceChecks.j0 k a1 t311 t323 t327 true l0_0 a0_1 l0_2 l0_3 t301 t304 t305 t308)) = some r := H
   have A36 := am A360
   clear A360
   by_cases c37 : t338 = t327
   ·rw [if_pos c37] at H
    have c37b0 : (t338 == t327) = true := beq_iff_eq.mpr c37
    have c37b1 : (t338 != t327) = false := bne_eq_false_iff_eq.mpr c37
    clear c37
    (first | rw [c37b0] | (simp only [i64_w, i32_w]; rw [c37b0]) | skip)
    have H' := am H
    clear H
    have hnb38 := NB288_312.out
    have hnc38 := NB312_288.out
    have := yC1 BK288
    have := kC1 BK288
    have := kC2 BK288
    have := kC3 BK288
    have := bf BK288.out 0
    have := bf BK288.out 1
    have := bf BK288.out 2
    have := bf BK288.out 3
    go_wp2_with (first | ((with_reducible refine gc (f := 13) rfl ?_); refine goesL_ (some 31) rfl rfl Try.func13 (by kernel_rfl) rfl #[.agg #[.slice A0_0 l0_0.length c0_0, .int .i64 a0_1, .slice A0_2 l0_2.length c0_2, .slice A0_3 l0_3.length c0_3]] rfl (by (try simp only [pml]); first | done | rfl | (simp only [pdt]; rfl)) ?_; (with_reducible refine (w_ours.calls (fun k_ => k_ < w.heap.size) _ _ l0_0 a0_1 (fun k_ => k_ < w.heap.size) _ _ l0_2 (fun k_ => k_ < w.heap.size) _ _ l0_3 t328 t331 t332 t335 _ ?side1 ?side2 ?side3 A35.out).mono ?_); (case side1 => exact Kd.V_mk HC0_0.out (Kd.F_below (Kd.C_F (Kd.heap_slice 3 (Kd.heap_int .i64)) HR0_0.out) (fW HB.out))); (case side2 => exact Kd.V_mk HC0_2.out (Kd.F_below (Kd.C_F (Kd.heap_int .i64) HR0_2.out) (fW HB.out))); (case side3 => exact Kd.V_mk HC0_3.out (Kd.F_below (Kd.C_F Kd.heap_bool HR0_3.out) (fW HB.out))); rintro e w40 ⟨v329, v333, v336, rfl, ho0, ho1, ho2, hb⟩; refine ⟨_, rfl, ?_⟩; replace HO293 := dV HO293 hb; replace HO297 := dV HO297 hb; replace HO300 := dV HO300 hb; replace HO315 := dV HO315 hb; replace HO319 := dV HO319 hb; replace HO322 := dV HO322 hb; have HO330 := am (Kd.V_lower (Kd.V_mono (ok' := fun k_ => some k_ ≠ (.slice Ao21 t301.length co21 : Value).ownBlock ∧ some k_ ≠ (.slice Ao24 t305.length co24 : Value).ownBlock ∧ some k_ ≠ (.slice Ao25 t308.length co25 : Value).ownBlock ∧ some k_ ≠ (v324 : Value).ownBlock ∧ k_ ≠ gb288 ∧ k_ ≠ gb312) ho0 (fun k_ hk_ => ⟨Or.elim hk_ (fun hs_ => Or.elim hs_ (fun hs_ => fun e_ => Nat.not_le.2 hs_ (Kd.S_base HO303.out k_ e_.symm)) (fun hs_ => Or.elim hs_ (fun hs_ => fun e_ => Nat.not_le.2 hs_ (Kd.S_base HO303.out k_ e_.symm)) (fun hs_ => fun e_ => Nat.not_le.2 hs_ (Kd.S_base HO303.out k_ e_.symm)))) (fun hn_ => (Kd.fresh' (Kd.S_lt (by (with_reducible repeat (first | apply Kd.S_alloc | apply Kd.S_drewN | apply Kd.S_drew)); exact HO303.out)) k_ hn_)), Or.elim hk_ (fun hs_ => Or.elim hs_ (fun hs_ => fun e_ => Nat.not_le.2 hs_ (Kd.R_base HO307.out k_ e_.symm)) (fun hs_ => Or.elim hs_ (fun hs_ => fun e_ => Nat.not_le.2 hs_ (Kd.R_base HO307.out k_ e_.symm)) (fun hs_ => fun e_ => Nat.not_le.2 hs_ (Kd.R_base HO307.out k_ e_.symm)))) (fun hn_ => (Kd.fresh' (Kd.R_lt (fR HO307.out)) k_ hn_)), Or.elim hk_ (fun hs_ => Or.elim hs_ (fun hs_ => fun e_ => Nat.not_le.2 hs_ (Kd.R_base HO310.out k_ e_.symm)) (fun hs_ => Or.elim hs_ (fun hs_ => fun e_ => Nat.not_le.2 hs_ (Kd.R_base HO310.out k_ e_.symm)) (fun hs_ => fun e_ => Nat.not_le.2 hs_ (Kd.R_base HO310.out k_ e_.symm)))) (fun hn_ => (Kd.fresh' (Kd.R_lt (fR HO310.out)) k_ hn_)), Or.elim hk_ (fun hs_ => Or.elim hs_ (fun hs_ => fun e_ => Nat.not_le.2 hs_ (Kd.R_base HO325.out k_ e_.symm)) (fun hs_ => Or.elim hs_ (fun hs_ => fun e_ => Nat.not_le.2 hs_ (Kd.R_base HO325.out k_ e_.symm)) (fun hs_ => fun e_ => Nat.not_le.2 hs_ (Kd.R_base HO325.out k_ e_.symm)))) (fun hn_ => (Kd.fresh' (Kd.R_lt (fR HO325.out)) k_ hn_)), Or.elim hk_ (fun hs_ => Or.elim hs_ (fun hs_ => fun e_ => Nat.not_le.2 hs_ (by rw [e_]; exact GW288.out)) (fun hs_ => Or.elim hs_ (fun hs_ => fun e_ => Nat.not_le.2 hs_ (by rw [e_]; exact GW288.out)) (fun hs_ => fun e_ => Nat.not_le.2 hs_ (by rw [e_]; exact GW288.out)))) (fun hn_ => (Kd.freshB (g := gb288) (o := .cells #[.slice A0_0 l0_0.length c0_0, .int .i64 a0_1, .slice A0_2 l0_2.length c0_2, .slice A0_3 l0_3.length c0_3] 26 (0, 0)) (fb BK288.out) k_ hn_)), Or.elim hk_ (fun hs_ => Or.elim hs_ (fun hs_ => fun e_ => Nat.not_le.2 hs_ (by rw [e_]; exact GW312.out)) (fun hs_ => Or.elim hs_ (fun hs_ => fun e_ => Nat.not_le.2 hs_ (by rw [e_]; exact GW312.out)) (fun hs_ => fun e_ => Nat.not_le.2 hs_ (by rw [e_]; exact GW312.out)))) (fun hn_ => (Kd.freshB (g := gb312) (o := .cells #[.slice Ao21 t301.length co21, .int .i64 t304, .slice Ao24 t305.length co24, .slice Ao25 t308.length co25] 33 (0, 0)) (fb BK312.out) k_ hn_))⟩)) (wz (fW HB.out))); have HO334 := am (Kd.V_lower (Kd.V_mono (ok' := fun k_ => some k_ ≠ (.slice Ao21 t301.length co21 : Value).ownBlock ∧ some k_ ≠ (.slice Ao24 t305.length co24 : Value).ownBlock ∧ some k_ ≠ (.slice Ao25 t308.length co25 : Value).ownBlock ∧ some k_ ≠ (v324 : Value).ownBlock ∧ k_ ≠ gb288 ∧ k_ ≠ gb312) ho1 (fun k_ hk_ => ⟨Or.elim hk_ (fun hs_ => Or.elim hs_ (fun hs_ => fun e_ => Nat.not_le.2 hs_ (Kd.S_base HO303.out k_ e_.symm)) (fun hs_ => Or.elim hs_ (fun hs_ => fun e_ => Nat.not_le.2 hs_ (Kd.S_base HO303.out k_ e_.symm)) (fun hs_ => fun e_ => Nat.not_le.2 hs_ (Kd.S_base HO303.out k_ e_.symm)))) (fun hn_ => (Kd.fresh' (Kd.S_lt (by (with_reducible repeat (first | apply Kd.S_alloc | apply Kd.S_drewN | apply Kd.S_drew)); exact HO303.out)) k_ hn_)), Or.elim hk_ (fun hs_ => Or.elim hs_ (fun hs_ => fun e_ => Nat.not_le.2 hs_ (Kd.R_base HO307.out k_ e_.symm)) (fun hs_ => Or.elim hs_ (fun hs_ => fun e_ => Nat.not_le.2 hs_ (Kd.R_base HO307.out k_ e_.symm)) (fun hs_ => fun e_ => Nat.not_le.2 hs_ (Kd.R_base HO307.out k_ e_.symm)))) (fun hn_ => (Kd.fresh' (Kd.R_lt (fR HO307.out)) k_ hn_)), Or.elim hk_ (fun hs_ => Or.elim hs_ (fun hs_ => fun e_ => Nat.not_le.2 hs_ (Kd.R_base HO310.out k_ e_.symm)) (fun hs_ => Or.elim hs_ (fun hs_ => fun e_ => Nat.not_le.2 hs_ (Kd.R_base HO310.out k_ e_.symm)) (fun hs_ => fun e_ => Nat.not_le.2 hs_ (Kd.R_base HO310.out k_ e_.symm)))) (fun hn_ => (Kd.fresh' (Kd.R_lt (fR HO310.out)) k_ hn_)), Or.elim hk_ (fun hs_ => Or.elim hs_ (fun hs_ => fun e_ => Nat.not_le.2 hs_ (Kd.R_base HO325.out k_ e_.symm)) (fun hs_ => Or.elim hs_ (fun hs_ => fun e_ => Nat.not_le.2 hs_ (Kd.R_base HO325.out k_ e_.symm)) (fun hs_ => fun e_ => Nat.not_le.2 hs_ (Kd.R_base HO325.out k_ e_.symm)))) (fun hn_ => (Kd.fresh' (Kd.R_lt (fR HO325.out)) k_ hn_)), Or.elim hk_ (fun hs_ => Or.elim hs_ (fun hs_ => fun e_ => Nat.not_le.2 hs_ (by rw [e_]; exact GW288.out)) (fun hs_ => Or.elim hs_ (fun hs_ => fun e_ => Nat.not_le.2 hs_ (by rw [e_]; exact GW288.out)) (fun hs_ => fun e_ => Nat.not_le.2 hs_ (by rw [e_]; exact GW288.out)))) (fun hn_ => (Kd.freshB (g := gb288) (o := .cells #[.slice A0_0 l0_0.length c0_0, .int .i64 a0_1, .slice A0_2 l0_2.length c0_2, .slice A0_3 l0_3.length c0_3] 26 (0, 0)) (fb BK288.out) k_ hn_)), Or.elim hk_ (fun hs_ => Or.elim hs_ (fun hs_ => fun e_ => Nat.not_le.2 hs_ (by rw [e_]; exact GW312.out)) (fun hs_ => Or.elim hs_ (fun hs_ => fun e_ => Nat.not_le.2 hs_ (by rw [e_]; exact GW312.out)) (fun hs_ => fun e_ => Nat.not_le.2 hs_ (by rw [e_]; exact GW312.out)))) (fun hn_ => (Kd.freshB (g := gb312) (o := .cells #[.slice Ao21 t301.length co21, .int .i64 t304, .slice Ao24 t305.length co24, .slice Ao25 t308.length co25] 33 (0, 0)) (fb BK312.out) k_ hn_))⟩)) (wz (fW HB.out))); have HO337 := am (Kd.V_lower (Kd.V_mono (ok' := fun k_ => some k_ ≠ (.slice Ao21 t301.length co21 : Value).ownBlock ∧ some k_ ≠ (.slice Ao24 t305.length co24 : Value).ownBlock ∧ some k_ ≠ (.slice Ao25 t308.length co25 : Value).ownBlock ∧ some k_ ≠ (v324 : Value).ownBlock ∧ k_ ≠ gb288 ∧ k_ ≠ gb312) ho2 (fun k_ hk_ => ⟨Or.elim hk_ (fun hs_ => Or.elim hs_ (fun hs_ => fun e_ => Nat.not_le.2 hs_ (Kd.S_base HO303.out k_ e_.symm)) (fun hs_ => Or.elim hs_ (fun hs_ => fun e_ => Nat.not_le.2 hs_ (Kd.S_base HO303.out k_ e_.symm)) (fun hs_ => fun e_ => Nat.not_le.2 hs_ (Kd.S_base HO303.out k_ e_.symm)))) (fun hn_ => (Kd.fresh' (Kd.S_lt (by (with_reducible repeat (first | apply Kd.S_alloc | apply Kd.S_drewN | apply Kd.S_drew)); exact HO303.out)) k_ hn_)), Or.elim hk_ (fun hs_ => Or.elim hs_ (fun hs_ => fun e_ => Nat.not_le.2 hs_ (Kd.R_base HO307.out k_ e_.symm)) (fun hs_ => Or.elim hs_ (fun hs_ => fun e_ => Nat.not_le.2 hs_ (Kd.R_base HO307.out k_ e_.symm)) (fun hs_ => fun e_ => Nat.not_le.2 hs_ (Kd.R_base HO307.out k_ e_.symm)))) (fun hn_ => (Kd.fresh' (Kd.R_lt (fR HO307.out)) k_ hn_)), Or.elim hk_ (fun hs_ => Or.elim hs_ (fun hs_ => fun e_ => Nat.not_le.2 hs_ (Kd.R_base HO310.out k_ e_.symm)) (fun hs_ => Or.elim hs_ (fun hs_ => fun e_ => Nat.not_le.2 hs_ (Kd.R_base HO310.out k_ e_.symm)) (fun hs_ => fun e_ => Nat.not_le.2 hs_ (Kd.R_base HO310.out k_ e_.symm)))) (fun hn_ => (Kd.fresh' (Kd.R_lt (fR HO310.out)) k_ hn_)), Or.elim hk_ (fun hs_ => Or.elim hs_ (fun hs_ => fun e_ => Nat.not_le.2 hs_ (Kd.R_base HO325.out k_ e_.symm)) (fun hs_ => Or.elim hs_ (fun hs_ => fun e_ => Nat.not_le.2 hs_ (Kd.R_base HO325.out k_ e_.symm)) (fun hs_ => fun e_ => Nat.not_le.2 hs_ (Kd.R_base HO325.out k_ e_.symm)))) (fun hn_ => (Kd.fresh' (Kd.R_lt (fR HO325.out)) k_ hn_)), Or.elim hk_ (fun hs_ => Or.elim hs_ (fun hs_ => fun e_ => Nat.not_le.2 hs_ (by rw [e_]; exact GW288.out)) (fun hs_ => Or.elim hs_ (fun hs_ => fun e_ => Nat.not_le.2 hs_ (by rw [e_]; exact GW288.out)) (fun hs_ => fun e_ => Nat.not_le.2 hs_ (by rw [e_]; exact GW288.out)))) (fun hn_ => (Kd.freshB (g := gb288) (o := .cells #[.slice A0_0 l0_0.length c0_0, .int .i64 a0_1, .slice A0_2 l0_2.length c0_2, .slice A0_3 l0_3.length c0_3] 26 (0, 0)) (fb BK288.out) k_ hn_)), Or.elim hk_ (fun hs_ => Or.elim hs_ (fun hs_ => fun e_ => Nat.not_le.2 hs_ (by rw [e_]; exact GW312.out)) (fun hs_ => Or.elim hs_ (fun hs_ => fun e_ => Nat.not_le.2 hs_ (by rw [e_]; exact GW312.out)) (fun hs_ => fun e_ => Nat.not_le.2 hs_ (by rw [e_]; exact GW312.out)))) (fun hn_ => (Kd.freshB (g := gb312) (o := .cells #[.slice Ao21 t301.length co21, .int .i64 t304, .slice Ao24 t305.length co24, .slice Ao25 t308.length co25] 33 (0, 0)) (fb BK312.out) k_ hn_))⟩)) (wz (fW HB.out))); replace HO303 := am (Kd.S_below (by (with_reducible repeat (first | apply Kd.S_alloc | apply Kd.S_drewN | apply Kd.S_drew)); exact HO303.out) hb); replace HO307 := dR HO307 hb; replace HO310 := dR HO310 hb; replace HO325 := dR HO325 hb; replace BK288 := bB BK288 hb; replace BK312 := bB BK312 hb; replace HB := bS HB hb; (try clear hb); (try clear hb2); (try clear hk); (try clear hi); (try clear ho0); (try clear ho1); (try clear ho2); obtain ⟨Ao41, co41, eo41⟩ := Kd.V_slice HO330.out; subst eo41; obtain ⟨Ao42, co42, eo42⟩ := Kd.V_slice HO334.out; subst eo42; obtain ⟨Ao43, co43, eo43⟩ := Kd.V_slice HO337.out; subst eo43) | ((with_reducible refine gc (f := 24) rfl ?_); refine goesL_ (some 32) rfl rfl Try.func24 (by kernel_rfl) rfl #[.agg #[.slice Ao41 t328.length co41, .int .i64 t331, .slice Ao42 t332.length co42, .slice Ao43 t335.length co43]] rfl (by (try simp only [pml]); first | done | rfl | (simp only [pdt]; rfl)) ?_; (with_reducible refine (replace_Check.calls _ _ t328 t331 _ _ t332 _ _ t335 t338 _ ?side1 ?side2 ?side3 ?side4 ?side5 ?side6 A36.out).mono ?_); (case side1 => repeat (first | exact (Kd.V_reads' HO330.out).2.2 | (with_reducible refine Kd.C_alloc ?_ _) | (with_reducible refine Kd.C_drewN ?_ _) | (with_reducible refine Kd.C_drew ?_))); (case side2 => exact (Kd.V_reads' HO330.out).2.1); (case side3 => repeat (first | exact (Kd.V_reads' HO334.out).2.2 | (with_reducible refine Kd.C_alloc ?_ _) | (with_reducible refine Kd.C_drewN ?_ _) | (with_reducible refine Kd.C_drew ?_))); (case side4 => exact (Kd.V_reads' HO334.out).2.1); (case side5 => repeat (first | exact (Kd.V_reads' HO337.out).2.2 | (with_reducible refine Kd.C_alloc ?_ _) | (with_reducible refine Kd.C_drewN ?_ _) | (with_reducible refine Kd.C_drew ?_))); (case side6 => exact (Kd.V_reads' HO337.out).2.1); rintro e w44 ⟨rfl, hb⟩; refine ⟨_, rfl, ?_⟩; replace HO293 := dV HO293 hb; replace HO297 := dV HO297 hb; replace HO300 := dV HO300 hb; replace HO303 := am (Kd.S_below (by (with_reducible repeat (first | apply Kd.S_alloc | apply Kd.S_drewN | apply Kd.S_drew)); exact HO303.out) hb); replace HO307 := dR HO307 hb; replace HO310 := dR HO310 hb; replace HO315 := dV HO315 hb; replace HO319 := dV HO319 hb; replace HO322 := dV HO322 hb; replace HO325 := dR HO325 hb; replace HO330 := dV HO330 hb; replace HO334 := dV HO334 hb; replace HO337 := dV HO337 hb; replace BK288 := bB BK288 hb; replace BK312 := bB BK312 hb; replace HB := bS HB hb; (try clear hb); (try clear hb2); (try clear hk); (try clear hi)))
    go_meet
    case rel => exact ⟨_, ((t326 != t327)), sqD, H', ⟨by first | omega | exact Nat.le_refl _⟩, ⟨by (with_reducible repeat (first | apply Kd.R_alloc | apply Kd.R_drewN | apply Kd.R_drew)); exact Kd.R_mono HO325.out (fun _ hk => hk.2)⟩, ⟨by (with_reducible repeat (first | apply Kd.S_alloc | apply Kd.S_drewN | apply Kd.S_drew)); exact Kd.S_mono HO303.out (fun _ hk => ⟨hk.2, hk.1⟩)⟩, ⟨by (with_reducible repeat (first | apply Kd.R_alloc | apply Kd.R_drewN | apply Kd.R_drew)); exact Kd.R_mono HO307.out (fun _ hk => hk.2)⟩, ⟨fR HO310.out⟩, ⟨fb BK288.out⟩, ⟨fb BK312.out⟩, ⟨fW HB.out⟩⟩
   rw [if_neg c37] at H
   have c37b0 : (t338 == t327) = false := beq_eq_false_iff_ne.mpr c37
   have c37b1 : (t338 != t327) = true := bne_iff_ne.mpr c37
   (first | rw [c37b0] | (simp only [i64_w, i32_w]; rw [c37b0]) | skip)
   have H' := am H
   clear H
   have hnb45 := NB288_312.out
   have hnc45 := NB312_288.out
   have := yC1 BK288
   have := kC1 BK288
   have := kC2 BK288
   have := kC3 BK288
   have := bf BK288.out 0
   have := bf BK288.out 1
   have := bf BK288.out 2
   have := bf BK288.out 3
   go_wp2_with (first | ((with_reducible refine gc (f := 13) rfl ?_); refine goesL_ (some 31) rfl rfl Try.func13 (by kernel_rfl) rfl #[.agg #[.slice A0_0 l0_0.length c0_0, .int .i64 a0_1, .slice A0_2 l0_2.length c0_2, .slice A0_3 l0_3.length c0_3]] rfl (by (try simp only [pml]); first | done | rfl | (simp only [pdt]; rfl)) ?_; (with_reducible refine (w_ours.calls (fun k_ => k_ < w.heap.size) _ _ l0_0 a0_1 (fun k_ => k_ < w.heap.size) _ _ l0_2 (fun k_ => k_ < w.heap.size) _ _ l0_3 t328 t331 t332 t335 _ ?side1 ?side2 ?side3 A35.out).mono ?_); (case side1 => exact Kd.V_mk HC0_0.out (Kd.F_below (Kd.C_F (Kd.heap_slice 3 (Kd.heap_int .i64)) HR0_0.out) (fW HB.out))); (case side2 => exact Kd.V_mk HC0_2.out (Kd.F_below (Kd.C_F (Kd.heap_int .i64) HR0_2.out) (fW HB.out))); (case side3 => exact Kd.V_mk HC0_3.out (Kd.F_below (Kd.C_F Kd.heap_bool HR0_3.out) (fW HB.out))); rintro e w47 ⟨v329, v333, v336, rfl, ho0, ho1, ho2, hb⟩; refine ⟨_, rfl, ?_⟩; replace HO293 := dV HO293 hb; replace HO297 := dV HO297 hb; replace HO300 := dV HO300 hb; replace HO315 := dV HO315 hb; replace HO319 := dV HO319 hb; replace HO322 := dV HO322 hb; have HO330 := am (Kd.V_lower (Kd.V_mono (ok' := fun k_ => some k_ ≠ (.slice Ao21 t301.length co21 : Value).ownBlock ∧ some k_ ≠ (.slice Ao24 t305.length co24 : Value).ownBlock ∧ some k_ ≠ (.slice Ao25 t308.length co25 : Value).ownBlock ∧ some k_ ≠ (v324 : Value).ownBlock ∧ k_ ≠ gb288 ∧ k_ ≠ gb312) ho0 (fun k_ hk_ => ⟨Or.elim hk_ (fun hs_ => Or.elim hs_ (fun hs_ => fun e_ => Nat.not_le.2 hs_ (Kd.S_base HO303.out k_ e_.symm)) (fun hs_ => Or.elim hs_ (fun hs_ => fun e_ => Nat.not_le.2 hs_ (Kd.S_base HO303.out k_ e_.symm)) (fun hs_ => fun e_ => Nat.not_le.2 hs_ (Kd.S_base HO303.out k_ e_.symm)))) (fun hn_ => (Kd.fresh' (Kd.S_lt (by (with_reducible repeat (first | apply Kd.S_alloc | apply Kd.S_drewN | apply Kd.S_drew)); exact HO303.out)) k_ hn_)), Or.elim hk_ (fun hs_ => Or.elim hs_ (fun hs_ => fun e_ => Nat.not_le.2 hs_ (Kd.R_base HO307.out k_ e_.symm)) (fun hs_ => Or.elim hs_ (fun hs_ => fun e_ => Nat.not_le.2 hs_ (Kd.R_base HO307.out k_ e_.symm)) (fun hs_ => fun e_ => Nat.not_le.2 hs_ (Kd.R_base HO307.out k_ e_.symm)))) (fun hn_ => (Kd.fresh' (Kd.R_lt (fR HO307.out)) k_ hn_)), Or.elim hk_ (fun hs_ => Or.elim hs_ (fun hs_ => fun e_ => Nat.not_le.2 hs_ (Kd.R_base HO310.out k_ e_.symm)) (fun hs_ => Or.elim hs_ (fun hs_ => fun e_ => Nat.not_le.2 hs_ (Kd.R_base HO310.out k_ e_.symm)) (fun hs_ => fun e_ => Nat.not_le.2 hs_ (Kd.R_base HO310.out k_ e_.symm)))) (fun hn_ => (Kd.fresh' (Kd.R_lt (fR HO310.out)) k_ hn_)), Or.elim hk_ (fun hs_ => Or.elim hs_ (fun hs_ => fun e_ => Nat.not_le.2 hs_ (Kd.R_base HO325.out k_ e_.symm)) (fun hs_ => Or.elim hs_ (fun hs_ => fun e_ => Nat.not_le.2 hs_ (Kd.R_base HO325.out k_ e_.symm)) (fun hs_ => fun e_ => Nat.not_le.2 hs_ (Kd.R_base HO325.out k_ e_.symm)))) (fun hn_ => (Kd.fresh' (Kd.R_lt (fR HO325.out)) k_ hn_)), Or.elim hk_ (fun hs_ => Or.elim hs_ (fun hs_ => fun e_ => Nat.not_le.2 hs_ (by rw [e_]; exact GW288.out)) (fun hs_ => Or.elim hs_ (fun hs_ => fun e_ => Nat.not_le.2 hs_ (by rw [e_]; exact GW288.out)) (fun hs_ => fun e_ => Nat.not_le.2 hs_ (by rw [e_]; exact GW288.out)))) (fun hn_ => (Kd.freshB (g := gb288) (o := .cells #[.slice A0_0 l0_0.length c0_0, .int .i64 a0_1, .slice A0_2 l0_2.length c0_2, .slice A0_3 l0_3.length c0_3] 26 (0, 0)) (fb BK288.out) k_ hn_)), Or.elim hk_ (fun hs_ => Or.elim hs_ (fun hs_ => fun e_ => Nat.not_le.2 hs_ (by rw [e_]; exact GW312.out)) (fun hs_ => Or.elim hs_ (fun hs_ => fun e_ => Nat.not_le.2 hs_ (by rw [e_]; exact GW312.out)) (fun hs_ => fun e_ => Nat.not_le.2 hs_ (by rw [e_]; exact GW312.out)))) (fun hn_ => (Kd.freshB (g := gb312) (o := .cells #[.slice Ao21 t301.length co21, .int .i64 t304, .slice Ao24 t305.length co24, .slice Ao25 t308.length co25] 33 (0, 0)) (fb BK312.out) k_ hn_))⟩)) (wz (fW HB.out))); have HO334 := am (Kd.V_lower (Kd.V_mono (ok' := fun k_ => some k_ ≠ (.slice Ao21 t301.length co21 : Value).ownBlock ∧ some k_ ≠ (.slice Ao24 t305.length co24 : Value).ownBlock ∧ some k_ ≠ (.slice Ao25 t308.length co25 : Value).ownBlock ∧ some k_ ≠ (v324 : Value).ownBlock ∧ k_ ≠ gb288 ∧ k_ ≠ gb312) ho1 (fun k_ hk_ => ⟨Or.elim hk_ (fun hs_ => Or.elim hs_ (fun hs_ => fun e_ => Nat.not_le.2 hs_ (Kd.S_base HO303.out k_ e_.symm)) (fun hs_ => Or.elim hs_ (fun hs_ => fun e_ => Nat.not_le.2 hs_ (Kd.S_base HO303.out k_ e_.symm)) (fun hs_ => fun e_ => Nat.not_le.2 hs_ (Kd.S_base HO303.out k_ e_.symm)))) (fun hn_ => (Kd.fresh' (Kd.S_lt (by (with_reducible repeat (first | apply Kd.S_alloc | apply Kd.S_drewN | apply Kd.S_drew)); exact HO303.out)) k_ hn_)), Or.elim hk_ (fun hs_ => Or.elim hs_ (fun hs_ => fun e_ => Nat.not_le.2 hs_ (Kd.R_base HO307.out k_ e_.symm)) (fun hs_ => Or.elim hs_ (fun hs_ => fun e_ => Nat.not_le.2 hs_ (Kd.R_base HO307.out k_ e_.symm)) (fun hs_ => fun e_ => Nat.not_le.2 hs_ (Kd.R_base HO307.out k_ e_.symm)))) (fun hn_ => (Kd.fresh' (Kd.R_lt (fR HO307.out)) k_ hn_)), Or.elim hk_ (fun hs_ => Or.elim hs_ (fun hs_ => fun e_ => Nat.not_le.2 hs_ (Kd.R_base HO310.out k_ e_.symm)) (fun hs_ => Or.elim hs_ (fun hs_ => fun e_ => Nat.not_le.2 hs_ (Kd.R_base HO310.out k_ e_.symm)) (fun hs_ => fun e_ => Nat.not_le.2 hs_ (Kd.R_base HO310.out k_ e_.symm)))) (fun hn_ => (Kd.fresh' (Kd.R_lt (fR HO310.out)) k_ hn_)), Or.elim hk_ (fun hs_ => Or.elim hs_ (fun hs_ => fun e_ => Nat.not_le.2 hs_ (Kd.R_base HO325.out k_ e_.symm)) (fun hs_ => Or.elim hs_ (fun hs_ => fun e_ => Nat.not_le.2 hs_ (Kd.R_base HO325.out k_ e_.symm)) (fun hs_ => fun e_ => Nat.not_le.2 hs_ (Kd.R_base HO325.out k_ e_.symm)))) (fun hn_ => (Kd.fresh' (Kd.R_lt (fR HO325.out)) k_ hn_)), Or.elim hk_ (fun hs_ => Or.elim hs_ (fun hs_ => fun e_ => Nat.not_le.2 hs_ (by rw [e_]; exact GW288.out)) (fun hs_ => Or.elim hs_ (fun hs_ => fun e_ => Nat.not_le.2 hs_ (by rw [e_]; exact GW288.out)) (fun hs_ => fun e_ => Nat.not_le.2 hs_ (by rw [e_]; exact GW288.out)))) (fun hn_ => (Kd.freshB (g := gb288) (o := .cells #[.slice A0_0 l0_0.length c0_0, .int .i64 a0_1, .slice A0_2 l0_2.length c0_2, .slice A0_3 l0_3.length c0_3] 26 (0, 0)) (fb BK288.out) k_ hn_)), Or.elim hk_ (fun hs_ => Or.elim hs_ (fun hs_ => fun e_ => Nat.not_le.2 hs_ (by rw [e_]; exact GW312.out)) (fun hs_ => Or.elim hs_ (fun hs_ => fun e_ => Nat.not_le.2 hs_ (by rw [e_]; exact GW312.out)) (fun hs_ => fun e_ => Nat.not_le.2 hs_ (by rw [e_]; exact GW312.out)))) (fun hn_ => (Kd.freshB (g := gb312) (o := .cells #[.slice Ao21 t301.length co21, .int .i64 t304, .slice Ao24 t305.length co24, .slice Ao25 t308.length co25] 33 (0, 0)) (fb BK312.out) k_ hn_))⟩)) (wz (fW HB.out))); have HO337 := am (Kd.V_lower (Kd.V_mono (ok' := fun k_ => some k_ ≠ (.slice Ao21 t301.length co21 : Value).ownBlock ∧ some k_ ≠ (.slice Ao24 t305.length co24 : Value).ownBlock ∧ some k_ ≠ (.slice Ao25 t308.length co25 : Value).ownBlock ∧ some k_ ≠ (v324 : Value).ownBlock ∧ k_ ≠ gb288 ∧ k_ ≠ gb312) ho2 (fun k_ hk_ => ⟨Or.elim hk_ (fun hs_ => Or.elim hs_ (fun hs_ => fun e_ => Nat.not_le.2 hs_ (Kd.S_base HO303.out k_ e_.symm)) (fun hs_ => Or.elim hs_ (fun hs_ => fun e_ => Nat.not_le.2 hs_ (Kd.S_base HO303.out k_ e_.symm)) (fun hs_ => fun e_ => Nat.not_le.2 hs_ (Kd.S_base HO303.out k_ e_.symm)))) (fun hn_ => (Kd.fresh' (Kd.S_lt (by (with_reducible repeat (first | apply Kd.S_alloc | apply Kd.S_drewN | apply Kd.S_drew)); exact HO303.out)) k_ hn_)), Or.elim hk_ (fun hs_ => Or.elim hs_ (fun hs_ => fun e_ => Nat.not_le.2 hs_ (Kd.R_base HO307.out k_ e_.symm)) (fun hs_ => Or.elim hs_ (fun hs_ => fun e_ => Nat.not_le.2 hs_ (Kd.R_base HO307.out k_ e_.symm)) (fun hs_ => fun e_ => Nat.not_le.2 hs_ (Kd.R_base HO307.out k_ e_.symm)))) (fun hn_ => (Kd.fresh' (Kd.R_lt (fR HO307.out)) k_ hn_)), Or.elim hk_ (fun hs_ => Or.elim hs_ (fun hs_ => fun e_ => Nat.not_le.2 hs_ (Kd.R_base HO310.out k_ e_.symm)) (fun hs_ => Or.elim hs_ (fun hs_ => fun e_ => Nat.not_le.2 hs_ (Kd.R_base HO310.out k_ e_.symm)) (fun hs_ => fun e_ => Nat.not_le.2 hs_ (Kd.R_base HO310.out k_ e_.symm)))) (fun hn_ => (Kd.fresh' (Kd.R_lt (fR HO310.out)) k_ hn_)), Or.elim hk_ (fun hs_ => Or.elim hs_ (fun hs_ => fun e_ => Nat.not_le.2 hs_ (Kd.R_base HO325.out k_ e_.symm)) (fun hs_ => Or.elim hs_ (fun hs_ => fun e_ => Nat.not_le.2 hs_ (Kd.R_base HO325.out k_ e_.symm)) (fun hs_ => fun e_ => Nat.not_le.2 hs_ (Kd.R_base HO325.out k_ e_.symm)))) (fun hn_ => (Kd.fresh' (Kd.R_lt (fR HO325.out)) k_ hn_)), Or.elim hk_ (fun hs_ => Or.elim hs_ (fun hs_ => fun e_ => Nat.not_le.2 hs_ (by rw [e_]; exact GW288.out)) (fun hs_ => Or.elim hs_ (fun hs_ => fun e_ => Nat.not_le.2 hs_ (by rw [e_]; exact GW288.out)) (fun hs_ => fun e_ => Nat.not_le.2 hs_ (by rw [e_]; exact GW288.out)))) (fun hn_ => (Kd.freshB (g := gb288) (o := .cells #[.slice A0_0 l0_0.length c0_0, .int .i64 a0_1, .slice A0_2 l0_2.length c0_2, .slice A0_3 l0_3.length c0_3] 26 (0, 0)) (fb BK288.out) k_ hn_)), Or.elim hk_ (fun hs_ => Or.elim hs_ (fun hs_ => fun e_ => Nat.not_le.2 hs_ (by rw [e_]; exact GW312.out)) (fun hs_ => Or.elim hs_ (fun hs_ => fun e_ => Nat.not_le.2 hs_ (by rw [e_]; exact GW312.out)) (fun hs_ => fun e_ => Nat.not_le.2 hs_ (by rw [e_]; exact GW312.out)))) (fun hn_ => (Kd.freshB (g := gb312) (o := .cells #[.slice Ao21 t301.length co21, .int .i64 t304, .slice Ao24 t305.length co24, .slice Ao25 t308.length co25] 33 (0, 0)) (fb BK312.out) k_ hn_))⟩)) (wz (fW HB.out))); replace HO303 := am (Kd.S_below (by (with_reducible repeat (first | apply Kd.S_alloc | apply Kd.S_drewN | apply Kd.S_drew)); exact HO303.out) hb); replace HO307 := dR HO307 hb; replace HO310 := dR HO310 hb; replace HO325 := dR HO325 hb; replace BK288 := bB BK288 hb; replace BK312 := bB BK312 hb; replace HB := bS HB hb; (try clear hb); (try clear hb2); (try clear hk); (try clear hi); (try clear ho0); (try clear ho1); (try clear ho2); obtain ⟨Ao48, co48, eo48⟩ := Kd.V_slice HO330.out; subst eo48; obtain ⟨Ao49, co49, eo49⟩ := Kd.V_slice HO334.out; subst eo49; obtain ⟨Ao50, co50, eo50⟩ := Kd.V_slice HO337.out; subst eo50) | ((with_reducible refine gc (f := 24) rfl ?_); refine goesL_ (some 32) rfl rfl Try.func24 (by kernel_rfl) rfl #[.agg #[.slice Ao48 t328.length co48, .int .i64 t331, .slice Ao49 t332.length co49, .slice Ao50 t335.length co50]] rfl (by (try simp only [pml]); first | done | rfl | (simp only [pdt]; rfl)) ?_; (with_reducible refine (replace_Check.calls _ _ t328 t331 _ _ t332 _ _ t335 t338 _ ?side1 ?side2 ?side3 ?side4 ?side5 ?side6 A36.out).mono ?_); (case side1 => repeat (first | exact (Kd.V_reads' HO330.out).2.2 | (with_reducible refine Kd.C_alloc ?_ _) | (with_reducible refine Kd.C_drewN ?_ _) | (with_reducible refine Kd.C_drew ?_))); (case side2 => exact (Kd.V_reads' HO330.out).2.1); (case side3 => repeat (first | exact (Kd.V_reads' HO334.out).2.2 | (with_reducible refine Kd.C_alloc ?_ _) | (with_reducible refine Kd.C_drewN ?_ _) | (with_reducible refine Kd.C_drew ?_))); (case side4 => exact (Kd.V_reads' HO334.out).2.1); (case side5 => repeat (first | exact (Kd.V_reads' HO337.out).2.2 | (with_reducible refine Kd.C_alloc ?_ _) | (with_reducible refine Kd.C_drewN ?_ _) | (with_reducible refine Kd.C_drew ?_))); (case side6 => exact (Kd.V_reads' HO337.out).2.1); rintro e w51 ⟨rfl, hb⟩; refine ⟨_, rfl, ?_⟩; replace HO293 := dV HO293 hb; replace HO297 := dV HO297 hb; replace HO300 := dV HO300 hb; replace HO303 := am (Kd.S_below (by (with_reducible repeat (first | apply Kd.S_alloc | apply Kd.S_drewN | apply Kd.S_drew)); exact HO303.out) hb); replace HO307 := dR HO307 hb; replace HO310 := dR HO310 hb; replace HO315 := dV HO315 hb; replace HO319 := dV HO319 hb; replace HO322 := dV HO322 hb; replace HO325 := dR HO325 hb; replace HO330 := dV HO330 hb; replace HO334 := dV HO334 hb; replace HO337 := dV HO337 hb; replace BK288 := bB BK288 hb; replace BK312 := bB BK312 hb; replace HB := bS HB hb; (try clear hb); (try clear hb2); (try clear hk); (try clear hi)))
   go_meet
   case rel => exact ⟨_, (true), sqD, H', ⟨by first | omega | exact Nat.le_refl _⟩, ⟨by (with_reducible repeat (first | apply Kd.R_alloc | apply Kd.R_drewN | apply Kd.R_drew)); exact Kd.R_mono HO325.out (fun _ hk => hk.2)⟩, ⟨by (with_reducible repeat (first | apply Kd.S_alloc | apply Kd.S_drewN | apply Kd.S_drew)); exact Kd.S_mono HO303.out (fun _ hk => ⟨hk.2, hk.1⟩)⟩, ⟨by (with_reducible repeat (first | apply Kd.R_alloc | apply Kd.R_drewN | apply Kd.R_drew)); exact Kd.R_mono HO307.out (fun _ hk => hk.2)⟩, ⟨fR HO310.out⟩, ⟨fb BK288.out⟩, ⟨fb BK312.out⟩, ⟨fW HB.out⟩⟩
  case rest =>
   clear HC10
   try clear c1;try clear c2;try clear p2;try clear c3;try clear c4;try clear c6;try clear c10;try clear c13;try clear c14;try clear c22;try clear c23;try clear c24;try clear c25;try clear c37;try clear c37b0;try clear c37b1;try clear c38;try clear c45
   obtain ⟨kq, x39_9, rfl, HA, HJ9, HO_7, HO_313000, HO_313002, HO_313003, BK288, BK312, HB⟩ := hcut
   cases kq with
   | zero => exact absurd HA.out (by simp [w_ReplaceChecks.j0])
   | succ kj9 =>
    have H := HA.out
    clear HA
    simp only [w_ReplaceChecks.j0] at H
    by_cases c52 : x39_9 = true
    ·subst c52
     have H1 : (some false) = some r := by rw [if_pos rfl] at H; exact H
     clear H
     have H := H1
     clear H1
     obtain rfl := Option.some.inj H
     go_wp2
     go_ret
     exact ⟨sqE, fW HB.out⟩
    replace c52 := Bool.eq_false_iff.mpr c52
    subst c52
    have H1 : (if t327 = 0 then ((r_Free.f kj9 l0_0 a0_1 l0_2 l0_3).bind fun t351 => ((r_SameInts.f kj9 t323 t351).bind fun t354 => (if t354 = true then (if a1 < 0 then (w_ReplaceChecks.j2 kj9 a1 t311 true l0_0 a0_1 l0_2 l0_3 t301 t304 t305 t308) else (w_ReplaceChecks.j2 kj9 a1 t311 (decide (a1 ≥ a0_1)) l0_0 a0_1 l0_2 l0_3 t301 t304 t305 t308)) else (some false)))) else ((w_awake.f kj9).bind fun t339 => (if t339 = true then (if t311 = t327 then ((w_theirs.f t301 t304 t305 t308).bind fun bt340 => ((r_Same.f kj9 bt340.1 bt340.2.1 bt340.2.2.1 bt340.2.2.2 ([] : List (List Int)) 0 ([] : List Int) ([] : List Bool)).bind fun t350 => (if t350 = true then (w_ReplaceChecks.j1 kj9 ((t323.length : Int) == 0)) else (w_ReplaceChecks.j1 kj9 false)))) else (w_ReplaceChecks.j1 kj9 false)) else (w_ReplaceChecks.j1 kj9 false)))) = some r := by rw [if_neg (show ¬ (false = true) by decide)] at H; exact H
    clear H
    have H := H1
    clear H1
    by_cases c53 : t327 = 0
    rotate_left
    ·rw [if_neg c53] at H
     have c53b0 : (t327 == 0) = false := beq_eq_false_iff_ne.mpr c53
     have c53b1 : (t327 != 0) = true := bne_iff_ne.mpr c53
     have HC137 := am H
     clear H
     go_upto_region 9 with (fail)
     go_cut [4] (fun v4 wc => ∃ (kq : Nat) (x4_136 : Bool), v4 = .bool x4_136 ∧ Aside0 (w_ReplaceChecks.j1 kq x4_136 = some r) ∧ Aside0 (kq ≤ kj9) ∧ Aside0 (Kd.S (Kd.slice 3 (Kd.int .i64)) 23 wc w.heap.size (fun k_ => some k_ ≠ ((.slice Ao24 t305.length co24) : Value).ownBlock) (.slice Ao21 t301.length co21) t301) ∧ Aside0 (Kd.R (Kd.int .i64) 3 wc w.heap.size (fun _ => True) (.slice Ao24 t305.length co24) t305) ∧ Aside0 (Kd.R Kd.bool 4 wc w.heap.size (fun _ => True) (.slice Ao25 t308.length co25) t308) ∧ Aside0 (wc.heap[gb288]? = some (.cells #[(.slice A0_0 l0_0.length c0_0), .int .i64 a0_1, (.slice A0_2 l0_2.length c0_2), (.slice A0_3 l0_3.length c0_3)] 26 (0, 0))) ∧ Aside0 (wc.heap[gb312]? = some (.cells #[(.slice Ao21 t301.length co21), .int .i64 t304, (.slice Ao24 t305.length co24), (.slice Ao25 t308.length co25)] 33 (0, 0))) ∧ Aside0 (Below w.heap.size w wc))
     case first =>
      have H := HC137.out
      clear HC137
      replace H := Option.bind_eq_some_iff.mp H
      obtain ⟨t339, A1380, H⟩ := H
      replace H : (if t339 = true then (if t311 = t327 then ((w_theirs.f t301 t304 t305 t308).bind fun bt340 => ((r_Same.f kj9 bt340.1 bt340.2.1 bt340.2.2.1 bt340.2.2.2 ([] : List (List Int)) 0 ([] : List Int) ([] : List Bool)).bind fun t350 => (if t350 = true then (w_ReplaceChecks.j1 kj9 ((t323.length : Int) == 0)) else (w_ReplaceChecks.j1 kj9 false)))) else (w_ReplaceChecks.j1 kj9 false)) else (w_ReplaceChecks.j1 kj9 false)) = some r := H
      have A138 := am A1380
      clear A1380
      by_cases c139 : t339 = true
      rotate_left
      ·replace c139 := Bool.eq_false_iff.mpr c139
       subst c139
       have H1 : (w_ReplaceChecks.j1 kj9 false) = some r := by rw [if_neg (show ¬ (false = true) by decide)] at H; exact H
       clear H
       have H := H1
       clear H1
       have H' := am H
       clear H
       go_wp2_with (first | ((with_reducible refine gc (f := 11) rfl ?_); refine goesL_ (some 42) rfl rfl Try.func11 (by kernel_rfl) rfl #[] rfl (by (try simp only [pml]); first | done | rfl | (simp only [pdt]; rfl)) ?_; (with_reducible refine (w_awake.calls kj9  false _ A138.out).mono ?_); rintro e w162 ⟨rfl, hb⟩; refine ⟨_, rfl, ?_⟩; replace HO_7 := dR HO_7 hb; replace HO_313000 := am (Kd.S_below (by (with_reducible repeat (first | apply Kd.S_alloc | apply Kd.S_drewN | apply Kd.S_drew)); exact HO_313000.out) hb); replace HO_313002 := dR HO_313002 hb; replace HO_313003 := dR HO_313003 hb; replace BK288 := bB BK288 hb; replace BK312 := bB BK312 hb; replace HB := bS HB hb; (try clear hb); (try clear hb2); (try clear hk); (try clear hi)))
       go_meet
       case rel => exact ⟨_, (false), sqD, H', ⟨by have := HJ9.out; first | omega | exact Nat.le_refl _⟩, ⟨by (with_reducible repeat (first | apply Kd.S_alloc | apply Kd.S_drewN | apply Kd.S_drew)); exact Kd.S_mono HO_313000.out (fun _ hk => hk.2)⟩, ⟨by (with_reducible repeat (first | apply Kd.R_alloc | apply Kd.R_drewN | apply Kd.R_drew)); exact Kd.R_mono HO_313002.out (fun _ hk => trivial)⟩, ⟨fR HO_313003.out⟩, ⟨fb BK288.out⟩, ⟨fb BK312.out⟩, ⟨fW HB.out⟩⟩
      subst c139
      have H1 : (if t311 = t327 then ((w_theirs.f t301 t304 t305 t308).bind fun bt340 => ((r_Same.f kj9 bt340.1 bt340.2.1 bt340.2.2.1 bt340.2.2.2 ([] : List (List Int)) 0 ([] : List Int) ([] : List Bool)).bind fun t350 => (if t350 = true then (w_ReplaceChecks.j1 kj9 ((t323.length : Int) == 0)) else (w_ReplaceChecks.j1 kj9 false)))) else (w_ReplaceChecks.j1 kj9 false)) = some r := by rw [if_pos rfl] at H; exact H
      clear H
      have H := H1
      clear H1
      by_cases c140 : t311 = t327
      rotate_left
      ·rw [if_neg c140] at H
       have c140b0 : (t311 == t327) = false := beq_eq_false_iff_ne.mpr c140
       have c140b1 : (t311 != t327) = true := bne_iff_ne.mpr c140
       (first | rw [c140b0] | (simp only [i64_w, i32_w]; rw [c140b0]) | skip)
       have H' := am H
       clear H
       go_wp2_with (first | ((with_reducible refine gc (f := 11) rfl ?_); refine goesL_ (some 42) rfl rfl Try.func11 (by kernel_rfl) rfl #[] rfl (by (try simp only [pml]); first | done | rfl | (simp only [pdt]; rfl)) ?_; (with_reducible refine (w_awake.calls kj9  true _ A138.out).mono ?_); rintro e w161 ⟨rfl, hb⟩; refine ⟨_, rfl, ?_⟩; replace HO_7 := dR HO_7 hb; replace HO_313000 := am (Kd.S_below (by (with_reducible repeat (first | apply Kd.S_alloc | apply Kd.S_drewN | apply Kd.S_drew)); exact HO_313000.out) hb); replace HO_313002 := dR HO_313002 hb; replace HO_313003 := dR HO_313003 hb; replace BK288 := bB BK288 hb; replace BK312 := bB BK312 hb; replace HB := bS HB hb; (try clear hb); (try clear hb2); (try clear hk); (try clear hi)))
       go_meet
       case rel => exact ⟨_, (false), sqD, H', ⟨by have := HJ9.out; first | omega | exact Nat.le_refl _⟩, ⟨by (with_reducible repeat (first | apply Kd.S_alloc | apply Kd.S_drewN | apply Kd.S_drew)); exact Kd.S_mono HO_313000.out (fun _ hk => hk.2)⟩, ⟨by (with_reducible repeat (first | apply Kd.R_alloc | apply Kd.R_drewN | apply Kd.R_drew)); exact Kd.R_mono HO_313002.out (fun _ hk => trivial)⟩, ⟨fR HO_313003.out⟩, ⟨fb BK288.out⟩, ⟨fb BK312.out⟩, ⟨fW HB.out⟩⟩
      rw [if_pos c140] at H
      have c140b0 : (t311 == t327) = true := beq_iff_eq.mpr c140
      have c140b1 : (t311 != t327) = false := bne_eq_false_iff_eq.mpr c140
      clear c140
      (first | rw [c140b0] | (simp only [i64_w, i32_w]; rw [c140b0]) | skip)
      replace H := Option.bind_eq_some_iff.mp H
      obtain ⟨⟨t340, t343, t344, t347⟩, A1410, H⟩ := H
      replace H : ((r_Same.f kj9 t340 t343 t344 t347 ([] : List (List Int)) 0 ([] : List Int) ([] : List Bool)).bind fun t350 => (if t350 = true then (w_ReplaceChecks.j1 kj9 ((t323.length : Int) == 0)) else (w_ReplaceChecks.j1 kj9 false))) = some r := H
      have A141 := am A1410
      clear A1410
      replace H := Option.bind_eq_some_iff.mp H
      obtain ⟨t350, A1420, H⟩ := H
      replace H : (if t350 = true then (w_ReplaceChecks.j1 kj9 ((t323.length : Int) == 0)) else (w_ReplaceChecks.j1 kj9 false)) = some r := H
      have A142 := am A1420
      clear A1420
      by_cases c143 : t350 = true
      ·subst c143
       have H1 : (w_ReplaceChecks.j1 kj9 ((t323.length : Int) == 0)) = some r := by rw [if_pos rfl] at H; exact H
       clear H
       have H := H1
       clear H1
       have H' := am H
       clear H
       go_wp2_with (first | ((with_reducible refine gc (f := 11) rfl ?_); refine goesL_ (some 42) rfl rfl Try.func11 (by kernel_rfl) rfl #[] rfl (by (try simp only [pml]); first | done | rfl | (simp only [pdt]; rfl)) ?_; (with_reducible refine (w_awake.calls kj9  true _ A138.out).mono ?_); rintro e w144 ⟨rfl, hb⟩; refine ⟨_, rfl, ?_⟩; replace HO_7 := dR HO_7 hb; replace HO_313000 := am (Kd.S_below (by (with_reducible repeat (first | apply Kd.S_alloc | apply Kd.S_drewN | apply Kd.S_drew)); exact HO_313000.out) hb); replace HO_313002 := dR HO_313002 hb; replace HO_313003 := dR HO_313003 hb; replace BK288 := bB BK288 hb; replace BK312 := bB BK312 hb; replace HB := bS HB hb; (try clear hb); (try clear hb2); (try clear hk); (try clear hi); have hnb145 := NB312_288.out; have hnc145 := NB288_312.out; obtain ⟨_, _, _, _, _, _, _, _⟩ := zC4 BK312) | (go_at_call 27; (with_reducible refine (w_theirs.calls (fun k_ => ((((some k_ ≠ (v324 : Value).ownBlock ∧ some k_ ≠ (.slice Ao24 t305.length co24 : Value).ownBlock) ∧ some k_ ≠ (.slice Ao25 t308.length co25 : Value).ownBlock) ∧ k_ ≠ gb288) ∧ k_ ≠ gb312)) _ _ t301 t304 (fun k_ => some k_ = (.slice Ao24 t305.length co24 : Value).ownBlock) _ _ t305 (fun k_ => some k_ = (.slice Ao25 t308.length co25 : Value).ownBlock) _ _ t308 t340 t343 t344 t347 _ ?side1 ?side2 ?side3 A141.out).mono ?_); (case side1 => exact Kd.S_V (Kd.S_types (Kd.S_types (Kd.S_apart' (HO_313000.out) (Kd.R_typed HO_313003.out) (by decide)) BK288.out (by decide)) BK312.out (by decide))); (case side2 => exact Kd.R_V (Kd.R_tight rfl (Kd.R_types (Kd.R_types (Kd.R_apart' (Kd.R_apart' (HO_313002.out) (Kd.S_typed HO_313000.out) (by decide)) (Kd.R_typed HO_313003.out) (by decide)) BK288.out (by decide)) BK312.out (by decide)))); (case side3 => exact Kd.R_V (Kd.R_tight rfl (Kd.R_types (Kd.R_types (Kd.R_apart' (Kd.R_apart' (Kd.R_apart' (HO_313003.out) (Kd.R_typed HO_7.out) (by decide)) (Kd.S_typed HO_313000.out) (by decide)) (Kd.R_typed HO_313002.out) (by decide)) BK288.out (by decide)) BK312.out (by decide)))); rintro e w147 ⟨v341, v345, v348, rfl, ho0, ho1, ho2, hb⟩; have HO342 := am (Kd.V_lower (Kd.V_mono (ok' := fun k_ => some k_ ≠ (v324 : Value).ownBlock ∧ k_ ≠ gb288 ∧ k_ ≠ gb312) ho0 (fun k_ hk_ => ⟨Or.elim hk_ (fun hs_ => Or.elim hs_ (fun hs_ => hs_.1.1.1.1) (fun hs_ => Or.elim hs_ (fun hs_ => ((Kd.R_types (Kd.R_types (Kd.R_apart' (Kd.R_apart' (HO_313002.out) (Kd.S_typed HO_313000.out) (by decide)) (Kd.R_typed HO_313003.out) (by decide)) BK288.out (by decide)) BK312.out (by decide)).1 k_ hs_.symm).1.1.1.1) (fun hs_ => ((Kd.R_types (Kd.R_types (Kd.R_apart' (Kd.R_apart' (Kd.R_apart' (HO_313003.out) (Kd.R_typed HO_7.out) (by decide)) (Kd.S_typed HO_313000.out) (by decide)) (Kd.R_typed HO_313002.out) (by decide)) BK288.out (by decide)) BK312.out (by decide)).1 k_ hs_.symm).1.1.1.1.2))) (fun hn_ => (Kd.fresh' (Kd.R_lt (fR HO_7.out)) k_ hn_)), Or.elim hk_ (fun hs_ => Or.elim hs_ (fun hs_ => hs_.1.2) (fun hs_ => Or.elim hs_ (fun hs_ => ((Kd.R_types (Kd.R_types (Kd.R_apart' (Kd.R_apart' (HO_313002.out) (Kd.S_typed HO_313000.out) (by decide)) (Kd.R_typed HO_313003.out) (by decide)) BK288.out (by decide)) BK312.out (by decide)).1 k_ hs_.symm).1.2) (fun hs_ => ((Kd.R_types (Kd.R_types (Kd.R_apart' (Kd.R_apart' (Kd.R_apart' (HO_313003.out) (Kd.R_typed HO_7.out) (by decide)) (Kd.S_typed HO_313000.out) (by decide)) (Kd.R_typed HO_313002.out) (by decide)) BK288.out (by decide)) BK312.out (by decide)).1 k_ hs_.symm).1.2))) (fun hn_ => (Kd.freshB (g := gb288) (o := .cells #[.slice A0_0 l0_0.length c0_0, .int .i64 a0_1, .slice A0_2 l0_2.length c0_2, .slice A0_3 l0_3.length c0_3] 26 (0, 0)) (fb BK288.out) k_ hn_)), Or.elim hk_ (fun hs_ => Or.elim hs_ (fun hs_ => hs_.2) (fun hs_ => Or.elim hs_ (fun hs_ => ((Kd.R_types (Kd.R_types (Kd.R_apart' (Kd.R_apart' (HO_313002.out) (Kd.S_typed HO_313000.out) (by decide)) (Kd.R_typed HO_313003.out) (by decide)) BK288.out (by decide)) BK312.out (by decide)).1 k_ hs_.symm).2) (fun hs_ => ((Kd.R_types (Kd.R_types (Kd.R_apart' (Kd.R_apart' (Kd.R_apart' (HO_313003.out) (Kd.R_typed HO_7.out) (by decide)) (Kd.S_typed HO_313000.out) (by decide)) (Kd.R_typed HO_313002.out) (by decide)) BK288.out (by decide)) BK312.out (by decide)).1 k_ hs_.symm).2))) (fun hn_ => (Kd.freshB (g := gb312) (o := .cells #[.slice Ao21 t301.length co21, .int .i64 t304, .slice Ao24 t305.length co24, .slice Ao25 t308.length co25] 33 (0, 0)) (fb BK312.out) k_ hn_))⟩)) (wz (fW HB.out))); have HO346 := am (Kd.V_lower (Kd.V_mono (ok' := fun k_ => some k_ ≠ (v324 : Value).ownBlock ∧ k_ ≠ gb288 ∧ k_ ≠ gb312) ho1 (fun k_ hk_ => ⟨Or.elim hk_ (fun hs_ => Or.elim hs_ (fun hs_ => hs_.1.1.1.1) (fun hs_ => Or.elim hs_ (fun hs_ => ((Kd.R_types (Kd.R_types (Kd.R_apart' (Kd.R_apart' (HO_313002.out) (Kd.S_typed HO_313000.out) (by decide)) (Kd.R_typed HO_313003.out) (by decide)) BK288.out (by decide)) BK312.out (by decide)).1 k_ hs_.symm).1.1.1.1) (fun hs_ => ((Kd.R_types (Kd.R_types (Kd.R_apart' (Kd.R_apart' (Kd.R_apart' (HO_313003.out) (Kd.R_typed HO_7.out) (by decide)) (Kd.S_typed HO_313000.out) (by decide)) (Kd.R_typed HO_313002.out) (by decide)) BK288.out (by decide)) BK312.out (by decide)).1 k_ hs_.symm).1.1.1.1.2))) (fun hn_ => (Kd.fresh' (Kd.R_lt (fR HO_7.out)) k_ hn_)), Or.elim hk_ (fun hs_ => Or.elim hs_ (fun hs_ => hs_.1.2) (fun hs_ => Or.elim hs_ (fun hs_ => ((Kd.R_types (Kd.R_types (Kd.R_apart' (Kd.R_apart' (HO_313002.out) (Kd.S_typed HO_313000.out) (by decide)) (Kd.R_typed HO_313003.out) (by decide)) BK288.out (by decide)) BK312.out (by decide)).1 k_ hs_.symm).1.2) (fun hs_ => ((Kd.R_types (Kd.R_types (Kd.R_apart' (Kd.R_apart' (Kd.R_apart' (HO_313003.out) (Kd.R_typed HO_7.out) (by decide)) (Kd.S_typed HO_313000.out) (by decide)) (Kd.R_typed HO_313002.out) (by decide)) BK288.out (by decide)) BK312.out (by decide)).1 k_ hs_.symm).1.2))) (fun hn_ => (Kd.freshB (g := gb288) (o := .cells #[.slice A0_0 l0_0.length c0_0, .int .i64 a0_1, .slice A0_2 l0_2.length c0_2, .slice A0_3 l0_3.length c0_3] 26 (0, 0)) (fb BK288.out) k_ hn_)), Or.elim hk_ (fun hs_ => Or.elim hs_ (fun hs_ => hs_.2) (fun hs_ => Or.elim hs_ (fun hs_ => ((Kd.R_types (Kd.R_types (Kd.R_apart' (Kd.R_apart' (HO_313002.out) (Kd.S_typed HO_313000.out) (by decide)) (Kd.R_typed HO_313003.out) (by decide)) BK288.out (by decide)) BK312.out (by decide)).1 k_ hs_.symm).2) (fun hs_ => ((Kd.R_types (Kd.R_types (Kd.R_apart' (Kd.R_apart' (Kd.R_apart' (HO_313003.out) (Kd.R_typed HO_7.out) (by decide)) (Kd.S_typed HO_313000.out) (by decide)) (Kd.R_typed HO_313002.out) (by decide)) BK288.out (by decide)) BK312.out (by decide)).1 k_ hs_.symm).2))) (fun hn_ => (Kd.freshB (g := gb312) (o := .cells #[.slice Ao21 t301.length co21, .int .i64 t304, .slice Ao24 t305.length co24, .slice Ao25 t308.length co25] 33 (0, 0)) (fb BK312.out) k_ hn_))⟩)) (wz (fW HB.out))); have HO349 := am (Kd.V_lower (Kd.V_mono (ok' := fun k_ => some k_ ≠ (v324 : Value).ownBlock ∧ k_ ≠ gb288 ∧ k_ ≠ gb312) ho2 (fun k_ hk_ => ⟨Or.elim hk_ (fun hs_ => Or.elim hs_ (fun hs_ => hs_.1.1.1.1) (fun hs_ => Or.elim hs_ (fun hs_ => ((Kd.R_types (Kd.R_types (Kd.R_apart' (Kd.R_apart' (HO_313002.out) (Kd.S_typed HO_313000.out) (by decide)) (Kd.R_typed HO_313003.out) (by decide)) BK288.out (by decide)) BK312.out (by decide)).1 k_ hs_.symm).1.1.1.1) (fun hs_ => ((Kd.R_types (Kd.R_types (Kd.R_apart' (Kd.R_apart' (Kd.R_apart' (HO_313003.out) (Kd.R_typed HO_7.out) (by decide)) (Kd.S_typed HO_313000.out) (by decide)) (Kd.R_typed HO_313002.out) (by decide)) BK288.out (by decide)) BK312.out (by decide)).1 k_ hs_.symm).1.1.1.1.2))) (fun hn_ => (Kd.fresh' (Kd.R_lt (fR HO_7.out)) k_ hn_)), Or.elim hk_ (fun hs_ => Or.elim hs_ (fun hs_ => hs_.1.2) (fun hs_ => Or.elim hs_ (fun hs_ => ((Kd.R_types (Kd.R_types (Kd.R_apart' (Kd.R_apart' (HO_313002.out) (Kd.S_typed HO_313000.out) (by decide)) (Kd.R_typed HO_313003.out) (by decide)) BK288.out (by decide)) BK312.out (by decide)).1 k_ hs_.symm).1.2) (fun hs_ => ((Kd.R_types (Kd.R_types (Kd.R_apart' (Kd.R_apart' (Kd.R_apart' (HO_313003.out) (Kd.R_typed HO_7.out) (by decide)) (Kd.S_typed HO_313000.out) (by decide)) (Kd.R_typed HO_313002.out) (by decide)) BK288.out (by decide)) BK312.out (by decide)).1 k_ hs_.symm).1.2))) (fun hn_ => (Kd.freshB (g := gb288) (o := .cells #[.slice A0_0 l0_0.length c0_0, .int .i64 a0_1, .slice A0_2 l0_2.length c0_2, .slice A0_3 l0_3.length c0_3] 26 (0, 0)) (fb BK288.out) k_ hn_)), Or.elim hk_ (fun hs_ => Or.elim hs_ (fun hs_ => hs_.2) (fun hs_ => Or.elim hs_ (fun hs_ => ((Kd.R_types (Kd.R_types (Kd.R_apart' (Kd.R_apart' (HO_313002.out) (Kd.S_typed HO_313000.out) (by decide)) (Kd.R_typed HO_313003.out) (by decide)) BK288.out (by decide)) BK312.out (by decide)).1 k_ hs_.symm).2) (fun hs_ => ((Kd.R_types (Kd.R_types (Kd.R_apart' (Kd.R_apart' (Kd.R_apart' (HO_313003.out) (Kd.R_typed HO_7.out) (by decide)) (Kd.S_typed HO_313000.out) (by decide)) (Kd.R_typed HO_313002.out) (by decide)) BK288.out (by decide)) BK312.out (by decide)).1 k_ hs_.symm).2))) (fun hn_ => (Kd.freshB (g := gb312) (o := .cells #[.slice Ao21 t301.length co21, .int .i64 t304, .slice Ao24 t305.length co24, .slice Ao25 t308.length co25] 33 (0, 0)) (fb BK312.out) k_ hn_))⟩)) (wz (fW HB.out))); replace HO_7 := dR HO_7 hb; replace HO_313000 := am (Kd.S_below (by (with_reducible repeat (first | apply Kd.S_alloc | apply Kd.S_drewN | apply Kd.S_drew)); exact HO_313000.out) hb); replace HO_313002 := dR HO_313002 hb; replace HO_313003 := dR HO_313003 hb; replace BK288 := bB BK288 hb; replace BK312 := bB BK312 hb; replace HB := bS HB hb; (try clear hb); (try clear hb2); (try clear hk); (try clear hi); (try clear ho0); (try clear ho1); (try clear ho2); obtain ⟨Ao148, co148, eo148⟩ := Kd.V_slice HO342.out; subst eo148; obtain ⟨Ao149, co149, eo149⟩ := Kd.V_slice HO346.out; subst eo149; obtain ⟨Ao150, co150, eo150⟩ := Kd.V_slice HO349.out; subst eo150) | (go_at_call 26; (refine (r_Same.calls kj9 _ _ t340 t343 _ _ t344 _ _ t347 _ _ ([] : List (List Int)) 0 _ _ ([] : List Int) _ _ ([] : List Bool) true _ ?side1 ?side2 ?side3 ?side4 ?side5 ?side6 ?side7 ?side8 ?side9 ?side10 ?side11 ?side12 A142.out).mono ?_); (case side1 => repeat (first | exact (Kd.V_reads' HO342.out).2.2 | (with_reducible refine Kd.C_alloc ?_ _) | (with_reducible refine Kd.C_drewN ?_ _) | (with_reducible refine Kd.C_drew ?_))); (case side2 => exact (Kd.V_reads' HO342.out).2.1); (case side3 => repeat (first | exact (Kd.V_reads' HO346.out).2.2 | (with_reducible refine Kd.C_alloc ?_ _) | (with_reducible refine Kd.C_drewN ?_ _) | (with_reducible refine Kd.C_drew ?_))); (case side4 => exact (Kd.V_reads' HO346.out).2.1); (case side5 => repeat (first | exact (Kd.V_reads' HO349.out).2.2 | (with_reducible refine Kd.C_alloc ?_ _) | (with_reducible refine Kd.C_drewN ?_ _) | (with_reducible refine Kd.C_drew ?_))); (case side6 => exact (Kd.V_reads' HO349.out).2.1); (case side7 => exact Kd.C_nil _ _); (case side8 => exact Nat.le_refl _); (case side9 => exact Kd.C_nil _ _); (case side10 => exact Nat.le_refl _); (case side11 => exact Kd.C_nil _ _); (case side12 => exact Nat.le_refl _); rintro e w151 ⟨rfl, hb⟩; replace HO_7 := dR HO_7 hb; replace HO_313000 := am (Kd.S_below (by (with_reducible repeat (first | apply Kd.S_alloc | apply Kd.S_drewN | apply Kd.S_drew)); exact HO_313000.out) hb); replace HO_313002 := dR HO_313002 hb; replace HO_313003 := dR HO_313003 hb; replace HO342 := dV HO342 hb; replace HO346 := dV HO346 hb; replace HO349 := dV HO349 hb; replace BK288 := bB BK288 hb; replace BK312 := bB BK312 hb; replace HB := bS HB hb; (try clear hb); (try clear hb2); (try clear hk); (try clear hi); obtain ⟨Ao152, co152, eo152⟩ := Kd.R_slice HO_7.out; subst eo152))
       go_meet
       case rel => exact ⟨_, (((t323.length : Int) == 0)), sqD, H', ⟨by have := HJ9.out; first | omega | exact Nat.le_refl _⟩, ⟨by (with_reducible repeat (first | apply Kd.S_alloc | apply Kd.S_drewN | apply Kd.S_drew)); exact Kd.S_mono HO_313000.out (fun _ hk => hk.2)⟩, ⟨by (with_reducible repeat (first | apply Kd.R_alloc | apply Kd.R_drewN | apply Kd.R_drew)); exact Kd.R_mono HO_313002.out (fun _ hk => trivial)⟩, ⟨fR HO_313003.out⟩, ⟨fb BK288.out⟩, ⟨fb BK312.out⟩, ⟨fW HB.out⟩⟩
      replace c143 := Bool.eq_false_iff.mpr c143
      subst c143
      have H1 : (w_ReplaceChecks.j1 kj9 false) = some r := by rw [if_neg (show ¬ (false = true) by decide)] at H; exact H
      clear H
      have H := H1
      clear H1
      have H' := am H
      clear H
      go_wp2_with (first | ((with_reducible refine gc (f := 11) rfl ?_); refine goesL_ (some 42) rfl rfl Try.func11 (by kernel_rfl) rfl #[] rfl (by (try simp only [pml]); first | done | rfl | (simp only [pdt]; rfl)) ?_; (with_reducible refine (w_awake.calls kj9  true _ A138.out).mono ?_); rintro e w153 ⟨rfl, hb⟩; refine ⟨_, rfl, ?_⟩; replace HO_7 := dR HO_7 hb; replace HO_313000 := am (Kd.S_below (by (with_reducible repeat (first | apply Kd.S_alloc | apply Kd.S_drewN | apply Kd.S_drew)); exact HO_313000.out) hb); replace HO_313002 := dR HO_313002 hb; replace HO_313003 := dR HO_313003 hb; replace BK288 := bB BK288 hb; replace BK312 := bB BK312 hb; replace HB := bS HB hb; (try clear hb); (try clear hb2); (try clear hk); (try clear hi); have hnb154 := NB312_288.out; have hnc154 := NB288_312.out; obtain ⟨_, _, _, _, _, _, _, _⟩ := zC4 BK312) | (go_at_call 27; (with_reducible refine (w_theirs.calls (fun k_ => ((((some k_ ≠ (v324 : Value).ownBlock ∧ some k_ ≠ (.slice Ao24 t305.length co24 : Value).ownBlock) ∧ some k_ ≠ (.slice Ao25 t308.length co25 : Value).ownBlock) ∧ k_ ≠ gb288) ∧ k_ ≠ gb312)) _ _ t301 t304 (fun k_ => some k_ = (.slice Ao24 t305.length co24 : Value).ownBlock) _ _ t305 (fun k_ => some k_ = (.slice Ao25 t308.length co25 : Value).ownBlock) _ _ t308 t340 t343 t344 t347 _ ?side1 ?side2 ?side3 A141.out).mono ?_); (case side1 => exact Kd.S_V (Kd.S_types (Kd.S_types (Kd.S_apart' (HO_313000.out) (Kd.R_typed HO_313003.out) (by decide)) BK288.out (by decide)) BK312.out (by decide))); (case side2 => exact Kd.R_V (Kd.R_tight rfl (Kd.R_types (Kd.R_types (Kd.R_apart' (Kd.R_apart' (HO_313002.out) (Kd.S_typed HO_313000.out) (by decide)) (Kd.R_typed HO_313003.out) (by decide)) BK288.out (by decide)) BK312.out (by decide)))); (case side3 => exact Kd.R_V (Kd.R_tight rfl (Kd.R_types (Kd.R_types (Kd.R_apart' (Kd.R_apart' (Kd.R_apart' (HO_313003.out) (Kd.R_typed HO_7.out) (by decide)) (Kd.S_typed HO_313000.out) (by decide)) (Kd.R_typed HO_313002.out) (by decide)) BK288.out (by decide)) BK312.out (by decide)))); rintro e w156 ⟨v341, v345, v348, rfl, ho0, ho1, ho2, hb⟩; have HO342 := am (Kd.V_lower (Kd.V_mono (ok' := fun k_ => some k_ ≠ (v324 : Value).ownBlock ∧ k_ ≠ gb288 ∧ k_ ≠ gb312) ho0 (fun k_ hk_ => ⟨Or.elim hk_ (fun hs_ => Or.elim hs_ (fun hs_ => hs_.1.1.1.1) (fun hs_ => Or.elim hs_ (fun hs_ => ((Kd.R_types (Kd.R_types (Kd.R_apart' (Kd.R_apart' (HO_313002.out) (Kd.S_typed HO_313000.out) (by decide)) (Kd.R_typed HO_313003.out) (by decide)) BK288.out (by decide)) BK312.out (by decide)).1 k_ hs_.symm).1.1.1.1) (fun hs_ => ((Kd.R_types (Kd.R_types (Kd.R_apart' (Kd.R_apart' (Kd.R_apart' (HO_313003.out) (Kd.R_typed HO_7.out) (by decide)) (Kd.S_typed HO_313000.out) (by decide)) (Kd.R_typed HO_313002.out) (by decide)) BK288.out (by decide)) BK312.out (by decide)).1 k_ hs_.symm).1.1.1.1.2))) (fun hn_ => (Kd.fresh' (Kd.R_lt (fR HO_7.out)) k_ hn_)), Or.elim hk_ (fun hs_ => Or.elim hs_ (fun hs_ => hs_.1.2) (fun hs_ => Or.elim hs_ (fun hs_ => ((Kd.R_types (Kd.R_types (Kd.R_apart' (Kd.R_apart' (HO_313002.out) (Kd.S_typed HO_313000.out) (by decide)) (Kd.R_typed HO_313003.out) (by decide)) BK288.out (by decide)) BK312.out (by decide)).1 k_ hs_.symm).1.2) (fun hs_ => ((Kd.R_types (Kd.R_types (Kd.R_apart' (Kd.R_apart' (Kd.R_apart' (HO_313003.out) (Kd.R_typed HO_7.out) (by decide)) (Kd.S_typed HO_313000.out) (by decide)) (Kd.R_typed HO_313002.out) (by decide)) BK288.out (by decide)) BK312.out (by decide)).1 k_ hs_.symm).1.2))) (fun hn_ => (Kd.freshB (g := gb288) (o := .cells #[.slice A0_0 l0_0.length c0_0, .int .i64 a0_1, .slice A0_2 l0_2.length c0_2, .slice A0_3 l0_3.length c0_3] 26 (0, 0)) (fb BK288.out) k_ hn_)), Or.elim hk_ (fun hs_ => Or.elim hs_ (fun hs_ => hs_.2) (fun hs_ => Or.elim hs_ (fun hs_ => ((Kd.R_types (Kd.R_types (Kd.R_apart' (Kd.R_apart' (HO_313002.out) (Kd.S_typed HO_313000.out) (by decide)) (Kd.R_typed HO_313003.out) (by decide)) BK288.out (by decide)) BK312.out (by decide)).1 k_ hs_.symm).2) (fun hs_ => ((Kd.R_types (Kd.R_types (Kd.R_apart' (Kd.R_apart' (Kd.R_apart' (HO_313003.out) (Kd.R_typed HO_7.out) (by decide)) (Kd.S_typed HO_313000.out) (by decide)) (Kd.R_typed HO_313002.out) (by decide)) BK288.out (by decide)) BK312.out (by decide)).1 k_ hs_.symm).2))) (fun hn_ => (Kd.freshB (g := gb312) (o := .cells #[.slice Ao21 t301.length co21, .int .i64 t304, .slice Ao24 t305.length co24, .slice Ao25 t308.length co25] 33 (0, 0)) (fb BK312.out) k_ hn_))⟩)) (wz (fW HB.out))); have HO346 := am (Kd.V_lower (Kd.V_mono (ok' := fun k_ => some k_ ≠ (v324 : Value).ownBlock ∧ k_ ≠ gb288 ∧ k_ ≠ gb312) ho1 (fun k_ hk_ => ⟨Or.elim hk_ (fun hs_ => Or.elim hs_ (fun hs_ => hs_.1.1.1.1) (fun hs_ => Or.elim hs_ (fun hs_ => ((Kd.R_types (Kd.R_types (Kd.R_apart' (Kd.R_apart' (HO_313002.out) (Kd.S_typed HO_313000.out) (by decide)) (Kd.R_typed HO_313003.out) (by decide)) BK288.out (by decide)) BK312.out (by decide)).1 k_ hs_.symm).1.1.1.1) (fun hs_ => ((Kd.R_types (Kd.R_types (Kd.R_apart' (Kd.R_apart' (Kd.R_apart' (HO_313003.out) (Kd.R_typed HO_7.out) (by decide)) (Kd.S_typed HO_313000.out) (by decide)) (Kd.R_typed HO_313002.out) (by decide)) BK288.out (by decide)) BK312.out (by decide)).1 k_ hs_.symm).1.1.1.1.2))) (fun hn_ => (Kd.fresh' (Kd.R_lt (fR HO_7.out)) k_ hn_)), Or.elim hk_ (fun hs_ => Or.elim hs_ (fun hs_ => hs_.1.2) (fun hs_ => Or.elim hs_ (fun hs_ => ((Kd.R_types (Kd.R_types (Kd.R_apart' (Kd.R_apart' (HO_313002.out) (Kd.S_typed HO_313000.out) (by decide)) (Kd.R_typed HO_313003.out) (by decide)) BK288.out (by decide)) BK312.out (by decide)).1 k_ hs_.symm).1.2) (fun hs_ => ((Kd.R_types (Kd.R_types (Kd.R_apart' (Kd.R_apart' (Kd.R_apart' (HO_313003.out) (Kd.R_typed HO_7.out) (by decide)) (Kd.S_typed HO_313000.out) (by decide)) (Kd.R_typed HO_313002.out) (by decide)) BK288.out (by decide)) BK312.out (by decide)).1 k_ hs_.symm).1.2))) (fun hn_ => (Kd.freshB (g := gb288) (o := .cells #[.slice A0_0 l0_0.length c0_0, .int .i64 a0_1, .slice A0_2 l0_2.length c0_2, .slice A0_3 l0_3.length c0_3] 26 (0, 0)) (fb BK288.out) k_ hn_)), Or.elim hk_ (fun hs_ => Or.elim hs_ (fun hs_ => hs_.2) (fun hs_ => Or.elim hs_ (fun hs_ => ((Kd.R_types (Kd.R_types (Kd.R_apart' (Kd.R_apart' (HO_313002.out) (Kd.S_typed HO_313000.out) (by decide)) (Kd.R_typed HO_313003.out) (by decide)) BK288.out (by decide)) BK312.out (by decide)).1 k_ hs_.symm).2) (fun hs_ => ((Kd.R_types (Kd.R_types (Kd.R_apart' (Kd.R_apart' (Kd.R_apart' (HO_313003.out) (Kd.R_typed HO_7.out) (by decide)) (Kd.S_typed HO_313000.out) (by decide)) (Kd.R_typed HO_313002.out) (by decide)) BK288.out (by decide)) BK312.out (by decide)).1 k_ hs_.symm).2))) (fun hn_ => (Kd.freshB (g := gb312) (o := .cells #[.slice Ao21 t301.length co21, .int .i64 t304, .slice Ao24 t305.length co24, .slice Ao25 t308.length co25] 33 (0, 0)) (fb BK312.out) k_ hn_))⟩)) (wz (fW HB.out))); have HO349 := am (Kd.V_lower (Kd.V_mono (ok' := fun k_ => some k_ ≠ (v324 : Value).ownBlock ∧ k_ ≠ gb288 ∧ k_ ≠ gb312) ho2 (fun k_ hk_ => ⟨Or.elim hk_ (fun hs_ => Or.elim hs_ (fun hs_ => hs_.1.1.1.1) (fun hs_ => Or.elim hs_ (fun hs_ => ((Kd.R_types (Kd.R_types (Kd.R_apart' (Kd.R_apart' (HO_313002.out) (Kd.S_typed HO_313000.out) (by decide)) (Kd.R_typed HO_313003.out) (by decide)) BK288.out (by decide)) BK312.out (by decide)).1 k_ hs_.symm).1.1.1.1) (fun hs_ => ((Kd.R_types (Kd.R_types (Kd.R_apart' (Kd.R_apart' (Kd.R_apart' (HO_313003.out) (Kd.R_typed HO_7.out) (by decide)) (Kd.S_typed HO_313000.out) (by decide)) (Kd.R_typed HO_313002.out) (by decide)) BK288.out (by decide)) BK312.out (by decide)).1 k_ hs_.symm).1.1.1.1.2))) (fun hn_ => (Kd.fresh' (Kd.R_lt (fR HO_7.out)) k_ hn_)), Or.elim hk_ (fun hs_ => Or.elim hs_ (fun hs_ => hs_.1.2) (fun hs_ => Or.elim hs_ (fun hs_ => ((Kd.R_types (Kd.R_types (Kd.R_apart' (Kd.R_apart' (HO_313002.out) (Kd.S_typed HO_313000.out) (by decide)) (Kd.R_typed HO_313003.out) (by decide)) BK288.out (by decide)) BK312.out (by decide)).1 k_ hs_.symm).1.2) (fun hs_ => ((Kd.R_types (Kd.R_types (Kd.R_apart' (Kd.R_apart' (Kd.R_apart' (HO_313003.out) (Kd.R_typed HO_7.out) (by decide)) (Kd.S_typed HO_313000.out) (by decide)) (Kd.R_typed HO_313002.out) (by decide)) BK288.out (by decide)) BK312.out (by decide)).1 k_ hs_.symm).1.2))) (fun hn_ => (Kd.freshB (g := gb288) (o := .cells #[.slice A0_0 l0_0.length c0_0, .int .i64 a0_1, .slice A0_2 l0_2.length c0_2, .slice A0_3 l0_3.length c0_3] 26 (0, 0)) (fb BK288.out) k_ hn_)), Or.elim hk_ (fun hs_ => Or.elim hs_ (fun hs_ => hs_.2) (fun hs_ => Or.elim hs_ (fun hs_ => ((Kd.R_types (Kd.R_types (Kd.R_apart' (Kd.R_apart' (HO_313002.out) (Kd.S_typed HO_313000.out) (by decide)) (Kd.R_typed HO_313003.out) (by decide)) BK288.out (by decide)) BK312.out (by decide)).1 k_ hs_.symm).2) (fun hs_ => ((Kd.R_types (Kd.R_types (Kd.R_apart' (Kd.R_apart' (Kd.R_apart' (HO_313003.out) (Kd.R_typed HO_7.out) (by decide)) (Kd.S_typed HO_313000.out) (by decide)) (Kd.R_typed HO_313002.out) (by decide)) BK288.out (by decide)) BK312.out (by decide)).1 k_ hs_.symm).2))) (fun hn_ => (Kd.freshB (g := gb312) (o := .cells #[.slice Ao21 t301.length co21, .int .i64 t304, .slice Ao24 t305.length co24, .slice Ao25 t308.length co25] 33 (0, 0)) (fb BK312.out) k_ hn_))⟩)) (wz (fW HB.out))); replace HO_7 := dR HO_7 hb; replace HO_313000 := am (Kd.S_below (by (with_reducible repeat (first | apply Kd.S_alloc | apply Kd.S_drewN | apply Kd.S_drew)); exact HO_313000.out) hb); replace HO_313002 := dR HO_313002 hb; replace HO_313003 := dR HO_313003 hb; replace BK288 := bB BK288 hb; replace BK312 := bB BK312 hb; replace HB := bS HB hb; (try clear hb); (try clear hb2); (try clear hk); (try clear hi); (try clear ho0); (try clear ho1); (try clear ho2); obtain ⟨Ao157, co157, eo157⟩ := Kd.V_slice HO342.out; subst eo157; obtain ⟨Ao158, co158, eo158⟩ := Kd.V_slice HO346.out; subst eo158; obtain ⟨Ao159, co159, eo159⟩ := Kd.V_slice HO349.out; subst eo159) | (go_at_call 26; (refine (r_Same.calls kj9 _ _ t340 t343 _ _ t344 _ _ t347 _ _ ([] : List (List Int)) 0 _ _ ([] : List Int) _ _ ([] : List Bool) false _ ?side1 ?side2 ?side3 ?side4 ?side5 ?side6 ?side7 ?side8 ?side9 ?side10 ?side11 ?side12 A142.out).mono ?_); (case side1 => repeat (first | exact (Kd.V_reads' HO342.out).2.2 | (with_reducible refine Kd.C_alloc ?_ _) | (with_reducible refine Kd.C_drewN ?_ _) | (with_reducible refine Kd.C_drew ?_))); (case side2 => exact (Kd.V_reads' HO342.out).2.1); (case side3 => repeat (first | exact (Kd.V_reads' HO346.out).2.2 | (with_reducible refine Kd.C_alloc ?_ _) | (with_reducible refine Kd.C_drewN ?_ _) | (with_reducible refine Kd.C_drew ?_))); (case side4 => exact (Kd.V_reads' HO346.out).2.1); (case side5 => repeat (first | exact (Kd.V_reads' HO349.out).2.2 | (with_reducible refine Kd.C_alloc ?_ _) | (with_reducible refine Kd.C_drewN ?_ _) | (with_reducible refine Kd.C_drew ?_))); (case side6 => exact (Kd.V_reads' HO349.out).2.1); (case side7 => exact Kd.C_nil _ _); (case side8 => exact Nat.le_refl _); (case side9 => exact Kd.C_nil _ _); (case side10 => exact Nat.le_refl _); (case side11 => exact Kd.C_nil _ _); (case side12 => exact Nat.le_refl _); rintro e w160 ⟨rfl, hb⟩; replace HO_7 := dR HO_7 hb; replace HO_313000 := am (Kd.S_below (by (with_reducible repeat (first | apply Kd.S_alloc | apply Kd.S_drewN | apply Kd.S_drew)); exact HO_313000.out) hb); replace HO_313002 := dR HO_313002 hb; replace HO_313003 := dR HO_313003 hb; replace HO342 := dV HO342 hb; replace HO346 := dV HO346 hb; replace HO349 := dV HO349 hb; replace BK288 := bB BK288 hb; replace BK312 := bB BK312 hb; replace HB := bS HB hb; (try clear hb); (try clear hb2); (try clear hk); (try clear hi)))
      go_meet
      case rel => exact ⟨_, (false), sqD, H', ⟨by have := HJ9.out; first | omega | exact Nat.le_refl _⟩, ⟨by (with_reducible repeat (first | apply Kd.S_alloc | apply Kd.S_drewN | apply Kd.S_drew)); exact Kd.S_mono HO_313000.out (fun _ hk => hk.2)⟩, ⟨by (with_reducible repeat (first | apply Kd.R_alloc | apply Kd.R_drewN | apply Kd.R_drew)); exact Kd.R_mono HO_313002.out (fun _ hk => trivial)⟩, ⟨fR HO_313003.out⟩, ⟨fb BK288.out⟩, ⟨fb BK312.out⟩, ⟨fW HB.out⟩⟩
     case rest =>
      clear HC137
      try clear c1;try clear c2;try clear p2;try clear c3;try clear c5;try clear c11;try clear c13;try clear c14;try clear c15;try clear c22;try clear c26;try clear c27;try clear c28;try clear c30;try clear c53;try clear c53b0;try clear c53b1;try clear c56;try clear c112;try clear c113;try clear c113b0;try clear c113b1;try clear c132;try clear c139;try clear c140;try clear c140b0;try clear c140b1;try clear c143;try clear c145;try clear c154;try clear p2
      obtain ⟨kq, x4_136, rfl, HA, HJ136, HO_313000, HO_313002, HO_313003, BK288, BK312, HB⟩ := hcut
      cases kq with
      | zero => exact absurd HA.out (by simp [w_ReplaceChecks.j1])
      | succ kj136 =>
       have H := HA.out
       clear HA
       simp only [w_ReplaceChecks.j1] at H
       obtain rfl := Option.some.inj H
       go_wp2
       go_ret
       exact ⟨sqE, fW HB.out⟩
    rw [if_pos c53] at H
    have c53b0 : (t327 == 0) = true := beq_iff_eq.mpr c53
    have c53b1 : (t327 != 0) = false := bne_eq_false_iff_eq.mpr c53
    clear c53
    replace H := Option.bind_eq_some_iff.mp H
    obtain ⟨t351, A540, H⟩ := H
    replace H : ((r_SameInts.f kj9 t323 t351).bind fun t354 => (if t354 = true then (if a1 < 0 then (w_ReplaceChecks.j2 kj9 a1 t311 true l0_0 a0_1 l0_2 l0_3 t301 t304 t305 t308) else (w_ReplaceChecks.j2 kj9 a1 t311 (decide (a1 ≥ a0_1)) l0_0 a0_1 l0_2 l0_3 t301 t304 t305 t308)) else (some false))) = some r := H
    have A54 := am A540
    clear A540
    replace H := Option.bind_eq_some_iff.mp H
    obtain ⟨t354, A550, H⟩ := H
    replace H : (if t354 = true then (if a1 < 0 then (w_ReplaceChecks.j2 kj9 a1 t311 true l0_0 a0_1 l0_2 l0_3 t301 t304 t305 t308) else (w_ReplaceChecks.j2 kj9 a1 t311 (decide (a1 ≥ a0_1)) l0_0 a0_1 l0_2 l0_3 t301 t304 t305 t308)) else (some false)) = some r := H
    have A55 := am A550
    clear A550
    by_cases c56 : t354 = true
    rotate_left
    ·replace c56 := Bool.eq_false_iff.mpr c56
     subst c56
     have H1 : (some false) = some r := by rw [if_neg (show ¬ (false = true) by decide)] at H; exact H
     clear H
     have H := H1
     clear H1
     obtain rfl := Option.some.inj H
     have hnb132 := NB288_312.out
     have hnc132 := NB312_288.out
     have := yC1 BK288
     have := kC1 BK288
     have := kC2 BK288
     have := kC3 BK288
     have := bf BK288.out 0
     have := bf BK288.out 1
     have := bf BK288.out 2
     have := bf BK288.out 3
     go_wp2_with (first | ((with_reducible refine gc (f := 28) rfl ?_); refine goesL_ (some 61) rfl rfl Try.func28 (by kernel_rfl) rfl #[.agg #[.slice A0_0 l0_0.length c0_0, .int .i64 a0_1, .slice A0_2 l0_2.length c0_2, .slice A0_3 l0_3.length c0_3]] rfl (by (try simp only [pml]); first | done | rfl | (simp only [pdt]; rfl)) ?_; (with_reducible refine (r_Free.calls kj9 _ _ l0_0 a0_1 _ _ l0_2 _ _ l0_3 t351 _ ?side1 ?side2 ?side3 ?side4 ?side5 ?side6 A54.out).mono ?_); (case side1 => repeat (first | exact (Kd.C_below HR0_0.out HB.out) | (with_reducible refine Kd.C_alloc ?_ _) | (with_reducible refine Kd.C_drewN ?_ _) | (with_reducible refine Kd.C_drew ?_))); (case side2 => exact HC0_0.out); (case side3 => repeat (first | exact (Kd.C_below HR0_2.out HB.out) | (with_reducible refine Kd.C_alloc ?_ _) | (with_reducible refine Kd.C_drewN ?_ _) | (with_reducible refine Kd.C_drew ?_))); (case side4 => exact HC0_2.out); (case side5 => repeat (first | exact (Kd.C_below HR0_3.out HB.out) | (with_reducible refine Kd.C_alloc ?_ _) | (with_reducible refine Kd.C_drewN ?_ _) | (with_reducible refine Kd.C_drew ?_))); (case side6 => exact HC0_3.out); rintro e w134 ⟨v352, rfl, ho0, hb⟩; refine ⟨_, rfl, ?_⟩; replace HO_313000 := am (Kd.S_elder' (by (with_reducible repeat (first | apply Kd.S_alloc | apply Kd.S_drewN | apply Kd.S_drew)); exact HO_313000.out) (Kd.R_base ho0) hb); replace HO_313003 := dR HO_313003 hb; have HO353 := am (Kd.R_lower (Kd.R_new' (Kd.R_new' ho0 (Kd.R_lt (fR HO_7.out))) (Kd.R_lt (fR HO_313002.out))) (wz (fW HB.out))); replace HO_7 := am (Kd.R_elder' (fR HO_7.out) (Kd.R_base ho0) hb); replace HO_313002 := am (Kd.R_elder' (fR HO_313002.out) (Kd.R_base ho0) hb); replace BK288 := bB BK288 hb; replace BK312 := bB BK312 hb; replace HB := bS HB hb; (try clear hb); (try clear hb2); (try clear hk); (try clear hi); (try clear ho0); obtain ⟨Ao135, co135, eo135⟩ := Kd.R_slice HO_7.out; subst eo135; obtain ⟨Ao136, co136, eo136⟩ := Kd.R_slice HO353.out; subst eo136) | ((with_reducible refine gc (f := 22) rfl ?_); refine goesL_ (some 62) rfl rfl Try.func22 (by kernel_rfl) rfl #[.slice Ao135 t323.length co135, .slice Ao136 t351.length co136] rfl (by (try simp only [pml]); first | done | rfl | (simp only [pdt]; rfl)) ?_; (with_reducible refine (r_SameInts.calls kj9 _ _ t323 _ _ t351 false _ ?side1 ?side2 ?side3 ?side4 A55.out).mono ?_); (case side1 => repeat (first | exact (Kd.R_reads' HO_7.out).2.2 | (with_reducible refine Kd.C_alloc ?_ _) | (with_reducible refine Kd.C_drewN ?_ _) | (with_reducible refine Kd.C_drew ?_))); (case side2 => exact (Kd.R_reads' HO_7.out).2.1); (case side3 => repeat (first | exact (Kd.R_reads' HO353.out).2.2 | (with_reducible refine Kd.C_alloc ?_ _) | (with_reducible refine Kd.C_drewN ?_ _) | (with_reducible refine Kd.C_drew ?_))); (case side4 => exact (Kd.R_reads' HO353.out).2.1); rintro e w' ⟨rfl, ⟨nd, rfl⟩⟩; refine ⟨_, rfl, ?_⟩))
     go_ret
     exact ⟨sqE, fW HB.out⟩
    subst c56
    have H1 : (if a1 < 0 then (w_ReplaceChecks.j2 kj9 a1 t311 true l0_0 a0_1 l0_2 l0_3 t301 t304 t305 t308) else (w_ReplaceChecks.j2 kj9 a1 t311 (decide (a1 ≥ a0_1)) l0_0 a0_1 l0_2 l0_3 t301 t304 t305 t308)) = some r := by rw [if_pos rfl] at H; exact H
    clear H
    have H := H1
    clear H1
    have HC57 := am H
    clear H
    have hnb58 := NB288_312.out
    have hnc58 := NB312_288.out
    have := yC1 BK288
    have := kC1 BK288
    have := kC2 BK288
    have := kC3 BK288
    have := bf BK288.out 0
    have := bf BK288.out 1
    have := bf BK288.out 2
    have := bf BK288.out 3
    go_upto_region 12 with (first | ((with_reducible refine gc (f := 28) rfl ?_); refine goesL_ (some 61) rfl rfl Try.func28 (by kernel_rfl) rfl #[.agg #[.slice A0_0 l0_0.length c0_0, .int .i64 a0_1, .slice A0_2 l0_2.length c0_2, .slice A0_3 l0_3.length c0_3]] rfl (by (try simp only [pml]); first | done | rfl | (simp only [pdt]; rfl)) ?_; (with_reducible refine (r_Free.calls kj9 _ _ l0_0 a0_1 _ _ l0_2 _ _ l0_3 t351 _ ?side1 ?side2 ?side3 ?side4 ?side5 ?side6 A54.out).mono ?_); (case side1 => repeat (first | exact (Kd.C_below HR0_0.out HB.out) | (with_reducible refine Kd.C_alloc ?_ _) | (with_reducible refine Kd.C_drewN ?_ _) | (with_reducible refine Kd.C_drew ?_))); (case side2 => exact HC0_0.out); (case side3 => repeat (first | exact (Kd.C_below HR0_2.out HB.out) | (with_reducible refine Kd.C_alloc ?_ _) | (with_reducible refine Kd.C_drewN ?_ _) | (with_reducible refine Kd.C_drew ?_))); (case side4 => exact HC0_2.out); (case side5 => repeat (first | exact (Kd.C_below HR0_3.out HB.out) | (with_reducible refine Kd.C_alloc ?_ _) | (with_reducible refine Kd.C_drewN ?_ _) | (with_reducible refine Kd.C_drew ?_))); (case side6 => exact HC0_3.out); rintro e w60 ⟨v352, rfl, ho0, hb⟩; refine ⟨_, rfl, ?_⟩; replace HO_313000 := am (Kd.S_elder' (by (with_reducible repeat (first | apply Kd.S_alloc | apply Kd.S_drewN | apply Kd.S_drew)); exact HO_313000.out) (Kd.R_base ho0) hb); replace HO_313003 := dR HO_313003 hb; have HO353 := am (Kd.R_lower (Kd.R_new' (Kd.R_new' ho0 (Kd.R_lt (fR HO_7.out))) (Kd.R_lt (fR HO_313002.out))) (wz (fW HB.out))); replace HO_7 := am (Kd.R_elder' (fR HO_7.out) (Kd.R_base ho0) hb); replace HO_313002 := am (Kd.R_elder' (fR HO_313002.out) (Kd.R_base ho0) hb); replace BK288 := bB BK288 hb; replace BK312 := bB BK312 hb; replace HB := bS HB hb; (try clear hb); (try clear hb2); (try clear hk); (try clear hi); (try clear ho0); obtain ⟨Ao61, co61, eo61⟩ := Kd.R_slice HO_7.out; subst eo61; obtain ⟨Ao62, co62, eo62⟩ := Kd.R_slice HO353.out; subst eo62) | ((with_reducible refine gc (f := 22) rfl ?_); refine goesL_ (some 62) rfl rfl Try.func22 (by kernel_rfl) rfl #[.slice Ao61 t323.length co61, .slice Ao62 t351.length co62] rfl (by (try simp only [pml]); first | done | rfl | (simp only [pdt]; rfl)) ?_; (with_reducible refine (r_SameInts.calls kj9 _ _ t323 _ _ t351 true _ ?side1 ?side2 ?side3 ?side4 A55.out).mono ?_); (case side1 => repeat (first | exact (Kd.R_reads' HO_7.out).2.2 | (with_reducible refine Kd.C_alloc ?_ _) | (with_reducible refine Kd.C_drewN ?_ _) | (with_reducible refine Kd.C_drew ?_))); (case side2 => exact (Kd.R_reads' HO_7.out).2.1); (case side3 => repeat (first | exact (Kd.R_reads' HO353.out).2.2 | (with_reducible refine Kd.C_alloc ?_ _) | (with_reducible refine Kd.C_drewN ?_ _) | (with_reducible refine Kd.C_drew ?_))); (case side4 => exact (Kd.R_reads' HO353.out).2.1); rintro e w' ⟨rfl, ⟨nd, rfl⟩⟩; refine ⟨_, rfl, ?_⟩))
    (try simp only [Act.put, psl])
    go_cut [71] (fun v71 wc => ∃ (kq : Nat) (x71_56 : Bool), v71 = .bool x71_56 ∧ Aside0 (w_ReplaceChecks.j2 kq a1 t311 x71_56 l0_0 a0_1 l0_2 l0_3 t301 t304 t305 t308 = some r) ∧ Aside0 (kq ≤ kj9) ∧ Aside0 (Kd.S (Kd.slice 3 (Kd.int .i64)) 23 wc w.heap.size (fun k_ => some k_ ≠ ((.slice Ao24 t305.length co24) : Value).ownBlock) (.slice Ao21 t301.length co21) t301) ∧ Aside0 (Kd.R (Kd.int .i64) 3 wc w.heap.size (fun _ => True) (.slice Ao24 t305.length co24) t305) ∧ Aside0 (Kd.R Kd.bool 4 wc w.heap.size (fun _ => True) (.slice Ao25 t308.length co25) t308) ∧ Aside0 (wc.heap[gb288]? = some (.cells #[(.slice A0_0 l0_0.length c0_0), .int .i64 a0_1, (.slice A0_2 l0_2.length c0_2), (.slice A0_3 l0_3.length c0_3)] 26 (0, 0))) ∧ Aside0 (wc.heap[gb312]? = some (.cells #[(.slice Ao21 t301.length co21), .int .i64 t304, (.slice Ao24 t305.length co24), (.slice Ao25 t308.length co25)] 33 (0, 0))) ∧ Aside0 (Below w.heap.size w wc))
    case first =>
     have H := HC57.out
     clear HC57
     by_cases c63 : a1 < 0
     ·rw [if_pos c63] at H
      have c63b0 : decide (a1 < 0) = true := decide_eq_true c63
      clear c63
      (first | rw [c63b0] | (simp only [i64_w, i32_w]; rw [c63b0]) | skip)
      have H' := am H
      clear H
      go_wp2
      go_meet
      case rel => exact ⟨_, (true), sqD, H', ⟨by have := HJ9.out; first | omega | exact Nat.le_refl _⟩, ⟨by (with_reducible repeat (first | apply Kd.S_alloc | apply Kd.S_drewN | apply Kd.S_drew)); exact Kd.S_mono HO_313000.out (fun _ hk => hk.1.2)⟩, ⟨by (with_reducible repeat (first | apply Kd.R_alloc | apply Kd.R_drewN | apply Kd.R_drew)); exact Kd.R_mono HO_313002.out (fun _ hk => trivial)⟩, ⟨fR HO_313003.out⟩, ⟨fb BK288.out⟩, ⟨fb BK312.out⟩, ⟨fW HB.out⟩⟩
     rw [if_neg c63] at H
     have c63b0 : decide (a1 < 0) = false := decide_eq_false c63
     clear c63
     (first | rw [c63b0] | (simp only [i64_w, i32_w]; rw [c63b0]) | skip)
     have H' := am H
     clear H
     have hnb64 := NB288_312.out
     have hnc64 := NB312_288.out
     have := yC1 BK288
     have := kC1 BK288
     have := kC2 BK288
     have := kC3 BK288
     have := bf BK288.out 0
     have := bf BK288.out 1
     have := bf BK288.out 2
     have := bf BK288.out 3
     go_wp2
     go_meet
     case rel => exact ⟨_, (decide (a1 ≥ a0_1)), sqD, H', ⟨by have := HJ9.out; first | omega | exact Nat.le_refl _⟩, ⟨by (with_reducible repeat (first | apply Kd.S_alloc | apply Kd.S_drewN | apply Kd.S_drew)); exact Kd.S_mono HO_313000.out (fun _ hk => hk.1.2)⟩, ⟨by (with_reducible repeat (first | apply Kd.R_alloc | apply Kd.R_drewN | apply Kd.R_drew)); exact Kd.R_mono HO_313002.out (fun _ hk => trivial)⟩, ⟨fR HO_313003.out⟩, ⟨fb BK288.out⟩, ⟨fb BK312.out⟩, ⟨fW HB.out⟩⟩
    case rest =>
     clear HC57
     try clear c1;try clear c2;try clear p2;try clear c3;try clear c4;try clear c5;try clear c6;try clear c10;try clear c13;try clear c14;try clear c22;try clear c23;try clear c24;try clear c25;try clear c28;try clear c37;try clear c37b0;try clear c37b1;try clear c38;try clear c45;try clear c52;try clear c53;try clear c53b0;try clear c53b1;try clear c56;try clear c58;try clear c63;try clear c63b0;try clear c64;try clear p2
     obtain ⟨kq, x71_56, rfl, HA, HJ56, HO_313000, HO_313002, HO_313003, BK288, BK312, HB⟩ := hcut
     cases kq with
     | zero => exact absurd HA.out (by simp [w_ReplaceChecks.j2])
     | succ kj56 =>
      have H := HA.out
      clear HA
      simp only [w_ReplaceChecks.j2] at H
      by_cases c66 : x71_56 = true
      ·subst c66
       have H1 : ((w_awake.f kj56).bind fun t355 => (if t355 = true then (if t311 = 6 then ((w_theirs.f t301 t304 t305 t308).bind fun bt356 => ((r_Same.f kj56 bt356.1 bt356.2.1 bt356.2.2.1 bt356.2.2.2 ([] : List (List Int)) 0 ([] : List Int) ([] : List Bool)).bind fun t366 => (w_ReplaceChecks.j3 kj56 t366))) else (w_ReplaceChecks.j3 kj56 false)) else (w_ReplaceChecks.j3 kj56 false))) = some r := by rw [if_pos rfl] at H; exact H
       clear H
       have H := H1
       clear H1
       have HC67 := am H
       clear H
       go_upto_region 13 with (fail)
       go_cut [4] (fun v4 wc => ∃ (kq : Nat) (x4_66 : Bool), v4 = .bool x4_66 ∧ Aside0 (w_ReplaceChecks.j3 kq x4_66 = some r) ∧ Aside0 (kq ≤ kj56) ∧ Aside0 (Kd.S (Kd.slice 3 (Kd.int .i64)) 23 wc w.heap.size (fun k_ => some k_ ≠ ((.slice Ao24 t305.length co24) : Value).ownBlock) (.slice Ao21 t301.length co21) t301) ∧ Aside0 (Kd.R (Kd.int .i64) 3 wc w.heap.size (fun _ => True) (.slice Ao24 t305.length co24) t305) ∧ Aside0 (Kd.R Kd.bool 4 wc w.heap.size (fun _ => True) (.slice Ao25 t308.length co25) t308) ∧ Aside0 (wc.heap[gb288]? = some (.cells #[(.slice A0_0 l0_0.length c0_0), .int .i64 a0_1, (.slice A0_2 l0_2.length c0_2), (.slice A0_3 l0_3.length c0_3)] 26 (0, 0))) ∧ Aside0 (wc.heap[gb312]? = some (.cells #[(.slice Ao21 t301.length co21), .int .i64 t304, (.slice Ao24 t305.length co24), (.slice Ao25 t308.length co25)] 33 (0, 0))) ∧ Aside0 (Below w.heap.size w wc))
       case first =>
        have H := HC67.out
        clear HC67
        replace H := Option.bind_eq_some_iff.mp H
        obtain ⟨t355, A680, H⟩ := H
        replace H : (if t355 = true then (if t311 = 6 then ((w_theirs.f t301 t304 t305 t308).bind fun bt356 => ((r_Same.f kj56 bt356.1 bt356.2.1 bt356.2.2.1 bt356.2.2.2 ([] : List (List Int)) 0 ([] : List Int) ([] : List Bool)).bind fun t366 => (w_ReplaceChecks.j3 kj56 t366))) else (w_ReplaceChecks.j3 kj56 false)) else (w_ReplaceChecks.j3 kj56 false)) = some r := H
        have A68 := am A680
        clear A680
        by_cases c69 : t355 = true
        rotate_left
        ·replace c69 := Bool.eq_false_iff.mpr c69
         subst c69
         have H1 : (w_ReplaceChecks.j3 kj56 false) = some r := by rw [if_neg (show ¬ (false = true) by decide)] at H; exact H
         clear H
         have H := H1
         clear H1
         have H' := am H
         clear H
         go_wp2_with (first | ((with_reducible refine gc (f := 11) rfl ?_); refine goesL_ (some 72) rfl rfl Try.func11 (by kernel_rfl) rfl #[] rfl (by (try simp only [pml]); first | done | rfl | (simp only [pdt]; rfl)) ?_; (with_reducible refine (w_awake.calls kj56  false _ A68.out).mono ?_); rintro e w82 ⟨rfl, hb⟩; refine ⟨_, rfl, ?_⟩; replace HO_313000 := am (Kd.S_below (by (with_reducible repeat (first | apply Kd.S_alloc | apply Kd.S_drewN | apply Kd.S_drew)); exact HO_313000.out) hb); replace HO_313002 := dR HO_313002 hb; replace HO_313003 := dR HO_313003 hb; replace BK288 := bB BK288 hb; replace BK312 := bB BK312 hb; replace HB := bS HB hb; (try clear hb); (try clear hb2); (try clear hk); (try clear hi)))
         go_meet
         case rel => exact ⟨_, (false), sqD, H', ⟨by have := HJ9.out; have := HJ56.out; first | omega | exact Nat.le_refl _⟩, ⟨by (with_reducible repeat (first | apply Kd.S_alloc | apply Kd.S_drewN | apply Kd.S_drew)); exact HO_313000.out⟩, ⟨fR HO_313002.out⟩, ⟨fR HO_313003.out⟩, ⟨fb BK288.out⟩, ⟨fb BK312.out⟩, ⟨fW HB.out⟩⟩
        subst c69
        have H1 : (if t311 = 6 then ((w_theirs.f t301 t304 t305 t308).bind fun bt356 => ((r_Same.f kj56 bt356.1 bt356.2.1 bt356.2.2.1 bt356.2.2.2 ([] : List (List Int)) 0 ([] : List Int) ([] : List Bool)).bind fun t366 => (w_ReplaceChecks.j3 kj56 t366))) else (w_ReplaceChecks.j3 kj56 false)) = some r := by rw [if_pos rfl] at H; exact H
        clear H
        have H := H1
        clear H1
        by_cases c70 : t311 = 6
        rotate_left
        ·rw [if_neg c70] at H
         have c70b0 : (t311 == 6) = false := beq_eq_false_iff_ne.mpr c70
         have c70b1 : (t311 != 6) = true := bne_iff_ne.mpr c70
         (first | rw [c70b0] | (simp only [i64_w, i32_w]; rw [c70b0]) | skip)
         have H' := am H
         clear H
         go_wp2_with (first | ((with_reducible refine gc (f := 11) rfl ?_); refine goesL_ (some 72) rfl rfl Try.func11 (by kernel_rfl) rfl #[] rfl (by (try simp only [pml]); first | done | rfl | (simp only [pdt]; rfl)) ?_; (with_reducible refine (w_awake.calls kj56  true _ A68.out).mono ?_); rintro e w81 ⟨rfl, hb⟩; refine ⟨_, rfl, ?_⟩; replace HO_313000 := am (Kd.S_below (by (with_reducible repeat (first | apply Kd.S_alloc | apply Kd.S_drewN | apply Kd.S_drew)); exact HO_313000.out) hb); replace HO_313002 := dR HO_313002 hb; replace HO_313003 := dR HO_313003 hb; replace BK288 := bB BK288 hb; replace BK312 := bB BK312 hb; replace HB := bS HB hb; (try clear hb); (try clear hb2); (try clear hk); (try clear hi)))
         go_meet
         case rel => exact ⟨_, (false), sqD, H', ⟨by have := HJ9.out; have := HJ56.out; first | omega | exact Nat.le_refl _⟩, ⟨by (with_reducible repeat (first | apply Kd.S_alloc | apply Kd.S_drewN | apply Kd.S_drew)); exact HO_313000.out⟩, ⟨fR HO_313002.out⟩, ⟨fR HO_313003.out⟩, ⟨fb BK288.out⟩, ⟨fb BK312.out⟩, ⟨fW HB.out⟩⟩
        rw [if_pos c70] at H
        have c70b0 : (t311 == 6) = true := beq_iff_eq.mpr c70
        have c70b1 : (t311 != 6) = false := bne_eq_false_iff_eq.mpr c70
        clear c70
        (first | rw [c70b0] | (simp only [i64_w, i32_w]; rw [c70b0]) | skip)
        replace H := Option.bind_eq_some_iff.mp H
        obtain ⟨⟨t356, t359, t360, t363⟩, A710, H⟩ := H
        replace H : ((r_Same.f kj56 t356 t359 t360 t363 ([] : List (List Int)) 0 ([] : List Int) ([] : List Bool)).bind fun t366 => (w_ReplaceChecks.j3 kj56 t366)) = some r := H
        have A71 := am A710
        clear A710
        replace H := Option.bind_eq_some_iff.mp H
        obtain ⟨t366, A720, H⟩ := H
        replace H : (w_ReplaceChecks.j3 kj56 t366) = some r := H
        have A72 := am A720
        clear A720
        have H' := am H
        clear H
        go_wp2_with (first | ((with_reducible refine gc (f := 11) rfl ?_); refine goesL_ (some 72) rfl rfl Try.func11 (by kernel_rfl) rfl #[] rfl (by (try simp only [pml]); first | done | rfl | (simp only [pdt]; rfl)) ?_; (with_reducible refine (w_awake.calls kj56  true _ A68.out).mono ?_); rintro e w73 ⟨rfl, hb⟩; refine ⟨_, rfl, ?_⟩; replace HO_313000 := am (Kd.S_below (by (with_reducible repeat (first | apply Kd.S_alloc | apply Kd.S_drewN | apply Kd.S_drew)); exact HO_313000.out) hb); replace HO_313002 := dR HO_313002 hb; replace HO_313003 := dR HO_313003 hb; replace BK288 := bB BK288 hb; replace BK312 := bB BK312 hb; replace HB := bS HB hb; (try clear hb); (try clear hb2); (try clear hk); (try clear hi); have hnb74 := NB312_288.out; have hnc74 := NB288_312.out; obtain ⟨_, _, _, _, _, _, _, _⟩ := zC4 BK312) | (go_at_call 27; (with_reducible refine (w_theirs.calls (fun k_ => (((some k_ ≠ (.slice Ao24 t305.length co24 : Value).ownBlock ∧ some k_ ≠ (.slice Ao25 t308.length co25 : Value).ownBlock) ∧ k_ ≠ gb288) ∧ k_ ≠ gb312)) _ _ t301 t304 (fun k_ => some k_ = (.slice Ao24 t305.length co24 : Value).ownBlock) _ _ t305 (fun k_ => some k_ = (.slice Ao25 t308.length co25 : Value).ownBlock) _ _ t308 t356 t359 t360 t363 _ ?side1 ?side2 ?side3 A71.out).mono ?_); (case side1 => exact Kd.S_V (Kd.S_types (Kd.S_types (Kd.S_apart' (HO_313000.out) (Kd.R_typed HO_313003.out) (by decide)) BK288.out (by decide)) BK312.out (by decide))); (case side2 => exact Kd.R_V (Kd.R_tight rfl (Kd.R_types (Kd.R_types (Kd.R_apart' (Kd.R_apart' (HO_313002.out) (Kd.S_typed HO_313000.out) (by decide)) (Kd.R_typed HO_313003.out) (by decide)) BK288.out (by decide)) BK312.out (by decide)))); (case side3 => exact Kd.R_V (Kd.R_tight rfl (Kd.R_types (Kd.R_types (Kd.R_apart' (Kd.R_apart' (HO_313003.out) (Kd.S_typed HO_313000.out) (by decide)) (Kd.R_typed HO_313002.out) (by decide)) BK288.out (by decide)) BK312.out (by decide)))); rintro e w76 ⟨v357, v361, v364, rfl, ho0, ho1, ho2, hb⟩; have HO358 := am (Kd.V_lower (Kd.V_mono (ok' := fun k_ => k_ ≠ gb288 ∧ k_ ≠ gb312) ho0 (fun k_ hk_ => ⟨Or.elim hk_ (fun hs_ => Or.elim hs_ (fun hs_ => hs_.1.2) (fun hs_ => Or.elim hs_ (fun hs_ => ((Kd.R_types (Kd.R_types (Kd.R_apart' (Kd.R_apart' (HO_313002.out) (Kd.S_typed HO_313000.out) (by decide)) (Kd.R_typed HO_313003.out) (by decide)) BK288.out (by decide)) BK312.out (by decide)).1 k_ hs_.symm).1.2) (fun hs_ => ((Kd.R_types (Kd.R_types (Kd.R_apart' (Kd.R_apart' (HO_313003.out) (Kd.S_typed HO_313000.out) (by decide)) (Kd.R_typed HO_313002.out) (by decide)) BK288.out (by decide)) BK312.out (by decide)).1 k_ hs_.symm).1.2))) (fun hn_ => (Kd.freshB (g := gb288) (o := .cells #[.slice A0_0 l0_0.length c0_0, .int .i64 a0_1, .slice A0_2 l0_2.length c0_2, .slice A0_3 l0_3.length c0_3] 26 (0, 0)) (fb BK288.out) k_ hn_)), Or.elim hk_ (fun hs_ => Or.elim hs_ (fun hs_ => hs_.2) (fun hs_ => Or.elim hs_ (fun hs_ => ((Kd.R_types (Kd.R_types (Kd.R_apart' (Kd.R_apart' (HO_313002.out) (Kd.S_typed HO_313000.out) (by decide)) (Kd.R_typed HO_313003.out) (by decide)) BK288.out (by decide)) BK312.out (by decide)).1 k_ hs_.symm).2) (fun hs_ => ((Kd.R_types (Kd.R_types (Kd.R_apart' (Kd.R_apart' (HO_313003.out) (Kd.S_typed HO_313000.out) (by decide)) (Kd.R_typed HO_313002.out) (by decide)) BK288.out (by decide)) BK312.out (by decide)).1 k_ hs_.symm).2))) (fun hn_ => (Kd.freshB (g := gb312) (o := .cells #[.slice Ao21 t301.length co21, .int .i64 t304, .slice Ao24 t305.length co24, .slice Ao25 t308.length co25] 33 (0, 0)) (fb BK312.out) k_ hn_))⟩)) (wz (fW HB.out))); have HO362 := am (Kd.V_lower (Kd.V_mono (ok' := fun k_ => k_ ≠ gb288 ∧ k_ ≠ gb312) ho1 (fun k_ hk_ => ⟨Or.elim hk_ (fun hs_ => Or.elim hs_ (fun hs_ => hs_.1.2) (fun hs_ => Or.elim hs_ (fun hs_ => ((Kd.R_types (Kd.R_types (Kd.R_apart' (Kd.R_apart' (HO_313002.out) (Kd.S_typed HO_313000.out) (by decide)) (Kd.R_typed HO_313003.out) (by decide)) BK288.out (by decide)) BK312.out (by decide)).1 k_ hs_.symm).1.2) (fun hs_ => ((Kd.R_types (Kd.R_types (Kd.R_apart' (Kd.R_apart' (HO_313003.out) (Kd.S_typed HO_313000.out) (by decide)) (Kd.R_typed HO_313002.out) (by decide)) BK288.out (by decide)) BK312.out (by decide)).1 k_ hs_.symm).1.2))) (fun hn_ => (Kd.freshB (g := gb288) (o := .cells #[.slice A0_0 l0_0.length c0_0, .int .i64 a0_1, .slice A0_2 l0_2.length c0_2, .slice A0_3 l0_3.length c0_3] 26 (0, 0)) (fb BK288.out) k_ hn_)), Or.elim hk_ (fun hs_ => Or.elim hs_ (fun hs_ => hs_.2) (fun hs_ => Or.elim hs_ (fun hs_ => ((Kd.R_types (Kd.R_types (Kd.R_apart' (Kd.R_apart' (HO_313002.out) (Kd.S_typed HO_313000.out) (by decide)) (Kd.R_typed HO_313003.out) (by decide)) BK288.out (by decide)) BK312.out (by decide)).1 k_ hs_.symm).2) (fun hs_ => ((Kd.R_types (Kd.R_types (Kd.R_apart' (Kd.R_apart' (HO_313003.out) (Kd.S_typed HO_313000.out) (by decide)) (Kd.R_typed HO_313002.out) (by decide)) BK288.out (by decide)) BK312.out (by decide)).1 k_ hs_.symm).2))) (fun hn_ => (Kd.freshB (g := gb312) (o := .cells #[.slice Ao21 t301.length co21, .int .i64 t304, .slice Ao24 t305.length co24, .slice Ao25 t308.length co25] 33 (0, 0)) (fb BK312.out) k_ hn_))⟩)) (wz (fW HB.out))); have HO365 := am (Kd.V_lower (Kd.V_mono (ok' := fun k_ => k_ ≠ gb288 ∧ k_ ≠ gb312) ho2 (fun k_ hk_ => ⟨Or.elim hk_ (fun hs_ => Or.elim hs_ (fun hs_ => hs_.1.2) (fun hs_ => Or.elim hs_ (fun hs_ => ((Kd.R_types (Kd.R_types (Kd.R_apart' (Kd.R_apart' (HO_313002.out) (Kd.S_typed HO_313000.out) (by decide)) (Kd.R_typed HO_313003.out) (by decide)) BK288.out (by decide)) BK312.out (by decide)).1 k_ hs_.symm).1.2) (fun hs_ => ((Kd.R_types (Kd.R_types (Kd.R_apart' (Kd.R_apart' (HO_313003.out) (Kd.S_typed HO_313000.out) (by decide)) (Kd.R_typed HO_313002.out) (by decide)) BK288.out (by decide)) BK312.out (by decide)).1 k_ hs_.symm).1.2))) (fun hn_ => (Kd.freshB (g := gb288) (o := .cells #[.slice A0_0 l0_0.length c0_0, .int .i64 a0_1, .slice A0_2 l0_2.length c0_2, .slice A0_3 l0_3.length c0_3] 26 (0, 0)) (fb BK288.out) k_ hn_)), Or.elim hk_ (fun hs_ => Or.elim hs_ (fun hs_ => hs_.2) (fun hs_ => Or.elim hs_ (fun hs_ => ((Kd.R_types (Kd.R_types (Kd.R_apart' (Kd.R_apart' (HO_313002.out) (Kd.S_typed HO_313000.out) (by decide)) (Kd.R_typed HO_313003.out) (by decide)) BK288.out (by decide)) BK312.out (by decide)).1 k_ hs_.symm).2) (fun hs_ => ((Kd.R_types (Kd.R_types (Kd.R_apart' (Kd.R_apart' (HO_313003.out) (Kd.S_typed HO_313000.out) (by decide)) (Kd.R_typed HO_313002.out) (by decide)) BK288.out (by decide)) BK312.out (by decide)).1 k_ hs_.symm).2))) (fun hn_ => (Kd.freshB (g := gb312) (o := .cells #[.slice Ao21 t301.length co21, .int .i64 t304, .slice Ao24 t305.length co24, .slice Ao25 t308.length co25] 33 (0, 0)) (fb BK312.out) k_ hn_))⟩)) (wz (fW HB.out))); replace HO_313000 := am (Kd.S_below (by (with_reducible repeat (first | apply Kd.S_alloc | apply Kd.S_drewN | apply Kd.S_drew)); exact HO_313000.out) hb); replace HO_313002 := dR HO_313002 hb; replace HO_313003 := dR HO_313003 hb; replace BK288 := bB BK288 hb; replace BK312 := bB BK312 hb; replace HB := bS HB hb; (try clear hb); (try clear hb2); (try clear hk); (try clear hi); (try clear ho0); (try clear ho1); (try clear ho2); obtain ⟨Ao77, co77, eo77⟩ := Kd.V_slice HO358.out; subst eo77; obtain ⟨Ao78, co78, eo78⟩ := Kd.V_slice HO362.out; subst eo78; obtain ⟨Ao79, co79, eo79⟩ := Kd.V_slice HO365.out; subst eo79) | (go_at_call 26; (refine (r_Same.calls kj56 _ _ t356 t359 _ _ t360 _ _ t363 _ _ ([] : List (List Int)) 0 _ _ ([] : List Int) _ _ ([] : List Bool) t366 _ ?side1 ?side2 ?side3 ?side4 ?side5 ?side6 ?side7 ?side8 ?side9 ?side10 ?side11 ?side12 A72.out).mono ?_); (case side1 => repeat (first | exact (Kd.V_reads' HO358.out).2.2 | (with_reducible refine Kd.C_alloc ?_ _) | (with_reducible refine Kd.C_drewN ?_ _) | (with_reducible refine Kd.C_drew ?_))); (case side2 => exact (Kd.V_reads' HO358.out).2.1); (case side3 => repeat (first | exact (Kd.V_reads' HO362.out).2.2 | (with_reducible refine Kd.C_alloc ?_ _) | (with_reducible refine Kd.C_drewN ?_ _) | (with_reducible refine Kd.C_drew ?_))); (case side4 => exact (Kd.V_reads' HO362.out).2.1); (case side5 => repeat (first | exact (Kd.V_reads' HO365.out).2.2 | (with_reducible refine Kd.C_alloc ?_ _) | (with_reducible refine Kd.C_drewN ?_ _) | (with_reducible refine Kd.C_drew ?_))); (case side6 => exact (Kd.V_reads' HO365.out).2.1); (case side7 => exact Kd.C_nil _ _); (case side8 => exact Nat.le_refl _); (case side9 => exact Kd.C_nil _ _); (case side10 => exact Nat.le_refl _); (case side11 => exact Kd.C_nil _ _); (case side12 => exact Nat.le_refl _); rintro e w80 ⟨rfl, hb⟩; replace HO_313000 := am (Kd.S_below (by (with_reducible repeat (first | apply Kd.S_alloc | apply Kd.S_drewN | apply Kd.S_drew)); exact HO_313000.out) hb); replace HO_313002 := dR HO_313002 hb; replace HO_313003 := dR HO_313003 hb; replace HO358 := dV HO358 hb; replace HO362 := dV HO362 hb; replace HO365 := dV HO365 hb; replace BK288 := bB BK288 hb; replace BK312 := bB BK312 hb; replace HB := bS HB hb; (try clear hb); (try clear hb2); (try clear hk); (try clear hi)))
        go_meet
        case rel => exact ⟨_, (t366), sqD, H', ⟨by have := HJ9.out; have := HJ56.out; first | omega | exact Nat.le_refl _⟩, ⟨by (with_reducible repeat (first | apply Kd.S_alloc | apply Kd.S_drewN | apply Kd.S_drew)); exact HO_313000.out⟩, ⟨fR HO_313002.out⟩, ⟨fR HO_313003.out⟩, ⟨fb BK288.out⟩, ⟨fb BK312.out⟩, ⟨fW HB.out⟩⟩
       case rest =>
        clear HC67
        try clear c1;try clear c2;try clear p2;try clear c3;try clear c4;try clear c5;try clear c6;try clear c7;try clear c10;try clear c11;try clear c13;try clear c14;try clear c22;try clear c23;try clear c24;try clear c25;try clear c28;try clear c37;try clear c37b0;try clear c37b1;try clear c38;try clear c45;try clear c52;try clear c53;try clear c53b0;try clear c53b1;try clear c56;try clear c58;try clear c63;try clear c63b0;try clear c64;try clear c66;try clear c69;try clear c70;try clear c70b0;try clear c70b1;try clear c74;try clear p2
        obtain ⟨kq, x4_66, rfl, HA, HJ66, HO_313000, HO_313002, HO_313003, BK288, BK312, HB⟩ := hcut
        cases kq with
        | zero => exact absurd HA.out (by simp [w_ReplaceChecks.j3])
        | succ kj66 =>
         have H := HA.out
         clear HA
         simp only [w_ReplaceChecks.j3] at H
         obtain rfl := Option.some.inj H
         go_wp2
         go_ret
         exact ⟨sqE, fW HB.out⟩
      replace c66 := Bool.eq_false_iff.mpr c66
      subst c66
      have H1 : ((r_User.f kj56 l0_0 a0_1 l0_2 l0_3 a1).bind fun t367 => (if t367 ≥ 0 then (if 0 ≤ t367 then (if t367 < (l0_3.length : Int) then (w_ReplaceChecks.j4 kj56 a1 t311 (rdOf false l0_3 t367) l0_0 a0_1 l0_2 l0_3 t301 t304 t305 t308) else (none)) else (none)) else (w_ReplaceChecks.j4 kj56 a1 t311 false l0_0 a0_1 l0_2 l0_3 t301 t304 t305 t308))) = some r := by rw [if_neg (show ¬ (false = true) by decide)] at H; exact H
      clear H
      have H := H1
      clear H1
      replace H := Option.bind_eq_some_iff.mp H
      obtain ⟨t367, A830, H⟩ := H
      replace H : (if t367 ≥ 0 then (if 0 ≤ t367 then (if t367 < (l0_3.length : Int) then (w_ReplaceChecks.j4 kj56 a1 t311 (rdOf false l0_3 t367) l0_0 a0_1 l0_2 l0_3 t301 t304 t305 t308) else (none)) else (none)) else (w_ReplaceChecks.j4 kj56 a1 t311 false l0_0 a0_1 l0_2 l0_3 t301 t304 t305 t308)) = some r := H
      have A83 := am A830
      clear A830
      have HC84 := am H
      clear H
      have hnb85 := NB288_312.out
      have hnc85 := NB312_288.out
      have := yC1 BK288
      have := kC1 BK288
      have := kC2 BK288
      have := kC3 BK288
      have := bf BK288.out 0
      have := bf BK288.out 1
      have := bf BK288.out 2
      have := bf BK288.out 3
      go_upto_region 15 with (first | ((with_reducible refine gc (f := 29) rfl ?_); refine goesL_ (some 85) rfl rfl Try.func29 (by kernel_rfl) rfl #[.agg #[.slice A0_0 l0_0.length c0_0, .int .i64 a0_1, .slice A0_2 l0_2.length c0_2, .slice A0_3 l0_3.length c0_3], .int .i64 a1] rfl (by (try simp only [pml]); first | done | rfl | (simp only [pdt]; rfl)) ?_; (with_reducible refine (r_User.calls kj56 _ _ l0_0 a0_1 _ _ l0_2 _ _ l0_3 a1 t367 _ ?side1 ?side2 ?side3 ?side4 ?side5 ?side6 A83.out).mono ?_); (case side1 => repeat (first | exact (Kd.C_below HR0_0.out HB.out) | (with_reducible refine Kd.C_alloc ?_ _) | (with_reducible refine Kd.C_drewN ?_ _) | (with_reducible refine Kd.C_drew ?_))); (case side2 => exact HC0_0.out); (case side3 => repeat (first | exact (Kd.C_below HR0_2.out HB.out) | (with_reducible refine Kd.C_alloc ?_ _) | (with_reducible refine Kd.C_drewN ?_ _) | (with_reducible refine Kd.C_drew ?_))); (case side4 => exact HC0_2.out); (case side5 => repeat (first | exact (Kd.C_below HR0_3.out HB.out) | (with_reducible refine Kd.C_alloc ?_ _) | (with_reducible refine Kd.C_drewN ?_ _) | (with_reducible refine Kd.C_drew ?_))); (case side6 => exact HC0_3.out); rintro e w87 ⟨rfl, hb⟩; refine ⟨_, rfl, ?_⟩; replace HO_313000 := am (Kd.S_below (by (with_reducible repeat (first | apply Kd.S_alloc | apply Kd.S_drewN | apply Kd.S_drew)); exact HO_313000.out) hb); replace HO_313002 := dR HO_313002 hb; replace HO_313003 := dR HO_313003 hb; replace BK288 := bB BK288 hb; replace BK312 := bB BK312 hb; replace HB := bS HB hb; (try clear hb); (try clear hb2); (try clear hk); (try clear hi)))
      (try simp only [Act.put, psl])
      go_cut [94] (fun v94 wc => ∃ (kq : Nat) (x94_83 : Bool), v94 = .bool x94_83 ∧ Aside0 (w_ReplaceChecks.j4 kq a1 t311 x94_83 l0_0 a0_1 l0_2 l0_3 t301 t304 t305 t308 = some r) ∧ Aside0 (kq ≤ kj56) ∧ Aside0 (Kd.S (Kd.slice 3 (Kd.int .i64)) 23 wc w.heap.size (fun k_ => some k_ ≠ ((.slice Ao24 t305.length co24) : Value).ownBlock) (.slice Ao21 t301.length co21) t301) ∧ Aside0 (Kd.R (Kd.int .i64) 3 wc w.heap.size (fun _ => True) (.slice Ao24 t305.length co24) t305) ∧ Aside0 (Kd.R Kd.bool 4 wc w.heap.size (fun _ => True) (.slice Ao25 t308.length co25) t308) ∧ Aside0 (wc.heap[gb288]? = some (.cells #[(.slice A0_0 l0_0.length c0_0), .int .i64 a0_1, (.slice A0_2 l0_2.length c0_2), (.slice A0_3 l0_3.length c0_3)] 26 (0, 0))) ∧ Aside0 (wc.heap[gb312]? = some (.cells #[(.slice Ao21 t301.length co21), .int .i64 t304, (.slice Ao24 t305.length co24), (.slice Ao25 t308.length co25)] 33 (0, 0))) ∧ Aside0 (Below w.heap.size w wc))
      case first =>
       have H := HC84.out
       clear HC84
       by_cases c88 : t367 ≥ 0
       rotate_left
       ·rw [if_neg c88] at H
        have c88b0 : decide (0 ≤ t367) = false := decide_eq_false c88
        clear c88
        (first | rw [c88b0] | (simp only [i64_w, i32_w]; rw [c88b0]) | skip)
        have H' := am H
        clear H
        go_wp2
        go_meet
        case rel => exact ⟨_, (false), sqD, H', ⟨by have := HJ9.out; have := HJ56.out; first | omega | exact Nat.le_refl _⟩, ⟨by (with_reducible repeat (first | apply Kd.S_alloc | apply Kd.S_drewN | apply Kd.S_drew)); exact HO_313000.out⟩, ⟨fR HO_313002.out⟩, ⟨fR HO_313003.out⟩, ⟨fb BK288.out⟩, ⟨fb BK312.out⟩, ⟨fW HB.out⟩⟩
       rw [if_pos c88] at H
       have c88b0 : decide (0 ≤ t367) = true := decide_eq_true c88
       clear c88
       (first | rw [c88b0] | (simp only [i64_w, i32_w]; rw [c88b0]) | skip)
       by_cases c89 : 0 ≤ t367
       rotate_left
       ·rw [if_neg c89] at H
        exact absurd H (by simp)
       rw [if_pos c89] at H
       have c89b0 : decide (0 ≤ t367) = true := decide_eq_true c89
       clear c89
       by_cases c90 : t367 < (l0_3.length : Int)
       rotate_left
       ·rw [if_neg c90] at H
        exact absurd H (by simp)
       rw [if_pos c90] at H
       have c90b0 : decide (t367 < (l0_3.length : Int)) = true := decide_eq_true c90
       clear c90
       have H' := am H
       clear H
       have hnb91 := NB288_312.out
       have hnc91 := NB312_288.out
       have := yC1 BK288
       have := kC1 BK288
       have := kC2 BK288
       have := kC3 BK288
       have := bf BK288.out 0
       have := bf BK288.out 1
       have := bf BK288.out 2
       have := bf BK288.out 3
       have p368 : 0 ≤ (t367 : Int) := of_decide_eq_true (by assumption)
       have q368 : t367 < (l0_3.length : Int) := of_decide_eq_true (by assumption)
       obtain ⟨ad368, e368, hx368_0⟩ := Kd.at_bool HR0_3.out t367 p368 q368
       cases e368
       replace hx368_0 := cl HB hx368_0
       replace p368 := eq_true p368
       replace q368 := eq_true q368
       go_wp2
       go_meet
       case rel => exact ⟨_, (rdOf false l0_3 t367), sqD, H', ⟨by have := HJ9.out; have := HJ56.out; first | omega | exact Nat.le_refl _⟩, ⟨by (with_reducible repeat (first | apply Kd.S_alloc | apply Kd.S_drewN | apply Kd.S_drew)); exact HO_313000.out⟩, ⟨fR HO_313002.out⟩, ⟨fR HO_313003.out⟩, ⟨fb BK288.out⟩, ⟨fb BK312.out⟩, ⟨fW HB.out⟩⟩
      case rest =>
       clear HC84
       try clear c1;try clear c2;try clear p2;try clear c3;try clear p3;try clear q3;try clear hx3;try clear c4;try clear c5;try clear c6;try clear c7;try clear c8;try clear c9;try clear c10;try clear c11;try clear c13;try clear c14;try clear c22;try clear c23;try clear c24;try clear c25;try clear c28;try clear c29;try clear p36;try clear q36;try clear hx36;try clear c37;try clear c37b0;try clear c37b1;try clear c38;try clear c45;try clear c52;try clear c53;try clear c53b0;try clear c53b1;try clear c56;try clear c58;try clear c63;try clear c63b0;try clear c64;try clear c66;try clear c69;try clear c70;try clear c70b0;try clear c70b1;try clear c74;try clear c85;try clear c88;try clear c88b0;try clear c89;try clear c89b0;try clear c90;try clear c90b0;try clear c91;try clear hx368_0;try clear p2;try clear p368;try clear q368
       obtain ⟨kq, x94_83, rfl, HA, HJ83, HO_313000, HO_313002, HO_313003, BK288, BK312, HB⟩ := hcut
       cases kq with
       | zero => exact absurd HA.out (by simp [w_ReplaceChecks.j4])
       | succ kj83 =>
        have H := HA.out
        clear HA
        simp only [w_ReplaceChecks.j4] at H
        by_cases c93 : x94_83 = true
        ·subst c93
         have H1 : ((w_awake.f kj83).bind fun t369 => (if t369 = true then (if t311 = 8 then ((w_theirs.f t301 t304 t305 t308).bind fun bt370 => ((r_Same.f kj83 bt370.1 bt370.2.1 bt370.2.2.1 bt370.2.2.2 ([] : List (List Int)) 0 ([] : List Int) ([] : List Bool)).bind fun t380 => (w_ReplaceChecks.j5 kj83 t380))) else (w_ReplaceChecks.j5 kj83 false)) else (w_ReplaceChecks.j5 kj83 false))) = some r := by rw [if_pos rfl] at H; exact H
         clear H
         have H := H1
         clear H1
         have HC94 := am H
         clear H
         go_upto_region 16 with (fail)
         go_cut [4] (fun v4 wc => ∃ (kq : Nat) (x4_93 : Bool), v4 = .bool x4_93 ∧ Aside0 (w_ReplaceChecks.j5 kq x4_93 = some r) ∧ Aside0 (kq ≤ kj83) ∧ Aside0 (Kd.S (Kd.slice 3 (Kd.int .i64)) 23 wc w.heap.size (fun k_ => some k_ ≠ ((.slice Ao24 t305.length co24) : Value).ownBlock) (.slice Ao21 t301.length co21) t301) ∧ Aside0 (Kd.R (Kd.int .i64) 3 wc w.heap.size (fun _ => True) (.slice Ao24 t305.length co24) t305) ∧ Aside0 (Kd.R Kd.bool 4 wc w.heap.size (fun _ => True) (.slice Ao25 t308.length co25) t308) ∧ Aside0 (wc.heap[gb288]? = some (.cells #[(.slice A0_0 l0_0.length c0_0), .int .i64 a0_1, (.slice A0_2 l0_2.length c0_2), (.slice A0_3 l0_3.length c0_3)] 26 (0, 0))) ∧ Aside0 (wc.heap[gb312]? = some (.cells #[(.slice Ao21 t301.length co21), .int .i64 t304, (.slice Ao24 t305.length co24), (.slice Ao25 t308.length co25)] 33 (0, 0))) ∧ Aside0 (Below w.heap.size w wc))
         case first =>
          have H := HC94.out
          clear HC94
          replace H := Option.bind_eq_some_iff.mp H
          obtain ⟨t369, A950, H⟩ := H
          replace H : (if t369 = true then (if t311 = 8 then ((w_theirs.f t301 t304 t305 t308).bind fun bt370 => ((r_Same.f kj83 bt370.1 bt370.2.1 bt370.2.2.1 bt370.2.2.2 ([] : List (List Int)) 0 ([] : List Int) ([] : List Bool)).bind fun t380 => (w_ReplaceChecks.j5 kj83 t380))) else (w_ReplaceChecks.j5 kj83 false)) else (w_ReplaceChecks.j5 kj83 false)) = some r := H
          have A95 := am A950
          clear A950
          by_cases c96 : t369 = true
          rotate_left
          ·replace c96 := Bool.eq_false_iff.mpr c96
           subst c96
           have H1 : (w_ReplaceChecks.j5 kj83 false) = some r := by rw [if_neg (show ¬ (false = true) by decide)] at H; exact H
           clear H
           have H := H1
           clear H1
           have H' := am H
           clear H
           go_wp2_with (first | ((with_reducible refine gc (f := 11) rfl ?_); refine goesL_ (some 95) rfl rfl Try.func11 (by kernel_rfl) rfl #[] rfl (by (try simp only [pml]); first | done | rfl | (simp only [pdt]; rfl)) ?_; (with_reducible refine (w_awake.calls kj83  false _ A95.out).mono ?_); rintro e w109 ⟨rfl, hb⟩; refine ⟨_, rfl, ?_⟩; replace HO_313000 := am (Kd.S_below (by (with_reducible repeat (first | apply Kd.S_alloc | apply Kd.S_drewN | apply Kd.S_drew)); exact HO_313000.out) hb); replace HO_313002 := dR HO_313002 hb; replace HO_313003 := dR HO_313003 hb; replace BK288 := bB BK288 hb; replace BK312 := bB BK312 hb; replace HB := bS HB hb; (try clear hb); (try clear hb2); (try clear hk); (try clear hi)))
           go_meet
           case rel => exact ⟨_, (false), sqD, H', ⟨by have := HJ9.out; have := HJ56.out; have := HJ83.out; first | omega | exact Nat.le_refl _⟩, ⟨by (with_reducible repeat (first | apply Kd.S_alloc | apply Kd.S_drewN | apply Kd.S_drew)); exact HO_313000.out⟩, ⟨fR HO_313002.out⟩, ⟨fR HO_313003.out⟩, ⟨fb BK288.out⟩, ⟨fb BK312.out⟩, ⟨fW HB.out⟩⟩
          subst c96
          have H1 : (if t311 = 8 then ((w_theirs.f t301 t304 t305 t308).bind fun bt370 => ((r_Same.f kj83 bt370.1 bt370.2.1 bt370.2.2.1 bt370.2.2.2 ([] : List (List Int)) 0 ([] : List Int) ([] : List Bool)).bind fun t380 => (w_ReplaceChecks.j5 kj83 t380))) else (w_ReplaceChecks.j5 kj83 false)) = some r := by rw [if_pos rfl] at H; exact H
          clear H
          have H := H1
          clear H1
          by_cases c97 : t311 = 8
          rotate_left
          ·rw [if_neg c97] at H
           have c97b0 : (t311 == 8) = false := beq_eq_false_iff_ne.mpr c97
           have c97b1 : (t311 != 8) = true := bne_iff_ne.mpr c97
           (first | rw [c97b0] | (simp only [i64_w, i32_w]; rw [c97b0]) | skip)
           have H' := am H
           clear H
           go_wp2_with (first | ((with_reducible refine gc (f := 11) rfl ?_); refine goesL_ (some 95) rfl rfl Try.func11 (by kernel_rfl) rfl #[] rfl (by (try simp only [pml]); first | done | rfl | (simp only [pdt]; rfl)) ?_; (with_reducible refine (w_awake.calls kj83  true _ A95.out).mono ?_); rintro e w108 ⟨rfl, hb⟩; refine ⟨_, rfl, ?_⟩; replace HO_313000 := am (Kd.S_below (by (with_reducible repeat (first | apply Kd.S_alloc | apply Kd.S_drewN | apply Kd.S_drew)); exact HO_313000.out) hb); replace HO_313002 := dR HO_313002 hb; replace HO_313003 := dR HO_313003 hb; replace BK288 := bB BK288 hb; replace BK312 := bB BK312 hb; replace HB := bS HB hb; (try clear hb); (try clear hb2); (try clear hk); (try clear hi)))
           go_meet
           case rel => exact ⟨_, (false), sqD, H', ⟨by have := HJ9.out; have := HJ56.out; have := HJ83.out; first | omega | exact Nat.le_refl _⟩, ⟨by (with_reducible repeat (first | apply Kd.S_alloc | apply Kd.S_drewN | apply Kd.S_drew)); exact HO_313000.out⟩, ⟨fR HO_313002.out⟩, ⟨fR HO_313003.out⟩, ⟨fb BK288.out⟩, ⟨fb BK312.out⟩, ⟨fW HB.out⟩⟩
          rw [if_pos c97] at H
          have c97b0 : (t311 == 8) = true := beq_iff_eq.mpr c97
          have c97b1 : (t311 != 8) = false := bne_eq_false_iff_eq.mpr c97
          clear c97
          (first | rw [c97b0] | (simp only [i64_w, i32_w]; rw [c97b0]) | skip)
          replace H := Option.bind_eq_some_iff.mp H
          obtain ⟨⟨t370, t373, t374, t377⟩, A980, H⟩ := H
          replace H : ((r_Same.f kj83 t370 t373 t374 t377 ([] : List (List Int)) 0 ([] : List Int) ([] : List Bool)).bind fun t380 => (w_ReplaceChecks.j5 kj83 t380)) = some r := H
          have A98 := am A980
          clear A980
          replace H := Option.bind_eq_some_iff.mp H
          obtain ⟨t380, A990, H⟩ := H
          replace H : (w_ReplaceChecks.j5 kj83 t380) = some r := H
          have A99 := am A990
          clear A990
          have H' := am H
          clear H
          go_wp2_with (first | ((with_reducible refine gc (f := 11) rfl ?_); refine goesL_ (some 95) rfl rfl Try.func11 (by kernel_rfl) rfl #[] rfl (by (try simp only [pml]); first | done | rfl | (simp only [pdt]; rfl)) ?_; (with_reducible refine (w_awake.calls kj83  true _ A95.out).mono ?_); rintro e w100 ⟨rfl, hb⟩; refine ⟨_, rfl, ?_⟩; replace HO_313000 := am (Kd.S_below (by (with_reducible repeat (first | apply Kd.S_alloc | apply Kd.S_drewN | apply Kd.S_drew)); exact HO_313000.out) hb); replace HO_313002 := dR HO_313002 hb; replace HO_313003 := dR HO_313003 hb; replace BK288 := bB BK288 hb; replace BK312 := bB BK312 hb; replace HB := bS HB hb; (try clear hb); (try clear hb2); (try clear hk); (try clear hi); have hnb101 := NB312_288.out; have hnc101 := NB288_312.out; obtain ⟨_, _, _, _, _, _, _, _⟩ := zC4 BK312) | (go_at_call 27; (with_reducible refine (w_theirs.calls (fun k_ => (((some k_ ≠ (.slice Ao24 t305.length co24 : Value).ownBlock ∧ some k_ ≠ (.slice Ao25 t308.length co25 : Value).ownBlock) ∧ k_ ≠ gb288) ∧ k_ ≠ gb312)) _ _ t301 t304 (fun k_ => some k_ = (.slice Ao24 t305.length co24 : Value).ownBlock) _ _ t305 (fun k_ => some k_ = (.slice Ao25 t308.length co25 : Value).ownBlock) _ _ t308 t370 t373 t374 t377 _ ?side1 ?side2 ?side3 A98.out).mono ?_); (case side1 => exact Kd.S_V (Kd.S_types (Kd.S_types (Kd.S_apart' (HO_313000.out) (Kd.R_typed HO_313003.out) (by decide)) BK288.out (by decide)) BK312.out (by decide))); (case side2 => exact Kd.R_V (Kd.R_tight rfl (Kd.R_types (Kd.R_types (Kd.R_apart' (Kd.R_apart' (HO_313002.out) (Kd.S_typed HO_313000.out) (by decide)) (Kd.R_typed HO_313003.out) (by decide)) BK288.out (by decide)) BK312.out (by decide)))); (case side3 => exact Kd.R_V (Kd.R_tight rfl (Kd.R_types (Kd.R_types (Kd.R_apart' (Kd.R_apart' (HO_313003.out) (Kd.S_typed HO_313000.out) (by decide)) (Kd.R_typed HO_313002.out) (by decide)) BK288.out (by decide)) BK312.out (by decide)))); rintro e w103 ⟨v371, v375, v378, rfl, ho0, ho1, ho2, hb⟩; have HO372 := am (Kd.V_lower (Kd.V_mono (ok' := fun k_ => k_ ≠ gb288 ∧ k_ ≠ gb312) ho0 (fun k_ hk_ => ⟨Or.elim hk_ (fun hs_ => Or.elim hs_ (fun hs_ => hs_.1.2) (fun hs_ => Or.elim hs_ (fun hs_ => ((Kd.R_types (Kd.R_types (Kd.R_apart' (Kd.R_apart' (HO_313002.out) (Kd.S_typed HO_313000.out) (by decide)) (Kd.R_typed HO_313003.out) (by decide)) BK288.out (by decide)) BK312.out (by decide)).1 k_ hs_.symm).1.2) (fun hs_ => ((Kd.R_types (Kd.R_types (Kd.R_apart' (Kd.R_apart' (HO_313003.out) (Kd.S_typed HO_313000.out) (by decide)) (Kd.R_typed HO_313002.out) (by decide)) BK288.out (by decide)) BK312.out (by decide)).1 k_ hs_.symm).1.2))) (fun hn_ => (Kd.freshB (g := gb288) (o := .cells #[.slice A0_0 l0_0.length c0_0, .int .i64 a0_1, .slice A0_2 l0_2.length c0_2, .slice A0_3 l0_3.length c0_3] 26 (0, 0)) (fb BK288.out) k_ hn_)), Or.elim hk_ (fun hs_ => Or.elim hs_ (fun hs_ => hs_.2) (fun hs_ => Or.elim hs_ (fun hs_ => ((Kd.R_types (Kd.R_types (Kd.R_apart' (Kd.R_apart' (HO_313002.out) (Kd.S_typed HO_313000.out) (by decide)) (Kd.R_typed HO_313003.out) (by decide)) BK288.out (by decide)) BK312.out (by decide)).1 k_ hs_.symm).2) (fun hs_ => ((Kd.R_types (Kd.R_types (Kd.R_apart' (Kd.R_apart' (HO_313003.out) (Kd.S_typed HO_313000.out) (by decide)) (Kd.R_typed HO_313002.out) (by decide)) BK288.out (by decide)) BK312.out (by decide)).1 k_ hs_.symm).2))) (fun hn_ => (Kd.freshB (g := gb312) (o := .cells #[.slice Ao21 t301.length co21, .int .i64 t304, .slice Ao24 t305.length co24, .slice Ao25 t308.length co25] 33 (0, 0)) (fb BK312.out) k_ hn_))⟩)) (wz (fW HB.out))); have HO376 := am (Kd.V_lower (Kd.V_mono (ok' := fun k_ => k_ ≠ gb288 ∧ k_ ≠ gb312) ho1 (fun k_ hk_ => ⟨Or.elim hk_ (fun hs_ => Or.elim hs_ (fun hs_ => hs_.1.2) (fun hs_ => Or.elim hs_ (fun hs_ => ((Kd.R_types (Kd.R_types (Kd.R_apart' (Kd.R_apart' (HO_313002.out) (Kd.S_typed HO_313000.out) (by decide)) (Kd.R_typed HO_313003.out) (by decide)) BK288.out (by decide)) BK312.out (by decide)).1 k_ hs_.symm).1.2) (fun hs_ => ((Kd.R_types (Kd.R_types (Kd.R_apart' (Kd.R_apart' (HO_313003.out) (Kd.S_typed HO_313000.out) (by decide)) (Kd.R_typed HO_313002.out) (by decide)) BK288.out (by decide)) BK312.out (by decide)).1 k_ hs_.symm).1.2))) (fun hn_ => (Kd.freshB (g := gb288) (o := .cells #[.slice A0_0 l0_0.length c0_0, .int .i64 a0_1, .slice A0_2 l0_2.length c0_2, .slice A0_3 l0_3.length c0_3] 26 (0, 0)) (fb BK288.out) k_ hn_)), Or.elim hk_ (fun hs_ => Or.elim hs_ (fun hs_ => hs_.2) (fun hs_ => Or.elim hs_ (fun hs_ => ((Kd.R_types (Kd.R_types (Kd.R_apart' (Kd.R_apart' (HO_313002.out) (Kd.S_typed HO_313000.out) (by decide)) (Kd.R_typed HO_313003.out) (by decide)) BK288.out (by decide)) BK312.out (by decide)).1 k_ hs_.symm).2) (fun hs_ => ((Kd.R_types (Kd.R_types (Kd.R_apart' (Kd.R_apart' (HO_313003.out) (Kd.S_typed HO_313000.out) (by decide)) (Kd.R_typed HO_313002.out) (by decide)) BK288.out (by decide)) BK312.out (by decide)).1 k_ hs_.symm).2))) (fun hn_ => (Kd.freshB (g := gb312) (o := .cells #[.slice Ao21 t301.length co21, .int .i64 t304, .slice Ao24 t305.length co24, .slice Ao25 t308.length co25] 33 (0, 0)) (fb BK312.out) k_ hn_))⟩)) (wz (fW HB.out))); have HO379 := am (Kd.V_lower (Kd.V_mono (ok' := fun k_ => k_ ≠ gb288 ∧ k_ ≠ gb312) ho2 (fun k_ hk_ => ⟨Or.elim hk_ (fun hs_ => Or.elim hs_ (fun hs_ => hs_.1.2) (fun hs_ => Or.elim hs_ (fun hs_ => ((Kd.R_types (Kd.R_types (Kd.R_apart' (Kd.R_apart' (HO_313002.out) (Kd.S_typed HO_313000.out) (by decide)) (Kd.R_typed HO_313003.out) (by decide)) BK288.out (by decide)) BK312.out (by decide)).1 k_ hs_.symm).1.2) (fun hs_ => ((Kd.R_types (Kd.R_types (Kd.R_apart' (Kd.R_apart' (HO_313003.out) (Kd.S_typed HO_313000.out) (by decide)) (Kd.R_typed HO_313002.out) (by decide)) BK288.out (by decide)) BK312.out (by decide)).1 k_ hs_.symm).1.2))) (fun hn_ => (Kd.freshB (g := gb288) (o := .cells #[.slice A0_0 l0_0.length c0_0, .int .i64 a0_1, .slice A0_2 l0_2.length c0_2, .slice A0_3 l0_3.length c0_3] 26 (0, 0)) (fb BK288.out) k_ hn_)), Or.elim hk_ (fun hs_ => Or.elim hs_ (fun hs_ => hs_.2) (fun hs_ => Or.elim hs_ (fun hs_ => ((Kd.R_types (Kd.R_types (Kd.R_apart' (Kd.R_apart' (HO_313002.out) (Kd.S_typed HO_313000.out) (by decide)) (Kd.R_typed HO_313003.out) (by decide)) BK288.out (by decide)) BK312.out (by decide)).1 k_ hs_.symm).2) (fun hs_ => ((Kd.R_types (Kd.R_types (Kd.R_apart' (Kd.R_apart' (HO_313003.out) (Kd.S_typed HO_313000.out) (by decide)) (Kd.R_typed HO_313002.out) (by decide)) BK288.out (by decide)) BK312.out (by decide)).1 k_ hs_.symm).2))) (fun hn_ => (Kd.freshB (g := gb312) (o := .cells #[.slice Ao21 t301.length co21, .int .i64 t304, .slice Ao24 t305.length co24, .slice Ao25 t308.length co25] 33 (0, 0)) (fb BK312.out) k_ hn_))⟩)) (wz (fW HB.out))); replace HO_313000 := am (Kd.S_below (by (with_reducible repeat (first | apply Kd.S_alloc | apply Kd.S_drewN | apply Kd.S_drew)); exact HO_313000.out) hb); replace HO_313002 := dR HO_313002 hb; replace HO_313003 := dR HO_313003 hb; replace BK288 := bB BK288 hb; replace BK312 := bB BK312 hb; replace HB := bS HB hb; (try clear hb); (try clear hb2); (try clear hk); (try clear hi); (try clear ho0); (try clear ho1); (try clear ho2); obtain ⟨Ao104, co104, eo104⟩ := Kd.V_slice HO372.out; subst eo104; obtain ⟨Ao105, co105, eo105⟩ := Kd.V_slice HO376.out; subst eo105; obtain ⟨Ao106, co106, eo106⟩ := Kd.V_slice HO379.out; subst eo106) | (go_at_call 26; (refine (r_Same.calls kj83 _ _ t370 t373 _ _ t374 _ _ t377 _ _ ([] : List (List Int)) 0 _ _ ([] : List Int) _ _ ([] : List Bool) t380 _ ?side1 ?side2 ?side3 ?side4 ?side5 ?side6 ?side7 ?side8 ?side9 ?side10 ?side11 ?side12 A99.out).mono ?_); (case side1 => repeat (first | exact (Kd.V_reads' HO372.out).2.2 | (with_reducible refine Kd.C_alloc ?_ _) | (with_reducible refine Kd.C_drewN ?_ _) | (with_reducible refine Kd.C_drew ?_))); (case side2 => exact (Kd.V_reads' HO372.out).2.1); (case side3 => repeat (first | exact (Kd.V_reads' HO376.out).2.2 | (with_reducible refine Kd.C_alloc ?_ _) | (with_reducible refine Kd.C_drewN ?_ _) | (with_reducible refine Kd.C_drew ?_))); (case side4 => exact (Kd.V_reads' HO376.out).2.1); (case side5 => repeat (first | exact (Kd.V_reads' HO379.out).2.2 | (with_reducible refine Kd.C_alloc ?_ _) | (with_reducible refine Kd.C_drewN ?_ _) | (with_reducible refine Kd.C_drew ?_))); (case side6 => exact (Kd.V_reads' HO379.out).2.1); (case side7 => exact Kd.C_nil _ _); (case side8 => exact Nat.le_refl _); (case side9 => exact Kd.C_nil _ _); (case side10 => exact Nat.le_refl _); (case side11 => exact Kd.C_nil _ _); (case side12 => exact Nat.le_refl _); rintro e w107 ⟨rfl, hb⟩; replace HO_313000 := am (Kd.S_below (by (with_reducible repeat (first | apply Kd.S_alloc | apply Kd.S_drewN | apply Kd.S_drew)); exact HO_313000.out) hb); replace HO_313002 := dR HO_313002 hb; replace HO_313003 := dR HO_313003 hb; replace HO372 := dV HO372 hb; replace HO376 := dV HO376 hb; replace HO379 := dV HO379 hb; replace BK288 := bB BK288 hb; replace BK312 := bB BK312 hb; replace HB := bS HB hb; (try clear hb); (try clear hb2); (try clear hk); (try clear hi)))
          go_meet
          case rel => exact ⟨_, (t380), sqD, H', ⟨by have := HJ9.out; have := HJ56.out; have := HJ83.out; first | omega | exact Nat.le_refl _⟩, ⟨by (with_reducible repeat (first | apply Kd.S_alloc | apply Kd.S_drewN | apply Kd.S_drew)); exact HO_313000.out⟩, ⟨fR HO_313002.out⟩, ⟨fR HO_313003.out⟩, ⟨fb BK288.out⟩, ⟨fb BK312.out⟩, ⟨fW HB.out⟩⟩
         case rest =>
          clear HC94
          try clear c1;try clear c2;try clear p2;try clear c3;try clear p3;try clear q3;try clear hx3;try clear c4;try clear c5;try clear c6;try clear c7;try clear c8;try clear c9;try clear c10;try clear c11;try clear c13;try clear c14;try clear c22;try clear c23;try clear c24;try clear c25;try clear c28;try clear c29;try clear p36;try clear q36;try clear hx36;try clear c37;try clear c37b0;try clear c37b1;try clear c38;try clear c45;try clear c52;try clear c53;try clear c53b0;try clear c53b1;try clear c56;try clear c58;try clear c63;try clear c63b0;try clear c64;try clear c66;try clear c69;try clear c70;try clear c70b0;try clear c70b1;try clear c74;try clear c85;try clear c88;try clear c88b0;try clear c89;try clear c89b0;try clear c90;try clear c90b0;try clear c91;try clear c93;try clear c96;try clear c97;try clear c97b0;try clear c97b1;try clear c101;try clear hx368_0;try clear p2;try clear p3;try clear p36;try clear p368;try clear q3;try clear q36;try clear q368
          obtain ⟨kq, x4_93, rfl, HA, HJ93, HO_313000, HO_313002, HO_313003, BK288, BK312, HB⟩ := hcut
          cases kq with
          | zero => exact absurd HA.out (by simp [w_ReplaceChecks.j5])
          | succ kj93 =>
           have H := HA.out
           clear HA
           simp only [w_ReplaceChecks.j5] at H
           obtain rfl := Option.some.inj H
           go_wp2
           go_ret
           exact ⟨sqE, fW HB.out⟩
        replace c93 := Bool.eq_false_iff.mpr c93
        subst c93
        have H1 : ((w_awake.f kj83).bind fun t381 => (if t381 = true then (if t311 = 0 then ((w_theirs.f t301 t304 t305 t308).bind fun bt382 => ((r_Break.f kj83 l0_0 a0_1 l0_2 l0_3 a1).bind fun bt392 => ((r_Same.f kj83 bt382.1 bt382.2.1 bt382.2.2.1 bt382.2.2.2 bt392.1 bt392.2.1 bt392.2.2.1 bt392.2.2.2).bind fun t402 => (w_ReplaceChecks.j6 kj83 t402)))) else (w_ReplaceChecks.j6 kj83 false)) else (w_ReplaceChecks.j6 kj83 false))) = some r := by rw [if_neg (show ¬ (false = true) by decide)] at H; exact H
        clear H
        have H := H1
        clear H1
        have HC110 := am H
        clear H
        go_upto_region 17 with (fail)
        go_cut [4] (fun v4 wc => ∃ (kq : Nat) (x4_109 : Bool), v4 = .bool x4_109 ∧ Aside0 (w_ReplaceChecks.j6 kq x4_109 = some r) ∧ Aside0 (kq ≤ kj83) ∧ Aside0 (Kd.S (Kd.slice 3 (Kd.int .i64)) 23 wc w.heap.size (fun k_ => some k_ ≠ ((.slice Ao24 t305.length co24) : Value).ownBlock) (.slice Ao21 t301.length co21) t301) ∧ Aside0 (Kd.R (Kd.int .i64) 3 wc w.heap.size (fun _ => True) (.slice Ao24 t305.length co24) t305) ∧ Aside0 (Kd.R Kd.bool 4 wc w.heap.size (fun _ => True) (.slice Ao25 t308.length co25) t308) ∧ Aside0 (wc.heap[gb288]? = some (.cells #[(.slice A0_0 l0_0.length c0_0), .int .i64 a0_1, (.slice A0_2 l0_2.length c0_2), (.slice A0_3 l0_3.length c0_3)] 26 (0, 0))) ∧ Aside0 (wc.heap[gb312]? = some (.cells #[(.slice Ao21 t301.length co21), .int .i64 t304, (.slice Ao24 t305.length co24), (.slice Ao25 t308.length co25)] 33 (0, 0))) ∧ Aside0 (Below w.heap.size w wc))
        case first =>
         have H := HC110.out
         clear HC110
         replace H := Option.bind_eq_some_iff.mp H
         obtain ⟨t381, A1110, H⟩ := H
         replace H : (if t381 = true then (if t311 = 0 then ((w_theirs.f t301 t304 t305 t308).bind fun bt382 => ((r_Break.f kj83 l0_0 a0_1 l0_2 l0_3 a1).bind fun bt392 => ((r_Same.f kj83 bt382.1 bt382.2.1 bt382.2.2.1 bt382.2.2.2 bt392.1 bt392.2.1 bt392.2.2.1 bt392.2.2.2).bind fun t402 => (w_ReplaceChecks.j6 kj83 t402)))) else (w_ReplaceChecks.j6 kj83 false)) else (w_ReplaceChecks.j6 kj83 false)) = some r := H
         have A111 := am A1110
         clear A1110
         by_cases c112 : t381 = true
         rotate_left
         ·replace c112 := Bool.eq_false_iff.mpr c112
          subst c112
          have H1 : (w_ReplaceChecks.j6 kj83 false) = some r := by rw [if_neg (show ¬ (false = true) by decide)] at H; exact H
          clear H
          have H := H1
          clear H1
          have H' := am H
          clear H
          try go_wp2
          have n0_ := am (Kd.S_drew HO_313000.out)
          have n1_ := am (Kd.R_drew HO_313002.out)
          have n2_ := am (Kd.R_drew HO_313003.out)
          have n3_ := am (blk_drew BK288.out)
          have n4_ := am (blk_drew BK312.out)
          have n5_ := am (below_drew1 HB.out)
          clear HO_313000 HO_313002 HO_313003 BK288 BK312 HB
          have HO_313000 := n0_
          have HO_313002 := n1_
          have HO_313003 := n2_
          have BK288 := n3_
          have BK312 := n4_
          have HB := n5_
          clear n0_ n1_ n2_ n3_ n4_ n5_
          refine start_ (n := 14) (S := fun w' => True) (ds := []) #[F,F,F,F,F,F,F,F,F,F,F,F,F,F] (by kernel_rfl) rfl rfl trivial (fun hHeld => ?_); refine with_tabW w_ReplaceChecks.tab17 w_ReplaceChecks.bits17 (fun HT_ HW_ => ?_)
          generalize wc.drew = w130 at HO_313000 HO_313002 HO_313003 BK288 BK312 HB hHeld ⊢
          refine one_ (i := 0) (N := some 106) (fl 14 1 []) rfl rfl (one_of HT_.out (by kernel_rfl)) (by decide) (fun K hK => ?_)
          refine goes_ Try.func11 (by kernel_rfl) rfl #[] (by rfl) rfl rfl (by (try simp only [pml]); first | done | rfl | (simp only [pdt]; rfl)) ?_
          with_reducible refine (w_awake.calls kj83  false _ A111.out).mono ?_
          rintro e w131 ⟨rfl, hb⟩
          refine ⟨_, rfl, ?_⟩
          have n0_ := am (Kd.S_below (by (with_reducible repeat (first | apply Kd.S_alloc | apply Kd.S_drewN | apply Kd.S_drew)); exact HO_313000.out) hb)
          have n1_ := dR HO_313002 hb
          have n2_ := dR HO_313003 hb
          have n3_ := bB BK288 hb
          have n4_ := bB BK312 hb
          have n5_ := bS HB hb
          clear HO_313000 HO_313002 HO_313003 BK288 BK312 HB
          have HO_313000 := n0_
          have HO_313002 := n1_
          have HO_313003 := n2_
          have BK288 := n3_
          have BK312 := n4_
          have HB := n5_
          clear n0_ n1_ n2_ n3_ n4_ n5_
          (try clear hb)
          (try clear hb2)
          (try clear hk)
          (try clear hi)
          refine hK.out _ _ trivial (fun hHeld => ?_)
          clear hK K
          refine norm_ (a' := ?_) ?_ ?_
          rotate_left
          ·show Act.put _ (some 106) _ = _
           simp only [Act.put, psl, i64_w, i32_w]
           rfl
          refine pu (i := 1) (N := some 107) (fl 14 2 []) HT_ ?_
          refine pure_ (i := 2) (N := some 108) (v := undef) (a' := ?_) #[T,T,T,F,F,F,F,F,F,F,F,F,F,F] rfl rfl (any_of HT_.out (by kernel_rfl)) (fun _ _ _ h => h) (Or.inr ⟨by rfl, rfl⟩) ?_ ?_
          rotate_left
          ·simp only [Act.put, psl, i64_w, i32_w]
           rfl
          refine pure_ (i := 3) (N := some 109) (v := undef) (a' := ?_) #[T,T,T,T,F,F,F,F,F,F,F,F,F,F] rfl rfl (any_of HT_.out (by kernel_rfl)) (fun _ _ _ h => h) (Or.inr ⟨by rfl, rfl⟩) ?_ ?_
          rotate_left
          ·simp only [Act.put, psl, i64_w, i32_w]
           rfl
          refine pu (i := 4) (N := some 110) (fl 14 5 []) HT_ ?_
          refine pu (i := 5) (N := some 111) (fl 14 6 []) HT_ ?_
          refine pure_ (i := 6) (N := some 112) (v := undef) (a' := ?_) #[T,T,T,T,T,T,T,F,F,F,F,F,F,F] rfl rfl (any_of HT_.out (by kernel_rfl)) (fun _ _ _ h => h) (Or.inr ⟨by rfl, rfl⟩) ?_ ?_
          rotate_left
          ·simp only [Act.put, psl, i64_w, i32_w]
           rfl
          refine pure_ (i := 7) (N := some 113) (v := undef) (a' := ?_) #[T,T,T,T,T,T,T,T,F,F,F,F,F,F] rfl rfl (any_of HT_.out (by kernel_rfl)) (fun _ _ _ h => h) (Or.inr ⟨by rfl, rfl⟩) ?_ ?_
          rotate_left
          ·simp only [Act.put, psl, i64_w, i32_w]
           rfl
          refine pure_ (i := 8) (N := some 114) (v := undef) (a' := ?_) #[T,T,T,T,T,T,T,T,T,F,F,F,F,F] rfl rfl (any_of HT_.out (by kernel_rfl)) (fun _ _ _ h => h) (Or.inr ⟨by rfl, rfl⟩) ?_ ?_
          rotate_left
          ·simp only [Act.put, psl, i64_w, i32_w]
           rfl
          refine pure_ (i := 9) (N := some 115) (v := undef) (a' := ?_) #[T,T,T,T,T,T,T,T,T,T,F,F,F,F] rfl rfl (any_of HT_.out (by kernel_rfl)) (fun _ _ _ h => h) (Or.inr ⟨by rfl, rfl⟩) ?_ ?_
          rotate_left
          ·simp only [Act.put, psl, i64_w, i32_w]
           rfl
          refine pure_ (i := 10) (N := some 116) (v := undef) (a' := ?_) #[T,T,T,T,T,T,T,T,T,T,T,F,F,F] rfl rfl (any_of HT_.out (by kernel_rfl)) (fun _ _ _ h => h) (Or.inr ⟨by rfl, rfl⟩) ?_ ?_
          rotate_left
          ·simp only [Act.put, psl, i64_w, i32_w]
           rfl
          refine pure_ (i := 11) (N := some 117) (v := undef) (a' := ?_) #[T,T,T,T,T,T,T,T,T,T,T,T,F,F] rfl rfl (any_of HT_.out (by kernel_rfl)) (fun _ _ _ h => h) (Or.inr ⟨by rfl, rfl⟩) ?_ ?_
          rotate_left
          ·simp only [Act.put, psl, i64_w, i32_w]
           rfl
          refine pu (i := 12) (N := some 118) (fl 14 13 []) HT_ ?_
          refine pu (i := 13) (N := some 4) (fl 14 14 []) HT_ ?_
          refine done_ (done_of HT_.out (by kernel_rfl)) ?_
          try go_wp2
          go_meet
          case rel => exact ⟨_, (false), sqD, H', ⟨by have := HJ9.out; have := HJ56.out; have := HJ83.out; first | omega | exact Nat.le_refl _⟩, ⟨by (with_reducible repeat (first | apply Kd.S_alloc | apply Kd.S_drewN | apply Kd.S_drew)); exact HO_313000.out⟩, ⟨fR HO_313002.out⟩, ⟨fR HO_313003.out⟩, ⟨fb BK288.out⟩, ⟨fb BK312.out⟩, ⟨fW HB.out⟩⟩
         subst c112
         have H1 : (if t311 = 0 then ((w_theirs.f t301 t304 t305 t308).bind fun bt382 => ((r_Break.f kj83 l0_0 a0_1 l0_2 l0_3 a1).bind fun bt392 => ((r_Same.f kj83 bt382.1 bt382.2.1 bt382.2.2.1 bt382.2.2.2 bt392.1 bt392.2.1 bt392.2.2.1 bt392.2.2.2).bind fun t402 => (w_ReplaceChecks.j6 kj83 t402)))) else (w_ReplaceChecks.j6 kj83 false)) = some r := by rw [if_pos rfl] at H; exact H
         clear H
         have H := H1
         clear H1
         by_cases c113 : t311 = 0
         rotate_left
         ·rw [if_neg c113] at H
          have c113b0 : (t311 == 0) = false := beq_eq_false_iff_ne.mpr c113
          have c113b1 : (t311 != 0) = true := bne_iff_ne.mpr c113
          (first | rw [c113b0] | (simp only [i64_w, i32_w]; rw [c113b0]) | skip)
          have H' := am H
          clear H
          try go_wp2
          have n0_ := am (Kd.S_drew HO_313000.out)
          have n1_ := am (Kd.R_drew HO_313002.out)
          have n2_ := am (Kd.R_drew HO_313003.out)
          have n3_ := am (blk_drew BK288.out)
          have n4_ := am (blk_drew BK312.out)
          have n5_ := am (below_drew1 HB.out)
          clear HO_313000 HO_313002 HO_313003 BK288 BK312 HB
          have HO_313000 := n0_
          have HO_313002 := n1_
          have HO_313003 := n2_
          have BK288 := n3_
          have BK312 := n4_
          have HB := n5_
          clear n0_ n1_ n2_ n3_ n4_ n5_
          refine start_ (n := 14) (S := fun w' => True) (ds := []) #[F,F,F,F,F,F,F,F,F,F,F,F,F,F] (by kernel_rfl) rfl rfl trivial (fun hHeld => ?_); refine with_tabW w_ReplaceChecks.tab17 w_ReplaceChecks.bits17 (fun HT_ HW_ => ?_)
          generalize wc.drew = w128 at HO_313000 HO_313002 HO_313003 BK288 BK312 HB hHeld ⊢
          refine one_ (i := 0) (N := some 106) (fl 14 1 []) rfl rfl (one_of HT_.out (by kernel_rfl)) (by decide) (fun K hK => ?_)
          refine goes_ Try.func11 (by kernel_rfl) rfl #[] (by rfl) rfl rfl (by (try simp only [pml]); first | done | rfl | (simp only [pdt]; rfl)) ?_
          with_reducible refine (w_awake.calls kj83  true _ A111.out).mono ?_
          rintro e w129 ⟨rfl, hb⟩
          refine ⟨_, rfl, ?_⟩
          have n0_ := am (Kd.S_below (by (with_reducible repeat (first | apply Kd.S_alloc | apply Kd.S_drewN | apply Kd.S_drew)); exact HO_313000.out) hb)
          have n1_ := dR HO_313002 hb
          have n2_ := dR HO_313003 hb
          have n3_ := bB BK288 hb
          have n4_ := bB BK312 hb
          have n5_ := bS HB hb
          clear HO_313000 HO_313002 HO_313003 BK288 BK312 HB
          have HO_313000 := n0_
          have HO_313002 := n1_
          have HO_313003 := n2_
          have BK288 := n3_
          have BK312 := n4_
          have HB := n5_
          clear n0_ n1_ n2_ n3_ n4_ n5_
          (try clear hb)
          (try clear hb2)
          (try clear hk)
          (try clear hi)
          refine hK.out _ _ trivial (fun hHeld => ?_)
          clear hK K
          refine norm_ (a' := ?_) ?_ ?_
          rotate_left
          ·show Act.put _ (some 106) _ = _
           simp only [Act.put, psl, i64_w, i32_w]
           rfl
          refine pu (i := 1) (N := some 107) (fl 14 2 []) HT_ ?_
          refine pu (i := 2) (N := some 108) (fl 14 3 []) HT_ ?_
          refine pu (i := 3) (N := some 109) (fl 14 4 []) HT_ ?_
          refine pu (i := 4) (N := some 110) (fl 14 5 []) HT_ ?_
          refine pu (i := 5) (N := some 111) (fl 14 6 []) HT_ ?_
          refine pure_ (i := 6) (N := some 112) (v := undef) (a' := ?_) #[T,T,T,T,T,T,T,F,F,F,F,F,F,F] rfl rfl (any_of HT_.out (by kernel_rfl)) (fun _ _ _ h => h) (Or.inr ⟨by rfl, rfl⟩) ?_ ?_
          rotate_left
          ·simp only [Act.put, psl, i64_w, i32_w]
           rfl
          refine pure_ (i := 7) (N := some 113) (v := undef) (a' := ?_) #[T,T,T,T,T,T,T,T,F,F,F,F,F,F] rfl rfl (any_of HT_.out (by kernel_rfl)) (fun _ _ _ h => h) (Or.inr ⟨by rfl, rfl⟩) ?_ ?_
          rotate_left
          ·simp only [Act.put, psl, i64_w, i32_w]
           rfl
          refine pure_ (i := 8) (N := some 114) (v := undef) (a' := ?_) #[T,T,T,T,T,T,T,T,T,F,F,F,F,F] rfl rfl (any_of HT_.out (by kernel_rfl)) (fun _ _ _ h => h) (Or.inr ⟨by rfl, rfl⟩) ?_ ?_
          rotate_left
          ·simp only [Act.put, psl, i64_w, i32_w]
           rfl
          refine pure_ (i := 9) (N := some 115) (v := undef) (a' := ?_) #[T,T,T,T,T,T,T,T,T,T,F,F,F,F] rfl rfl (any_of HT_.out (by kernel_rfl)) (fun _ _ _ h => h) (Or.inr ⟨by rfl, rfl⟩) ?_ ?_
          rotate_left
          ·simp only [Act.put, psl, i64_w, i32_w]
           rfl
          refine pure_ (i := 10) (N := some 116) (v := undef) (a' := ?_) #[T,T,T,T,T,T,T,T,T,T,T,F,F,F] rfl rfl (any_of HT_.out (by kernel_rfl)) (fun _ _ _ h => h) (Or.inr ⟨by rfl, rfl⟩) ?_ ?_
          rotate_left
          ·simp only [Act.put, psl, i64_w, i32_w]
           rfl
          refine pure_ (i := 11) (N := some 117) (v := undef) (a' := ?_) #[T,T,T,T,T,T,T,T,T,T,T,T,F,F] rfl rfl (any_of HT_.out (by kernel_rfl)) (fun _ _ _ h => h) (Or.inr ⟨by rfl, rfl⟩) ?_ ?_
          rotate_left
          ·simp only [Act.put, psl, i64_w, i32_w]
           rfl
          refine pu (i := 12) (N := some 118) (fl 14 13 []) HT_ ?_
          refine pu (i := 13) (N := some 4) (fl 14 14 []) HT_ ?_
          refine done_ (done_of HT_.out (by kernel_rfl)) ?_
          try go_wp2
          go_meet
          case rel => exact ⟨_, (false), sqD, H', ⟨by have := HJ9.out; have := HJ56.out; have := HJ83.out; first | omega | exact Nat.le_refl _⟩, ⟨by (with_reducible repeat (first | apply Kd.S_alloc | apply Kd.S_drewN | apply Kd.S_drew)); exact HO_313000.out⟩, ⟨fR HO_313002.out⟩, ⟨fR HO_313003.out⟩, ⟨fb BK288.out⟩, ⟨fb BK312.out⟩, ⟨fW HB.out⟩⟩
         rw [if_pos c113] at H
         have c113b0 : (t311 == 0) = true := beq_iff_eq.mpr c113
         have c113b1 : (t311 != 0) = false := bne_eq_false_iff_eq.mpr c113
         clear c113
         (first | rw [c113b0] | (simp only [i64_w, i32_w]; rw [c113b0]) | skip)
         replace H := Option.bind_eq_some_iff.mp H
         obtain ⟨⟨t382, t385, t386, t389⟩, A1140, H⟩ := H
         replace H : ((r_Break.f kj83 l0_0 a0_1 l0_2 l0_3 a1).bind fun bt392 => ((r_Same.f kj83 t382 t385 t386 t389 bt392.1 bt392.2.1 bt392.2.2.1 bt392.2.2.2).bind fun t402 => (w_ReplaceChecks.j6 kj83 t402))) = some r := H
         have A114 := am A1140
         clear A1140
         replace H := Option.bind_eq_some_iff.mp H
         obtain ⟨⟨t392, t395, t396, t399⟩, A1150, H⟩ := H
         replace H : ((r_Same.f kj83 t382 t385 t386 t389 t392 t395 t396 t399).bind fun t402 => (w_ReplaceChecks.j6 kj83 t402)) = some r := H
         have A115 := am A1150
         clear A1150
         replace H := Option.bind_eq_some_iff.mp H
         obtain ⟨t402, A1160, H⟩ := H
         replace H : (w_ReplaceChecks.j6 kj83 t402) = some r := H
         have A116 := am A1160
         clear A1160
         have H' := am H
         clear H
         try go_wp2
         have n0_ := am (Kd.S_drew HO_313000.out)
         have n1_ := am (Kd.R_drew HO_313002.out)
         have n2_ := am (Kd.R_drew HO_313003.out)
         have n3_ := am (blk_drew BK288.out)
         have n4_ := am (blk_drew BK312.out)
         have n5_ := am (below_drew1 HB.out)
         clear HO_313000 HO_313002 HO_313003 BK288 BK312 HB
         have HO_313000 := n0_
         have HO_313002 := n1_
         have HO_313003 := n2_
         have BK288 := n3_
         have BK312 := n4_
         have HB := n5_
         clear n0_ n1_ n2_ n3_ n4_ n5_
         refine start_ (n := 14) (S := fun w' => w'.cell? ⟨gb312, 0, none⟩ = some (.slice Ao21 t301.length co21) ∧ w'.cell? ⟨gb312, 1, none⟩ = some (.int .i64 t304) ∧ w'.cell? ⟨gb312, 2, none⟩ = some (.slice Ao24 t305.length co24) ∧ w'.cell? ⟨gb312, 3, none⟩ = some (.slice Ao25 t308.length co25) ∧ w'.cell? ⟨gb288, 0, none⟩ = some (.slice A0_0 l0_0.length c0_0) ∧ w'.cell? ⟨gb288, 1, none⟩ = some (.int .i64 a0_1) ∧ w'.cell? ⟨gb288, 2, none⟩ = some (.slice A0_2 l0_2.length c0_2) ∧ w'.cell? ⟨gb288, 3, none⟩ = some (.slice A0_3 l0_3.length c0_3)) (ds := []) #[F,F,F,F,F,F,F,F,F,F,F,F,F,F] (by kernel_rfl) rfl rfl ⟨(bc BK312.out 0).trans rfl, (bc BK312.out 1).trans rfl, (bc BK312.out 2).trans rfl, (bc BK312.out 3).trans rfl, (bc BK288.out 0).trans rfl, (bc BK288.out 1).trans rfl, (bc BK288.out 2).trans rfl, (bc BK288.out 3).trans rfl⟩ (fun hHeld => ?_); refine with_tabW w_ReplaceChecks.tab17 w_ReplaceChecks.bits17 (fun HT_ HW_ => ?_)
         generalize wc.drew = w117 at HO_313000 HO_313002 HO_313003 BK288 BK312 HB hHeld ⊢
         refine one_ (i := 0) (N := some 106) (fl 14 1 []) rfl rfl (one_of HT_.out (by kernel_rfl)) (by decide) (fun K hK => ?_)
         refine goes_ Try.func11 (by kernel_rfl) rfl #[] (by rfl) rfl rfl (by (try simp only [pml]); first | done | rfl | (simp only [pdt]; rfl)) ?_
         with_reducible refine (w_awake.calls kj83  true _ A111.out).mono ?_
         rintro e w118 ⟨rfl, hb⟩
         refine ⟨_, rfl, ?_⟩
         have n0_ := am (Kd.S_below (by (with_reducible repeat (first | apply Kd.S_alloc | apply Kd.S_drewN | apply Kd.S_drew)); exact HO_313000.out) hb)
         have n1_ := dR HO_313002 hb
         have n2_ := dR HO_313003 hb
         have n3_ := bB BK288 hb
         have n4_ := bB BK312 hb
         have n5_ := bS HB hb
         clear HO_313000 HO_313002 HO_313003 BK288 BK312 HB
         have HO_313000 := n0_
         have HO_313002 := n1_
         have HO_313003 := n2_
         have BK288 := n3_
         have BK312 := n4_
         have HB := n5_
         clear n0_ n1_ n2_ n3_ n4_ n5_
         (try clear hb)
         (try clear hb2)
         (try clear hk)
         (try clear hi)
         refine hK.out _ _ ⟨(bc BK312.out 0).trans rfl, (bc BK312.out 1).trans rfl, (bc BK312.out 2).trans rfl, (bc BK312.out 3).trans rfl, (bc BK288.out 0).trans rfl, (bc BK288.out 1).trans rfl, (bc BK288.out 2).trans rfl, (bc BK288.out 3).trans rfl⟩ (fun hHeld => ?_)
         clear hK K
         refine norm_ (a' := ?_) ?_ ?_
         rotate_left
         ·show Act.put _ (some 106) _ = _
          simp only [Act.put, psl, i64_w, i32_w]
          rfl
         refine pu (i := 1) (N := some 107) (fl 14 2 []) HT_ ?_
         refine pu (i := 2) (N := some 108) (fl 14 3 []) HT_ ?_
         refine pu (i := 3) (N := some 109) (fl 14 4 []) HT_ ?_
         refine pu (i := 4) (N := some 110) (fl 14 5 []) HT_ ?_
         refine pu (i := 5) (N := some 111) (fl 14 6 []) HT_ ?_
         refine pu (i := 9) (N := some 115) (fl 14 6 [9]) HT_ ?_
         refine tk (i := 6) (N := some 112) (fl 14 7 [9]) HT_ HW_ hHeld ?_
         refine tk (i := 8) (N := some 114) (fl 14 7 [8, 9]) HT_ HW_ hHeld ?_
         refine one_ (i := 7) (N := some 113) (fl 14 10 []) rfl rfl (one_of HT_.out (by kernel_rfl)) (by decide) (fun K hK => ?_)
         refine goes_ Try.func27 (by kernel_rfl) rfl #[.agg #[.slice Ao21 t301.length co21, .int .i64 t304, .slice Ao24 t305.length co24, .slice Ao25 t308.length co25]] (by rfl) rfl rfl (by (try simp only [pml]); first | done | rfl | (simp only [pdt]; rfl)) ?_
         with_reducible refine (w_theirs.calls (fun k_ => (((some k_ ≠ (.slice Ao24 t305.length co24 : Value).ownBlock ∧ some k_ ≠ (.slice Ao25 t308.length co25 : Value).ownBlock) ∧ k_ ≠ gb288) ∧ k_ ≠ gb312)) _ _ t301 t304 (fun k_ => some k_ = (.slice Ao24 t305.length co24 : Value).ownBlock) _ _ t305 (fun k_ => some k_ = (.slice Ao25 t308.length co25 : Value).ownBlock) _ _ t308 t382 t385 t386 t389 _ ?side1 ?side2 ?side3 A114.out).mono ?_
         (case side1 => exact Kd.S_V (Kd.S_types (Kd.S_types (Kd.S_apart' (HO_313000.out) (Kd.R_typed HO_313003.out) (by decide)) BK288.out (by decide)) BK312.out (by decide)))
         (case side2 => exact Kd.R_V (Kd.R_tight rfl (Kd.R_types (Kd.R_types (Kd.R_apart' (Kd.R_apart' (HO_313002.out) (Kd.S_typed HO_313000.out) (by decide)) (Kd.R_typed HO_313003.out) (by decide)) BK288.out (by decide)) BK312.out (by decide))))
         (case side3 => exact Kd.R_V (Kd.R_tight rfl (Kd.R_types (Kd.R_types (Kd.R_apart' (Kd.R_apart' (HO_313003.out) (Kd.S_typed HO_313000.out) (by decide)) (Kd.R_typed HO_313002.out) (by decide)) BK288.out (by decide)) BK312.out (by decide))))
         rintro e w119 ⟨v383, v387, v390, rfl, ho0, ho1, ho2, hb⟩
         refine ⟨_, rfl, ?_⟩
         have n0_ := am (Kd.S_below (by (with_reducible repeat (first | apply Kd.S_alloc | apply Kd.S_drewN | apply Kd.S_drew)); exact HO_313000.out) hb)
         have n1_ := dR HO_313002 hb
         have n2_ := dR HO_313003 hb
         have n3_ := am (Kd.V_lower (Kd.V_mono (ok' := fun k_ => k_ ≠ gb288 ∧ k_ ≠ gb312) ho0 (fun k_ hk_ => ⟨Or.elim hk_ (fun hs_ => Or.elim hs_ (fun hs_ => hs_.1.2) (fun hs_ => Or.elim hs_ (fun hs_ => ((Kd.R_types (Kd.R_types (Kd.R_apart' (Kd.R_apart' (HO_313002.out) (Kd.S_typed HO_313000.out) (by decide)) (Kd.R_typed HO_313003.out) (by decide)) BK288.out (by decide)) BK312.out (by decide)).1 k_ hs_.symm).1.2) (fun hs_ => ((Kd.R_types (Kd.R_types (Kd.R_apart' (Kd.R_apart' (HO_313003.out) (Kd.S_typed HO_313000.out) (by decide)) (Kd.R_typed HO_313002.out) (by decide)) BK288.out (by decide)) BK312.out (by decide)).1 k_ hs_.symm).1.2))) (fun hn_ => (Kd.freshB (g := gb288) (o := .cells #[.slice A0_0 l0_0.length c0_0, .int .i64 a0_1, .slice A0_2 l0_2.length c0_2, .slice A0_3 l0_3.length c0_3] 26 (0, 0)) (fb BK288.out) k_ hn_)), Or.elim hk_ (fun hs_ => Or.elim hs_ (fun hs_ => hs_.2) (fun hs_ => Or.elim hs_ (fun hs_ => ((Kd.R_types (Kd.R_types (Kd.R_apart' (Kd.R_apart' (HO_313002.out) (Kd.S_typed HO_313000.out) (by decide)) (Kd.R_typed HO_313003.out) (by decide)) BK288.out (by decide)) BK312.out (by decide)).1 k_ hs_.symm).2) (fun hs_ => ((Kd.R_types (Kd.R_types (Kd.R_apart' (Kd.R_apart' (HO_313003.out) (Kd.S_typed HO_313000.out) (by decide)) (Kd.R_typed HO_313002.out) (by decide)) BK288.out (by decide)) BK312.out (by decide)).1 k_ hs_.symm).2))) (fun hn_ => (Kd.freshB (g := gb312) (o := .cells #[.slice Ao21 t301.length co21, .int .i64 t304, .slice Ao24 t305.length co24, .slice Ao25 t308.length co25] 33 (0, 0)) (fb BK312.out) k_ hn_))⟩)) (wz (fW HB.out)))
         have n4_ := am (Kd.V_lower (Kd.V_mono (ok' := fun k_ => k_ ≠ gb288 ∧ k_ ≠ gb312) ho1 (fun k_ hk_ => ⟨Or.elim hk_ (fun hs_ => Or.elim hs_ (fun hs_ => hs_.1.2) (fun hs_ => Or.elim hs_ (fun hs_ => ((Kd.R_types (Kd.R_types (Kd.R_apart' (Kd.R_apart' (HO_313002.out) (Kd.S_typed HO_313000.out) (by decide)) (Kd.R_typed HO_313003.out) (by decide)) BK288.out (by decide)) BK312.out (by decide)).1 k_ hs_.symm).1.2) (fun hs_ => ((Kd.R_types (Kd.R_types (Kd.R_apart' (Kd.R_apart' (HO_313003.out) (Kd.S_typed HO_313000.out) (by decide)) (Kd.R_typed HO_313002.out) (by decide)) BK288.out (by decide)) BK312.out (by decide)).1 k_ hs_.symm).1.2))) (fun hn_ => (Kd.freshB (g := gb288) (o := .cells #[.slice A0_0 l0_0.length c0_0, .int .i64 a0_1, .slice A0_2 l0_2.length c0_2, .slice A0_3 l0_3.length c0_3] 26 (0, 0)) (fb BK288.out) k_ hn_)), Or.elim hk_ (fun hs_ => Or.elim hs_ (fun hs_ => hs_.2) (fun hs_ => Or.elim hs_ (fun hs_ => ((Kd.R_types (Kd.R_types (Kd.R_apart' (Kd.R_apart' (HO_313002.out) (Kd.S_typed HO_313000.out) (by decide)) (Kd.R_typed HO_313003.out) (by decide)) BK288.out (by decide)) BK312.out (by decide)).1 k_ hs_.symm).2) (fun hs_ => ((Kd.R_types (Kd.R_types (Kd.R_apart' (Kd.R_apart' (HO_313003.out) (Kd.S_typed HO_313000.out) (by decide)) (Kd.R_typed HO_313002.out) (by decide)) BK288.out (by decide)) BK312.out (by decide)).1 k_ hs_.symm).2))) (fun hn_ => (Kd.freshB (g := gb312) (o := .cells #[.slice Ao21 t301.length co21, .int .i64 t304, .slice Ao24 t305.length co24, .slice Ao25 t308.length co25] 33 (0, 0)) (fb BK312.out) k_ hn_))⟩)) (wz (fW HB.out)))
         have n5_ := am (Kd.V_lower (Kd.V_mono (ok' := fun k_ => k_ ≠ gb288 ∧ k_ ≠ gb312) ho2 (fun k_ hk_ => ⟨Or.elim hk_ (fun hs_ => Or.elim hs_ (fun hs_ => hs_.1.2) (fun hs_ => Or.elim hs_ (fun hs_ => ((Kd.R_types (Kd.R_types (Kd.R_apart' (Kd.R_apart' (HO_313002.out) (Kd.S_typed HO_313000.out) (by decide)) (Kd.R_typed HO_313003.out) (by decide)) BK288.out (by decide)) BK312.out (by decide)).1 k_ hs_.symm).1.2) (fun hs_ => ((Kd.R_types (Kd.R_types (Kd.R_apart' (Kd.R_apart' (HO_313003.out) (Kd.S_typed HO_313000.out) (by decide)) (Kd.R_typed HO_313002.out) (by decide)) BK288.out (by decide)) BK312.out (by decide)).1 k_ hs_.symm).1.2))) (fun hn_ => (Kd.freshB (g := gb288) (o := .cells #[.slice A0_0 l0_0.length c0_0, .int .i64 a0_1, .slice A0_2 l0_2.length c0_2, .slice A0_3 l0_3.length c0_3] 26 (0, 0)) (fb BK288.out) k_ hn_)), Or.elim hk_ (fun hs_ => Or.elim hs_ (fun hs_ => hs_.2) (fun hs_ => Or.elim hs_ (fun hs_ => ((Kd.R_types (Kd.R_types (Kd.R_apart' (Kd.R_apart' (HO_313002.out) (Kd.S_typed HO_313000.out) (by decide)) (Kd.R_typed HO_313003.out) (by decide)) BK288.out (by decide)) BK312.out (by decide)).1 k_ hs_.symm).2) (fun hs_ => ((Kd.R_types (Kd.R_types (Kd.R_apart' (Kd.R_apart' (HO_313003.out) (Kd.S_typed HO_313000.out) (by decide)) (Kd.R_typed HO_313002.out) (by decide)) BK288.out (by decide)) BK312.out (by decide)).1 k_ hs_.symm).2))) (fun hn_ => (Kd.freshB (g := gb312) (o := .cells #[.slice Ao21 t301.length co21, .int .i64 t304, .slice Ao24 t305.length co24, .slice Ao25 t308.length co25] 33 (0, 0)) (fb BK312.out) k_ hn_))⟩)) (wz (fW HB.out)))
         have n6_ := bB BK288 hb
         have n7_ := bB BK312 hb
         have n8_ := bS HB hb
         clear HO_313000 HO_313002 HO_313003 BK288 BK312 HB
         have HO_313000 := n0_
         have HO_313002 := n1_
         have HO_313003 := n2_
         have HO384 := n3_
         have HO388 := n4_
         have HO391 := n5_
         have BK288 := n6_
         have BK312 := n7_
         have HB := n8_
         clear n0_ n1_ n2_ n3_ n4_ n5_ n6_ n7_ n8_
         (try clear hb)
         (try clear hb2)
         (try clear hk)
         (try clear hi)
         (try clear ho0)
         (try clear ho1)
         (try clear ho2)
         refine hK.out _ _ ⟨(bc BK312.out 0).trans rfl, (bc BK312.out 1).trans rfl, (bc BK312.out 2).trans rfl, (bc BK312.out 3).trans rfl, (bc BK288.out 0).trans rfl, (bc BK288.out 1).trans rfl, (bc BK288.out 2).trans rfl, (bc BK288.out 3).trans rfl⟩ (fun hHeld => ?_)
         clear hK K
         refine norm_ (a' := ?_) ?_ ?_
         rotate_left
         ·show Act.put _ (some 113) _ = _
          simp only [Act.put, psl, i64_w, i32_w]
          rfl
         refine one_ (i := 10) (N := some 116) (fl 14 11 []) rfl rfl (one_of HT_.out (by kernel_rfl)) (by decide) (fun K hK => ?_)
         refine goes_ Try.func30 (by kernel_rfl) rfl #[.agg #[.slice A0_0 l0_0.length c0_0, .int .i64 a0_1, .slice A0_2 l0_2.length c0_2, .slice A0_3 l0_3.length c0_3], .int .i64 a1] (by rfl) rfl rfl (by (try simp only [pml]); first | done | rfl | (simp only [pdt]; rfl)) ?_
         with_reducible refine (r_Break.calls kj83 _ _ l0_0 a0_1 _ _ l0_2 _ _ l0_3 a1 t392 t395 t396 t399 _ ?side1 ?side2 ?side3 ?side4 ?side5 ?side6 A115.out).mono ?_
         (case side1 => repeat (first | exact (Kd.C_below HR0_0.out HB.out) | (with_reducible refine Kd.C_alloc ?_ _) | (with_reducible refine Kd.C_drewN ?_ _) | (with_reducible refine Kd.C_drew ?_)))
         (case side2 => exact HC0_0.out)
         (case side3 => repeat (first | exact (Kd.C_below HR0_2.out HB.out) | (with_reducible refine Kd.C_alloc ?_ _) | (with_reducible refine Kd.C_drewN ?_ _) | (with_reducible refine Kd.C_drew ?_)))
         (case side4 => exact HC0_2.out)
         (case side5 => repeat (first | exact (Kd.C_below HR0_3.out HB.out) | (with_reducible refine Kd.C_alloc ?_ _) | (with_reducible refine Kd.C_drewN ?_ _) | (with_reducible refine Kd.C_drew ?_)))
         (case side6 => exact HC0_3.out)
         rintro e w120 ⟨v393, v397, v400, rfl, ho0, ho1, ho2, hb⟩
         refine ⟨_, rfl, ?_⟩
         have n0_ := am (Kd.S_mono (Kd.S_told (Kd.S_told (Kd.S_old (by (with_reducible repeat (first | apply Kd.S_alloc | apply Kd.S_drewN | apply Kd.S_drew)); exact HO_313000.out) hb) (Kd.S_base ho0)) (Kd.R_base ho1)) (fun _ h_ => h_.1))
         have n1_ := am (Kd.R_elder' (fR HO_313002.out) (Kd.R_base ho1) hb)
         have n2_ := am (Kd.R_elder' (fR HO_313003.out) (Kd.R_base ho2) hb)
         have n3_ := am (Kd.V_mono (Kd.V_told (Kd.V_told (Kd.V_told (Kd.V_old (fV HO384.out) hb) (Kd.S_base ho0)) (Kd.R_base ho1)) (Kd.R_base ho2)) (fun _ h_ => h_.1))
         have n4_ := am (Kd.V_mono (Kd.V_told (Kd.V_told (Kd.V_told (Kd.V_old (fV HO388.out) hb) (Kd.S_base ho0)) (Kd.R_base ho1)) (Kd.R_base ho2)) (fun _ h_ => h_.1))
         have n5_ := am (Kd.V_mono (Kd.V_told (Kd.V_told (Kd.V_told (Kd.V_old (fV HO391.out) hb) (Kd.S_base ho0)) (Kd.R_base ho1)) (Kd.R_base ho2)) (fun _ h_ => h_.1))
         have n6_ := am (Kd.S_lower (Kd.S_new' (Kd.S_new' ho0 (Kd.S_lt (by (with_reducible repeat (first | apply Kd.S_alloc | apply Kd.S_drewN | apply Kd.S_drew)); exact HO_313000.out))) (Kd.R_lt (fR HO_313002.out))) (wz (fW HB.out)))
         have n7_ := am (Kd.R_lower (Kd.R_new' ho1 (Kd.R_lt (fR HO_313002.out))) (wz (fW HB.out)))
         have n8_ := am (Kd.R_lower (Kd.R_new' ho2 (Kd.R_lt (fR HO_313003.out))) (wz (fW HB.out)))
         have n9_ := bB BK288 hb
         have n10_ := bB BK312 hb
         have n11_ := bS HB hb
         clear HO_313000 HO_313002 HO_313003 HO384 HO388 HO391 BK288 BK312 HB
         have HO_313000 := n0_
         have HO_313002 := n1_
         have HO_313003 := n2_
         have HO384 := n3_
         have HO388 := n4_
         have HO391 := n5_
         have HO394 := n6_
         have HO398 := n7_
         have HO401 := n8_
         have BK288 := n9_
         have BK312 := n10_
         have HB := n11_
         clear n0_ n1_ n2_ n3_ n4_ n5_ n6_ n7_ n8_ n9_ n10_ n11_
         (try clear hb)
         (try clear hb2)
         (try clear hk)
         (try clear hi)
         (try clear ho0)
         (try clear ho1)
         (try clear ho2)
         obtain ⟨Ao121, co121, eo121⟩ := Kd.V_slice HO384.out
         (first | subst eo121 | (injection eo121 with f1_ f2_ f3_; have f4_ := f1_.symm; have f5_ := f3_.symm; clear f1_ f2_ f3_; subst f4_; subst f5_))
         obtain ⟨Ao122, co122, eo122⟩ := Kd.V_slice HO388.out
         (first | subst eo122 | (injection eo122 with f1_ f2_ f3_; have f4_ := f1_.symm; have f5_ := f3_.symm; clear f1_ f2_ f3_; subst f4_; subst f5_))
         obtain ⟨Ao123, co123, eo123⟩ := Kd.V_slice HO391.out
         (first | subst eo123 | (injection eo123 with f1_ f2_ f3_; have f4_ := f1_.symm; have f5_ := f3_.symm; clear f1_ f2_ f3_; subst f4_; subst f5_))
         obtain ⟨Ao124, co124, eo124⟩ := Kd.S_slice HO394.out
         (first | subst eo124 | (injection eo124 with f1_ f2_ f3_; have f4_ := f1_.symm; have f5_ := f3_.symm; clear f1_ f2_ f3_; subst f4_; subst f5_))
         obtain ⟨Ao125, co125, eo125⟩ := Kd.R_slice HO398.out
         (first | subst eo125 | (injection eo125 with f1_ f2_ f3_; have f4_ := f1_.symm; have f5_ := f3_.symm; clear f1_ f2_ f3_; subst f4_; subst f5_))
         obtain ⟨Ao126, co126, eo126⟩ := Kd.R_slice HO401.out
         (first | subst eo126 | (injection eo126 with f1_ f2_ f3_; have f4_ := f1_.symm; have f5_ := f3_.symm; clear f1_ f2_ f3_; subst f4_; subst f5_))
         refine hK.out _ _ ⟨(bc BK312.out 0).trans rfl, (bc BK312.out 1).trans rfl, (bc BK312.out 2).trans rfl, (bc BK312.out 3).trans rfl, (bc BK288.out 0).trans rfl, (bc BK288.out 1).trans rfl, (bc BK288.out 2).trans rfl, (bc BK288.out 3).trans rfl⟩ (fun hHeld => ?_)
         clear hK K
         refine norm_ (a' := ?_) ?_ ?_
         rotate_left
         ·show Act.put _ (some 116) _ = _
          simp only [Act.put, psl, i64_w, i32_w]
          rfl
         refine one_ (i := 11) (N := some 117) (fl 14 12 []) rfl rfl (one_of HT_.out (by kernel_rfl)) (by decide) (fun K hK => ?_)
         refine goes_ Try.func26 (by kernel_rfl) rfl #[.agg #[.slice Ao121 t382.length co121, .int .i64 t385, .slice Ao122 t386.length co122, .slice Ao123 t389.length co123], .agg #[.slice Ao124 t392.length co124, .int .i64 t395, .slice Ao125 t396.length co125, .slice Ao126 t399.length co126]] (by rfl) rfl rfl (by (try simp only [pml]); first | done | rfl | (simp only [pdt]; rfl)) ?_
         with_reducible refine (r_Same.calls kj83 _ _ t382 t385 _ _ t386 _ _ t389 _ _ t392 t395 _ _ t396 _ _ t399 t402 _ ?side1 ?side2 ?side3 ?side4 ?side5 ?side6 ?side7 ?side8 ?side9 ?side10 ?side11 ?side12 A116.out).mono ?_
         (case side1 => repeat (first | exact (Kd.V_reads' HO384.out).2.2 | (with_reducible refine Kd.C_alloc ?_ _) | (with_reducible refine Kd.C_drewN ?_ _) | (with_reducible refine Kd.C_drew ?_)))
         (case side2 => exact (Kd.V_reads' HO384.out).2.1)
         (case side3 => repeat (first | exact (Kd.V_reads' HO388.out).2.2 | (with_reducible refine Kd.C_alloc ?_ _) | (with_reducible refine Kd.C_drewN ?_ _) | (with_reducible refine Kd.C_drew ?_)))
         (case side4 => exact (Kd.V_reads' HO388.out).2.1)
         (case side5 => repeat (first | exact (Kd.V_reads' HO391.out).2.2 | (with_reducible refine Kd.C_alloc ?_ _) | (with_reducible refine Kd.C_drewN ?_ _) | (with_reducible refine Kd.C_drew ?_)))
         (case side6 => exact (Kd.V_reads' HO391.out).2.1)
         (case side7 => repeat (first | exact (Kd.S_reads' HO394.out).2.2 | (with_reducible refine Kd.C_alloc ?_ _) | (with_reducible refine Kd.C_drewN ?_ _) | (with_reducible refine Kd.C_drew ?_)))
         (case side8 => exact (Kd.S_reads' HO394.out).2.1)
         (case side9 => repeat (first | exact (Kd.R_reads' HO398.out).2.2 | (with_reducible refine Kd.C_alloc ?_ _) | (with_reducible refine Kd.C_drewN ?_ _) | (with_reducible refine Kd.C_drew ?_)))
         (case side10 => exact (Kd.R_reads' HO398.out).2.1)
         (case side11 => repeat (first | exact (Kd.R_reads' HO401.out).2.2 | (with_reducible refine Kd.C_alloc ?_ _) | (with_reducible refine Kd.C_drewN ?_ _) | (with_reducible refine Kd.C_drew ?_)))
         (case side12 => exact (Kd.R_reads' HO401.out).2.1)
         rintro e w127 ⟨rfl, hb⟩
         refine ⟨_, rfl, ?_⟩
         have n0_ := am (Kd.S_below (by (with_reducible repeat (first | apply Kd.S_alloc | apply Kd.S_drewN | apply Kd.S_drew)); exact HO_313000.out) hb)
         have n1_ := dR HO_313002 hb
         have n2_ := dR HO_313003 hb
         have n3_ := dV HO384 hb
         have n4_ := dV HO388 hb
         have n5_ := dV HO391 hb
         have n6_ := am (Kd.S_below (by (with_reducible repeat (first | apply Kd.S_alloc | apply Kd.S_drewN | apply Kd.S_drew)); exact HO394.out) hb)
         have n7_ := dR HO398 hb
         have n8_ := dR HO401 hb
         have n9_ := bB BK288 hb
         have n10_ := bB BK312 hb
         have n11_ := bS HB hb
         clear HO_313000 HO_313002 HO_313003 HO384 HO388 HO391 HO394 HO398 HO401 BK288 BK312 HB
         have HO_313000 := n0_
         have HO_313002 := n1_
         have HO_313003 := n2_
         have HO384 := n3_
         have HO388 := n4_
         have HO391 := n5_
         have HO394 := n6_
         have HO398 := n7_
         have HO401 := n8_
         have BK288 := n9_
         have BK312 := n10_
         have HB := n11_
         clear n0_ n1_ n2_ n3_ n4_ n5_ n6_ n7_ n8_ n9_ n10_ n11_
         (try clear hb)
         (try clear hb2)
         (try clear hk)
         (try clear hi)
         refine hK.out _ _ ⟨(bc BK312.out 0).trans rfl, (bc BK312.out 1).trans rfl, (bc BK312.out 2).trans rfl, (bc BK312.out 3).trans rfl, (bc BK288.out 0).trans rfl, (bc BK288.out 1).trans rfl, (bc BK288.out 2).trans rfl, (bc BK288.out 3).trans rfl⟩ (fun hHeld => ?_)
         clear hK K
         refine norm_ (a' := ?_) ?_ ?_
         rotate_left
         ·show Act.put _ (some 117) _ = _
          simp only [Act.put, psl, i64_w, i32_w]
          rfl
         refine pu (i := 12) (N := some 118) (fl 14 13 []) HT_ ?_
         refine pu (i := 13) (N := some 4) (fl 14 14 []) HT_ ?_
         refine done_ (done_of HT_.out (by kernel_rfl)) ?_
         try go_wp2
         go_meet
         case rel => exact ⟨_, (t402), sqD, H', ⟨by have := HJ9.out; have := HJ56.out; have := HJ83.out; first | omega | exact Nat.le_refl _⟩, ⟨by (with_reducible repeat (first | apply Kd.S_alloc | apply Kd.S_drewN | apply Kd.S_drew)); exact Kd.S_mono HO_313000.out (fun _ hk => hk.1.1)⟩, ⟨by (with_reducible repeat (first | apply Kd.R_alloc | apply Kd.R_drewN | apply Kd.R_drew)); exact Kd.R_mono HO_313002.out (fun _ hk => trivial)⟩, ⟨by (with_reducible repeat (first | apply Kd.R_alloc | apply Kd.R_drewN | apply Kd.R_drew)); exact Kd.R_mono HO_313003.out (fun _ hk => trivial)⟩, ⟨fb BK288.out⟩, ⟨fb BK312.out⟩, ⟨fW HB.out⟩⟩
        case rest =>
         clear HC110
         try clear c1;try clear c2;try clear p2;try clear c3;try clear c11;try clear c26;try clear c27;try clear c30;try clear c112;try clear c113;try clear c113b0;try clear c113b1
         obtain ⟨kq, x4_109, rfl, HA, HJ109, HO_313000, HO_313002, HO_313003, BK288, BK312, HB⟩ := hcut
         cases kq with
         | zero => exact absurd HA.out (by simp [w_ReplaceChecks.j6])
         | succ kj109 =>
          have H := HA.out
          clear HA
          simp only [w_ReplaceChecks.j6] at H
          obtain rfl := Option.some.inj H
          go_wp2
          go_ret
          exact ⟨sqE, fW HB.out⟩
 ·replace c4 := Bool.eq_false_iff.mpr c4
  subst c4
  have H1 : ((w_awake.f k).bind fun t290 => (some t290)) = some r := by rw [if_neg (show ¬ (false = true) by decide)] at H; exact H
  clear H
  have H := H1
  clear H1
  replace H := Option.bind_eq_some_iff.mp H
  obtain ⟨t290, A1630, H⟩ := H
  replace H : (some t290) = some r := H
  have A163 := am A1630
  clear A1630
  obtain rfl := Option.some.inj H
  go_enter Try.func6, Try.ntmps6
  go_wp2_with (first | ((with_reducible refine gate_dst (N := 2) rfl ?_); (try (refine gate_guard (by rfl) ?_; dsimp only)); refine box_event ?hg (N := 2) ?hd (cs := #[.slice A0_0 l0_0.length c0_0, .int .i64 a0_1, .slice A0_2 l0_2.length c0_2, .slice A0_3 l0_3.length c0_3]) (t := 26) ?hr ?_; (case hd | hg => rfl); (case hr => first | (go_simp; done) | (go_simp; rfl)); intro gb288 hg w164 hbox hb; have BK288 := am hbox; have GW288 := sG HB hg; have GE288 := sG HB hg; replace HB := bS HB hb; clear hb hbox hg; obtain ⟨_, _, _, _, _, _, _, _⟩ := zC4 BK288) | ((with_reducible refine gc (f := 10) rfl ?_); refine goesL_ (some 12) rfl rfl Try.func10 (by kernel_rfl) rfl #[.agg #[.slice A0_0 l0_0.length c0_0, .int .i64 a0_1, .slice A0_2 l0_2.length c0_2, .slice A0_3 l0_3.length c0_3]] rfl (by (try simp only [pml]); first | done | rfl | (simp only [pdt]; rfl)) ?_; (with_reducible refine (r_Few.calls k _ _ l0_0 a0_1 _ _ l0_2 _ _ l0_3 false _ ?side1 ?side2 ?side3 ?side4 ?side5 ?side6 A3.out).mono ?_); (case side1 => repeat (first | exact (Kd.C_below HR0_0.out HB.out) | (with_reducible refine Kd.C_alloc ?_ _) | (with_reducible refine Kd.C_drewN ?_ _) | (with_reducible refine Kd.C_drew ?_))); (case side2 => exact HC0_0.out); (case side3 => repeat (first | exact (Kd.C_below HR0_2.out HB.out) | (with_reducible refine Kd.C_alloc ?_ _) | (with_reducible refine Kd.C_drewN ?_ _) | (with_reducible refine Kd.C_drew ?_))); (case side4 => exact HC0_2.out); (case side5 => repeat (first | exact (Kd.C_below HR0_3.out HB.out) | (with_reducible refine Kd.C_alloc ?_ _) | (with_reducible refine Kd.C_drewN ?_ _) | (with_reducible refine Kd.C_drew ?_))); (case side6 => exact HC0_3.out); rintro e w166 ⟨rfl, hb⟩; refine ⟨_, rfl, ?_⟩; replace BK288 := bB BK288 hb; replace HB := bS HB hb; (try clear hb); (try clear hb2); (try clear hk); (try clear hi)) | ((with_reducible refine gc (f := 11) rfl ?_); refine goesL_ (some 14) rfl rfl Try.func11 (by kernel_rfl) rfl #[] rfl (by (try simp only [pml]); first | done | rfl | (simp only [pdt]; rfl)) ?_; (with_reducible refine (w_awake.calls k  t290 _ A163.out).mono ?_); rintro e w167 ⟨rfl, hb⟩; refine ⟨_, rfl, ?_⟩; replace BK288 := bB BK288 hb; replace HB := bS HB hb; (try clear hb); (try clear hb2); (try clear hk); (try clear hi)))
  go_ret
  exact ⟨sqE, fW HB.out⟩

def w_ReplaceChecks.Pure : Prop := ∀ (l0_0 : List (List Int)) (a0_1 : Int) (l0_2 : List Int) (l0_3 : List Bool) (a1 : Int), (l0_0.length ≤ maxLen ∧ ∀ e1_, e1_ ∈ l0_0 → e1_.length ≤ maxLen ∧ ∀ e2_, e2_ ∈ e1_ → (Lit.int .i64 e2_).wf = true) → ((Lit.int .i64 a0_1).wf = true) → (l0_2.length ≤ maxLen ∧ ∀ e3_, e3_ ∈ l0_2 → (Lit.int .i64 e3_).wf = true) → (l0_3.length ≤ maxLen) → ((Lit.int .i64 a1).wf = true) → ∃ k, w_ReplaceChecks.f k l0_0 a0_1 l0_2 l0_3 a1 = some true
theorem w_ReplaceChecks.walk (P_ : w_ReplaceChecks.Pure) (A0_0 : Option Addr) (c0_0 : Nat) (l0_0 : List (List Int)) (a0_1 : Int) (A0_2 : Option Addr) (c0_2 : Nat) (l0_2 : List Int) (A0_3 : Option Addr) (c0_3 : Nat) (l0_3 : List Bool) (a1 : Int) (w : World) (hr0_0 : Kd.C (Kd.slice 3 (Kd.int .i64)) w A0_0 l0_0.length l0_0) (hc0_0 : l0_0.length ≤ c0_0) (hr0_2 : Kd.C (Kd.int .i64) w A0_2 l0_2.length l0_2) (hc0_2 : l0_2.length ≤ c0_2) (hr0_3 : Kd.C Kd.bool w A0_3 l0_3.length l0_3) (hc0_3 : l0_3.length ≤ c0_3) (o0 : (l0_0.length ≤ maxLen ∧ ∀ e1_, e1_ ∈ l0_0 → e1_.length ≤ maxLen ∧ ∀ e2_, e2_ ∈ e1_ → (Lit.int .i64 e2_).wf = true)) (o1 : ((Lit.int .i64 a0_1).wf = true)) (o2 : (l0_2.length ≤ maxLen ∧ ∀ e3_, e3_ ∈ l0_2 → (Lit.int .i64 e3_).wf = true)) (o3 : (l0_3.length ≤ maxLen)) (o4 : ((Lit.int .i64 a1).wf = true)) :
  Calls Try.prog 6 #[.agg #[.slice A0_0 l0_0.length c0_0, .int .i64 a0_1, .slice A0_2 l0_2.length c0_2, .slice A0_3 l0_3.length c0_3], .int .i64 a1] w fun e w' => e = .returned (.bool true) ∧ Below w.heap.size w w' := by
 obtain ⟨k, h⟩ := P_ l0_0 a0_1 l0_2 l0_3 a1 o0 o1 o2 o3 o4
 refine (w_ReplaceChecks.calls k A0_0 c0_0 l0_0 a0_1 A0_2 c0_2 l0_2 A0_3 c0_3 l0_3 a1 true w hr0_0 hc0_0 hr0_2 hc0_2 hr0_3 hc0_3 h).mono ?_
 rintro e w' ⟨rfl, hd⟩
 exact ⟨rfl, hd⟩

end Go.Proofs.Ytkeomlmlimkebaa.QA
