import Derived.Test.YtmmdikhmlmoolaaZQAx0
import Derived.Test.YtmmdikhmlmoolaaZQAx3
import Derived.Test.YtmmdikhmlmoolaaZQAx4
import Derived.Test.YtmmdikhmlmoolaaZQAx5
import Derived.Test.YtmmdikhmlmoolaaZQAx6
import Derived.Test.YtmmdikhmlmoolaaZQAx8
import Derived.Test.YtmmdikhmlmoolaaZQAx10
import Derived.Test.YtmmdikhmlmoolaaZQAx11
import Derived.Test.YtmmdikhmlmoolaaZQAx12
import Derived.Test.YtmmdikhmlmoolaaZQAx13
import Derived.Test.YtmmdikhmlmoolaaZQAx14
import Derived.Test.YtmmdikhmlmoolaaZRegInv
import Derived.Deep.RegionHeld3
import Derived.LoopN
import Derived.StillTailTactics
namespace Go.Proofs.Ytmmdikhmlmoolaa.QA
open Go.RowKit Go.Proofs.YtmmdikhmlmoolaaW.PrintWords Go.Proofs.YtmmdikhmlmoolaaW.PrintLast Go.Proofs.YtmmdikhmlmoolaaW.PrintMore
open Go.Proofs.YtmmdikhmlmoolaaW.PrintWords renaming below_alloc → wa, blk_cell → bc, blk_below → bb, below_step → wt
open Aside0 renaming mk → am
attribute [local go_sem] max2_int min2_int max_two min_two max_three min_three max_four min_four
set_option linter.unusedVariables false
set_option linter.unusedSimpArgs false

section
open Go.Proofs.Ytmmdikhmlmoolaa.RegInv
def w_awake.f : Option Bool := some true
def awL : List S25 := [(⟨⟨0, 0, 0⟩, ⟨4, 4, 2⟩⟩ : S25), (⟨⟨0, 0, 2⟩, ⟨4, 2, 4⟩⟩ : S25), (⟨⟨0, 2, 2⟩, ⟨2, 4, 4⟩⟩ : S25)]
theorem bo0 (W : World) : Calls Try.prog 47 #[.int .i64 0, .int .i64 0, .int .i64 0, .int .i64 4, .int .i64 4, .int .i64 4] W fun e w' => e = .returned (.agg #[.int .i64 0, .int .i64 0, .int .i64 0, .int .i64 4, .int .i64 4, .int .i64 4]) ∧ Below W.heap.size W w' := w_boxOf.calls 0 0 0 4 4 4 0 0 0 4 4 4 W rfl
theorem bo1 (W : World) : Calls Try.prog 47 #[.int .i64 2, .int .i64 2, .int .i64 2, .int .i64 6, .int .i64 6, .int .i64 6] W fun e w' => e = .returned (.agg #[.int .i64 2, .int .i64 2, .int .i64 2, .int .i64 6, .int .i64 6, .int .i64 6]) ∧ Below W.heap.size W w' := w_boxOf.calls 2 2 2 6 6 6 2 2 2 6 6 6 W rfl
theorem bo2 (W : World) : Calls Try.prog 47 #[.int .i64 1, .int .i64 1, .int .i64 4, .int .i64 2, .int .i64 2, .int .i64 5] W fun e w' => e = .returned (.agg #[.int .i64 1, .int .i64 1, .int .i64 4, .int .i64 2, .int .i64 2, .int .i64 5]) ∧ Below W.heap.size W w' := w_boxOf.calls 1 1 4 2 2 5 1 1 4 2 2 5 W rfl
theorem bo3 (W : World) : Calls Try.prog 47 #[.int .i64 0, .int .i64 0, .int .i64 0, .int .i64 4, .int .i64 4, .int .i64 1] W fun e w' => e = .returned (.agg #[.int .i64 0, .int .i64 0, .int .i64 0, .int .i64 4, .int .i64 4, .int .i64 1]) ∧ Below W.heap.size W w' := w_boxOf.calls 0 0 0 4 4 1 0 0 0 4 4 1 W rfl
theorem bo4 (W : World) : Calls Try.prog 47 #[.int .i64 0, .int .i64 0, .int .i64 1, .int .i64 3, .int .i64 4, .int .i64 4] W fun e w' => e = .returned (.agg #[.int .i64 0, .int .i64 0, .int .i64 1, .int .i64 3, .int .i64 4, .int .i64 4]) ∧ Below W.heap.size W w' := w_boxOf.calls 0 0 1 3 4 4 0 0 1 3 4 4 W rfl
theorem bo5 (W : World) : Calls Try.prog 47 #[.int .i64 0, .int .i64 0, .int .i64 0, .int .i64 1, .int .i64 1, .int .i64 1] W fun e w' => e = .returned (.agg #[.int .i64 0, .int .i64 0, .int .i64 0, .int .i64 1, .int .i64 1, .int .i64 1]) ∧ Below W.heap.size W w' := w_boxOf.calls 0 0 0 1 1 1 0 0 0 1 1 1 W rfl
theorem bo6 (W : World) : Calls Try.prog 47 #[.int .i64 2, .int .i64 2, .int .i64 2, .int .i64 4, .int .i64 4, .int .i64 4] W fun e w' => e = .returned (.agg #[.int .i64 2, .int .i64 2, .int .i64 2, .int .i64 4, .int .i64 4, .int .i64 4]) ∧ Below W.heap.size W w' := w_boxOf.calls 2 2 2 4 4 4 2 2 2 4 4 4 W rfl
theorem bo7 (W : World) : Calls Try.prog 47 #[.int .i64 0, .int .i64 0, .int .i64 0, .int .i64 4, .int .i64 4, .int .i64 2] W fun e w' => e = .returned (.agg #[.int .i64 0, .int .i64 0, .int .i64 0, .int .i64 4, .int .i64 4, .int .i64 2]) ∧ Below W.heap.size W w' := w_boxOf.calls 0 0 0 4 4 2 0 0 0 4 4 2 W rfl
theorem bo8 (W : World) : Calls Try.prog 47 #[.int .i64 0, .int .i64 0, .int .i64 0, .int .i64 6, .int .i64 6, .int .i64 6] W fun e w' => e = .returned (.agg #[.int .i64 0, .int .i64 0, .int .i64 0, .int .i64 6, .int .i64 6, .int .i64 6]) ∧ Below W.heap.size W w' := w_boxOf.calls 0 0 0 6 6 6 0 0 0 6 6 6 W rfl
theorem aw25 (W : World) : Calls Try.prog 25 #[.agg #[.int .i64 0, .int .i64 0, .int .i64 0, .int .i64 4, .int .i64 4, .int .i64 4], .agg #[.int .i64 2, .int .i64 2, .int .i64 2, .int .i64 6, .int .i64 6, .int .i64 6]] W fun e w' => e = .returned (.tuple #[.agg #[.int .i64 2, .int .i64 2, .int .i64 2, .int .i64 4, .int .i64 4, .int .i64 4], .int .i64 0]) ∧ Below W.heap.size W w' := box_Intersect.calls 40 0 0 0 4 4 4 2 2 2 6 6 6 2 2 2 4 4 4 0 W (by kernel_rfl)
theorem aw35 (W : World) : Calls Try.prog 35 #[.agg #[.int .i64 0, .int .i64 0, .int .i64 0, .int .i64 4, .int .i64 4, .int .i64 4], .agg #[.int .i64 2, .int .i64 2, .int .i64 2, .int .i64 6, .int .i64 6, .int .i64 6]] W fun e w' => ∃ g_ c_, e = .returned (.tuple #[.slice (some ⟨g_, 0, none⟩) 3 c_, .int .i64 0]) ∧ 3 ≤ c_ ∧ Kd.C k25 w' (some ⟨g_, 0, none⟩) 3 awL ∧ Below W.heap.size W w' := by
 refine (box_Subtract.calls 40 0 0 0 4 4 4 2 2 2 6 6 6 awL 0 W (by kernel_rfl)).mono ?_
 rintro e w2 ⟨v, rfl, hr, hb⟩
 obtain ⟨g, c, rfl, -⟩ := Kd.R_form hr (by decide)
 obtain ⟨h1, h2, h3⟩ := Kd.R_reads' hr
 exact ⟨g, c, rfl, h2, h3, hb⟩
theorem aw18 (W : World) : Calls Try.prog 18 #[.agg #[.int .i64 0, .int .i64 0, .int .i64 0, .int .i64 4, .int .i64 4, .int .i64 4], .agg #[.int .i64 1, .int .i64 1, .int .i64 4, .int .i64 2, .int .i64 2, .int .i64 5]] W fun e w' => e = .returned (.tuple #[.int .i64 4, .int .i64 0]) ∧ Below W.heap.size W w' := box_Touch.calls 0 0 0 4 4 4 1 1 4 2 2 5 4 0 W (by kernel_rfl)
theorem aw16 (W : World) : Calls Try.prog 16 #[.agg #[.int .i64 0, .int .i64 0, .int .i64 0, .int .i64 4, .int .i64 4, .int .i64 4]] W fun e w' => e = .returned (.tuple #[.int .i64 64, .int .i64 0]) ∧ Below W.heap.size W w' := box_Volume.calls 0 0 0 4 4 4 64 0 W (by kernel_rfl)
theorem lit2b (W : World) : Kd.C k25 (W.alloc (Obj.cells #[.int .i64 0, .int .i64 0, .int .i64 0, .int .i64 4, .int .i64 4, .int .i64 4, .int .i64 2, .int .i64 2, .int .i64 2, .int .i64 6, .int .i64 6, .int .i64 6] 25 (0, 0))) (some ⟨W.heap.size, 0, none⟩) 2 [(⟨⟨0, 0, 0⟩, ⟨4, 4, 4⟩⟩ : S25), (⟨⟨2, 2, 2⟩, ⟨6, 6, 6⟩⟩ : S25)] := by
 have h := blk_new W (Obj.cells #[.int .i64 0, .int .i64 0, .int .i64 0, .int .i64 4, .int .i64 4, .int .i64 4, .int .i64 2, .int .i64 2, .int .i64 2, .int .i64 6, .int .i64 6, .int .i64 6] 25 (0, 0))
 refine ⟨rfl, by decide, fun _ => ⟨_, rfl, fun j p hp => ?_⟩⟩
 match j with
 | 0 =>
  obtain rfl : (⟨⟨0, 0, 0⟩, ⟨4, 4, 4⟩⟩ : S25) = p := by simpa using hp
  refine ⟨_, rfl, k25_mk _ _, fun i u hu => ?_⟩
  match i with
  | 0 | 1 | 2 | 3 | 4 | 5 => simp at hu; subst hu; exact (bc h _).trans rfl
  | i + 6 => simp at hu
 | 1 =>
  obtain rfl : (⟨⟨2, 2, 2⟩, ⟨6, 6, 6⟩⟩ : S25) = p := by simpa using hp
  refine ⟨_, rfl, k25_mk _ _, fun i u hu => ?_⟩
  match i with
  | 0 | 1 | 2 | 3 | 4 | 5 => simp at hu; subst hu; exact (bc h _).trans rfl
  | i + 6 => simp at hu
 | j + 2 => simp at hp
theorem aw41 (W : World) (A_ : Option Addr) (c_ : Nat) (hr : Kd.C k25 W A_ 2 [(⟨⟨0, 0, 0⟩, ⟨4, 4, 4⟩⟩ : S25), (⟨⟨2, 2, 2⟩, ⟨6, 6, 6⟩⟩ : S25)]) (hc : 2 ≤ c_) : Calls Try.prog 41 #[.slice A_ 2 c_] W fun e w' => e = .returned (.tuple #[.int .i64 0, .int .i64 1, .int .i64 0]) ∧ Below W.heap.size W w' := box_Clash.calls 40 A_ c_ [(⟨⟨0, 0, 0⟩, ⟨4, 4, 4⟩⟩ : S25), (⟨⟨2, 2, 2⟩, ⟨6, 6, 6⟩⟩ : S25)] 0 1 0 W hr hc (by kernel_rfl)
theorem aw15 (W : World) : Calls Try.prog 15 #[.agg #[.int .i64 0, .int .i64 0, .int .i64 0, .int .i64 4, .int .i64 4, .int .i64 4], .agg #[.int .i64 1, .int .i64 0, .int .i64 0]] W fun e w' => e = .returned (.tuple #[.agg #[.int .i64 1, .int .i64 0, .int .i64 0, .int .i64 5, .int .i64 4, .int .i64 4], .int .i64 0]) ∧ Below W.heap.size W w' := box_Move.calls 0 0 0 4 4 4 1 0 0 1 0 0 5 4 4 0 W (by kernel_rfl)
theorem lit1 (W : World) : Kd.C k25 (W.alloc (Obj.cells #[.int .i64 2, .int .i64 2, .int .i64 2, .int .i64 6, .int .i64 6, .int .i64 6] 25 (0, 0))) (some ⟨W.heap.size, 0, none⟩) 1 [(⟨⟨2, 2, 2⟩, ⟨6, 6, 6⟩⟩ : S25)] := by
 have h := blk_new W (Obj.cells #[.int .i64 2, .int .i64 2, .int .i64 2, .int .i64 6, .int .i64 6, .int .i64 6] 25 (0, 0))
 refine ⟨rfl, by decide, fun _ => ⟨_, rfl, fun j p hp => ?_⟩⟩
 match j with
 | 0 =>
  obtain rfl : (⟨⟨2, 2, 2⟩, ⟨6, 6, 6⟩⟩ : S25) = p := by simpa using hp
  refine ⟨_, rfl, k25_mk _ _, fun i u hu => ?_⟩
  match i with
  | 0 | 1 | 2 | 3 | 4 | 5 => simp at hu; subst hu; exact (bc h _).trans rfl
  | i + 6 => simp at hu
 | j + 1 => simp at hp
theorem aw13 (W : World) (A_ : Option Addr) (c_ : Nat) (hr : Kd.C k25 W A_ 1 [(⟨⟨2, 2, 2⟩, ⟨6, 6, 6⟩⟩ : S25)]) (hc : 1 ≤ c_) : Calls Try.prog 13 #[.agg #[.int .i64 0, .int .i64 0, .int .i64 0, .int .i64 4, .int .i64 4, .int .i64 4], .slice A_ 1 c_] W fun e w' => ∃ g_ c_, e = .returned (.tuple #[.slice (some ⟨g_, 0, none⟩) 3 c_, .int .i64 0]) ∧ 3 ≤ c_ ∧ Kd.C k25 w' (some ⟨g_, 0, none⟩) 3 awL ∧ Below W.heap.size W w' := by
 refine (box_Rest.calls 40 0 0 0 4 4 4 A_ c_ [(⟨⟨2, 2, 2⟩, ⟨6, 6, 6⟩⟩ : S25)] awL 0 W hr hc (by kernel_rfl)).mono ?_
 rintro e w2 ⟨v, rfl, hr, hb⟩
 obtain ⟨g, c, rfl, -⟩ := Kd.R_form hr (by decide)
 obtain ⟨h1, h2, h3⟩ := Kd.R_reads' hr
 exact ⟨g, c, rfl, h2, h3, hb⟩
theorem aw26 (W : World) : Calls Try.prog 26 #[.agg #[.int .i64 0, .int .i64 0, .int .i64 0, .int .i64 4, .int .i64 4, .int .i64 4], .agg #[.int .i64 2, .int .i64 2, .int .i64 2, .int .i64 6, .int .i64 6, .int .i64 6]] W fun e w' => e = .returned (.tuple #[.agg #[.int .i64 0, .int .i64 0, .int .i64 0, .int .i64 6, .int .i64 6, .int .i64 6], .int .i64 0]) ∧ Below W.heap.size W w' := box_Hull.calls 0 0 0 4 4 4 2 2 2 6 6 6 0 0 0 6 6 6 0 W (by kernel_rfl)
theorem aw36 (W : World) (A1 A2 : Option Addr) (c1 c2 : Nat) (hr1 : Kd.C k25 W A1 3 awL) (hc1 : 3 ≤ c1) (hr2 : Kd.C k25 W A2 3 awL) (hc2 : 3 ≤ c2) : Calls Try.prog 36 #[.slice A1 3 c1, .slice A2 3 c2] W fun e w' => e = .returned (.bool true) ∧ Drawn0 W w' := r_Same.calls 40 A1 c1 awL A2 c2 awL true W hr1 hc1 hr2 hc2 (by kernel_rfl)
theorem aw20a (W : World) : Calls Try.prog 20 #[.agg #[.int .i64 0, .int .i64 0, .int .i64 0, .int .i64 0, .int .i64 0, .int .i64 0]] W fun e w' => e = .returned (.int .i64 1) ∧ Below W.heap.size W w' := box_Check.calls 0 0 0 0 0 0 1 W (by kernel_rfl)
theorem aw20b (W : World) : Calls Try.prog 20 #[.agg #[.int .i64 0, .int .i64 0, .int .i64 0, .int .i64 4, .int .i64 4, .int .i64 4]] W fun e w' => e = .returned (.int .i64 0) ∧ Below W.heap.size W w' := box_Check.calls 0 0 0 4 4 4 0 W (by kernel_rfl)
theorem aw21 (W : World) : Calls Try.prog 21 #[.agg #[.int .i64 0, .int .i64 0, .int .i64 0, .int .i64 4, .int .i64 4, .int .i64 4]] W fun e w' => e = .returned (.agg #[.int .i64 4, .int .i64 4, .int .i64 4]) ∧ Below W.heap.size W w' := box_Size.calls 0 0 0 4 4 4 4 4 4 W (by kernel_rfl)
theorem aw14a (W : World) : Calls Try.prog 14 #[.agg #[.int .i64 0, .int .i64 0, .int .i64 0, .int .i64 4, .int .i64 4, .int .i64 4], .agg #[.int .i64 0, .int .i64 0, .int .i64 0]] W fun e w' => e = .returned (.bool true) ∧ Below W.heap.size W w' := box_Has.calls 40 0 0 0 4 4 4 0 0 0 true W (by kernel_rfl)
theorem aw14b (W : World) : Calls Try.prog 14 #[.agg #[.int .i64 0, .int .i64 0, .int .i64 0, .int .i64 4, .int .i64 4, .int .i64 4], .agg #[.int .i64 4, .int .i64 4, .int .i64 4]] W fun e w' => e = .returned (.bool false) ∧ Below W.heap.size W w' := box_Has.calls 40 0 0 0 4 4 4 4 4 4 false W (by kernel_rfl)
theorem aw31 (W : World) : Calls Try.prog 31 #[.agg #[.int .i64 2, .int .i64 2, .int .i64 2, .int .i64 4, .int .i64 4, .int .i64 4], .agg #[.int .i64 0, .int .i64 0, .int .i64 0, .int .i64 4, .int .i64 4, .int .i64 4]] W fun e w' => e = .returned (.bool true) ∧ Below W.heap.size W w' := box_Inside.calls 2 2 2 4 4 4 0 0 0 4 4 4 true W (by kernel_rfl)
theorem aw17 (W : World) : Calls Try.prog 17 #[.agg #[.int .i64 0, .int .i64 0, .int .i64 0, .int .i64 4, .int .i64 4, .int .i64 4], .agg #[.int .i64 2, .int .i64 2, .int .i64 2, .int .i64 6, .int .i64 6, .int .i64 6]] W fun e w' => e = .returned (.bool true) ∧ Below W.heap.size W w' := box_Overlap.calls 0 0 0 4 4 4 2 2 2 6 6 6 true W (by kernel_rfl)
theorem lit1a (W : World) : Kd.C k25 (W.alloc (Obj.cells #[.int .i64 0, .int .i64 0, .int .i64 0, .int .i64 4, .int .i64 4, .int .i64 4] 25 (0, 0))) (some ⟨W.heap.size, 0, none⟩) 1 [(⟨⟨0, 0, 0⟩, ⟨4, 4, 4⟩⟩ : S25)] := by
 have h := blk_new W (Obj.cells #[.int .i64 0, .int .i64 0, .int .i64 0, .int .i64 4, .int .i64 4, .int .i64 4] 25 (0, 0))
 refine ⟨rfl, by decide, fun _ => ⟨_, rfl, fun j p hp => ?_⟩⟩
 match j with
 | 0 =>
  obtain rfl : (⟨⟨0, 0, 0⟩, ⟨4, 4, 4⟩⟩ : S25) = p := by simpa using hp
  refine ⟨_, rfl, k25_mk _ _, fun i u hu => ?_⟩
  match i with
  | 0 | 1 | 2 | 3 | 4 | 5 => simp at hu; subst hu; exact (bc h _).trans rfl
  | i + 6 => simp at hu
 | j + 1 => simp at hp
theorem aw42 (W : World) (A_ : Option Addr) (c_ : Nat) (hr : Kd.C k25 W A_ 1 [(⟨⟨0, 0, 0⟩, ⟨4, 4, 4⟩⟩ : S25)]) (hc : 1 ≤ c_) : Calls Try.prog 42 #[.agg #[.int .i64 0, .int .i64 0, .int .i64 0, .int .i64 4, .int .i64 4, .int .i64 4], .slice A_ 1 c_] W fun e w' => e = .returned (.int .i64 0) ∧ Below W.heap.size W w' := box_Partition.calls 40 0 0 0 4 4 4 A_ c_ [(⟨⟨0, 0, 0⟩, ⟨4, 4, 4⟩⟩ : S25)] 0 W hr hc (by kernel_rfl)
theorem lit3 (W : World) : Kd.C k25 (W.alloc (Obj.cells #[.int .i64 0, .int .i64 0, .int .i64 0, .int .i64 4, .int .i64 4, .int .i64 4, .int .i64 2, .int .i64 2, .int .i64 2, .int .i64 6, .int .i64 6, .int .i64 6, .int .i64 0, .int .i64 0, .int .i64 0, .int .i64 1, .int .i64 1, .int .i64 1] 25 (0, 0))) (some ⟨W.heap.size, 0, none⟩) 3 [(⟨⟨0, 0, 0⟩, ⟨4, 4, 4⟩⟩ : S25), (⟨⟨2, 2, 2⟩, ⟨6, 6, 6⟩⟩ : S25), (⟨⟨0, 0, 0⟩, ⟨1, 1, 1⟩⟩ : S25)] := by
 have h := blk_new W (Obj.cells #[.int .i64 0, .int .i64 0, .int .i64 0, .int .i64 4, .int .i64 4, .int .i64 4, .int .i64 2, .int .i64 2, .int .i64 2, .int .i64 6, .int .i64 6, .int .i64 6, .int .i64 0, .int .i64 0, .int .i64 0, .int .i64 1, .int .i64 1, .int .i64 1] 25 (0, 0))
 refine ⟨rfl, by decide, fun _ => ⟨_, rfl, fun j p hp => ?_⟩⟩
 match j with
 | 0 =>
  obtain rfl : (⟨⟨0, 0, 0⟩, ⟨4, 4, 4⟩⟩ : S25) = p := by simpa using hp
  refine ⟨_, rfl, k25_mk _ _, fun i u hu => ?_⟩
  match i with
  | 0 | 1 | 2 | 3 | 4 | 5 => simp at hu; subst hu; exact (bc h _).trans rfl
  | i + 6 => simp at hu
 | 1 =>
  obtain rfl : (⟨⟨2, 2, 2⟩, ⟨6, 6, 6⟩⟩ : S25) = p := by simpa using hp
  refine ⟨_, rfl, k25_mk _ _, fun i u hu => ?_⟩
  match i with
  | 0 | 1 | 2 | 3 | 4 | 5 => simp at hu; subst hu; exact (bc h _).trans rfl
  | i + 6 => simp at hu
 | 2 =>
  obtain rfl : (⟨⟨0, 0, 0⟩, ⟨1, 1, 1⟩⟩ : S25) = p := by simpa using hp
  refine ⟨_, rfl, k25_mk _ _, fun i u hu => ?_⟩
  match i with
  | 0 | 1 | 2 | 3 | 4 | 5 => simp at hu; subst hu; exact (bc h _).trans rfl
  | i + 6 => simp at hu
 | j + 3 => simp at hp
theorem aw40 (W : World) (A_ : Option Addr) (c_ : Nat) (hr : Kd.C k25 W A_ 3 [(⟨⟨0, 0, 0⟩, ⟨4, 4, 4⟩⟩ : S25), (⟨⟨2, 2, 2⟩, ⟨6, 6, 6⟩⟩ : S25), (⟨⟨0, 0, 0⟩, ⟨1, 1, 1⟩⟩ : S25)]) (hc : 3 ≤ c_) : Calls Try.prog 40 #[.slice A_ 3 c_] W fun e w' => e = .returned (.tuple #[.int .i64 120, .int .i64 0]) ∧ Below W.heap.size W w' := box_Total.calls 40 A_ c_ [(⟨⟨0, 0, 0⟩, ⟨4, 4, 4⟩⟩ : S25), (⟨⟨2, 2, 2⟩, ⟨6, 6, 6⟩⟩ : S25), (⟨⟨0, 0, 0⟩, ⟨1, 1, 1⟩⟩ : S25)] 120 0 W hr hc (by kernel_rfl)
theorem aw12 (W : World) (A_ : Option Addr) (c_ : Nat) (hr : Kd.C k25 W A_ 2 [(⟨⟨0, 0, 0⟩, ⟨4, 4, 1⟩⟩ : S25), (⟨⟨0, 0, 1⟩, ⟨3, 4, 4⟩⟩ : S25)]) (hc : 2 ≤ c_) : Calls Try.prog 12 #[.agg #[.int .i64 0, .int .i64 0, .int .i64 0, .int .i64 4, .int .i64 4, .int .i64 4], .slice A_ 2 c_] W fun e w' => e = .returned (.tuple #[.agg #[.int .i64 3, .int .i64 0, .int .i64 1], .int .i64 0]) ∧ Below W.heap.size W w' := box_Gap.calls 40 0 0 0 4 4 4 A_ c_ [(⟨⟨0, 0, 0⟩, ⟨4, 4, 1⟩⟩ : S25), (⟨⟨0, 0, 1⟩, ⟨3, 4, 4⟩⟩ : S25)] 3 0 1 0 W hr hc (by kernel_rfl)
section
variable {w V V' : World} {g1 g2 g3 g5 : Nat}
structure St (w : World) (g1 g2 g3 g5 : Nat) (V : World) : Prop where
 mk ::
 b1 : V.heap[g1]? = some (Obj.cells #[.int .i64 0, .int .i64 0, .int .i64 0, .int .i64 4, .int .i64 4, .int .i64 4] 25 (0, 0))
 b2 : V.heap[g2]? = some (Obj.cells #[.int .i64 2, .int .i64 2, .int .i64 2, .int .i64 6, .int .i64 6, .int .i64 6] 25 (0, 0))
 b3 : V.heap[g3]? = some (Obj.cells #[.int .i64 2, .int .i64 2, .int .i64 2, .int .i64 4, .int .i64 4, .int .i64 4] 25 (0, 0))
 l : Kd.C k25 V (some ⟨g5, 0, none⟩) 3 awL
 hb : Below w.heap.size w V
theorem St.below (h : St w g1 g2 g3 g5 V) (hb : Below V.heap.size V V') : St w g1 g2 g3 g5 V' := ⟨bb h.b1 hb, bb h.b2 hb, bb h.b3 hb, Kd.C_below h.l hb, wt h.hb hb⟩
theorem St.drew (h : St w g1 g2 g3 g5 V) : St w g1 g2 g3 g5 V.drew := h.below (below_drew1 (Below.refl _ _))
theorem keepS (hb : Below V.heap.size V V') (h : St w g1 g2 g3 g5 V) : St w g1 g2 g3 g5 V' ∧ V'.cell? ⟨g1, 0, none⟩ = some (.int .i64 0) ∧ V'.cell? ⟨g1, 1, none⟩ = some (.int .i64 0) ∧ V'.cell? ⟨g1, 2, none⟩ = some (.int .i64 0) ∧ V'.cell? ⟨g1, 3, none⟩ = some (.int .i64 4) ∧ V'.cell? ⟨g1, 4, none⟩ = some (.int .i64 4) ∧ V'.cell? ⟨g1, 5, none⟩ = some (.int .i64 4) := ⟨h.below hb, RegInv.cells6 (h.below hb).b1⟩
theorem keepT {W : World} (h1 : W.heap[g1]? = some (Obj.cells #[.int .i64 0, .int .i64 0, .int .i64 0, .int .i64 4, .int .i64 4, .int .i64 4] 25 (0, 0))) (h2 : W.heap[g2]? = some (Obj.cells #[.int .i64 2, .int .i64 2, .int .i64 2, .int .i64 6, .int .i64 6, .int .i64 6] 25 (0, 0))) (hb : Below W.heap.size W V) : Below W.heap.size W V ∧ (V.cell? ⟨g1, 0, none⟩ = some (.int .i64 0) ∧ V.cell? ⟨g1, 1, none⟩ = some (.int .i64 0) ∧ V.cell? ⟨g1, 2, none⟩ = some (.int .i64 0) ∧ V.cell? ⟨g1, 3, none⟩ = some (.int .i64 4) ∧ V.cell? ⟨g1, 4, none⟩ = some (.int .i64 4) ∧ V.cell? ⟨g1, 5, none⟩ = some (.int .i64 4)) ∧ V.cell? ⟨g2, 0, none⟩ = some (.int .i64 2) ∧ V.cell? ⟨g2, 1, none⟩ = some (.int .i64 2) ∧ V.cell? ⟨g2, 2, none⟩ = some (.int .i64 2) ∧ V.cell? ⟨g2, 3, none⟩ = some (.int .i64 6) ∧ V.cell? ⟨g2, 4, none⟩ = some (.int .i64 6) ∧ V.cell? ⟨g2, 5, none⟩ = some (.int .i64 6) := ⟨hb, RegInv.cells6 (bb h1 hb), RegInv.cells6 (bb h2 hb)⟩
end
theorem gen {P : Program} {c : Code} {Q : Exit → Act → World → Prop} {a : Act} {W : World} (φ : World → Prop) (h : φ W) (k : ∀ V, φ V → Code.wp P c Q a V) : Code.wp P c Q a W := k W h

def flA (n k : Nat) (xs : List Nat) : Array Bool := ((List.range n).map fun i => decide (i < k) || xs.contains i).toArray
section
variable {P : Program} {md : Region.Mode} {ops : Array Oper} {Q : Exit → Act → World → Prop} {S : World → Prop} {ds : List Nat} {T : Bool × List (List Nat × List Nat)} {B : List Nat} {i fuel : Nat} {N : Option Tmp} {oi : Oper} {v : Value} {l : Array Bool} {a a' : Act} {w : World}
theorem puA (l' : Array Bool) (hT : Aside0 (rtab md ops = T)) (h : wpAnyLast P md ops Q S ds fuel l' a' w) (hi : ops[i]? = some oi := by rfl) (hN : oi.dst = N := by rfl) (hc : anyT T l.toList l'.toList i = true := by kernel_rfl)
  (hQ : ∀ c a w, Q (.panic c) (a.put oi.dst v) w → Q (.panic c) a w := by exact (fun _ _ _ h => h)) (hw : Region.wanted oi (yielded ops a.tmps) = true := by rfl) (hy : ∀ w, (execOp a.eval oi).run P w = .ok (.value v) w := by (intro w'; go_simp; with_reducible rfl))
  (ha : a.put N v = a' := by (simp only [Act.put, psl, i64_w, i32_w]; rfl)) : wpAnyLast P md ops Q S ds (fuel + 1) l a w :=
 pure_ l' hi hN (any_of hT.out hc) hQ (Or.inl ⟨hw, hy⟩) ha h
theorem tkA (l' : Array Bool) (hT : Aside0 (rtab md ops = T)) (hB : Aside0 (waitsOk T.2 B = true)) (hS : S w) (h : wpAnyLast P md ops Q S ds fuel l' a' w) (hi : ops[i]? = some oi := by rfl) (hN : oi.dst = N := by rfl) (hc : takeW T B ds l.toList l'.toList i = true := by kernel_rfl)
  (hQ : ∀ c a w, Q (.panic c) (a.put oi.dst v) w → Q (.panic c) a w := by exact (fun _ _ _ h => h)) (hw : Region.wanted oi (yielded ops a.tmps) = true := by rfl) (hy : ∀ w, S w → (execOp a.eval oi).run P w = .ok (.value v) w := by (intro w' hs_; (try dsimp only at hs_); go_split_ands; go_simp; with_reducible rfl))
  (ha : a.put N v = a' := by (simp only [Act.put, psl, i64_w, i32_w]; rfl)) : wpAnyLast P md ops Q S ds (fuel + 1) l a w :=
 take_ l' hi hN (take_ofW hT.out hB.out hc) hQ (Or.inl ⟨hw, hy⟩) hS ha h
end
def T12_ : Bool × List (List Nat × List Nat) := (true, [([], []), ([0], [0]), ([1], [1]), ([2], [2]), ([2, 2], [2]), ([3, 4, 2], [2, 3, 4]), ([2, 5], [2, 5]), ([6, 4], [6]), ([7], [7]), ([8, 7], [7, 8]), ([7, 9], [7, 9]), ([10, 7], [10]), ([11], [11]), ([12, 11], [11, 12]), ([13, 11], [11, 13]), ([11, 14], [11, 14]), ([15, 11], [15]), ([16], [16]), ([17, 16], [16, 17]), ([18, 16], [16, 18]), ([16, 16], [16]), ([19, 20, 16], [16, 19, 20]), ([16, 21], [16, 21]), ([22, 20], [22]), ([23], [23]), ([24, 23], [23, 24]), ([23, 25], [23, 25]), ([26, 23], [26]), ([27], [27]), ([28, 27], [27, 28]), ([27, 29], [27, 29]), ([30, 27], [30]), ([31], [31]), ([32, 31], [31, 32]), ([31, 33], [31, 33]), ([34, 31], [34]), ([35], [35]), ([35], [35]), ([36, 37, 35], [35, 36, 37]), ([35, 38], [35, 38]), ([39, 35], [39]), ([40], [40]), ([41, 40], [40, 41]), ([40, 42], [40, 42]), ([43, 40], [43]), ([44], [44]), ([45, 44], [44, 45]), ([44, 46], [44, 46]), ([47, 44], [47]), ([48], [48]), ([49, 48], [48, 49]), ([48, 50], [48, 50]), ([51, 48], [51]), ([52], [52]), ([53, 52], [52, 53]), ([52, 54], [52, 54]), ([55, 52], [55]), ([56], [56]), ([57, 56], [56, 57]), ([56, 58], [56, 58]), ([59, 56], [59]), ([60], [60]), ([61, 60], [60, 61]), ([60, 62], [60, 62]), ([63, 60], [63]), ([64], [64]), ([65, 64], [64, 65]), ([64, 66], [64, 66]), ([67, 64], [67]), ([68], [68]), ([69, 68], [68, 69]), ([68, 70], [68, 70]), ([71, 68], [71]), ([72], [72]), ([73, 72], [72, 73]), ([74, 72], [72, 74]), ([75, 72], [72, 75]), ([72, 76], [72, 76]), ([77, 72], [77]), ([78], [78]), ([79, 78], [78, 79]), ([78, 80], [78, 80]), ([81, 78], [81]), ([82], [82]), ([82], [82]), ([83, 84, 82, 82], [82, 83, 84]), ([82, 85], [82, 85]), ([86, 85], [86]), ([87], [87]), ([88, 87], [87, 88]), ([87, 89], [87, 89]), ([90, 87], [90]), ([91], [91]), ([91, 91], [91]), ([92, 93, 91], [91, 92, 93]), ([91, 94], [91, 94]), ([95, 93], [95]), ([96], [96]), ([97, 96, 96], [96, 97]), ([98, 96], [96, 98]), ([96, 99], [96, 99]), ([100, 98], [100]), ([101], [101]), ([102, 101, 101], [101, 102]), ([103, 101], [101, 103]), ([101, 104], [101, 104]), ([105, 103], [105]), ([106], [106]), ([107, 106, 106], [106, 107]), ([106], [106]), ([108, 109, 106], [106, 108, 109]), ([106, 110], [106, 110]), ([111, 108], [111]), ([112], [112]), ([112], [112]), ([113, 114, 112, 112], [112, 113, 114]), ([112, 115], [112, 115]), ([116, 115], [116]), ([117], [117]), ([117], [117]), ([119, 117], [117, 119]), ([118, 120, 117, 117], [117, 118, 120]), ([121, 117], [117, 121]), ([117, 122], [117, 122]), ([123, 121], [123]), ([124], [124]), ([124], [124]), ([125, 126, 124, 124], [124, 125, 126]), ([124, 127], [124, 127]), ([128, 127], [128]), ([129], [129]), ([129], [129]), ([130, 131, 129, 129], [129, 130, 131]), ([129, 132], [129, 132]), ([133, 132], [133]), ([134], [134]), ([134], [134]), ([136, 134], [134, 136]), ([135, 137, 134, 134], [134, 135, 137]), ([138, 134], [134, 138]), ([134, 139], [134, 139]), ([140, 138, 0, 1, 2, 3, 4, 5, 6, 7, 8, 9, 10, 11, 12, 13, 14, 15, 16, 17, 18, 19, 20, 21, 22, 23, 24, 25, 26, 27, 28, 29, 30, 31, 32, 33, 34, 35, 36, 37, 38, 39, 40, 41, 42, 43, 44, 45, 46, 47, 48, 49, 50, 51, 52, 53, 54, 55, 56, 57, 58, 59, 60, 61, 62, 63, 64, 65, 66, 67, 68, 69, 70, 71, 72, 73, 74, 75, 76, 77, 78, 79, 80, 81, 82, 83, 84, 85, 86, 87, 88, 89, 90, 91, 92, 93, 94, 95, 96, 97, 98, 99, 100, 101, 102, 103, 104, 105, 106, 107, 108, 109, 110, 111, 112, 113, 114, 115, 116, 117, 118, 119, 120, 121, 122, 123, 124, 125, 126, 127, 128, 129, 130, 131, 132, 133, 134, 135, 136, 137, 138, 139, 140], [140])])
def B12_ : List Nat := [0, 1, 3, 7, 7, 31, 63, 127, 255, 511, 1023, 2047, 4095, 8191, 16383, 32767, 65535, 131071, 262143, 524287, 131071, 2097151, 4194303, 8388607, 16777215, 33554431, 67108863, 134217727, 268435455, 536870911, 1073741823, 2147483647, 4294967295, 8589934591, 17179869183, 34359738367, 68719476735, 68719476735, 274877906943, 549755813887, 1099511627775, 2199023255551, 4398046511103, 8796093022207, 17592186044415, 35184372088831, 70368744177663, 140737488355327, 281474976710655, 562949953421311, 1125899906842623, 2251799813685247, 4503599627370495, 9007199254740991, 18014398509481983, 36028797018963967, 72057594037927935, 144115188075855871, 288230376151711743, 576460752303423487, 1152921504606846975, 2305843009213693951, 4611686018427387903, 9223372036854775807, 18446744073709551615, 36893488147419103231, 73786976294838206463, 147573952589676412927, 295147905179352825855, 590295810358705651711, 1180591620717411303423, 2361183241434822606847, 4722366482869645213695, 9444732965739290427391, 18889465931478580854783, 37778931862957161709567, 75557863725914323419135, 151115727451828646838271, 302231454903657293676543, 604462909807314587353087, 1208925819614629174706175, 2417851639229258349412351, 4835703278458516698824703, 9671406556917033397649407, 9671406556917033397649407, 38685626227668133590597631, 77371252455336267181195263, 154742504910672534362390527, 309485009821345068724781055, 618970019642690137449562111, 1237940039285380274899124223, 2475880078570760549798248447, 4951760157141521099596496895, 4951760157141521099596496895, 19807040628566084398385987583, 39614081257132168796771975167, 79228162514264337593543950335, 158456325028528675187087900671, 316912650057057350374175801343, 633825300114114700748351602687, 1267650600228229401496703205375, 2535301200456458802993406410751, 5070602400912917605986812821503, 10141204801825835211973625643007, 20282409603651670423947251286015, 40564819207303340847894502572031, 81129638414606681695789005144063, 162259276829213363391578010288127, 324518553658426726783156020576255, 162259276829213363391578010288127, 1298074214633706907132624082305023, 2596148429267413814265248164610047, 5192296858534827628530496329220095, 10384593717069655257060992658440191, 10384593717069655257060992658440191, 41538374868278621028243970633760767, 83076749736557242056487941267521535, 166153499473114484112975882535043071, 332306998946228968225951765070086143, 332306998946228968225951765070086143, 996920996838686904677855295210258431, 2658455991569831745807614120560689151, 5316911983139663491615228241121378303, 10633823966279326983230456482242756607, 21267647932558653966460912964485513215, 42535295865117307932921825928971026431, 42535295865117307932921825928971026431, 170141183460469231731687303715884105727, 340282366920938463463374607431768211455, 680564733841876926926749214863536422911, 1361129467683753853853498429727072845823, 1361129467683753853853498429727072845823, 5444517870735015415413993718908291383295, 10889035741470030830827987437816582766591, 21778071482940061661655974875633165533183, 43556142965880123323311949751266331066367, 43556142965880123323311949751266331066367, 130668428897640369969935849253798993199103, 348449143727040986586495598010130648530943, 696898287454081973172991196020261297061887, 1393796574908163946345982392040522594123775, 2787593149816327892691964784081045188247551]
theorem tab12_ : rtab .any (opsOf Try.f11 12) = T12_ := by kernel_rfl
theorem bits12_ : waitsOk T12_.2 B12_ = true := by kernel_rfl
theorem l0cells {V : World} {g : Nat} (h : Kd.C k25 V (some ⟨g, 0, none⟩) 3 awL) : (V.cell? ⟨g, 0, none⟩ = some (.int .i64 0) ∧ V.cell? ⟨g, 1, none⟩ = some (.int .i64 0) ∧ V.cell? ⟨g, 2, none⟩ = some (.int .i64 0) ∧ V.cell? ⟨g, 3, none⟩ = some (.int .i64 4) ∧ V.cell? ⟨g, 4, none⟩ = some (.int .i64 4) ∧ V.cell? ⟨g, 5, none⟩ = some (.int .i64 2)) := by
 obtain ⟨ad, e, h⟩ := at_T25 h 0 (by decide) (by decide)
 cases e
 exact ⟨h.1, h.2.1, h.2.2.1, h.2.2.2.1, h.2.2.2.2.1, h.2.2.2.2.2⟩
theorem keepA {w W V : World} {g1 g2 g3 g5 g9 g18 g22 : Nat} (hS : St w g1 g2 g3 g5 W) (h9 : W.heap[g9]? = some (Obj.cells #[.int .i64 3, .int .i64 0, .int .i64 1] 23 (0, 0))) (h18 : W.heap[g18]? = some (Obj.cells #[.int .i64 1, .int .i64 0, .int .i64 0, .int .i64 5, .int .i64 4, .int .i64 4] 25 (0, 0))) (h22 : W.heap[g22]? = some (Obj.cells #[.int .i64 0, .int .i64 0, .int .i64 0, .int .i64 6, .int .i64 6, .int .i64 6] 25 (0, 0))) (hT : Below W.heap.size W V) : Below W.heap.size W V ∧ (V.cell? ⟨g1, 0, none⟩ = some (.int .i64 0) ∧ V.cell? ⟨g1, 1, none⟩ = some (.int .i64 0) ∧ V.cell? ⟨g1, 2, none⟩ = some (.int .i64 0) ∧ V.cell? ⟨g1, 3, none⟩ = some (.int .i64 4) ∧ V.cell? ⟨g1, 4, none⟩ = some (.int .i64 4) ∧ V.cell? ⟨g1, 5, none⟩ = some (.int .i64 4)) ∧ (V.cell? ⟨g2, 0, none⟩ = some (.int .i64 2) ∧ V.cell? ⟨g2, 1, none⟩ = some (.int .i64 2) ∧ V.cell? ⟨g2, 2, none⟩ = some (.int .i64 2) ∧ V.cell? ⟨g2, 3, none⟩ = some (.int .i64 6) ∧ V.cell? ⟨g2, 4, none⟩ = some (.int .i64 6) ∧ V.cell? ⟨g2, 5, none⟩ = some (.int .i64 6)) ∧ (V.cell? ⟨g3, 0, none⟩ = some (.int .i64 2) ∧ V.cell? ⟨g3, 1, none⟩ = some (.int .i64 2) ∧ V.cell? ⟨g3, 2, none⟩ = some (.int .i64 2) ∧ V.cell? ⟨g3, 3, none⟩ = some (.int .i64 4) ∧ V.cell? ⟨g3, 4, none⟩ = some (.int .i64 4) ∧ V.cell? ⟨g3, 5, none⟩ = some (.int .i64 4)) ∧ (V.cell? ⟨g5, 0, none⟩ = some (.int .i64 0) ∧ V.cell? ⟨g5, 1, none⟩ = some (.int .i64 0) ∧ V.cell? ⟨g5, 2, none⟩ = some (.int .i64 0) ∧ V.cell? ⟨g5, 3, none⟩ = some (.int .i64 4) ∧ V.cell? ⟨g5, 4, none⟩ = some (.int .i64 4) ∧ V.cell? ⟨g5, 5, none⟩ = some (.int .i64 2)) ∧ (V.cell? ⟨g9, 0, none⟩ = some (.int .i64 3) ∧ V.cell? ⟨g9, 1, none⟩ = some (.int .i64 0) ∧ V.cell? ⟨g9, 2, none⟩ = some (.int .i64 1)) ∧ (V.cell? ⟨g18, 3, none⟩ = some (.int .i64 5)) ∧ (V.cell? ⟨g22, 0, none⟩ = some (.int .i64 0) ∧ V.cell? ⟨g22, 1, none⟩ = some (.int .i64 0) ∧ V.cell? ⟨g22, 2, none⟩ = some (.int .i64 0) ∧ V.cell? ⟨g22, 3, none⟩ = some (.int .i64 6) ∧ V.cell? ⟨g22, 4, none⟩ = some (.int .i64 6) ∧ V.cell? ⟨g22, 5, none⟩ = some (.int .i64 6)) :=
 ⟨hT, RegInv.cells6 (bb hS.b1 hT), RegInv.cells6 (bb hS.b2 hT), RegInv.cells6 (bb hS.b3 hT), l0cells (Kd.C_below hS.l hT), ⟨(bc (bb h9 hT) 0).trans rfl, (bc (bb h9 hT) 1).trans rfl, (bc (bb h9 hT) 2).trans rfl⟩, (bc (bb h18 hT) 3).trans rfl, RegInv.cells6 (bb h22 hT)⟩
set_option maxHeartbeats 20000000 in
set_option maxRecDepth 100000 in
theorem w_awake.calls (r : Bool) (w : World) (h : w_awake.f = some r) : Calls Try.prog 11 #[] w fun e w' => e = .returned (.bool r) ∧ Below w.heap.size w w' := by
 obtain rfl := Option.some.inj h
 have hu25 := Try.underlying25
 have hu23 := Try.underlying23
 have HB := am (Below.refl w.heap.size w)
 go_enter Try.func11, Try.ntmps11
 clear h
 go_upto_region 2 with (first | (go_at_call 47; with_reducible refine (bo0 _).mono ?_; rintro e w2 ⟨rfl, hb⟩; replace HB := am (wt HB.out hb)) | (go_at_call 47; with_reducible refine (bo1 _).mono ?_; rintro e w2 ⟨rfl, hb⟩; replace HB := am (wt HB.out hb)) | ((with_reducible refine gate_dst (N := 1) rfl ?_); refine box_event ?hg (N := 1) ?hd (cs := #[.int .i64 0, .int .i64 0, .int .i64 0, .int .i64 0, .int .i64 0, .int .i64 0]) (t := 25) ?hr ?_; (case hd | hg => rfl); (case hr => first | (go_simp; done) | (go_simp; rfl)); intro g1 hg w3 hbox hb; have G1 := am ((by rw [hg]; exact below_size HB.out) : w.heap.size ≤ g1); clear hg; replace HB := am (wt HB.out hb); have B1 := am hbox; clear hb hbox; obtain ⟨p1_0, p1_1, p1_2, p1_3, p1_4, p1_5⟩ := RegInv.cells6 B1.out; obtain ⟨q1_0, q1_1, q1_2, q1_3, q1_4, q1_5⟩ := RegInv.free6 B1.out) | ((with_reducible refine gate_dst (N := 2) rfl ?_); refine box_event ?hg (N := 2) ?hd (cs := #[.int .i64 0, .int .i64 0, .int .i64 0, .int .i64 0, .int .i64 0, .int .i64 0]) (t := 25) ?hr ?_; (case hd | hg => rfl); (case hr => first | (go_simp; done) | (go_simp; rfl)); intro g2 hg w3 hbox hb; have G2 := am ((by rw [hg]; exact below_size HB.out) : w.heap.size ≤ g2); have n1_2 : g1 ≠ g2 := (by have := blk_lt B1.out; omega); have m1_2 : g2 ≠ g1 := (Ne.symm n1_2); clear hg; replace HB := am (wt HB.out hb); replace B1 := am (bb B1.out hb); have B2 := am hbox; clear hb hbox; obtain ⟨p1_0, p1_1, p1_2, p1_3, p1_4, p1_5⟩ := RegInv.cells6 B1.out; obtain ⟨q1_0, q1_1, q1_2, q1_3, q1_4, q1_5⟩ := RegInv.free6 B1.out; obtain ⟨p2_0, p2_1, p2_2, p2_3, p2_4, p2_5⟩ := RegInv.cells6 B2.out; obtain ⟨q2_0, q2_1, q2_2, q2_3, q2_4, q2_5⟩ := RegInv.free6 B2.out))
 clear p1_0 p1_1 p1_2 p1_3 p1_4 p1_5 p2_0 p2_1 p2_2 p2_3 p2_4 p2_5 q1_0 q1_1 q1_2 q1_3 q1_4 q1_5 q2_0 q2_1 q2_2 q2_3 q2_4 q2_5
 refine gen (fun V => V.heap[g1]? = some (Obj.cells #[.int .i64 0, .int .i64 0, .int .i64 0, .int .i64 4, .int .i64 4, .int .i64 4] 25 (0, 0)) ∧ V.heap[g2]? = some (Obj.cells #[.int .i64 2, .int .i64 2, .int .i64 2, .int .i64 6, .int .i64 6, .int .i64 6] 25 (0, 0)) ∧ Below w.heap.size w V) ⟨RegInv.set6_far (RegInv.set6_at B1.out) n1_2, RegInv.set6_at (RegInv.set6_far B2.out m1_2), RegInv.set6_below (RegInv.set6_below HB.out G1.out) G2.out⟩ ?_
 clear B1 B2 HB
 rintro W ⟨h1, h2, hb⟩
 have B1 := am h1
 have B2 := am h2
 have HB := am hb
 clear h1 h2 hb
 replace n1_2 := am n1_2
 clear m1_2
 obtain ⟨p1_0, p1_1, p1_2, p1_3, p1_4, p1_5⟩ := RegInv.cells6 B1.out
 obtain ⟨p2_0, p2_1, p2_2, p2_3, p2_4, p2_5⟩ := RegInv.cells6 B2.out
 go_upto_region 3 with (first | (go_at_call 25; with_reducible refine (aw25 _).mono ?_; rintro e w2 ⟨rfl, hb⟩; replace B1 := am (bb B1.out hb); replace B2 := am (bb B2.out hb); replace HB := am (wt HB.out hb); clear hb) | ((with_reducible refine gate_dst (N := 3) rfl ?_); refine box_event ?hg (N := 3) ?hd (cs := #[.int .i64 0, .int .i64 0, .int .i64 0, .int .i64 0, .int .i64 0, .int .i64 0]) (t := 25) ?hr ?_; (case hd | hg => rfl); (case hr => first | (go_simp; done) | (go_simp; rfl)); intro g3 hg w3 hbox hb; have G3 := am ((by rw [hg]; exact below_size HB.out) : w.heap.size ≤ g3); have n1_3 : g1 ≠ g3 := (by have := blk_lt B1.out; omega); have m1_3 : g3 ≠ g1 := (Ne.symm n1_3); have n2_3 : g2 ≠ g3 := (by have := blk_lt B2.out; omega); have m2_3 : g3 ≠ g2 := (Ne.symm n2_3); clear hg; replace HB := am (wt HB.out hb); replace B1 := am (bb B1.out hb); replace B2 := am (bb B2.out hb); have B3 := am hbox; clear hb hbox; obtain ⟨p1_0, p1_1, p1_2, p1_3, p1_4, p1_5⟩ := RegInv.cells6 B1.out; obtain ⟨q1_0, q1_1, q1_2, q1_3, q1_4, q1_5⟩ := RegInv.free6 B1.out; obtain ⟨p2_0, p2_1, p2_2, p2_3, p2_4, p2_5⟩ := RegInv.cells6 B2.out; obtain ⟨q2_0, q2_1, q2_2, q2_3, q2_4, q2_5⟩ := RegInv.free6 B2.out; obtain ⟨p3_0, p3_1, p3_2, p3_3, p3_4, p3_5⟩ := RegInv.cells6 B3.out; obtain ⟨q3_0, q3_1, q3_2, q3_3, q3_4, q3_5⟩ := RegInv.free6 B3.out))
 clear p1_0 p1_1 p1_2 p1_3 p1_4 p1_5 p2_0 p2_1 p2_2 p2_3 p2_4 p2_5 p3_0 p3_1 p3_2 p3_3 p3_4 p3_5 q3_0 q3_1 q3_2 q3_3 q3_4 q3_5
 refine gen (fun V => V.heap[g1]? = some (Obj.cells #[.int .i64 0, .int .i64 0, .int .i64 0, .int .i64 4, .int .i64 4, .int .i64 4] 25 (0, 0)) ∧ V.heap[g2]? = some (Obj.cells #[.int .i64 2, .int .i64 2, .int .i64 2, .int .i64 6, .int .i64 6, .int .i64 6] 25 (0, 0)) ∧ V.heap[g3]? = some (Obj.cells #[.int .i64 2, .int .i64 2, .int .i64 2, .int .i64 4, .int .i64 4, .int .i64 4] 25 (0, 0)) ∧ Below w.heap.size w V) ⟨RegInv.set6_far B1.out n1_3, RegInv.set6_far B2.out n2_3, RegInv.set6_at B3.out, RegInv.set6_below HB.out G3.out⟩ ?_
 clear B1 B2 B3 HB
 rintro W ⟨h1, h2, h3, hb⟩
 have B1 := am h1
 have B2 := am h2
 have B3 := am h3
 have HB := am hb
 clear h1 h2 h3 hb
 replace n1_3 := am n1_3
 replace n2_3 := am n2_3
 clear m1_3 m2_3
 obtain ⟨p1_0, p1_1, p1_2, p1_3, p1_4, p1_5⟩ := RegInv.cells6 B1.out
 obtain ⟨p2_0, p2_1, p2_2, p2_3, p2_4, p2_5⟩ := RegInv.cells6 B2.out
 go_upto_region 4 with ((go_at_call 35; with_reducible refine (aw35 _).mono ?_; rintro e w2 ⟨g5, c5, rfl, hc5, h5, hb⟩; replace B1 := am (bb B1.out hb); replace B2 := am (bb B2.out hb); replace B3 := am (bb B3.out hb); replace HB := am (wt HB.out hb); have L5 := am h5; have HC5 := am hc5; clear hb h5 hc5))
 clear p1_0 p1_1 p1_2 p1_3 p1_4 p1_5 p2_0 p2_1 p2_2 p2_3 p2_4 p2_5
 obtain ⟨p1_0, p1_1, p1_2, p1_3, p1_4, p1_5⟩ := RegInv.cells6 B1.out
 have hS := St.mk B1.out B2.out B3.out L5.out HB.out
 clear B1 B2 B3 L5 HB
 have hT := hS.drew
 go_region_held3 (fun w' => St w g1 g2 g3 g5 w' ∧ w'.cell? ⟨g1, 0, none⟩ = some (.int .i64 0) ∧ w'.cell? ⟨g1, 1, none⟩ = some (.int .i64 0) ∧ w'.cell? ⟨g1, 2, none⟩ = some (.int .i64 0) ∧ w'.cell? ⟨g1, 3, none⟩ = some (.int .i64 4) ∧ w'.cell? ⟨g1, 4, none⟩ = some (.int .i64 4) ∧ w'.cell? ⟨g1, 5, none⟩ = some (.int .i64 4)) (first | exact ⟨hT, p1_0, p1_1, p1_2, p1_3, p1_4, p1_5⟩ | exact ⟨hT, RegInv.cells6 hT.b1⟩ | exact keepS (wa (Below.refl _ _) _) hT | go_keep) (first | (go_at_call 47; with_reducible refine (bo2 _).mono ?_; rintro e w' ⟨rfl, hb⟩; replace hT := hT.below hb) | (go_at_call 18; with_reducible refine (aw18 _).mono ?_; rintro e w' ⟨rfl, hb⟩; replace hT := hT.below hb))
 go_upto_region 5 with (fail)
 refine gen (fun V => St w g1 g2 g3 g5 V) hT ?_
 clear hT hS
 intro W hS
 obtain ⟨p1_0, p1_1, p1_2, p1_3, p1_4, p1_5⟩ := RegInv.cells6 hS.b1
 have HS := am hS
 clear hS
 refine RegInv.region_inv (fun f a W' => ∃ s45 s46 s47 s48 s49 s44 s50 s51 s9 s10 : Value, a = { tmps := #[.bool false, .pointer (some ⟨g1, 0, none⟩), .pointer (some ⟨g2, 0, none⟩), .pointer (some ⟨g3, 0, none⟩), .int .i64 0, .slice (some ⟨g5, 0, none⟩) 3 c5, .int .i64 0, .int .i64 4, .int .i64 0, s9, s10, undef, undef, undef, undef, undef, undef, undef, undef, undef, undef, undef, undef, undef, .agg #[.int .i64 0, .int .i64 0, .int .i64 0, .int .i64 4, .int .i64 4, .int .i64 4], .agg #[.int .i64 2, .int .i64 2, .int .i64 2, .int .i64 6, .int .i64 6, .int .i64 6], .tuple #[.agg #[.int .i64 2, .int .i64 2, .int .i64 2, .int .i64 4, .int .i64 4, .int .i64 4], .int .i64 0], .agg #[.int .i64 0, .int .i64 0, .int .i64 0, .int .i64 4, .int .i64 4, .int .i64 4], .agg #[.int .i64 2, .int .i64 2, .int .i64 2, .int .i64 6, .int .i64 6, .int .i64 6], .tuple #[.agg #[.int .i64 2, .int .i64 2, .int .i64 2, .int .i64 4, .int .i64 4, .int .i64 4], .int .i64 0], .agg #[.int .i64 2, .int .i64 2, .int .i64 2, .int .i64 4, .int .i64 4, .int .i64 4], .int .i64 0, .tuple #[.slice (some ⟨g5, 0, none⟩) 3 c5, .int .i64 0], .agg #[.int .i64 0, .int .i64 0, .int .i64 0, .int .i64 4, .int .i64 4, .int .i64 4], .agg #[.int .i64 2, .int .i64 2, .int .i64 2, .int .i64 6, .int .i64 6, .int .i64 6], .tuple #[.slice (some ⟨g5, 0, none⟩) 3 c5, .int .i64 0], .slice (some ⟨g5, 0, none⟩) 3 c5, .int .i64 0, .tuple #[.int .i64 4, .int .i64 0], .agg #[.int .i64 0, .int .i64 0, .int .i64 0, .int .i64 4, .int .i64 4, .int .i64 4], .agg #[.int .i64 1, .int .i64 1, .int .i64 4, .int .i64 2, .int .i64 2, .int .i64 5], .tuple #[.int .i64 4, .int .i64 0], .int .i64 4, .int .i64 0, s44, s45, s46, s47, s48, s49, s50, s51, undef, undef, undef, undef, undef, undef, undef, undef, undef, undef, undef, undef, undef, undef, undef, undef, undef, undef, undef, undef, undef, undef, undef, undef, undef, undef, undef, undef, undef, undef, undef, undef, undef, undef, undef, undef, undef, undef, undef, undef, undef, undef, undef, undef, undef, undef, undef, undef, undef, undef, undef, undef, undef, undef, undef, undef, undef, undef, undef, undef, undef, undef, undef, undef, undef, undef, undef, undef, undef, undef, undef, undef, undef, undef, undef, undef, undef, undef, undef, undef, undef, undef, undef, undef, undef, undef, undef, undef, undef, undef, undef, undef, undef, undef, undef, undef, undef, undef, undef, undef, undef, undef, undef, undef, undef, undef, undef, undef, undef, undef, undef, undef, undef, undef, undef, undef, undef, undef, undef, undef, undef, undef, undef, undef, undef, undef, undef, undef, undef, undef, undef, undef, undef, undef, undef, undef, undef, undef, undef, undef, undef, undef, undef, undef, undef, undef, undef, undef, undef, undef, undef, undef, undef, undef, undef, undef, undef, undef, undef, undef, undef, undef, undef, undef, undef, undef, undef, undef, undef, undef, undef, undef, undef, undef, undef, undef, undef, undef, undef, undef, undef], defers := [] } ∧ (f 0 = true → s45 = .agg #[.int .i64 0, .int .i64 0, .int .i64 0, .int .i64 4, .int .i64 4, .int .i64 4]) ∧ (f 1 = true → s46 = .agg #[.int .i64 0, .int .i64 0, .int .i64 0, .int .i64 4, .int .i64 4, .int .i64 1]) ∧ (f 2 = true → s47 = .agg #[.int .i64 0, .int .i64 0, .int .i64 1, .int .i64 3, .int .i64 4, .int .i64 4]) ∧ (f 3 = true → ∃ g, s48 = .slice (some ⟨g, 0, none⟩) 2 2 ∧ W'.heap[g]? = some (Obj.cells #[.int .i64 0, .int .i64 0, .int .i64 0, .int .i64 4, .int .i64 4, .int .i64 1, .int .i64 0, .int .i64 0, .int .i64 1, .int .i64 3, .int .i64 4, .int .i64 4] 25 (0, 0))) ∧ (f 4 = true → s49 = .tuple #[.agg #[.int .i64 3, .int .i64 0, .int .i64 1], .int .i64 0]) ∧ (f 5 = true → s44 = .tuple #[.agg #[.int .i64 3, .int .i64 0, .int .i64 1], .int .i64 0]) ∧ (f 6 = true → s50 = .agg #[.int .i64 3, .int .i64 0, .int .i64 1]) ∧ (f 7 = true → s51 = .int .i64 0) ∧ (f 8 = true → ∃ g, s9 = .pointer (some ⟨g, 0, none⟩) ∧ W.heap.size ≤ g ∧ W'.heap[g]? = some (Obj.cells (if f 9 = true then #[.int .i64 3, .int .i64 0, .int .i64 1] else #[.int .i64 0, .int .i64 0, .int .i64 0]) 23 (0, 0))) ∧ (f 9 = true → f 8 = true) ∧ (f 10 = true → s10 = .int .i64 0) ∧ Below W.heap.size W W') (by kernel_rfl) (by kernel_rfl) ?h0 ?hstep ?hend
 case h0 => exact ⟨_, _, _, _, _, _, _, _, _, _, rfl, nofun, nofun, nofun, nofun, nofun, nofun, nofun, nofun, nofun, nofun, nofun, below_drew1 (Below.refl _ _)⟩
 case hstep =>
  intro i o ho f a W' hI hfi hdep K hK
  obtain ⟨s45, s46, s47, s48, s49, s44, s50, s51, s9, s10, rfl, h0, h1, h2, h3, h4, h5, h6, h7, h8, h9, h10, hb⟩ := hI
  have HK := am hK
  clear hK
  rcases i with _ | _ | _ | _ | _ | _ | _ | _ | _ | _ | _ | i
  all_goals (first | obtain rfl := Option.some.inj ho | skip)
  all_goals have A := am (And.intro h0 (And.intro h1 (And.intro h2 (And.intro h3 (And.intro h4 (And.intro h5 (And.intro h6 (And.intro h7 (And.intro h8 (And.intro h9 h10))))))))))
  all_goals clear h0 h1 h2 h3 h4 h5 h6 h7 h8 h9 h10
  ·obtain ⟨h0, h1, h2, h3, h4, h5, h6, h7, h8, h9, h10⟩ := A.out
   clear hdep h0 h1 h2 h3 h4 h5 h6 h7 h8 h9 h10
   obtain ⟨p0, p1, p2, p3, p4, p5⟩ := RegInv.cells6 (bb HS.out.b1 hb)
   go_wp2_with fail
   obtain ⟨h0, h1, h2, h3, h4, h5, h6, h7, h8, h9, h10⟩ := A.out
   exact HK.out _ _ ⟨_, _, _, _, _, _, _, _, _, _, rfl, (fun _ => rfl), h1, h2, h3, h4, h5, h6, h7, h8, h9, h10, hb⟩
  ·obtain ⟨h0, h1, h2, h3, h4, h5, h6, h7, h8, h9, h10⟩ := A.out
   clear hdep h0 h1 h2 h3 h4 h5 h6 h7 h8 h9 h10
   go_wp2_with (go_at_call 47; with_reducible refine (bo3 _).mono ?_; rintro e w2 ⟨rfl, hb2⟩; have HB2 := am hb2; clear hb2)
   obtain ⟨h0, h1, h2, h3, h4, h5, h6, h7, h8, h9, h10⟩ := A.out
   have hb2 := HB2.out
   exact HK.out _ _ ⟨_, _, _, _, _, _, _, _, _, _, rfl, h0, (fun _ => rfl), h2, (fun h => by obtain ⟨g', f1, f2⟩ := h3 h; exact ⟨g', f1, bb f2 hb2⟩), h4, h5, h6, h7, (fun h => by obtain ⟨g', f1, f2, f3⟩ := h8 h; exact ⟨g', f1, f2, bb f3 hb2⟩), h9, h10, wt hb hb2⟩
  ·obtain ⟨h0, h1, h2, h3, h4, h5, h6, h7, h8, h9, h10⟩ := A.out
   clear hdep h0 h1 h2 h3 h4 h5 h6 h7 h8 h9 h10
   go_wp2_with (go_at_call 47; with_reducible refine (bo4 _).mono ?_; rintro e w2 ⟨rfl, hb2⟩; have HB2 := am hb2; clear hb2)
   obtain ⟨h0, h1, h2, h3, h4, h5, h6, h7, h8, h9, h10⟩ := A.out
   have hb2 := HB2.out
   exact HK.out _ _ ⟨_, _, _, _, _, _, _, _, _, _, rfl, h0, h1, (fun _ => rfl), (fun h => by obtain ⟨g', f1, f2⟩ := h3 h; exact ⟨g', f1, bb f2 hb2⟩), h4, h5, h6, h7, (fun h => by obtain ⟨g', f1, f2, f3⟩ := h8 h; exact ⟨g', f1, f2, bb f3 hb2⟩), h9, h10, wt hb hb2⟩
  ·obtain ⟨h0, h1, h2, h3, h4, h5, h6, h7, h8, h9, h10⟩ := A.out
   obtain rfl := h1 (hdep { on := 1, ground := .data } (by simp) rfl)
   obtain rfl := h2 (hdep { on := 2, ground := .data } (by simp) rfl)
   clear hdep h0 h1 h2 h3 h4 h5 h6 h7 h8 h9 h10
   go_wp2_with fail
   obtain ⟨h0, h1, h2, h3, h4, h5, h6, h7, h8, h9, h10⟩ := A.out
   exact HK.out _ _ ⟨_, _, _, _, _, _, _, _, _, _, rfl, h0, (fun _ => rfl), (fun _ => rfl), (fun _ => ⟨_, rfl, blk_new W' _⟩), h4, h5, h6, h7, (fun h => by obtain ⟨g', f1, f2, f3⟩ := h8 h; exact ⟨g', f1, f2, blk_alloc f3 _⟩), h9, h10, wa hb _⟩
  ·obtain ⟨h0, h1, h2, h3, h4, h5, h6, h7, h8, h9, h10⟩ := A.out
   obtain rfl := h0 (hdep { on := 0, ground := .data } (by simp) rfl)
   obtain ⟨gs, rfl, b_⟩ := h3 (hdep { on := 3, ground := .data } (by simp) rfl)
   clear hdep h0 h1 h2 h3 h4 h5 h6 h7 h8 h9 h10
   go_wp2_with (go_at_call 12; with_reducible refine (aw12 _ _ _ (two_C (⟨⟨0, 0, 0⟩, ⟨4, 4, 1⟩⟩ : S25) (⟨⟨0, 0, 1⟩, ⟨3, 4, 4⟩⟩ : S25) b_) (Nat.le_refl _)).mono ?_; rintro e w2 ⟨rfl, hb2⟩; have HB2 := am hb2; clear hb2)
   obtain ⟨h0, h1, h2, h3, h4, h5, h6, h7, h8, h9, h10⟩ := A.out
   have hb2 := HB2.out
   exact HK.out _ _ ⟨_, _, _, _, _, _, _, _, _, _, rfl, (fun _ => rfl), h1, h2, (fun _ => ⟨gs, rfl, bb b_ hb2⟩), (fun _ => rfl), h5, h6, h7, (fun h => by obtain ⟨g', f1, f2, f3⟩ := h8 h; exact ⟨g', f1, f2, bb f3 hb2⟩), h9, h10, wt hb hb2⟩
  ·obtain ⟨h0, h1, h2, h3, h4, h5, h6, h7, h8, h9, h10⟩ := A.out
   obtain rfl := h4 (hdep { on := 4, ground := .data } (by simp) rfl)
   clear hdep h0 h1 h2 h3 h4 h5 h6 h7 h8 h9 h10
   go_wp2_with fail
   obtain ⟨h0, h1, h2, h3, h4, h5, h6, h7, h8, h9, h10⟩ := A.out
   exact HK.out _ _ ⟨_, _, _, _, _, _, _, _, _, _, rfl, h0, h1, h2, h3, (fun _ => rfl), (fun _ => rfl), h6, h7, h8, h9, h10, hb⟩
  ·obtain ⟨h0, h1, h2, h3, h4, h5, h6, h7, h8, h9, h10⟩ := A.out
   obtain rfl := h5 (hdep { on := 5, ground := .data } (by simp) rfl)
   clear hdep h0 h1 h2 h3 h4 h5 h6 h7 h8 h9 h10
   go_wp2_with fail
   obtain ⟨h0, h1, h2, h3, h4, h5, h6, h7, h8, h9, h10⟩ := A.out
   exact HK.out _ _ ⟨_, _, _, _, _, _, _, _, _, _, rfl, h0, h1, h2, h3, h4, (fun _ => rfl), (fun _ => rfl), h7, h8, h9, h10, hb⟩
  ·obtain ⟨h0, h1, h2, h3, h4, h5, h6, h7, h8, h9, h10⟩ := A.out
   obtain rfl := h5 (hdep { on := 5, ground := .data } (by simp) rfl)
   clear hdep h0 h1 h2 h3 h4 h5 h6 h7 h8 h9 h10
   go_wp2_with fail
   obtain ⟨h0, h1, h2, h3, h4, h5, h6, h7, h8, h9, h10⟩ := A.out
   exact HK.out _ _ ⟨_, _, _, _, _, _, _, _, _, _, rfl, h0, h1, h2, h3, h4, (fun _ => rfl), h6, (fun _ => rfl), h8, h9, h10, hb⟩
  ·obtain ⟨h0, h1, h2, h3, h4, h5, h6, h7, h8, h9, h10⟩ := A.out
   have hf : ¬ f 9 = true := fun h => by rw [h9 h] at hfi; cases hfi
   clear hdep h0 h1 h2 h3 h4 h5 h6 h7 h8 h9 h10
   have HF := am hf
   clear hf
   go_wp2_with fail
   obtain ⟨h0, h1, h2, h3, h4, h5, h6, h7, h8, h9, h10⟩ := A.out
   have hf := HF.out
   refine HK.out _ _ ⟨_, _, _, _, _, _, _, _, _, _, rfl, h0, h1, h2, (fun h => by obtain ⟨g', f1, f2⟩ := h3 h; exact ⟨g', f1, blk_alloc f2 _⟩), h4, h5, h6, h7, (fun _ => ⟨_, rfl, below_size hb, ?_⟩), (fun _ => rfl), h10, wa hb _⟩
   show (W'.alloc _).heap[_]? = some (Obj.cells (if f 9 = true then _ else _) 23 (0, 0))
   rw [if_neg hf]
   exact blk_new W' _
  ·obtain ⟨h0, h1, h2, h3, h4, h5, h6, h7, h8, h9, h10⟩ := A.out
   have d0 := (hdep { on := 8, ground := .data } (by simp) rfl)
   obtain ⟨g, rfl, e2, e3⟩ := h8 d0
   obtain rfl := h6 (hdep { on := 6, ground := .data } (by simp) rfl)
   rw [if_neg (by rw [hfi]; decide)] at e3
   clear hdep h0 h1 h2 h3 h4 h5 h6 h7 h8 h9 h10
   have D0 := am d0
   clear d0
   have p0 : W'.cell? ⟨g, 0, none⟩ = some (.int .i64 0) := (bc e3 0).trans rfl
   have p1 : W'.cell? ⟨g, 1, none⟩ = some (.int .i64 0) := (bc e3 1).trans rfl
   have p2 : W'.cell? ⟨g, 2, none⟩ = some (.int .i64 0) := (bc e3 2).trans rfl
   have q0 := blk_frozen e3 0
   have q1 := blk_frozen e3 1
   have q2 := blk_frozen e3 2
   go_wp2_with fail
   obtain ⟨h0, h1, h2, h3, h4, h5, h6, h7, h8, h9, h10⟩ := A.out
   exact HK.out _ _ ⟨_, _, _, _, _, _, _, _, _, _, rfl, h0, h1, h2, (fun h => by obtain ⟨g', f1, f2⟩ := h3 h; exact ⟨g', f1, blk_far (p := ⟨g, 2, none⟩) (blk_far (p := ⟨g, 1, none⟩) (blk_far (p := ⟨g, 0, none⟩) f2 (Ne.symm (blk_ne e3 f2 (by decide))) _) (Ne.symm (blk_ne e3 f2 (by decide))) _) (Ne.symm (blk_ne e3 f2 (by decide))) _⟩), h4, h5, (fun _ => rfl), h7, (fun _ => ⟨g, rfl, e2, blk_put (blk_put (blk_put e3 0 _ rfl) 1 _ rfl) 2 _ rfl⟩), (fun _ => D0.out), h10, below_set (below_set (below_set hb e2) e2) e2⟩
  ·obtain ⟨h0, h1, h2, h3, h4, h5, h6, h7, h8, h9, h10⟩ := A.out
   obtain rfl := h7 (hdep { on := 7, ground := .data } (by simp) rfl)
   clear hdep h0 h1 h2 h3 h4 h5 h6 h7 h8 h9 h10
   go_wp2_with fail
   obtain ⟨h0, h1, h2, h3, h4, h5, h6, h7, h8, h9, h10⟩ := A.out
   exact HK.out _ _ ⟨_, _, _, _, _, _, _, _, _, _, rfl, h0, h1, h2, h3, h4, h5, h6, (fun _ => rfl), h8, h9, (fun _ => rfl), hb⟩
  simp at ho
 case hend =>
  intro f a W' hI hall
  obtain ⟨s45, s46, s47, s48, s49, s44, s50, s51, s9, s10, rfl, h0, h1, h2, h3, h4, h5, h6, h7, h8, h9, h10, hb⟩ := hI
  obtain rfl := h0 (hall 0 (by decide))
  obtain rfl := h1 (hall 1 (by decide))
  obtain rfl := h2 (hall 2 (by decide))
  obtain ⟨gs, rfl, -⟩ := h3 (hall 3 (by decide))
  obtain rfl := h4 (hall 4 (by decide))
  obtain rfl := h5 (hall 5 (by decide))
  obtain rfl := h6 (hall 6 (by decide))
  obtain rfl := h7 (hall 7 (by decide))
  obtain ⟨g9, rfl, l9, b9⟩ := h8 (hall 8 (by decide))
  rw [if_pos (hall 9 (by decide))] at b9
  obtain rfl := h10 (hall 10 (by decide))
  clear h0 h1 h2 h3 h4 h5 h6 h7 h8 h9 h10 hall
  dsimp only
  have B9 := am b9
  have G9 := am l9
  have hS := HS.out.below hb
  clear b9 l9 hb HS
  go_upto_region 6 with (fail)
  obtain ⟨p1_0, p1_1, p1_2, p1_3, p1_4, p1_5⟩ := RegInv.cells6 hS.b1
  obtain ⟨p2_0, p2_1, p2_2, p2_3, p2_4, p2_5⟩ := RegInv.cells6 hS.b2
  have hT := below_drew1 (Below.refl W'.heap.size W')
  go_region_held3 (fun w' => Below W'.heap.size W' w' ∧ (w'.cell? ⟨g1, 0, none⟩ = some (.int .i64 0) ∧ w'.cell? ⟨g1, 1, none⟩ = some (.int .i64 0) ∧ w'.cell? ⟨g1, 2, none⟩ = some (.int .i64 0) ∧ w'.cell? ⟨g1, 3, none⟩ = some (.int .i64 4) ∧ w'.cell? ⟨g1, 4, none⟩ = some (.int .i64 4) ∧ w'.cell? ⟨g1, 5, none⟩ = some (.int .i64 4)) ∧ w'.cell? ⟨g2, 0, none⟩ = some (.int .i64 2) ∧ w'.cell? ⟨g2, 1, none⟩ = some (.int .i64 2) ∧ w'.cell? ⟨g2, 2, none⟩ = some (.int .i64 2) ∧ w'.cell? ⟨g2, 3, none⟩ = some (.int .i64 6) ∧ w'.cell? ⟨g2, 4, none⟩ = some (.int .i64 6) ∧ w'.cell? ⟨g2, 5, none⟩ = some (.int .i64 6)) (first | exact keepT hS.b1 hS.b2 hT | exact keepT hS.b1 hS.b2 (wa hT _) | go_keep) (first | (go_at_call 47; with_reducible refine (bo5 _).mono ?_; rintro e w' ⟨rfl, hb⟩; replace hT := wt hT hb) | (go_at_call 40; with_reducible refine (aw40 _ _ _ (lit3 _) (Nat.le_refl _)).mono ?_; rintro e w' ⟨rfl, hb⟩; replace hT := wt (wa hT _) hb))
  go_upto_region 7 with (fail)
  refine gen (fun V => St w g1 g2 g3 g5 V ∧ V.heap[g9]? = some (Obj.cells #[.int .i64 3, .int .i64 0, .int .i64 1] 23 (0, 0))) ⟨hS.below hT, bb B9.out hT⟩ ?_
  clear hS B9
  rintro W ⟨hS, h9⟩
  have B9 := am h9
  clear h9
  obtain ⟨p1_0, p1_1, p1_2, p1_3, p1_4, p1_5⟩ := RegInv.cells6 hS.b1
  go_upto_region 8 with ((go_at_call 16; with_reducible refine (aw16 _).mono ?_; rintro e w2 ⟨rfl, hb⟩; have hT := am (hb); clear hb))
  clear p1_0 p1_1 p1_2 p1_3 p1_4 p1_5
  refine gen (fun V => St w g1 g2 g3 g5 V ∧ V.heap[g9]? = some (Obj.cells #[.int .i64 3, .int .i64 0, .int .i64 1] 23 (0, 0))) ⟨hS.below hT.out, bb B9.out hT.out⟩ ?_
  clear hS B9
  rintro W ⟨hS, h9⟩
  have B9 := am h9
  clear h9
  obtain ⟨p1_0, p1_1, p1_2, p1_3, p1_4, p1_5⟩ := RegInv.cells6 hS.b1
  obtain ⟨p2_0, p2_1, p2_2, p2_3, p2_4, p2_5⟩ := RegInv.cells6 hS.b2
  go_upto_region 9 with ((go_at_call 41; with_reducible refine (aw41 _ _ _ (lit2b _) (Nat.le_refl _)).mono ?_; rintro e w2 ⟨rfl, hb⟩; have hT := am (wt (wa (Below.refl _ _) _) hb); clear hb))
  clear p1_0 p1_1 p1_2 p1_3 p1_4 p1_5 p2_0 p2_1 p2_2 p2_3 p2_4 p2_5
  refine gen (fun V => St w g1 g2 g3 g5 V ∧ V.heap[g9]? = some (Obj.cells #[.int .i64 3, .int .i64 0, .int .i64 1] 23 (0, 0))) ⟨hS.below hT.out, bb B9.out hT.out⟩ ?_
  clear hS B9
  rintro W ⟨hS, h9⟩
  have B9 := am h9
  clear h9
  obtain ⟨p1_0, p1_1, p1_2, p1_3, p1_4, p1_5⟩ := RegInv.cells6 hS.b1
  go_upto_region 10 with (first | (go_at_call 15; with_reducible refine (aw15 _).mono ?_; rintro e w2 ⟨rfl, hb⟩; have hT := am (hb); clear hb) | ((with_reducible refine gate_dst (N := 18) rfl ?_); refine box_event ?hg (N := 18) ?hd (cs := #[.int .i64 0, .int .i64 0, .int .i64 0, .int .i64 0, .int .i64 0, .int .i64 0]) (t := 25) ?hr ?_; (case hd | hg => rfl); (case hr => first | (go_simp; done) | (go_simp; rfl)); intro g18 hg w3 hbox hb; have G18 := am ((by rw [hg]; exact below_size hT.out) : W.heap.size ≤ g18); clear hg; replace hT := am (wt hT.out hb); have B18 := am hbox; clear hb hbox; obtain ⟨p18_0, p18_1, p18_2, p18_3, p18_4, p18_5⟩ := RegInv.cells6 B18.out; obtain ⟨q18_0, q18_1, q18_2, q18_3, q18_4, q18_5⟩ := RegInv.free6 B18.out))
  clear p1_0 p1_1 p1_2 p1_3 p1_4 p1_5 p18_0 p18_1 p18_2 p18_3 p18_4 p18_5 q18_0 q18_1 q18_2 q18_3 q18_4 q18_5
  have hU := RegInv.set6_below (a := .int .i64 1) (b := .int .i64 0) (c := .int .i64 0) (d := .int .i64 5) (e := .int .i64 4) (f := .int .i64 4) hT.out G18.out
  refine gen (fun V => St w g1 g2 g3 g5 V ∧ V.heap[g9]? = some (Obj.cells #[.int .i64 3, .int .i64 0, .int .i64 1] 23 (0, 0)) ∧ V.heap[g18]? = some (Obj.cells #[.int .i64 1, .int .i64 0, .int .i64 0, .int .i64 5, .int .i64 4, .int .i64 4] 25 (0, 0))) ⟨hS.below hU, bb B9.out hU, RegInv.set6_at B18.out⟩ ?_
  clear hS B9 B18
  rintro W ⟨hS, h9, h18⟩
  have B9 := am h9
  clear h9
  have B18 := am h18
  clear h18
  obtain ⟨p1_0, p1_1, p1_2, p1_3, p1_4, p1_5⟩ := RegInv.cells6 hS.b1
  obtain ⟨p2_0, p2_1, p2_2, p2_3, p2_4, p2_5⟩ := RegInv.cells6 hS.b2
  go_upto_region 11 with ((go_at_call 13; with_reducible refine (aw13 _ _ _ (lit1 _) (Nat.le_refl _)).mono ?_; rintro e w2 ⟨g20, c20, rfl, hc20, h20, hb⟩; have hT := am (wt (wa (Below.refl _ _) _) hb); have L20 := am h20; have HC20 := am hc20; clear hb h20 hc20))
  clear p1_0 p1_1 p1_2 p1_3 p1_4 p1_5 p2_0 p2_1 p2_2 p2_3 p2_4 p2_5
  refine gen (fun V => St w g1 g2 g3 g5 V ∧ V.heap[g9]? = some (Obj.cells #[.int .i64 3, .int .i64 0, .int .i64 1] 23 (0, 0)) ∧ V.heap[g18]? = some (Obj.cells #[.int .i64 1, .int .i64 0, .int .i64 0, .int .i64 5, .int .i64 4, .int .i64 4] 25 (0, 0)) ∧ Kd.C k25 V (some ⟨g20, 0, none⟩) 3 awL) ⟨hS.below hT.out, bb B9.out hT.out, bb B18.out hT.out, L20.out⟩ ?_
  clear hS B9 B18
  rintro W ⟨hS, h9, h18, hr20⟩
  have B9 := am h9
  clear h9
  have B18 := am h18
  clear h18
  have C20 := am hr20
  clear hr20 L20
  obtain ⟨p1_0, p1_1, p1_2, p1_3, p1_4, p1_5⟩ := RegInv.cells6 hS.b1
  obtain ⟨p2_0, p2_1, p2_2, p2_3, p2_4, p2_5⟩ := RegInv.cells6 hS.b2
  go_upto_region 12 with (first | (go_at_call 26; with_reducible refine (aw26 _).mono ?_; rintro e w2 ⟨rfl, hb⟩; have hT := am (hb); clear hb) | ((with_reducible refine gate_dst (N := 22) rfl ?_); refine box_event ?hg (N := 22) ?hd (cs := #[.int .i64 0, .int .i64 0, .int .i64 0, .int .i64 0, .int .i64 0, .int .i64 0]) (t := 25) ?hr ?_; (case hd | hg => rfl); (case hr => first | (go_simp; done) | (go_simp; rfl)); intro g22 hg w3 hbox hb; have G22 := am ((by rw [hg]; exact below_size hT.out) : W.heap.size ≤ g22); clear hg; replace hT := am (wt hT.out hb); have B22 := am hbox; clear hb hbox; obtain ⟨p22_0, p22_1, p22_2, p22_3, p22_4, p22_5⟩ := RegInv.cells6 B22.out; obtain ⟨q22_0, q22_1, q22_2, q22_3, q22_4, q22_5⟩ := RegInv.free6 B22.out))
  clear p1_0 p1_1 p1_2 p1_3 p1_4 p1_5 p2_0 p2_1 p2_2 p2_3 p2_4 p2_5 p22_0 p22_1 p22_2 p22_3 p22_4 p22_5 q22_0 q22_1 q22_2 q22_3 q22_4 q22_5
  have hU := RegInv.set6_below (a := .int .i64 0) (b := .int .i64 0) (c := .int .i64 0) (d := .int .i64 6) (e := .int .i64 6) (f := .int .i64 6) hT.out G22.out
  refine gen (fun V => St w g1 g2 g3 g5 V ∧ V.heap[g9]? = some (Obj.cells #[.int .i64 3, .int .i64 0, .int .i64 1] 23 (0, 0)) ∧ V.heap[g18]? = some (Obj.cells #[.int .i64 1, .int .i64 0, .int .i64 0, .int .i64 5, .int .i64 4, .int .i64 4] 25 (0, 0)) ∧ V.heap[g22]? = some (Obj.cells #[.int .i64 0, .int .i64 0, .int .i64 0, .int .i64 6, .int .i64 6, .int .i64 6] 25 (0, 0)) ∧ Kd.C k25 V (some ⟨g20, 0, none⟩) 3 awL) ⟨hS.below hU, bb B9.out hU, bb B18.out hU, RegInv.set6_at B22.out, Kd.C_below C20.out hU⟩ ?_
  clear hS B9 B18 B22 C20
  rintro W ⟨hS, h9, h18, h22, hr20⟩
  have B9 := am h9
  clear h9
  have B18 := am h18
  clear h18
  have B22 := am h22
  clear h22
  have C20 := am hr20
  clear hr20
  have hT := below_drew1 (Below.refl W.heap.size W)
  refine start_ (n := 142) (S := (fun w' => Below W.heap.size W w' ∧ (w'.cell? ⟨g1, 0, none⟩ = some (.int .i64 0) ∧ w'.cell? ⟨g1, 1, none⟩ = some (.int .i64 0) ∧ w'.cell? ⟨g1, 2, none⟩ = some (.int .i64 0) ∧ w'.cell? ⟨g1, 3, none⟩ = some (.int .i64 4) ∧ w'.cell? ⟨g1, 4, none⟩ = some (.int .i64 4) ∧ w'.cell? ⟨g1, 5, none⟩ = some (.int .i64 4)) ∧ (w'.cell? ⟨g2, 0, none⟩ = some (.int .i64 2) ∧ w'.cell? ⟨g2, 1, none⟩ = some (.int .i64 2) ∧ w'.cell? ⟨g2, 2, none⟩ = some (.int .i64 2) ∧ w'.cell? ⟨g2, 3, none⟩ = some (.int .i64 6) ∧ w'.cell? ⟨g2, 4, none⟩ = some (.int .i64 6) ∧ w'.cell? ⟨g2, 5, none⟩ = some (.int .i64 6)) ∧ (w'.cell? ⟨g3, 0, none⟩ = some (.int .i64 2) ∧ w'.cell? ⟨g3, 1, none⟩ = some (.int .i64 2) ∧ w'.cell? ⟨g3, 2, none⟩ = some (.int .i64 2) ∧ w'.cell? ⟨g3, 3, none⟩ = some (.int .i64 4) ∧ w'.cell? ⟨g3, 4, none⟩ = some (.int .i64 4) ∧ w'.cell? ⟨g3, 5, none⟩ = some (.int .i64 4)) ∧ (w'.cell? ⟨g5, 0, none⟩ = some (.int .i64 0) ∧ w'.cell? ⟨g5, 1, none⟩ = some (.int .i64 0) ∧ w'.cell? ⟨g5, 2, none⟩ = some (.int .i64 0) ∧ w'.cell? ⟨g5, 3, none⟩ = some (.int .i64 4) ∧ w'.cell? ⟨g5, 4, none⟩ = some (.int .i64 4) ∧ w'.cell? ⟨g5, 5, none⟩ = some (.int .i64 2)) ∧ (w'.cell? ⟨g9, 0, none⟩ = some (.int .i64 3) ∧ w'.cell? ⟨g9, 1, none⟩ = some (.int .i64 0) ∧ w'.cell? ⟨g9, 2, none⟩ = some (.int .i64 1)) ∧ (w'.cell? ⟨g18, 3, none⟩ = some (.int .i64 5)) ∧ (w'.cell? ⟨g22, 0, none⟩ = some (.int .i64 0) ∧ w'.cell? ⟨g22, 1, none⟩ = some (.int .i64 0) ∧ w'.cell? ⟨g22, 2, none⟩ = some (.int .i64 0) ∧ w'.cell? ⟨g22, 3, none⟩ = some (.int .i64 6) ∧ w'.cell? ⟨g22, 4, none⟩ = some (.int .i64 6) ∧ w'.cell? ⟨g22, 5, none⟩ = some (.int .i64 6)))) (ds := []) (flA 142 0 []) (by kernel_rfl) rfl (by kernel_rfl) (keepA hS B9.out B18.out B22.out hT) (fun hHeld => ?_)
  refine with_tabW tab12_ bits12_ (fun HT_ HW_ => ?_)
  generalize W.drew = V at hT hHeld ⊢
  refine puA (i := 0) (N := some 92) (flA 142 1 []) HT_ ?_
  refine puA (i := 1) (N := some 93) (flA 142 2 []) HT_ ?_
  refine puA (i := 2) (N := some 94) (flA 142 3 []) HT_ ?_
  refine tkA (i := 3) (N := some 95) (flA 142 4 []) HT_ HW_ hHeld ?_
  refine one_ (i := 4) (N := some 96) (flA 142 5 []) rfl rfl (one_of HT_.out (by kernel_rfl)) (by decide) (fun K hK => ?_)
  refine goes_ Try.func47 (by kernel_rfl) rfl #[.int .i64 2, .int .i64 2, .int .i64 2, .int .i64 4, .int .i64 4, .int .i64 4] (by rfl) rfl rfl (by (try simp only [pml]); first | done | rfl) ?_
  with_reducible refine (bo6 _).mono ?_
  rintro e w' ⟨rfl, hb⟩
  replace hT := wt hT hb
  clear hb
  refine ⟨_, rfl, ?_⟩
  refine hK.out _ _ (keepA hS B9.out B18.out B22.out hT) (fun hHeld => ?_)
  clear hK K
  refine norm_ (a' := ?_) ?_ ?_
  rotate_left
  ·show Act.put _ (some 96) _ = _
   simp only [Act.put, psl, i64_w, i32_w]
   rfl
  refine puA (i := 5) (N := some 97) (flA 142 6 []) HT_ ?_
  refine puA (i := 6) (N := some 98) (flA 142 7 []) HT_ ?_
  refine puA (i := 7) (N := some 99) (flA 142 8 []) HT_ ?_
  refine puA (i := 8) (N := some 100) (flA 142 9 []) HT_ ?_
  refine puA (i := 9) (N := some 101) (flA 142 10 []) HT_ ?_
  refine puA (i := 10) (N := some 102) (flA 142 11 []) HT_ ?_
  refine puA (i := 11) (N := some 103) (flA 142 12 []) HT_ ?_
  refine puA (i := 12) (N := some 104) (flA 142 13 []) HT_ ?_
  refine puA (i := 13) (N := some 105) (flA 142 14 []) HT_ ?_
  refine puA (i := 14) (N := some 106) (flA 142 15 []) HT_ ?_
  refine puA (i := 15) (N := some 107) (flA 142 16 []) HT_ ?_
  refine puA (i := 16) (N := some 108) (flA 142 17 []) HT_ ?_
  refine puA (i := 17) (N := some 109) (flA 142 18 []) HT_ ?_
  refine puA (i := 18) (N := some 110) (flA 142 19 []) HT_ ?_
  refine tkA (i := 19) (N := some 111) (flA 142 20 []) HT_ HW_ hHeld ?_
  refine one_ (i := 20) (N := some 112) (flA 142 21 []) rfl rfl (one_of HT_.out (by kernel_rfl)) (by decide) (fun K hK => ?_)
  refine goes_ Try.func47 (by kernel_rfl) rfl #[.int .i64 0, .int .i64 0, .int .i64 0, .int .i64 4, .int .i64 4, .int .i64 2] (by rfl) rfl rfl (by (try simp only [pml]); first | done | rfl) ?_
  with_reducible refine (bo7 _).mono ?_
  rintro e w' ⟨rfl, hb⟩
  replace hT := wt hT hb
  clear hb
  refine ⟨_, rfl, ?_⟩
  refine hK.out _ _ (keepA hS B9.out B18.out B22.out hT) (fun hHeld => ?_)
  clear hK K
  refine norm_ (a' := ?_) ?_ ?_
  rotate_left
  ·show Act.put _ (some 112) _ = _
   simp only [Act.put, psl, i64_w, i32_w]
   rfl
  refine puA (i := 21) (N := some 113) (flA 142 22 []) HT_ ?_
  refine puA (i := 22) (N := some 114) (flA 142 23 []) HT_ ?_
  refine puA (i := 23) (N := some 115) (flA 142 24 []) HT_ ?_
  refine puA (i := 24) (N := some 116) (flA 142 25 []) HT_ ?_
  refine puA (i := 25) (N := some 117) (flA 142 26 []) HT_ ?_
  refine puA (i := 26) (N := some 118) (flA 142 27 []) HT_ ?_
  refine puA (i := 27) (N := some 119) (flA 142 28 []) HT_ ?_
  refine puA (i := 28) (N := some 120) (flA 142 29 []) HT_ ?_
  refine puA (i := 29) (N := some 121) (flA 142 30 []) HT_ ?_
  refine puA (i := 30) (N := some 122) (flA 142 31 []) HT_ ?_
  refine puA (i := 31) (N := some 123) (flA 142 32 []) HT_ ?_
  refine puA (i := 32) (N := some 124) (flA 142 33 []) HT_ ?_
  refine puA (i := 33) (N := some 125) (flA 142 34 []) HT_ ?_
  refine puA (i := 34) (N := some 126) (flA 142 35 []) HT_ ?_
  refine puA (i := 35) (N := some 127) (flA 142 36 []) HT_ ?_
  refine puA (i := 37) (N := some 129) (flA 142 36 [37]) HT_ ?_
  refine tkA (i := 36) (N := some 128) (flA 142 38 []) HT_ HW_ hHeld ?_
  refine puA (i := 38) (N := some 130) (flA 142 39 []) HT_ ?_
  refine puA (i := 39) (N := some 131) (flA 142 40 []) HT_ ?_
  refine puA (i := 40) (N := some 132) (flA 142 41 []) HT_ ?_
  refine puA (i := 41) (N := some 133) (flA 142 42 []) HT_ ?_
  refine puA (i := 42) (N := some 134) (flA 142 43 []) HT_ ?_
  refine puA (i := 43) (N := some 135) (flA 142 44 []) HT_ ?_
  refine puA (i := 44) (N := some 136) (flA 142 45 []) HT_ ?_
  refine puA (i := 45) (N := some 137) (flA 142 46 []) HT_ ?_
  refine puA (i := 46) (N := some 138) (flA 142 47 []) HT_ ?_
  refine puA (i := 47) (N := some 139) (flA 142 48 []) HT_ ?_
  refine puA (i := 48) (N := some 140) (flA 142 49 []) HT_ ?_
  refine puA (i := 49) (N := some 141) (flA 142 50 []) HT_ ?_
  refine puA (i := 50) (N := some 142) (flA 142 51 []) HT_ ?_
  refine puA (i := 51) (N := some 143) (flA 142 52 []) HT_ ?_
  refine puA (i := 52) (N := some 144) (flA 142 53 []) HT_ ?_
  refine puA (i := 53) (N := some 145) (flA 142 54 []) HT_ ?_
  refine puA (i := 54) (N := some 146) (flA 142 55 []) HT_ ?_
  refine puA (i := 55) (N := some 147) (flA 142 56 []) HT_ ?_
  refine puA (i := 56) (N := some 148) (flA 142 57 []) HT_ ?_
  refine puA (i := 57) (N := some 149) (flA 142 58 []) HT_ ?_
  refine puA (i := 58) (N := some 150) (flA 142 59 []) HT_ ?_
  refine puA (i := 59) (N := some 151) (flA 142 60 []) HT_ ?_
  refine puA (i := 60) (N := some 152) (flA 142 61 []) HT_ ?_
  refine puA (i := 61) (N := some 153) (flA 142 62 []) HT_ ?_
  refine puA (i := 62) (N := some 154) (flA 142 63 []) HT_ ?_
  refine puA (i := 63) (N := some 155) (flA 142 64 []) HT_ ?_
  refine puA (i := 64) (N := some 156) (flA 142 65 []) HT_ ?_
  refine puA (i := 65) (N := some 157) (flA 142 66 []) HT_ ?_
  refine puA (i := 66) (N := some 158) (flA 142 67 []) HT_ ?_
  refine puA (i := 67) (N := some 159) (flA 142 68 []) HT_ ?_
  refine puA (i := 68) (N := some 160) (flA 142 69 []) HT_ ?_
  refine puA (i := 69) (N := some 161) (flA 142 70 []) HT_ ?_
  refine puA (i := 70) (N := some 162) (flA 142 71 []) HT_ ?_
  refine puA (i := 71) (N := some 163) (flA 142 72 []) HT_ ?_
  refine puA (i := 72) (N := some 164) (flA 142 73 []) HT_ ?_
  refine puA (i := 73) (N := some 165) (flA 142 74 []) HT_ ?_
  refine puA (i := 74) (N := some 166) (flA 142 75 []) HT_ ?_
  refine tkA (i := 75) (N := some 167) (flA 142 76 []) HT_ HW_ hHeld ?_
  refine puA (i := 76) (N := some 168) (flA 142 77 []) HT_ ?_
  refine puA (i := 77) (N := some 169) (flA 142 78 []) HT_ ?_
  refine puA (i := 78) (N := some 170) (flA 142 79 []) HT_ ?_
  refine puA (i := 79) (N := some 171) (flA 142 80 []) HT_ ?_
  refine puA (i := 80) (N := some 172) (flA 142 81 []) HT_ ?_
  refine puA (i := 81) (N := some 173) (flA 142 82 []) HT_ ?_
  refine puA (i := 82) (N := some 174) (flA 142 83 []) HT_ ?_
  refine puA (i := 83) (N := some 175) (flA 142 84 []) HT_ ?_
  refine puA (i := 84) (N := some 176) (flA 142 85 []) HT_ ?_
  refine one_ (i := 85) (N := some 177) (flA 142 86 []) rfl rfl (one_of HT_.out (by kernel_rfl)) (by decide) (fun K hK => ?_)
  refine goes_ Try.func36 (by kernel_rfl) rfl #[.slice (some ⟨g20, 0, none⟩) 3 c20, .slice (some ⟨g5, 0, none⟩) 3 c5] (by rfl) rfl rfl (by (try simp only [pml]); first | done | rfl) ?_
  with_reducible refine (aw36 _ _ _ _ _ (Kd.C_below C20.out hT) HC20.out (Kd.C_below hS.l hT) HC5.out).mono ?_
  rintro e w' ⟨rfl, ⟨nd, rfl⟩⟩
  replace hT := pw_below_drewN hT nd
  refine ⟨_, rfl, ?_⟩
  refine hK.out _ _ (keepA hS B9.out B18.out B22.out hT) (fun hHeld => ?_)
  clear hK K
  refine norm_ (a' := ?_) ?_ ?_
  rotate_left
  ·show Act.put _ (some 177) _ = _
   simp only [Act.put, psl, i64_w, i32_w]
   rfl
  refine puA (i := 86) (N := some 178) (flA 142 87 []) HT_ ?_
  refine puA (i := 87) (N := some 179) (flA 142 88 []) HT_ ?_
  refine puA (i := 88) (N := some 180) (flA 142 89 []) HT_ ?_
  refine puA (i := 89) (N := some 181) (flA 142 90 []) HT_ ?_
  refine puA (i := 90) (N := some 182) (flA 142 91 []) HT_ ?_
  refine puA (i := 91) (N := some 183) (flA 142 92 []) HT_ ?_
  refine tkA (i := 92) (N := some 184) (flA 142 93 []) HT_ HW_ hHeld ?_
  refine one_ (i := 93) (N := some 185) (flA 142 94 []) rfl rfl (one_of HT_.out (by kernel_rfl)) (by decide) (fun K hK => ?_)
  refine goes_ Try.func47 (by kernel_rfl) rfl #[.int .i64 0, .int .i64 0, .int .i64 0, .int .i64 6, .int .i64 6, .int .i64 6] (by rfl) rfl rfl (by (try simp only [pml]); first | done | rfl) ?_
  with_reducible refine (bo8 _).mono ?_
  rintro e w' ⟨rfl, hb⟩
  replace hT := wt hT hb
  clear hb
  refine ⟨_, rfl, ?_⟩
  refine hK.out _ _ (keepA hS B9.out B18.out B22.out hT) (fun hHeld => ?_)
  clear hK K
  refine norm_ (a' := ?_) ?_ ?_
  rotate_left
  ·show Act.put _ (some 185) _ = _
   simp only [Act.put, psl, i64_w, i32_w]
   rfl
  refine puA (i := 94) (N := some 186) (flA 142 95 []) HT_ ?_
  refine puA (i := 95) (N := some 187) (flA 142 96 []) HT_ ?_
  refine puA (i := 96) (N := some 188) (flA 142 97 []) HT_ ?_
  refine puA (i := 97) (N := some 189) (flA 142 98 []) HT_ ?_
  refine one_ (i := 98) (N := some 190) (flA 142 99 []) rfl rfl (one_of HT_.out (by kernel_rfl)) (by decide) (fun K hK => ?_)
  refine goes_ Try.func20 (by kernel_rfl) rfl #[.agg #[.int .i64 0, .int .i64 0, .int .i64 0, .int .i64 0, .int .i64 0, .int .i64 0]] (by rfl) rfl rfl (by (try simp only [pml]); first | done | rfl) ?_
  with_reducible refine (aw20a _).mono ?_
  rintro e w' ⟨rfl, hb⟩
  replace hT := wt hT hb
  clear hb
  refine ⟨_, rfl, ?_⟩
  refine hK.out _ _ (keepA hS B9.out B18.out B22.out hT) (fun hHeld => ?_)
  clear hK K
  refine norm_ (a' := ?_) ?_ ?_
  rotate_left
  ·show Act.put _ (some 190) _ = _
   simp only [Act.put, psl, i64_w, i32_w]
   rfl
  refine puA (i := 99) (N := some 191) (flA 142 100 []) HT_ ?_
  refine puA (i := 100) (N := some 192) (flA 142 101 []) HT_ ?_
  refine puA (i := 101) (N := some 193) (flA 142 102 []) HT_ ?_
  refine tkA (i := 102) (N := some 194) (flA 142 103 []) HT_ HW_ hHeld ?_
  refine one_ (i := 103) (N := some 195) (flA 142 104 []) rfl rfl (one_of HT_.out (by kernel_rfl)) (by decide) (fun K hK => ?_)
  refine goes_ Try.func20 (by kernel_rfl) rfl #[.agg #[.int .i64 0, .int .i64 0, .int .i64 0, .int .i64 4, .int .i64 4, .int .i64 4]] (by rfl) rfl rfl (by (try simp only [pml]); first | done | rfl) ?_
  with_reducible refine (aw20b _).mono ?_
  rintro e w' ⟨rfl, hb⟩
  replace hT := wt hT hb
  clear hb
  refine ⟨_, rfl, ?_⟩
  refine hK.out _ _ (keepA hS B9.out B18.out B22.out hT) (fun hHeld => ?_)
  clear hK K
  refine norm_ (a' := ?_) ?_ ?_
  rotate_left
  ·show Act.put _ (some 195) _ = _
   simp only [Act.put, psl, i64_w, i32_w]
   rfl
  refine puA (i := 104) (N := some 196) (flA 142 105 []) HT_ ?_
  refine puA (i := 105) (N := some 197) (flA 142 106 []) HT_ ?_
  refine puA (i := 106) (N := some 198) (flA 142 107 []) HT_ ?_
  refine puA (i := 109) (N := some 201) (flA 142 107 [109]) HT_ ?_
  refine tkA (i := 107) (N := some 199) (flA 142 108 [109]) HT_ HW_ hHeld ?_
  refine one_ (i := 108) (N := some 200) (flA 142 110 []) rfl rfl (one_of HT_.out (by kernel_rfl)) (by decide) (fun K hK => ?_)
  refine goes_ Try.func21 (by kernel_rfl) rfl #[.agg #[.int .i64 0, .int .i64 0, .int .i64 0, .int .i64 4, .int .i64 4, .int .i64 4]] (by rfl) rfl rfl (by (try simp only [pml]); first | done | rfl) ?_
  with_reducible refine (aw21 _).mono ?_
  rintro e w' ⟨rfl, hb⟩
  replace hT := wt hT hb
  clear hb
  refine ⟨_, rfl, ?_⟩
  refine hK.out _ _ (keepA hS B9.out B18.out B22.out hT) (fun hHeld => ?_)
  clear hK K
  refine norm_ (a' := ?_) ?_ ?_
  rotate_left
  ·show Act.put _ (some 200) _ = _
   simp only [Act.put, psl, i64_w, i32_w]
   rfl
  refine puA (i := 110) (N := some 202) (flA 142 111 []) HT_ ?_
  refine puA (i := 111) (N := some 203) (flA 142 112 []) HT_ ?_
  refine puA (i := 112) (N := some 204) (flA 142 113 []) HT_ ?_
  refine puA (i := 114) (N := some 206) (flA 142 113 [114]) HT_ ?_
  refine tkA (i := 113) (N := some 205) (flA 142 115 []) HT_ HW_ hHeld ?_
  refine one_ (i := 115) (N := some 207) (flA 142 116 []) rfl rfl (one_of HT_.out (by kernel_rfl)) (by decide) (fun K hK => ?_)
  refine goes_ Try.func14 (by kernel_rfl) rfl #[.agg #[.int .i64 0, .int .i64 0, .int .i64 0, .int .i64 4, .int .i64 4, .int .i64 4], .agg #[.int .i64 0, .int .i64 0, .int .i64 0]] (by rfl) rfl rfl (by (try simp only [pml]); first | done | rfl) ?_
  with_reducible refine (aw14a _).mono ?_
  rintro e w' ⟨rfl, hb⟩
  replace hT := wt hT hb
  clear hb
  refine ⟨_, rfl, ?_⟩
  refine hK.out _ _ (keepA hS B9.out B18.out B22.out hT) (fun hHeld => ?_)
  clear hK K
  refine norm_ (a' := ?_) ?_ ?_
  rotate_left
  ·show Act.put _ (some 207) _ = _
   simp only [Act.put, psl, i64_w, i32_w]
   rfl
  refine puA (i := 116) (N := some 208) (flA 142 117 []) HT_ ?_
  refine puA (i := 117) (N := some 209) (flA 142 118 []) HT_ ?_
  refine puA (i := 119) (N := some 211) (flA 142 118 [119]) HT_ ?_
  refine tkA (i := 118) (N := some 210) (flA 142 120 []) HT_ HW_ hHeld ?_
  refine tkA (i := 120) (N := some 212) (flA 142 121 []) HT_ HW_ hHeld ?_
  refine one_ (i := 121) (N := some 213) (flA 142 122 []) rfl rfl (one_of HT_.out (by kernel_rfl)) (by decide) (fun K hK => ?_)
  refine goes_ Try.func14 (by kernel_rfl) rfl #[.agg #[.int .i64 0, .int .i64 0, .int .i64 0, .int .i64 4, .int .i64 4, .int .i64 4], .agg #[.int .i64 4, .int .i64 4, .int .i64 4]] (by rfl) rfl rfl (by (try simp only [pml]); first | done | rfl) ?_
  with_reducible refine (aw14b _).mono ?_
  rintro e w' ⟨rfl, hb⟩
  replace hT := wt hT hb
  clear hb
  refine ⟨_, rfl, ?_⟩
  refine hK.out _ _ (keepA hS B9.out B18.out B22.out hT) (fun hHeld => ?_)
  clear hK K
  refine norm_ (a' := ?_) ?_ ?_
  rotate_left
  ·show Act.put _ (some 213) _ = _
   simp only [Act.put, psl, i64_w, i32_w]
   rfl
  refine puA (i := 122) (N := some 214) (flA 142 123 []) HT_ ?_
  refine puA (i := 123) (N := some 215) (flA 142 124 []) HT_ ?_
  refine puA (i := 124) (N := some 216) (flA 142 125 []) HT_ ?_
  refine tkA (i := 125) (N := some 217) (flA 142 126 []) HT_ HW_ hHeld ?_
  refine tkA (i := 126) (N := some 218) (flA 142 127 []) HT_ HW_ hHeld ?_
  refine one_ (i := 127) (N := some 219) (flA 142 128 []) rfl rfl (one_of HT_.out (by kernel_rfl)) (by decide) (fun K hK => ?_)
  refine goes_ Try.func31 (by kernel_rfl) rfl #[.agg #[.int .i64 2, .int .i64 2, .int .i64 2, .int .i64 4, .int .i64 4, .int .i64 4], .agg #[.int .i64 0, .int .i64 0, .int .i64 0, .int .i64 4, .int .i64 4, .int .i64 4]] (by rfl) rfl rfl (by (try simp only [pml]); first | done | rfl) ?_
  with_reducible refine (aw31 _).mono ?_
  rintro e w' ⟨rfl, hb⟩
  replace hT := wt hT hb
  clear hb
  refine ⟨_, rfl, ?_⟩
  refine hK.out _ _ (keepA hS B9.out B18.out B22.out hT) (fun hHeld => ?_)
  clear hK K
  refine norm_ (a' := ?_) ?_ ?_
  rotate_left
  ·show Act.put _ (some 219) _ = _
   simp only [Act.put, psl, i64_w, i32_w]
   rfl
  refine puA (i := 128) (N := some 220) (flA 142 129 []) HT_ ?_
  refine puA (i := 129) (N := some 221) (flA 142 130 []) HT_ ?_
  refine tkA (i := 130) (N := some 222) (flA 142 131 []) HT_ HW_ hHeld ?_
  refine tkA (i := 131) (N := some 223) (flA 142 132 []) HT_ HW_ hHeld ?_
  refine one_ (i := 132) (N := some 224) (flA 142 133 []) rfl rfl (one_of HT_.out (by kernel_rfl)) (by decide) (fun K hK => ?_)
  refine goes_ Try.func17 (by kernel_rfl) rfl #[.agg #[.int .i64 0, .int .i64 0, .int .i64 0, .int .i64 4, .int .i64 4, .int .i64 4], .agg #[.int .i64 2, .int .i64 2, .int .i64 2, .int .i64 6, .int .i64 6, .int .i64 6]] (by rfl) rfl rfl (by (try simp only [pml]); first | done | rfl) ?_
  with_reducible refine (aw17 _).mono ?_
  rintro e w' ⟨rfl, hb⟩
  replace hT := wt hT hb
  clear hb
  refine ⟨_, rfl, ?_⟩
  refine hK.out _ _ (keepA hS B9.out B18.out B22.out hT) (fun hHeld => ?_)
  clear hK K
  refine norm_ (a' := ?_) ?_ ?_
  rotate_left
  ·show Act.put _ (some 224) _ = _
   simp only [Act.put, psl, i64_w, i32_w]
   rfl
  refine puA (i := 133) (N := some 225) (flA 142 134 []) HT_ ?_
  refine puA (i := 134) (N := some 226) (flA 142 135 []) HT_ ?_
  refine tkA (i := 135) (N := some 227) (flA 142 136 []) HT_ HW_ hHeld ?_
  refine tkA (i := 136) (N := some 228) (flA 142 137 []) HT_ HW_ hHeld ?_
  refine one_ (i := 137) (N := some 229) (flA 142 138 []) rfl rfl (one_of HT_.out (by kernel_rfl)) (by decide) (fun K hK => ?_)
  have HK := am hK
  clear hK
  go_wp2_with (fail)
  refine HK.out.out _ _ (keepA hS B9.out B18.out B22.out (wa hT _)) (fun hHeld => ?_)
  clear HK K
  refine one_ (i := 138) (N := some 230) (flA 142 139 []) rfl rfl (one_of HT_.out (by kernel_rfl)) (by decide) (fun K hK => ?_)
  refine goes_ Try.func42 (by kernel_rfl) rfl #[.agg #[.int .i64 0, .int .i64 0, .int .i64 0, .int .i64 4, .int .i64 4, .int .i64 4], .slice (some ⟨_, 0, none⟩) 1 1] (by rfl) rfl rfl (by (try simp only [pml]); first | done | rfl) ?_
  with_reducible refine (aw42 _ _ _ (lit1a _) (Nat.le_refl _)).mono ?_
  rintro e w' ⟨rfl, hb⟩
  replace hT := wt (wa hT _) hb
  clear hb
  refine ⟨_, rfl, ?_⟩
  refine hK.out _ _ (keepA hS B9.out B18.out B22.out hT) (fun hHeld => ?_)
  clear hK K
  refine norm_ (a' := ?_) ?_ ?_
  rotate_left
  ·show Act.put _ (some 230) _ = _
   simp only [Act.put, psl, i64_w, i32_w]
   rfl
  refine puA (i := 139) (N := some 231) (flA 142 140 []) HT_ ?_
  refine puA (i := 140) (N := some 232) (flA 142 141 []) HT_ ?_
  refine puA (i := 141) (N := some 0) (flA 142 142 []) HT_ ?_
  refine done_ (done_of HT_.out (by kernel_rfl)) ?_
  go_wp2_with (fail)
  go_ret
  exact ⟨rfl, wt hS.hb hT⟩
end

def r_At.f (a0_0 : Int) (a0_1 : Int) (a0_2 : Int) (a1 : Int) : Option (Int) := if a1 = 0 then (some a0_0) else (if a1 = 1 then (some a0_1) else (some a0_2))
set_option maxHeartbeats 8000000 in
set_option maxRecDepth 100000 in
theorem r_At.calls (a0_0 : Int) (a0_1 : Int) (a0_2 : Int) (a1 : Int) (r : Int) (w : World) (h : r_At.f a0_0 a0_1 a0_2 a1 = some r) :
  Calls Try.prog 59 #[.agg #[.int .i64 a0_0, .int .i64 a0_1, .int .i64 a0_2], .int .i64 a1] w fun e w' => e = .returned (.int .i64 r) ∧ Below w.heap.size w w' := by
 have hu23 := Try.underlying23
 have HB := am (Below.refl w.heap.size w)
 have H : (if a1 = 0 then (some a0_0) else (if a1 = 1 then (some a0_1) else (some a0_2))) = some r := h
 clear h
 by_cases c3 : a1 = 0
 ·rw [if_pos c3] at H
  have c3b0 : (a1 == 0) = true := beq_iff_eq.mpr c3
  have c3b1 : (a1 != 0) = false := bne_eq_false_iff_eq.mpr c3
  clear c3
  obtain rfl := Option.some.inj H
  go_enter Try.func59, Try.ntmps59
  go_wp2_with (first | ((with_reducible refine gate_dst (N := 2) rfl ?_); refine box_event ?hg (N := 2) ?hd (cs := #[.int .i64 a0_0, .int .i64 a0_1, .int .i64 a0_2]) (t := 23) ?hr ?_; (case hd | hg => rfl); (case hr => first | (go_simp; done) | (go_simp; rfl)); intro gb373 hg w4 hbox hb; have BK373 := am hbox; have GW373 := sG HB hg; have GE373 := sG HB hg; replace HB := bS HB hb; clear hb hbox hg; obtain ⟨_, _, _, _, _, _⟩ := zC3 BK373))
  go_ret
  exact ⟨sqE, fW HB.out⟩
 ·rw [if_neg c3] at H
  have c3b0 : (a1 == 0) = false := beq_eq_false_iff_ne.mpr c3
  have c3b1 : (a1 != 0) = true := bne_iff_ne.mpr c3
  by_cases c6 : a1 = 1
  ·rw [if_pos c6] at H
   have c6b0 : (a1 == 1) = true := beq_iff_eq.mpr c6
   have c6b1 : (a1 != 1) = false := bne_eq_false_iff_eq.mpr c6
   clear c6
   obtain rfl := Option.some.inj H
   go_enter Try.func59, Try.ntmps59
   go_wp2_with (first | ((with_reducible refine gate_dst (N := 2) rfl ?_); refine box_event ?hg (N := 2) ?hd (cs := #[.int .i64 a0_0, .int .i64 a0_1, .int .i64 a0_2]) (t := 23) ?hr ?_; (case hd | hg => rfl); (case hr => first | (go_simp; done) | (go_simp; rfl)); intro gb373 hg w7 hbox hb; have BK373 := am hbox; have GW373 := sG HB hg; have GE373 := sG HB hg; replace HB := bS HB hb; clear hb hbox hg; obtain ⟨_, _, _, _, _, _⟩ := zC3 BK373))
   go_ret
   exact ⟨sqE, fW HB.out⟩
  ·rw [if_neg c6] at H
   have c6b0 : (a1 == 1) = false := beq_eq_false_iff_ne.mpr c6
   have c6b1 : (a1 != 1) = true := bne_iff_ne.mpr c6
   obtain rfl := Option.some.inj H
   go_enter Try.func59, Try.ntmps59
   go_wp2_with (first | ((with_reducible refine gate_dst (N := 2) rfl ?_); refine box_event ?hg (N := 2) ?hd (cs := #[.int .i64 a0_0, .int .i64 a0_1, .int .i64 a0_2]) (t := 23) ?hr ?_; (case hd | hg => rfl); (case hr => first | (go_simp; done) | (go_simp; rfl)); intro gb373 hg w9 hbox hb; have BK373 := am hbox; have GW373 := sG HB hg; have GE373 := sG HB hg; replace HB := bS HB hb; clear hb hbox hg; obtain ⟨_, _, _, _, _, _⟩ := zC3 BK373))
   go_ret
   exact ⟨sqE, fW HB.out⟩

end Go.Proofs.Ytmmdikhmlmoolaa.QA
