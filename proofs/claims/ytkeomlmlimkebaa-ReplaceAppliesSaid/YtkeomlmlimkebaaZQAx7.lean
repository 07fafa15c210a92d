import Derived.Test.YtkeomlmlimkebaaZQAx0
import Derived.Test.YtkeomlmlimkebaaZQAx2
import Derived.Test.YtkeomlmlimkebaaZQAx3
import Derived.Test.YtkeomlmlimkebaaZQAx4
import Derived.Test.YtkeomlmlimkebaaZQAx5
import Derived.Test.YtkeomlmlimkebaaZQAx6
import Derived.Test.YtkeomlmlimkebaaZEvKit
import Derived.Test.YtkeomlmlimkebaaZLayD
import Derived.Test.YtkeomlmlimkebaaZMapKit
import Derived.Test.YtkeomlmlimkebaaZRowOne
import Derived.Test.YtkeomlmlimkebaaZSortRow
import Derived.Carry
import Derived.Deep.RegionHeld3
import Derived.LoopN
import Derived.RegionTactic
import Derived.Shelf.SlicesE.DeleteFunc
import Derived.StillTailTactics
import Derived.WalkSpells
namespace Go.Proofs.Ytkeomlmlimkebaa.QA
open Go.RowKit Go.Proofs.YtkeomlmlimkebaaW.PrintWords Go.Proofs.YtkeomlmlimkebaaW.PrintLast Go.Proofs.YtkeomlmlimkebaaW.PrintMore
open Go.Proofs.YtkeomlmlimkebaaW.PrintWords renaming below_alloc → wa, blk_frozen → bf, blk_cell → bc
open Aside0 renaming mk → am
attribute [local go_sem] max2_int min2_int max_two min_two max_three min_three max_four min_four
set_option linter.unusedVariables false
set_option linter.unusedSimpArgs false

section
open Go.Proofs.Ytkeomlmlimkebaa.EvKit Go.Proofs.Ytkeomlmlimkebaa.MapKit
attribute [local go_sem] max2_int min2_int max_two min_two Oper.semAt_some
set_option linter.unusedVariables false
set_option linter.unusedSimpArgs false
def findF50 (p : Int → Bool) : List Int → Nat → Int
 | [], _ => -1
 | x :: l, i => if p x = true then (i : Int) else findF50 p l (i + 1)
set_option maxHeartbeats 2000000 in
set_option maxRecDepth 100000 in
theorem index_50 {A0 : Option Addr} {c0 : Nat} {l0 : List Int} (g : Nat) (p : Int → Bool) (w : World) (hr0 : Kd.C (Kd.int .i64) w A0 l0.length l0) (hc0 : l0.length ≤ c0) (hl : l0.length < 1099511627776)
  (hcl : ∀ x n, Calls Try.prog 50 #[.int .i64 x, .pointer (some ⟨g, 0, none⟩)] (w.drewN n) fun e w' => e = .returned (.bool (p x)) ∧ ∃ m, w' = w.drewN m) :
  Calls Try.prog 57 #[.slice A0 l0.length c0, .func (.func 50) #[] #[.pointer (some ⟨g, 0, none⟩)]] w fun e w' => e = .returned (.int .i64 (findF50 p l0 0)) ∧ ∃ m, w' = w.drewN m := by
 have HR := am hr0
 have HCL := am hcl
 clear hr0 hcl
 go_enter Try.func57, Try.ntmps57
 go_wp2
 go_loopw [8] (fun i wr => ∃ k q : Nat, k ≤ l0.length ∧ i = .int .i64 k ∧ wr = w.drewN q ∧ Aside0 (findF50 p l0 0 = findF50 p (l0.drop k) k))
  (fun i _ => l0.length - (intOf i).toNat)
 case atStart => exact ⟨0, 0, Nat.zero_le _, rfl, rfl, ⟨rfl⟩⟩
 case round =>
  obtain ⟨k, q, hk, rfl, rfl, HP⟩ := hrel
  by_cases hlt : k < l0.length
  rotate_left
  ·obtain rfl : k = l0.length := by omega
   have hf : findF50 p l0 0 = -1 := by rw [HP.out, List.drop_eq_nil_of_le (Nat.le_refl _)]; rfl
   have HF := am hf
   clear hf
   go_wp2
   go_ret
   exact ⟨by rw [HF.out]; rfl, q, rfl⟩
  obtain ⟨ad, e, hcell⟩ := at_I HR.out k hlt
  subst e
  have ed : l0.drop k = l0.getD k 0 :: l0.drop (k + 1) := EvKit.drop_cons l0 k 0 hlt
  have hf : findF50 p (l0.drop k) k = if p (l0.getD k 0) = true then (k : Int) else findF50 p (l0.drop (k + 1)) (k + 1) := by rw [ed]; rfl
  obtain ⟨x, hx⟩ : ∃ x, x = l0.getD k 0 := ⟨_, rfl⟩
  rw [← hx] at hcell hf
  clear ed hx
  cases hp : p x with
  | true =>
   rw [if_pos hp] at hf
   have HF := am (HP.out.trans hf)
   have HPX := am hp
   clear hp hf
   go_wp2_with (go_at_call 50; refine (HCL.out x q).mono ?_; rintro e w' ⟨rfl, nd, rfl⟩; rw [HPX.out])
   go_ret
   exact ⟨by rw [HF.out]; rfl, _, rfl⟩
  | false =>
   rw [if_neg (by rw [hp]; simp)] at hf
   have HF := am (HP.out.trans hf)
   have HPX := am hp
   clear hp hf
   go_wp2_with (go_at_call 50; refine (HCL.out x q).mono ?_; rintro e w' ⟨rfl, nd, rfl⟩; rw [HPX.out])
   go_roundw
   case rel => exact ⟨k + 1, nd, by omega, by go_num, rfl, HF⟩
   case measure => simp [intOf]; omega
theorem clo_50 (g : Nat) (x y : Int) (w : World) (hc : w.cell? ⟨g, 0, none⟩ = some (.int .i64 x)) : Calls Try.prog 50 #[.int .i64 y, .pointer (some ⟨g, 0, none⟩)] w fun e w' => e = .returned (.bool (y == x)) ∧ ∃ q, w' = w.drewN q := by
 by_cases h : y = x
 ·have h1 : (y == x) = true := beq_iff_eq.2 h
  have H := am h
  clear h
  go_enter Try.func50, Try.ntmps50
  go_wp2
  go_ret
  exact ⟨by rw [h1]; rfl, 0, rfl⟩
 have h1 : (y == x) = false := beq_eq_false_iff_ne.2 h
 have H := am h
 clear h
 go_enter Try.func50, Try.ntmps50
 go_wp2
 go_ret
 exact ⟨by rw [h1]; rfl, 0, rfl⟩
theorem grown_row {d : Kd Int} (hd : d.sz = 1) (w : World) (g m : Nat) (l' : Array Int) : w.grownBy (Go.Proofs.sortWorldK (fun x => [Value.int .i64 x]) d.sz w g 0 m l' #[]) (some g) :=
 ⟨rfl, rfl, rfl, Go.Proofs.Ytkeomlmlimkebaa.SortRow.sorted_size (d := d) w g m l' #[], fun i hi hne => Go.Proofs.Ytkeomlmlimkebaa.SortRow.sorted_block (d := d) w g m l' #[] i hi (fun e => hne (by rw [e]))⟩
set_option maxHeartbeats 1000000 in
set_option maxRecDepth 100000 in
theorem del_own (g : Nat) (x : Int) {v : Value} {l : List Int} {base : Nat} {ok : Nat → Prop} {w : World} (hR : Kd.R (Kd.int .i64) 3 w base ok v l) (hl : l.length < 1099511627776) (hx : w.cell? ⟨g, 0, none⟩ = some (.int .i64 x)) (hg : some g ≠ v.ownBlock) :
  Calls Try.prog 49 #[v, .func (.func 50) #[] #[.pointer (some ⟨g, 0, none⟩)]] w fun e w' => ∃ v', e = .returned v' ∧ Kd.R (Kd.int .i64) 3 w' base ok v' (l.filter fun y => !(y == x)) ∧ w.grownBy w' v.ownBlock ∧ v'.ownBlock = v.ownBlock := by
 rcases List.eq_nil_or_concat l with rfl | ⟨l', x', hx'⟩
 ·obtain ⟨A1, c1, rfl⟩ := Kd.R_slice hR
  have hi := index_50 (A0 := A1) (c0 := c1) (l0 := []) g (fun y => y == x) w (Kd.R_reads' hR).2.2 (Nat.zero_le _) (by simp) (fun y n => (clo_50 g x y (w.drewN n) hx).mono fun e w' ⟨h1, q, h2⟩ => ⟨h1, n + q, by rw [h2, World.drewN_drewN]⟩)
  have HI := am hi
  have HRR := am hR
  clear hi hR hx hg
  go_enter Try.func49, Try.ntmps49
  go_wp2_with (go_at_call 57; refine HI.out.mono ?_; rintro e w' ⟨rfl, nd, rfl⟩; simp only [findF50])
  go_ret
  exact ⟨_, rfl, Kd.R_drewN HRR.out nd, ⟨rfl, rfl, rfl, Nat.le_refl _, fun _ _ _ => rfl⟩, rfl⟩
 have hne : l ≠ [] := by rw [hx']; simp
 obtain ⟨gb, cap, rfl, hH, hgl, hbg, hP⟩ := Go.Proofs.Ytkeomlmlimkebaa.SortRow.holds_of_R (Go.Proofs.Ytkeomlmlimkebaa.RowOne.flatI .i64) hR hne
 have hcap : l.length ≤ cap := (Kd.R_reads' hR).2.1
 have hgg : g ≠ gb := fun e => hg (by rw [e]; rfl)
 have hgs : g < w.heap.size := World.block_lt_of_cell? w _ hx
 have hcell : ∀ n dk os, (Go.Proofs.sortWorld (Value.int .i64) w gb 0 n dk os).cell? ⟨g, 0, none⟩ = some (.int .i64 x) := fun n dk os => by
  have e1 : Go.Proofs.sortWorld (Value.int .i64) w gb 0 n dk os = Go.Proofs.sortWorldK (fun x => [Value.int .i64 x]) 1 w gb 0 n dk os := by
   unfold Go.Proofs.sortWorld Go.Proofs.sortWorldK
   rw [Go.Proofs.Ytkeomlmlimkebaa.RowOne.putRow_one]
  rw [e1]
  exact (World.cell?_of_block (w := w) (a := ⟨g, 0, none⟩) (Go.Proofs.Ytkeomlmlimkebaa.SortRow.sorted_block (d := Kd.int .i64) (enc := fun x => [Value.int .i64 x]) w gb n dk os g hgs hgg)).trans hx
 have hcon := Go.Proofs.AnyE.slices_DeleteFunc (P := Try.prog) Lay.delF (Value.int .i64) (fun _ => rfl) (fun y => y == x) 50 #[.pointer (some ⟨g, 0, none⟩)] (enters_of Try.func50 (by kernel_rfl) rfl) 0 Try.zeroValue3 gb 0 cap l.toArray w
  (fun W y hb => clo_50 g x y W ((hb.cell (p := ⟨g, 0, none⟩) hgs).trans hx)) (fun n os dk y _ => clo_50 g x y _ (hcell n dk os)) (Go.Proofs.Ytkeomlmlimkebaa.RowOne.holds_one _ hH) (by simp; omega) (by simpa using hcap)
 refine Calls.mono hcon ?_
 rintro e w' ⟨rfl, q, rfl⟩
 have e1 : l.toArray.size = l.length := by simp
 have e2 : l.toArray.toList = l := by simp
 rw [e1, e2] at *
 have hle : (l.filter fun y => !(y == x)).length ≤ l.length := List.length_filter_le _ _
 have hlen : ((l.filter fun y => !(y == x)) ++ List.replicate (l.length - (l.filter fun y => !(y == x)).length) (0 : Int)).length = l.length := by
  rw [List.length_append, List.length_replicate]; omega
 have hR2 := Go.Proofs.Ytkeomlmlimkebaa.SortRow.R_of_sorted (Go.Proofs.Ytkeomlmlimkebaa.RowOne.flatI .i64) (by decide) hR rfl hlen hne q #[]
 have hG := grown_row (d := Kd.int .i64) rfl w gb q ((l.filter fun y => !(y == x)) ++ List.replicate (l.length - (l.filter fun y => !(y == x)).length) (0 : Int)).toArray
 have ew : Go.Proofs.sortWorldK (fun x => [Value.int .i64 x]) (Kd.int .i64).sz w gb 0 q ((l.filter fun y => !(y == x)) ++ List.replicate (l.length - (l.filter fun y => !(y == x)).length) (0 : Int)).toArray #[] = Go.Sort.putRow (Value.int .i64) (Go.Sort.ahead w q) gb 0 ((l.filter fun y => !(y == x)) ++ List.replicate (l.length - (l.filter fun y => !(y == x)).length) (0 : Int)).toArray := by
  rw [Go.Proofs.Ytkeomlmlimkebaa.RowOne.putRow_one]
  unfold Go.Proofs.sortWorldK
  exact Go.Sort.grow_empty _
 rw [ew] at hR2 hG
 have hT := Kd.R_take (m := (l.filter fun y => !(y == x)).length) hR2 (by rw [hlen]; exact hle)
 rw [List.take_left] at hT
 exact ⟨_, rfl, hT, hG, rfl⟩
theorem clone_loop (l0_0 : List (List Int)) (pc : Int) (u : List Int) (f : List Bool) (hn : l0_0.length ≤ 64) (hrow : ∀ j, j < l0_0.length → (l0_0.getD j []).length < 1000000) : ∀ m i, l0_0.length = i + m → Ev (fun k => replace_clone.l0 k l0_0 (l0_0.length : Int) (i : Int) (l0_0.take i) pc u f) (l0_0, pc, u, f) := by
 intro m
 induction m with
 | zero =>
  intro i hi
  refine Ev.succ ?_
  simp only [replace_clone.l0]
  rw [List.take_of_length_le (by omega)]
  exact Ev.neg (by omega) (Ev.now _)
 | succ m ih =>
  intro i hi
  have er : rd_L1 l0_0 (i : Int) = l0_0.getD i [] := by simp [rd_L1]
  have et : l0_0.take i ++ [l0_0.getD i []] = l0_0.take (i + 1) := by
   rw [List.take_succ_eq_append_getElem (by omega), List.getD_eq_getElem?_getD, List.getElem?_eq_getElem (by omega)]; rfl
  refine Ev.succ ?_
  simp only [replace_clone.l0]
  refine Ev.pos (by omega) (Ev.pos (by omega) (Ev.pos (by omega) ?_))
  rw [er]
  have hc : slices_Clone_int_int.f (l0_0.getD i []) = some (l0_0.getD i []) := by
   unfold slices_Clone_int_int.f
   rw [if_pos (by have := hrow i (by omega); omega)]
  rw [hc]
  simp only [Option.bind_some]
  refine Ev.pos (by rw [List.length_take]; omega) ?_
  rw [et, nxt64 (by omega)]
  exact ih (i + 1) (by omega)
theorem clone_ev (l0_0 : List (List Int)) (pc : Int) (u : List Int) (f : List Bool) (hn : l0_0.length ≤ 64) (hrow : ∀ j, j < l0_0.length → (l0_0.getD j []).length < 1000000) (hu : u.length ≤ 64) (hf : f.length ≤ 64) : Ev (fun k => replace_clone.f k l0_0 pc u f) (l0_0, pc, u, f) := by
 unfold replace_clone.f slices_Clone_int_int.f slices_Clone_bool_bool.f
 rw [if_pos (by omega), if_pos (by omega)]
 simp only [Option.bind_some]
 exact clone_loop l0_0 pc u f hn hrow l0_0.length 0 (by omega)
theorem setCells_one (w : World) (g o : Nat) (v : Value) : w.setCells g o [v] = w.setCell ⟨g, o, none⟩ v := by
 simp [World.setCells, World.setCell]
theorem S_round {W : World} {base : Nat} {ok : Nat → Prop} {gO n cap : Nat} {xs : List (List Int)} (h : Kd.S (Kd.slice 3 (Kd.int .i64)) 23 W base ok (.slice (some ⟨gO, 0, none⟩) n cap) xs) (k : Nat) (hk : k < n) :
  ∃ (vi : Value) (oki : Nat → Prop), W.cell? ⟨gO, k, none⟩ = some vi ∧ W.frozen? ⟨gO, k, none⟩ = false ∧ Kd.R (Kd.int .i64) 3 W base oki vi (xs.getD k []) ∧ (∀ j, oki j → ok j ∧ j ≠ gO) ∧
   ∀ (w5 : World) (v' : Value) (l' : List Int), W.grownBy w5 vi.ownBlock → Kd.R (Kd.int .i64) 3 w5 base oki v' l' →
    Kd.S (Kd.slice 3 (Kd.int .i64)) 23 (w5.setCell ⟨gO, k, none⟩ v') base ok (.slice (some ⟨gO, 0, none⟩) n cap) (xs.set k l') ∧ w5.grownBy (w5.setCell ⟨gO, k, none⟩ v') (some gO) := by
 obtain ⟨oki, c, hcl, hM, hcc, hfr, hoki, hH⟩ := Kd.S_elem h ([] : List Int) (k : Int) (by omega) (by omega)
 obtain ⟨vi, rfl, hRi⟩ := hM
 have hcell : W.cell? ⟨gO, k, none⟩ = some vi := by
  have := hcc 0 vi rfl
  have e : (k : Int).toNat * (Kd.slice 3 (Kd.int .i64)).sz + 0 = k := by
   show (k : Int).toNat * 1 + 0 = k
   omega
  rw [e] at this
  exact this
 have hf : W.frozen? ⟨gO, k, none⟩ = false := by
  have := hfr 0
  have e : (k : Int).toNat * (Kd.slice 3 (Kd.int .i64)).sz + 0 = k := by
   show (k : Int).toNat * 1 + 0 = k
   omega
  rw [e] at this
  exact this
 rw [Int.toNat_natCast] at hRi
 refine ⟨vi, oki, hcell, hf, hRi, hoki, fun w5 v' l' hG hR' => ?_⟩
 have hH5 := Kd.H_grown hH hG (fun j e => hRi.1 j e)
 obtain ⟨h2, h3⟩ := Kd.H_seg hH5 (seg := [v']) (j := 0) (by omega) (by omega) (by show 0 + 1 ≤ 1; omega) (by
  intro q hq
  obtain rfl := List.mem_singleton.1 hq
  obtain ⟨A1, c1, rfl⟩ := Kd.R_slice hR'
  rfl)
 have e : (k : Int).toNat * (Kd.slice 3 (Kd.int .i64)).sz + 0 = k := by
  show (k : Int).toNat * 1 + 0 = k
  omega
 rw [e, setCells_one] at h2 h3
 have hR2 : Kd.R (Kd.int .i64) 3 (w5.setCell ⟨gO, k, none⟩ v') base oki v' l' := Kd.R_grown hR' h3 (fun j hj e => (hoki j hj).2 (by injection e))
 have hB := Kd.H_back h2 (x' := l') (okp := oki) (Kd.M_row hR2) (fun _ hj => hj)
 rw [Int.toNat_natCast] at hB
 exact ⟨hB, h3⟩

def remP (x : Int) (l : List Int) : List Int := l.filter fun y => !(y == x)
def replace_Break.f (l0_0 : List (List Int)) (a0_1 : Int) (l0_2 : List Int) (l0_3 : List Bool) (a1 : Int) : Option (List (List Int) × Int × List Int × List Bool × Int) :=
 (replace_Check.f l0_0 a0_1 l0_2 l0_3).bind fun e => if e = 0 then
  (if a1 < 0 ∨ a1 ≥ a0_1 then some ([], 0, [], [], 6)
   else if 0 ≤ idxI l0_2 a1 ∧ l0_3.getD (idxI l0_2 a1).toNat false = true then some ([], 0, [], [], 8)
   else some (l0_0.map (remP a1), a0_1, (if 0 ≤ idxI l0_2 a1 then l0_2.set (idxI l0_2 a1).toNat (-1) else l0_2), l0_3, 0))
 else some ([], 0, [], [], e)
def BPost (w : World) (e : Ending) (w' : World) (r1 : List (List Int)) (r2 : Int) (r3 : List Int) (r4 : List Bool) (r5 : Int) : Prop :=
 ∃ v0_ v2_ v3_ : Value, e = .returned (.tuple #[.agg #[v0_, .int .i64 r2, v2_, v3_], .int .i64 r5]) ∧ Kd.S (Kd.slice 3 (Kd.int .i64)) 23 w' w.heap.size (fun k_ => some k_ ≠ (v2_ : Value).ownBlock) v0_ r1 ∧ Kd.R (Kd.int .i64) 3 w' w.heap.size (fun _ => True) v2_ r3 ∧ Kd.R Kd.bool 4 w' w.heap.size (fun _ => True) v3_ r4 ∧ Below w.heap.size w w'
theorem BPost.zero {w w' : World} {z : Int} (hb : Below w.heap.size w w') : BPost w (.returned (.tuple #[.agg #[.slice none 0 0, .int .i64 0, .slice none 0 0, .slice none 0 0], .int .i64 z])) w' [] 0 [] [] z :=
 ⟨_, _, _, rfl, Kd.S_nil _ _ _ _ _, Kd.R_nil _ _ _ _ _, Kd.R_nil _ _ _ _ _, hb⟩
theorem st4_heap (w : World) (a b c d : Value) {g k : Nat} (h : k ≠ g) : ((((w.setCell ⟨g, 0, none⟩ a).setCell ⟨g, 1, none⟩ b).setCell ⟨g, 2, none⟩ c).setCell ⟨g, 3, none⟩ d).heap[k]? = w.heap[k]? := by
 rw [Below.heap_setCell _ _ _ k h, Below.heap_setCell _ _ _ k h, Below.heap_setCell _ _ _ k h, Below.heap_setCell _ _ _ k h]
set_option maxHeartbeats 8000000 in
set_option maxRecDepth 100000 in
theorem replace_Break.calls (A0_0 : Option Addr) (c0_0 : Nat) (l0_0 : List (List Int)) (a0_1 : Int) (A0_2 : Option Addr) (c0_2 : Nat) (l0_2 : List Int) (A0_3 : Option Addr) (c0_3 : Nat) (l0_3 : List Bool) (a1 : Int) (r1 : List (List Int)) (r2 : Int) (r3 : List Int) (r4 : List Bool) (r5 : Int) (w : World) (hr0_0 : Kd.C (Kd.slice 3 (Kd.int .i64)) w A0_0 l0_0.length l0_0) (hc0_0 : l0_0.length ≤ c0_0) (hr0_2 : Kd.C (Kd.int .i64) w A0_2 l0_2.length l0_2) (hc0_2 : l0_2.length ≤ c0_2) (hr0_3 : Kd.C Kd.bool w A0_3 l0_3.length l0_3) (hc0_3 : l0_3.length ≤ c0_3) (h : replace_Break.f l0_0 a0_1 l0_2 l0_3 a1 = some (r1, r2, r3, r4, r5)) :
  Calls Try.prog 23 #[.agg #[.slice A0_0 l0_0.length c0_0, .int .i64 a0_1, .slice A0_2 l0_2.length c0_2, .slice A0_3 l0_3.length c0_3], .int .i64 a1] w fun e w' => BPost w e w' r1 r2 r3 r4 r5 := by
 have hu33 := Try.underlying33
 obtain ⟨e, he, hr⟩ := Option.bind_eq_some_iff.1 h
 obtain ⟨W3, hW3⟩ : ∃ W3, W3 = ((w.alloc (.cells #[.slice A0_0 l0_0.length c0_0, .int .i64 a0_1, .slice A0_2 l0_2.length c0_2, .slice A0_3 l0_3.length c0_3] 33)).alloc (.cells #[.int .i64 a1] 3)).alloc (.cells #[.slice none 0 0, .int .i64 0, .slice none 0 0, .slice none 0 0] 33) := ⟨_, rfl⟩
 have hb3 : Below w.heap.size w W3 := by rw [hW3]; exact wa (wa (wa (Below.refl _ _) _) _) _
 have b1 : W3.heap[w.heap.size]? = some (.cells #[.slice A0_0 l0_0.length c0_0, .int .i64 a0_1, .slice A0_2 l0_2.length c0_2, .slice A0_3 l0_3.length c0_3] 33 (0, 0)) := by rw [hW3]; exact blk_alloc (blk_alloc (blk_new w _) _) _
 have b2 : W3.heap[w.heap.size + 1]? = some (.cells #[.int .i64 a1] 3 (0, 0)) := by
  rw [hW3]; refine blk_alloc ?_ _; have := blk_new (w.alloc (.cells #[.slice A0_0 l0_0.length c0_0, .int .i64 a0_1, .slice A0_2 l0_2.length c0_2, .slice A0_3 l0_3.length c0_3] 33)) (.cells #[.int .i64 a1] 3); rw [World.size_alloc] at this; exact this
 have b4 : W3.heap[w.heap.size + 1 + 1]? = some (.cells #[.slice none 0 0, .int .i64 0, .slice none 0 0, .slice none 0 0] 33 (0, 0)) := by
  rw [hW3]; have := blk_new ((w.alloc (.cells #[.slice A0_0 l0_0.length c0_0, .int .i64 a0_1, .slice A0_2 l0_2.length c0_2, .slice A0_3 l0_3.length c0_3] 33)).alloc (.cells #[.int .i64 a1] 3)) (.cells #[.slice none 0 0, .int .i64 0, .slice none 0 0, .slice none 0 0] 33); rw [World.size_alloc, World.size_alloc] at this; exact this
 have hz : w.heap.size < W3.heap.size := by rw [hW3]; simp; omega
 have hz2 : w.heap.size + 1 < W3.heap.size := by rw [hW3]; simp
 have hz4 : w.heap.size + 1 + 1 < W3.heap.size := by rw [hW3]; simp
 have HE := am he
 have HR0 := am hr0_0
 have HR2 := am hr0_2
 have HR3 := am hr0_3
 have HB3 := am hb3
 have HBX := am b1
 have HBP := am b2
 have HB4 := am b4
 have HZ := am hz
 have HZ2 := am hz2
 have HZ4 := am hz4
 have HB := am (Below.refl W3.heap.size W3)
 have HW := am hW3
 clear hr0_0 hr0_2 hr0_3 hb3 b1 b2 b4 hz hz2 hz4 hW3 he h
 by_cases he0 : e = 0
 case neg =>
  rw [if_neg he0] at hr
  obtain ⟨rfl, rfl, rfl, rfl, rfl⟩ : r1 = [] ∧ r2 = 0 ∧ r3 = [] ∧ r4 = [] ∧ r5 = e := by
   have := Option.some.inj hr; simp only [Prod.mk.injEq] at this; exact ⟨this.1.symm, this.2.1.symm, this.2.2.1.symm, this.2.2.2.1.symm, this.2.2.2.2.symm⟩
  have e1 : (r5 == 0) = false := beq_eq_false_iff_ne.2 he0
  have e2 : (r5 != 0) = true := by simpa using he0
  clear he0 hr
  go_enter Try.func23, Try.ntmps23
  go_wp2_with ((go_at_call 24; rw [← HW.out]; (with_reducible refine (replace_Check.calls _ c0_0 l0_0 a0_1 _ c0_2 l0_2 _ c0_3 l0_3 _ _ ?q0 hc0_0 ?q2 hc0_2 ?q3 hc0_3 HE.out).mono ?_); (case q0 => exact Kd.C_below HR0.out HB3.out); (case q2 => exact Kd.C_below HR2.out HB3.out); (case q3 => exact Kd.C_below HR3.out HB3.out); rintro e' w' ⟨rfl, hb⟩; have n1 := am (HB.out.trans hb); clear HB hb; have HB := n1; clear n1; obtain ⟨g0, g1, g2, g3⟩ := box4 HB.out HZ.out HBX.out; have gp := (bc ((HB.out.block _ HZ2.out).trans HBP.out) 0).trans rfl; obtain ⟨k0, k1, k2, k3⟩ := box4 HB.out HZ4.out HB4.out; have kf0 := bf ((HB.out.block _ HZ4.out).trans HB4.out) 0; have kf1 := bf ((HB.out.block _ HZ4.out).trans HB4.out) 1; have kf2 := bf ((HB.out.block _ HZ4.out).trans HB4.out) 2; have kf3 := bf ((HB.out.block _ HZ4.out).trans HB4.out) 3))
  exact bodyPost_ret (v := .tuple #[.agg #[.slice none 0 0, .int .i64 0, .slice none 0 0, .slice none 0 0], .int .i64 r5]) (by simp [results, Try.results23, go_sem, k0, k1, k2, k3]) rfl (BPost.zero ((((((HB3.out.trans (HB.out.mono (Nat.le_of_lt HZ.out)))).setCell (p := ⟨w.heap.size + 1 + 1, 0, none⟩) (by show w.heap.size ≤ w.heap.size + 1 + 1; omega) _).setCell (p := ⟨w.heap.size + 1 + 1, 1, none⟩) (by show w.heap.size ≤ w.heap.size + 1 + 1; omega) _).setCell (p := ⟨w.heap.size + 1 + 1, 2, none⟩) (by show w.heap.size ≤ w.heap.size + 1 + 1; omega) _).setCell (p := ⟨w.heap.size + 1 + 1, 3, none⟩) (by show w.heap.size ≤ w.heap.size + 1 + 1; omega) _))
 subst he0
 rw [if_pos rfl] at hr
 obtain ⟨z1, z2, z3, z4, z5, z6, z7, z8⟩ := check_ok HE.out
 have HZ1 := am z1
 have HZ2e := am z2
 have z9 : l0_0.length ≤ l0_2.length := Nat.le_of_eq z1.symm
 have z10 : l0_0.length ≤ l0_3.length := Nat.le_of_eq z2.symm
 have z11 : l0_2.length ≤ 64 := by omega
 have z12 : l0_3.length ≤ 64 := by omega
 have HZ6 := am z6
 clear z1 z2 z6 z7 z8
 by_cases hrg : a1 < 0 ∨ a1 ≥ a0_1
 case pos =>
  rw [if_pos hrg] at hr
  obtain ⟨rfl, rfl, rfl, rfl, rfl⟩ : r1 = [] ∧ r2 = 0 ∧ r3 = [] ∧ r4 = [] ∧ r5 = 6 := by
   have := Option.some.inj hr; simp only [Prod.mk.injEq] at this; exact ⟨this.1.symm, this.2.1.symm, this.2.2.1.symm, this.2.2.2.1.symm, this.2.2.2.2.symm⟩
  clear hr
  by_cases h1 : a1 < 0
  ·clear hrg
   go_enter Try.func23, Try.ntmps23
   go_wp2_with ((go_at_call 24; rw [← HW.out]; (with_reducible refine (replace_Check.calls _ c0_0 l0_0 a0_1 _ c0_2 l0_2 _ c0_3 l0_3 _ _ ?q0 hc0_0 ?q2 hc0_2 ?q3 hc0_3 HE.out).mono ?_); (case q0 => exact Kd.C_below HR0.out HB3.out); (case q2 => exact Kd.C_below HR2.out HB3.out); (case q3 => exact Kd.C_below HR3.out HB3.out); rintro e' w' ⟨rfl, hb⟩; have n1 := am (HB.out.trans hb); clear HB hb; have HB := n1; clear n1; obtain ⟨g0, g1, g2, g3⟩ := box4 HB.out HZ.out HBX.out; have gp := (bc ((HB.out.block _ HZ2.out).trans HBP.out) 0).trans rfl; obtain ⟨k0, k1, k2, k3⟩ := box4 HB.out HZ4.out HB4.out; have kf0 := bf ((HB.out.block _ HZ4.out).trans HB4.out) 0; have kf1 := bf ((HB.out.block _ HZ4.out).trans HB4.out) 1; have kf2 := bf ((HB.out.block _ HZ4.out).trans HB4.out) 2; have kf3 := bf ((HB.out.block _ HZ4.out).trans HB4.out) 3))
   exact bodyPost_ret (v := .tuple #[.agg #[.slice none 0 0, .int .i64 0, .slice none 0 0, .slice none 0 0], .int .i64 6]) (by simp [results, Try.results23, go_sem, k0, k1, k2, k3]) rfl (BPost.zero ((((((HB3.out.trans (HB.out.mono (Nat.le_of_lt HZ.out)))).setCell (p := ⟨w.heap.size + 1 + 1, 0, none⟩) (by show w.heap.size ≤ w.heap.size + 1 + 1; omega) _).setCell (p := ⟨w.heap.size + 1 + 1, 1, none⟩) (by show w.heap.size ≤ w.heap.size + 1 + 1; omega) _).setCell (p := ⟨w.heap.size + 1 + 1, 2, none⟩) (by show w.heap.size ≤ w.heap.size + 1 + 1; omega) _).setCell (p := ⟨w.heap.size + 1 + 1, 3, none⟩) (by show w.heap.size ≤ w.heap.size + 1 + 1; omega) _))
  have h2 : a0_1 ≤ a1 := by omega
  clear hrg
  go_enter Try.func23, Try.ntmps23
  go_wp2_with ((go_at_call 24; rw [← HW.out]; (with_reducible refine (replace_Check.calls _ c0_0 l0_0 a0_1 _ c0_2 l0_2 _ c0_3 l0_3 _ _ ?q0 hc0_0 ?q2 hc0_2 ?q3 hc0_3 HE.out).mono ?_); (case q0 => exact Kd.C_below HR0.out HB3.out); (case q2 => exact Kd.C_below HR2.out HB3.out); (case q3 => exact Kd.C_below HR3.out HB3.out); rintro e' w' ⟨rfl, hb⟩; have n1 := am (HB.out.trans hb); clear HB hb; have HB := n1; clear n1; obtain ⟨g0, g1, g2, g3⟩ := box4 HB.out HZ.out HBX.out; have gp := (bc ((HB.out.block _ HZ2.out).trans HBP.out) 0).trans rfl; obtain ⟨k0, k1, k2, k3⟩ := box4 HB.out HZ4.out HB4.out; have kf0 := bf ((HB.out.block _ HZ4.out).trans HB4.out) 0; have kf1 := bf ((HB.out.block _ HZ4.out).trans HB4.out) 1; have kf2 := bf ((HB.out.block _ HZ4.out).trans HB4.out) 2; have kf3 := bf ((HB.out.block _ HZ4.out).trans HB4.out) 3))
  exact bodyPost_ret (v := .tuple #[.agg #[.slice none 0 0, .int .i64 0, .slice none 0 0, .slice none 0 0], .int .i64 6]) (by simp [results, Try.results23, go_sem, k0, k1, k2, k3]) rfl (BPost.zero ((((((HB3.out.trans (HB.out.mono (Nat.le_of_lt HZ.out)))).setCell (p := ⟨w.heap.size + 1 + 1, 0, none⟩) (by show w.heap.size ≤ w.heap.size + 1 + 1; omega) _).setCell (p := ⟨w.heap.size + 1 + 1, 1, none⟩) (by show w.heap.size ≤ w.heap.size + 1 + 1; omega) _).setCell (p := ⟨w.heap.size + 1 + 1, 2, none⟩) (by show w.heap.size ≤ w.heap.size + 1 + 1; omega) _).setCell (p := ⟨w.heap.size + 1 + 1, 3, none⟩) (by show w.heap.size ≤ w.heap.size + 1 + 1; omega) _))
 rw [if_neg hrg] at hr
 have hp0 : 0 ≤ a1 := by omega
 have hp1 : a1 < a0_1 := by omega
 clear hrg
 obtain ⟨o, ho⟩ : ∃ o, idxI l0_2 a1 = o := ⟨_, rfl⟩
 have hib : o < l0_2.length := by
  rw [← ho]; unfold idxI
  split
  ·rename_i hm; have := List.idxOf_lt_length_iff.2 hm; omega
  omega
 rw [ho] at hr
 have HO := am ho
 obtain ⟨K, hK⟩ := clone_ev l0_0 a0_1 l0_2 l0_3 z3 HZ6.out z11 z12
 have HCL := am (hK K (Nat.le_refl _))
 have HLU := am (show l0_2.length < 1099511627776 by omega)
 have hob : o < l0_3.length := by have := HZ1.out; omega
 clear ho hK
 by_cases hfx : 0 ≤ o ∧ l0_3.getD o.toNat false = true
 case pos =>
  rw [if_pos hfx] at hr
  obtain ⟨rfl, rfl, rfl, rfl, rfl⟩ : r1 = [] ∧ r2 = 0 ∧ r3 = [] ∧ r4 = [] ∧ r5 = 8 := by
   have := Option.some.inj hr; simp only [Prod.mk.injEq] at this; exact ⟨this.1.symm, this.2.1.symm, this.2.2.1.symm, this.2.2.2.1.symm, this.2.2.2.2.symm⟩
  obtain ⟨ho0, hf⟩ := hfx
  obtain ⟨adf, eAf, hcf⟩ := at_B (Kd.C_below HR3.out HB3.out) o.toNat (by omega)
  subst eAf
  rw [hf] at hcf
  have HC3 := am hcf
  clear hr hf hcf
  go_enter Try.func23, Try.ntmps23
  go_wp2_with (first | (go_at_call 24; rw [← HW.out]; (with_reducible refine (replace_Check.calls _ c0_0 l0_0 a0_1 _ c0_2 l0_2 _ c0_3 l0_3 _ _ ?q0 hc0_0 ?q2 hc0_2 ?q3 hc0_3 HE.out).mono ?_); (case q0 => exact Kd.C_below HR0.out HB3.out); (case q2 => exact Kd.C_below HR2.out HB3.out); (case q3 => exact Kd.C_below HR3.out HB3.out); rintro e' w' ⟨rfl, hb⟩; have n1 := am (HB.out.trans hb); clear HB hb; have HB := n1; clear n1; obtain ⟨g0, g1, g2, g3⟩ := box4 HB.out HZ.out HBX.out; have gp := (bc ((HB.out.block _ HZ2.out).trans HBP.out) 0).trans rfl; obtain ⟨k0, k1, k2, k3⟩ := box4 HB.out HZ4.out HB4.out; have kf0 := bf ((HB.out.block _ HZ4.out).trans HB4.out) 0; have kf1 := bf ((HB.out.block _ HZ4.out).trans HB4.out) 1; have kf2 := bf ((HB.out.block _ HZ4.out).trans HB4.out) 2; have kf3 := bf ((HB.out.block _ HZ4.out).trans HB4.out) 3) | (go_at_call 48; (with_reducible refine (replace_clone.calls K _ c0_0 l0_0 a0_1 _ c0_2 l0_2 _ c0_3 l0_3 l0_0 a0_1 l0_2 l0_3 _ ?p0 hc0_0 ?p2 hc0_2 ?p3 hc0_3 HCL.out).mono ?_); (case p0 => exact Kd.C_below (Kd.C_below HR0.out HB3.out) HB.out); (case p2 => exact Kd.C_below (Kd.C_below HR2.out HB3.out) HB.out); (case p3 => exact Kd.C_below (Kd.C_below HR3.out HB3.out) HB.out); rintro e' w8 ⟨v0, v2, v3, rfl, hs, h2, h3, hb⟩; obtain ⟨V0, q0, rfl⟩ := Kd.S_slice hs; obtain ⟨V2, q2, rfl⟩ := Kd.R_slice h2; obtain ⟨V3, q3, rfl⟩ := Kd.R_slice h3; have S8 := am (Kd.S_lower hs HB.out.size); have U8 := am (Kd.R_lower h2 HB.out.size); have F8 := am (Kd.R_lower h3 HB.out.size); have HB8 := am (HB.out.trans (hb.mono HB.out.size)); clear hs h2 h3 hb g0 g1 g2 g3 gp k0 k1 k2 k3 kf0 kf1 kf2 kf3; have HBe := am (wa HB8.out (.cells #[.slice V0 l0_0.length q0, .int .i64 a0_1, .slice V2 l0_2.length q2, .slice V3 l0_3.length q3] 33)); obtain ⟨g0, g1, g2, g3⟩ := box4 HBe.out HZ.out HBX.out; have gp := (bc ((HBe.out.block _ HZ2.out).trans HBP.out) 0).trans rfl; clear HBe) | (go_at_call 47; obtain ⟨W7, hW7⟩ : ∃ W7, W7 = w8.alloc (.cells #[.slice V0 l0_0.length q0, .int .i64 a0_1, .slice V2 l0_2.length q2, .slice V3 l0_3.length q3] 33) := ⟨_, rfl⟩; rw [← hW7]; have hb7 : (w8.alloc (.cells #[.slice V0 l0_0.length q0, .int .i64 a0_1, .slice V2 l0_2.length q2, .slice V3 l0_3.length q3] 33)).heap[w8.heap.size]? = some (.cells #[.slice V0 l0_0.length q0, .int .i64 a0_1, .slice V2 l0_2.length q2, .slice V3 l0_3.length q3] 33 (0, 0)) ∧ Below w8.heap.size w8 (w8.alloc (.cells #[.slice V0 l0_0.length q0, .int .i64 a0_1, .slice V2 l0_2.length q2, .slice V3 l0_3.length q3] 33)) := ⟨blk_new w8 _, wa (Below.refl _ _) _⟩; rw [← hW7] at hb7; have HB7 := am (HB8.out.trans (hb7.2.mono HB8.out.size)); (with_reducible refine (user_is a1 _ ?c0 hc0_0 ?c2 hc0_2 ?c3 hc0_3 HLU.out).mono ?_); (case c0 => exact Kd.C_below (Kd.C_below HR0.out HB3.out) HB7.out); (case c2 => exact Kd.C_below (Kd.C_below HR2.out HB3.out) HB7.out); (case c3 => exact Kd.C_below (Kd.C_below HR3.out HB3.out) HB7.out); rintro e' w9 ⟨rfl, hb⟩; rw [HO.out]; have BX9 := am (blk_below hb7.1 hb); have S9 := am (Kd.S_below (Kd.S_below S8.out hb7.2) hb); have U9 := am (Kd.R_below (Kd.R_below U8.out hb7.2) hb); have F9 := am (Kd.R_below (Kd.R_below F8.out hb7.2) hb); have HB9 := am (HB7.out.trans (hb.mono HB7.out.size)); have E89 := am (Nat.le_trans hb7.2.size hb.size); clear hb hb7 hW7 g0 g1 g2 g3 gp; obtain ⟨g0, g1, g2, g3⟩ := box4 HB9.out HZ.out HBX.out; have gp := (bc ((HB9.out.block _ HZ2.out).trans HBP.out) 0).trans rfl; have t0 := (bc BX9.out 0).trans rfl; have t1 := (bc BX9.out 1).trans rfl; have t2 := (bc BX9.out 2).trans rfl; have t3 := (bc BX9.out 3).trans rfl; obtain ⟨k0, k1, k2, k3⟩ := box4 HB9.out HZ4.out HB4.out; have kf0 := bf ((HB9.out.block _ HZ4.out).trans HB4.out) 0; have kf1 := bf ((HB9.out.block _ HZ4.out).trans HB4.out) 1; have kf2 := bf ((HB9.out.block _ HZ4.out).trans HB4.out) 2; have kf3 := bf ((HB9.out.block _ HZ4.out).trans HB4.out) 3; have h3 := (HB9.out.cell (World.block_lt_of_cell? W3 _ HC3.out)).trans HC3.out))
  exact bodyPost_ret (v := .tuple #[.agg #[.slice none 0 0, .int .i64 0, .slice none 0 0, .slice none 0 0], .int .i64 8]) (by simp [results, Try.results23, go_sem, k0, k1, k2, k3]) rfl (BPost.zero ((((((HB3.out.trans (HB9.out.mono (Nat.le_of_lt HZ.out)))).setCell (p := ⟨w.heap.size + 1 + 1, 0, none⟩) (by show w.heap.size ≤ w.heap.size + 1 + 1; omega) _).setCell (p := ⟨w.heap.size + 1 + 1, 1, none⟩) (by show w.heap.size ≤ w.heap.size + 1 + 1; omega) _).setCell (p := ⟨w.heap.size + 1 + 1, 2, none⟩) (by show w.heap.size ≤ w.heap.size + 1 + 1; omega) _).setCell (p := ⟨w.heap.size + 1 + 1, 3, none⟩) (by show w.heap.size ≤ w.heap.size + 1 + 1; omega) _))
 rw [if_neg hfx] at hr
 by_cases ho0 : 0 ≤ o
 case pos =>
  have hf : l0_3.getD o.toNat false = false := by
   cases hq : l0_3.getD o.toNat false with
   | false => rfl
   | true => exact (hfx ⟨ho0, hq⟩).elim
  rw [if_pos ho0] at hr
  obtain ⟨rfl, rfl, rfl, rfl, rfl⟩ : l0_0.map (remP a1) = r1 ∧ a0_1 = r2 ∧ l0_2.set o.toNat (-1) = r3 ∧ l0_3 = r4 ∧ 0 = r5 := by
   have := Option.some.inj hr; simp only [Prod.mk.injEq] at this; exact this
  obtain ⟨adf, eAf, hcf⟩ := at_B (Kd.C_below HR3.out HB3.out) o.toNat (by omega)
  subst eAf
  rw [hf] at hcf
  have HC3 := am hcf
  have HPOS := am (show 0 < l0_2.length by omega)
  have HO0 := am ho0
  have HO1 := am hib
  clear hr hf hcf hfx
  go_enter Try.func23, Try.ntmps23
  go_wp2_with (first | (go_at_call 24; rw [← HW.out]; (with_reducible refine (replace_Check.calls _ c0_0 l0_0 a0_1 _ c0_2 l0_2 _ c0_3 l0_3 _ _ ?q0 hc0_0 ?q2 hc0_2 ?q3 hc0_3 HE.out).mono ?_); (case q0 => exact Kd.C_below HR0.out HB3.out); (case q2 => exact Kd.C_below HR2.out HB3.out); (case q3 => exact Kd.C_below HR3.out HB3.out); rintro e' w' ⟨rfl, hb⟩; have n1 := am (HB.out.trans hb); clear HB hb; have HB := n1; clear n1; obtain ⟨g0, g1, g2, g3⟩ := box4 HB.out HZ.out HBX.out; have gp := (bc ((HB.out.block _ HZ2.out).trans HBP.out) 0).trans rfl; obtain ⟨k0, k1, k2, k3⟩ := box4 HB.out HZ4.out HB4.out; have kf0 := bf ((HB.out.block _ HZ4.out).trans HB4.out) 0; have kf1 := bf ((HB.out.block _ HZ4.out).trans HB4.out) 1; have kf2 := bf ((HB.out.block _ HZ4.out).trans HB4.out) 2; have kf3 := bf ((HB.out.block _ HZ4.out).trans HB4.out) 3) | (go_at_call 48; (with_reducible refine (replace_clone.calls K _ c0_0 l0_0 a0_1 _ c0_2 l0_2 _ c0_3 l0_3 l0_0 a0_1 l0_2 l0_3 _ ?p0 hc0_0 ?p2 hc0_2 ?p3 hc0_3 HCL.out).mono ?_); (case p0 => exact Kd.C_below (Kd.C_below HR0.out HB3.out) HB.out); (case p2 => exact Kd.C_below (Kd.C_below HR2.out HB3.out) HB.out); (case p3 => exact Kd.C_below (Kd.C_below HR3.out HB3.out) HB.out); rintro e' w8 ⟨v0, v2, v3, rfl, hs, h2, h3, hb⟩; obtain ⟨V0, q0, rfl⟩ := Kd.S_slice hs; obtain ⟨V2, q2, rfl⟩ := Kd.R_slice h2; obtain ⟨V3, q3, rfl⟩ := Kd.R_slice h3; have S8 := am (Kd.S_lower hs HB.out.size); have U8 := am (Kd.R_lower h2 HB.out.size); have F8 := am (Kd.R_lower h3 HB.out.size); have HB8 := am (HB.out.trans (hb.mono HB.out.size)); clear hs h2 h3 hb g0 g1 g2 g3 gp k0 k1 k2 k3 kf0 kf1 kf2 kf3; have HBe := am (wa HB8.out (.cells #[.slice V0 l0_0.length q0, .int .i64 a0_1, .slice V2 l0_2.length q2, .slice V3 l0_3.length q3] 33)); obtain ⟨g0, g1, g2, g3⟩ := box4 HBe.out HZ.out HBX.out; have gp := (bc ((HBe.out.block _ HZ2.out).trans HBP.out) 0).trans rfl; clear HBe) | (go_at_call 47; obtain ⟨W7, hW7⟩ : ∃ W7, W7 = w8.alloc (.cells #[.slice V0 l0_0.length q0, .int .i64 a0_1, .slice V2 l0_2.length q2, .slice V3 l0_3.length q3] 33) := ⟨_, rfl⟩; rw [← hW7]; have hb7 : (w8.alloc (.cells #[.slice V0 l0_0.length q0, .int .i64 a0_1, .slice V2 l0_2.length q2, .slice V3 l0_3.length q3] 33)).heap[w8.heap.size]? = some (.cells #[.slice V0 l0_0.length q0, .int .i64 a0_1, .slice V2 l0_2.length q2, .slice V3 l0_3.length q3] 33 (0, 0)) ∧ Below w8.heap.size w8 (w8.alloc (.cells #[.slice V0 l0_0.length q0, .int .i64 a0_1, .slice V2 l0_2.length q2, .slice V3 l0_3.length q3] 33)) := ⟨blk_new w8 _, wa (Below.refl _ _) _⟩; rw [← hW7] at hb7; have HB7 := am (HB8.out.trans (hb7.2.mono HB8.out.size)); (with_reducible refine (user_is a1 _ ?c0 hc0_0 ?c2 hc0_2 ?c3 hc0_3 HLU.out).mono ?_); (case c0 => exact Kd.C_below (Kd.C_below HR0.out HB3.out) HB7.out); (case c2 => exact Kd.C_below (Kd.C_below HR2.out HB3.out) HB7.out); (case c3 => exact Kd.C_below (Kd.C_below HR3.out HB3.out) HB7.out); rintro e' w9 ⟨rfl, hb⟩; rw [HO.out]; have BX9 := am (blk_below hb7.1 hb); have S9 := am (Kd.S_below (Kd.S_below S8.out hb7.2) hb); have U9 := am (Kd.R_below (Kd.R_below U8.out hb7.2) hb); have F9 := am (Kd.R_below (Kd.R_below F8.out hb7.2) hb); have HB9 := am (HB7.out.trans (hb.mono HB7.out.size)); have E89 := am (Nat.le_trans hb7.2.size hb.size); clear hb hb7 hW7 g0 g1 g2 g3 gp; obtain ⟨g0, g1, g2, g3⟩ := box4 HB9.out HZ.out HBX.out; have gp := (bc ((HB9.out.block _ HZ2.out).trans HBP.out) 0).trans rfl; have t0 := (bc BX9.out 0).trans rfl; have t1 := (bc BX9.out 1).trans rfl; have t2 := (bc BX9.out 2).trans rfl; have t3 := (bc BX9.out 3).trans rfl; try (have h3 := (HB9.out.cell (World.block_lt_of_cell? W3 _ HC3.out)).trans HC3.out); obtain ⟨gu, cu, eu, hgu, hgl, cellsu, hcu⟩ := Kd.R_form U9.out HPOS.out; cases eu; obtain ⟨cc, hccl, hcM, hcc, hfr⟩ := Kd.R_elem U9.out (0 : Int) o HO0.out HO1.out; obtain rfl := hcM; have y0 := hcc 0 _ rfl; have y1 := hfr 0; simp only [Kd.int, Kd.scalar, Nat.mul_one, Nat.add_zero] at y0 y1; have yn := Kd.R_ne U9.out BX9.out (by decide); have yn1 : ¬ (w8.heap.size = gu) := fun e => yn (by rw [e]; rfl); have yn2 : ¬ (gu = w8.heap.size) := fun e => yn1 e.symm; clear yn))
  have hp := Kd.R_putg U9.out o (-1 : Int)
  have SX := am (Kd.S_grown S9.out hp.2 (fun k hk => hk))
  have UX := am hp.1
  have FX := am (Kd.R_over' F9.out (Kd.R_typed U9.out) (by decide) hp.2)
  have BXX := am (blk_grown BX9.out hp.2 (fun e => yn1 (by injection e)))
  have HBX9 := am (HB9.out.setCell (p := ⟨gu, o.toNat, none⟩) hgu (.int .i64 (-1)))
  clear hp y0 y1 yn1 yn2 g0 g1 g2 g3 gp t0 t1 t2 t3
  go_loopw [46] (fun i wr => ∃ k : Nat, k ≤ l0_0.length ∧ i = .int .i64 k ∧ Aside0 (Kd.S (Kd.slice 3 (Kd.int .i64)) 23 wr W3.heap.size (fun k_ => some k_ ≠ ((.slice (some ⟨gu, 0, none⟩) l0_2.length q2) : Value).ownBlock) (.slice V0 l0_0.length q0) ((l0_0.take k).map (remP a1) ++ l0_0.drop k)) ∧ Aside0 (Kd.R (Kd.int .i64) 3 wr W3.heap.size (fun _ => True) (.slice (some ⟨gu, 0, none⟩) l0_2.length q2) (l0_2.set o.toNat (-1))) ∧ Aside0 (Kd.R Kd.bool 4 wr W3.heap.size (fun _ => True) (.slice V3 l0_3.length q3) l0_3) ∧ Aside0 (wr.heap[w8.heap.size]? = some (.cells #[.slice V0 l0_0.length q0, .int .i64 a0_1, (.slice (some ⟨gu, 0, none⟩) l0_2.length q2), .slice V3 l0_3.length q3] 33 (0, 0))) ∧ Aside0 (Below W3.heap.size W3 wr))
   (fun i _ => l0_0.length - (intOf i).toNat)
  case atStart => exact ⟨0, Nat.zero_le _, rfl, SX, UX, FX, BXX, HBX9⟩
  case round =>
   clear SX UX FX BXX HBX9
   obtain ⟨k, hk, rfl, HS, HU, HF, HBB, HBr⟩ := hrel
   have hl0 : ((l0_0.take k).map (remP a1) ++ l0_0.drop k).length = l0_0.length := by simp; omega
   by_cases hlt : k < l0_0.length
   rotate_left
   ·obtain rfl : k = l0_0.length := by omega
    have hend : (l0_0.take l0_0.length).map (remP a1) ++ l0_0.drop l0_0.length = l0_0.map (remP a1) := by
     rw [List.take_length, List.drop_eq_nil_of_le (Nat.le_refl _), List.append_nil]
    rw [hend] at HS
    have t0 := (bc HBB.out 0).trans rfl
    have t1 := (bc HBB.out 1).trans rfl
    have t2 := (bc HBB.out 2).trans rfl
    have t3 := (bc HBB.out 3).trans rfl
    obtain ⟨k0, k1, k2, k3⟩ := box4 HBr.out HZ4.out HB4.out
    have kf0 := bf ((HBr.out.block _ HZ4.out).trans HB4.out) 0
    have kf1 := bf ((HBr.out.block _ HZ4.out).trans HB4.out) 1
    have kf2 := bf ((HBr.out.block _ HZ4.out).trans HB4.out) 2
    have kf3 := bf ((HBr.out.block _ HZ4.out).trans HB4.out) 3
    clear hend hlt hk hl0
    go_wp2_with fail
    exact bodyPost_ret (v := .tuple #[.agg #[.slice V0 l0_0.length q0, .int .i64 a0_1, (.slice (some ⟨gu, 0, none⟩) l0_2.length q2), .slice V3 l0_3.length q3], .int .i64 0]) (by simp [results, Try.results23, go_sem, k0, k1, k2, k3]) rfl (by
     refine ⟨_, _, _, rfl, Kd.S_lower (Kd.S_mono (Kd.S_step (Kd.S_bound HS.out) (fun j hj _ => st4_heap wr _ _ _ _ (by have h1 := hj.2.1; have h2 := HZ4.out; omega))) (fun j hj => hj.1)) (Nat.le_of_lt HZ.out), Kd.R_lower (Kd.R_mono (Kd.R_step (Kd.R_bound HU.out) (fun j hj _ => st4_heap wr _ _ _ _ (by have h1 := hj.2.1; have h2 := HZ4.out; omega))) (fun _ _ => trivial)) (Nat.le_of_lt HZ.out), Kd.R_lower (Kd.R_mono (Kd.R_step (Kd.R_bound HF.out) (fun j hj _ => st4_heap wr _ _ _ _ (by have h1 := hj.2.1; have h2 := HZ4.out; omega))) (fun _ _ => trivial)) (Nat.le_of_lt HZ.out), ?_⟩
     exact (((((HB3.out.trans (HBr.out.mono (Nat.le_of_lt HZ.out))).setCell (p := ⟨w.heap.size + 1 + 1, 0, none⟩) (by show w.heap.size ≤ w.heap.size + 1 + 1; omega) _).setCell (p := ⟨w.heap.size + 1 + 1, 1, none⟩) (by show w.heap.size ≤ w.heap.size + 1 + 1; omega) _).setCell (p := ⟨w.heap.size + 1 + 1, 2, none⟩) (by show w.heap.size ≤ w.heap.size + 1 + 1; omega) _).setCell (p := ⟨w.heap.size + 1 + 1, 3, none⟩) (by show w.heap.size ≤ w.heap.size + 1 + 1; omega) _))
   obtain ⟨gO, cO, eO, hgO, hgOl, cellsO, hcO⟩ := Kd.S_form HS.out (by rw [hl0]; omega)
   rw [hl0] at eO
   cases eO
   obtain ⟨vi, oki, hcell, hfr, hRi, hoki, hnext⟩ := S_round HS.out k (by omega)
   have hgd : ((l0_0.take k).map (remP a1) ++ l0_0.drop k).getD k [] = l0_0.getD k [] := by
    rw [List.getD_eq_getElem?_getD, List.getElem?_append_right (by simp; omega)]
    simp only [List.length_map, List.length_take, List.getElem?_drop, List.getD_eq_getElem?_getD]
    congr 2
    omega
   rw [hgd] at hRi
   have hset : ((l0_0.take k).map (remP a1) ++ l0_0.drop k).set k (remP a1 (l0_0.getD k [])) = (l0_0.take (k + 1)).map (remP a1) ++ l0_0.drop (k + 1) := by
    rw [List.set_append_right _ _ (by simp; omega)]
    rw [List.take_succ_eq_append_getElem hlt, List.map_append, List.append_assoc]
    congr 1
    have ed : l0_0.drop k = l0_0.getD k [] :: l0_0.drop (k + 1) := EvKit.drop_cons l0_0 k [] hlt
    rw [ed]
    have e0 : k - (List.map (remP a1) (l0_0.take k)).length = 0 := by simp; omega
    rw [e0, List.getD_eq_getElem?_getD, List.getElem?_eq_getElem hlt]
    rfl
   have hrl := HZ6.out k hlt
   have hne1 : some (w.heap.size + 1) ≠ vi.ownBlock := fun e => by have h1 := Kd.R_base hRi _ e.symm; have h2 := HZ2.out; omega
   have hneO : some gO ≠ vi.ownBlock := fun e => (hoki _ (hRi.1 _ e.symm)).2 rfl
   have hpc : wr.cell? ⟨w.heap.size + 1, 0, none⟩ = some (.int .i64 a1) := (bc ((HBr.out.block _ HZ2.out).trans HBP.out) 0).trans rfl
   have t0 : wr.cell? ⟨w8.heap.size, 0, none⟩ = some (.slice (some ⟨gO, 0, none⟩) l0_0.length q0) := (bc HBB.out 0).trans rfl
   have HRI := am hRi
   have HNX := am hnext
   have HOK := am hoki
   have HSET := am hset
   have HRL := am (show (l0_0.getD k []).length < 1099511627776 by omega)
   have HNE := am hne1
   have HNO := am hneO
   have HPC := am hpc
   have HCELL := am hcell
   have HCO := am hcO
   have HN8 := am (blk_ne HBB.out hcO (by decide))
   clear hl0 hRi hnext hoki hset hrl hne1 hneO hpc hcO hgd
   go_wp2_with fail
   go_region_held3 (fun w' => w'.cell? ⟨w8.heap.size, 0, none⟩ = some (.slice (some ⟨gO, 0, none⟩) l0_0.length q0)) (first | exact t0 | exact t5 | exact T8.out _ | go_keep) (first | (go_at_call 49; refine (del_own (w := wr.drew) (w.heap.size + 1) a1 (Kd.R_drew HRI.out) HRL.out (show wr.drew.cell? _ = _ from HPC.out) HNE.out).mono ?_; rintro e w5 ⟨v', rfl, hR', hG, hO⟩; obtain ⟨Av, cv, hv⟩ := Kd.R_slice hR'; obtain ⟨nv, hnv⟩ : ∃ nv, nv = ((l0_0.getD k []).filter fun y => !(y == a1)).length := ⟨_, rfl⟩; rw [← hnv] at hv; subst hv; clear hnv; have t5 : w5.cell? ⟨w8.heap.size, 0, none⟩ = some (.slice (some ⟨gO, 0, none⟩) l0_0.length q0) := (bc (blk_grown (blk_drew HBB.out) hG (Kd.R_ne HRI.out HBB.out (by decide))) 0).trans rfl; have t6 := (bc (blk_grown (blk_drew HCO.out) hG HNO.out) k).trans ((bc HCO.out k).symm.trans HCELL.out); have T8 := am (fun u => (World.cell?_of_block (w := w5) (w' := w5.setCell ⟨gO, k, none⟩ u) (a := ⟨w8.heap.size, 0, none⟩) (Below.heap_setCell w5 ⟨gO, k, none⟩ u w8.heap.size HN8.out)).trans t5); have t7 := bf (blk_grown (blk_drew HCO.out) hG HNO.out) k; have HR5 := am hR'; have HG5 := am (show wr.grownBy w5 vi.ownBlock from ⟨hG.1, hG.2, hG.3, hG.4, hG.5⟩); clear hR' hG hO))
   all_goals
    go_wp2
    go_roundw
    case rel =>
     have hnx := HNX.out w5 (.slice Av nv cv) _ HG5.out HR5.out
     exact ⟨k + 1, by omega, by go_num, ⟨by rw [← HSET.out]; exact hnx.1⟩, ⟨Kd.R_over' (Kd.R_mono (Kd.R_grown (Kd.R_tight rfl HU.out) HG5.out (fun j hj e => (HOK.out j (HRI.out.1 j e.symm)).1 hj)) (fun _ _ => trivial)) (v := .slice (some ⟨gO, 0, none⟩) 0 0) (fun j e => by cases e; exact ⟨_, blk_grown HCO.out HG5.out HNO.out⟩) (by decide) hnx.2⟩, ⟨Kd.R_over' (Kd.R_over' HF.out (Kd.R_typed HRI.out) (by decide) HG5.out) (v := .slice (some ⟨gO, 0, none⟩) 0 0) (fun j e => by cases e; exact ⟨_, blk_grown HCO.out HG5.out HNO.out⟩) (by decide) hnx.2⟩, ⟨blk_grown (blk_grown HBB.out HG5.out (Kd.R_ne HRI.out HBB.out (by decide))) hnx.2 (fun e => HN8.out (by injection e))⟩, ⟨(HBr.out.grown HG5.out HBr.out.size (fun j e => Kd.R_base HRI.out j e)).grown hnx.2 (Nat.le_trans HBr.out.size HG5.out.size) (fun j e => by cases e; exact hgO)⟩⟩
    case measure => simp [intOf]; omega
 case neg =>
  rw [if_neg ho0] at hr
  obtain ⟨rfl, rfl, rfl, rfl, rfl⟩ : l0_0.map (remP a1) = r1 ∧ a0_1 = r2 ∧ l0_2 = r3 ∧ l0_3 = r4 ∧ 0 = r5 := by
   have := Option.some.inj hr; simp only [Prod.mk.injEq] at this; exact this
  clear hr hfx
  go_enter Try.func23, Try.ntmps23
  go_wp2_with (first | (go_at_call 24; rw [← HW.out]; (with_reducible refine (replace_Check.calls _ c0_0 l0_0 a0_1 _ c0_2 l0_2 _ c0_3 l0_3 _ _ ?q0 hc0_0 ?q2 hc0_2 ?q3 hc0_3 HE.out).mono ?_); (case q0 => exact Kd.C_below HR0.out HB3.out); (case q2 => exact Kd.C_below HR2.out HB3.out); (case q3 => exact Kd.C_below HR3.out HB3.out); rintro e' w' ⟨rfl, hb⟩; have n1 := am (HB.out.trans hb); clear HB hb; have HB := n1; clear n1; obtain ⟨g0, g1, g2, g3⟩ := box4 HB.out HZ.out HBX.out; have gp := (bc ((HB.out.block _ HZ2.out).trans HBP.out) 0).trans rfl; obtain ⟨k0, k1, k2, k3⟩ := box4 HB.out HZ4.out HB4.out; have kf0 := bf ((HB.out.block _ HZ4.out).trans HB4.out) 0; have kf1 := bf ((HB.out.block _ HZ4.out).trans HB4.out) 1; have kf2 := bf ((HB.out.block _ HZ4.out).trans HB4.out) 2; have kf3 := bf ((HB.out.block _ HZ4.out).trans HB4.out) 3) | (go_at_call 48; (with_reducible refine (replace_clone.calls K _ c0_0 l0_0 a0_1 _ c0_2 l0_2 _ c0_3 l0_3 l0_0 a0_1 l0_2 l0_3 _ ?p0 hc0_0 ?p2 hc0_2 ?p3 hc0_3 HCL.out).mono ?_); (case p0 => exact Kd.C_below (Kd.C_below HR0.out HB3.out) HB.out); (case p2 => exact Kd.C_below (Kd.C_below HR2.out HB3.out) HB.out); (case p3 => exact Kd.C_below (Kd.C_below HR3.out HB3.out) HB.out); rintro e' w8 ⟨v0, v2, v3, rfl, hs, h2, h3, hb⟩; obtain ⟨V0, q0, rfl⟩ := Kd.S_slice hs; obtain ⟨V2, q2, rfl⟩ := Kd.R_slice h2; obtain ⟨V3, q3, rfl⟩ := Kd.R_slice h3; have S8 := am (Kd.S_lower hs HB.out.size); have U8 := am (Kd.R_lower h2 HB.out.size); have F8 := am (Kd.R_lower h3 HB.out.size); have HB8 := am (HB.out.trans (hb.mono HB.out.size)); clear hs h2 h3 hb g0 g1 g2 g3 gp k0 k1 k2 k3 kf0 kf1 kf2 kf3; have HBe := am (wa HB8.out (.cells #[.slice V0 l0_0.length q0, .int .i64 a0_1, .slice V2 l0_2.length q2, .slice V3 l0_3.length q3] 33)); obtain ⟨g0, g1, g2, g3⟩ := box4 HBe.out HZ.out HBX.out; have gp := (bc ((HBe.out.block _ HZ2.out).trans HBP.out) 0).trans rfl; clear HBe) | (go_at_call 47; obtain ⟨W7, hW7⟩ : ∃ W7, W7 = w8.alloc (.cells #[.slice V0 l0_0.length q0, .int .i64 a0_1, .slice V2 l0_2.length q2, .slice V3 l0_3.length q3] 33) := ⟨_, rfl⟩; rw [← hW7]; have hb7 : (w8.alloc (.cells #[.slice V0 l0_0.length q0, .int .i64 a0_1, .slice V2 l0_2.length q2, .slice V3 l0_3.length q3] 33)).heap[w8.heap.size]? = some (.cells #[.slice V0 l0_0.length q0, .int .i64 a0_1, .slice V2 l0_2.length q2, .slice V3 l0_3.length q3] 33 (0, 0)) ∧ Below w8.heap.size w8 (w8.alloc (.cells #[.slice V0 l0_0.length q0, .int .i64 a0_1, .slice V2 l0_2.length q2, .slice V3 l0_3.length q3] 33)) := ⟨blk_new w8 _, wa (Below.refl _ _) _⟩; rw [← hW7] at hb7; have HB7 := am (HB8.out.trans (hb7.2.mono HB8.out.size)); (with_reducible refine (user_is a1 _ ?c0 hc0_0 ?c2 hc0_2 ?c3 hc0_3 HLU.out).mono ?_); (case c0 => exact Kd.C_below (Kd.C_below HR0.out HB3.out) HB7.out); (case c2 => exact Kd.C_below (Kd.C_below HR2.out HB3.out) HB7.out); (case c3 => exact Kd.C_below (Kd.C_below HR3.out HB3.out) HB7.out); rintro e' w9 ⟨rfl, hb⟩; rw [HO.out]; have BX9 := am (blk_below hb7.1 hb); have S9 := am (Kd.S_below (Kd.S_below S8.out hb7.2) hb); have U9 := am (Kd.R_below (Kd.R_below U8.out hb7.2) hb); have F9 := am (Kd.R_below (Kd.R_below F8.out hb7.2) hb); have HB9 := am (HB7.out.trans (hb.mono HB7.out.size)); have E89 := am (Nat.le_trans hb7.2.size hb.size); clear hb hb7 hW7 g0 g1 g2 g3 gp; obtain ⟨g0, g1, g2, g3⟩ := box4 HB9.out HZ.out HBX.out; have gp := (bc ((HB9.out.block _ HZ2.out).trans HBP.out) 0).trans rfl; have t0 := (bc BX9.out 0).trans rfl; have t1 := (bc BX9.out 1).trans rfl; have t2 := (bc BX9.out 2).trans rfl; have t3 := (bc BX9.out 3).trans rfl))
  have SX := S9
  have UX := U9
  have FX := F9
  have BXX := BX9
  have HBX9 := HB9
  clear g0 g1 g2 g3 gp t0 t1 t2 t3
  go_loopw [46] (fun i wr => ∃ k : Nat, k ≤ l0_0.length ∧ i = .int .i64 k ∧ Aside0 (Kd.S (Kd.slice 3 (Kd.int .i64)) 23 wr W3.heap.size (fun k_ => some k_ ≠ ((.slice V2 l0_2.length q2) : Value).ownBlock) (.slice V0 l0_0.length q0) ((l0_0.take k).map (remP a1) ++ l0_0.drop k)) ∧ Aside0 (Kd.R (Kd.int .i64) 3 wr W3.heap.size (fun _ => True) (.slice V2 l0_2.length q2) (l0_2)) ∧ Aside0 (Kd.R Kd.bool 4 wr W3.heap.size (fun _ => True) (.slice V3 l0_3.length q3) l0_3) ∧ Aside0 (wr.heap[w8.heap.size]? = some (.cells #[.slice V0 l0_0.length q0, .int .i64 a0_1, (.slice V2 l0_2.length q2), .slice V3 l0_3.length q3] 33 (0, 0))) ∧ Aside0 (Below W3.heap.size W3 wr))
   (fun i _ => l0_0.length - (intOf i).toNat)
  case atStart => exact ⟨0, Nat.zero_le _, rfl, SX, UX, FX, BXX, HBX9⟩
  case round =>
   clear SX UX FX BXX HBX9
   obtain ⟨k, hk, rfl, HS, HU, HF, HBB, HBr⟩ := hrel
   have hl0 : ((l0_0.take k).map (remP a1) ++ l0_0.drop k).length = l0_0.length := by simp; omega
   by_cases hlt : k < l0_0.length
   rotate_left
   ·obtain rfl : k = l0_0.length := by omega
    have hend : (l0_0.take l0_0.length).map (remP a1) ++ l0_0.drop l0_0.length = l0_0.map (remP a1) := by
     rw [List.take_length, List.drop_eq_nil_of_le (Nat.le_refl _), List.append_nil]
    rw [hend] at HS
    have t0 := (bc HBB.out 0).trans rfl
    have t1 := (bc HBB.out 1).trans rfl
    have t2 := (bc HBB.out 2).trans rfl
    have t3 := (bc HBB.out 3).trans rfl
    obtain ⟨k0, k1, k2, k3⟩ := box4 HBr.out HZ4.out HB4.out
    have kf0 := bf ((HBr.out.block _ HZ4.out).trans HB4.out) 0
    have kf1 := bf ((HBr.out.block _ HZ4.out).trans HB4.out) 1
    have kf2 := bf ((HBr.out.block _ HZ4.out).trans HB4.out) 2
    have kf3 := bf ((HBr.out.block _ HZ4.out).trans HB4.out) 3
    clear hend hlt hk hl0
    go_wp2_with fail
    exact bodyPost_ret (v := .tuple #[.agg #[.slice V0 l0_0.length q0, .int .i64 a0_1, (.slice V2 l0_2.length q2), .slice V3 l0_3.length q3], .int .i64 0]) (by simp [results, Try.results23, go_sem, k0, k1, k2, k3]) rfl (by
     refine ⟨_, _, _, rfl, Kd.S_lower (Kd.S_mono (Kd.S_step (Kd.S_bound HS.out) (fun j hj _ => st4_heap wr _ _ _ _ (by have h1 := hj.2.1; have h2 := HZ4.out; omega))) (fun j hj => hj.1)) (Nat.le_of_lt HZ.out), Kd.R_lower (Kd.R_mono (Kd.R_step (Kd.R_bound HU.out) (fun j hj _ => st4_heap wr _ _ _ _ (by have h1 := hj.2.1; have h2 := HZ4.out; omega))) (fun _ _ => trivial)) (Nat.le_of_lt HZ.out), Kd.R_lower (Kd.R_mono (Kd.R_step (Kd.R_bound HF.out) (fun j hj _ => st4_heap wr _ _ _ _ (by have h1 := hj.2.1; have h2 := HZ4.out; omega))) (fun _ _ => trivial)) (Nat.le_of_lt HZ.out), ?_⟩
     exact (((((HB3.out.trans (HBr.out.mono (Nat.le_of_lt HZ.out))).setCell (p := ⟨w.heap.size + 1 + 1, 0, none⟩) (by show w.heap.size ≤ w.heap.size + 1 + 1; omega) _).setCell (p := ⟨w.heap.size + 1 + 1, 1, none⟩) (by show w.heap.size ≤ w.heap.size + 1 + 1; omega) _).setCell (p := ⟨w.heap.size + 1 + 1, 2, none⟩) (by show w.heap.size ≤ w.heap.size + 1 + 1; omega) _).setCell (p := ⟨w.heap.size + 1 + 1, 3, none⟩) (by show w.heap.size ≤ w.heap.size + 1 + 1; omega) _))
   obtain ⟨gO, cO, eO, hgO, hgOl, cellsO, hcO⟩ := Kd.S_form HS.out (by rw [hl0]; omega)
   rw [hl0] at eO
   cases eO
   obtain ⟨vi, oki, hcell, hfr, hRi, hoki, hnext⟩ := S_round HS.out k (by omega)
   have hgd : ((l0_0.take k).map (remP a1) ++ l0_0.drop k).getD k [] = l0_0.getD k [] := by
    rw [List.getD_eq_getElem?_getD, List.getElem?_append_right (by simp; omega)]
    simp only [List.length_map, List.length_take, List.getElem?_drop, List.getD_eq_getElem?_getD]
    congr 2
    omega
   rw [hgd] at hRi
   have hset : ((l0_0.take k).map (remP a1) ++ l0_0.drop k).set k (remP a1 (l0_0.getD k [])) = (l0_0.take (k + 1)).map (remP a1) ++ l0_0.drop (k + 1) := by
    rw [List.set_append_right _ _ (by simp; omega)]
    rw [List.take_succ_eq_append_getElem hlt, List.map_append, List.append_assoc]
    congr 1
    have ed : l0_0.drop k = l0_0.getD k [] :: l0_0.drop (k + 1) := EvKit.drop_cons l0_0 k [] hlt
    rw [ed]
    have e0 : k - (List.map (remP a1) (l0_0.take k)).length = 0 := by simp; omega
    rw [e0, List.getD_eq_getElem?_getD, List.getElem?_eq_getElem hlt]
    rfl
   have hrl := HZ6.out k hlt
   have hne1 : some (w.heap.size + 1) ≠ vi.ownBlock := fun e => by have h1 := Kd.R_base hRi _ e.symm; have h2 := HZ2.out; omega
   have hneO : some gO ≠ vi.ownBlock := fun e => (hoki _ (hRi.1 _ e.symm)).2 rfl
   have hpc : wr.cell? ⟨w.heap.size + 1, 0, none⟩ = some (.int .i64 a1) := (bc ((HBr.out.block _ HZ2.out).trans HBP.out) 0).trans rfl
   have t0 : wr.cell? ⟨w8.heap.size, 0, none⟩ = some (.slice (some ⟨gO, 0, none⟩) l0_0.length q0) := (bc HBB.out 0).trans rfl
   have HRI := am hRi
   have HNX := am hnext
   have HOK := am hoki
   have HSET := am hset
   have HRL := am (show (l0_0.getD k []).length < 1099511627776 by omega)
   have HNE := am hne1
   have HNO := am hneO
   have HPC := am hpc
   have HCELL := am hcell
   have HCO := am hcO
   have HN8 := am (blk_ne HBB.out hcO (by decide))
   clear hl0 hRi hnext hoki hset hrl hne1 hneO hpc hcO hgd
   go_wp2_with fail
   go_region_held3 (fun w' => w'.cell? ⟨w8.heap.size, 0, none⟩ = some (.slice (some ⟨gO, 0, none⟩) l0_0.length q0)) (first | exact t0 | exact t5 | exact T8.out _ | go_keep) (first | (go_at_call 49; refine (del_own (w := wr.drew) (w.heap.size + 1) a1 (Kd.R_drew HRI.out) HRL.out (show wr.drew.cell? _ = _ from HPC.out) HNE.out).mono ?_; rintro e w5 ⟨v', rfl, hR', hG, hO⟩; obtain ⟨Av, cv, hv⟩ := Kd.R_slice hR'; obtain ⟨nv, hnv⟩ : ∃ nv, nv = ((l0_0.getD k []).filter fun y => !(y == a1)).length := ⟨_, rfl⟩; rw [← hnv] at hv; subst hv; clear hnv; have t5 : w5.cell? ⟨w8.heap.size, 0, none⟩ = some (.slice (some ⟨gO, 0, none⟩) l0_0.length q0) := (bc (blk_grown (blk_drew HBB.out) hG (Kd.R_ne HRI.out HBB.out (by decide))) 0).trans rfl; have t6 := (bc (blk_grown (blk_drew HCO.out) hG HNO.out) k).trans ((bc HCO.out k).symm.trans HCELL.out); have T8 := am (fun u => (World.cell?_of_block (w := w5) (w' := w5.setCell ⟨gO, k, none⟩ u) (a := ⟨w8.heap.size, 0, none⟩) (Below.heap_setCell w5 ⟨gO, k, none⟩ u w8.heap.size HN8.out)).trans t5); have t7 := bf (blk_grown (blk_drew HCO.out) hG HNO.out) k; have HR5 := am hR'; have HG5 := am (show wr.grownBy w5 vi.ownBlock from ⟨hG.1, hG.2, hG.3, hG.4, hG.5⟩); clear hR' hG hO))
   all_goals
    go_wp2
    go_roundw
    case rel =>
     have hnx := HNX.out w5 (.slice Av nv cv) _ HG5.out HR5.out
     exact ⟨k + 1, by omega, by go_num, ⟨by rw [← HSET.out]; exact hnx.1⟩, ⟨Kd.R_over' (Kd.R_mono (Kd.R_grown (Kd.R_tight rfl HU.out) HG5.out (fun j hj e => (HOK.out j (HRI.out.1 j e.symm)).1 hj)) (fun _ _ => trivial)) (v := .slice (some ⟨gO, 0, none⟩) 0 0) (fun j e => by cases e; exact ⟨_, blk_grown HCO.out HG5.out HNO.out⟩) (by decide) hnx.2⟩, ⟨Kd.R_over' (Kd.R_over' HF.out (Kd.R_typed HRI.out) (by decide) HG5.out) (v := .slice (some ⟨gO, 0, none⟩) 0 0) (fun j e => by cases e; exact ⟨_, blk_grown HCO.out HG5.out HNO.out⟩) (by decide) hnx.2⟩, ⟨blk_grown (blk_grown HBB.out HG5.out (Kd.R_ne HRI.out HBB.out (by decide))) hnx.2 (fun e => HN8.out (by injection e))⟩, ⟨(HBr.out.grown HG5.out HBr.out.size (fun j e => Kd.R_base HRI.out j e)).grown hnx.2 (Nat.le_trans HBr.out.size HG5.out.size) (fun j e => by cases e; exact hgO)⟩⟩
    case measure => simp [intOf]; omega
end

end Go.Proofs.Ytkeomlmlimkebaa.QA
