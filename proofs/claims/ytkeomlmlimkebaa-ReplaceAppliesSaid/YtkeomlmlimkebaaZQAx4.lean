import Derived.Test.YtkeomlmlimkebaaZQAx0
import Derived.Test.YtkeomlmlimkebaaZQAx1
import Derived.Test.YtkeomlmlimkebaaZQAx2
import Derived.Test.YtkeomlmlimkebaaZQAx3
import Derived.Test.YtkeomlmlimkebaaZEvKit
import Derived.Test.YtkeomlmlimkebaaLay
import Derived.Test.YtkeomlmlimkebaaZMapKit
import Derived.Test.YtkeomlmlimkebaaZRowOne
import Derived.Test.YtkeomlmlimkebaaZSortRow
import Derived.Carry
import Derived.Deep.RegionHeld3
import Derived.LoopN
import Derived.RegionTactic
import Derived.Shelf.SortM.Plain
import Derived.Shelf.SortM.SortNone
import Derived.StillTailTactics
import Derived.WalkSpells
namespace Go.Proofs.Ytkeomlmlimkebaa.QA
open Go.RowKit Go.Proofs.YtkeomlmlimkebaaW.PrintWords Go.Proofs.YtkeomlmlimkebaaW.PrintLast Go.Proofs.YtkeomlmlimkebaaW.PrintMore
open Aside0 renaming mk → am
open World renaming block_lt_of_cell? → bq
attribute [local go_sem] max2_int min2_int max_two min_two max_three min_three max_four min_four
set_option linter.unusedVariables false
set_option linter.unusedSimpArgs false

attribute [local go_sem high] eqA69
def replace_user.f (k : Nat) (l0_0 : List (List Int)) (a0_1 : Int) (l0_2 : List Int) (l0_3 : List Bool) (a1 : Int) : Option (Int) := (slices_Index_int_int.f k l0_2 a1).bind fun t112 => (some t112)
set_option maxHeartbeats 8000000 in
set_option maxRecDepth 100000 in
theorem replace_user.calls (k : Nat) (A0_0 : Option Addr) (c0_0 : Nat) (l0_0 : List (List Int)) (a0_1 : Int) (A0_2 : Option Addr) (c0_2 : Nat) (l0_2 : List Int) (A0_3 : Option Addr) (c0_3 : Nat) (l0_3 : List Bool) (a1 : Int) (r : Int) (w : World) (hr0_0 : Kd.C (Kd.slice 3 (Kd.int .i64)) w A0_0 l0_0.length l0_0) (hc0_0 : l0_0.length ≤ c0_0) (hr0_2 : Kd.C (Kd.int .i64) w A0_2 l0_2.length l0_2) (hc0_2 : l0_2.length ≤ c0_2) (hr0_3 : Kd.C Kd.bool w A0_3 l0_3.length l0_3) (hc0_3 : l0_3.length ≤ c0_3) (h : replace_user.f k l0_0 a0_1 l0_2 l0_3 a1 = some r) :
  Calls Try.prog 47 #[.agg #[.slice A0_0 l0_0.length c0_0, .int .i64 a0_1, .slice A0_2 l0_2.length c0_2, .slice A0_3 l0_3.length c0_3], .int .i64 a1] w fun e w' => e = .returned (.int .i64 r) ∧ Below w.heap.size w w' := by
 have hu33 := Try.underlying33
 have HR0_0 := am hr0_0
 have HC0_0 := am hc0_0
 clear hr0_0 hc0_0
 have HR0_2 := am hr0_2
 have HC0_2 := am hc0_2
 clear hr0_2 hc0_2
 have HR0_3 := am hr0_3
 have HC0_3 := am hc0_3
 clear hr0_3 hc0_3
 have HB := am (Below.refl w.heap.size w)
 have H : ((slices_Index_int_int.f k l0_2 a1).bind fun t112 => (some t112)) = some r := h
 clear h
 replace H := Option.bind_eq_some_iff.mp H
 obtain ⟨t112, A30, H⟩ := H
 replace H : (some t112) = some r := H
 have A3 := am A30
 clear A30
 obtain rfl := Option.some.inj H
 go_enter Try.func47, Try.ntmps47
 go_wp2_with (first | ((with_reducible refine gate_dst (N := 2) rfl ?_); refine box_event ?hg (N := 2) ?hd (cs := #[.slice A0_0 l0_0.length c0_0, .int .i64 a0_1, .slice A0_2 l0_2.length c0_2, .slice A0_3 l0_3.length c0_3]) (t := 33) ?hr ?_; (case hd | hg => rfl); (case hr => first | (go_simp; done) | (go_simp; rfl)); intro gb111 hg w4 hbox hb; have BK111 := am hbox; have GW111 := sG HB hg; have GE111 := sG HB hg; replace HB := bS HB hb; clear hb hbox hg; obtain ⟨_, _, _, _, _, _, _, _⟩ := zC4 BK111) | ((with_reducible refine gate_callee (f := 56) rfl ?_); refine goesL_ (some 8) rfl rfl Try.func56 (by kernel_rfl) rfl #[.slice A0_2 l0_2.length c0_2, .int .i64 a1] rfl (by (try simp only [pml]); first | done | rfl | (simp only [pdt]; rfl)) ?_; (with_reducible refine (slices_Index_int_int.calls k _ _ l0_2 a1 t112 _ ?side1 ?side2 A3.out).mono ?_); (case side1 => repeat (first | exact (Kd.C_below HR0_2.out HB.out) | (with_reducible refine Kd.C_alloc ?_ _) | (with_reducible refine Kd.C_drewN ?_ _) | (with_reducible refine Kd.C_drew ?_))); (case side2 => exact HC0_2.out); rintro e w' ⟨rfl, ⟨nd, rfl⟩⟩; refine ⟨_, rfl, ?_⟩))
 go_ret
 exact ⟨sqE, fW HB.out⟩

def sortI (l : List Int) : List Int := l.mergeSort fun x y => decide (x ≤ y)
theorem sortI_length (l : List Int) : (sortI l).length = l.length := List.length_mergeSort l
def ins (a : Int) : List Int → List Int
 | [] => [a]
 | b :: r => if a ≤ b then a :: b :: r else b :: ins a r
def insL : List Int → List Int
 | [] => []
 | a :: r => ins a (insL r)
theorem ins_perm (a : Int) : ∀ l, (ins a l).Perm (a :: l)
 | [] => List.Perm.refl _
 | b :: r => by
  unfold ins
  split
  ·exact List.Perm.refl _
  exact ((ins_perm a r).cons b).trans (List.Perm.swap a b r)
theorem insL_perm : ∀ l, (insL l).Perm l
 | [] => List.Perm.refl _
 | a :: r => (ins_perm a _).trans ((insL_perm r).cons a)
theorem ins_sorted (a : Int) : ∀ l : List Int, l.Pairwise (fun x y => x ≤ y) → (ins a l).Pairwise (fun x y => x ≤ y)
 | [], _ => by simp [ins]
 | b :: r, h => by
  have hb := List.pairwise_cons.1 h
  unfold ins
  split
  case isTrue hab =>
   refine List.pairwise_cons.2 ⟨fun x hx => ?_, h⟩
   rcases List.mem_cons.1 hx with rfl | hx
   ·exact hab
   exact Int.le_trans hab (hb.1 x hx)
  case isFalse hab =>
   refine List.pairwise_cons.2 ⟨fun x hx => ?_, ins_sorted a r hb.2⟩
   rcases List.mem_cons.1 ((ins_perm a r).mem_iff.1 hx) with rfl | hx
   ·omega
   exact hb.1 x hx
theorem insL_sorted : ∀ l : List Int, (insL l).Pairwise (fun x y => x ≤ y)
 | [] => List.Pairwise.nil
 | a :: r => ins_sorted a _ (insL_sorted r)
theorem insL_eq (l : List Int) : insL l = sortI l := by
 refine List.Perm.eq_of_pairwise (le := fun x y => x ≤ y) (fun a b _ _ h1 h2 => Int.le_antisymm h1 h2) (insL_sorted l) ?_ ((insL_perm l).trans (List.mergeSort_perm l _).symm)
 have h := List.pairwise_mergeSort (le := fun x y : Int => decide (x ≤ y)) (fun a b c h1 h2 => by simp at h1 h2 ⊢; omega) (fun a b => by simp; omega) l
 exact h.imp (fun {a b} h => by simpa using h)
def slices_Sort_int_int.f (l0 : List Int) : Option (List Int) := if l0.length < 1099511627776 then some (insL l0) else none
set_option maxHeartbeats 1000000 in
set_option maxRecDepth 100000 in
theorem slices_Sort_int_int.calls (P0_ : Nat → Prop) (u9000_ : Value) (l0 : List Int) (r : List Int) (w0 w : World) (hB : Below w0.heap.size w0 w) (ho0 : Kd.R (Kd.int .i64) 3 w w0.heap.size P0_ u9000_ l0) (h : slices_Sort_int_int.f l0 = some r) :
  Calls Try.prog 55 #[u9000_] w fun e w' => e = .returned (.tuple #[]) ∧ Kd.R (Kd.int .i64) 3 w' w0.heap.size (fun k_ => (P0_ k_ ∨ w.heap.size ≤ k_)) u9000_ r ∧ Below w0.heap.size w0 w' ∧ Kept w w' (fun k_ => P0_ k_) := by
 unfold slices_Sort_int_int.f at h
 split at h
 case isFalse => exact absurd h (by simp)
 case isTrue hl =>
 rw [insL_eq] at h
 obtain rfl := Option.some.inj h
 clear h
 rcases List.eq_nil_or_concat l0 with rfl | ⟨l', x', hx⟩
 ·obtain ⟨A1, c1, rfl⟩ := Kd.R_slice ho0
  have hcon := Go.Proofs.AnyM.slices_Sort_int_none (P := Try.prog) Lay.sortI A1 c1 w
  refine Calls.mono hcon ?_
  rintro e w' ⟨rfl, rfl⟩
  have e0 : sortI ([] : List Int) = [] := List.eq_nil_of_length_eq_zero (sortI_length [])
  rw [e0]
  exact ⟨rfl, Kd.R_mono ho0 (fun _ hk => .inl hk), hB, Kept.refl _ _⟩
 ·have hne : l0 ≠ [] := by rw [hx]; simp
  obtain ⟨g, cap, rfl, hH, hg, hbg, hP⟩ := SortRow.holds_of_R (RowOne.flatI .i64) ho0 hne
  have hcon := Go.Proofs.AnyM.slices_Sort_int (P := Try.prog) Lay.sortI g 0 cap l0 w (RowOne.holds_one _ hH) hg (by omega)
  refine Calls.mono hcon ?_
  rintro e w' ⟨rfl, n, os, rfl⟩
  have hlen : (sortI l0).length = l0.length := sortI_length l0
  have hR := SortRow.R_of_sorted (RowOne.flatI .i64) (by decide) ho0 (by simp) hlen hne n os
  rw [RowOne.putRow_one]
  exact ⟨rfl, Kd.R_mono hR (fun _ hk => .inl hk), SortRow.below_sorted (d := Kd.int .i64) hB g n _ os hbg, SortRow.kept_sorted (d := Kd.int .i64) w g n _ os _ hP⟩

section
open Go.Proofs.Ytkeomlmlimkebaa.EvKit Go.Proofs.Ytkeomlmlimkebaa.MapKit
attribute [local go_sem] max2_int min2_int max_two min_two Oper.semAt_some
set_option linter.unusedVariables false
set_option linter.unusedSimpArgs false

theorem R_ne_map {α : Type} {d : Kd α} {e : Nat} {w : World} {base : Nat} {ok : Nat → Prop} {v : Value} {xs : List α} {P : Program} {k' e' : TypeId} {b n : Nat} {M : List (Int × Int)} (h : Kd.R d e w base ok v xs) (hm : MapI P k' e' w b n M) : some b ≠ v.ownBlock := fun eq => by
 obtain ⟨cells, hc⟩ := Kd.R_typed h b eq.symm
 obtain ⟨D, ⟨es, clock, h1, _⟩, _⟩ := hm
 rw [hc] at h1
 cases h1
theorem R_put {e : Nat} {w w' : World} {base : Nat} {ok : Nat → Prop} {v : Value} {xs : List Int} {b : Nat} (h : Kd.R (Kd.int .i64) e w base ok v xs) (hg : w.grownBy w' (some b)) (hne : some b ≠ v.ownBlock) : Kd.R (Kd.int .i64) e w' base ok v xs :=
 Kd.R_mono (Kd.R_grown (Kd.R_tight rfl h) hg (fun k hk => by rw [hk]; exact fun e => hne e.symm)) (fun k hk => h.1 k hk.symm)
theorem user_ev (l0_0 : List (List Int)) (a0_1 : Int) (l0_2 : List Int) (l0_3 : List Bool) (x : Int) (hl : l0_2.length < 1099511627776) : Ev (fun k => replace_user.f k l0_0 a0_1 l0_2 l0_3 x) (idxI l0_2 x) := by
 unfold replace_user.f
 exact Ev.bind (index_ev l0_2 x hl) (Ev.now _)
theorem user_is {A0_0 : Option Addr} {c0_0 : Nat} {l0_0 : List (List Int)} {a0_1 : Int} {A0_2 : Option Addr} {c0_2 : Nat} {l0_2 : List Int} {A0_3 : Option Addr} {c0_3 : Nat} {l0_3 : List Bool} (x : Int) (w : World) (hr0_0 : Kd.C (Kd.slice 3 (Kd.int .i64)) w A0_0 l0_0.length l0_0) (hc0_0 : l0_0.length ≤ c0_0) (hr0_2 : Kd.C (Kd.int .i64) w A0_2 l0_2.length l0_2) (hc0_2 : l0_2.length ≤ c0_2) (hr0_3 : Kd.C Kd.bool w A0_3 l0_3.length l0_3) (hc0_3 : l0_3.length ≤ c0_3) (hl : l0_2.length < 1099511627776) :
  Calls Try.prog 47 #[.agg #[.slice A0_0 l0_0.length c0_0, .int .i64 a0_1, .slice A0_2 l0_2.length c0_2, .slice A0_3 l0_3.length c0_3], .int .i64 x] w fun e w' => e = .returned (.int .i64 (idxI l0_2 x)) ∧ Below w.heap.size w w' := by
 obtain ⟨K, h⟩ := user_ev l0_0 a0_1 l0_2 l0_3 x hl
 exact replace_user.calls K A0_0 c0_0 l0_0 a0_1 A0_2 c0_2 l0_2 A0_3 c0_3 l0_3 x _ w hr0_0 hc0_0 hr0_2 hc0_2 hr0_3 hc0_3 (h K (Nat.le_refl _))
theorem repair_ne : ∀ (k : Nat) (M : List (Int × Int)) (uses : List Int) (stone piece : Int) (out r : List S52), replace_repair.l0 k M uses stone piece out = some r → r ≠ []
 | 0, M, uses, stone, piece, out, r, h => by simp [replace_repair.l0] at h
 | k + 1, M, uses, stone, piece, out, r, h => by
  simp only [replace_repair.l0] at h
  repeat (split at h; case' isFalse => cases h)
  split at h
  ·obtain rfl := Option.some.inj h
   simp
  exact repair_ne k _ _ _ _ _ _ h
mutual
def replace_search.l0 : Nat → List (List Int) → List Int → List Bool → Int → List (Int × Int) → List Int → List Int → Int → Option (Sum (List S52) (List Int × List Int))
 | 0, _, _, _, _, _, _, _, _ => none
 | k + 1, fits, uses, fixed, stone, M, q, p, a =>
  if a < (q.length : Int) then (if 0 ≤ a then (if 0 ≤ rd q a then (if rd q a < (fits.length : Int) then replace_search.l1 k fits uses fixed stone M q p a (rd q a) 0 else none) else none) else none)
  else (slices_Sort_int_int.f q).bind fun q' => (slices_Sort_int_int.f p).bind fun p' => some (.inr (q', p'))
def replace_search.l1 : Nat → List (List Int) → List Int → List Bool → Int → List (Int × Int) → List Int → List Int → Int → Int → Int → Option (Sum (List S52) (List Int × List Int))
 | 0, _, _, _, _, _, _, _, _, _, _ => none
 | k + 1, fits, uses, fixed, stone, M, q, p, a, s, i =>
  if i < ((rd_L1 fits s).length : Int) then (if 0 ≤ i then (if -9223372036854775808 ≤ rd (rd_L1 fits s) i then (if rd (rd_L1 fits s) i ≤ 9223372036854775807 then
   (if (mget M (rd (rd_L1 fits s) i)).isSome = true then replace_search.l1 k fits uses fixed stone M q p a s (wrap64 (i + 1))
    else if M.length < 1000000 then (if p.length < 1000000 then
    (if idxI uses (rd (rd_L1 fits s) i) < 0 then (replace_repair.f k uses (M ++ [(rd (rd_L1 fits s) i, s)]) (rd (rd_L1 fits s) i) stone).bind fun L => some (.inl L)
     else if idxI uses (rd (rd_L1 fits s) i) < (fixed.length : Int) then
     (if fixed.getD (idxI uses (rd (rd_L1 fits s) i)).toNat false = true then replace_search.l1 k fits uses fixed stone (M ++ [(rd (rd_L1 fits s) i, s)]) q (p ++ [rd (rd_L1 fits s) i]) a s (wrap64 (i + 1))
      else if q.length < 1000000 then replace_search.l1 k fits uses fixed stone (M ++ [(rd (rd_L1 fits s) i, s)]) (q ++ [idxI uses (rd (rd_L1 fits s) i)]) (p ++ [rd (rd_L1 fits s) i]) a s (wrap64 (i + 1)) else none)
     else none) else none) else none) else none) else none) else none)
  else replace_search.l0 k fits uses fixed stone M q p (wrap64 (a + 1))
end
def replace_search.f (k : Nat) (l0_0 : List (List Int)) (a0_1 : Int) (l0_2 : List Int) (l0_3 : List Bool) (a1 : Int) : Option (Sum (List S52) (List Int × List Int)) :=
 if l0_2.length < 1099511627776 then replace_search.l0 k l0_0 l0_2 l0_3 a1 [] [a1] [] 0 else none
def SPost (w : World) (e : Ending) (w' : World) : Sum (List S52) (List Int × List Int) → Prop
 | .inl L => ∃ v0 : Value, e = .returned (.tuple #[v0, .slice none 0 0, .slice none 0 0]) ∧ Kd.R k52 52 w' w.heap.size (fun _ => True) v0 L ∧ L ≠ [] ∧ Below w.heap.size w w'
 | .inr (q, p) => ∃ v1 v2 : Value, e = .returned (.tuple #[.slice none 0 0, v1, v2]) ∧ Kd.R (Kd.int .i64) 3 w' w.heap.size (fun k_ => some k_ ≠ v2.ownBlock) v1 q ∧ Kd.R (Kd.int .i64) 3 w' w.heap.size (fun k_ => some k_ ≠ v1.ownBlock) v2 p ∧ Below w.heap.size w w'
theorem if_some {c : Prop} [Decidable c] {α : Type} {x : Option α} {r : α} (h : (if c then x else none) = some r) : c ∧ x = some r := by
 by_cases hc : c
 ·exact ⟨hc, by rw [if_pos hc] at h; exact h⟩
 rw [if_neg hc] at h; cases h
theorem box4 {B g : Nat} {W w1 : World} {a b c d : Value} {t : TypeId} (h : Below B W w1) (hz : g < B) (hb : W.heap[g]? = some (.cells #[a, b, c, d] t (0, 0))) : w1.cell? ⟨g, 0, none⟩ = some a ∧ w1.cell? ⟨g, 1, none⟩ = some b ∧ w1.cell? ⟨g, 2, none⟩ = some c ∧ w1.cell? ⟨g, 3, none⟩ = some d :=
 have hb' := (h.block g hz).trans hb
 ⟨(blk_cell hb' 0).trans rfl, (blk_cell hb' 1).trans rfl, (blk_cell hb' 2).trans rfl, (blk_cell hb' 3).trans rfl⟩
set_option maxHeartbeats 8000000 in
set_option maxRecDepth 100000 in
theorem replace_search.calls (k : Nat) (A0_0 : Option Addr) (c0_0 : Nat) (l0_0 : List (List Int)) (a0_1 : Int) (A0_2 : Option Addr) (c0_2 : Nat) (l0_2 : List Int) (A0_3 : Option Addr) (c0_3 : Nat) (l0_3 : List Bool) (a1 : Int) (r : Sum (List S52) (List Int × List Int)) (w : World) (hr0_0 : Kd.C (Kd.slice 3 (Kd.int .i64)) w A0_0 l0_0.length l0_0) (hc0_0 : l0_0.length ≤ c0_0) (hr0_2 : Kd.C (Kd.int .i64) w A0_2 l0_2.length l0_2) (hc0_2 : l0_2.length ≤ c0_2) (hr0_3 : Kd.C Kd.bool w A0_3 l0_3.length l0_3) (hc0_3 : l0_3.length ≤ c0_3) (h : replace_search.f k l0_0 a0_1 l0_2 l0_3 a1 = some r) :
  Calls Try.prog 38 #[.agg #[.slice A0_0 l0_0.length c0_0, .int .i64 a0_1, .slice A0_2 l0_2.length c0_2, .slice A0_3 l0_3.length c0_3], .int .i64 a1] w fun e w' => SPost w e w' r := by
 have hu33 := Try.underlying33
 have hu84 := Try.underlying84
 have hmm := @run_makeMap Try.prog
 have hn0 := hr0_0.2.1
 unfold replace_search.f at h
 split at h
 case isFalse => cases h
 case isTrue hlu =>
 have HLU := am hlu
 have HR0 := am hr0_0
 have HR2 := am hr0_2
 have HR3 := am hr0_3
 have H' := am h
 clear hr0_0 hr0_2 hr0_3 h hlu
 go_enter Try.func38, Try.ntmps38
 go_wp2_with ((with_reducible refine gate_dst (N := 19) rfl ?_); refine Kd.R_lit (Kd.int .i64) _ 3 ?hg (N := 19) ?hd (xs := [a1]) (inner := [.int .i64 a1]) (ok := fun _ => True) (okp := fun _ => True) ?hr ?hp (fun _ hk => hk) trivial (Below.refl _ _) (Nat.le_refl _) (by simp) ?_; (case hd | hg => rfl); (case hr => first | (go_simp; done) | (go_simp; rfl)); (case hp => exact Reps.one rfl (Reps.none _ _)); intro v8 w8 ho8 hb8 hg_ hnew_; clear hg_ hnew_; have HQ := am ho8; have HB8 := am hb8; clear ho8 hb8)
 obtain ⟨W1, hW1⟩ : ∃ W1, W1 = w.alloc (.cells #[.slice A0_0 l0_0.length c0_0, .int .i64 a0_1, .slice A0_2 l0_2.length c0_2, .slice A0_3 l0_3.length c0_3] 33) := ⟨_, rfl⟩
 have hz1 : W1.heap.size = w.heap.size + 1 := by rw [hW1]; simp
 have hb1 : Below w.heap.size w W1 := by rw [hW1]; exact (Below.refl _ _).alloc (Nat.le_refl _) _
 have b1 : W1.heap[w.heap.size]? = some (.cells #[.slice A0_0 l0_0.length c0_0, .int .i64 a0_1, .slice A0_2 l0_2.length c0_2, .slice A0_3 l0_3.length c0_3] 33 (0, 0)) := by rw [hW1]; exact blk_new w _
 have hm1 : MapI Try.prog 3 3 (W1.alloc (Obj.map #[] 0)) W1.heap.size 0 [] := MapI.made W1 Try.prog 3 3
 rw [← hW1] at HQ HB8
 have hb8 : Below (W1.alloc (Obj.map #[] 0)).heap.size (W1.alloc (Obj.map #[] 0)) w8 := HB8.out
 have hsz : (W1.alloc (Obj.map #[] 0)).heap.size = W1.heap.size + 1 := by simp
 have HM0 := am (hm1.below hb8 (by rw [hsz]; exact Nat.lt_succ_self _))
 have HBW := am (((Below.refl W1.heap.size W1).alloc (Nat.le_refl _) (Obj.map #[] 0)).trans (hb8.mono (by rw [hsz]; exact Nat.le_succ _)))
 have HQW := am (Kd.R_lower (base' := W1.heap.size) HQ.out (by rw [hsz]; exact Nat.le_succ _))
 have HB1 := am hb1
 have HBX := am b1
 have HZ := am (show w.heap.size < W1.heap.size by rw [hz1]; exact Nat.lt_succ_self _)
 have EZ := am hz1
 rw [← hz1]
 clear hW1 hz1 hb1 b1 hm1 hb8 hsz HQ HB8
 go_loopg [8, 9, 10] k (fun kq v8 v9 v10 wr => ∃ (M : List (Int × Int)) (q p : List Int) (a : Int), v10 = .int .i64 a ∧ Aside0 (replace_search.l0 kq l0_0 l0_2 l0_3 a1 M q p a = some r) ∧ Aside0 (kq ≤ k) ∧ Aside0 (MapI Try.prog 3 3 wr W1.heap.size M.length M) ∧ Aside0 (Kd.R (Kd.int .i64) 3 wr W1.heap.size (fun k_ => some k_ ≠ (v9 : Value).ownBlock) v8 q) ∧ Aside0 (Kd.R (Kd.int .i64) 3 wr W1.heap.size (fun k_ => some k_ ≠ (v8 : Value).ownBlock) v9 p) ∧ Aside0 (Below W1.heap.size W1 wr))
 case atStart => exact ⟨[], [a1], [], 0, rfl, H', ⟨Nat.le_refl _⟩, HM0, ⟨Kd.R_mono HQW.out (fun k hk => by simp [Value.ownBlock])⟩, ⟨Kd.R_nil _ _ _ _ _⟩, HBW⟩
 case round =>
  clear H' HM0 HQW HBW
  obtain ⟨M, q, p, a, rfl, HA, HK1, HM, HQ, HP, HB⟩ := hrel
  cases gk with
  | zero => exact absurd HA.out (by simp [replace_search.l0])
  | succ k1 =>
   have H := HA.out
   clear HA
   simp only [replace_search.l0] at H
   obtain ⟨Aq, cq, eq8, hcq, hCq⟩ := Kd.R_reads HQ.out
   split at H
   case isTrue c1 =>
    split at H
    case isFalse => cases H
    case isTrue c2 =>
    split at H
    case isFalse => cases H
    case isTrue c3 =>
    split at H
    case isFalse => cases H
    case isTrue c4 =>
    obtain ⟨adq, eAq, hq⟩ := at_I hCq a.toNat (by omega)
    have er : rd q a = q.getD a.toNat 0 := rfl
    rw [← er] at hq
    obtain ⟨s, hs⟩ : ∃ s, s = rd q a := ⟨_, rfl⟩
    rw [← hs] at c3 c4 H hq
    subst eAq
    cases eq8
    obtain ⟨ad0, Ar, cr, eA0, hrow, hcr, hCr⟩ := at_L1 (Kd.C_below HR0.out HB1.out) s c3 (by omega)
    subst eA0
    have hrow' := (HB.out.cell (bq W1 _ hrow)).trans hrow
    obtain ⟨g0, g1, g2, g3⟩ := box4 HB.out HZ.out HBX.out
    have HCR := am hCr
    have H' := am H
    have HSW := am hs
    clear H hrow hCr hCq er hs
    have c2' : decide (0 ≤ a) = true := decide_eq_true c2
    go_wp2_with fail
    clear g0 g1 g2 g3 hrow' hq
    go_loopg [36, 8, 9] k1 (fun kq v36 v8 v9 wr => ∃ (M : List (Int × Int)) (q p : List Int) (i : Int), v36 = .int .i64 i ∧ Aside0 (replace_search.l1 kq l0_0 l0_2 l0_3 a1 M q p a s i = some r) ∧ Aside0 (kq ≤ k1) ∧ Aside0 (MapI Try.prog 3 3 wr W1.heap.size M.length M) ∧ Aside0 (Kd.R (Kd.int .i64) 3 wr W1.heap.size (fun k_ => some k_ ≠ (v9 : Value).ownBlock) v8 q) ∧ Aside0 (Kd.R (Kd.int .i64) 3 wr W1.heap.size (fun k_ => some k_ ≠ (v8 : Value).ownBlock) v9 p) ∧ Aside0 (Below W1.heap.size W1 wr))
    case atStart => exact ⟨M, q, p, 0, rfl, H', ⟨Nat.le_refl _⟩, HM, HQ, HP, HB⟩
    case round =>
     clear H' HM HQ HP HB
     obtain ⟨M, q, p, i, rfl, HA, HK2, HM, HQ, HP, HB⟩ := hrel
     cases gk with
     | zero => exact absurd HA.out (by simp [replace_search.l1])
     | succ k2 =>
      have H := HA.out
      clear HA
      simp only [replace_search.l1] at H
      by_cases e1 : i < ((rd_L1 l0_0 s).length : Int)
      case neg =>
       rw [if_neg e1] at H
       have H' := am H
       have e1' : decide (i < ((rd_L1 l0_0 s).length : Int)) = false := decide_eq_false e1
       clear H e1
       go_wp2_with fail
       go_roundg k2
       case measure => have := HK1.out; have := HK2.out; omega
       case rel => exact ⟨M, q, p, _, rfl, H', ⟨by have := HK1.out; have := HK2.out; omega⟩, HM, HQ, HP, HB⟩
      rw [if_pos e1] at H
      obtain ⟨e2, H⟩ := if_some H
      obtain ⟨e3, H⟩ := if_some H
      obtain ⟨e4, H⟩ := if_some H
      obtain ⟨adr, eAr, hx⟩ := at_I (Kd.C_below HCR.out HB.out) i.toNat (by omega)
      have er : rd (rd_L1 l0_0 s) i = (rd_L1 l0_0 s).getD i.toNat 0 := rfl
      rw [← er] at hx
      obtain ⟨x, hxx⟩ : ∃ x, x = rd (rd_L1 l0_0 s) i := ⟨_, rfl⟩
      rw [← hxx] at e3 e4 H hx
      subst eAr
      have HWX := am (show wfi x from wf64.2 ⟨e3, e4⟩)
      clear er hxx
      obtain ⟨c, hc⟩ : ∃ c, (mget M x).getD 0 = c := ⟨_, rfl⟩
      subst hc
      by_cases e5 : (mget M x).isSome = true
      case pos =>
       rw [if_pos e5] at H
       have H' := am H
       have HSEEN := am e5
       clear H e5
       go_wp2_with ((at_lookup; refine wpList_map_ok _ rfl _ _ 84 rfl 3 3 Try.underlying3 Try.underlying84 Try.underlying3 (zeroI _) W1.heap.size M.length M rfl HM.out x rfl HWX.out _ rfl true HSEEN.out ?_))
       go_roundg k2
       case measure => have := HK2.out; omega
       case rel => exact ⟨M, q, p, _, rfl, H', ⟨by have := HK2.out; omega⟩, HM, HQ, HP, HB⟩
      rw [if_neg e5] at H
      have HSEEN := am (show (mget M x).isSome = false by simpa using e5)
      clear e5
      obtain ⟨e6, H⟩ := if_some H
      obtain ⟨e7, H⟩ := if_some H
      have HML := am (show M.length < maxLen by unfold maxLen; omega)
      have LMP := am e7
      have HWS := am (show wfi s from wf64.2 ⟨by omega, by omega⟩)
      clear e6 e7
      obtain ⟨o, ho⟩ : ∃ o, idxI l0_2 x = o := ⟨_, rfl⟩
      rw [ho] at H
      have HO := am ho
      clear ho
      by_cases e8 : o < 0
      case pos =>
       rw [if_pos e8] at H
       obtain ⟨L, hL, hr⟩ := Option.bind_eq_some_iff.1 H
       obtain rfl := Option.some.inj hr
       have HREP := am hL
       clear H hL hr
       go_wp2_with (first | (at_lookup; refine wpList_map_ok _ rfl _ _ 84 rfl 3 3 Try.underlying3 Try.underlying84 Try.underlying3 (zeroI _) W1.heap.size M.length M rfl HM.out x rfl HWX.out _ rfl false HSEEN.out ?_) | (at_mapUpdate; refine wpList_map_put _ rfl _ _ _ 84 rfl 3 3 Try.underlying3 Try.underlying84 Try.underlying3 W1.heap.size M.length M rfl HM.out HML.out x s rfl rfl HWX.out HWS.out ?_; intro w6 hm6 ht6; have n1 := am hm6; have n2 := am (R_put HQ.out ht6.grown (R_ne_map HQ.out HM.out)); have n3 := am (R_put HP.out ht6.grown (R_ne_map HP.out HM.out)); have n4 := am (HB.out.grown ht6.grown HB.out.size (fun r e => by cases e; exact Nat.le_refl _)); clear HM HQ HP HB hm6 ht6; have HM := n1; have HQ := n2; have HP := n3; have HB := n4; clear n1 n2 n3 n4) | ((with_reducible refine gate_builtin (b := .append) (xs := #[.tmp 50, .tmp 52]) rfl ?_); at_builtin; refine Kd.R_append (Kd.int .i64) (w0 := W1) W1.heap.size rfl (.tmp 50) (.tmp 52) 23 3 (.int .i64 0) 8 rfl Try.underlying23 info3 rfl (by decide) (by omega) _ p x [.int .i64 x] (fun k_ => some k_ ≠ (u8 : Value).ownBlock) (fun _ => False) rfl rfl ?aP (fun _ hk => hk.elim) ?aF ?aO ?aB ?aS ?aL ?_; (case aP => exact rfl); (case aB => exact (fW HB.out)); (case aF => exact (fun k_ hk => Kd.fresh' (Kd.R_lt (fR HQ.out)) k_ hk)); (case aO => exact (fR HP.out)); (case aS => exact (below_size (fW HB.out))); (case aL => have := LMP.out; omega); intro v1 w7 ho hb hg hat; have n1 := am (HM.out.grown hg (R_ne_map HP.out HM.out)); have n2 := am (Kd.R_mono (Kd.R_after (ok := fun _ => True) (Kd.R_mono HQ.out (fun _ hk => ⟨trivial, hk⟩)) hg hat) (fun _ hk => hk.2)); have n3 := am ho; have n4 := am hb; clear HM HQ HP HB ho hb hg hat; have HM := n1; have HQ := n2; have HP := n3; have HB := n4; obtain ⟨g0, g1, g2, g3⟩ := box4 HB.out HZ.out HBX.out; clear n1 n2 n3 n4) | (go_at_call 47; refine (user_is x _ (Kd.C_below (Kd.C_below HR0.out HB1.out) HB.out) hc0_0 (Kd.C_below (Kd.C_below HR2.out HB1.out) HB.out) hc0_2 (Kd.C_below (Kd.C_below HR3.out HB1.out) HB.out) hc0_3 HLU.out).mono ?_; rintro e w' ⟨rfl, hb⟩; rw [HO.out]; have n1 := am (HM.out.below hb HM.out.lt); have n2 := am (Kd.R_below HQ.out hb); have n3 := am (Kd.R_below HP.out hb); have n4 := am (HB.out.trans (hb.mono HB.out.size)); clear HM HQ HP HB hb g0 g1 g2 g3; have HM := n1; have HQ := n2; have HP := n3; have HB := n4; obtain ⟨g0, g1, g2, g3⟩ := box4 HB.out HZ.out HBX.out; clear n1 n2 n3 n4; try (have h3 := (HB.out.cell (bq W1 _ HC3.out)).trans HC3.out)) | (go_at_call 54; refine (replace_repair.calls k2 _ c0_0 l0_0 a0_1 _ c0_2 l0_2 _ c0_3 l0_3 W1.heap.size _ (M ++ [(x, s)]) x a1 L _ (Kd.C_below (Kd.C_below HR2.out HB1.out) HB.out) hc0_2 HM.out HREP.out).mono ?_; rintro e w9 ⟨v0, rfl, hR, hb⟩; have HR9 := am hR; have HB9 := am hb; clear hR hb))
       exact bodyPost_ret (v := .tuple #[v0, .slice none 0 0, .slice none 0 0]) (by simp [results, Try.results38, go_sem]) rfl ⟨v0, rfl, Kd.R_lower HR9.out (Nat.le_trans (Nat.le_of_lt HZ.out) HB.out.size), repair_ne _ _ _ _ _ _ _ HREP.out, HB1.out.trans ((HB.out.trans (HB9.out.mono HB.out.size)).mono (Nat.le_of_lt HZ.out))⟩
      case neg =>
      rw [if_neg e8] at H
      obtain ⟨e9, H⟩ := if_some H
      obtain ⟨ad3, eA3, hcell3⟩ := at_B (Kd.C_below HR3.out HB1.out) o.toNat (by omega)
      obtain ⟨f, hf⟩ : ∃ f, f = l0_3.getD o.toNat false := ⟨_, rfl⟩
      rw [← hf] at hcell3 H
      have HC3 := am hcell3
      subst eA3
      clear hcell3 hf
      cases f with
      | true =>
       rw [if_pos rfl] at H
       have H' := am H
       clear H
       go_wp2_with (first | (at_lookup; refine wpList_map_ok _ rfl _ _ 84 rfl 3 3 Try.underlying3 Try.underlying84 Try.underlying3 (zeroI _) W1.heap.size M.length M rfl HM.out x rfl HWX.out _ rfl false HSEEN.out ?_) | (at_mapUpdate; refine wpList_map_put _ rfl _ _ _ 84 rfl 3 3 Try.underlying3 Try.underlying84 Try.underlying3 W1.heap.size M.length M rfl HM.out HML.out x s rfl rfl HWX.out HWS.out ?_; intro w6 hm6 ht6; have n1 := am hm6; have n2 := am (R_put HQ.out ht6.grown (R_ne_map HQ.out HM.out)); have n3 := am (R_put HP.out ht6.grown (R_ne_map HP.out HM.out)); have n4 := am (HB.out.grown ht6.grown HB.out.size (fun r e => by cases e; exact Nat.le_refl _)); clear HM HQ HP HB hm6 ht6; have HM := n1; have HQ := n2; have HP := n3; have HB := n4; clear n1 n2 n3 n4) | ((with_reducible refine gate_builtin (b := .append) (xs := #[.tmp 50, .tmp 52]) rfl ?_); at_builtin; refine Kd.R_append (Kd.int .i64) (w0 := W1) W1.heap.size rfl (.tmp 50) (.tmp 52) 23 3 (.int .i64 0) 8 rfl Try.underlying23 info3 rfl (by decide) (by omega) _ p x [.int .i64 x] (fun k_ => some k_ ≠ (u8 : Value).ownBlock) (fun _ => False) rfl rfl ?aP (fun _ hk => hk.elim) ?aF ?aO ?aB ?aS ?aL ?_; (case aP => exact rfl); (case aB => exact (fW HB.out)); (case aF => exact (fun k_ hk => Kd.fresh' (Kd.R_lt (fR HQ.out)) k_ hk)); (case aO => exact (fR HP.out)); (case aS => exact (below_size (fW HB.out))); (case aL => have := LMP.out; omega); intro v1 w7 ho hb hg hat; have n1 := am (HM.out.grown hg (R_ne_map HP.out HM.out)); have n2 := am (Kd.R_mono (Kd.R_after (ok := fun _ => True) (Kd.R_mono HQ.out (fun _ hk => ⟨trivial, hk⟩)) hg hat) (fun _ hk => hk.2)); have n3 := am ho; have n4 := am hb; clear HM HQ HP HB ho hb hg hat; have HM := n1; have HQ := n2; have HP := n3; have HB := n4; obtain ⟨g0, g1, g2, g3⟩ := box4 HB.out HZ.out HBX.out; clear n1 n2 n3 n4) | (go_at_call 47; refine (user_is x _ (Kd.C_below (Kd.C_below HR0.out HB1.out) HB.out) hc0_0 (Kd.C_below (Kd.C_below HR2.out HB1.out) HB.out) hc0_2 (Kd.C_below (Kd.C_below HR3.out HB1.out) HB.out) hc0_3 HLU.out).mono ?_; rintro e w' ⟨rfl, hb⟩; rw [HO.out]; have n1 := am (HM.out.below hb HM.out.lt); have n2 := am (Kd.R_below HQ.out hb); have n3 := am (Kd.R_below HP.out hb); have n4 := am (HB.out.trans (hb.mono HB.out.size)); clear HM HQ HP HB hb g0 g1 g2 g3; have HM := n1; have HQ := n2; have HP := n3; have HB := n4; obtain ⟨g0, g1, g2, g3⟩ := box4 HB.out HZ.out HBX.out; clear n1 n2 n3 n4; try (have h3 := (HB.out.cell (bq W1 _ HC3.out)).trans HC3.out)))
       go_roundg k2
       case measure => have := HK2.out; omega
       case rel => exact ⟨_, _, _, _, rfl, H', ⟨by have := HK2.out; omega⟩, ⟨by rw [List.length_append]; exact HM.out⟩, HQ, HP, HB⟩
      | false =>
       rw [if_neg (by simp)] at H
       obtain ⟨e10, H⟩ := if_some H
       have LMQ := am e10
       have H' := am H
       clear H e10
       go_wp2_with (first | (at_lookup; refine wpList_map_ok _ rfl _ _ 84 rfl 3 3 Try.underlying3 Try.underlying84 Try.underlying3 (zeroI _) W1.heap.size M.length M rfl HM.out x rfl HWX.out _ rfl false HSEEN.out ?_) | (at_mapUpdate; refine wpList_map_put _ rfl _ _ _ 84 rfl 3 3 Try.underlying3 Try.underlying84 Try.underlying3 W1.heap.size M.length M rfl HM.out HML.out x s rfl rfl HWX.out HWS.out ?_; intro w6 hm6 ht6; have n1 := am hm6; have n2 := am (R_put HQ.out ht6.grown (R_ne_map HQ.out HM.out)); have n3 := am (R_put HP.out ht6.grown (R_ne_map HP.out HM.out)); have n4 := am (HB.out.grown ht6.grown HB.out.size (fun r e => by cases e; exact Nat.le_refl _)); clear HM HQ HP HB hm6 ht6; have HM := n1; have HQ := n2; have HP := n3; have HB := n4; clear n1 n2 n3 n4) | ((with_reducible refine gate_builtin (b := .append) (xs := #[.tmp 50, .tmp 52]) rfl ?_); at_builtin; refine Kd.R_append (Kd.int .i64) (w0 := W1) W1.heap.size rfl (.tmp 50) (.tmp 52) 23 3 (.int .i64 0) 8 rfl Try.underlying23 info3 rfl (by decide) (by omega) _ p x [.int .i64 x] (fun k_ => some k_ ≠ (u8 : Value).ownBlock) (fun _ => False) rfl rfl ?aP (fun _ hk => hk.elim) ?aF ?aO ?aB ?aS ?aL ?_; (case aP => exact rfl); (case aB => exact (fW HB.out)); (case aF => exact (fun k_ hk => Kd.fresh' (Kd.R_lt (fR HQ.out)) k_ hk)); (case aO => exact (fR HP.out)); (case aS => exact (below_size (fW HB.out))); (case aL => have := LMP.out; omega); intro v1 w7 ho hb hg hat; have n1 := am (HM.out.grown hg (R_ne_map HP.out HM.out)); have n2 := am (Kd.R_mono (Kd.R_after (ok := fun _ => True) (Kd.R_mono HQ.out (fun _ hk => ⟨trivial, hk⟩)) hg hat) (fun _ hk => hk.2)); have n3 := am ho; have n4 := am hb; clear HM HQ HP HB ho hb hg hat; have HM := n1; have HQ := n2; have HP := n3; have HB := n4; obtain ⟨g0, g1, g2, g3⟩ := box4 HB.out HZ.out HBX.out; clear n1 n2 n3 n4) | (go_at_call 47; refine (user_is x _ (Kd.C_below (Kd.C_below HR0.out HB1.out) HB.out) hc0_0 (Kd.C_below (Kd.C_below HR2.out HB1.out) HB.out) hc0_2 (Kd.C_below (Kd.C_below HR3.out HB1.out) HB.out) hc0_3 HLU.out).mono ?_; rintro e w' ⟨rfl, hb⟩; rw [HO.out]; have n1 := am (HM.out.below hb HM.out.lt); have n2 := am (Kd.R_below HQ.out hb); have n3 := am (Kd.R_below HP.out hb); have n4 := am (HB.out.trans (hb.mono HB.out.size)); clear HM HQ HP HB hb g0 g1 g2 g3; have HM := n1; have HQ := n2; have HP := n3; have HB := n4; obtain ⟨g0, g1, g2, g3⟩ := box4 HB.out HZ.out HBX.out; clear n1 n2 n3 n4; try (have h3 := (HB.out.cell (bq W1 _ HC3.out)).trans HC3.out)) | ((with_reducible refine gate_builtin (b := .append) (xs := #[.tmp 70, .tmp 72]) rfl ?_); at_builtin; refine Kd.R_append (Kd.int .i64) (w0 := W1) W1.heap.size rfl (.tmp 70) (.tmp 72) 23 3 (.int .i64 0) 8 rfl Try.underlying23 info3 rfl (by decide) (by omega) _ q o [.int .i64 o] (fun k_ => some k_ ≠ (v1 : Value).ownBlock) (fun _ => False) rfl rfl ?aP (fun _ hk => hk.elim) ?aF ?aO ?aB ?aS ?aL ?_; (case aP => exact rfl); (case aB => exact (fW HB.out)); (case aF => exact (fun k_ hk => Kd.fresh' (Kd.R_lt (fR HP.out)) k_ hk)); (case aO => exact (fR HQ.out)); (case aS => exact (below_size (fW HB.out))); (case aL => have := LMQ.out; omega); intro v2 w8 ho hb hg hat; have n1 := am (HM.out.grown hg (R_ne_map HQ.out HM.out)); have n2 := am (Kd.R_mono (Kd.R_after (ok := fun _ => True) (Kd.R_mono HP.out (fun _ hk => ⟨trivial, hk⟩)) hg hat) (fun _ hk => hk.2)); have n3 := am ho; have n4 := am hb; clear HM HQ HP HB ho hb hg hat; have HM := n1; have HP := n2; have HQ := n3; have HB := n4; clear n1 n2 n3 n4))
       go_roundg k2
       case measure => have := HK2.out; omega
       case rel => exact ⟨_, _, _, _, rfl, H', ⟨by have := HK2.out; omega⟩, ⟨by rw [List.length_append]; exact HM.out⟩, HQ, HP, HB⟩
   case isFalse c1 =>
    obtain ⟨q', hq', H2⟩ := Option.bind_eq_some_iff.1 H
    obtain ⟨p', hp', hr⟩ := Option.bind_eq_some_iff.1 H2
    obtain rfl := Option.some.inj hr
    obtain ⟨Ap, cp, eq9, hcp, hCp⟩ := Kd.R_reads HP.out
    have HSQ := am hq'
    have HSP := am hp'
    have HNE := am HQ.out.1
    have c1' : decide (a < (q.length : Int)) = false := decide_eq_false c1
    cases eq8
    cases eq9
    clear H H2 hr hq' hp' c1 hCq hCp hcq hcp
    go_wp2_with (first
     | (go_at_call 55; refine (slices_Sort_int_int.calls (fun k_ => some k_ = (.slice Aq q.length cq : Value).ownBlock) _ q q' W1 _ (fW HB.out) (Kd.R_mono (Kd.R_tight rfl (fR HQ.out)) (fun k_ hk => hk)) HSQ.out).mono ?_; rintro e w9 ⟨rfl, hR, hb, hk⟩; have n2 := am hR; have n3 := am (Kd.R_kept HP.out hk (fun k_ h1 h2 => h1 h2)); have n4 := am hb; have n5 := am hk; clear HM HQ HP HB hR hb hk; have HQ9 := n2; have HP := n3; have HB := n4; clear n2 n3 n4)
     | (go_at_call 55; refine (slices_Sort_int_int.calls (fun k_ => some k_ = (.slice Ap p.length cp : Value).ownBlock) _ p p' W1 _ (fW HB.out) (Kd.R_mono (Kd.R_tight rfl (fR HP.out)) (fun k_ hk => hk)) HSP.out).mono ?_; rintro e w10 ⟨rfl, hR, hb, hk⟩; have HP10 := am hR; have HQ10 := am (Kd.R_kept (Kd.R_tight rfl HQ9.out) hk (fun k_ h1 h2 => HNE.out k_ h1.symm h2)); have HB10 := am hb; clear hR hb hk))
    exact bodyPost_ret (v := .tuple #[.slice none 0 0, .slice Aq q.length cq, .slice Ap p.length cp]) (by simp [results, Try.results38, go_sem]) rfl ⟨_, _, rfl, Kd.R_lower (Kd.R_mono HQ10.out (fun k_ h1 h2 => HNE.out k_ h1.symm h2)) (Nat.le_of_lt HZ.out), Kd.R_lower (Kd.R_mono (Kd.R_tight rfl HP10.out) (fun k_ h1 h2 => HNE.out k_ h2.symm h1)) (Nat.le_of_lt HZ.out), HB1.out.trans (HB10.out.mono (Nat.le_of_lt HZ.out))⟩
end

section
open Go.Proofs.Ytkeomlmlimkebaa.EvKit Go.Proofs.Ytkeomlmlimkebaa.MapKit
attribute [local go_sem] max2_int min2_int max_two min_two Oper.semAt_some
set_option linter.unusedVariables false
set_option linter.unusedSimpArgs false
def replace_Repair.f (l0_0 : List (List Int)) (a0_1 : Int) (l0_2 : List Int) (l0_3 : List Bool) (a1 : Int) : Option (List S52 × Int) :=
 (replace_open.f 10000 l0_0 a0_1 l0_2 l0_3 a1).bind fun e => if e = 0 then (replace_search.f 10000 l0_0 a0_1 l0_2 l0_3 a1).bind fun s => some (match s with | .inl L => (L, 0) | .inr _ => ([], 9)) else some ([], e)
theorem R_some {w : World} {base : Nat} {ok : Nat → Prop} {v : Value} {L : List S52} (h : Kd.R k52 52 w base ok v L) (hL : L ≠ []) : ∃ ad n c, v = .slice (some ad) n c := by
 obtain ⟨A, c, hv, _, hC⟩ := Kd.R_reads h
 rcases L with _ | ⟨x, L⟩
 ·exact absurd rfl hL
 obtain ⟨ad, hA, _⟩ := at_T52 hC 0 (by omega) (by simp)
 exact ⟨ad, _, c, by rw [hv, hA]⟩
set_option maxHeartbeats 4000000 in
set_option maxRecDepth 100000 in
theorem replace_Repair.calls (A0_0 : Option Addr) (c0_0 : Nat) (l0_0 : List (List Int)) (a0_1 : Int) (A0_2 : Option Addr) (c0_2 : Nat) (l0_2 : List Int) (A0_3 : Option Addr) (c0_3 : Nat) (l0_3 : List Bool) (a1 : Int) (r1 : List S52) (r2 : Int) (w : World) (hr0_0 : Kd.C (Kd.slice 3 (Kd.int .i64)) w A0_0 l0_0.length l0_0) (hc0_0 : l0_0.length ≤ c0_0) (hr0_2 : Kd.C (Kd.int .i64) w A0_2 l0_2.length l0_2) (hc0_2 : l0_2.length ≤ c0_2) (hr0_3 : Kd.C Kd.bool w A0_3 l0_3.length l0_3) (hc0_3 : l0_3.length ≤ c0_3) (h : replace_Repair.f l0_0 a0_1 l0_2 l0_3 a1 = some (r1, r2)) :
  Calls Try.prog 12 #[.agg #[.slice A0_0 l0_0.length c0_0, .int .i64 a0_1, .slice A0_2 l0_2.length c0_2, .slice A0_3 l0_3.length c0_3], .int .i64 a1] w fun e w' => ∃ v0_ : Value, e = .returned (.tuple #[v0_, .int .i64 r2]) ∧ Kd.R k52 52 w' w.heap.size (fun _ => True) v0_ r1 ∧ Below w.heap.size w w' := by
 have hu33 := Try.underlying33
 obtain ⟨e, h1, h2⟩ := Option.bind_eq_some_iff.1 h
 obtain ⟨W1, hW1⟩ : ∃ W1, W1 = w.alloc (.cells #[.slice A0_0 l0_0.length c0_0, .int .i64 a0_1, .slice A0_2 l0_2.length c0_2, .slice A0_3 l0_3.length c0_3] 33) := ⟨_, rfl⟩
 have hb1 : Below w.heap.size w W1 := by rw [hW1]; exact (Below.refl _ _).alloc (Nat.le_refl _) _
 have b1 : W1.heap[w.heap.size]? = some (.cells #[.slice A0_0 l0_0.length c0_0, .int .i64 a0_1, .slice A0_2 l0_2.length c0_2, .slice A0_3 l0_3.length c0_3] 33 (0, 0)) := by rw [hW1]; exact blk_new w _
 have hz : w.heap.size < W1.heap.size := by rw [hW1]; simp
 have hopen := replace_open.calls 10000 A0_0 c0_0 l0_0 a0_1 A0_2 c0_2 l0_2 A0_3 c0_3 l0_3 a1 e W1 (Kd.C_below hr0_0 hb1) hc0_0 (Kd.C_below hr0_2 hb1) hc0_2 (Kd.C_below hr0_3 hb1) hc0_3 h1
 have HOP := am hopen
 have HR0 := am hr0_0
 have HR2 := am hr0_2
 have HR3 := am hr0_3
 have HB1 := am hb1
 have HBX := am b1
 have HZ := am hz
 have HW := am hW1
 clear hopen hr0_0 hr0_2 hr0_3 hb1 b1 hz hW1 h1 h
 by_cases he : e = 0
 rotate_left
 ·rw [if_neg he] at h2
  obtain ⟨rfl, rfl⟩ : r1 = [] ∧ r2 = e := by
   have := Option.some.inj h2
   simp only [Prod.mk.injEq] at this
   exact ⟨this.1.symm, this.2.symm⟩
  have e1 : (r2 == 0) = false := beq_eq_false_iff_ne.2 he
  have e2 : (r2 != 0) = true := by simpa using he
  clear h2 he
  go_enter Try.func12, Try.ntmps12
  go_wp2_with (go_at_call 37; rw [← HW.out]; refine HOP.out.mono ?_; rintro e w' ⟨rfl, hb⟩; have HB := am hb; clear hb)
  go_ret2
  exact ⟨_, rfl, Kd.R_nil _ _ _ _ _, HB1.out.trans (HB.out.mono (Nat.le_of_lt HZ.out))⟩
 subst he
 rw [if_pos rfl] at h2
 obtain ⟨s, h3, h4⟩ := Option.bind_eq_some_iff.1 h2
 have H3 := am h3
 have h5 := Option.some.inj h4
 clear h2 h3 h4
 cases s with
 | inl L =>
  obtain ⟨rfl, rfl⟩ : r1 = L ∧ r2 = 0 := by simp only [Prod.mk.injEq] at h5; exact ⟨h5.1.symm, h5.2.symm⟩
  clear h5
  go_enter Try.func12, Try.ntmps12
  go_wp2_with (first | (go_at_call 37; rw [← HW.out]; refine HOP.out.mono ?_; rintro e w' ⟨rfl, hb⟩; obtain ⟨g0, g1, g2, g3⟩ := box4 hb HZ.out HBX.out; have HB := am hb; clear hb) | (go_at_call 38; refine (replace_search.calls 10000 A0_0 c0_0 l0_0 a0_1 A0_2 c0_2 l0_2 A0_3 c0_3 l0_3 a1 _ _ (Kd.C_below (Kd.C_below HR0.out HB1.out) HB.out) hc0_0 (Kd.C_below (Kd.C_below HR2.out HB1.out) HB.out) hc0_2 (Kd.C_below (Kd.C_below HR3.out HB1.out) HB.out) hc0_3 H3.out).mono ?_; rintro e w9 hS; obtain ⟨v0, rfl, hv, hne, hb9⟩ := hS; obtain ⟨ad, n, c, rfl⟩ := R_some hv hne; have hq := fun W => Lib.run_eql_slice_nil (P := Try.prog) W 29 52 (some ad) n c 0 0 Try.underlying29; have hq2 := fun W => run_neq_slice_nil_any (P := Try.prog) W 29 52 (some ad) n c 0 0 Try.underlying29; have HV := am hv; have HNE := am hne; have HB9 := am hb9; clear hv hne hb9))
  go_ret2
  exact ⟨_, rfl, Kd.R_lower HV.out (Nat.le_trans (Nat.le_of_lt HZ.out) HB.out.size), HB1.out.trans ((HB.out.trans (HB9.out.mono HB.out.size)).mono (Nat.le_of_lt HZ.out))⟩
 | inr x =>
  obtain ⟨rfl, rfl⟩ : r1 = [] ∧ r2 = 9 := by simp only [Prod.mk.injEq] at h5; exact ⟨h5.1.symm, h5.2.symm⟩
  clear h5
  have hq := fun W => Lib.run_eql_slice_nil (P := Try.prog) W 29 52 none 0 0 0 0 Try.underlying29
  have hq2 := fun W => run_neq_slice_nil_any (P := Try.prog) W 29 52 none 0 0 0 0 Try.underlying29
  go_enter Try.func12, Try.ntmps12
  go_wp2_with (first | (go_at_call 37; rw [← HW.out]; refine HOP.out.mono ?_; rintro e w' ⟨rfl, hb⟩; obtain ⟨g0, g1, g2, g3⟩ := box4 hb HZ.out HBX.out; have HB := am hb; clear hb) | (go_at_call 38; refine (replace_search.calls 10000 A0_0 c0_0 l0_0 a0_1 A0_2 c0_2 l0_2 A0_3 c0_3 l0_3 a1 _ _ (Kd.C_below (Kd.C_below HR0.out HB1.out) HB.out) hc0_0 (Kd.C_below (Kd.C_below HR2.out HB1.out) HB.out) hc0_2 (Kd.C_below (Kd.C_below HR3.out HB1.out) HB.out) hc0_3 H3.out).mono ?_; rintro e w9 hS; obtain ⟨v1, v2, rfl, hv1, hv2, hb9⟩ := hS; have HV1 := am hv1; have HV2 := am hv2; have HB9 := am hb9; clear hv1 hv2 hb9))
  go_ret2
  exact ⟨_, rfl, Kd.R_nil _ _ _ _ _, HB1.out.trans ((HB.out.trans (HB9.out.mono HB.out.size)).mono (Nat.le_of_lt HZ.out))⟩
end

def r_SameChanges.l0 : Nat → List (S69) → List (S69) → Int → Option (Bool)
 | 0, _, _, _ => none
 | k + 1, x0, x1, x5 => if x5 < (x0.length : Int) then (if 0 ≤ x5 then (if x5 < (x1.length : Int) then (if (!(((rd_T69 x0 x5).f0) == ((rd_T69 x1 x5).f0)) || (!(((rd_T69 x0 x5).f1) == ((rd_T69 x1 x5).f1)) || (!(((rd_T69 x0 x5).f2) == ((rd_T69 x1 x5).f2))))) = true then (some false) else (r_SameChanges.l0 k x0 x1 (wrap64 (x5 + 1)))) else (none)) else (none)) else (some true)
def r_SameChanges.f (k : Nat) (l0 : List (S69)) (l1 : List (S69)) : Option (Bool) := if (l0.length : Int) = (l1.length : Int) then (r_SameChanges.l0 k l0 l1 0) else (some false)
theorem r_SameChanges.mono_l : ∀ k, (∀ y0 y1 y2, LeO (r_SameChanges.l0 k y0 y1 y2) (r_SameChanges.l0 (k + 1) y0 y1 y2))
 | 0 => fun _ _ _ r h => by simp [r_SameChanges.l0] at h
 | k + 1 => by
  have ih0 := r_SameChanges.mono_l k
  intro y0 y1 y2
  unfold r_SameChanges.l0
  repeat' first
  | (with_reducible exact ih0 _ _ _)
  | (with_reducible exact LeO.refl _)
  | (with_reducible exact LeO.none _)
  | (with_reducible refine LeO.ite ?_ ?_)
  | (with_reducible refine LeO.bind ?_ (fun _ => ?_))
  | exact ih0 _ _ _
  | exact LeO.none _
  | refine LeO.ite ?_ ?_
  | refine LeO.bind ?_ (fun _ => ?_)
theorem r_SameChanges.mono : ∀ a0 a1 k, LeO (r_SameChanges.f k a0 a1) (r_SameChanges.f (k + 1) a0 a1) := by
 intro a0 a1 k
 have ih0 := r_SameChanges.mono_l k
 unfold r_SameChanges.f
 repeat' first
   | (with_reducible exact ih0 _ _ _)
   | (with_reducible exact LeO.refl _)
   | (with_reducible exact LeO.none _)
   | (with_reducible refine LeO.ite ?_ ?_)
   | (with_reducible refine LeO.bind ?_ (fun _ => ?_))
   | exact ih0 _ _ _
   | exact LeO.none _
   | refine LeO.ite ?_ ?_
   | refine LeO.bind ?_ (fun _ => ?_)
set_option maxHeartbeats 8000000 in
set_option maxRecDepth 100000 in
theorem r_SameChanges.calls (k : Nat) (A0 : Option Addr) (c0 : Nat) (l0 : List (S69)) (A1 : Option Addr) (c1 : Nat) (l1 : List (S69)) (r : Bool) (w : World) (hr0 : Kd.C k69 w A0 l0.length l0) (hc0 : l0.length ≤ c0) (hr1 : Kd.C k69 w A1 l1.length l1) (hc1 : l1.length ≤ c1) (h : r_SameChanges.f k l0 l1 = some r) :
  Calls Try.prog 16 #[.slice A0 l0.length c0, .slice A1 l1.length c1] w fun e w' => e = .returned (.bool r) ∧ Drawn0 w w' := by
 have hu69 := Try.underlying69
 have HR0 := am hr0
 have HC0 := am hc0
 clear hr0 hc0
 have HR1 := am hr1
 have HC1 := am hc1
 clear hr1 hc1
 have H : (if (l0.length : Int) = (l1.length : Int) then (r_SameChanges.l0 k l0 l1 0) else (some false)) = some r := h
 clear h
 by_cases c3 : (l0.length : Int) = (l1.length : Int)
 ·rw [if_pos c3] at H
  have c3b0 : ((l0.length : Int) == (l1.length : Int)) = true := beq_iff_eq.mpr c3
  have c3b1 : ((l0.length : Int) != (l1.length : Int)) = false := bne_eq_false_iff_eq.mpr c3
  have c3b2 : (l0.length == l1.length) = true := by first | simpa using c3 | (simp at c3 ⊢; omega)
  clear c3
  have H' := am H
  clear H
  go_enter Try.func16, Try.ntmps16
  go_wp2
  repeat (go_quiet (fail); try go_wp2)
  go_loopg [5] k (fun kq v5 w' => ∃ (x5_1 : Int), v5 = .int .i64 x5_1 ∧ Aside0 (r_SameChanges.l0 kq l0 l1 x5_1 = some r) ∧ Aside0 (kq ≤ k) ∧ Drawn0 w w')
  case atStart => exact ⟨(0), sqD, H', ⟨Nat.le_refl _⟩, by repeat (first | exact Drawn0.refl _ | apply Drawn0.step)⟩
  case round =>
   clear H'
   try clear c1;try clear p2;try clear c3;try clear c3b0;try clear c3b1;try clear c3b2
   obtain ⟨x5_1, rfl, HA, HK1, ⟨m1, rfl⟩⟩ := hrel
   cases gk with
   | zero => exact absurd HA.out (by simp [r_SameChanges.l0])
   | succ k1 =>
    have H := HA.out
    clear HA
    simp only [r_SameChanges.l0] at H
    by_cases c4 : x5_1 < (l0.length : Int)
    rotate_left
    ·rw [if_neg c4] at H
     have c4b0 : decide (x5_1 < (l0.length : Int)) = false := decide_eq_false c4
     clear c4
     obtain rfl := Option.some.inj H
     go_wp2
     repeat (go_quiet (fail); try go_wp2)
     go_ret
     exact ⟨by first | rfl | (simp; done) | (simp [*]; done), by repeat (first | exact Drawn0.refl _ | apply Drawn0.step)⟩
    rw [if_pos c4] at H
    have c4b0 : decide (x5_1 < (l0.length : Int)) = true := decide_eq_true c4
    clear c4
    by_cases c5 : 0 ≤ x5_1
    rotate_left
    ·rw [if_neg c5] at H
     exact absurd H (by simp)
    rw [if_pos c5] at H
    have c5b0 : decide (0 ≤ x5_1) = true := decide_eq_true c5
    clear c5
    by_cases c6 : x5_1 < (l1.length : Int)
    rotate_left
    ·rw [if_neg c6] at H
     exact absurd H (by simp)
    rw [if_pos c6] at H
    have c6b0 : decide (x5_1 < (l1.length : Int)) = true := decide_eq_true c6
    clear c6
    by_cases c7 : (!(((rd_T69 l0 x5_1).f0) == ((rd_T69 l1 x5_1).f0)) || (!(((rd_T69 l0 x5_1).f1) == ((rd_T69 l1 x5_1).f1)) || (!(((rd_T69 l0 x5_1).f2) == ((rd_T69 l1 x5_1).f2))))) = true
    ·rw [if_pos c7] at H
     have c7b0 : (!(((rd_T69 l0 x5_1).f0) == ((rd_T69 l1 x5_1).f0)) || (!(((rd_T69 l0 x5_1).f1) == ((rd_T69 l1 x5_1).f1)) || (!(((rd_T69 l0 x5_1).f2) == ((rd_T69 l1 x5_1).f2))))) = true := c7
     clear c7
     obtain rfl := Option.some.inj H
     have p113 : 0 ≤ (x5_1 : Int) := of_decide_eq_true (by assumption)
     have q113 : x5_1 < (l0.length : Int) := of_decide_eq_true (by assumption)
     obtain ⟨ad113, e113, hx113_0, hx113_1, hx113_2⟩ := at_T69 HR0.out x5_1 p113 q113
     cases e113
     replace p113 := eq_true p113
     replace q113 := eq_true q113
     have p114 : 0 ≤ (x5_1 : Int) := of_decide_eq_true (by assumption)
     have q114 : x5_1 < (l1.length : Int) := of_decide_eq_true (by assumption)
     obtain ⟨ad114, e114, hx114_0, hx114_1, hx114_2⟩ := at_T69 HR1.out x5_1 p114 q114
     cases e114
     replace p114 := eq_true p114
     replace q114 := eq_true q114
     go_wp2
     repeat (go_quiet (fail); try go_wp2)
     go_ret
     exact ⟨by first | rfl | (simp; done) | (simp [*]; done), by repeat (first | exact Drawn0.refl _ | apply Drawn0.step)⟩
    rw [if_neg c7] at H
    have c7b0 : (!(((rd_T69 l0 x5_1).f0) == ((rd_T69 l1 x5_1).f0)) || (!(((rd_T69 l0 x5_1).f1) == ((rd_T69 l1 x5_1).f1)) || (!(((rd_T69 l0 x5_1).f2) == ((rd_T69 l1 x5_1).f2))))) = false := by simpa using c7
    clear c7
    have H' := am H
    clear H
    have p113 : 0 ≤ (x5_1 : Int) := of_decide_eq_true (by assumption)
    have q113 : x5_1 < (l0.length : Int) := of_decide_eq_true (by assumption)
    obtain ⟨ad113, e113, hx113_0, hx113_1, hx113_2⟩ := at_T69 HR0.out x5_1 p113 q113
    cases e113
    replace p113 := eq_true p113
    replace q113 := eq_true q113
    have p114 : 0 ≤ (x5_1 : Int) := of_decide_eq_true (by assumption)
    have q114 : x5_1 < (l1.length : Int) := of_decide_eq_true (by assumption)
    obtain ⟨ad114, e114, hx114_0, hx114_1, hx114_2⟩ := at_T69 HR1.out x5_1 p114 q114
    cases e114
    replace p114 := eq_true p114
    replace q114 := eq_true q114
    go_wp2
    repeat (go_quiet (fail); try go_wp2)
    go_roundg k1
    case measure => have := HK1.out; omega
    case rel => exact ⟨(wrap64 (x5_1 + 1)), sqD, H', ⟨by have := HK1.out; omega⟩, by repeat (first | exact Drawn0.refl _ | apply Drawn0.step)⟩
 ·rw [if_neg c3] at H
  have c3b0 : ((l0.length : Int) == (l1.length : Int)) = false := beq_eq_false_iff_ne.mpr c3
  have c3b1 : ((l0.length : Int) != (l1.length : Int)) = true := bne_iff_ne.mpr c3
  have c3b2 : (l0.length == l1.length) = false := by first | simpa using c3 | (simp at c3 ⊢; omega)
  obtain rfl := Option.some.inj H
  go_enter Try.func16, Try.ntmps16
  go_wp2
  repeat (go_quiet (fail); try go_wp2)
  go_ret
  exact ⟨by first | rfl | (simp; done) | (simp [*]; done), by repeat (first | exact Drawn0.refl _ | apply Drawn0.step)⟩

def w_changes.l0 : Nat → List (S52) → List (S69) → Int → Option ((List (S69)))
 | 0, _, _, _ => none
 | k + 1, x0, x3, x4 => if x4 < (x0.length : Int) then (if 0 ≤ x4 then (if x3.length < 5864062014805 then (w_changes.l0 k x0 (x3 ++ [(⟨(rd_T52 x0 x4).f0, (rd_T52 x0 x4).f1, (rd_T52 x0 x4).f2⟩ : S69)]) (wrap64 (x4 + 1))) else (none)) else (none)) else (some x3)
def w_changes.f (k : Nat) (l0 : List (S52)) : Option ((List (S69))) := w_changes.l0 k l0 (([] : List (S69))) 0
theorem w_changes.mono_l : ∀ k, (∀ y0 y1 y2, LeO (w_changes.l0 k y0 y1 y2) (w_changes.l0 (k + 1) y0 y1 y2))
 | 0 => fun _ _ _ r h => by simp [w_changes.l0] at h
 | k + 1 => by
  have ih0 := w_changes.mono_l k
  intro y0 y1 y2
  unfold w_changes.l0
  repeat' first
  | (with_reducible exact ih0 _ _ _)
  | (with_reducible exact LeO.refl _)
  | (with_reducible exact LeO.none _)
  | (with_reducible refine LeO.ite ?_ ?_)
  | (with_reducible refine LeO.bind ?_ (fun _ => ?_))
  | exact ih0 _ _ _
  | exact LeO.none _
  | refine LeO.ite ?_ ?_
  | refine LeO.bind ?_ (fun _ => ?_)
theorem w_changes.mono : ∀ a0 k, LeO (w_changes.f k a0) (w_changes.f (k + 1) a0) := by
 intro a0 k
 have ih0 := w_changes.mono_l k
 unfold w_changes.f
 repeat' first
   | (with_reducible exact ih0 _ _ _)
   | (with_reducible exact LeO.refl _)
   | (with_reducible exact LeO.none _)
   | (with_reducible refine LeO.ite ?_ ?_)
   | (with_reducible refine LeO.bind ?_ (fun _ => ?_))
   | exact ih0 _ _ _
   | exact LeO.none _
   | refine LeO.ite ?_ ?_
   | refine LeO.bind ?_ (fun _ => ?_)
set_option maxHeartbeats 8000000 in
set_option maxRecDepth 100000 in
theorem w_changes.calls (k : Nat) (A0 : Option Addr) (c0 : Nat) (l0 : List (S52)) (r : List (S69)) (w : World) (hr0 : Kd.C k52 w A0 l0.length l0) (hc0 : l0.length ≤ c0) (h : w_changes.f k l0 = some r) :
  Calls Try.prog 17 #[.slice A0 l0.length c0] w fun e w' => ∃ v0_ : Value, e = .returned (v0_) ∧ Kd.R k69 69 w' w.heap.size (fun _ => True) v0_ r ∧ Below w.heap.size w w' := by
 have hu52 := Try.underlying52
 have HR0 := am hr0
 have HC0 := am hc0
 clear hr0 hc0
 have HB := am (Below.refl w.heap.size w)
 have H : (w_changes.l0 k l0 (([] : List (S69))) 0) = some r := h
 clear h
 obtain ⟨y115, hy115⟩ : ∃ y_ : List (S69), y_ = (([] : List (S69))) := ⟨_, rfl⟩
 replace H : (w_changes.l0 k l0 y115 0) = some r := by first | (rw [hy115]; with_reducible exact H) | (have H2_ := (Option.bind_some _ _).symm.trans H; rw [hy115]; with_reducible exact H2_) | (have H2_ := (Option.bind_some _ _).symm.trans H; with_reducible exact H2_) | with_reducible exact H | (rw [hy115]; exact H) | exact H
 have Ny115 := am hy115
 clear hy115
 have H' := am H
 clear H
 go_enter Try.func17, Try.ntmps17
 go_wp2_with (first | ((with_reducible refine gate_dst (N := 5) rfl ?_); refine Kd.R_lit k69 _ 69 ?hg (N := 5) ?hd (xs := ([] : List (S69))) (inner := []) (ok := fun _ => True) (okp := fun _ => True) ?hr ?hp (fun _ hk => hk) trivial (Below.refl _ _) (Nat.le_refl _) (by simp) ?_; (case hd | hg => rfl); (case hr => first | (go_simp; done) | (go_simp; rfl)); (case hp => exact (Reps.none _ _)); intro v116 w2 ho3 hb hg_ hnew_; clear hg_ hnew_; (first | rw [← Ny115.out] at ho3 | (simp only [Int.reduceToNat] at ho3; rw [← Ny115.out] at ho3)); have HO117 := am (Kd.R_lower ho3 (below_size (fW HB.out))); replace HB := bS HB hb; clear hb ho3))
 go_loopg [3, 4] k (fun kq v3 v4 w' => ∃ (x3_1 : List (S69)) (x4_1 : Int), v4 = .int .i64 x4_1 ∧ Aside0 (w_changes.l0 kq l0 x3_1 x4_1 = some r) ∧ Aside0 (kq ≤ k) ∧ Aside0 (Kd.R k69 69 w' w.heap.size (fun _ => True) v3 x3_1) ∧ Aside0 (Below w.heap.size w w'))
 case atStart => exact ⟨(y115), (0), sqD, H', ⟨Nat.le_refl _⟩, ⟨fR HO117.out⟩, ⟨fW HB.out⟩⟩
 case round =>
  clear H'
  try clear c1;try clear p2
  obtain ⟨x3_1, x4_1, rfl, HA, HK1, HO_3, HB⟩ := hrel
  cases gk with
  | zero => exact absurd HA.out (by simp [w_changes.l0])
  | succ k1 =>
   have H := HA.out
   clear HA
   simp only [w_changes.l0] at H
   by_cases c4 : x4_1 < (l0.length : Int)
   ·rw [if_pos c4] at H
    have c4b0 : decide (x4_1 < (l0.length : Int)) = true := decide_eq_true c4
    clear c4
    by_cases c5 : 0 ≤ x4_1
    rotate_left
    ·rw [if_neg c5] at H
     exact absurd H (by simp)
    rw [if_pos c5] at H
    have c5b0 : decide (0 ≤ x4_1) = true := decide_eq_true c5
    clear c5
    by_cases c6 : x3_1.length < 5864062014805
    rotate_left
    ·rw [if_neg c6] at H
     exact absurd H (by simp)
    rw [if_pos c6] at H
    have LMc6 := am c6
    clear c6
    obtain ⟨y119, hy119⟩ : ∃ y_ : List (S69), y_ = (x3_1 ++ [(⟨(rd_T52 l0 x4_1).f0, (rd_T52 l0 x4_1).f1, (rd_T52 l0 x4_1).f2⟩ : S69)]) := ⟨_, rfl⟩
    replace H : (w_changes.l0 k1 l0 y119 (wrap64 (x4_1 + 1))) = some r := by first | (rw [hy119]; with_reducible exact H) | (have H2_ := (Option.bind_some _ _).symm.trans H; rw [hy119]; with_reducible exact H2_) | (have H2_ := (Option.bind_some _ _).symm.trans H; with_reducible exact H2_) | with_reducible exact H | (rw [hy119]; exact H) | exact H
    have Ny119 := am hy119
    clear hy119
    have H' := am H
    clear H
    have p118 : 0 ≤ (x4_1 : Int) := of_decide_eq_true (by assumption)
    have q118 : x4_1 < (l0.length : Int) := of_decide_eq_true (by assumption)
    obtain ⟨ad118, e118, hx118_0, hx118_1, hx118_2⟩ := at_T52 HR0.out x4_1 p118 q118
    cases e118
    replace hx118_0 := cl HB hx118_0
    replace hx118_1 := cl HB hx118_1
    replace hx118_2 := cl HB hx118_2
    replace p118 := eq_true p118
    replace q118 := eq_true q118
    go_wp2_with (first | ((with_reducible refine gate_builtin (b := .append) (xs := #[.tmp 12, .tmp 17]) rfl ?_); at_builtin; refine Kd.R_append k69 (w0 := w) w.heap.size rfl (.tmp 12) (.tmp 17) 36 69 (.agg #[(.int .i64 0), (.int .i64 0), (.int .i64 0)]) 24 rfl Try.underlying36 info69 rfl (by decide) (by omega) u3 x3_1 (⟨(rd_T52 l0 x4_1).f0, (rd_T52 l0 x4_1).f1, (rd_T52 l0 x4_1).f2⟩ : S69) [.int .i64 ((rd_T52 l0 x4_1).f0), .int .i64 ((rd_T52 l0 x4_1).f1), .int .i64 ((rd_T52 l0 x4_1).f2)] (fun _ => True) (fun _ => False) rfl rfl ?aP (fun _ hk => hk.elim) ?aF ?aO ?aB ?aS ?aL ?_; (case aP => exact k69_mkM _ _ _ (⟨(rd_T52 l0 x4_1).f0, (rd_T52 l0 x4_1).f1, (rd_T52 l0 x4_1).f2⟩ : S69)); (case aB => exact (fW HB.out)); (case aF => exact (fun _ _ => trivial)); (case aO => exact (fR HO_3.out)); (case aS => exact (below_size (fW HB.out))); (case aL => have := LMc6.out; omega); intro v120 w7 ho hb hg hat; rw [← Ny119.out] at ho; replace HB := am (hb); have HO121 := am (ho); clear HO_3 ho hb hg hat))
    go_roundg k1
    case measure => have := HK1.out; omega
    case rel => exact ⟨(y119), (wrap64 (x4_1 + 1)), sqD, H', ⟨by have := HK1.out; omega⟩, ⟨fR HO121.out⟩, ⟨fW HB.out⟩⟩
   ·rw [if_neg c4] at H
    have c4b0 : decide (x4_1 < (l0.length : Int)) = false := decide_eq_false c4
    clear c4
    obtain rfl := Option.some.inj H
    go_wp2
    go_ret
    exact ⟨_, sqE, fR HO_3.out, fW HB.out⟩

section
open Go.Proofs.Ytkeomlmlimkebaa.EvKit Go.Proofs.Ytkeomlmlimkebaa.MapKit
attribute [local go_sem] max2_int min2_int max_two min_two Oper.semAt_some
set_option linter.unusedVariables false
set_option linter.unusedSimpArgs false
def replace_Refusal.f (l0_0 : List (List Int)) (a0_1 : Int) (l0_2 : List Int) (l0_3 : List Bool) (a1 : Int) : Option (List Int × List Int × Int) :=
 (replace_open.f 10000 l0_0 a0_1 l0_2 l0_3 a1).bind fun e => if e = 0 then (replace_search.f 10000 l0_0 a0_1 l0_2 l0_3 a1).bind fun s => some (match s with | .inl L => ([], [], 9) | .inr x => (x.1, x.2, 0)) else some ([], [], e)
set_option maxHeartbeats 4000000 in
set_option maxRecDepth 100000 in
theorem replace_Refusal.calls (A0_0 : Option Addr) (c0_0 : Nat) (l0_0 : List (List Int)) (a0_1 : Int) (A0_2 : Option Addr) (c0_2 : Nat) (l0_2 : List Int) (A0_3 : Option Addr) (c0_3 : Nat) (l0_3 : List Bool) (a1 : Int) (r1 r2 : List Int) (r3 : Int) (w : World) (hr0_0 : Kd.C (Kd.slice 3 (Kd.int .i64)) w A0_0 l0_0.length l0_0) (hc0_0 : l0_0.length ≤ c0_0) (hr0_2 : Kd.C (Kd.int .i64) w A0_2 l0_2.length l0_2) (hc0_2 : l0_2.length ≤ c0_2) (hr0_3 : Kd.C Kd.bool w A0_3 l0_3.length l0_3) (hc0_3 : l0_3.length ≤ c0_3) (h : replace_Refusal.f l0_0 a0_1 l0_2 l0_3 a1 = some (r1, r2, r3)) :
  Calls Try.prog 18 #[.agg #[.slice A0_0 l0_0.length c0_0, .int .i64 a0_1, .slice A0_2 l0_2.length c0_2, .slice A0_3 l0_3.length c0_3], .int .i64 a1] w fun e w' => ∃ v0_ v1_ : Value, e = .returned (.tuple #[v0_, v1_, .int .i64 r3]) ∧ Kd.R (Kd.int .i64) 3 w' w.heap.size (fun k_ => some k_ ≠ (v1_ : Value).ownBlock) v0_ r1 ∧ Kd.R (Kd.int .i64) 3 w' w.heap.size (fun k_ => some k_ ≠ (v0_ : Value).ownBlock) v1_ r2 ∧ Below w.heap.size w w' := by
 have hu33 := Try.underlying33
 obtain ⟨e, h1, h2⟩ := Option.bind_eq_some_iff.1 h
 obtain ⟨W1, hW1⟩ : ∃ W1, W1 = w.alloc (.cells #[.slice A0_0 l0_0.length c0_0, .int .i64 a0_1, .slice A0_2 l0_2.length c0_2, .slice A0_3 l0_3.length c0_3] 33) := ⟨_, rfl⟩
 have hb1 : Below w.heap.size w W1 := by rw [hW1]; exact (Below.refl _ _).alloc (Nat.le_refl _) _
 have b1 : W1.heap[w.heap.size]? = some (.cells #[.slice A0_0 l0_0.length c0_0, .int .i64 a0_1, .slice A0_2 l0_2.length c0_2, .slice A0_3 l0_3.length c0_3] 33 (0, 0)) := by rw [hW1]; exact blk_new w _
 have hz : w.heap.size < W1.heap.size := by rw [hW1]; simp
 have hopen := replace_open.calls 10000 A0_0 c0_0 l0_0 a0_1 A0_2 c0_2 l0_2 A0_3 c0_3 l0_3 a1 e W1 (Kd.C_below hr0_0 hb1) hc0_0 (Kd.C_below hr0_2 hb1) hc0_2 (Kd.C_below hr0_3 hb1) hc0_3 h1
 have HOP := am hopen
 have HR0 := am hr0_0
 have HR2 := am hr0_2
 have HR3 := am hr0_3
 have HB1 := am hb1
 have HBX := am b1
 have HZ := am hz
 have HW := am hW1
 clear hopen hr0_0 hr0_2 hr0_3 hb1 b1 hz hW1 h1 h
 by_cases he : e = 0
 ·subst he
  rw [if_pos rfl] at h2
  obtain ⟨s, h3, h4⟩ := Option.bind_eq_some_iff.1 h2
  have H3 := am h3
  have h5 := Option.some.inj h4
  clear h2 h3 h4
  cases s with
  | inl L =>
   obtain ⟨rfl, rfl, rfl⟩ : r1 = [] ∧ r2 = [] ∧ r3 = 9 := by simp only [Prod.mk.injEq] at h5; exact ⟨h5.1.symm, h5.2.1.symm, h5.2.2.symm⟩
   clear h5
   go_enter Try.func18, Try.ntmps18
   go_wp2_with (first | (go_at_call 37; rw [← HW.out]; refine HOP.out.mono ?_; rintro e w' ⟨rfl, hb⟩; obtain ⟨g0, g1, g2, g3⟩ := box4 hb HZ.out HBX.out; have HB := am hb; clear hb) | (go_at_call 38; refine (replace_search.calls 10000 A0_0 c0_0 l0_0 a0_1 A0_2 c0_2 l0_2 A0_3 c0_3 l0_3 a1 _ _ (Kd.C_below (Kd.C_below HR0.out HB1.out) HB.out) hc0_0 (Kd.C_below (Kd.C_below HR2.out HB1.out) HB.out) hc0_2 (Kd.C_below (Kd.C_below HR3.out HB1.out) HB.out) hc0_3 H3.out).mono ?_; rintro e w9 hS; obtain ⟨v0, rfl, hv, hne, hb9⟩ := hS; obtain ⟨ad, n, c, rfl⟩ := R_some hv hne; have hq := fun W => Lib.run_eql_slice_nil (P := Try.prog) W 29 52 (some ad) n c 0 0 Try.underlying29; have hq2 := fun W => run_neq_slice_nil_any (P := Try.prog) W 29 52 (some ad) n c 0 0 Try.underlying29; have HV := am hv; have HNE := am hne; have HB9 := am hb9; clear hv hne hb9))
   exact bodyPost_ret (v := .tuple #[.slice none 0 0, .slice none 0 0, .int .i64 9]) (by simp [results, Try.results18, go_sem]) rfl ⟨_, _, rfl, Kd.R_nil _ _ _ _ _, Kd.R_nil _ _ _ _ _, HB1.out.trans ((HB.out.trans (HB9.out.mono HB.out.size)).mono (Nat.le_of_lt HZ.out))⟩
  | inr x =>
   obtain ⟨rfl, rfl, rfl⟩ : r1 = x.1 ∧ r2 = x.2 ∧ r3 = 0 := by simp only [Prod.mk.injEq] at h5; exact ⟨h5.1.symm, h5.2.1.symm, h5.2.2.symm⟩
   clear h5
   have hq := fun W => Lib.run_eql_slice_nil (P := Try.prog) W 29 52 none 0 0 0 0 Try.underlying29
   have hq2 := fun W => run_neq_slice_nil_any (P := Try.prog) W 29 52 none 0 0 0 0 Try.underlying29
   go_enter Try.func18, Try.ntmps18
   go_wp2_with (first | (go_at_call 37; rw [← HW.out]; refine HOP.out.mono ?_; rintro e w' ⟨rfl, hb⟩; obtain ⟨g0, g1, g2, g3⟩ := box4 hb HZ.out HBX.out; have HB := am hb; clear hb) | (go_at_call 38; refine (replace_search.calls 10000 A0_0 c0_0 l0_0 a0_1 A0_2 c0_2 l0_2 A0_3 c0_3 l0_3 a1 _ _ (Kd.C_below (Kd.C_below HR0.out HB1.out) HB.out) hc0_0 (Kd.C_below (Kd.C_below HR2.out HB1.out) HB.out) hc0_2 (Kd.C_below (Kd.C_below HR3.out HB1.out) HB.out) hc0_3 H3.out).mono ?_; rintro e w9 hS; obtain ⟨v1, v2, rfl, hv1, hv2, hb9⟩ := hS; have HV1 := am hv1; have HV2 := am hv2; have HB9 := am hb9; clear hv1 hv2 hb9))
   exact bodyPost_ret (v := .tuple #[v1, v2, .int .i64 0]) (by simp [results, Try.results18, go_sem]) rfl ⟨_, _, rfl, Kd.R_lower HV1.out (Nat.le_trans (Nat.le_of_lt HZ.out) HB.out.size), Kd.R_lower HV2.out (Nat.le_trans (Nat.le_of_lt HZ.out) HB.out.size), HB1.out.trans ((HB.out.trans (HB9.out.mono HB.out.size)).mono (Nat.le_of_lt HZ.out))⟩
 rw [if_neg he] at h2
 obtain ⟨rfl, rfl, rfl⟩ : r1 = [] ∧ r2 = [] ∧ r3 = e := by
  have := Option.some.inj h2
  simp only [Prod.mk.injEq] at this
  exact ⟨this.1.symm, this.2.1.symm, this.2.2.symm⟩
 have e1 : (r3 == 0) = false := beq_eq_false_iff_ne.2 he
 have e2 : (r3 != 0) = true := by simpa using he
 clear h2 he
 go_enter Try.func18, Try.ntmps18
 go_wp2_with (go_at_call 37; rw [← HW.out]; refine HOP.out.mono ?_; rintro e w' ⟨rfl, hb⟩; have HB := am hb; clear hb)
 exact bodyPost_ret (v := .tuple #[.slice none 0 0, .slice none 0 0, .int .i64 r3]) (by simp [results, Try.results18, go_sem]) rfl ⟨_, _, rfl, Kd.R_nil _ _ _ _ _, Kd.R_nil _ _ _ _ _, HB1.out.trans (HB.out.mono (Nat.le_of_lt HZ.out))⟩
end

end Go.Proofs.Ytkeomlmlimkebaa.QA
