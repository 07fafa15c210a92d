import Derived.Test.YtcofgnbopodahaaJQAx0
import Derived.Test.YtcofgnbopodahaaJQAx5
import Derived.Test.YtcofgnbopodahaaJQAx6
import Derived.Test.YtcofgnbopodahaaJQAx7
import Derived.Test.YtcofgnbopodahaaJQAx8
import Derived.Test.YtcofgnbopodahaaJEvKit
import Derived.Test.YtcofgnbopodahaaLay
import Derived.Test.YtcofgnbopodahaaJMapKit
import Derived.Test.YtcofgnbopodahaaJMapS
import Derived.Test.YtcofgnbopodahaaJRegInv
import Derived.Test.YtcofgnbopodahaaJRowOne
import Derived.Carry
import Derived.Deep.RegionHeld3
import Derived.Deep.RegionLaw
import Derived.IntWalk
import Derived.Lib.SlicesCompact
import Derived.LoopN
import Derived.RegionTactic
import Derived.Shelf.SortM.Plain
import Derived.Shelf.SortM.SortNone
import Derived.StillTailTactics
import Derived.WalkSpells
namespace Go.Proofs.Ytcofgnbopodahaa.QA
open Go.RowKit Go.Proofs.YtcofgnbopodahaaW.PrintWords Go.Proofs.YtcofgnbopodahaaW.PrintLast Go.Proofs.YtcofgnbopodahaaW.PrintMore
open Go.Proofs.YtcofgnbopodahaaW.PrintWords renaming below_alloc → wa, blk_cell → bc, blk_below → bb, below_step → wt
open Aside0 renaming mk → am
attribute [local go_sem] max2_int min2_int max_two min_two max_three min_three max_four min_four
set_option linter.unusedVariables false
set_option linter.unusedSimpArgs false

section
open Go.Proofs.Ytcofgnbopodahaa.EvKit Go.Proofs.Ytcofgnbopodahaa.MapKit
attribute [local go_sem] max2_int min2_int max_two min_two Oper.semAt_some
set_option linter.unusedVariables false
set_option linter.unusedSimpArgs false
theorem flatS : SortRow.Flat Kd.string (fun x => [Value.string x]) := ⟨fun _ _ _ _ _ h => h, fun _ _ _ _ => rfl, fun _ => rfl⟩
def toB (l : List UInt8) : ByteArray := ⟨l.toArray⟩
def ofB (b : ByteArray) : List UInt8 := b.data.toList
def insS (a : List UInt8) : List (List UInt8) → List (List UInt8)
 | [] => [a]
 | b :: r => if a ≤ b then a :: b :: r else b :: insS a r
def insSL : List (List UInt8) → List (List UInt8)
 | [] => []
 | a :: r => insS a (insSL r)
theorem insS_perm (a : List UInt8) : ∀ l, (insS a l).Perm (a :: l)
 | [] => List.Perm.refl _
 | b :: r => by
  unfold insS
  split
  ·exact List.Perm.refl _
  exact ((insS_perm a r).cons b).trans (List.Perm.swap a b r)
theorem insSL_perm : ∀ l, (insSL l).Perm l
 | [] => List.Perm.refl _
 | a :: r => (insS_perm a _).trans ((insSL_perm r).cons a)
theorem insS_sorted (a : List UInt8) : ∀ l : List (List UInt8), l.Pairwise (fun x y => x ≤ y) → (insS a l).Pairwise (fun x y => x ≤ y)
 | [], _ => by simp [insS]
 | b :: r, h => by
  have hb := List.pairwise_cons.1 h
  unfold insS
  split
  ·rename_i hab
   refine List.pairwise_cons.2 ⟨fun x hx => ?_, h⟩
   rcases List.mem_cons.1 hx with rfl | hx
   ·exact hab
   exact List.le_trans hab (hb.1 x hx)
  rename_i hab
  have hba : b ≤ a := (List.le_total a b).resolve_left hab
  refine List.pairwise_cons.2 ⟨fun x hx => ?_, insS_sorted a r hb.2⟩
  rcases List.mem_cons.1 ((insS_perm a r).subset hx) with rfl | hx
  ·exact hba
  exact hb.1 x hx
theorem insSL_sorted : ∀ l : List (List UInt8), (insSL l).Pairwise (fun x y => x ≤ y)
 | [] => List.Pairwise.nil
 | a :: r => insS_sorted a _ (insSL_sorted r)
theorem insSL_eq (l : List (List UInt8)) : l.mergeSort (fun x y => decide (x ≤ y)) = insSL l := by
 refine List.Perm.eq_of_pairwise (le := fun x y => x ≤ y) (fun a b _ _ h1 h2 => List.le_antisymm h1 h2) ?_ (insSL_sorted l) ((List.mergeSort_perm l _).trans (insSL_perm l).symm)
 have h := List.pairwise_mergeSort (le := fun x y : List UInt8 => decide (x ≤ y)) (fun a b c h1 h2 => by simp only [decide_eq_true_eq] at h1 h2 ⊢; exact List.le_trans h1 h2) (fun a b => by simp only [Bool.or_eq_true, decide_eq_true_eq]; exact List.le_total a b) l
 exact h.imp (fun {a b} h => by simpa using h)
def sortB (l : List ByteArray) : List ByteArray := (insSL (l.map ofB)).map toB
theorem sortB_length (l : List ByteArray) : (sortB l).length = l.length := by
 unfold sortB
 rw [List.length_map, (insSL_perm _).length_eq, List.length_map]
theorem getB (ss : List (List UInt8)) (k : Nat) (h : k < ss.length) : Go.Proofs.encStr (ss.toArray[k]!) = Value.string ((ss.map toB).toArray[k]!) := by
 rw [getElem!_pos ss.toArray k (by simpa using h), getElem!_pos (ss.map toB).toArray k (by simpa using h)]
 simp [toB, Go.Proofs.encStr]
theorem putRowB (w : World) (g : Nat) (ss : List (List UInt8)) : Go.Sort.putRow Go.Proofs.encStr w g 0 ss.toArray = Go.Sort.putRow Value.string w g 0 (ss.map toB).toArray := by
 have e : Go.Sort.putCells Go.Proofs.encStr 0 ss.toArray = Go.Sort.putCells Value.string 0 (ss.map toB).toArray := by
  funext c
  unfold Go.Sort.putCells
  apply Array.ext
  ·simp
  intro i h1 h2
  simp only [Array.getElem_mapIdx, List.size_toArray, List.length_map]
  split
  ·rename_i h
   rw [getB ss (i - 0) (by omega)]
  rfl
 unfold Go.Sort.putRow
 rw [e]
theorem holdsB {w : World} {g : Nat} {l : List ByteArray} (h : Go.Sort.Holds Value.string w g 0 l.toArray) : Go.Sort.Holds Go.Proofs.encStr w g 0 (l.map ofB).toArray := by
 intro j hj
 have hj' : j < l.length := by simpa using hj
 have h1 := h j (by simpa using hj')
 rw [getB _ j (by simpa using hj'), List.map_map, show (toB ∘ ofB) = id from rfl, List.map_id]
 exact h1
def slices_Sort_string_string.f (l0 : List ByteArray) : Option (List ByteArray) := if l0.length < 1099511627776 then some (sortB l0) else none
set_option maxHeartbeats 1000000 in
set_option maxRecDepth 100000 in
theorem slices_Sort_string_string.calls (P0_ : Nat → Prop) (u9000_ : Value) (l0 : List ByteArray) (r : List ByteArray) (w0 w : World) (hB : Below w0.heap.size w0 w) (ho0 : Kd.R Kd.string 9 w w0.heap.size P0_ u9000_ l0) (h : slices_Sort_string_string.f l0 = some r) :
  Calls Try.prog 39 #[u9000_] w fun e w' => e = .returned (.tuple #[]) ∧ Kd.R Kd.string 9 w' w0.heap.size (fun k_ => (P0_ k_ ∨ w.heap.size ≤ k_)) u9000_ r ∧ Below w0.heap.size w0 w' ∧ Kept w w' (fun k_ => P0_ k_) := by
 unfold slices_Sort_string_string.f at h
 split at h
 case isFalse => exact absurd h (by simp)
 case isTrue hl =>
 obtain rfl := Option.some.inj h
 clear h
 rcases List.eq_nil_or_concat l0 with rfl | ⟨l', x', hx⟩
 ·obtain ⟨A1, c1, rfl⟩ := Kd.R_slice ho0
  have hcon := Go.Proofs.AnyM.slices_Sort_string_none (P := Try.prog) Lay.sortS A1 c1 w
  refine Calls.mono hcon ?_
  rintro e w' ⟨rfl, rfl⟩
  exact ⟨rfl, Kd.R_mono ho0 (fun _ hk => .inl hk), hB, Kept.refl _ _⟩
 have hne : l0 ≠ [] := by rw [hx]; simp
 obtain ⟨g, cap, rfl, hH, hg, hbg, hP⟩ := SortRow.holds_of_R flatS ho0 hne
 have hcon := Go.Proofs.AnyM.slices_Sort_string (P := Try.prog) Lay.sortS g 0 cap (l0.map ofB) w (holdsB (RowOne.holds_one _ hH)) hg (by rw [List.length_map]; omega)
 rw [List.length_map] at hcon
 refine Calls.mono hcon ?_
 rintro e w' ⟨rfl, n, os, rfl⟩
 have hlen : (sortB l0).length = l0.length := sortB_length l0
 have hR := SortRow.R_of_sorted flatS (by decide) ho0 (by simp) hlen hne n os
 rw [insSL_eq, putRowB, show (insSL (l0.map ofB)).map toB = sortB l0 from rfl, RowOne.putRow_one]
 exact ⟨rfl, Kd.R_mono hR (fun _ hk => .inl hk), SortRow.below_sorted (d := Kd.string) hB g n _ os hbg, SortRow.kept_sorted (d := Kd.string) w g n _ os _ hP⟩
end

section
open Go.Proofs.Ytcofgnbopodahaa.EvKit Go.Proofs.Ytcofgnbopodahaa.MapKit
attribute [local go_sem] max2_int min2_int max_two min_two Oper.semAt_some
set_option linter.unusedVariables false
set_option linter.unusedSimpArgs false
def srcL (k : Nat) (p0 p1 p2 : Int) : List S68 → List ByteArray → Option (List ByteArray)
 | [], out => some out
 | x :: l, out => (box_Has.f k x.f1.f0.f0 x.f1.f0.f1 x.f1.f0.f2 x.f1.f1.f0 x.f1.f1.f1 x.f1.f1.f2 p0 p1 p2).bind fun b => srcL k p0 p1 p2 l (if b = true then (if ofB x.f0 ∈ out.map ofB then out else out ++ [x.f0]) else out)
def model_Sources.f (k : Nat) (l0 : List S68) (a1_0 a1_1 a1_2 : Int) : Option (List ByteArray × Int) :=
 (model_Check.f k l0).bind fun e => if e = 0 then ((model_cell.f a1_0 a1_1 a1_2).bind fun t => if t = true then (if (l0.length < 1000000 ∧ (l0.all fun x => decide (x.f0.size ≤ 1000000)) = true) then (srcL k a1_0 a1_1 a1_2 l0 []).bind fun out => some (sortB out, 0) else none) else some ([], 6)) else some ([], e)
theorem zeroB (w : World) : (zeroValue 4).run Try.prog w = .ok (.bool false) w := by kernel_rfl
theorem R_other {α : Type} {d : Kd α} {e : Nat} {w w' : World} {base : Nat} {ok : Nat → Prop} {v : Value} {xs : List α} {row : Option Nat} (hE : d.E = []) (h : Kd.R d e w base ok v xs) (hg : w.grownBy w' row) (hne : row ≠ v.ownBlock) : Kd.R d e w' base ok v xs :=
 Kd.R_mono (Kd.R_grown (Kd.R_tight hE h) hg (fun _ hk e_ => hne (e_.symm.trans hk))) (fun k hk => h.1 k hk.symm)
theorem R_ne_setB {α : Type} {d : Kd α} {e : Nat} {w : World} {base : Nat} {ok : Nat → Prop} {v : Value} {xs : List α} {P : Program} {k' e' : TypeId} {b n : Nat} {M : List (List UInt8)} (h : Kd.R d e w base ok v xs) (hm : SetB P k' e' w b n M) : some b ≠ v.ownBlock := fun eq => by
 obtain ⟨cells, hc⟩ := Kd.R_typed h b eq.symm
 obtain ⟨D, ⟨es, clock, h1, _⟩, _⟩ := hm
 rw [hc] at h1
 cases h1
set_option maxHeartbeats 4000000 in
set_option maxRecDepth 100000 in
theorem model_Sources.calls (k : Nat) (A0 : Option Addr) (c0 : Nat) (l0 : List S68) (a1_0 a1_1 a1_2 : Int) (r1 : List ByteArray) (r2 : Int) (w : World) (hr0 : Kd.C k68 w A0 l0.length l0) (hc0 : l0.length ≤ c0) (h : model_Sources.f k l0 a1_0 a1_1 a1_2 = some (r1, r2)) :
  Calls Try.prog 14 #[.slice A0 l0.length c0, .agg #[.int .i64 a1_0, .int .i64 a1_1, .int .i64 a1_2]] w fun e w' => ∃ v0_ : Value, e = .returned (.tuple #[v0_, .int .i64 r2]) ∧ Kd.R Kd.string 9 w' w.heap.size (fun _ => True) v0_ r1 ∧ Below w.heap.size w w' := by
 have hu24 := Try.underlying24
 have hu43 := Try.underlying43
 have hmm := @run_makeMap Try.prog
 obtain ⟨e, he, hh⟩ := Option.bind_eq_some_iff.1 h
 replace h := hh
 clear hh
 have hn := hr0.2.1
 have HB2 := am (wa (Below.refl w.heap.size w) (.cells #[.int .i64 a1_0, .int .i64 a1_1, .int .i64 a1_2] 24))
 have J3 := am (blk_new w (.cells #[.int .i64 a1_0, .int .i64 a1_1, .int .i64 a1_2] 24))
 have HR := am hr0
 have HE := am he
 clear hr0 he
 by_cases he0 : e = 0
 case neg =>
  rw [if_neg he0] at h
  obtain ⟨rfl, rfl⟩ : r1 = [] ∧ r2 = e := by have := Option.some.inj h; simp only [Prod.mk.injEq] at this; exact ⟨this.1.symm, this.2.symm⟩
  have e2 : (r2 != 0) = true := by simpa using he0
  clear he0 h
  go_enter Try.func14, Try.ntmps14
  go_wp2_with (go_at_call 15; (with_reducible refine (model_Check.calls k _ c0 l0 r2 _ (Kd.C_below HR.out HB2.out) hc0 HE.out).mono ?_); rintro e w3 ⟨rfl, hb⟩; have HB3 := am (wt HB2.out hb); clear hb)
  go_ret2
  exact ⟨_, rfl, Kd.R_nil _ _ _ _ _, HB3.out⟩
 subst he0
 rw [if_pos rfl] at h
 obtain ⟨t, ht, hh⟩ := Option.bind_eq_some_iff.1 h
 replace h := hh
 clear hh
 have HT := am ht
 clear ht
 cases t with
 | false =>
  rw [if_neg (by simp)] at h
  obtain ⟨rfl, rfl⟩ : r1 = [] ∧ r2 = 6 := by have := Option.some.inj h; simp only [Prod.mk.injEq] at this; exact ⟨this.1.symm, this.2.symm⟩
  clear h
  go_enter Try.func14, Try.ntmps14
  go_wp2_with (first | (go_at_call 15; (with_reducible refine (model_Check.calls k _ c0 l0 0 _ (Kd.C_below HR.out HB2.out) hc0 HE.out).mono ?_); rintro e w3 ⟨rfl, hb⟩; obtain ⟨k0, k1, k2⟩ := cells3 (bb J3.out hb); have HB3 := am (wt HB2.out hb); clear hb) | (go_at_call 36; (with_reducible refine (model_cell.calls _ _ _ false _ HT.out).mono ?_); rintro e w4 ⟨rfl, hb⟩; have HB4 := am (wt HB3.out hb); clear hb k0 k1 k2))
  go_ret2
  exact ⟨_, rfl, Kd.R_nil _ _ _ _ _, HB4.out⟩
 | true =>
  rw [if_pos rfl] at h
  have hl : l0.length < 1000000 ∧ (l0.all fun x => decide (x.f0.size ≤ 1000000)) = true := by
   by_cases hq : l0.length < 1000000 ∧ (l0.all fun x => decide (x.f0.size ≤ 1000000)) = true
   ·exact hq
   rw [if_neg hq] at h; cases h
  rw [if_pos hl] at h
  obtain ⟨hl, hsz⟩ := hl
  obtain ⟨tot, hs, hh⟩ := Option.bind_eq_some_iff.1 h
  replace h := hh
  clear hh
  obtain ⟨rfl, rfl⟩ : r1 = sortB tot ∧ r2 = 0 := by have := Option.some.inj h; simp only [Prod.mk.injEq] at this; exact ⟨this.1.symm, this.2.symm⟩
  have HS := am hs
  have HSZ := am (show ∀ x ∈ l0, x.f0.size ≤ 1000000 from fun x hx => of_decide_eq_true (List.all_eq_true.1 hsz x hx))
  clear h hs hsz
  go_enter Try.func14, Try.ntmps14
  go_wp2_with (first | (go_at_call 15; (with_reducible refine (model_Check.calls k _ c0 l0 0 _ (Kd.C_below HR.out HB2.out) hc0 HE.out).mono ?_); rintro e w3 ⟨rfl, hb⟩; obtain ⟨k0, k1, k2⟩ := cells3 (bb J3.out hb); have J3' := am (bb J3.out hb); have HB3 := am (wt HB2.out hb); clear hb J3) | (go_at_call 36; (with_reducible refine (model_cell.calls _ _ _ true _ HT.out).mono ?_); rintro e w4 ⟨rfl, hb⟩; have HB4 := am (wt HB3.out hb); have J4 := am (bb J3'.out hb); clear hb k0 k1 k2 J3'))
  have hbm := wa (Below.refl w4.heap.size w4) (Obj.map #[] 0)
  have HB5 := am (wt HB4.out hbm)
  have J5 := am (bb J4.out hbm)
  have HM5 := am (SetB.made w4 Try.prog 9 4)
  have HGM := am HB4.out.size
  have HNJ := am (show w.heap.size ≠ w4.heap.size from fun e => Nat.lt_irrefl _ (e ▸ blk_lt J4.out))
  generalize hW5 : w4.alloc (Obj.map #[] 0) = W5 at hbm HB5 J5 HM5 ⊢
  generalize hgm : w4.heap.size = gm at HM5 HGM HNJ ⊢
  clear hbm hW5 hgm HB4 HB3 J4
  go_loopw [8, 22] (fun v i wr => ∃ (j : Nat) (out : List ByteArray), j ≤ l0.length ∧ i = .int .i64 j ∧ Aside0 (SetB Try.prog 9 4 wr gm j (out.map ofB)) ∧ Aside0 (Kd.R Kd.string 9 wr w.heap.size (fun _ => True) v out) ∧ Aside0 (Below w.heap.size w wr) ∧ Aside0 (wr.heap[w.heap.size]? = some (.cells #[.int .i64 a1_0, .int .i64 a1_1, .int .i64 a1_2] 24 (0, 0))) ∧ Aside0 (srcL k a1_0 a1_1 a1_2 (l0.drop j) out = some tot) ∧ Aside0 (out.length ≤ j))
   (fun _ i _ => l0.length - (intOf i).toNat)
  case atStart => exact ⟨0, [], Nat.zero_le _, rfl, HM5, ⟨Kd.R_nil _ _ _ _ _⟩, HB5, J5, HS, ⟨Nat.le_refl _⟩⟩
  case round =>
   clear HM5 HB5 J5 HS
   obtain ⟨j, out, hk, rfl, HM, HO, HB, J, HP, HL⟩ := hrel
   by_cases hlt : j < l0.length
   rotate_left
   ·obtain rfl : j = l0.length := by omega
    have hp := HP.out
    rw [List.drop_length] at hp
    obtain rfl : out = tot := Option.some.inj hp
    have HF := am (show slices_Sort_string_string.f out = some (sortB out) from if_pos (by have := HL.out; omega))
    clear hp HP
    go_wp2_with (go_at_call 39; (with_reducible refine (slices_Sort_string_string.calls (fun _ => True) _ out (sortB out) w _ HB.out HO.out HF.out).mono ?_); rintro e w5 ⟨rfl, ho, hb, hk⟩; have HO5 := am (Kd.R_mono ho (ok' := fun _ => True) (fun _ _ => trivial)); have HB5 := am hb; clear ho hb hk)
    go_ret2
    exact ⟨_, rfl, HO5.out, HB5.out⟩
   obtain ⟨ad, e, h0, h1, h2, h3, h4, h5, h6, h7⟩ := at_T68 HR.out (j : Int) (by omega) (by omega)
   cases e
   replace h0 := cl HB h0
   replace h1 := cl HB h1
   replace h2 := cl HB h2
   replace h3 := cl HB h3
   replace h4 := cl HB h4
   replace h5 := cl HB h5
   replace h6 := cl HB h6
   replace h7 := cl HB h7
   rw [Int.toNat_natCast] at h0 h1 h2 h3 h4 h5 h6 h7
   have hp := HP.out
   rw [EvKit.drop_cons l0 j z68 hlt, show l0.getD j z68 = rd_T68 l0 (j : Int) by simp [rd_T68]] at hp
   have hxm : rd_T68 l0 (j : Int) ∈ l0 := by unfold rd_T68; rw [Int.toNat_natCast, List.getD_eq_getElem?_getD, List.getElem?_eq_getElem hlt]; exact List.getElem_mem hlt
   obtain ⟨x, hx⟩ : ∃ x, x = rd_T68 l0 (j : Int) := ⟨_, rfl⟩
   rw [← hx] at h0 h1 h2 h3 h4 h5 h6 h7 hp hxm
   have HXS := am (show x.f0.size ≤ maxLen by have := HSZ.out x hxm; unfold maxLen; omega)
   have HML := am (show j < maxLen by unfold maxLen; omega)
   unfold srcL at hp
   obtain ⟨b, hb, hp2⟩ := Option.bind_eq_some_iff.1 hp
   have HQ := am (fun W => box_Has.calls k x.f1.f0.f0 x.f1.f0.f1 x.f1.f0.f2 x.f1.f1.f0 x.f1.f1.f1 x.f1.f1.f2 a1_0 a1_1 a1_2 b W hb)
   obtain ⟨k0, k1, k2⟩ := cells3 (blk_alloc J.out (.cells #[.string x.f0, .int .i64 x.f1.f0.f0, .int .i64 x.f1.f0.f1, .int .i64 x.f1.f0.f2, .int .i64 x.f1.f1.f0, .int .i64 x.f1.f1.f1, .int .i64 x.f1.f1.f2, .int .i64 x.f2] 68))
   have HNG := am (show wr.heap.size ≠ gm from fun e => Nat.lt_irrefl _ (e ▸ HM.out.lt))
   clear hp HP hx hxm hb
   obtain ⟨mb, hmb⟩ : ∃ mb, mb = decide (x.f0.data.toList ∈ out.map ofB) := ⟨_, rfl⟩
   have HMEM := am hmb.symm
   cases b with
   | false =>
    rw [if_neg (by simp)] at hp2
    have HP2 := am hp2
    clear hp2 hmb
    go_wp2_with (go_at_call 38; refine (HQ.out _).mono ?_; rintro e w6 ⟨rfl, hb⟩; have hG6 := bb (blk_new wr (.cells #[.string x.f0, .int .i64 x.f1.f0.f0, .int .i64 x.f1.f0.f1, .int .i64 x.f1.f0.f2, .int .i64 x.f1.f1.f0, .int .i64 x.f1.f1.f1, .int .i64 x.f1.f1.f2, .int .i64 x.f2] 68)) hb; obtain ⟨g0, -, -, -, -, -, -, -⟩ := cells8 hG6; have G6 := am hG6; have hba := wa (Below.refl wr.heap.size wr) (.cells #[.string x.f0, .int .i64 x.f1.f0.f0, .int .i64 x.f1.f0.f1, .int .i64 x.f1.f0.f2, .int .i64 x.f1.f1.f0, .int .i64 x.f1.f1.f1, .int .i64 x.f1.f1.f2, .int .i64 x.f2] 68); have HB6 := am (wt (wt HB.out hba) hb); have HO6 := am (Kd.R_below (Kd.R_below HO.out hba) hb); have HM6 := am ((HM.out.below hba HM.out.lt).below hb (Nat.lt_of_lt_of_le HM.out.lt hba.size)); have J6 := am (bb (bb J.out hba) hb); have hlk := HM6.out.run_get (t := 72) (v := x.f0) Try.underlying9 Try.underlying72 Try.underlying4 (zeroB _) HXS.out; rw [HMEM.out] at hlk; clear hb hba hG6 h0 h1 h2 h3 h4 h5 h6 h7 k0 k1 k2)
    go_roundw
    case rel => exact ⟨j + 1, out, by omega, by go_num, ⟨HM6.out.mono (by omega)⟩, HO6, HB6, J6, HP2, ⟨by have := HL.out; omega⟩⟩
    case measure => simp [intOf]; omega
   | true =>
    rw [if_pos rfl] at hp2
    cases mb with
    | true =>
     rw [if_pos (show ofB x.f0 ∈ out.map ofB from of_decide_eq_true hmb.symm)] at hp2
     have HP2 := am hp2
     clear hp2 hmb
     go_wp2_with (go_at_call 38; refine (HQ.out _).mono ?_; rintro e w6 ⟨rfl, hb⟩; have hG6 := bb (blk_new wr (.cells #[.string x.f0, .int .i64 x.f1.f0.f0, .int .i64 x.f1.f0.f1, .int .i64 x.f1.f0.f2, .int .i64 x.f1.f1.f0, .int .i64 x.f1.f1.f1, .int .i64 x.f1.f1.f2, .int .i64 x.f2] 68)) hb; obtain ⟨g0, -, -, -, -, -, -, -⟩ := cells8 hG6; have G6 := am hG6; have hba := wa (Below.refl wr.heap.size wr) (.cells #[.string x.f0, .int .i64 x.f1.f0.f0, .int .i64 x.f1.f0.f1, .int .i64 x.f1.f0.f2, .int .i64 x.f1.f1.f0, .int .i64 x.f1.f1.f1, .int .i64 x.f1.f1.f2, .int .i64 x.f2] 68); have HB6 := am (wt (wt HB.out hba) hb); have HO6 := am (Kd.R_below (Kd.R_below HO.out hba) hb); have HM6 := am ((HM.out.below hba HM.out.lt).below hb (Nat.lt_of_lt_of_le HM.out.lt hba.size)); have J6 := am (bb (bb J.out hba) hb); have hlk := HM6.out.run_get (t := 72) (v := x.f0) Try.underlying9 Try.underlying72 Try.underlying4 (zeroB _) HXS.out; rw [HMEM.out] at hlk; clear hb hba hG6 h0 h1 h2 h3 h4 h5 h6 h7 k0 k1 k2)
     go_roundw
     case rel => exact ⟨j + 1, out, by omega, by go_num, ⟨HM6.out.mono (by omega)⟩, HO6, HB6, J6, HP2, ⟨by have := HL.out; omega⟩⟩
     case measure => simp [intOf]; omega
    | false =>
     rw [if_neg (show ¬ ofB x.f0 ∈ out.map ofB from of_decide_eq_false hmb.symm)] at hp2
     have HP2 := am hp2
     clear hp2 hmb
     go_wp2_with (first | (go_at_call 38; refine (HQ.out _).mono ?_; rintro e w6 ⟨rfl, hb⟩; have hG6 := bb (blk_new wr (.cells #[.string x.f0, .int .i64 x.f1.f0.f0, .int .i64 x.f1.f0.f1, .int .i64 x.f1.f0.f2, .int .i64 x.f1.f1.f0, .int .i64 x.f1.f1.f1, .int .i64 x.f1.f1.f2, .int .i64 x.f2] 68)) hb; obtain ⟨g0, -, -, -, -, -, -, -⟩ := cells8 hG6; have G6 := am hG6; have hba := wa (Below.refl wr.heap.size wr) (.cells #[.string x.f0, .int .i64 x.f1.f0.f0, .int .i64 x.f1.f0.f1, .int .i64 x.f1.f0.f2, .int .i64 x.f1.f1.f0, .int .i64 x.f1.f1.f1, .int .i64 x.f1.f1.f2, .int .i64 x.f2] 68); have HB6 := am (wt (wt HB.out hba) hb); have HO6 := am (Kd.R_below (Kd.R_below HO.out hba) hb); have HM6 := am ((HM.out.below hba HM.out.lt).below hb (Nat.lt_of_lt_of_le HM.out.lt hba.size)); have J6 := am (bb (bb J.out hba) hb); have hlk := HM6.out.run_get (t := 72) (v := x.f0) Try.underlying9 Try.underlying72 Try.underlying4 (zeroB _) HXS.out; rw [HMEM.out] at hlk; clear hb hba hG6 h0 h1 h2 h3 h4 h5 h6 h7 k0 k1 k2) | (at_mapUpdate; refine wpList_setB_put _ rfl _ _ _ 72 rfl 9 4 Try.underlying9 Try.underlying72 Try.underlying4 gm j (out.map ofB) rfl HM6.out HML.out x.f0 rfl rfl HXS.out ?_; intro w7 hm7 ht7; have HM7 := am hm7; have HO7 := am (R_other rfl HO6.out ht7.grown (R_ne_setB HO6.out HM6.out)); have HB7 := am (HB6.out.grown ht7.grown HB6.out.size (fun k hk => by cases hk; exact HGM.out)); have J7 := am ((ht7.grown.block _ (blk_lt J6.out) (fun e => by injection e with e; exact HNJ.out e)).trans J6.out); have hG7 := (ht7.grown.block _ (blk_lt G6.out) (fun e => by injection e with e; exact HNG.out e)).trans G6.out; obtain ⟨g0, -, -, -, -, -, -, -⟩ := cells8 hG7; clear hm7 ht7 hG7 hlk) | ((with_reducible refine gate_builtin (b := .append) (xs := #[.tmp 40, .tmp 43]) rfl ?_); at_builtin; refine Kd.R_append Kd.string (w0 := w) w.heap.size rfl (.tmp 40) (.tmp 43) 31 9 (.string ⟨#[]⟩) 16 rfl Try.underlying31 info9 rfl (by decide) (by omega) _ out x.f0 [.string x.f0] (fun _ => True) (fun _ => False) rfl rfl ?aP (fun _ hk => hk.elim) ?aF ?aO ?aB ?aS ?aL ?_; (case aP => exact rfl); (case aB => exact HB7.out); (case aF => exact (fun _ _ => trivial)); (case aO => exact HO7.out); (case aS => exact below_size HB7.out); (case aL => have := HL.out; omega); intro v9 w9 ho hb hg hat; have HB9 := am hb; have HO9 := am ho; have HM9 := am (HM7.out.grown hg (R_ne_setB HO7.out HM7.out)); have J9 := am ((hg.block _ (blk_lt J7.out) (Kd.R_ne HO7.out J7.out (by decide))).trans J7.out); clear ho hb hg hat))
     go_roundw
     case rel => exact ⟨j + 1, out ++ [x.f0], by omega, by go_num, ⟨by rw [List.map_append]; exact HM9.out⟩, HO9, HB9, J9, HP2, ⟨by have := HL.out; rw [List.length_append, List.length_singleton]; omega⟩⟩
     case measure => simp [intOf]; omega
end

def model_Join.f (k : Nat) (a0 : Int) (a1 : Int) : Option (Int × Int) := (model_state.f a0).bind fun t176 => (if t176 = true then ((model_state.f a1).bind fun t177 => (if t177 = true then ((model_join.f k a0 a1).bind fun t178 => (some (t178, 0))) else (some (0, 1)))) else (some (0, 1)))
set_option maxHeartbeats 8000000 in
set_option maxRecDepth 100000 in
theorem model_Join.calls (k : Nat) (a0 : Int) (a1 : Int) (r1 : Int) (r2 : Int) (w : World) (h : model_Join.f k a0 a1 = some (r1, r2)) :
  Calls Try.prog 19 #[.int .i64 a0, .int .i64 a1] w fun e w' => e = .returned (.tuple #[.int .i64 r1, .int .i64 r2]) ∧ Drawn0 w w' := by
 have H : ((model_state.f a0).bind fun t176 => (if t176 = true then ((model_state.f a1).bind fun t177 => (if t177 = true then ((model_join.f k a0 a1).bind fun t178 => (some (t178, 0))) else (some (0, 1)))) else (some (0, 1)))) = some (r1, r2) := h
 clear h
 replace H := Option.bind_eq_some_iff.mp H
 obtain ⟨t176, A30, H⟩ := H
 replace H : (if t176 = true then ((model_state.f a1).bind fun t177 => (if t177 = true then ((model_join.f k a0 a1).bind fun t178 => (some (t178, 0))) else (some (0, 1)))) else (some (0, 1))) = some (r1, r2) := H
 have A3 := am A30
 clear A30
 by_cases c4 : t176 = true
 ·subst c4
  have H1 : ((model_state.f a1).bind fun t177 => (if t177 = true then ((model_join.f k a0 a1).bind fun t178 => (some (t178, 0))) else (some (0, 1)))) = some (r1, r2) := by rw [if_pos rfl] at H; exact H
  clear H
  have H := H1
  clear H1
  replace H := Option.bind_eq_some_iff.mp H
  obtain ⟨t177, A50, H⟩ := H
  replace H : (if t177 = true then ((model_join.f k a0 a1).bind fun t178 => (some (t178, 0))) else (some (0, 1))) = some (r1, r2) := H
  have A5 := am A50
  clear A50
  by_cases c6 : t177 = true
  ·subst c6
   have H1 : ((model_join.f k a0 a1).bind fun t178 => (some (t178, 0))) = some (r1, r2) := by rw [if_pos rfl] at H; exact H
   clear H
   have H := H1
   clear H1
   replace H := Option.bind_eq_some_iff.mp H
   obtain ⟨t178, A70, H⟩ := H
   replace H : (some (t178, 0)) = some (r1, r2) := H
   have A7 := am A70
   clear A70
   simp only [Option.some.injEq, Prod.mk.injEq] at H
   obtain ⟨rfl, rfl⟩ := H
   go_enter Try.func19, Try.ntmps19
   go_wp2_with (first | ((with_reducible refine gate_callee (f := 47) rfl ?_); refine goesL_ (some 7) rfl rfl Try.func47 (by kernel_rfl) rfl #[.int .i64 a0] rfl (by (try simp only [pml]); first | done | rfl | (simp only [pdt]; rfl)) ?_; (with_reducible refine (model_state.calls a0 true _ A3.out).mono ?_); rintro e w' ⟨rfl, ⟨nd, rfl⟩⟩; refine ⟨_, rfl, ?_⟩) | (go_at_call 47; (with_reducible refine (model_state.calls a1 true _ A5.out).mono ?_); rintro e w' ⟨rfl, ⟨nd, rfl⟩⟩) | ((with_reducible refine gate_callee (f := 48) rfl ?_); refine goesL_ (some 16) rfl rfl Try.func48 (by kernel_rfl) rfl #[.int .i64 a0, .int .i64 a1] rfl (by (try simp only [pml]); first | done | rfl | (simp only [pdt]; rfl)) ?_; (with_reducible refine (model_join.calls k a0 a1 t178 _ A7.out).mono ?_); rintro e w' ⟨rfl, ⟨nd, rfl⟩⟩; refine ⟨_, rfl, ?_⟩))
   go_ret2
   exact ⟨by first | rfl | (simp; done) | (simp [*]; done), by repeat (first | exact Drawn0.refl _ | apply Drawn0.step)⟩
  replace c6 := Bool.eq_false_iff.mpr c6
  subst c6
  have H1 : (some (0, 1)) = some (r1, r2) := by rw [if_neg (show ¬ (false = true) by decide)] at H; exact H
  clear H
  have H := H1
  clear H1
  simp only [Option.some.injEq, Prod.mk.injEq] at H
  obtain ⟨rfl, rfl⟩ := H
  go_enter Try.func19, Try.ntmps19
  go_wp2_with (first | ((with_reducible refine gate_callee (f := 47) rfl ?_); refine goesL_ (some 7) rfl rfl Try.func47 (by kernel_rfl) rfl #[.int .i64 a0] rfl (by (try simp only [pml]); first | done | rfl | (simp only [pdt]; rfl)) ?_; (with_reducible refine (model_state.calls a0 true _ A3.out).mono ?_); rintro e w' ⟨rfl, ⟨nd, rfl⟩⟩; refine ⟨_, rfl, ?_⟩) | (go_at_call 47; (with_reducible refine (model_state.calls a1 false _ A5.out).mono ?_); rintro e w' ⟨rfl, ⟨nd, rfl⟩⟩))
  go_ret2
  exact ⟨by first | rfl | (simp; done) | (simp [*]; done), by repeat (first | exact Drawn0.refl _ | apply Drawn0.step)⟩
 ·replace c4 := Bool.eq_false_iff.mpr c4
  subst c4
  have H1 : (some (0, 1)) = some (r1, r2) := by rw [if_neg (show ¬ (false = true) by decide)] at H; exact H
  clear H
  have H := H1
  clear H1
  simp only [Option.some.injEq, Prod.mk.injEq] at H
  obtain ⟨rfl, rfl⟩ := H
  go_enter Try.func19, Try.ntmps19
  go_wp2_with (first | ((with_reducible refine gate_callee (f := 47) rfl ?_); refine goesL_ (some 7) rfl rfl Try.func47 (by kernel_rfl) rfl #[.int .i64 a0] rfl (by (try simp only [pml]); first | done | rfl | (simp only [pdt]; rfl)) ?_; (with_reducible refine (model_state.calls a0 false _ A3.out).mono ?_); rintro e w' ⟨rfl, ⟨nd, rfl⟩⟩; refine ⟨_, rfl, ?_⟩))
  go_ret2
  exact ⟨by first | rfl | (simp; done) | (simp [*]; done), by repeat (first | exact Drawn0.refl _ | apply Drawn0.step)⟩

def api_Evidence_62.f (l0 : List S68) : Option (List S68) := if l0.length < 1099511627776 then some l0 else none

set_option maxHeartbeats 1000000 in
set_option maxRecDepth 100000 in
theorem api_Evidence_62.calls (A0 : Option Addr) (c0 : Nat) (l0 : List S68) (r : List S68) (w : World) (hr0 : Kd.C k68 w A0 l0.length l0) (hc0 : l0.length ≤ c0) (h : api_Evidence_62.f l0 = some r) :
  Calls Try.prog 62 #[.slice A0 l0.length c0] w fun e w' => ∃ v0_ : Value, e = .returned v0_ ∧ Kd.R k68 68 w' w.heap.size (fun _ => True) v0_ r ∧ Below w.heap.size w w' := by
 unfold api_Evidence_62.f at h
 split at h
 case isFalse => exact absurd h (by simp)
 case isTrue hl =>
 obtain rfl := Option.some.inj h
 clear h
 have HL := am hl
 clear hl
 have HR := am hr0
 clear hr0
 rcases A0 with _ | ad
 ·have h0 : l0 = [] := by
   rcases Nat.eq_zero_or_pos l0.length with h | h
   ·exact List.eq_nil_of_length_eq_zero h
   obtain ⟨ad, e, _⟩ := HR.out.2.2 h
   cases e
  subst h0
  have hq := fun W => Lib.run_eql_slice_nil (P := Try.prog) W 22 68 none 0 c0 0 0 Try.underlying22
  go_enter Try.func62, Try.ntmps62
  go_wp2
  go_ret
  exact ⟨_, rfl, Kd.R_nil _ _ _ _ _, Below.refl _ _⟩
 ·have hq := fun W => Lib.run_eql_slice_nil (P := Try.prog) W 22 68 (some ad) l0.length c0 0 0 Try.underlying22
  go_enter Try.func62, Try.ntmps62
  go_wp2_with (first | ((with_reducible refine gate_dst (N := 5) rfl ?_); refine Kd.R_lit k68 _ 68 ?hg (N := 5) ?hd (xs := ([] : List (S68))) (inner := []) (ok := fun _ => True) (okp := fun _ => True) ?hr ?hp (fun _ hk => hk) trivial (Below.refl _ _) (Nat.le_refl _) (by simp) ?_; (case hd | hg => rfl); (case hr => first | (go_simp; done) | (go_simp; rfl)); (case hp => exact (Reps.none _ _)); intro v1 w1 ho9 hb hg_ hnew_; clear hg_ hnew_; have HO := am ho9; have HB := am hb; clear ho9 hb) | ((with_reducible refine gate_builtin (b := .append) (xs := #[.tmp 5, .tmp 6]) rfl ?_); at_builtin; refine Kd.R_append_rows k68 (w0 := w) w.heap.size rfl (.tmp 5) (.tmp 6) 22 68 (.agg #[(.string ⟨#[]⟩), (.int .i64 0), (.int .i64 0), (.int .i64 0), (.int .i64 0), (.int .i64 0), (.int .i64 0), (.int .i64 0)]) 72 rfl Try.underlying22 info68 rfl (by decide) (by omega) _ [] l0 _ _ _ (fun _ => True) (fun _ => False) rfl rfl ?aO ?aR (fun _ _ h => h) (fun _ h => h.elim) ?aF ?aB ?aS ?aL ?_; (case aR => exact Kd.C_below HR.out HB.out); (case aB => exact HB.out); (case aF => exact (fun _ _ => trivial)); (case aO => exact HO.out); (case aS => exact below_size HB.out); (case aL => have := HL.out; simp; omega); intro v2 w2 ho hb hg hat; have HO2 := am ho; have HB2 := am hb; clear ho hb hg hat))
  go_ret
  exact ⟨_, rfl, HO2.out, HB2.out⟩

section
open Go.Proofs.Ytcofgnbopodahaa.EvKit Go.Proofs.Ytcofgnbopodahaa.MapKit
attribute [local go_sem] max2_int min2_int max_two min_two Oper.semAt_some
set_option linter.unusedVariables false
set_option linter.unusedSimpArgs false
theorem set_take {α : Type} (l : List α) (o : Nat) (v : α) (h : o < l.length) : (l.set o v).take (o + 1) = l.take o ++ [v] := by
 have hA : (l.take o).length = o := by simp; omega
 rw [List.set_eq_take_append_cons_drop, if_pos h]
 have := List.take_length_add_append (l₁ := l.take o) (l₂ := v :: l.drop (o + 1)) 1
 rw [hA] at this
 rw [this]
 rfl
theorem blk_sets {g : Nat} {t : TypeId} : ∀ (cs : List Value) (o : Nat) (w : World) (cur : Array Value), w.heap[g]? = some (.cells cur t (0, 0)) → o + cs.length ≤ cur.size → ∃ cur', (w.setCells g o cs).heap[g]? = some (.cells cur' t (0, 0)) ∧ cur'.size = cur.size ∧ cur'.toList = cur.toList.take o ++ cs ++ cur.toList.drop (o + cs.length)
 | [], o, w, cur, h, _ => ⟨cur, h, rfl, by simp⟩
 | v :: r, o, w, cur, h, hl => by
  have hl' : o + r.length + 1 ≤ cur.size := by simpa [Nat.add_assoc] using hl
  obtain ⟨cur', h2, h3, h4⟩ := blk_sets r (o + 1) (w.setCell ⟨g, o, none⟩ v) (cur.setIfInBounds o v) (blk_set h o v) (by simp; omega)
  refine ⟨cur', h2, by simpa using h3, ?_⟩
  rw [h4, Array.toList_setIfInBounds, set_take _ _ _ (by simp; omega), List.drop_set_of_lt (by omega), show o + 1 + r.length = o + (v :: r).length by simp; omega]
  simp
theorem below_sets {B g : Nat} {a : World} (hg : B ≤ g) : ∀ (cs : List Value) (o : Nat) {w : World}, Below B a w → Below B a (w.setCells g o cs)
 | [], _, _, h => h
 | v :: r, o, w, h => below_sets hg r (o + 1) (h.setCell (p := ⟨g, o, none⟩) hg v)
theorem heap_sets (g : Nat) : ∀ (cs : List Value) (o : Nat) (w : World) (k : Nat), k ≠ g → (w.setCells g o cs).heap[k]? = w.heap[k]?
 | [], _, _, _, _ => rfl
 | v :: r, o, w, k, h => (heap_sets g r (o + 1) _ k h).trans (Below.heap_setCell w ⟨g, o, none⟩ v k h)
theorem grown_sets {w : World} {g : Nat} (hg : g < w.heap.size) (cs : List Value) (o : Nat) : w.grownBy (w.setCells g o cs) (some g) := by
 have hb := below_sets (g := g) (Nat.zero_le g) cs o (Below.refl 0 w)
 exact ⟨hb.os, hb.tape, hb.output, hb.size, fun i hi hne => heap_sets g cs o w i (fun e => hne (by rw [e]))⟩
theorem zero68 (w : World) : (zeroValue 68).run Try.prog w = .ok (.agg #[.string ⟨#[]⟩, .int .i64 0, .int .i64 0, .int .i64 0, .int .i64 0, .int .i64 0, .int .i64 0, .int .i64 0]) w := by kernel_rfl
theorem clear68 (n : Nat) (hn : 0 < n) : ∃ zs : List Value, zs.length = n * 8 ∧ ∀ (w : World) (g o c : Nat) (ty : TypeId), (∀ j, j < n * 8 → (w.cell? ⟨g, o + j, none⟩).isSome = true) → (∀ j, j < n * 8 → w.frozen? ⟨g, o + j, none⟩ = false) → (Builtin.clear_ #[22] ty #[.slice (some ⟨g, o, none⟩) n c]).run Try.prog w = .ok (.tuple #[]) (w.setCells g o zs) := by
 obtain ⟨zs, hzs⟩ : ∃ zs, zs = (Builtin.zeroCells (Value.agg #[.string ⟨#[]⟩, .int .i64 0, .int .i64 0, .int .i64 0, .int .i64 0, .int .i64 0, .int .i64 0, .int .i64 0]).cells n).toList := ⟨_, rfl⟩
 have hc8 : (Value.agg #[.string ⟨#[]⟩, .int .i64 0, .int .i64 0, .int .i64 0, .int .i64 0, .int .i64 0, .int .i64 0, .int .i64 0]).cells = #[.string ⟨#[]⟩, .int .i64 0, .int .i64 0, .int .i64 0, .int .i64 0, .int .i64 0, .int .i64 0, .int .i64 0] := rfl
 have hlen : zs.length = n * 8 := by rw [hzs, hc8]; simp [Builtin.zeroCells]
 have hone : ∀ v ∈ zs, v.oneCell' = true := by
  intro v hv
  rw [hzs, hc8] at hv
  simp only [Builtin.zeroCells, Array.toList_map, List.mem_map] at hv
  obtain ⟨i, _, rfl⟩ := hv
  have h8 : i % 8 < 8 := Nat.mod_lt _ (by omega)
  show (#[Value.string ⟨#[]⟩, .int .i64 0, .int .i64 0, .int .i64 0, .int .i64 0, .int .i64 0, .int .i64 0, .int .i64 0][i % 8]!).oneCell' = true
  generalize i % 8 = q at h8
  match q, h8 with
  | 0, _ | 1, _ | 2, _ | 3, _ | 4, _ | 5, _ | 6, _ | 7, _ => rfl
 refine ⟨zs, hlen, fun w g o c ty hc hf => ?_⟩
 have hst := run_storeCells_cells (P := Try.prog) g o zs 0 w (by rw [hlen]; simpa using hc) (by rw [hlen]; simpa using hf) hone
 simp only [Nat.add_zero] at hst
 obtain ⟨m, rfl⟩ : ∃ m, n = m + 1 := ⟨n - 1, by omega⟩
 simp [Builtin.clear_, run_underlying Try.underlying22, zero68, ← hzs, hst]
theorem m68_any {w w' : World} {base base' : Nat} {ok ok' : Nat → Prop} {x : S68} {cs : List Value} (h : k68.M w base ok x cs) : k68.M w' base' ok' x cs := by
 obtain rfl := k68_openM h
 exact k68_mkM _ _ _ x
set_option maxHeartbeats 4000000 in
set_option maxRecDepth 1000000 in
theorem del_row (i j : Nat) {g cap base : Nat} {ok : Nat → Prop} {l : List S68} {w : World} (hR : Kd.R k68 68 w base ok (.slice (some ⟨g, 0, none⟩) l.length cap) l) (hij : i < j) (hj : j ≤ l.length) :
  Calls Try.prog 64 #[.slice (some ⟨g, 0, none⟩) l.length cap, .int .i64 i, .int .i64 j] w fun e w' => e = .returned (.slice (some ⟨g, 0, none⟩) (i + (l.length - j)) cap) ∧ Kd.R k68 68 w' base ok (.slice (some ⟨g, 0, none⟩) (i + (l.length - j)) cap) (l.take i ++ l.drop j) ∧ w.grownBy w' (some g) := by
 obtain ⟨i0, hi0, hz0, hz1, hz2⟩ := info_parts info68
 obtain ⟨hok, inner, hown, hreps⟩ := hR
 rcases hown.2 with ⟨he, _⟩ | ⟨g', cap', cur, he, hb, hh, h1, h2, h3, h4⟩
 ·cases he
 injection he with he1 he2 he3
 injection he1 with he1
 injection he1 with he1
 subst he1 he3
 have h2' : cap ≤ 9223372036854775807 := by unfold maxLen at h2; omega
 have hgs := blk_lt hh
 have hl8 : l.length * 8 ≤ cap * 8 := Nat.mul_le_mul_right 8 h1
 have hcur : cur.size = cap * 8 := h3
 have hcl : ∀ k, k < cap * 8 → (w.cell? ⟨g, k, none⟩).isSome = true := fun k hk => by
  rw [bc hh k, Array.getElem?_eq_getElem (by omega)]; rfl
 obtain ⟨news, hnews⟩ : ∃ news, news = (cur.toList.drop (j * 8)).take ((l.length - j) * 8) := ⟨_, rfl⟩
 have hjl : j * 8 + (l.length - j) * 8 = l.length * 8 := by omega
 have hlen : news.length = (l.length - j) * 8 := by rw [hnews]; simp; omega
 obtain ⟨A, hA, hsrc⟩ : ∃ A : Addr, (if cap = j then some (⟨g, 0, none⟩ : Addr) else some ⟨g, j * 8, none⟩) = some A ∧ Aside0 (∀ t u, news[t]? = some u → w.drew.cell? (A.add t) = some u) := by
  by_cases h : cap = j
  ·refine ⟨⟨g, 0, none⟩, by simp [h], ⟨fun t u hu => ?_⟩⟩
   have h0 : news.length = 0 := by rw [hlen]; omega
   rw [List.length_eq_zero_iff.1 h0] at hu
   simp at hu
  refine ⟨⟨g, j * 8, none⟩, by simp [h], ⟨fun t u hu => ?_⟩⟩
  have ht : t < (l.length - j) * 8 := by
   have := (List.getElem?_eq_some_iff.1 hu).1
   rwa [hlen] at this
  rw [hnews, List.getElem?_take, if_pos ht, List.getElem?_drop, Array.getElem?_toList] at hu
  have e : (⟨g, j * 8, none⟩ : Addr).add t = ⟨g, j * 8 + t, none⟩ := by unfold Addr.add; split <;> simp_all
  rw [e]
  exact (bc hh (j * 8 + t)).trans hu
 have s1 : Aside0 (news.length = (l.length - j) * 8) := ⟨hlen⟩
 have s2 : Aside0 (∀ u ∈ news, u.oneCell' = true) := ⟨by
  intro u hu
  rw [hnews] at hu
  have hr := Kd.reps_one hreps (by decide) (fun p c hp => by obtain rfl := k68_openM hp; intro u hu; simp at hu; rcases hu with rfl | rfl | rfl | rfl | rfl | rfl | rfl | rfl <;> rfl)
  refine hr u ?_
  rw [← h4]
  have hs : k68.sz = 8 := rfl
  rw [hs]
  obtain ⟨t, ht⟩ := List.getElem?_of_mem hu
  have htl : t < (l.length - j) * 8 := by
   have := (List.getElem?_eq_some_iff.1 ht).1
   rw [← hnews, hlen] at this; exact this
  rw [List.getElem?_take, if_pos htl, List.getElem?_drop] at ht
  exact List.mem_of_getElem? (i := j * 8 + t) (by rw [List.getElem?_take, if_pos (by omega)]; exact ht)⟩
 have s3 : Aside0 (∀ t, t < news.length → (w.drew.cell? ⟨g, 0 + i * 8 + t, none⟩).isSome = true ∧ w.drew.frozen? ⟨g, 0 + i * 8 + t, none⟩ = false) := ⟨by
  intro t ht
  rw [hlen] at ht
  exact ⟨hcl _ (by omega), blk_frozen hh _⟩⟩
 obtain ⟨W1, hW1⟩ : ∃ W1, W1 = w.drew.setCells g (0 + i * 8) news := ⟨_, rfl⟩
 obtain ⟨cur1, k1, k2, k3⟩ := blk_sets news (0 + i * 8) w.drew cur (blk_drew hh) (by rw [hlen]; omega)
 rw [← hW1] at k1
 obtain ⟨zs, z1, z2⟩ := clear68 (j - i) (by omega)
 have hcl2 := fun ty => z2 W1 g (0 + (i + (l.length - j)) * 8) (cap - (i + (l.length - j))) ty (fun t ht => by rw [bc k1, Array.getElem?_eq_getElem (by omega)]; rfl) (fun t ht => blk_frozen k1 _)
 obtain ⟨W2, hW2⟩ : ∃ W2, W2 = W1.setCells g (0 + (i + (l.length - j)) * 8) zs := ⟨_, rfl⟩
 obtain ⟨cur2, m1, m2, m3⟩ := blk_sets zs (0 + (i + (l.length - j)) * 8) W1 cur1 k1 (by omega)
 rw [← hW2] at m1 hcl2
 rw [Nat.zero_add, show j - i = l.length - (i + (l.length - j)) by omega] at hcl2
 have hg1 : w.grownBy W1 (some g) := by have q := grown_sets (w := w.drew) hgs news (0 + i * 8); rw [hW1]; exact ⟨q.os, q.tape, q.output, q.size, q.block⟩
 have hg2 : W1.grownBy W2 (some g) := by rw [hW2]; exact grown_sets (blk_lt k1) zs _
 have hE : cur2.toList.take ((i + (l.length - j)) * 8) = inner.take (i * 8) ++ inner.drop (j * 8) := by
  have hcl' : cur.toList.length = cap * 8 := by rw [Array.length_toList (xs := cur)]; exact hcur
  have hc1l : cur1.toList.length = cap * 8 := by rw [Array.length_toList (xs := cur1), k2]; exact hcur
  have q1 : (cur.toList.take (0 + i * 8)).length = i * 8 := by rw [List.length_take]; omega
  rw [m3, List.append_assoc, List.take_append_of_le_length (by rw [List.length_take]; omega), List.take_take, Nat.zero_add, Nat.min_self, k3, List.append_assoc, ← List.append_assoc, List.take_append_of_le_length (by rw [List.length_append, q1, hlen]; omega), List.take_of_length_le (by rw [List.length_append, q1, hlen]; omega), Nat.zero_add]
  have hs : k68.sz = 8 := rfl
  rw [← h4, hs, hnews, List.take_take, Nat.min_eq_left (by omega), List.drop_take]
  congr 2
  omega
 have hres : Kd.R k68 68 W2 base ok (.slice (some ⟨g, 0, none⟩) (i + (l.length - j)) cap) (l.take i ++ l.drop j) := by
  have hL : (l.take i ++ l.drop j).length = i + (l.length - j) := by rw [List.length_append, List.length_take, List.length_drop]; omega
  refine ⟨fun k hk => hok k hk, inner.take (i * 8) ++ inner.drop (j * 8), ⟨?_, .inr ⟨g, cap, cur2, by rw [hL], hb, m1, by omega, h2, by rw [m2, k2]; exact h3, by rw [hL]; exact hE⟩⟩, ?_⟩
  ·rw [hL, ← hE]
   show _ = _ * 8
   have hc2l : cur2.toList.length = cap * 8 := by rw [Array.length_toList (xs := cur2), m2, k2]; exact hcur
   rw [List.length_take]
   omega
  exact (Kd.reps_append (Kd.reps_take hreps (by omega)) (Kd.reps_drop hreps)).imp_ fun p c hp => m68_any hp
 have HRES := am hres
 have HGR := am (show w.grownBy W2 (some g) from ⟨hg2.os.trans hg1.os, hg2.tape.trans hg1.tape, hg2.output.trans hg1.output, Nat.le_trans hg1.size hg2.size, fun k hk hne => (hg2.block k (Nat.lt_of_lt_of_le hk hg1.size) hne).trans (hg1.block k hk hne)⟩)
 have HW1 := am hW1
 have hic : i ≤ cap := by omega
 have hjc : j ≤ cap := by omega
 have hne : ¬ i = j := by omega
 have hne2 : ¬ cap = i + (l.length - j) := by omega
 clear hW1 hW2 hres hE hg1 hg2 m1 m2 m3 k1 k2 k3 hcl hnews hlen hh h4 hreps hown hok z2 z1 hb h2 hcur h3 hgs
 go_enter Try.func64, Try.ntmps64
 go_wp2_with fail
 go_region_law (refine step_append_room rfl (.tmp 22) (.tmp 25) 22 rfl 68 i0 8 Try.underlying22 hi0 hz1 g 0 i cap (by simp [Act.eval, Act.put]) A (l.length - j) (cap - j) news (by simp [Act.eval, Act.put, hA]) s1.out hsrc.out s2.out (by omega) s3.out ?_; rw [← HW1.out])
 go_wp2
 go_ret
 exact ⟨rfl, HRES.out, HGR.out⟩
theorem del_one (i : Nat) {g cap base : Nat} {ok : Nat → Prop} {l : List S68} {w : World} (hR : Kd.R k68 68 w base ok (.slice (some ⟨g, 0, none⟩) l.length cap) l) (hi : i < l.length) :
  Calls Try.prog 64 #[.slice (some ⟨g, 0, none⟩) l.length cap, .int .i64 i, .int .i64 ((i : Int) + 1)] w fun e w' => e = .returned (.slice (some ⟨g, 0, none⟩) (i + (l.length - (i + 1))) cap) ∧ Kd.R k68 68 w' base ok (.slice (some ⟨g, 0, none⟩) (i + (l.length - (i + 1))) cap) (l.take i ++ l.drop (i + 1)) ∧ w.grownBy w' (some g) := del_row i (i + 1) hR (by omega) (by omega)
end

section
open Go.Proofs.Ytcofgnbopodahaa.EvKit Go.Proofs.Ytcofgnbopodahaa.MapKit
attribute [local go_sem] max2_int min2_int max_two min_two Oper.semAt_some
set_option linter.unusedVariables false
set_option linter.unusedSimpArgs false
structure UseI (w : World) (g2 g3 g8 : Nat) (A : Option Addr) (n c : Nat) (i : Int) (s : Bool) (W : World) : Prop where
 b : Below w.heap.size w W
 n2 : W.heap[g2]? = some (.cells #[.slice A n c] 22 (0, 0))
 n3 : W.heap[g3]? = some (.cells #[.int .i64 i] 3 (0, 0))
 n8 : W.heap[g8]? = some (.cells #[.bool s] 4 (0, 0))
theorem UseI.keep {w W W' : World} {g2 g3 g8 : Nat} {A : Option Addr} {n c : Nat} {i : Int} {s : Bool} (h : UseI w g2 g3 g8 A n c i s W) (hb : Below W.heap.size W W') : UseI w g2 g3 g8 A n c i s W' := ⟨wt h.b hb, bb h.n2 hb, bb h.n3 hb, bb h.n8 hb⟩
def useStep (k : Nat) (st : Int) (s : Bool) (p : S43) (m : Int) : Option (Bool × Bool) := (model_join.f k m st).bind fun j => some (j == m, j == m)
set_option maxHeartbeats 2000000 in
set_option maxRecDepth 100000 in
theorem clo65 (kf : Nat) (w : World) (g2 g3 g8 B : Nat) (A : Option Addr) (c : Nat) (l : List S68) (i : Nat) (s : Bool) (W : World) (p : S43) (m : Int) (r : Bool × Bool) (h28 : g2 ≠ g8) (h38 : g3 ≠ g8) (h8 : w.heap.size ≤ g8) (hB : g8 < B) (hr0 : Kd.C k68 w A l.length l) (hi : i < l.length) (hI : UseI w g2 g3 g8 A l.length c i s W) (h : useStep kf (rd_T68 l i).f2 s p m = some r) :
  Calls Try.prog 65 (#[.agg #[.int .i64 p.f0.f0, .int .i64 p.f0.f1, .int .i64 p.f0.f2, .int .i64 p.f1.f0, .int .i64 p.f1.f1, .int .i64 p.f1.f2], .int .i64 m] ++ #[.pointer (some ⟨g2, 0, none⟩), .pointer (some ⟨g3, 0, none⟩), .pointer (some ⟨g8, 0, none⟩)]) W fun e W' => e = .returned (.bool r.2) ∧ UseI w g2 g3 g8 A l.length c i r.1 W' ∧ Rest B W W' := by
 have hu43 := Try.underlying43
 obtain ⟨ad, e, _, _, _, _, _, _, _, h7⟩ := at_T68 hr0 (i : Int) (by omega) (by omega)
 cases e
 rw [Int.toNat_natCast] at h7
 have hn := hr0.2.1
 have HI := am hI
 have P1 : Below W.heap.size W (W.alloc (.cells #[.int .i64 p.f0.f0, .int .i64 p.f0.f1, .int .i64 p.f0.f2, .int .i64 p.f1.f0, .int .i64 p.f1.f1, .int .i64 p.f1.f2] 43)) := wa (Below.refl W.heap.size W) _
 have c2 := (bc (bb hI.n2 P1) 0).trans rfl
 have c3 := (bc (bb hI.n3 P1) 0).trans rfl
 replace h7 := pw_cell_below P1 ((hI.b.cell (World.block_lt_of_cell? w _ h7)).trans h7)
 have HB1 := am P1
 have H28 := am h28
 have H38 := am h38
 have H8 := am h8
 have HLB := am hB
 unfold useStep at h
 obtain ⟨j, hj, hh⟩ := Option.bind_eq_some_iff.1 h
 obtain rfl := Option.some.inj hh
 obtain ⟨st, hst⟩ : ∃ st, st = (rd_T68 l i).f2 := ⟨_, rfl⟩
 rw [← hst] at h7 hj
 have HQ := am (fun W => model_join.calls kf m st j W hj)
 clear hI h28 h38 h8 hB hr0 P1 h hh hj hst
 show Calls Try.prog 65 #[.agg #[.int .i64 p.f0.f0, .int .i64 p.f0.f1, .int .i64 p.f0.f2, .int .i64 p.f1.f0, .int .i64 p.f1.f1, .int .i64 p.f1.f2], .int .i64 m, .pointer (some ⟨g2, 0, none⟩), .pointer (some ⟨g3, 0, none⟩), .pointer (some ⟨g8, 0, none⟩)] W _
 cases hjm : (j == m)
 all_goals
  have e1 := hjm
  go_enter Try.func65, Try.ntmps65
  go_wp2_with (go_at_call 48; refine (HQ.out _).mono ?_; rintro e w3 ⟨rfl, ⟨nd, hw3⟩⟩; have hb3 := pw_below_drewN HB1.out nd; rw [← hw3] at hb3; have HB3 := am hb3; have k8 := (bc (bb HI.out.n8 hb3) 0).trans rfl; have f8 := blk_frozen (bb HI.out.n8 hb3) 0; clear hb3 hw3 c2 c3 h7)
  go_ret
  refine ⟨rfl, ⟨below_set (wt HI.out.b HB3.out) H8.out, blk_far (bb HI.out.n2 HB3.out) H28.out _, blk_far (bb HI.out.n3 HB3.out) H38.out _, ?_⟩, rest_set HB3.out HLB.out⟩
  exact blk_put (bb HI.out.n8 HB3.out) 0 _ rfl
theorem del_oneL (i : Nat) {g cap base : Nat} {ok : Nat → Prop} {l : List S68} {w : World} (hR : Kd.R k68 68 w base ok (.slice (some ⟨g, 0, none⟩) l.length cap) l) (hi : i < l.length) (l1 : List S68) (h1 : l1 = l.take i ++ l.drop (i + 1)) :
  Calls Try.prog 64 #[.slice (some ⟨g, 0, none⟩) l.length cap, .int .i64 i, .int .i64 ((i : Int) + 1)] w fun e w' => e = .returned (.slice (some ⟨g, 0, none⟩) l1.length cap) ∧ Kd.R k68 68 w' base ok (.slice (some ⟨g, 0, none⟩) l1.length cap) l1 ∧ w.grownBy w' (some g) := by
 subst h1
 have hL : (l.take i ++ l.drop (i + 1)).length = i + (l.length - (i + 1)) := by rw [List.length_append, List.length_take, List.length_drop]; omega
 rw [hL]
 exact del_one i hR hi
def model_Useless.f (k : Nat) (l0 : List S68) (a1 : Int) : Option (Bool × Int) :=
 (model_Check.f k l0).bind fun e => if e = 0 then (if 0 ≤ a1 then (if a1 < (l0.length : Int) then (if l0.length < 1000000 then (eachF (fun l p => model_at.f k l p.f0.f0 p.f0.f1 p.f0.f2) (useStep k (rd_T68 l0 a1).f2) (l0.take a1.toNat ++ l0.drop (a1.toNat + 1)) (rd_T68 l0 a1).f1 true).bind fun s => some (s, 0) else none) else some (false, 6)) else some (false, 6)) else some (false, e)
def model_Useless.T6 : Bool × List (List Nat × List Nat) := (true, [([], []), ([0], [0]), ([], []), ([], []), ([3], [3]), ([1, 2, 4, 1], [1, 2, 4]), ([5, 5, 0, 1, 2, 3, 4, 5], [5])])
def model_Useless.B6 : List Nat := [0, 1, 0, 0, 8, 31, 63]
theorem model_Useless.tab6 : rtab .any (opsOf Try.f29 6) = model_Useless.T6 := by kernel_rfl
theorem model_Useless.bits6 : waitsOk model_Useless.T6.2 model_Useless.B6 = true := by kernel_rfl
set_option maxHeartbeats 4000000 in
set_option maxRecDepth 100000 in
theorem model_Useless.calls (k : Nat) (A0 : Option Addr) (c0 : Nat) (l0 : List S68) (a1 : Int) (r1 : Bool) (r2 : Int) (w : World) (hr0 : Kd.C k68 w A0 l0.length l0) (hc0 : l0.length ≤ c0) (h : model_Useless.f k l0 a1 = some (r1, r2)) :
  Calls Try.prog 29 #[.slice A0 l0.length c0, .int .i64 a1] w fun e w' => e = .returned (.tuple #[.bool r1, .int .i64 r2]) ∧ Below w.heap.size w w' := by
 have hu43 := Try.underlying43
 obtain ⟨e, he, hh⟩ := Option.bind_eq_some_iff.1 h
 replace h := hh
 clear hh
 have hn := hr0.2.1
 obtain ⟨W2, hW2⟩ : ∃ W2, W2 = (w.alloc (.cells #[.slice A0 l0.length c0] 22)).alloc (.cells #[.int .i64 a1] 3) := ⟨_, rfl⟩
 have hb2 : Below w.heap.size w W2 := by rw [hW2]; exact wa (wa (Below.refl _ _) _) _
 have b2 : W2.heap[w.heap.size]? = some (.cells #[.slice A0 l0.length c0] 22 (0, 0)) := by rw [hW2]; exact blk_alloc (blk_new w _) _
 have b3 : W2.heap[w.heap.size + 1]? = some (.cells #[.int .i64 a1] 3 (0, 0)) := by
  rw [hW2]; have h := blk_new (w.alloc (.cells #[.slice A0 l0.length c0] 22)) (.cells #[.int .i64 a1] 3); rw [World.size_alloc] at h; exact h
 have HB2 := am hb2
 have J2 := am b2
 have J3 := am b3
 have HW := am hW2
 have HR := am hr0
 have HE := am he
 clear hb2 b2 b3 hW2 hr0 he
 by_cases he0 : e = 0
 case neg =>
  rw [if_neg he0] at h
  obtain ⟨rfl, rfl⟩ : r1 = false ∧ r2 = e := by have := Option.some.inj h; simp only [Prod.mk.injEq] at this; exact ⟨this.1.symm, this.2.symm⟩
  have e2 : (r2 != 0) = true := by simpa using he0
  clear he0 h
  go_enter Try.func29, Try.ntmps29
  go_wp2_with (go_at_call 15; rw [← HW.out]; (with_reducible refine (model_Check.calls k _ c0 l0 r2 _ (Kd.C_below HR.out HB2.out) hc0 HE.out).mono ?_); rintro e w3 ⟨rfl, hb⟩; have HB3 := am (wt HB2.out hb); clear hb)
  go_ret2
  exact ⟨rfl, HB3.out⟩
 subst he0
 rw [if_pos rfl] at h
 by_cases hlo : 0 ≤ a1
 rotate_left
 ·rw [if_neg hlo] at h
  obtain ⟨rfl, rfl⟩ : r1 = false ∧ r2 = 6 := by have := Option.some.inj h; simp only [Prod.mk.injEq] at this; exact ⟨this.1.symm, this.2.symm⟩
  have d1 : decide (a1 < 0) = true := decide_eq_true (by omega)
  clear h hlo
  go_enter Try.func29, Try.ntmps29
  go_wp2_with (go_at_call 15; rw [← HW.out]; (with_reducible refine (model_Check.calls k _ c0 l0 0 _ (Kd.C_below HR.out HB2.out) hc0 HE.out).mono ?_); rintro e w3 ⟨rfl, hb⟩; have HB3 := am (wt HB2.out hb); have k3 := (bc (bb J3.out hb) 0).trans rfl; clear hb)
  go_ret2
  exact ⟨rfl, HB3.out⟩
 rw [if_pos hlo] at h
 by_cases hhi : a1 < (l0.length : Int)
 rotate_left
 ·rw [if_neg hhi] at h
  obtain ⟨rfl, rfl⟩ : r1 = false ∧ r2 = 6 := by have := Option.some.inj h; simp only [Prod.mk.injEq] at this; exact ⟨this.1.symm, this.2.symm⟩
  have d1 : decide (a1 < 0) = false := decide_eq_false (by omega)
  have d2 : decide (a1 ≥ (l0.length : Int)) = true := decide_eq_true (by omega)
  clear h hlo hhi
  go_enter Try.func29, Try.ntmps29
  go_wp2_with (go_at_call 15; rw [← HW.out]; (with_reducible refine (model_Check.calls k _ c0 l0 0 _ (Kd.C_below HR.out HB2.out) hc0 HE.out).mono ?_); rintro e w3 ⟨rfl, hb⟩; have HB3 := am (wt HB2.out hb); have k2 := (bc (bb J2.out hb) 0).trans rfl; have k3 := (bc (bb J3.out hb) 0).trans rfl; clear hb)
  go_ret2
  exact ⟨rfl, HB3.out⟩
 rw [if_pos hhi] at h
 obtain ⟨i, rfl⟩ : ∃ i : Nat, a1 = (i : Int) := ⟨a1.toNat, by omega⟩
 have hi : i < l0.length := by omega
 have hl : l0.length < 1000000 := by
  by_cases hq : l0.length < 1000000
  ·exact hq
  rw [if_neg hq] at h; cases h
 rw [if_pos hl, Int.toNat_natCast] at h
 obtain ⟨s, hs, hh⟩ := Option.bind_eq_some_iff.1 h
 replace h := hh
 clear hh
 obtain ⟨rfl, rfl⟩ : r1 = s ∧ r2 = 0 := by have := Option.some.inj h; simp only [Prod.mk.injEq] at this; exact ⟨this.1.symm, this.2.symm⟩
 have d1 : decide ((i : Int) < 0) = false := decide_eq_false (by omega)
 have d2 : decide ((i : Int) ≥ (l0.length : Int)) = false := decide_eq_false (by omega)
 have HCL := am (show api_Evidence_62.f l0 = some l0 from if_pos (by omega))
 have hlen : 0 < l0.length := by omega
 have hl1 : (l0.take i ++ l0.drop (i + 1)).length < 1000000 := by rw [List.length_append, List.length_take, List.length_drop]; omega
 obtain ⟨l1, hL1⟩ : ∃ l1, l1 = l0.take i ++ l0.drop (i + 1) := ⟨_, rfl⟩
 rw [← hL1] at hs hl1
 have HL1 := am hL1
 have HS := am hs
 clear h hs hlo hhi hL1
 obtain ⟨ad, eA, -⟩ := at_T68 HR.out (i : Int) (by omega) (by omega)
 subst eA
 go_enter Try.func29, Try.ntmps29
 go_wp2_with (go_at_call 15; rw [← HW.out]; (with_reducible refine (model_Check.calls k _ c0 l0 0 _ (Kd.C_below HR.out HB2.out) hc0 HE.out).mono ?_); rintro e w3 ⟨rfl, hb⟩; have k2 := (bc (bb J2.out hb) 0).trans rfl; have k3 := (bc (bb J3.out hb) 0).trans rfl; have H2 := am (blk_drew (bb J2.out hb)); have H3 := am (blk_drew (bb J3.out hb)); have HV := am (below_drew1 (wt HB2.out hb)); have HRV := am (Kd.C_below (Kd.C_below HR.out HB2.out) (below_drew1 hb)); clear hb)
 clear k2 k3
 have ws : IntKind.i64.wrap ((i : Int) + 1) = (i : Int) + 1 := IntWalk.i64_in _ (by omega)
 refine start_ (n := 7) (S := fun w' => w'.cell? ⟨w.heap.size, 0, none⟩ = some (.slice (some ad) l0.length c0) ∧ w'.cell? ⟨w.heap.size + 1, 0, none⟩ = some (.int .i64 (i : Int))) (ds := [5]) #[F,F,F,F,F,F,F] (by kernel_rfl) rfl rfl ⟨(bc H2.out 0).trans rfl, (bc H3.out 0).trans rfl⟩ (fun hHeld => ?_)
 refine with_tabW model_Useless.tab6 model_Useless.bits6 (fun HT_ HW_ => ?_)
 refine tk (i := 0) (N := some 22) (fl 7 1 []) HT_ HW_ hHeld ?_
 refine tk (i := 2) (N := some 24) (fl 7 1 [2]) HT_ HW_ hHeld ?_
 refine tk (i := 3) (N := some 25) (fl 7 1 [2, 3]) HT_ HW_ hHeld ?_
 refine pu (i := 4) (N := some 26) (fl 7 1 [2, 3, 4]) HT_ ?_
 refine one_ (i := 1) (N := some 23) (fl 7 5 []) rfl rfl (one_of HT_.out (by kernel_rfl)) (by decide) (fun K hK => ?_)
 refine goes_ Try.func62 (by kernel_rfl) rfl #[.slice (some ad) l0.length c0] (by rfl) rfl rfl (by simp only [pml]; rfl) ?_
 with_reducible refine (api_Evidence_62.calls _ c0 l0 l0 _ HRV.out hc0 HCL.out).mono ?_
 rintro e w4 ⟨v4, rfl, hR4, hb⟩
 obtain ⟨gd, cd, rfl, -⟩ := Kd.R_form hR4 hlen
 refine ⟨_, rfl, ?_⟩
 have HR4 := am hR4
 have HB4 := am hb
 refine hK.out _ _ ⟨(pw_cell_below hb hHeld.1), (pw_cell_below hb hHeld.2)⟩ (fun hHeld => ?_)
 clear hK K
 refine norm_ (a' := ?_) ?_ ?_
 rotate_left
 ·show Act.put _ (some 23) _ = _
  simp only [Act.put, psl, i64_w, i32_w]
  rfl
 refine last_ (i := 5) (N := some 27) #[T,T,T,T,T,T,F] rfl rfl (one_of HT_.out (by kernel_rfl)) (by decide) (fun K hK => ?_)
 refine goes_ Try.func64 (by kernel_rfl) rfl #[.slice (some ⟨gd, 0, none⟩) l0.length cd, .int .i64 (i : Int), .int .i64 ((i : Int) + 1)] (by rfl) rfl rfl (by simp only [pml]; rfl) ?_
 with_reducible refine (del_oneL i HR4.out hi l1 HL1.out).mono ?_
 rintro e w5 ⟨rfl, hR5, hg5⟩
 refine ⟨_, rfl, ?_⟩
 have HR5 := am hR5
 have HB5 := am (HB4.out.grown hg5 HB4.out.size (fun k hk => by cases hk; exact Kd.R_base HR4.out _ rfl))
 clear hR5 hg5
 refine hK.out _ _ ?_
 clear hK K
 refine norm_ (a' := ?_) ?_ ?_
 rotate_left
 ·show Act.put _ (some 27) _ = _
  simp only [Act.put, psl, i64_w, i32_w]
  rfl
 refine pu (i := 6) (N := some 7) (fl 7 7 []) HT_ ?_
 refine done_ (done_of HT_.out (by kernel_rfl)) ?_

 clear ws
 have H2' := am (bb H2.out HB5.out)
 have H3' := am (bb H3.out HB5.out)
 have HV' := am (wt HV.out HB5.out)
 clear H2 H3 HV HRV HR4 HB4 HB5 HCL
 have P9 : Below w5.heap.size w5 (w5.alloc (.cells #[.bool true] 4)) := wa (Below.refl _ _) _
 have k2 := (bc (bb H2'.out P9) 0).trans rfl
 have k3 := (bc (bb H3'.out P9) 0).trans rfl
 obtain ⟨ad', e, -, h1, h2, h3, h4, h5, h6, -⟩ := at_T68 (Kd.C_below (Kd.C_below HR.out HV'.out) P9) (i : Int) (by omega) (by omega)
 cases e
 rw [Int.toNat_natCast] at h1 h2 h3 h4 h5 h6
 have HP9 := am P9
 have HCC := am (Kd.R_reads' (Kd.R_below HR5.out P9))
 have HI0 := am (show UseI w w.heap.size (w.heap.size + 1) w5.heap.size (some ad) l0.length c0 (i : Int) true (w5.alloc (.cells #[.bool true] 4)) from ⟨wt HV'.out P9, bb H2'.out P9, bb H3'.out P9, blk_new _ _⟩)
 have l3 := blk_lt H3'.out
 clear P9
 go_wp2_with (go_at_call 50; (with_reducible refine (each_is 65 Try.f65 Try.func65 (by kernel_rfl) rfl #[.pointer (some ⟨w.heap.size, 0, none⟩), .pointer (some ⟨w.heap.size + 1, 0, none⟩), .pointer (some ⟨w5.heap.size, 0, none⟩)] (UseI w w.heap.size (w.heap.size + 1) w5.heap.size (some ad) l0.length c0 (i : Int)) (useStep k (rd_T68 l0 (i : Int)).f2) k (some ⟨gd, 0, none⟩) cd l1 (rd_T68 l0 (i : Int)).f1 true r1 _ (fun s W W' h hb => h.keep hb) (fun s W p m r hI hs => clo65 k w w.heap.size (w.heap.size + 1) w5.heap.size _ (some ad) c0 l0 i s W p m r (by omega) (by omega) (by omega) (by simp) HR.out hi hI hs) HCC.out.2.2 HCC.out.2.1 hl1 HI0.out HS.out).mono ?_); rintro e w7 ⟨rfl, hi7, hr7⟩; have c8 := (bc hi7.n8 0).trans rfl; have HI9 := am hi7.b; clear hi7 hr7 k2 k3 h1 h2 h3 h4 h5 h6)
 go_ret2
 exact ⟨rfl, HI9.out⟩
end

end Go.Proofs.Ytcofgnbopodahaa.QA
