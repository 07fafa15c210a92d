import Derived.Test.YtkeomlmlimkebaaZQAx0
import Derived.Test.YtkeomlmlimkebaaZQAx2
import Derived.Test.YtkeomlmlimkebaaZEvKit
import Derived.Test.YtkeomlmlimkebaaLay
import Derived.Test.YtkeomlmlimkebaaZMapKit
import Derived.Test.YtkeomlmlimkebaaZSortRow
import Derived.Carry
import Derived.LoopN
import Derived.Shelf.SlicesQ.Reverse
namespace Go.Proofs.Ytkeomlmlimkebaa.QA
open Go.RowKit Go.Proofs.YtkeomlmlimkebaaW.PrintWords Go.Proofs.YtkeomlmlimkebaaW.PrintLast Go.Proofs.YtkeomlmlimkebaaW.PrintMore
open Go.Proofs.YtkeomlmlimkebaaW.PrintWords renaming below_alloc → wa, pw_below_drewN → wN, below_drew1 → wd, blk_frozen → bf
open Aside0 renaming mk → am
attribute [local go_sem] max2_int min2_int max_two min_two max_three min_three max_four min_four
set_option linter.unusedVariables false
set_option linter.unusedSimpArgs false

def slices_Contains_int_int.f (k : Nat) (l0 : List Int) (a1 : Int) : Option (Bool) := (slices_Index_int_int.f k l0 a1).bind fun t107 => (some (decide (t107 ≥ 0)))
set_option maxHeartbeats 8000000 in
set_option maxRecDepth 100000 in
theorem slices_Contains_int_int.calls (k : Nat) (A0 : Option Addr) (c0 : Nat) (l0 : List Int) (a1 : Int) (r : Bool) (w : World) (hr0 : Kd.C (Kd.int .i64) w A0 l0.length l0) (hc0 : l0.length ≤ c0) (h : slices_Contains_int_int.f k l0 a1 = some r) :
  Calls Try.prog 44 #[.slice A0 l0.length c0, .int .i64 a1] w fun e w' => e = .returned (.bool r) ∧ Drawn0 w w' := by
 have HR0 := am hr0
 have HC0 := am hc0
 clear hr0 hc0
 have H : ((slices_Index_int_int.f k l0 a1).bind fun t107 => (some (decide (t107 ≥ 0)))) = some r := h
 clear h
 replace H := Option.bind_eq_some_iff.mp H
 obtain ⟨t107, A30, H⟩ := H
 replace H : (some (decide (t107 ≥ 0))) = some r := H
 have A3 := am A30
 clear A30
 obtain rfl := Option.some.inj H
 go_enter Try.func44, Try.ntmps44
 go_wp2_with (first | ((with_reducible refine gate_callee (f := 56) rfl ?_); refine goesL_ (some 7) rfl rfl Try.func56 (by kernel_rfl) rfl #[.slice A0 l0.length c0, .int .i64 a1] rfl (by (try simp only [pml]); first | done | rfl | (simp only [pdt]; rfl)) ?_; (with_reducible refine (slices_Index_int_int.calls k _ _ l0 a1 t107 _ ?side1 ?side2 A3.out).mono ?_); (case side1 => repeat (first | exact HR0.out | (with_reducible refine Kd.C_alloc ?_ _) | (with_reducible refine Kd.C_drewN ?_ _) | (with_reducible refine Kd.C_drew ?_))); (case side2 => exact HC0.out); rintro e w' ⟨rfl, ⟨nd, rfl⟩⟩; refine ⟨_, rfl, ?_⟩))
 go_ret
 exact ⟨by first | rfl | (simp; done) | (simp [*]; done), by repeat (first | exact Drawn0.refl _ | apply Drawn0.step)⟩

section
open Go.Proofs.Ytkeomlmlimkebaa.EvKit Go.Proofs.Ytkeomlmlimkebaa.MapKit
attribute [local go_sem] max2_int min2_int max_two min_two Oper.semAt_some
set_option linter.unusedVariables false
set_option linter.unusedSimpArgs false
def gdI (l : List Int) (e : Int) (i : Nat) : Bool := decide (0 ≤ l.getD i 0) && decide (l.getD i 0 < e) && (decide (i = 0) || decide (l.getD (i - 1) 0 < l.getD i 0))
def incF (l : List Int) (e : Int) : Nat → Nat → Bool
 | 0, _ => true
 | m + 1, i => gdI l e i && incF l e m (i + 1)
def incB (l : List Int) (e : Int) : Bool := incF l e l.length 0
theorem incF_iff (l : List Int) (e : Int) : ∀ m i, incF l e m i = true ↔ ∀ j, i ≤ j → j < i + m → gdI l e j = true
 | 0, i => by simp [incF]; intro j h1 h2; omega
 | m + 1, i => by
  simp only [incF, Bool.and_eq_true]
  rw [incF_iff l e m (i + 1)]
  constructor
  ·rintro ⟨h1, h2⟩ j h3 h4
   by_cases hj : j = i
   ·subst hj; exact h1
   exact h2 j (by omega) (by omega)
  intro h
  exact ⟨h i (by omega) (by omega), fun j h1 h2 => h j (by omega) (by omega)⟩
theorem incB_iff (l : List Int) (e : Int) : incB l e = true ↔ l.Pairwise (· < ·) ∧ ∀ x ∈ l, 0 ≤ x ∧ x < e := by
 unfold incB
 rw [incF_iff]
 have gd : ∀ i (hi : i < l.length), l.getD i 0 = l[i] := fun i hi => by rw [List.getD_eq_getElem?_getD, List.getElem?_eq_getElem hi]; rfl
 constructor
 ·intro h
  have h0 : ∀ j, j < l.length → 0 ≤ l.getD j 0 ∧ l.getD j 0 < e ∧ (j = 0 ∨ l.getD (j - 1) 0 < l.getD j 0) := fun j hj => by
   have := h j (by omega) (by omega)
   unfold gdI at this
   simp only [Bool.and_eq_true, Bool.or_eq_true, decide_eq_true_eq] at this
   exact ⟨this.1.1, this.1.2, this.2⟩
  refine ⟨?_, fun x hx => ?_⟩
  ·rw [List.pairwise_iff_getElem]
   intro i j hi hj hij
   have key : ∀ d, i + 1 + d < l.length → l.getD i 0 < l.getD (i + 1 + d) 0 := by
    intro d
    induction d with
    | zero => intro hd; have := (h0 (i + 1) hd).2.2; simp at this; simpa using this
    | succ d ih =>
     intro hd
     have h1 := ih (by omega)
     have h2 := (h0 (i + 1 + (d + 1)) hd).2.2
     have e1 : i + 1 + (d + 1) - 1 = i + 1 + d := by omega
     rw [e1] at h2
     rcases h2 with h2 | h2
     ·omega
     exact Int.lt_trans h1 h2
   have := key (j - i - 1) (by omega)
   have e1 : i + 1 + (j - i - 1) = j := by omega
   rw [e1, gd i hi, gd j hj] at this
   exact this
  obtain ⟨i, hi, rfl⟩ := List.getElem_of_mem hx
  have := h0 i hi
  rw [gd i hi] at this
  exact ⟨this.1, this.2.1⟩
 rintro ⟨h1, h2⟩ j _ hj
 have hj' : j < l.length := by omega
 have h3 := h2 l[j] (List.getElem_mem _)
 unfold gdI
 simp only [Bool.and_eq_true, Bool.or_eq_true, decide_eq_true_eq]
 rw [gd j hj']
 refine ⟨h3, ?_⟩
 by_cases h0 : j = 0
 ·exact Or.inl h0
 rw [gd (j - 1) (by omega)]
 exact Or.inr (List.pairwise_iff_getElem.1 h1 (j - 1) j (by omega) hj' (by omega))
theorem nxt64 {i : Nat} (h : i < 1099511627776) : wrap64 ((i : Int) + 1) = ((i + 1 : Nat) : Int) := by rw [w64 (by omega) (by omega)]; omega
theorem rdN (l : List Int) (i : Nat) : rd l (i : Int) = l.getD i 0 := by simp [rd]
theorem incr_loop (l : List Int) (e : Int) (hl : l.length < 1099511627776) : ∀ m i, l.length = i + m → Ev (fun k => replace_increasing.l0 k l e l (l.length : Int) (i : Int)) (incF l e m i) := by
 intro m
 induction m with
 | zero =>
  intro i hi
  refine Ev.succ ?_
  simp only [replace_increasing.l0]
  exact Ev.neg (by omega) (Ev.now _)
 | succ m ih =>
  intro i hi
  have no : Ev (fun k => replace_increasing.j1 k l e l (l.length : Int) (i : Int) true) false := by
   refine Ev.succ ?_
   simp only [replace_increasing.j1]
   exact Ev.pos trivial (Ev.now _)
  have yes : Ev (fun k => replace_increasing.j1 k l e l (l.length : Int) (i : Int) false) (incF l e m (i + 1)) := by
   refine Ev.succ ?_
   simp only [replace_increasing.j1]
   refine Ev.neg (by simp) ?_
   rw [nxt64 (by omega)]
   exact ih (i + 1) (by omega)
  refine Ev.succ ?_
  simp only [replace_increasing.l0]
  refine Ev.pos (by omega) (Ev.pos (by omega) (Ev.pos (by omega) ?_))
  rw [rdN]
  unfold incF gdI
  refine Ev.ite (fun h => ?_) (fun h => Ev.ite (fun h2 => ?_) (fun h2 => Ev.ite (fun h3 => ?_) (fun h3 => ?_)))
  ·rw [decide_eq_false (p := 0 ≤ l.getD i 0) (by omega)]; exact no
  ·rw [decide_eq_true (p := 0 ≤ l.getD i 0) (by omega), decide_eq_false (p := l.getD i 0 < e) (by omega)]; exact no
  ·rw [decide_eq_true (p := 0 ≤ l.getD i 0) (by omega), decide_eq_true (p := l.getD i 0 < e) (by omega), decide_eq_false (p := i = 0) (by omega)]
   have e1 : wrap64 ((i : Int) - 1) = ((i - 1 : Nat) : Int) := by rw [w64 (by omega) (by omega)]; omega
   rw [e1]
   refine Ev.pos (by omega) (Ev.pos (by omega) ?_)
   rw [rdN]
   by_cases h4 : l.getD (i - 1) 0 < l.getD i 0
   ·rw [decide_eq_false (p := l.getD (i - 1) 0 ≥ l.getD i 0) (by omega), decide_eq_true h4]; exact yes
   rw [decide_eq_true (p := l.getD (i - 1) 0 ≥ l.getD i 0) (by omega), decide_eq_false h4]; exact no
  rw [decide_eq_true (p := 0 ≤ l.getD i 0) (by omega), decide_eq_true (p := l.getD i 0 < e) (by omega), decide_eq_true (p := i = 0) (by omega)]; exact yes
theorem incr_ev (l : List Int) (e : Int) (hl : l.length < 1099511627776) : Ev (fun k => replace_increasing.f k l e) (incB l e) := incr_loop l e hl l.length 0 (by omega)
theorem index_loop (l : List Int) (x : Int) (hl : l.length < 1099511627776) : ∀ m i, l.length = i + m → Ev (fun k => slices_Index_int_int.l0 k l x (l.length : Int) (i : Int)) (if x ∈ l.drop i then ((i + (l.drop i).idxOf x : Nat) : Int) else -1) := by
 intro m
 induction m with
 | zero =>
  intro i hi
  refine Ev.succ ?_
  simp only [slices_Index_int_int.l0]
  rw [if_neg (show ¬ x ∈ l.drop i by rw [List.drop_eq_nil_of_le (by omega)]; simp)]
  exact Ev.neg (by omega) (Ev.now _)
 | succ m ih =>
  intro i hi
  have ed : l.drop i = l.getD i 0 :: l.drop (i + 1) := EvKit.drop_cons l i 0 (by omega)
  refine Ev.succ ?_
  simp only [slices_Index_int_int.l0]
  refine Ev.pos (by omega) (Ev.pos (by omega) (Ev.pos (by omega) ?_))
  rw [rdN]
  refine Ev.ite (fun h => ?_) (fun h => ?_)
  ·rw [ed, if_pos (by simp [h]), ← h]
   simp only [List.idxOf_cons_self, Nat.add_zero]
   exact Ev.now _
  rw [nxt64 (by omega)]
  refine Ev.eq (ih (i + 1) (by omega)) ?_
  rw [ed]
  by_cases hm : x ∈ l.drop (i + 1)
  ·rw [if_pos hm, if_pos (by simp [hm]), List.idxOf_cons, beq_eq_false_iff_ne.2 (fun e => h e.symm)]
   simp only [cond_false]
   omega
  rw [if_neg hm, if_neg (by simp [hm]; exact h)]
def idxI (l : List Int) (x : Int) : Int := if x ∈ l then (l.idxOf x : Int) else -1
theorem index_ev (l : List Int) (x : Int) (hl : l.length < 1099511627776) : Ev (fun k => slices_Index_int_int.f k l x) (idxI l x) := by
 have h := index_loop l x hl l.length 0 (by omega)
 simp only [List.drop_zero, Nat.zero_add] at h
 exact h
theorem idxI_nonneg (l : List Int) (x : Int) : decide (idxI l x ≥ 0) = decide (x ∈ l) := by
 unfold idxI
 by_cases h : x ∈ l
 ·rw [if_pos h, decide_eq_true h]; exact decide_eq_true (by omega)
 rw [if_neg h, decide_eq_false h]; rfl
theorem contains_ev (l : List Int) (x : Int) (hl : l.length < 1099511627776) : Ev (fun k => slices_Contains_int_int.f k l x) (decide (x ∈ l)) := by
 unfold slices_Contains_int_int.f
 refine Ev.bind (index_ev l x hl) ?_
 rw [idxI_nonneg]
 exact Ev.now _
theorem incr_is {A0 : Option Addr} {c0 : Nat} {l0 : List Int} (a1 : Int) (w : World) (hr0 : Kd.C (Kd.int .i64) w A0 l0.length l0) (hc0 : l0.length ≤ c0) (hl : l0.length < 1099511627776) :
  Calls Try.prog 43 #[.slice A0 l0.length c0, .int .i64 a1] w fun e w' => e = .returned (.bool (incB l0 a1)) ∧ ∃ n, w' = w.drewN n := by
 obtain ⟨K, h⟩ := incr_ev l0 a1 hl
 exact (replace_increasing.calls K A0 c0 l0 a1 _ w hr0 hc0 (h K (Nat.le_refl _))).mono fun e w' ⟨h1, h2⟩ => ⟨h1, h2.out⟩
theorem contains_is {A0 : Option Addr} {c0 : Nat} {l0 : List Int} (a1 : Int) (w : World) (hr0 : Kd.C (Kd.int .i64) w A0 l0.length l0) (hc0 : l0.length ≤ c0) (hl : l0.length < 1099511627776) :
  Calls Try.prog 44 #[.slice A0 l0.length c0, .int .i64 a1] w fun e w' => e = .returned (.bool (decide (a1 ∈ l0))) ∧ ∃ n, w' = w.drewN n := by
 obtain ⟨K, h⟩ := contains_ev l0 a1 hl
 exact (slices_Contains_int_int.calls K A0 c0 l0 a1 _ w hr0 hc0 (h K (Nat.le_refl _))).mono fun e w' ⟨h1, h2⟩ => ⟨h1, h2.out⟩
theorem at_I {w : World} {A : Option Addr} {n : Nat} {xs : List Int} (h : Kd.C (Kd.int .i64) w A n xs) (k : Nat) (hk : k < n) : ∃ ad, A = some ad ∧ w.cell? (ad.add k) = some (.int .i64 (xs.getD k 0)) := by
 obtain ⟨ad, c, e, _, hK, hc0⟩ := Kd.C_get h (0 : Int) k (by omega) (by omega)
 refine ⟨ad, e, ?_⟩
 obtain rfl := hK
 have : w.cell? (ad.add ((k : Int).toNat * 1 + 0)) = _ := hc0 0 _ rfl
 simpa using this
theorem at_B {w : World} {A : Option Addr} {n : Nat} {xs : List Bool} (h : Kd.C Kd.bool w A n xs) (k : Nat) (hk : k < n) : ∃ ad, A = some ad ∧ w.cell? (ad.add k) = some (.bool (xs.getD k false)) := by
 obtain ⟨ad, c, e, _, hK, hc0⟩ := Kd.C_get h false k (by omega) (by omega)
 refine ⟨ad, e, ?_⟩
 obtain rfl := hK
 have : w.cell? (ad.add ((k : Int).toNat * 1 + 0)) = _ := hc0 0 _ rfl
 simpa using this
theorem zeroB (w : World) : (zeroValue 4).run Try.prog w = .ok (.bool false) w := by kernel_rfl
def badR (e : Int) (row : List Int) (u : Int) (f : Bool) : Bool := !incB row e || ((u != -1) && !decide (u ∈ row)) || ((u == -1) && f)
def badF (e : Int) (fits : List (List Int)) (uses : List Int) (fixed : List Bool) (j : Nat) : Bool := badR e (fits.getD j []) (uses.getD j 0) (fixed.getD j false)
def dupA (uses : List Int) (j : Nat) : Bool := (uses.getD j 0 != -1) && decide (uses.getD j 0 ∈ uses.take j)
def anyU (p : Nat → Bool) : Nat → Nat → Bool
 | 0, _ => false
 | m + 1, i => p i || anyU p m (i + 1)
def replace_Check.f (l0_0 : List (List Int)) (a0_1 : Int) (l0_2 : List Int) (l0_3 : List Bool) : Option Int :=
 if l0_0.length > 64 ∨ a0_1 > 64 ∨ a0_1 < 0 then some 7
 else if l0_2.length ≠ l0_0.length ∨ l0_3.length ≠ l0_0.length then some 1
 else if ∀ j, j < l0_0.length → (l0_0.getD j []).length < 1000000 then (if anyU (badF a0_1 l0_0 l0_2 l0_3) l0_0.length 0 = true then some 1 else if anyU (dupA l0_2) l0_2.length 0 = true then some 5 else some 0)
 else none
theorem anyU_iff (p : Nat → Bool) : ∀ m i, anyU p m i = true ↔ ∃ j, i ≤ j ∧ j < i + m ∧ p j = true
 | 0, i => by simp [anyU]; intro j h1 h2; omega
 | m + 1, i => by
  simp only [anyU, Bool.or_eq_true]
  rw [anyU_iff p m (i + 1)]
  constructor
  ·rintro (h | ⟨j, h1, h2, h3⟩)
   ·exact ⟨i, by omega, by omega, h⟩
   exact ⟨j, by omega, by omega, h3⟩
  rintro ⟨j, h1, h2, h3⟩
  by_cases hj : j = i
  ·subst hj; exact .inl h3
  exact .inr ⟨j, by omega, by omega, h3⟩
theorem any_at (p : Nat → Bool) {n k : Nat} (hk : k < n) (h : p k = true) : anyU p n 0 = true := (anyU_iff p n 0).2 ⟨k, by omega, by omega, h⟩
theorem any_no (p : Nat → Bool) {n : Nat} (h : ∀ k, k < n → p k = false) : anyU p n 0 = false := by
 cases hq : anyU p n 0 with
 | false => rfl
 | true =>
  obtain ⟨j, _, h2, h3⟩ := (anyU_iff p n 0).1 hq
  rw [h j (by omega)] at h3
  cases h3
set_option maxHeartbeats 4000000 in
set_option maxRecDepth 100000 in
theorem replace_Check.calls (A0_0 : Option Addr) (c0_0 : Nat) (l0_0 : List (List Int)) (a0_1 : Int) (A0_2 : Option Addr) (c0_2 : Nat) (l0_2 : List Int) (A0_3 : Option Addr) (c0_3 : Nat) (l0_3 : List Bool) (r : Int) (w : World) (hr0_0 : Kd.C (Kd.slice 3 (Kd.int .i64)) w A0_0 l0_0.length l0_0) (hc0_0 : l0_0.length ≤ c0_0) (hr0_2 : Kd.C (Kd.int .i64) w A0_2 l0_2.length l0_2) (hc0_2 : l0_2.length ≤ c0_2) (hr0_3 : Kd.C Kd.bool w A0_3 l0_3.length l0_3) (hc0_3 : l0_3.length ≤ c0_3) (h : replace_Check.f l0_0 a0_1 l0_2 l0_3 = some r) :
  Calls Try.prog 24 #[.agg #[.slice A0_0 l0_0.length c0_0, .int .i64 a0_1, .slice A0_2 l0_2.length c0_2, .slice A0_3 l0_3.length c0_3]] w fun e w' => e = .returned (.int .i64 r) ∧ Below w.heap.size w w' := by
 have hu33 := Try.underlying33
 have hu80 := Try.underlying80
 have hmm := @run_makeMap Try.prog
 unfold replace_Check.f at h
 split at h
 case isTrue hbig =>
  obtain rfl := Option.some.inj h
  have hH := am hr0_0
  clear h
  by_cases h1 : 64 < l0_0.length
  ·go_enter Try.func24, Try.ntmps24
   go_wp2_with fail
   go_ret
   exact ⟨rfl, (Below.refl _ _).alloc (Nat.le_refl _) _⟩
  by_cases h2 : 64 < a0_1
  ·go_enter Try.func24, Try.ntmps24
   go_wp2_with fail
   go_ret
   exact ⟨rfl, (Below.refl _ _).alloc (Nat.le_refl _) _⟩
  have h3 : a0_1 < 0 := by omega
  go_enter Try.func24, Try.ntmps24
  go_wp2_with fail
  go_ret
  exact ⟨rfl, (Below.refl _ _).alloc (Nat.le_refl _) _⟩
 case isFalse hsmall =>
 have s1 : l0_0.length ≤ 64 := by omega
 have s2 : a0_1 ≤ 64 := by omega
 have s3 : 0 ≤ a0_1 := by omega
 clear hsmall
 split at h
 case isTrue hlen =>
  obtain rfl := Option.some.inj h
  clear h
  by_cases h1 : l0_2.length = l0_0.length
  ·have h2 : ¬ (l0_3.length = l0_0.length) := by omega
   have h2' : ((l0_3.length : Int) == (l0_0.length : Int)) = false := by simp; omega
   have h2'' : ((l0_3.length : Int) != (l0_0.length : Int)) = true := by simp; omega
   have h1' : ((l0_2.length : Int) == (l0_0.length : Int)) = true := by simp; omega
   have h1'' : ((l0_2.length : Int) != (l0_0.length : Int)) = false := by simp; omega
   clear h1 h2 hlen
   go_enter Try.func24, Try.ntmps24
   go_wp2_with fail
   go_ret
   exact ⟨rfl, (Below.refl _ _).alloc (Nat.le_refl _) _⟩
  have h1' : ((l0_2.length : Int) == (l0_0.length : Int)) = false := by simp; omega
  have h1'' : ((l0_2.length : Int) != (l0_0.length : Int)) = true := by simp; omega
  clear h1 hlen
  go_enter Try.func24, Try.ntmps24
  go_wp2_with fail
  go_ret
  exact ⟨rfl, (Below.refl _ _).alloc (Nat.le_refl _) _⟩
 case isFalse hlen =>
 have e2 : l0_2.length = l0_0.length := by omega
 have e3 : l0_3.length = l0_0.length := by omega
 clear hlen
 split at h
 case isFalse => cases h
 case isTrue hrow =>
 rw [e2] at hr0_2 hc0_2 ⊢
 rw [e3] at hr0_3 hc0_3 ⊢
 have HR0 := am hr0_0
 have HR2 := am hr0_2
 have HR3 := am hr0_3
 have HROW := am hrow
 have H := am h
 have HE2 := am e2
 clear hr0_0 hr0_2 hr0_3 hrow h e2 e3
 go_enter Try.func24, Try.ntmps24
 go_wp2_with fail
 obtain ⟨W1, hW1⟩ : ∃ W1, W1 = w.alloc (.cells #[.slice A0_0 l0_0.length c0_0, .int .i64 a0_1, .slice A0_2 l0_0.length c0_2, .slice A0_3 l0_0.length c0_3] 33) := ⟨_, rfl⟩
 have hb1 : Below w.heap.size w W1 := by rw [hW1]; exact (Below.refl _ _).alloc (Nat.le_refl _) _
 have b1 : W1.heap[w.heap.size]? = some (.cells #[.slice A0_0 l0_0.length c0_0, .int .i64 a0_1, .slice A0_2 l0_0.length c0_2, .slice A0_3 l0_0.length c0_3] 33 (0, 0)) := by rw [hW1]; exact blk_new w _
 have g0 := (blk_cell b1 0).trans rfl
 have g1 := (blk_cell b1 1).trans rfl
 have g2 := (blk_cell b1 2).trans rfl
 have g3 := (blk_cell b1 3).trans rfl
 have HB1 := am hb1
 have HZ := am (show w.heap.size < W1.heap.size by rw [hW1]; simp)
 rw [← hW1]
 clear hb1 b1 hW1
 go_loopw [40] (fun i wr => ∃ k q : Nat, k ≤ l0_0.length ∧ i = .int .i64 k ∧ wr = W1.drewN q ∧ Aside0 (∀ j, j < k → badF a0_1 l0_0 l0_2 l0_3 j = false))
  (fun i _ => l0_0.length - (intOf i).toNat)
 case atStart => exact ⟨0, 0, Nat.zero_le _, rfl, rfl, ⟨fun j hj => absurd hj (by omega)⟩⟩
 case round =>
  obtain ⟨k, q, hk, rfl, rfl, HP⟩ := hrel
  by_cases hlt : k < l0_0.length
  ·obtain ⟨ad0, A1, c1, eA0, hcell0, hc1, hC1⟩ := at_L1 (Kd.C_below HR0.out (HB1.out)) (k : Int) (by omega) (by omega)
   obtain ⟨ad2, eA2, hcell2⟩ := at_I (Kd.C_below HR2.out HB1.out) k hlt
   obtain ⟨ad3, eA3, hcell3⟩ := at_B (Kd.C_below HR3.out HB1.out) k hlt
   subst eA0 eA2 eA3
   rw [Int.toNat_natCast] at hcell0
   have HC1 := am hC1
   clear hC1
   have hrl : (rd_L1 l0_0 (k : Int)).length < 1099511627776 := by have := HROW.out k hlt; simp only [rd_L1, Int.toNat_natCast]; omega
   have HRL := am hrl
   clear hrl
   have er : rd_L1 l0_0 (k : Int) = l0_0.getD k [] := by simp [rd_L1]
   have eu : l0_2.getD k 0 = l0_2.getD k 0 := rfl
   obtain ⟨u, hu⟩ : ∃ u, u = l0_2.getD k 0 := ⟨_, rfl⟩
   obtain ⟨f, hf⟩ : ∃ f, f = l0_3.getD k false := ⟨_, rfl⟩
   rw [← hu] at hcell2
   rw [← hf] at hcell3
   have hbF : badF a0_1 l0_0 l0_2 l0_3 k = badR a0_1 (rd_L1 l0_0 (k : Int)) u f := by unfold badF; rw [er, hu, hf]
   have HBF := am hbF
   clear hbF er eu hu hf
   have bad : badR a0_1 (rd_L1 l0_0 (k : Int)) u f = true → r = 1 := fun hb => by
    have hbad : anyU (badF a0_1 l0_0 l0_2 l0_3) l0_0.length 0 = true := any_at _ hlt (HBF.out.trans hb)
    have := H.out; rw [if_pos hbad] at this; exact (Option.some.inj this).symm
   have good : badR a0_1 (rd_L1 l0_0 (k : Int)) u f = false → ∀ j, j < k + 1 → badF a0_1 l0_0 l0_2 l0_3 j = false := fun hb j hj => by
    by_cases hjk : j < k
    ·exact HP.out j hjk
    obtain rfl : j = k := by omega
    exact HBF.out.trans hb
   have BAD := am bad
   have GOOD := am good
   clear bad good
   cases hI : incB (rd_L1 l0_0 (k : Int)) a0_1 with
   | false =>
    obtain rfl := BAD.out (by unfold badR; rw [hI]; rfl)
    have HI := am hI
    clear hI
    go_wp2_with (go_at_call 43; refine (incr_is a0_1 _ (Kd.C_below HC1.out (by repeat (first | (with_reducible first | exact Below.refl _ _ | apply wa | apply wN | apply wd) | exact Below.refl _ _))) hc1 HRL.out).mono ?_; rintro e w' ⟨rfl, nd, rfl⟩; rw [HI.out])
    go_ret
    exact ⟨rfl, by repeat (first | (with_reducible first | exact Below.refl _ _ | exact HB1.out | apply wa | apply wN | apply wd) | exact Below.refl _ _ | exact HB1.out)⟩
   | true =>
    have HI := am hI
    by_cases hu1 : u = -1
    ·subst hu1
     cases hf : f with
     | true =>
      obtain rfl := BAD.out (by unfold badR; rw [hI, hf]; rfl)
      subst hf
      clear hI
      go_wp2_with (go_at_call 43; refine (incr_is a0_1 _ (Kd.C_below HC1.out (by repeat (first | (with_reducible first | exact Below.refl _ _ | apply wa | apply wN | apply wd) | exact Below.refl _ _))) hc1 HRL.out).mono ?_; rintro e w' ⟨rfl, nd, rfl⟩; rw [HI.out])
      go_ret
      exact ⟨rfl, by repeat (first | (with_reducible first | exact Below.refl _ _ | exact HB1.out | apply wa | apply wN | apply wd) | exact Below.refl _ _ | exact HB1.out)⟩
     | false =>
      have HG := am (GOOD.out (by unfold badR; rw [hI, hf]; rfl))
      subst hf
      clear hI
      go_wp2_with (go_at_call 43; refine (incr_is a0_1 _ (Kd.C_below HC1.out (by repeat (first | (with_reducible first | exact Below.refl _ _ | apply wa | apply wN | apply wd) | exact Below.refl _ _))) hc1 HRL.out).mono ?_; rintro e w' ⟨rfl, nd, rfl⟩; rw [HI.out])
      go_roundw
      case rel => exact ⟨k + 1, q + nd, by omega, by go_num, by first | rfl | simp [World.drewN_drewN], HG⟩
      case measure => simp [intOf]; omega
    have u1 : (u == -1) = false := by simpa using hu1
    have u2 : (u != -1) = true := by simpa using hu1
    cases hm : decide (u ∈ rd_L1 l0_0 (k : Int)) with
    | false =>
     obtain rfl := BAD.out (by unfold badR; rw [hI, hm, u1, u2]; rfl)
     have HM := am hm
     clear hI hm hu1
     go_wp2_with (first | (go_at_call 43; refine (incr_is a0_1 _ (Kd.C_below HC1.out (by repeat (first | (with_reducible first | exact Below.refl _ _ | apply wa | apply wN | apply wd) | exact Below.refl _ _))) hc1 HRL.out).mono ?_; rintro e w' ⟨rfl, nd, rfl⟩; rw [HI.out]) | (go_at_call 44; refine (contains_is u _ (Kd.C_below HC1.out (by repeat (first | (with_reducible first | exact Below.refl _ _ | apply wa | apply wN | apply wd) | exact Below.refl _ _))) hc1 HRL.out).mono ?_; rintro e w' ⟨rfl, nd2, rfl⟩; rw [HM.out]))
     go_ret
     exact ⟨rfl, by repeat (first | (with_reducible first | exact Below.refl _ _ | exact HB1.out | apply wa | apply wN | apply wd) | exact Below.refl _ _ | exact HB1.out)⟩
    | true =>
     have HG := am (GOOD.out (by unfold badR; rw [hI, hm, u1, u2]; rfl))
     have HM := am hm
     clear hI hm hu1
     go_wp2_with (first | (go_at_call 43; refine (incr_is a0_1 _ (Kd.C_below HC1.out (by repeat (first | (with_reducible first | exact Below.refl _ _ | apply wa | apply wN | apply wd) | exact Below.refl _ _))) hc1 HRL.out).mono ?_; rintro e w' ⟨rfl, nd, rfl⟩; rw [HI.out]) | (go_at_call 44; refine (contains_is u _ (Kd.C_below HC1.out (by repeat (first | (with_reducible first | exact Below.refl _ _ | apply wa | apply wN | apply wd) | exact Below.refl _ _))) hc1 HRL.out).mono ?_; rintro e w' ⟨rfl, nd2, rfl⟩; rw [HM.out]))
     go_roundw
     case rel => exact ⟨k + 1, q + nd + nd2, by omega, by go_num, by first | rfl | simp [World.drewN_drewN], HG⟩
     case measure => simp [intOf]; omega
  obtain rfl : k = l0_0.length := by omega
  have hbad : anyU (badF a0_1 l0_0 l0_2 l0_3) l0_0.length 0 = false := any_no _ HP.out
  have hr := H.out
  rw [if_neg (by rw [hbad]; simp)] at hr
  have HR := am hr
  have HS2 := am hu80
  have hu : ∀ j, j < l0_0.length → -1 ≤ l0_2.getD j 0 ∧ l0_2.getD j 0 < 64 := fun j hj => by
   have h1 := HP.out j hj
   unfold badF badR at h1
   simp only [Bool.or_eq_false_iff, Bool.not_eq_false', Bool.and_eq_false_iff, bne_eq_false_iff_eq, decide_eq_true_eq] at h1
   obtain ⟨⟨h2, h3⟩, _⟩ := h1
   rcases h3 with h3 | h3
   ·omega
   have := ((incB_iff _ _).1 h2).2 _ h3
   omega
  have HU := am hu
  clear hbad hr hu hlt hk
  have hb2 : Below W1.heap.size W1 ((W1.drewN q).alloc (Obj.map #[] 0)) := wa (wN (Below.refl _ _) _) _
  have q2 := (hb2.cell (p := ⟨w.heap.size, 2, none⟩) HZ.out).trans g2
  clear hb2
  go_wp2_with fail
  obtain ⟨W2, hW2⟩ : ∃ W2, W2 = (W1.drewN q).alloc (Obj.map #[] 0) := ⟨_, rfl⟩
  have hb3 : Below W1.heap.size W1 W2 := by rw [hW2]; exact wa (wN (Below.refl _ _) _) _
  have hs3 : SetI Try.prog 3 4 W2 W1.heap.size 0 [] := by rw [hW2]; exact SetI.made (W1.drewN q) Try.prog 3 4
  have HB3 := am hb3
  have HS3 := am hs3
  rw [← hW2]
  clear hb3 hs3 hW2
  have hdup : ∀ j, j < l0_0.length → dupA l0_2 j = true → r = 5 := fun j hj hd => by
   have h1 := HR.out
   rw [if_pos (any_at _ (by have := HE2.out; omega) hd)] at h1
   exact (Option.some.inj h1).symm
  have hnodup : (∀ j, j < l0_0.length → dupA l0_2 j = false) → r = 0 := fun hd => by
   have h1 := HR.out
   rw [if_neg (by rw [any_no _ (fun j hj => hd j (by have := HE2.out; omega))]; simp)] at h1
   exact (Option.some.inj h1).symm
  have HD := am hdup
  have HND := am hnodup
  clear hdup hnodup
  go_loopw [81] (fun i wr => ∃ k : Nat, k ≤ l0_0.length ∧ i = .int .i64 k ∧ Aside0 (SetI Try.prog 3 4 wr W1.heap.size k (l0_2.take k)) ∧ Aside0 (Below W1.heap.size W1 wr) ∧ Aside0 (∀ j, j < k → dupA l0_2 j = false))
   (fun i _ => l0_0.length - (intOf i).toNat)
  case atStart => exact ⟨0, Nat.zero_le _, rfl, HS3, HB3, ⟨fun j hj => absurd hj (by omega)⟩⟩
  case round =>
   obtain ⟨k, hk, rfl, HS, HB, HN⟩ := hrel
   by_cases hlt : k < l0_0.length
   rotate_left
   ·obtain rfl : k = l0_0.length := by omega
    obtain rfl := HND.out HN.out
    go_wp2_with fail
    go_ret
    exact ⟨rfl, HB1.out.trans (HB.out.mono (Nat.le_of_lt HZ.out))⟩
   obtain ⟨ad2, eA2, hcell2⟩ := at_I (Kd.C_below (Kd.C_below HR2.out HB1.out) HB.out) k hlt
   subst eA2
   have hur := HU.out k hlt
   have hd0 : dupA l0_2 k = ((l0_2.getD k 0 != -1) && decide (l0_2.getD k 0 ∈ l0_2.take k)) := rfl
   have ht : l0_2.take (k + 1) = l0_2.take k ++ [l0_2.getD k 0] := by
    have := HE2.out
    rw [List.take_succ_eq_append_getElem (by omega), List.getD_eq_getElem?_getD, List.getElem?_eq_getElem (by omega)]; rfl
   obtain ⟨u, hu⟩ : ∃ u, u = l0_2.getD k 0 := ⟨_, rfl⟩
   rw [← hu] at hcell2 hur hd0 ht
   have hwf : wfi u := wf64.2 (by omega)
   have HT := am ht
   have HW := am hwf
   have HDK := am hd0
   have hN : dupA l0_2 k = false → ∀ j, j < k + 1 → dupA l0_2 j = false := fun h j hj => by
    by_cases hjk : j < k
    ·exact HN.out j hjk
    obtain rfl : j = k := by omega
    exact h
   have HNN := am hN
   have HMX := am (show k < maxLen by unfold maxLen; omega)
   clear ht hwf hd0 hN hu
   by_cases hu1 : u = -1
   ·subst hu1
    go_wp2_with (at_mapUpdate; refine wpList_set_put _ rfl _ _ _ 80 rfl 3 4 Try.underlying3 Try.underlying80 Try.underlying4 _ k _ rfl HS.out HMX.out (-1) rfl rfl HW.out ?_; intro w1 hs1 ht1; have HS1 := am hs1; have HT1 := am ht1.grown; clear hs1 ht1)
    go_roundw
    case rel => exact ⟨k + 1, by omega, by go_num, ⟨by rw [HT.out]; exact HS1.out⟩, ⟨HB.out.grown HT1.out (HB.out.size) (fun r e => by cases e; exact Nat.le_refl _)⟩, ⟨HNN.out (by rw [HDK.out]; rfl)⟩⟩
    case measure => simp [intOf]; omega
   have u1 : (u == -1) = false := by simpa using hu1
   have u2 : (u != -1) = true := by simpa using hu1
   have hrun := HS.out.run_get Try.underlying3 Try.underlying80 Try.underlying4 (zeroB _) HW.out
   cases hm : decide (u ∈ l0_2.take k) with
   | true =>
    obtain rfl := HD.out k hlt (by rw [HDK.out, hm, u2]; rfl)
    rw [hm] at hrun
    clear hm hu1
    go_wp2_with fail
    go_ret
    exact ⟨rfl, HB1.out.trans (HB.out.mono (Nat.le_of_lt HZ.out))⟩
   | false =>
    have HF := am (HNN.out (by rw [HDK.out, hm, u2]; rfl))
    rw [hm] at hrun
    clear hm hu1
    go_wp2_with (at_mapUpdate; refine wpList_set_put _ rfl _ _ _ 80 rfl 3 4 Try.underlying3 Try.underlying80 Try.underlying4 _ k _ rfl HS.out HMX.out u rfl rfl HW.out ?_; intro w1 hs1 ht1; have HS1 := am hs1; have HT1 := am ht1.grown; clear hs1 ht1)
    go_roundw
    case rel => exact ⟨k + 1, by omega, by go_num, ⟨by rw [HT.out]; exact HS1.out⟩, ⟨HB.out.grown HT1.out (HB.out.size) (fun r e => by cases e; exact Nat.le_refl _)⟩, HF⟩
    case measure => simp [intOf]; omega
end

def replace_open.j0 : Nat → Int → Bool → List (List Int) → Int → List Int → List Bool → Option (Int)
 | 0, _, _, _, _, _, _ => none
 | k + 1, x1, x11, x109000, x109001, x109002, x109003 => if x11 = true then (some 6) else (if 0 ≤ x1 then (if x1 < (x109002.length : Int) then (if (rd x109002 x1) = (-1) then (some 0) else (some 8)) else (none)) else (none))
def replace_open.f (k : Nat) (l0_0 : List (List Int)) (a0_1 : Int) (l0_2 : List Int) (l0_3 : List Bool) (a1 : Int) : Option (Int) := (replace_Check.f l0_0 a0_1 l0_2 l0_3).bind fun t109 => (if t109 = 0 then (if a1 < 0 then (replace_open.j0 k a1 true l0_0 a0_1 l0_2 l0_3) else (replace_open.j0 k a1 (decide (a1 ≥ (l0_0.length : Int))) l0_0 a0_1 l0_2 l0_3)) else (some t109))
set_option maxHeartbeats 8000000 in
set_option maxRecDepth 100000 in
theorem replace_open.calls (k : Nat) (A0_0 : Option Addr) (c0_0 : Nat) (l0_0 : List (List Int)) (a0_1 : Int) (A0_2 : Option Addr) (c0_2 : Nat) (l0_2 : List Int) (A0_3 : Option Addr) (c0_3 : Nat) (l0_3 : List Bool) (a1 : Int) (r : Int) (w : World) (hr0_0 : Kd.C (Kd.slice 3 (Kd.int .i64)) w A0_0 l0_0.length l0_0) (hc0_0 : l0_0.length ≤ c0_0) (hr0_2 : Kd.C (Kd.int .i64) w A0_2 l0_2.length l0_2) (hc0_2 : l0_2.length ≤ c0_2) (hr0_3 : Kd.C Kd.bool w A0_3 l0_3.length l0_3) (hc0_3 : l0_3.length ≤ c0_3) (h : replace_open.f k l0_0 a0_1 l0_2 l0_3 a1 = some r) :
  Calls Try.prog 37 #[.agg #[.slice A0_0 l0_0.length c0_0, .int .i64 a0_1, .slice A0_2 l0_2.length c0_2, .slice A0_3 l0_3.length c0_3], .int .i64 a1] w fun e w' => e = .returned (.int .i64 r) ∧ Below w.heap.size w w' := by
 have hu33 := Try.underlying33
 have HR0_0 := am hr0_0
 have HC0_0 := am hc0_0
 clear hr0_0 hc0_0
 have HR0_2 := am hr0_2
 have HC0_2 := am hc0_2
 clear hr0_2 hc0_2
 have HR0_3 := am hr0_3
 have HC0_3 := am hc0_3
 clear hr0_3 hc0_3
 have HB := am (Below.refl w.heap.size w)
 have H : ((replace_Check.f l0_0 a0_1 l0_2 l0_3).bind fun t109 => (if t109 = 0 then (if a1 < 0 then (replace_open.j0 k a1 true l0_0 a0_1 l0_2 l0_3) else (replace_open.j0 k a1 (decide (a1 ≥ (l0_0.length : Int))) l0_0 a0_1 l0_2 l0_3)) else (some t109))) = some r := h
 clear h
 replace H := Option.bind_eq_some_iff.mp H
 obtain ⟨t109, A30, H⟩ := H
 replace H : (if t109 = 0 then (if a1 < 0 then (replace_open.j0 k a1 true l0_0 a0_1 l0_2 l0_3) else (replace_open.j0 k a1 (decide (a1 ≥ (l0_0.length : Int))) l0_0 a0_1 l0_2 l0_3)) else (some t109)) = some r := H
 have A3 := am A30
 clear A30
 by_cases c4 : t109 = 0
 ·rw [if_pos c4] at H
  have c4b0 : (t109 == 0) = true := beq_iff_eq.mpr c4
  have c4b1 : (t109 != 0) = false := bne_eq_false_iff_eq.mpr c4
  clear c4
  have HC5 := am H
  clear H
  go_enter Try.func37, Try.ntmps37
  go_upto_region 4 with (first | ((with_reducible refine gate_dst (N := 2) rfl ?_); (try (refine gate_guard (by rfl) ?_; dsimp only)); refine box_event ?hg (N := 2) ?hd (cs := #[.slice A0_0 l0_0.length c0_0, .int .i64 a0_1, .slice A0_2 l0_2.length c0_2, .slice A0_3 l0_3.length c0_3]) (t := 33) ?hr ?_; (case hd | hg => rfl); (case hr => first | (go_simp; done) | (go_simp; rfl)); intro gb108 hg w6 hbox hb; have BK108 := am hbox; have GW108 := sG HB hg; have GE108 := sG HB hg; replace HB := bS HB hb; clear hb hbox hg; obtain ⟨_, _, _, _, _, _, _, _⟩ := zC4 BK108) | ((with_reducible refine gate_callee (f := 24) rfl ?_); refine goesL_ (some 7) rfl rfl Try.func24 (by kernel_rfl) rfl #[.agg #[.slice A0_0 l0_0.length c0_0, .int .i64 a0_1, .slice A0_2 l0_2.length c0_2, .slice A0_3 l0_3.length c0_3]] rfl (by (try simp only [pml]); first | done | rfl | (simp only [pdt]; rfl)) ?_; (with_reducible refine (replace_Check.calls _ _ l0_0 a0_1 _ _ l0_2 _ _ l0_3 t109 _ ?side1 ?side2 ?side3 ?side4 ?side5 ?side6 A3.out).mono ?_); (case side1 => repeat (first | exact (Kd.C_below HR0_0.out HB.out) | (with_reducible refine Kd.C_alloc ?_ _) | (with_reducible refine Kd.C_drewN ?_ _) | (with_reducible refine Kd.C_drew ?_))); (case side2 => exact HC0_0.out); (case side3 => repeat (first | exact (Kd.C_below HR0_2.out HB.out) | (with_reducible refine Kd.C_alloc ?_ _) | (with_reducible refine Kd.C_drewN ?_ _) | (with_reducible refine Kd.C_drew ?_))); (case side4 => exact HC0_2.out); (case side5 => repeat (first | exact (Kd.C_below HR0_3.out HB.out) | (with_reducible refine Kd.C_alloc ?_ _) | (with_reducible refine Kd.C_drewN ?_ _) | (with_reducible refine Kd.C_drew ?_))); (case side6 => exact HC0_3.out); rintro e w8 ⟨rfl, hb⟩; refine ⟨_, rfl, ?_⟩; replace BK108 := bB BK108 hb; replace HB := bS HB hb; (try clear hb); (try clear hb2); (try clear hk); (try clear hi)))
  (try simp only [Act.put, psl])
  go_cut [11] (fun v11 wc => ∃ (kq : Nat) (x11_4 : Bool), v11 = .bool x11_4 ∧ Aside0 (replace_open.j0 kq a1 x11_4 l0_0 a0_1 l0_2 l0_3 = some r) ∧ Aside0 (kq ≤ k) ∧ Aside0 (wc.heap[gb108]? = some (.cells #[(.slice A0_0 l0_0.length c0_0), .int .i64 a0_1, (.slice A0_2 l0_2.length c0_2), (.slice A0_3 l0_3.length c0_3)] 33 (0, 0))) ∧ Aside0 (Below w.heap.size w wc))
  case first =>
   have H := HC5.out
   clear HC5
   by_cases c9 : a1 < 0
   ·rw [if_pos c9] at H
    have c9b0 : decide (a1 < 0) = true := decide_eq_true c9
    clear c9
    (first | rw [c9b0] | (simp only [i64_w, i32_w]; rw [c9b0]) | skip)
    have H' := am H
    clear H
    go_wp2
    go_meet
    case rel => exact ⟨_, (true), sqD, H', ⟨by first | omega | exact Nat.le_refl _⟩, ⟨fb BK108.out⟩, ⟨fW HB.out⟩⟩
   rw [if_neg c9] at H
   have c9b0 : decide (a1 < 0) = false := decide_eq_false c9
   clear c9
   (first | rw [c9b0] | (simp only [i64_w, i32_w]; rw [c9b0]) | skip)
   have H' := am H
   clear H
   have := yC1 BK108
   have := kC1 BK108
   have := kC2 BK108
   have := kC3 BK108
   have := bf BK108.out 0
   have := bf BK108.out 1
   have := bf BK108.out 2
   have := bf BK108.out 3
   go_wp2
   go_meet
   case rel => exact ⟨_, (decide (a1 ≥ (l0_0.length : Int))), sqD, H', ⟨by first | omega | exact Nat.le_refl _⟩, ⟨fb BK108.out⟩, ⟨fW HB.out⟩⟩
  case rest =>
   clear HC5
   try clear c2;try clear p2;try clear c3;try clear c4;try clear c4b0;try clear c4b1;try clear c9;try clear c9b0
   obtain ⟨kq, x11_4, rfl, HA, HJ4, BK108, HB⟩ := hcut
   cases kq with
   | zero => exact absurd HA.out (by simp [replace_open.j0])
   | succ kj4 =>
    have H := HA.out
    clear HA
    simp only [replace_open.j0] at H
    by_cases c11 : x11_4 = true
    ·subst c11
     have H1 : (some 6) = some r := by rw [if_pos rfl] at H; exact H
     clear H
     have H := H1
     clear H1
     obtain rfl := Option.some.inj H
     go_wp2
     go_ret
     exact ⟨sqE, fW HB.out⟩
    replace c11 := Bool.eq_false_iff.mpr c11
    subst c11
    have H1 : (if 0 ≤ a1 then (if a1 < (l0_2.length : Int) then (if (rd l0_2 a1) = (-1) then (some 0) else (some 8)) else (none)) else (none)) = some r := by rw [if_neg (show ¬ (false = true) by decide)] at H; exact H
    clear H
    have H := H1
    clear H1
    by_cases c12 : 0 ≤ a1
    rotate_left
    ·rw [if_neg c12] at H
     exact absurd H (by simp)
    rw [if_pos c12] at H
    have c12b0 : decide (0 ≤ a1) = true := decide_eq_true c12
    clear c12
    by_cases c13 : a1 < (l0_2.length : Int)
    rotate_left
    ·rw [if_neg c13] at H
     exact absurd H (by simp)
    rw [if_pos c13] at H
    have c13b0 : decide (a1 < (l0_2.length : Int)) = true := decide_eq_true c13
    clear c13
    by_cases c14 : (rd l0_2 a1) = (-1)
    ·rw [if_pos c14] at H
     have c14b0 : ((rd l0_2 a1) == (-1)) = true := beq_iff_eq.mpr c14
     have c14b1 : ((rd l0_2 a1) != (-1)) = false := bne_eq_false_iff_eq.mpr c14
     clear c14
     obtain rfl := Option.some.inj H
     have := yC1 BK108
     have := kC1 BK108
     have := kC2 BK108
     have := kC3 BK108
     have := bf BK108.out 0
     have := bf BK108.out 1
     have := bf BK108.out 2
     have := bf BK108.out 3
     have p110 : 0 ≤ (a1 : Int) := of_decide_eq_true (by assumption)
     have q110 : a1 < (l0_2.length : Int) := of_decide_eq_true (by assumption)
     obtain ⟨ad110, e110, hx110_0⟩ := Kd.at_int HR0_2.out a1 p110 q110
     cases e110
     replace hx110_0 := cl HB hx110_0
     replace p110 := eq_true p110
     replace q110 := eq_true q110
     go_wp2
     go_ret
     exact ⟨sqE, fW HB.out⟩
    rw [if_neg c14] at H
    have c14b0 : ((rd l0_2 a1) == (-1)) = false := beq_eq_false_iff_ne.mpr c14
    have c14b1 : ((rd l0_2 a1) != (-1)) = true := bne_iff_ne.mpr c14
    obtain rfl := Option.some.inj H
    have := yC1 BK108
    have := kC1 BK108
    have := kC2 BK108
    have := kC3 BK108
    have := bf BK108.out 0
    have := bf BK108.out 1
    have := bf BK108.out 2
    have := bf BK108.out 3
    have p110 : 0 ≤ (a1 : Int) := of_decide_eq_true (by assumption)
    have q110 : a1 < (l0_2.length : Int) := of_decide_eq_true (by assumption)
    obtain ⟨ad110, e110, hx110_0⟩ := Kd.at_int HR0_2.out a1 p110 q110
    cases e110
    replace hx110_0 := cl HB hx110_0
    replace p110 := eq_true p110
    replace q110 := eq_true q110
    go_wp2
    go_ret
    exact ⟨sqE, fW HB.out⟩
 ·rw [if_neg c4] at H
  have c4b0 : (t109 == 0) = false := beq_eq_false_iff_ne.mpr c4
  have c4b1 : (t109 != 0) = true := bne_iff_ne.mpr c4
  obtain rfl := Option.some.inj H
  go_enter Try.func37, Try.ntmps37
  go_wp2_with (first | ((with_reducible refine gate_dst (N := 2) rfl ?_); (try (refine gate_guard (by rfl) ?_; dsimp only)); refine box_event ?hg (N := 2) ?hd (cs := #[.slice A0_0 l0_0.length c0_0, .int .i64 a0_1, .slice A0_2 l0_2.length c0_2, .slice A0_3 l0_3.length c0_3]) (t := 33) ?hr ?_; (case hd | hg => rfl); (case hr => first | (go_simp; done) | (go_simp; rfl)); intro gb108 hg w17 hbox hb; have BK108 := am hbox; have GW108 := sG HB hg; have GE108 := sG HB hg; replace HB := bS HB hb; clear hb hbox hg; obtain ⟨_, _, _, _, _, _, _, _⟩ := zC4 BK108) | ((with_reducible refine gate_callee (f := 24) rfl ?_); refine goesL_ (some 7) rfl rfl Try.func24 (by kernel_rfl) rfl #[.agg #[.slice A0_0 l0_0.length c0_0, .int .i64 a0_1, .slice A0_2 l0_2.length c0_2, .slice A0_3 l0_3.length c0_3]] rfl (by (try simp only [pml]); first | done | rfl | (simp only [pdt]; rfl)) ?_; (with_reducible refine (replace_Check.calls _ _ l0_0 a0_1 _ _ l0_2 _ _ l0_3 t109 _ ?side1 ?side2 ?side3 ?side4 ?side5 ?side6 A3.out).mono ?_); (case side1 => repeat (first | exact (Kd.C_below HR0_0.out HB.out) | (with_reducible refine Kd.C_alloc ?_ _) | (with_reducible refine Kd.C_drewN ?_ _) | (with_reducible refine Kd.C_drew ?_))); (case side2 => exact HC0_0.out); (case side3 => repeat (first | exact (Kd.C_below HR0_2.out HB.out) | (with_reducible refine Kd.C_alloc ?_ _) | (with_reducible refine Kd.C_drewN ?_ _) | (with_reducible refine Kd.C_drew ?_))); (case side4 => exact HC0_2.out); (case side5 => repeat (first | exact (Kd.C_below HR0_3.out HB.out) | (with_reducible refine Kd.C_alloc ?_ _) | (with_reducible refine Kd.C_drewN ?_ _) | (with_reducible refine Kd.C_drew ?_))); (case side6 => exact HC0_3.out); rintro e w19 ⟨rfl, hb⟩; refine ⟨_, rfl, ?_⟩; replace BK108 := bB BK108 hb; replace HB := bS HB hb; (try clear hb); (try clear hb2); (try clear hk); (try clear hi)))
  go_ret
  exact ⟨sqE, fW HB.out⟩

instance instInhabitedS52 : Inhabited S52 := ⟨z52⟩
def enc52 (x : S52) : List Value := [.int .i64 x.f0, .int .i64 x.f1, .int .i64 x.f2]
theorem flat52 : Go.Proofs.Ytkeomlmlimkebaa.SortRow.Flat k52 enc52 := ⟨fun _ _ _ _ _ h => k52_openM h, fun _ _ _ x => k52_mkM _ _ _ x, fun _ => rfl⟩
def replace_Change.f (l0 : List S52) : Option (List S52) := if l0.length < 1099511627776 then some l0.reverse else none
set_option maxHeartbeats 1000000 in
set_option maxRecDepth 100000 in
theorem replace_Change.calls (P0_ : Nat → Prop) (u9000_ : Value) (l0 : List S52) (r : List S52) (w0 w : World) (hB : Below w0.heap.size w0 w) (ho0 : Kd.R k52 52 w w0.heap.size P0_ u9000_ l0) (h : replace_Change.f l0 = some r) :
  Calls Try.prog 61 #[u9000_] w fun e w' => e = .returned (.tuple #[]) ∧ Kd.R k52 52 w' w0.heap.size (fun k_ => (P0_ k_ ∨ w.heap.size ≤ k_)) u9000_ r ∧ Below w0.heap.size w0 w' ∧ Kept w w' (fun k_ => P0_ k_) := by
 unfold replace_Change.f at h
 split at h
 case isFalse => exact absurd h (by simp)
 case isTrue hl =>
 obtain rfl := Option.some.inj h
 clear h
 rcases List.eq_nil_or_concat l0 with rfl | ⟨l', x', hx⟩
 ·obtain ⟨A1, c1, rfl⟩ := Kd.R_slice ho0
  refine Calls.mono (Go.Proofs.AnyQ.slices_Reverse_empty (P := Try.prog) Lay.rev61 A1 c1 w) ?_
  rintro e w' ⟨rfl, rfl⟩
  exact ⟨rfl, Kd.R_mono ho0 (fun _ hk => .inl hk), hB, Kept.refl _ _⟩
 ·have hne : l0 ≠ [] := by rw [hx]; simp
  obtain ⟨g, cap, rfl, hH, hg, hbg, hP⟩ := Go.Proofs.Ytkeomlmlimkebaa.SortRow.holds_of_R flat52 ho0 hne
  have hcon := Go.Proofs.AnyQ.slices_Reverse (P := Try.prog) Lay.rev61 3 Try.isAgg52 Try.sizeOf52 enc52 (fun _ => rfl) (fun x v hv => by simp [enc52] at hv; rcases hv with rfl | rfl | rfl <;> rfl) g 0 cap l0.toArray w hH (by simp; omega)
  refine Calls.mono hcon ?_
  rintro e w' ⟨rfl, n, rfl⟩
  have hR := Go.Proofs.Ytkeomlmlimkebaa.SortRow.R_of_sorted (l' := l0.reverse) flat52 (by decide) ho0 rfl (by simp) hne n #[]
  have ew : Go.Proofs.sortWorldK enc52 k52.sz w g 0 n l0.reverse.toArray #[] = Go.Sort.putRowK enc52 3 (Go.Sort.ahead w n) g 0 l0.toArray.reverse := by
   unfold Go.Proofs.sortWorldK
   rw [List.reverse_toArray]
   exact Go.Sort.grow_empty _
  have hb := Go.Proofs.Ytkeomlmlimkebaa.SortRow.below_sorted (d := k52) (enc := enc52) hB g n l0.reverse.toArray #[] hbg
  have hk := Go.Proofs.Ytkeomlmlimkebaa.SortRow.kept_sorted (d := k52) (enc := enc52) w g n l0.reverse.toArray #[] P0_ hP
  rw [ew] at hR hb hk
  exact ⟨rfl, Kd.R_mono hR (fun _ hk => .inl hk), hb, hk⟩

section
open Go.Proofs.Ytkeomlmlimkebaa.EvKit Go.Proofs.Ytkeomlmlimkebaa.MapKit
attribute [local go_sem] max2_int min2_int max_two min_two Oper.semAt_some
set_option linter.unusedVariables false
set_option linter.unusedSimpArgs false
def replace_repair.l0 : Nat → List (Int × Int) → List Int → Int → Int → List S52 → Option (List S52)
 | 0, _, _, _, _, _ => none
 | k + 1, M, uses, stone, piece, out =>
  if -9223372036854775808 ≤ piece then (if piece ≤ 9223372036854775807 then (if 0 ≤ (mget M piece).getD 0 then (if (mget M piece).getD 0 < (uses.length : Int) then (if out.length < 1000000 then
   (if (mget M piece).getD 0 = stone then some (out ++ [(⟨(mget M piece).getD 0, rd uses ((mget M piece).getD 0), piece⟩ : S52)]).reverse
    else replace_repair.l0 k M uses stone (rd uses ((mget M piece).getD 0)) (out ++ [(⟨(mget M piece).getD 0, rd uses ((mget M piece).getD 0), piece⟩ : S52)])) else none) else none) else none) else none) else none
def replace_repair.f (k : Nat) (l0_2 : List Int) (M : List (Int × Int)) (a2 a3 : Int) : Option (List S52) := replace_repair.l0 k M l0_2 a3 a2 []
theorem zeroI (w : World) : (zeroValue 3).run Try.prog w = .ok (.int .i64 0) w := by kernel_rfl
set_option maxHeartbeats 4000000 in
set_option maxRecDepth 100000 in
theorem replace_repair.calls (k : Nat) (A0_0 : Option Addr) (c0_0 : Nat) (l0_0 : List (List Int)) (a0_1 : Int) (A0_2 : Option Addr) (c0_2 : Nat) (l0_2 : List Int) (A0_3 : Option Addr) (c0_3 : Nat) (l0_3 : List Bool) (b n : Nat) (M : List (Int × Int)) (a2 a3 : Int) (r : List S52) (w : World) (hr0_2 : Kd.C (Kd.int .i64) w A0_2 l0_2.length l0_2) (hc0_2 : l0_2.length ≤ c0_2) (hm : MapI Try.prog 3 3 w b n M) (h : replace_repair.f k l0_2 M a2 a3 = some r) :
  Calls Try.prog 54 #[.agg #[.slice A0_0 l0_0.length c0_0, .int .i64 a0_1, .slice A0_2 l0_2.length c0_2, .slice A0_3 l0_3.length c0_3], .map (some b), .int .i64 a2, .int .i64 a3] w fun e w' => ∃ v0_ : Value, e = .returned v0_ ∧ Kd.R k52 52 w' w.heap.size (fun _ => True) v0_ r ∧ Below w.heap.size w w' := by
 have hu33 := Try.underlying33
 have HR2 := am hr0_2
 have HM := am hm
 have H' := am (show replace_repair.l0 k M l0_2 a3 a2 [] = some r from h)
 clear hr0_2 hm h
 go_enter Try.func54, Try.ntmps54
 go_wp2_with fail
 obtain ⟨W1, hW1⟩ : ∃ W1, W1 = w.alloc (.cells #[.slice A0_0 l0_0.length c0_0, .int .i64 a0_1, .slice A0_2 l0_2.length c0_2, .slice A0_3 l0_3.length c0_3] 33) := ⟨_, rfl⟩
 have hb1 : Below w.heap.size w W1 := by rw [hW1]; exact (Below.refl _ _).alloc (Nat.le_refl _) _
 have b1 : W1.heap[w.heap.size]? = some (.cells #[.slice A0_0 l0_0.length c0_0, .int .i64 a0_1, .slice A0_2 l0_2.length c0_2, .slice A0_3 l0_3.length c0_3] 33 (0, 0)) := by rw [hW1]; exact blk_new w _
 have g2 := (blk_cell b1 2).trans rfl
 have HB1 := am hb1
 have HG2 := am g2
 have HZ := am (show w.heap.size < W1.heap.size by rw [hW1]; simp)
 rw [← hW1]
 clear hb1 b1 hW1 g2
 go_loopg [2, 9] k (fun kq v2 v9 wr => ∃ (x : Int) (out : List S52), v2 = .int .i64 x ∧ Aside0 (replace_repair.l0 kq M l0_2 a3 x out = some r) ∧ Aside0 (kq ≤ k) ∧ Aside0 (Kd.R k52 52 wr W1.heap.size (fun _ => True) v9 out) ∧ Aside0 (Below W1.heap.size W1 wr))
 case atStart => exact ⟨a2, [], rfl, H', ⟨Nat.le_refl _⟩, ⟨Kd.R_nil _ _ _ _ _⟩, ⟨Below.refl _ _⟩⟩
 case round =>
  clear H'
  obtain ⟨x, out, rfl, HA, HK1, HO, HB⟩ := hrel
  cases gk with
  | zero => exact absurd HA.out (by simp [replace_repair.l0])
  | succ k1 =>
   have H := HA.out
   clear HA
   simp only [replace_repair.l0] at H
   split at H
   case isFalse => cases H
   case isTrue c1 =>
   split at H
   case isFalse => cases H
   case isTrue c2 =>
   split at H
   case isFalse => cases H
   case isTrue c3 =>
   split at H
   case isFalse => cases H
   case isTrue c4 =>
   split at H
   case isFalse => cases H
   case isTrue c5 =>
   obtain ⟨s, hs⟩ : ∃ s, (mget M x).getD 0 = s := ⟨_, rfl⟩
   rw [hs] at c3 c4 H
   have HSS := am hs
   have HWF := am (show wfi x from wf64.2 ⟨c1, c2⟩)
   have HMr := am ((HM.out.below HB1.out HM.out.lt).below HB.out (Nat.lt_trans HM.out.lt HZ.out))
   obtain ⟨ad2, eA2, hcellW⟩ := at_I (Kd.C_below HR2.out HB1.out) s.toNat (by omega)
   subst eA2
   have hcell2 := (HB.out.cell (World.block_lt_of_cell? W1 _ hcellW)).trans hcellW
   have g2 := (HB.out.cell (p := ⟨w.heap.size, 2, none⟩) HZ.out).trans HG2.out
   have er : rd l0_2 s = l0_2.getD s.toNat 0 := rfl
   obtain ⟨u, hu⟩ : ∃ u, u = rd l0_2 s := ⟨_, rfl⟩
   rw [← er, ← hu] at hcell2 hcellW
   have HC2 := am hcellW
   clear hcellW
   rw [← hu] at H
   have LM := am c5
   clear hs c5 er hu
   obtain ⟨y, hy⟩ : ∃ y_ : List S52, y_ = out ++ [(⟨s, u, x⟩ : S52)] := ⟨_, rfl⟩
   rw [← hy] at H
   have NY := am hy
   clear hy
   by_cases hst : s = a3
   ·rw [if_pos hst] at H
    obtain rfl := Option.some.inj H
    have s1 : (s == a3) = true := beq_iff_eq.2 hst
    clear H hst
    go_wp2_with (first | (at_lookup; refine wpList_map_get _ rfl _ _ 84 rfl 3 3 Try.underlying3 Try.underlying84 Try.underlying3 (zeroI _) b n M rfl HMr.out x rfl HWF.out s HSS.out ?_) | ((with_reducible refine gate_builtin (b := .append) (xs := #[.tmp 14, .tmp 23]) rfl ?_); at_builtin; refine Kd.R_append k52 (w0 := W1) W1.heap.size rfl (.tmp 14) (.tmp 23) 29 52 (.agg #[(.int .i64 0), (.int .i64 0), (.int .i64 0)]) 24 rfl Try.underlying29 info52 rfl (by decide) (by omega) _ out (⟨s, u, x⟩ : S52) [.int .i64 s, .int .i64 u, .int .i64 x] (fun _ => True) (fun _ => False) rfl rfl ?aP (fun _ hk => hk.elim) ?aF ?aO ?aB ?aS ?aL ?_; (case aP => exact k52_mkM _ _ _ (⟨s, u, x⟩ : S52)); (case aB => exact (fW HB.out)); (case aF => exact (fun _ _ => trivial)); (case aO => exact (fR HO.out)); (case aS => exact (below_size (fW HB.out))); (case aL => have := LM.out; omega); intro v125 w7 ho hb hg hat; rw [← NY.out] at ho; replace HB := am (hb); replace HO := am (ho); clear ho hb hg hat) | (go_at_call 61; refine (replace_Change.calls (fun _ => True) _ y y.reverse W1 _ (fW HB.out) (fR HO.out) ?rv).mono ?_; (case rv => unfold replace_Change.f; rw [if_pos (by rw [NY.out]; simp; have := LM.out; omega)]); rintro e w' ⟨rfl, hR, hb, hk⟩; have HR := am (Kd.R_mono hR (fun _ _ => trivial) : Kd.R k52 52 w' W1.heap.size (fun _ => True) _ y.reverse); have HBB := am hb; clear hR hb hk))
    go_ret
    exact ⟨_, rfl, Kd.R_lower HR.out (Nat.le_of_lt HZ.out), HB1.out.trans (HBB.out.mono (Nat.le_of_lt HZ.out))⟩
   rw [if_neg hst] at H
   have H' := am H
   have s1 : (s == a3) = false := beq_eq_false_iff_ne.2 hst
   clear H hst
   go_wp2_with (first | (at_lookup; refine wpList_map_get _ rfl _ _ 84 rfl 3 3 Try.underlying3 Try.underlying84 Try.underlying3 (zeroI _) b n M rfl HMr.out x rfl HWF.out s HSS.out ?_) | ((with_reducible refine gate_builtin (b := .append) (xs := #[.tmp 14, .tmp 23]) rfl ?_); at_builtin; refine Kd.R_append k52 (w0 := W1) W1.heap.size rfl (.tmp 14) (.tmp 23) 29 52 (.agg #[(.int .i64 0), (.int .i64 0), (.int .i64 0)]) 24 rfl Try.underlying29 info52 rfl (by decide) (by omega) _ out (⟨s, u, x⟩ : S52) [.int .i64 s, .int .i64 u, .int .i64 x] (fun _ => True) (fun _ => False) rfl rfl ?aP (fun _ hk => hk.elim) ?aF ?aO ?aB ?aS ?aL ?_; (case aP => exact k52_mkM _ _ _ (⟨s, u, x⟩ : S52)); (case aB => exact (fW HB.out)); (case aF => exact (fun _ _ => trivial)); (case aO => exact (fR HO.out)); (case aS => exact (below_size (fW HB.out))); (case aL => have := LM.out; omega); intro v125 w7 ho hb hg hat; have g3 := (hb.cell (p := ⟨w.heap.size, 2, none⟩) HZ.out).trans HG2.out; have g4 := (hb.cell (World.block_lt_of_cell? W1 _ HC2.out)).trans HC2.out; rw [← NY.out] at ho; replace HB := am (hb); replace HO := am (ho); clear ho hb hg hat))
   go_roundg k1
   case measure => have := HK1.out; omega
   case rel => exact ⟨u, y, rfl, H', ⟨by have := HK1.out; omega⟩, HO, HB⟩
end

end Go.Proofs.Ytkeomlmlimkebaa.QA
