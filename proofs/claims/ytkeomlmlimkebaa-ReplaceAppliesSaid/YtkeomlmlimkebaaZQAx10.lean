import Derived.Test.YtkeomlmlimkebaaZQAx0
import Derived.Test.YtkeomlmlimkebaaZQAx3
import Derived.Test.YtkeomlmlimkebaaZQAx4
import Derived.Test.YtkeomlmlimkebaaZQAx9
import Derived.Test.YtkeomlmlimkebaaZEvKit
import Derived.Test.YtkeomlmlimkebaaZMapKit
import Derived.Carry
import Derived.LoopN
namespace Go.Proofs.Ytkeomlmlimkebaa.QA
open Go.RowKit Go.Proofs.YtkeomlmlimkebaaW.PrintWords Go.Proofs.YtkeomlmlimkebaaW.PrintLast Go.Proofs.YtkeomlmlimkebaaW.PrintMore
open Go.Proofs.YtkeomlmlimkebaaW.PrintWords renaming below_alloc → wa, pw_below_drewN → wN, below_drew1 → wd, blk_frozen → bf
open Aside0 renaming mk → am
attribute [local go_sem] max2_int min2_int max_two min_two max_three min_three max_four min_four
set_option linter.unusedVariables false
set_option linter.unusedSimpArgs false

section
open Go.Proofs.Ytkeomlmlimkebaa.EvKit Go.Proofs.Ytkeomlmlimkebaa.MapKit
attribute [local go_sem] max2_int min2_int max_two min_two Oper.semAt_some
set_option linter.unusedVariables false
set_option linter.unusedSimpArgs false
theorem rincr_loop (l : List Int) (e : Int) (hl : l.length < 1099511627776) : ∀ m i, l.length = i + m → Ev (fun k => r_increasing.l0 k l e (i : Int)) (incF l e m i) := by
 intro m
 induction m with
 | zero =>
  intro i hi
  refine Ev.succ ?_
  simp only [r_increasing.l0]
  exact Ev.neg (by omega) (Ev.now _)
 | succ m ih =>
  intro i hi
  have no : Ev (fun k => r_increasing.j1 k l e (i : Int) true) false := by
   refine Ev.succ ?_
   simp only [r_increasing.j1]
   exact Ev.pos trivial (Ev.now _)
  have yes : Ev (fun k => r_increasing.j1 k l e (i : Int) false) (incF l e m (i + 1)) := by
   refine Ev.succ ?_
   simp only [r_increasing.j1]
   refine Ev.neg (by simp) ?_
   rw [nxt64 (by omega)]
   exact ih (i + 1) (by omega)
  refine Ev.succ ?_
  simp only [r_increasing.l0]
  refine Ev.pos (by omega) (Ev.pos (by omega) ?_)
  rw [rdN]
  unfold incF gdI
  refine Ev.ite (fun h => ?_) (fun h => Ev.ite (fun h2 => ?_) (fun h2 => Ev.ite (fun h3 => ?_) (fun h3 => ?_)))
  ·rw [decide_eq_false (p := 0 ≤ l.getD i 0) (by omega)]; exact no
  ·rw [decide_eq_true (p := 0 ≤ l.getD i 0) (by omega), decide_eq_false (p := l.getD i 0 < e) (by omega)]; exact no
  ·rw [decide_eq_true (p := 0 ≤ l.getD i 0) (by omega), decide_eq_true (p := l.getD i 0 < e) (by omega), decide_eq_false (p := i = 0) (by omega)]
   have e1 : wrap64 ((i : Int) - 1) = ((i - 1 : Nat) : Int) := by rw [w64 (by omega) (by omega)]; omega
   rw [e1]
   refine Ev.pos (by omega) (Ev.pos (by omega) ?_)
   rw [rdN]
   by_cases h4 : l.getD (i - 1) 0 < l.getD i 0
   ·rw [decide_eq_false (p := l.getD (i - 1) 0 ≥ l.getD i 0) (by omega), decide_eq_true h4]; exact yes
   rw [decide_eq_true (p := l.getD (i - 1) 0 ≥ l.getD i 0) (by omega), decide_eq_false h4]; exact no
  rw [decide_eq_true (p := 0 ≤ l.getD i 0) (by omega), decide_eq_true (p := l.getD i 0 < e) (by omega), decide_eq_true (p := i = 0) (by omega)]; exact yes
theorem rincr_ev (l : List Int) (e : Int) (hl : l.length < 1099511627776) : Ev (fun k => r_increasing.f k l e) (incB l e) := rincr_loop l e hl l.length 0 (by omega)
theorem rhas_loop (l : List Int) (x : Int) (hl : l.length < 1099511627776) : ∀ m i, l.length = i + m → Ev (fun k => r_has.l0 k l x (i : Int)) (decide (x ∈ l.drop i)) := by
 intro m
 induction m with
 | zero =>
  intro i hi
  refine Ev.succ ?_
  simp only [r_has.l0]
  rw [decide_eq_false (show ¬ x ∈ l.drop i by rw [List.drop_eq_nil_of_le (by omega)]; simp)]
  exact Ev.neg (by omega) (Ev.now _)
 | succ m ih =>
  intro i hi
  have ed : l.drop i = l.getD i 0 :: l.drop (i + 1) := EvKit.drop_cons l i 0 (by omega)
  refine Ev.succ ?_
  simp only [r_has.l0]
  refine Ev.pos (by omega) (Ev.pos (by omega) ?_)
  rw [rdN]
  refine Ev.ite (fun h => ?_) (fun h => ?_)
  ·rw [decide_eq_true (by rw [ed, h]; exact List.mem_cons_self ..)]
   exact Ev.now _
  rw [nxt64 (by omega)]
  refine Ev.eq (ih (i + 1) (by omega)) ?_
  rw [ed]
  by_cases hm : x ∈ l.drop (i + 1)
  ·rw [decide_eq_true hm, decide_eq_true (by simp [hm])]
  rw [decide_eq_false hm, decide_eq_false (by simp only [List.mem_cons, not_or]; exact ⟨fun e => h e.symm, hm⟩)]
theorem rhas_ev (l : List Int) (x : Int) (hl : l.length < 1099511627776) : Ev (fun k => r_has.f k l x) (decide (x ∈ l)) := by
 have h := rhas_loop l x hl l.length 0 (by omega)
 simp only [List.drop_zero] at h
 exact h
def twA (l : List Int) (i : Nat) : Bool := decide (0 ≤ l.getD i 0) && decide (l.getD i 0 ∈ l.take i)
def twB (l : List Int) : Bool := anyU (twA l) l.length 0
theorem rtwice_in (l : List Int) (hl : l.length < 1099511627776) {i : Nat} (hi : i < l.length) {r : Bool} (hn : ¬ (0 ≤ l.getD i 0 ∧ l.getD i 0 ∈ l.take i) → Ev (fun k => r_twice.l0 k l ((i + 1 : Nat) : Int)) r) (hy : (0 ≤ l.getD i 0 ∧ l.getD i 0 ∈ l.take i) → r = true) :
  ∀ m j, i = j + m → (∀ t, t < j → ¬ (0 ≤ l.getD i 0 ∧ l.getD i 0 = l.getD t 0)) → Ev (fun k => r_twice.l1 k l (i : Int) (j : Int)) r := by
 have tk : l.getD i 0 ∈ l.take i ↔ ∃ t, t < i ∧ l.getD i 0 = l.getD t 0 := by
  rw [List.mem_iff_getElem]
  constructor
  ·rintro ⟨t, ht, he⟩
   rw [List.length_take] at ht
   refine ⟨t, by omega, ?_⟩
   rw [← he, List.getElem_take, List.getD_eq_getElem?_getD, List.getElem?_eq_getElem (by omega)]; rfl
  rintro ⟨t, ht, he⟩
  refine ⟨t, by rw [List.length_take]; omega, ?_⟩
  rw [he, List.getElem_take, List.getD_eq_getElem?_getD, List.getElem?_eq_getElem (by omega)]; rfl
 intro m
 induction m with
 | zero =>
  intro j hj hno
  refine Ev.succ ?_
  simp only [r_twice.l1]
  refine Ev.neg (by omega) ?_
  rw [nxt64 (by omega)]
  refine hn ?_
  rintro ⟨h1, h2⟩
  obtain ⟨t, h3, h4⟩ := tk.1 h2
  exact hno t (by omega) ⟨h1, h4⟩
 | succ m ih =>
  intro j hj hno
  have nx : (¬ (0 ≤ l.getD i 0 ∧ l.getD i 0 = l.getD j 0)) → Ev (fun k => r_twice.j2 k l (i : Int) (j : Int)) r := fun h => by
   refine Ev.succ ?_
   simp only [r_twice.j2]
   rw [nxt64 (by omega)]
   refine ih (j + 1) (by omega) (fun t ht => ?_)
   by_cases e : t = j
   ·subst e; exact h
   exact hno t (by omega)
  refine Ev.succ ?_
  simp only [r_twice.l1]
  refine Ev.pos (by omega) (Ev.pos (by omega) (Ev.pos (by omega) ?_))
  rw [rdN, rdN]
  refine Ev.ite (fun h => Ev.pos (by omega) (Ev.pos (by omega) (Ev.ite (fun h2 => ?_) (fun h2 => ?_)))) (fun h => ?_)
  ·rw [hy ⟨h, tk.2 ⟨j, by omega, h2⟩⟩]; exact Ev.now _
  ·exact nx (fun h3 => h2 h3.2)
  exact nx (fun h3 => h h3.1)
theorem rtwice_loop (l : List Int) (hl : l.length < 1099511627776) : ∀ m i, l.length = i + m → Ev (fun k => r_twice.l0 k l (i : Int)) (anyU (twA l) m i) := by
 intro m
 induction m with
 | zero =>
  intro i hi
  refine Ev.succ ?_
  simp only [r_twice.l0]
  exact Ev.neg (by omega) (Ev.now _)
 | succ m ih =>
  intro i hi
  refine Ev.succ ?_
  simp only [r_twice.l0]
  refine Ev.pos (by omega) ?_
  refine rtwice_in l hl (by omega) (fun h => ?_) (fun h => ?_) i 0 (by omega) (fun t ht => absurd ht (by omega))
  ·refine Ev.eq (ih (i + 1) (by omega)) ?_
   have : twA l i = false := by
    unfold twA
    by_cases h1 : 0 ≤ l.getD i 0
    ·rw [decide_eq_true h1, decide_eq_false (fun h2 => h ⟨h1, h2⟩)]; rfl
    rw [decide_eq_false h1]; rfl
   show anyU (twA l) m (i + 1) = (twA l i || anyU (twA l) m (i + 1))
   rw [this]; rfl
  show (twA l i || anyU (twA l) m (i + 1)) = true
  have : twA l i = true := by unfold twA; rw [decide_eq_true h.1, decide_eq_true h.2]; rfl
  rw [this]; rfl
theorem rtwice_ev (l : List Int) (hl : l.length < 1099511627776) : Ev (fun k => r_twice.f k l) (twB l) := rtwice_loop l hl l.length 0 (by omega)
theorem rincr_is {A0 : Option Addr} {c0 : Nat} {l0 : List Int} (a1 : Int) (w : World) (hr0 : Kd.C (Kd.int .i64) w A0 l0.length l0) (hc0 : l0.length ≤ c0) (hl : l0.length < 1099511627776) :
  Calls Try.prog 39 #[.slice A0 l0.length c0, .int .i64 a1] w fun e w' => e = .returned (.bool (incB l0 a1)) ∧ ∃ n, w' = w.drewN n := by
 obtain ⟨K, h⟩ := rincr_ev l0 a1 hl
 exact (r_increasing.calls K A0 c0 l0 a1 _ w hr0 hc0 (h K (Nat.le_refl _))).mono fun e w' ⟨h1, h2⟩ => ⟨h1, h2.out⟩
theorem rhas_is {A0 : Option Addr} {c0 : Nat} {l0 : List Int} (a1 : Int) (w : World) (hr0 : Kd.C (Kd.int .i64) w A0 l0.length l0) (hc0 : l0.length ≤ c0) (hl : l0.length < 1099511627776) :
  Calls Try.prog 40 #[.slice A0 l0.length c0, .int .i64 a1] w fun e w' => e = .returned (.bool (decide (a1 ∈ l0))) ∧ ∃ n, w' = w.drewN n := by
 obtain ⟨K, h⟩ := rhas_ev l0 a1 hl
 exact (r_has.calls K A0 c0 l0 a1 _ w hr0 hc0 (h K (Nat.le_refl _))).mono fun e w' ⟨h1, h2⟩ => ⟨h1, h2.out⟩
theorem rtwice_is {A0 : Option Addr} {c0 : Nat} {l0 : List Int} (w : World) (hr0 : Kd.C (Kd.int .i64) w A0 l0.length l0) (hc0 : l0.length ≤ c0) (hl : l0.length < 1099511627776) :
  Calls Try.prog 41 #[.slice A0 l0.length c0] w fun e w' => e = .returned (.bool (twB l0)) ∧ ∃ n, w' = w.drewN n := by
 obtain ⟨K, h⟩ := rtwice_ev l0 hl
 exact (r_twice.calls K A0 c0 l0 _ w hr0 hc0 (h K (Nat.le_refl _))).mono fun e w' ⟨h1, h2⟩ => ⟨h1, h2.out⟩
def r_Check.f (l0_0 : List (List Int)) (a0_1 : Int) (l0_2 : List Int) (l0_3 : List Bool) : Option Int :=
 if l0_0.length > 64 ∨ a0_1 > 64 ∨ a0_1 < 0 then some 7
 else if l0_2.length ≠ l0_0.length ∨ l0_3.length ≠ l0_0.length then some 1
 else if ∀ j, j < l0_0.length → (l0_0.getD j []).length < 1000000 then (if anyU (badF a0_1 l0_0 l0_2 l0_3) l0_0.length 0 = true then some 1 else if twB l0_2 = true then some 5 else some 0)
 else none
set_option maxHeartbeats 4000000 in
set_option maxRecDepth 100000 in
theorem r_Check.calls (A0_0 : Option Addr) (c0_0 : Nat) (l0_0 : List (List Int)) (a0_1 : Int) (A0_2 : Option Addr) (c0_2 : Nat) (l0_2 : List Int) (A0_3 : Option Addr) (c0_3 : Nat) (l0_3 : List Bool) (r : Int) (w : World) (hr0_0 : Kd.C (Kd.slice 3 (Kd.int .i64)) w A0_0 l0_0.length l0_0) (hc0_0 : l0_0.length ≤ c0_0) (hr0_2 : Kd.C (Kd.int .i64) w A0_2 l0_2.length l0_2) (hc0_2 : l0_2.length ≤ c0_2) (hr0_3 : Kd.C Kd.bool w A0_3 l0_3.length l0_3) (hc0_3 : l0_3.length ≤ c0_3) (h : r_Check.f l0_0 a0_1 l0_2 l0_3 = some r) :
  Calls Try.prog 14 #[.agg #[.slice A0_0 l0_0.length c0_0, .int .i64 a0_1, .slice A0_2 l0_2.length c0_2, .slice A0_3 l0_3.length c0_3]] w fun e w' => e = .returned (.int .i64 r) ∧ Below w.heap.size w w' := by
 have hu26 := Try.underlying26
 unfold r_Check.f at h
 split at h
 case isTrue hbig =>
  obtain rfl := Option.some.inj h
  have hH := am hr0_0
  clear h
  by_cases h1 : 64 < l0_0.length
  ·go_enter Try.func14, Try.ntmps14
   go_wp2_with fail
   go_ret
   exact ⟨rfl, (Below.refl _ _).alloc (Nat.le_refl _) _⟩
  by_cases h2 : 64 < a0_1
  ·go_enter Try.func14, Try.ntmps14
   go_wp2_with fail
   go_ret
   exact ⟨rfl, (Below.refl _ _).alloc (Nat.le_refl _) _⟩
  have h3 : a0_1 < 0 := by omega
  go_enter Try.func14, Try.ntmps14
  go_wp2_with fail
  go_ret
  exact ⟨rfl, (Below.refl _ _).alloc (Nat.le_refl _) _⟩
 case isFalse hsmall =>
 have s1 : l0_0.length ≤ 64 := by omega
 have s2 : a0_1 ≤ 64 := by omega
 have s3 : 0 ≤ a0_1 := by omega
 clear hsmall
 split at h
 case isTrue hlen =>
  obtain rfl := Option.some.inj h
  clear h
  by_cases h1 : l0_2.length = l0_0.length
  ·have h2 : ¬ (l0_3.length = l0_0.length) := by omega
   have h2' : ((l0_3.length : Int) == (l0_0.length : Int)) = false := by simp; omega
   have h2'' : ((l0_3.length : Int) != (l0_0.length : Int)) = true := by simp; omega
   have h1' : ((l0_2.length : Int) == (l0_0.length : Int)) = true := by simp; omega
   have h1'' : ((l0_2.length : Int) != (l0_0.length : Int)) = false := by simp; omega
   clear h1 h2 hlen
   go_enter Try.func14, Try.ntmps14
   go_wp2_with fail
   go_ret
   exact ⟨rfl, (Below.refl _ _).alloc (Nat.le_refl _) _⟩
  have h1' : ((l0_2.length : Int) == (l0_0.length : Int)) = false := by simp; omega
  have h1'' : ((l0_2.length : Int) != (l0_0.length : Int)) = true := by simp; omega
  clear h1 hlen
  go_enter Try.func14, Try.ntmps14
  go_wp2_with fail
  go_ret
  exact ⟨rfl, (Below.refl _ _).alloc (Nat.le_refl _) _⟩
 case isFalse hlen =>
 have e2 : l0_2.length = l0_0.length := by omega
 have e3 : l0_3.length = l0_0.length := by omega
 clear hlen
 split at h
 case isFalse => cases h
 case isTrue hrow =>
 rw [e2] at hr0_2 hc0_2 ⊢
 rw [e3] at hr0_3 hc0_3 ⊢
 have HR0 := am hr0_0
 have HR2 := am hr0_2
 have HR3 := am hr0_3
 have HROW := am hrow
 have H := am h
 have HE2 := am e2
 clear hr0_0 hr0_2 hr0_3 hrow h e2 e3
 go_enter Try.func14, Try.ntmps14
 go_wp2_with fail
 obtain ⟨W1, hW1⟩ : ∃ W1, W1 = w.alloc (.cells #[.slice A0_0 l0_0.length c0_0, .int .i64 a0_1, .slice A0_2 l0_0.length c0_2, .slice A0_3 l0_0.length c0_3] 26) := ⟨_, rfl⟩
 have hb1 : Below w.heap.size w W1 := by rw [hW1]; exact (Below.refl _ _).alloc (Nat.le_refl _) _
 have b1 : W1.heap[w.heap.size]? = some (.cells #[.slice A0_0 l0_0.length c0_0, .int .i64 a0_1, .slice A0_2 l0_0.length c0_2, .slice A0_3 l0_0.length c0_3] 26 (0, 0)) := by rw [hW1]; exact blk_new w _
 have g0 := (blk_cell b1 0).trans rfl
 have g1 := (blk_cell b1 1).trans rfl
 have g2 := (blk_cell b1 2).trans rfl
 have g3 := (blk_cell b1 3).trans rfl
 have HB1 := am hb1
 have HZ := am (show w.heap.size < W1.heap.size by rw [hW1]; simp)
 rw [← hW1]
 clear hb1 b1 hW1
 go_loopw [3] (fun i wr => ∃ k q : Nat, k ≤ l0_0.length ∧ i = .int .i64 k ∧ wr = W1.drewN q ∧ Aside0 (∀ j, j < k → badF a0_1 l0_0 l0_2 l0_3 j = false))
  (fun i _ => l0_0.length - (intOf i).toNat)
 case atStart => exact ⟨0, 0, Nat.zero_le _, rfl, rfl, ⟨fun j hj => absurd hj (by omega)⟩⟩
 case round =>
  obtain ⟨k, q, hk, rfl, rfl, HP⟩ := hrel
  by_cases hlt : k < l0_0.length
  rotate_left
  ·obtain rfl : k = l0_0.length := by omega
   have hbad : anyU (badF a0_1 l0_0 l0_2 l0_3) l0_0.length 0 = false := any_no _ HP.out
   have hr := H.out
   rw [if_neg (by rw [hbad]; simp)] at hr
   have HR := am hr
   have HL2 := am (show l0_2.length < 1099511627776 by have := HE2.out; omega)
   clear hbad hr hlt hk
   cases ht : twB l0_2 with
   | true =>
    obtain rfl : r = 5 := by have := HR.out; rw [if_pos ht] at this; exact (Option.some.inj this).symm
    have HT := am ht
    clear ht
    go_wp2_with (go_at_call 41; rw [← HE2.out]; refine (rtwice_is _ (Kd.C_below (by rw [HE2.out]; exact HR2.out) (by repeat (first | (with_reducible first | exact Below.refl _ _ | exact HB1.out | apply wa | apply wN | apply wd) | exact Below.refl _ _ | exact HB1.out))) (by rw [HE2.out]; exact hc0_2) HL2.out).mono ?_; rintro e w' ⟨rfl, nd, rfl⟩; rw [HT.out])
    go_ret
    exact ⟨rfl, by repeat (first | (with_reducible first | exact Below.refl _ _ | exact HB1.out | apply wa | apply wN | apply wd) | exact Below.refl _ _ | exact HB1.out)⟩
   | false =>
    obtain rfl : r = 0 := by have := HR.out; rw [if_neg (by rw [ht]; simp)] at this; exact (Option.some.inj this).symm
    have HT := am ht
    clear ht
    go_wp2_with (go_at_call 41; rw [← HE2.out]; refine (rtwice_is _ (Kd.C_below (by rw [HE2.out]; exact HR2.out) (by repeat (first | (with_reducible first | exact Below.refl _ _ | exact HB1.out | apply wa | apply wN | apply wd) | exact Below.refl _ _ | exact HB1.out))) (by rw [HE2.out]; exact hc0_2) HL2.out).mono ?_; rintro e w' ⟨rfl, nd, rfl⟩; rw [HT.out])
    go_ret
    exact ⟨rfl, by repeat (first | (with_reducible first | exact Below.refl _ _ | exact HB1.out | apply wa | apply wN | apply wd) | exact Below.refl _ _ | exact HB1.out)⟩
  obtain ⟨ad0, A1, c1, eA0, hcell0, hc1, hC1⟩ := at_L1 (Kd.C_below HR0.out (HB1.out)) (k : Int) (by omega) (by omega)
  obtain ⟨ad2, eA2, hcell2⟩ := at_I (Kd.C_below HR2.out HB1.out) k hlt
  obtain ⟨ad3, eA3, hcell3⟩ := at_B (Kd.C_below HR3.out HB1.out) k hlt
  subst eA0 eA2 eA3
  rw [Int.toNat_natCast] at hcell0
  have HC1 := am hC1
  clear hC1
  have hrl : (rd_L1 l0_0 (k : Int)).length < 1099511627776 := by have := HROW.out k hlt; simp only [rd_L1, Int.toNat_natCast]; omega
  have HRL := am hrl
  clear hrl
  have er : rd_L1 l0_0 (k : Int) = l0_0.getD k [] := by simp [rd_L1]
  have eu : l0_2.getD k 0 = l0_2.getD k 0 := rfl
  obtain ⟨u, hu⟩ : ∃ u, u = l0_2.getD k 0 := ⟨_, rfl⟩
  obtain ⟨f, hf⟩ : ∃ f, f = l0_3.getD k false := ⟨_, rfl⟩
  rw [← hu] at hcell2
  rw [← hf] at hcell3
  have hbF : badF a0_1 l0_0 l0_2 l0_3 k = badR a0_1 (rd_L1 l0_0 (k : Int)) u f := by unfold badF; rw [er, hu, hf]
  have HBF := am hbF
  clear hbF er eu hu hf
  have bad : badR a0_1 (rd_L1 l0_0 (k : Int)) u f = true → r = 1 := fun hb => by
   have hbad : anyU (badF a0_1 l0_0 l0_2 l0_3) l0_0.length 0 = true := any_at _ hlt (HBF.out.trans hb)
   have := H.out; rw [if_pos hbad] at this; exact (Option.some.inj this).symm
  have good : badR a0_1 (rd_L1 l0_0 (k : Int)) u f = false → ∀ j, j < k + 1 → badF a0_1 l0_0 l0_2 l0_3 j = false := fun hb j hj => by
   by_cases hjk : j < k
   ·exact HP.out j hjk
   obtain rfl : j = k := by omega
   exact HBF.out.trans hb
  have BAD := am bad
  have GOOD := am good
  clear bad good
  cases hI : incB (rd_L1 l0_0 (k : Int)) a0_1 with
  | false =>
   obtain rfl := BAD.out (by unfold badR; rw [hI]; rfl)
   have HI := am hI
   clear hI
   go_wp2_with fail
   go_quiet (((go_at_call 39; refine (rincr_is a0_1 _ (Kd.C_below HC1.out (by repeat (first | (with_reducible first | exact Below.refl _ _ | apply wa | apply wN | apply wd) | exact Below.refl _ _))) hc1 HRL.out).mono ?_; rintro e w' ⟨rfl, nd, rfl⟩; rw [HI.out]; first | exact ⟨rfl, _, World.drewN_drewN _ _ _⟩ | exact ⟨rfl, _, Eq.trans (World.drewN_drewN _ _ _) (congrArg (World.drewN _) (Nat.add_assoc _ _ _))⟩)))
   go_wp2_with fail
   go_ret
   exact ⟨rfl, by repeat (first | (with_reducible first | exact Below.refl _ _ | exact HB1.out | apply wa | apply wN | apply wd) | exact Below.refl _ _ | exact HB1.out)⟩
  | true =>
   have HI := am hI
   by_cases hu1 : u = -1
   ·subst hu1
    cases hf : f with
    | true =>
     obtain rfl := BAD.out (by unfold badR; rw [hI, hf]; rfl)
     subst hf
     clear hI
     go_wp2_with fail
     go_quiet (((go_at_call 39; refine (rincr_is a0_1 _ (Kd.C_below HC1.out (by repeat (first | (with_reducible first | exact Below.refl _ _ | apply wa | apply wN | apply wd) | exact Below.refl _ _))) hc1 HRL.out).mono ?_; rintro e w' ⟨rfl, nd, rfl⟩; rw [HI.out]; first | exact ⟨rfl, _, World.drewN_drewN _ _ _⟩ | exact ⟨rfl, _, Eq.trans (World.drewN_drewN _ _ _) (congrArg (World.drewN _) (Nat.add_assoc _ _ _))⟩)))
     go_wp2_with fail
     go_ret
     exact ⟨rfl, by repeat (first | (with_reducible first | exact Below.refl _ _ | exact HB1.out | apply wa | apply wN | apply wd) | exact Below.refl _ _ | exact HB1.out)⟩
    | false =>
     have HG := am (GOOD.out (by unfold badR; rw [hI, hf]; rfl))
     subst hf
     clear hI
     go_wp2_with fail
     go_quiet (((go_at_call 39; refine (rincr_is a0_1 _ (Kd.C_below HC1.out (by repeat (first | (with_reducible first | exact Below.refl _ _ | apply wa | apply wN | apply wd) | exact Below.refl _ _))) hc1 HRL.out).mono ?_; rintro e w' ⟨rfl, nd, rfl⟩; rw [HI.out]; first | exact ⟨rfl, _, World.drewN_drewN _ _ _⟩ | exact ⟨rfl, _, Eq.trans (World.drewN_drewN _ _ _) (congrArg (World.drewN _) (Nat.add_assoc _ _ _))⟩)))
     go_wp2_with fail
     go_roundw
     case rel => exact ⟨k + 1, _, by omega, by go_num, by first | rfl | exact World.drewN_drewN _ _ _ , HG⟩
     case measure => simp [intOf]; omega
   have u1 : (u == -1) = false := by simpa using hu1
   have u2 : (u != -1) = true := by simpa using hu1
   cases hm : decide (u ∈ rd_L1 l0_0 (k : Int)) with
   | false =>
    obtain rfl := BAD.out (by unfold badR; rw [hI, hm, u1, u2]; rfl)
    have HM := am hm
    clear hI hm hu1
    go_wp2_with fail
    go_quiet ((first | (go_at_call 39; refine (rincr_is a0_1 _ (Kd.C_below HC1.out (by repeat (first | (with_reducible first | exact Below.refl _ _ | apply wa | apply wN | apply wd) | exact Below.refl _ _))) hc1 HRL.out).mono ?_; rintro e w' ⟨rfl, nd, rfl⟩; rw [HI.out]; first | exact ⟨rfl, _, World.drewN_drewN _ _ _⟩ | exact ⟨rfl, _, Eq.trans (World.drewN_drewN _ _ _) (congrArg (World.drewN _) (Nat.add_assoc _ _ _))⟩) | (go_at_call 40; refine (rhas_is u _ (Kd.C_below HC1.out (by repeat (first | (with_reducible first | exact Below.refl _ _ | apply wa | apply wN | apply wd) | exact Below.refl _ _))) hc1 HRL.out).mono ?_; rintro e w' ⟨rfl, nd, rfl⟩; rw [HM.out]; first | exact ⟨rfl, _, World.drewN_drewN _ _ _⟩ | exact ⟨rfl, _, Eq.trans (World.drewN_drewN _ _ _) (congrArg (World.drewN _) (Nat.add_assoc _ _ _))⟩)))
    go_wp2_with fail
    go_ret
    exact ⟨rfl, by repeat (first | (with_reducible first | exact Below.refl _ _ | exact HB1.out | apply wa | apply wN | apply wd) | exact Below.refl _ _ | exact HB1.out)⟩
   | true =>
    have HG := am (GOOD.out (by unfold badR; rw [hI, hm, u1, u2]; rfl))
    have HM := am hm
    clear hI hm hu1
    cases f with
    | true =>
     go_wp2_with fail
     go_quiet ((first | (go_at_call 39; refine (rincr_is a0_1 _ (Kd.C_below HC1.out (by repeat (first | (with_reducible first | exact Below.refl _ _ | apply wa | apply wN | apply wd) | exact Below.refl _ _))) hc1 HRL.out).mono ?_; rintro e w' ⟨rfl, nd, rfl⟩; rw [HI.out]; first | exact ⟨rfl, _, World.drewN_drewN _ _ _⟩ | exact ⟨rfl, _, Eq.trans (World.drewN_drewN _ _ _) (congrArg (World.drewN _) (Nat.add_assoc _ _ _))⟩) | (go_at_call 40; refine (rhas_is u _ (Kd.C_below HC1.out (by repeat (first | (with_reducible first | exact Below.refl _ _ | apply wa | apply wN | apply wd) | exact Below.refl _ _))) hc1 HRL.out).mono ?_; rintro e w' ⟨rfl, nd, rfl⟩; rw [HM.out]; first | exact ⟨rfl, _, World.drewN_drewN _ _ _⟩ | exact ⟨rfl, _, Eq.trans (World.drewN_drewN _ _ _) (congrArg (World.drewN _) (Nat.add_assoc _ _ _))⟩)))
     go_wp2_with fail
     go_roundw
     case rel => exact ⟨k + 1, _, by omega, by go_num, by first | rfl | exact World.drewN_drewN _ _ _ , HG⟩
     case measure => simp [intOf]; omega
    | false =>
     go_wp2_with fail
     go_quiet ((first | (go_at_call 39; refine (rincr_is a0_1 _ (Kd.C_below HC1.out (by repeat (first | (with_reducible first | exact Below.refl _ _ | apply wa | apply wN | apply wd) | exact Below.refl _ _))) hc1 HRL.out).mono ?_; rintro e w' ⟨rfl, nd, rfl⟩; rw [HI.out]; first | exact ⟨rfl, _, World.drewN_drewN _ _ _⟩ | exact ⟨rfl, _, Eq.trans (World.drewN_drewN _ _ _) (congrArg (World.drewN _) (Nat.add_assoc _ _ _))⟩) | (go_at_call 40; refine (rhas_is u _ (Kd.C_below HC1.out (by repeat (first | (with_reducible first | exact Below.refl _ _ | apply wa | apply wN | apply wd) | exact Below.refl _ _))) hc1 HRL.out).mono ?_; rintro e w' ⟨rfl, nd, rfl⟩; rw [HM.out]; first | exact ⟨rfl, _, World.drewN_drewN _ _ _⟩ | exact ⟨rfl, _, Eq.trans (World.drewN_drewN _ _ _) (congrArg (World.drewN _) (Nat.add_assoc _ _ _))⟩)))
     go_wp2_with fail
     go_roundw
     case rel => exact ⟨k + 1, _, by omega, by go_num, by first | rfl | exact World.drewN_drewN _ _ _ , HG⟩
     case measure => simp [intOf]; omega
end

def replace_Free.l0 : Nat → List Int → Int → Int → List (List Int) → Int → List Int → List Bool → Option (List Int × Int)
 | 0, _, _, _, _, _, _, _ => none
 | k + 1, x5, x13, x14, x232000, x232001, x232002, x232003 => if x14 < x13 then ((replace_user.f k x232000 x232001 x232002 x232003 x14).bind fun t233 => (if t233 < 0 then (if x5.length < 17592186044416 then (replace_Free.l0 k (x5 ++ [x14]) x13 (wrap64 (x14 + 1)) x232000 x232001 x232002 x232003) else (none)) else (replace_Free.l0 k x5 x13 (wrap64 (x14 + 1)) x232000 x232001 x232002 x232003))) else (some (x5, 0))
def replace_Free.f (k : Nat) (l0_0 : List (List Int)) (a0_1 : Int) (l0_2 : List Int) (l0_3 : List Bool) : Option (List Int × Int) := (replace_Check.f l0_0 a0_1 l0_2 l0_3).bind fun t232 => (if t232 = 0 then (replace_Free.l0 k ([] : List Int) a0_1 0 l0_0 a0_1 l0_2 l0_3) else (some (([] : List Int), t232)))
set_option maxHeartbeats 8000000 in
set_option maxRecDepth 100000 in
theorem replace_Free.calls (k : Nat) (A0_0 : Option Addr) (c0_0 : Nat) (l0_0 : List (List Int)) (a0_1 : Int) (A0_2 : Option Addr) (c0_2 : Nat) (l0_2 : List Int) (A0_3 : Option Addr) (c0_3 : Nat) (l0_3 : List Bool) (r1 : List Int) (r2 : Int) (w : World) (hr0_0 : Kd.C (Kd.slice 3 (Kd.int .i64)) w A0_0 l0_0.length l0_0) (hc0_0 : l0_0.length ≤ c0_0) (hr0_2 : Kd.C (Kd.int .i64) w A0_2 l0_2.length l0_2) (hc0_2 : l0_2.length ≤ c0_2) (hr0_3 : Kd.C Kd.bool w A0_3 l0_3.length l0_3) (hc0_3 : l0_3.length ≤ c0_3) (h : replace_Free.f k l0_0 a0_1 l0_2 l0_3 = some (r1, r2)) :
  Calls Try.prog 25 #[.agg #[.slice A0_0 l0_0.length c0_0, .int .i64 a0_1, .slice A0_2 l0_2.length c0_2, .slice A0_3 l0_3.length c0_3]] w fun e w' => ∃ v0_ : Value, e = .returned (.tuple #[v0_, .int .i64 r2]) ∧ Kd.R (Kd.int .i64) 3 w' w.heap.size (fun _ => True) v0_ r1 ∧ Below w.heap.size w w' := by
 have hu33 := Try.underlying33
 have HR0_0 := am hr0_0
 have HC0_0 := am hc0_0
 clear hr0_0 hc0_0
 have HR0_2 := am hr0_2
 have HC0_2 := am hc0_2
 clear hr0_2 hc0_2
 have HR0_3 := am hr0_3
 have HC0_3 := am hc0_3
 clear hr0_3 hc0_3
 have HB := am (Below.refl w.heap.size w)
 have H : ((replace_Check.f l0_0 a0_1 l0_2 l0_3).bind fun t232 => (if t232 = 0 then (replace_Free.l0 k ([] : List Int) a0_1 0 l0_0 a0_1 l0_2 l0_3) else (some (([] : List Int), t232)))) = some (r1, r2) := h
 clear h
 replace H := Option.bind_eq_some_iff.mp H
 obtain ⟨t232, A20, H⟩ := H
 replace H : (if t232 = 0 then (replace_Free.l0 k ([] : List Int) a0_1 0 l0_0 a0_1 l0_2 l0_3) else (some (([] : List Int), t232))) = some (r1, r2) := H
 have A2 := am A20
 clear A20
 by_cases c3 : t232 = 0
 ·rw [if_pos c3] at H
  have c3b0 : (t232 == 0) = true := beq_iff_eq.mpr c3
  have c3b1 : (t232 != 0) = false := bne_eq_false_iff_eq.mpr c3
  clear c3
  have H' := am H
  clear H
  go_enter Try.func25, Try.ntmps25
  go_wp2_with (first | ((with_reducible refine gate_dst (N := 1) rfl ?_); refine box_event ?hg (N := 1) ?hd (cs := #[.slice A0_0 l0_0.length c0_0, .int .i64 a0_1, .slice A0_2 l0_2.length c0_2, .slice A0_3 l0_3.length c0_3]) (t := 33) ?hr ?_; (case hd | hg => rfl); (case hr => first | (go_simp; done) | (go_simp; rfl)); intro gb231 hg w4 hbox hb; have BK231 := am hbox; have GW231 := sG HB hg; have GE231 := sG HB hg; replace HB := bS HB hb; clear hb hbox hg; obtain ⟨_, _, _, _, _, _, _, _⟩ := zC4 BK231) | ((with_reducible refine gate_callee (f := 24) rfl ?_); refine goesL_ (some 8) rfl rfl Try.func24 (by kernel_rfl) rfl #[.agg #[.slice A0_0 l0_0.length c0_0, .int .i64 a0_1, .slice A0_2 l0_2.length c0_2, .slice A0_3 l0_3.length c0_3]] rfl (by (try simp only [pml]); first | done | rfl | (simp only [pdt]; rfl)) ?_; (with_reducible refine (replace_Check.calls _ _ l0_0 a0_1 _ _ l0_2 _ _ l0_3 t232 _ ?side1 ?side2 ?side3 ?side4 ?side5 ?side6 A2.out).mono ?_); (case side1 => repeat (first | exact (Kd.C_below HR0_0.out HB.out) | (with_reducible refine Kd.C_alloc ?_ _) | (with_reducible refine Kd.C_drewN ?_ _) | (with_reducible refine Kd.C_drew ?_))); (case side2 => exact HC0_0.out); (case side3 => repeat (first | exact (Kd.C_below HR0_2.out HB.out) | (with_reducible refine Kd.C_alloc ?_ _) | (with_reducible refine Kd.C_drewN ?_ _) | (with_reducible refine Kd.C_drew ?_))); (case side4 => exact HC0_2.out); (case side5 => repeat (first | exact (Kd.C_below HR0_3.out HB.out) | (with_reducible refine Kd.C_alloc ?_ _) | (with_reducible refine Kd.C_drewN ?_ _) | (with_reducible refine Kd.C_drew ?_))); (case side6 => exact HC0_3.out); rintro e w6 ⟨rfl, hb⟩; refine ⟨_, rfl, ?_⟩; replace BK231 := bB BK231 hb; replace HB := bS HB hb; (try clear hb); (try clear hb2); (try clear hk); (try clear hi); obtain ⟨_, _, _, _, _, _, _, _⟩ := zC4 BK231))
  go_loopg [5, 14] k (fun kq v5 v14 w' => ∃ (x5_1 : List Int) (x14_1 : Int), v14 = .int .i64 x14_1 ∧ Aside0 (replace_Free.l0 kq x5_1 a0_1 x14_1 l0_0 a0_1 l0_2 l0_3 = some (r1, r2)) ∧ Aside0 (kq ≤ k) ∧ Aside0 (Kd.R (Kd.int .i64) 3 w' w.heap.size (fun _ => True) v5 x5_1) ∧ Aside0 (w'.heap[gb231]? = some (.cells #[(.slice A0_0 l0_0.length c0_0), .int .i64 a0_1, (.slice A0_2 l0_2.length c0_2), (.slice A0_3 l0_3.length c0_3)] 33 (0, 0))) ∧ Aside0 (Below w.heap.size w w'))
  case atStart => exact ⟨(([] : List Int)), (0), sqD, H', ⟨Nat.le_refl _⟩, ⟨by first | exact Kd.R_nil _ _ _ _ _ | exact Kd.N_nil _ _ _ _ _ | exact Kd.V_nil _ _ _ _ _ | exact Kd.Q_nil _ _ _ _ _ | exact Kd.S_nil _ _ _ _ _⟩, ⟨fb BK231.out⟩, ⟨fW HB.out⟩⟩
  case round =>
   clear H'
   try clear c2;try clear p2;try clear c3;try clear c3b0;try clear c3b1
   obtain ⟨x5_1, x14_1, rfl, HA, HK1, HO_5, BK231, HB⟩ := hrel
   cases gk with
   | zero => exact absurd HA.out (by simp [replace_Free.l0])
   | succ k1 =>
    have H := HA.out
    clear HA
    simp only [replace_Free.l0] at H
    by_cases c8 : x14_1 < a0_1
    rotate_left
    ·rw [if_neg c8] at H
     have c8b0 : decide (x14_1 < a0_1) = false := decide_eq_false c8
     clear c8
     simp only [Option.some.injEq, Prod.mk.injEq] at H
     obtain ⟨rfl, rfl⟩ := H
     go_wp2
     go_ret2
     exact ⟨_, sqE, fR HO_5.out, fW HB.out⟩
    rw [if_pos c8] at H
    have c8b0 : decide (x14_1 < a0_1) = true := decide_eq_true c8
    clear c8
    replace H := Option.bind_eq_some_iff.mp H
    obtain ⟨t233, A90, H⟩ := H
    replace H : (if t233 < 0 then (if x5_1.length < 17592186044416 then (replace_Free.l0 k1 (x5_1 ++ [x14_1]) a0_1 (wrap64 (x14_1 + 1)) l0_0 a0_1 l0_2 l0_3) else (none)) else (replace_Free.l0 k1 x5_1 a0_1 (wrap64 (x14_1 + 1)) l0_0 a0_1 l0_2 l0_3)) = some (r1, r2) := H
    have A9 := am A90
    clear A90
    by_cases c10 : t233 < 0
    ·rw [if_pos c10] at H
     have c10b0 : decide (t233 < 0) = true := decide_eq_true c10
     clear c10
     by_cases c11 : x5_1.length < 17592186044416
     rotate_left
     ·rw [if_neg c11] at H
      exact absurd H (by simp)
     rw [if_pos c11] at H
     have LMc11 := am c11
     clear c11
     obtain ⟨y234, hy234⟩ : ∃ y_ : List Int, y_ = (x5_1 ++ [x14_1]) := ⟨_, rfl⟩
     replace H : (replace_Free.l0 k1 y234 a0_1 (wrap64 (x14_1 + 1)) l0_0 a0_1 l0_2 l0_3) = some (r1, r2) := by first | (rw [hy234]; with_reducible exact H) | (have H2_ := (Option.bind_some _ _).symm.trans H; rw [hy234]; with_reducible exact H2_) | (have H2_ := (Option.bind_some _ _).symm.trans H; with_reducible exact H2_) | with_reducible exact H | (rw [hy234]; exact H) | exact H
     have Ny234 := am hy234
     clear hy234
     have H' := am H
     clear H
     have := yC1 BK231
     have := kC1 BK231
     have := kC2 BK231
     have := kC3 BK231
     have := bf BK231.out 0
     have := bf BK231.out 1
     have := bf BK231.out 2
     have := bf BK231.out 3
     go_wp2_with (first | ((with_reducible refine gate_callee (f := 47) rfl ?_); refine goesL_ (some 19) rfl rfl Try.func47 (by kernel_rfl) rfl #[.agg #[.slice A0_0 l0_0.length c0_0, .int .i64 a0_1, .slice A0_2 l0_2.length c0_2, .slice A0_3 l0_3.length c0_3], .int .i64 x14_1] rfl (by (try simp only [pml]); first | done | rfl | (simp only [pdt]; rfl)) ?_; (with_reducible refine (replace_user.calls k1 _ _ l0_0 a0_1 _ _ l0_2 _ _ l0_3 x14_1 t233 _ ?side1 ?side2 ?side3 ?side4 ?side5 ?side6 A9.out).mono ?_); (case side1 => repeat (first | exact (Kd.C_below HR0_0.out HB.out) | (with_reducible refine Kd.C_alloc ?_ _) | (with_reducible refine Kd.C_drewN ?_ _) | (with_reducible refine Kd.C_drew ?_))); (case side2 => exact HC0_0.out); (case side3 => repeat (first | exact (Kd.C_below HR0_2.out HB.out) | (with_reducible refine Kd.C_alloc ?_ _) | (with_reducible refine Kd.C_drewN ?_ _) | (with_reducible refine Kd.C_drew ?_))); (case side4 => exact HC0_2.out); (case side5 => repeat (first | exact (Kd.C_below HR0_3.out HB.out) | (with_reducible refine Kd.C_alloc ?_ _) | (with_reducible refine Kd.C_drewN ?_ _) | (with_reducible refine Kd.C_drew ?_))); (case side6 => exact HC0_3.out); rintro e w13 ⟨rfl, hb⟩; refine ⟨_, rfl, ?_⟩; replace HO_5 := dR HO_5 hb; replace BK231 := bB BK231 hb; replace HB := bS HB hb; (try clear hb); (try clear hb2); (try clear hk); (try clear hi)) | ((with_reducible refine gate_builtin (b := .append) (xs := #[.tmp 21, .tmp 23]) rfl ?_); at_builtin; refine Kd.R_append (Kd.int .i64) (w0 := w) w.heap.size rfl (.tmp 21) (.tmp 23) 23 3 (.int .i64 0) 8 rfl Try.underlying23 info3 rfl (by decide) (by omega) u5 x5_1 x14_1 [.int .i64 x14_1] (fun _ => True) (fun _ => False) rfl rfl ?aP (fun _ hk => hk.elim) ?aF ?aO ?aB ?aS ?aL ?_; (case aP => exact rfl); (case aB => exact (fW HB.out)); (case aF => exact (fun _ _ => trivial)); (case aO => exact (fR HO_5.out)); (case aS => exact (below_size (fW HB.out))); (case aL => have := LMc11.out; omega); intro v235 w14 ho hb hg hat; rw [← Ny234.out] at ho; replace BK231 := am (blk_grown (g := gb231) (o := .cells #[.slice A0_0 l0_0.length c0_0, .int .i64 a0_1, .slice A0_2 l0_2.length c0_2, .slice A0_3 l0_3.length c0_3] 33 (0, 0)) (fb BK231.out) hg (Kd.R_ne HO_5.out BK231.out (by decide))); replace HB := am (hb); have HO236 := am (ho); clear HO_5 ho hb hg hat))
     go_roundg k1
     case measure => have := HK1.out; omega
     case rel => exact ⟨(y234), (wrap64 (x14_1 + 1)), sqD, H', ⟨by have := HK1.out; omega⟩, ⟨fR HO236.out⟩, ⟨fb BK231.out⟩, ⟨fW HB.out⟩⟩
    rw [if_neg c10] at H
    have c10b0 : decide (t233 < 0) = false := decide_eq_false c10
    clear c10
    have H' := am H
    clear H
    have := yC1 BK231
    have := kC1 BK231
    have := kC2 BK231
    have := kC3 BK231
    have := bf BK231.out 0
    have := bf BK231.out 1
    have := bf BK231.out 2
    have := bf BK231.out 3
    go_wp2_with (first | ((with_reducible refine gate_callee (f := 47) rfl ?_); refine goesL_ (some 19) rfl rfl Try.func47 (by kernel_rfl) rfl #[.agg #[.slice A0_0 l0_0.length c0_0, .int .i64 a0_1, .slice A0_2 l0_2.length c0_2, .slice A0_3 l0_3.length c0_3], .int .i64 x14_1] rfl (by (try simp only [pml]); first | done | rfl | (simp only [pdt]; rfl)) ?_; (with_reducible refine (replace_user.calls k1 _ _ l0_0 a0_1 _ _ l0_2 _ _ l0_3 x14_1 t233 _ ?side1 ?side2 ?side3 ?side4 ?side5 ?side6 A9.out).mono ?_); (case side1 => repeat (first | exact (Kd.C_below HR0_0.out HB.out) | (with_reducible refine Kd.C_alloc ?_ _) | (with_reducible refine Kd.C_drewN ?_ _) | (with_reducible refine Kd.C_drew ?_))); (case side2 => exact HC0_0.out); (case side3 => repeat (first | exact (Kd.C_below HR0_2.out HB.out) | (with_reducible refine Kd.C_alloc ?_ _) | (with_reducible refine Kd.C_drewN ?_ _) | (with_reducible refine Kd.C_drew ?_))); (case side4 => exact HC0_2.out); (case side5 => repeat (first | exact (Kd.C_below HR0_3.out HB.out) | (with_reducible refine Kd.C_alloc ?_ _) | (with_reducible refine Kd.C_drewN ?_ _) | (with_reducible refine Kd.C_drew ?_))); (case side6 => exact HC0_3.out); rintro e w16 ⟨rfl, hb⟩; refine ⟨_, rfl, ?_⟩; replace HO_5 := dR HO_5 hb; replace BK231 := bB BK231 hb; replace HB := bS HB hb; (try clear hb); (try clear hb2); (try clear hk); (try clear hi)))
    go_roundg k1
    case measure => have := HK1.out; omega
    case rel => exact ⟨(x5_1), (wrap64 (x14_1 + 1)), sqD, H', ⟨by have := HK1.out; omega⟩, ⟨fR HO_5.out⟩, ⟨fb BK231.out⟩, ⟨fW HB.out⟩⟩
 ·rw [if_neg c3] at H
  have c3b0 : (t232 == 0) = false := beq_eq_false_iff_ne.mpr c3
  have c3b1 : (t232 != 0) = true := bne_iff_ne.mpr c3
  simp only [Option.some.injEq, Prod.mk.injEq] at H
  obtain ⟨rfl, rfl⟩ := H
  go_enter Try.func25, Try.ntmps25
  go_wp2_with (first | ((with_reducible refine gate_dst (N := 1) rfl ?_); refine box_event ?hg (N := 1) ?hd (cs := #[.slice A0_0 l0_0.length c0_0, .int .i64 a0_1, .slice A0_2 l0_2.length c0_2, .slice A0_3 l0_3.length c0_3]) (t := 33) ?hr ?_; (case hd | hg => rfl); (case hr => first | (go_simp; done) | (go_simp; rfl)); intro gb231 hg w17 hbox hb; have BK231 := am hbox; have GW231 := sG HB hg; have GE231 := sG HB hg; replace HB := bS HB hb; clear hb hbox hg; obtain ⟨_, _, _, _, _, _, _, _⟩ := zC4 BK231) | ((with_reducible refine gate_callee (f := 24) rfl ?_); refine goesL_ (some 8) rfl rfl Try.func24 (by kernel_rfl) rfl #[.agg #[.slice A0_0 l0_0.length c0_0, .int .i64 a0_1, .slice A0_2 l0_2.length c0_2, .slice A0_3 l0_3.length c0_3]] rfl (by (try simp only [pml]); first | done | rfl | (simp only [pdt]; rfl)) ?_; (with_reducible refine (replace_Check.calls _ _ l0_0 a0_1 _ _ l0_2 _ _ l0_3 t232 _ ?side1 ?side2 ?side3 ?side4 ?side5 ?side6 A2.out).mono ?_); (case side1 => repeat (first | exact (Kd.C_below HR0_0.out HB.out) | (with_reducible refine Kd.C_alloc ?_ _) | (with_reducible refine Kd.C_drewN ?_ _) | (with_reducible refine Kd.C_drew ?_))); (case side2 => exact HC0_0.out); (case side3 => repeat (first | exact (Kd.C_below HR0_2.out HB.out) | (with_reducible refine Kd.C_alloc ?_ _) | (with_reducible refine Kd.C_drewN ?_ _) | (with_reducible refine Kd.C_drew ?_))); (case side4 => exact HC0_2.out); (case side5 => repeat (first | exact (Kd.C_below HR0_3.out HB.out) | (with_reducible refine Kd.C_alloc ?_ _) | (with_reducible refine Kd.C_drewN ?_ _) | (with_reducible refine Kd.C_drew ?_))); (case side6 => exact HC0_3.out); rintro e w19 ⟨rfl, hb⟩; refine ⟨_, rfl, ?_⟩; replace BK231 := bB BK231 hb; replace HB := bS HB hb; (try clear hb); (try clear hb2); (try clear hk); (try clear hi)))
  go_ret2
  exact ⟨_, sqE, by first | exact Kd.R_nil _ _ _ _ _ | exact Kd.N_nil _ _ _ _ _ | exact Kd.V_nil _ _ _ _ _ | exact Kd.Q_nil _ _ _ _ _ | exact Kd.S_nil _ _ _ _ _, fW HB.out⟩

end Go.Proofs.Ytkeomlmlimkebaa.QA
