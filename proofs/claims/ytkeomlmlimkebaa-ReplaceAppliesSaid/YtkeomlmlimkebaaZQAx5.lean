import Derived.Test.YtkeomlmlimkebaaZQAx0
import Derived.Test.YtkeomlmlimkebaaZQAx3
import Derived.Test.YtkeomlmlimkebaaZQAx4
import Derived.Test.YtkeomlmlimkebaaZEvKit
import Derived.Test.YtkeomlmlimkebaaZMapKit
import Derived.Test.YtkeomlmlimkebaaZRowOne
import Derived.Test.YtkeomlmlimkebaaZSortRow
import Derived.Carry
import Derived.Deep.RegionHeld3
import Derived.LoopN
import Derived.RegionTactic
import Derived.StillTailTactics
import Derived.WalkSpells
namespace Go.Proofs.Ytkeomlmlimkebaa.QA
open Go.RowKit Go.Proofs.YtkeomlmlimkebaaW.PrintWords Go.Proofs.YtkeomlmlimkebaaW.PrintLast Go.Proofs.YtkeomlmlimkebaaW.PrintMore
open Go.Proofs.YtkeomlmlimkebaaW.PrintWords renaming below_alloc → wa, pw_below_drewN → wN, below_drew1 → wd
open Aside0 renaming mk → am
open World renaming block_lt_of_cell? → bq
attribute [local go_sem] max2_int min2_int max_two min_two max_three min_three max_four min_four
set_option linter.unusedVariables false
set_option linter.unusedSimpArgs false

section
open Go.Proofs.Ytkeomlmlimkebaa.EvKit Go.Proofs.Ytkeomlmlimkebaa.MapKit
attribute [local go_sem] max2_int min2_int max_two min_two Oper.semAt_some
set_option linter.unusedVariables false
set_option linter.unusedSimpArgs false
def findF46 (p : Int → Bool) : List Int → Nat → Int
 | [], _ => -1
 | x :: l, i => if p x = true then (i : Int) else findF46 p l (i + 1)
set_option maxHeartbeats 2000000 in
set_option maxRecDepth 100000 in
theorem index_46 {A0 : Option Addr} {c0 : Nat} {l0 : List Int} (g : Nat) (p : Int → Bool) (w : World) (hr0 : Kd.C (Kd.int .i64) w A0 l0.length l0) (hc0 : l0.length ≤ c0) (hl : l0.length < 1099511627776)
  (hcl : ∀ x n, Calls Try.prog 46 #[.int .i64 x, .pointer (some ⟨g, 0, none⟩)] (w.drewN n) fun e w' => e = .returned (.bool (p x)) ∧ ∃ m, w' = w.drewN m) :
  Calls Try.prog 57 #[.slice A0 l0.length c0, .func (.func 46) #[] #[.pointer (some ⟨g, 0, none⟩)]] w fun e w' => e = .returned (.int .i64 (findF46 p l0 0)) ∧ ∃ m, w' = w.drewN m := by
 have HR := am hr0
 have HCL := am hcl
 clear hr0 hcl
 go_enter Try.func57, Try.ntmps57
 go_wp2
 go_loopw [8] (fun i wr => ∃ k q : Nat, k ≤ l0.length ∧ i = .int .i64 k ∧ wr = w.drewN q ∧ Aside0 (findF46 p l0 0 = findF46 p (l0.drop k) k))
  (fun i _ => l0.length - (intOf i).toNat)
 case atStart => exact ⟨0, 0, Nat.zero_le _, rfl, rfl, ⟨rfl⟩⟩
 case round =>
  obtain ⟨k, q, hk, rfl, rfl, HP⟩ := hrel
  by_cases hlt : k < l0.length
  rotate_left
  ·obtain rfl : k = l0.length := by omega
   have hf : findF46 p l0 0 = -1 := by rw [HP.out, List.drop_eq_nil_of_le (Nat.le_refl _)]; rfl
   have HF := am hf
   clear hf
   go_wp2
   go_ret
   exact ⟨by rw [HF.out]; rfl, q, rfl⟩
  obtain ⟨ad, e, hcell⟩ := at_I HR.out k hlt
  subst e
  have ed : l0.drop k = l0.getD k 0 :: l0.drop (k + 1) := EvKit.drop_cons l0 k 0 hlt
  have hf : findF46 p (l0.drop k) k = if p (l0.getD k 0) = true then (k : Int) else findF46 p (l0.drop (k + 1)) (k + 1) := by rw [ed]; rfl
  obtain ⟨x, hx⟩ : ∃ x, x = l0.getD k 0 := ⟨_, rfl⟩
  rw [← hx] at hcell hf
  clear ed hx
  cases hp : p x with
  | true =>
   rw [if_pos hp] at hf
   have HF := am (HP.out.trans hf)
   have HPX := am hp
   clear hp hf
   go_wp2_with (go_at_call 46; refine (HCL.out x q).mono ?_; rintro e w' ⟨rfl, nd, rfl⟩; rw [HPX.out])
   go_ret
   exact ⟨by rw [HF.out]; rfl, _, rfl⟩
  | false =>
   rw [if_neg (by rw [hp]; simp)] at hf
   have HF := am (HP.out.trans hf)
   have HPX := am hp
   clear hp hf
   go_wp2_with (go_at_call 46; refine (HCL.out x q).mono ?_; rintro e w' ⟨rfl, nd, rfl⟩; rw [HPX.out])
   go_roundw
   case rel => exact ⟨k + 1, nd, by omega, by go_num, rfl, HF⟩
   case measure => simp [intOf]; omega
theorem findF46_ge (p : Int → Bool) : ∀ (l : List Int) (i : Nat), decide (findF46 p l i ≥ 0) = l.any p
 | [], i => rfl
 | x :: l, i => by
  unfold findF46
  rw [List.any_cons]
  cases h : p x with
  | true => rw [if_pos rfl, Bool.true_or]; exact decide_eq_true (by omega)
  | false => rw [if_neg (by simp), Bool.false_or]; exact findF46_ge p l (i + 1)

set_option maxHeartbeats 2000000 in
theorem contains_46 {A0 : Option Addr} {c0 : Nat} {l0 : List Int} (g : Nat) (p : Int → Bool) (w : World) (hr0 : Kd.C (Kd.int .i64) w A0 l0.length l0) (hc0 : l0.length ≤ c0) (hl : l0.length < 1099511627776)
  (hcl : ∀ x n, Calls Try.prog 46 #[.int .i64 x, .pointer (some ⟨g, 0, none⟩)] (w.drewN n) fun e w' => e = .returned (.bool (p x)) ∧ ∃ m, w' = w.drewN m) :
  Calls Try.prog 45 #[.slice A0 l0.length c0, .func (.func 46) #[] #[.pointer (some ⟨g, 0, none⟩)]] w fun e w' => e = .returned (.bool (l0.any p)) ∧ ∃ m, w' = w.drewN m := by
 have HI := am (index_46 g p w hr0 hc0 hl hcl)
 have HG := am (findF46_ge p l0 0)
 obtain ⟨z, hz⟩ : ∃ z, z = findF46 p l0 0 := ⟨_, rfl⟩
 rw [← hz] at HI HG
 clear hr0 hcl hz
 have HH := HG.out
 cases hb : l0.any p with
 | true =>
  rw [hb] at HH
  have hz0 : 0 ≤ z := of_decide_eq_true HH
  clear HH HG hb
  go_enter Try.func45, Try.ntmps45
  go_wp2_with (go_at_call 57; refine HI.out.mono ?_; rintro e w' ⟨rfl, nd, rfl⟩)
  go_ret
  exact ⟨by first | rfl | (simp; done) | (simp; omega), nd, rfl⟩
 | false =>
  rw [hb] at HH
  have hz0 : z < 0 := by have := of_decide_eq_false HH; omega
  clear HH HG hb
  go_enter Try.func45, Try.ntmps45
  go_wp2_with (go_at_call 57; refine HI.out.mono ?_; rintro e w' ⟨rfl, nd, rfl⟩)
  go_ret
  exact ⟨by first | rfl | (simp; done) | (simp; omega), nd, rfl⟩
set_option maxHeartbeats 2000000 in
theorem clo_46 {A : Option Addr} {c : Nat} {ps : List Int} (g : Nat) (x : Int) (w : World) (hb : w.heap[g]? = some (.cells #[.slice A ps.length c] 23 (0, 0))) (hC : Kd.C (Kd.int .i64) w A ps.length ps) (hc : ps.length ≤ c) (hl : ps.length < 1099511627776) (n : Nat) :
  Calls Try.prog 46 #[.int .i64 x, .pointer (some ⟨g, 0, none⟩)] (w.drewN n) fun e w' => e = .returned (.bool (!decide (x ∈ ps))) ∧ ∃ m, w' = w.drewN m := by
 have g0 := (blk_cell hb 0).trans rfl
 have HI := am (contains_is x (w.drewN n) (Kd.C_below hC (wN (Below.refl _ _) _)) hc hl)
 clear hb hC
 go_enter Try.func46, Try.ntmps46
 go_wp2_with (go_at_call 44; refine HI.out.mono ?_; rintro e w' ⟨rfl, nd, rfl⟩)
 go_ret
 exact ⟨rfl, n + nd, rfl⟩

def okSt (l0_0 : List (List Int)) (l0_3 : List Bool) (ps : List Int) (s : Int) : Bool := !(l0_3.getD s.toNat false) && !((l0_0.getD s.toNat []).any fun x => !decide (x ∈ ps))
def clmS (l0_2 : List Int) (stone s : Int) : Bool := (s == stone) || (l0_2.getD s.toNat 0 != -1)
def freS (l0_2 : List Int) (l0_3 : List Bool) (x : Int) : Bool := decide (idxI l0_2 x < 0) || !(l0_3.getD (idxI l0_2 x).toNat false)
def replace_Refutes.f (l0_0 : List (List Int)) (a0_1 : Int) (l0_2 : List Int) (l0_3 : List Bool) (a1 : Int) (l2 l3 : List Int) : Option Bool :=
 if l2.length < 1099511627776 then (if l3.length < 1099511627776 then (replace_Check.f l0_0 a0_1 l0_2 l0_3).bind fun e =>
  some (decide (e = 0) && (incB l2 (l0_0.length : Int) && (incB l3 a0_1 && (decide (a1 ∈ l2) && ((l0_2.getD a1.toNat 0 == -1) && (l2.all (okSt l0_0 l0_3 l3) && decide ((l3.filter (freS l0_2 l0_3)).length < (l2.filter (clmS l0_2 a1)).length))))))) else none) else none
theorem check_ok {l0_0 : List (List Int)} {a0_1 : Int} {l0_2 : List Int} {l0_3 : List Bool} (h : replace_Check.f l0_0 a0_1 l0_2 l0_3 = some 0) : l0_2.length = l0_0.length ∧ l0_3.length = l0_0.length ∧ l0_0.length ≤ 64 ∧ 0 ≤ a0_1 ∧ a0_1 ≤ 64 ∧ (∀ j, j < l0_0.length → (l0_0.getD j []).length < 1000000) ∧ (∀ j, j < l0_0.length → badF a0_1 l0_0 l0_2 l0_3 j = false) ∧ (∀ j, j < l0_2.length → dupA l0_2 j = false) := by
 unfold replace_Check.f at h
 split at h
 ·simp at h
 split at h
 ·simp at h
 split at h
 ·rename_i h1 h2 h3
  by_cases h4 : anyU (badF a0_1 l0_0 l0_2 l0_3) l0_0.length 0 = true
  ·rw [if_pos h4] at h; simp at h
  rw [if_neg h4] at h
  by_cases h5 : anyU (dupA l0_2) l0_2.length 0 = true
  ·rw [if_pos h5] at h; simp at h
  refine ⟨by omega, by omega, by omega, by omega, by omega, h3, fun j hj => ?_, fun j hj => ?_⟩
  ·cases hq : badF a0_1 l0_0 l0_2 l0_3 j with
   | false => rfl
   | true => exact (h4 (any_at _ hj hq)).elim
  cases hq : dupA l0_2 j with
  | false => rfl
  | true => exact (h5 (any_at _ hj hq)).elim
 cases h
set_option maxHeartbeats 8000000 in
set_option maxRecDepth 100000 in
theorem replace_Refutes.calls (A0_0 : Option Addr) (c0_0 : Nat) (l0_0 : List (List Int)) (a0_1 : Int) (A0_2 : Option Addr) (c0_2 : Nat) (l0_2 : List Int) (A0_3 : Option Addr) (c0_3 : Nat) (l0_3 : List Bool) (a1 : Int) (A2 : Option Addr) (c2 : Nat) (l2 : List Int) (A3 : Option Addr) (c3 : Nat) (l3 : List Int) (r : Bool) (w : World) (hr0_0 : Kd.C (Kd.slice 3 (Kd.int .i64)) w A0_0 l0_0.length l0_0) (hc0_0 : l0_0.length ≤ c0_0) (hr0_2 : Kd.C (Kd.int .i64) w A0_2 l0_2.length l0_2) (hc0_2 : l0_2.length ≤ c0_2) (hr0_3 : Kd.C Kd.bool w A0_3 l0_3.length l0_3) (hc0_3 : l0_3.length ≤ c0_3) (hr2 : Kd.C (Kd.int .i64) w A2 l2.length l2) (hc2 : l2.length ≤ c2) (hr3 : Kd.C (Kd.int .i64) w A3 l3.length l3) (hc3 : l3.length ≤ c3) (h : replace_Refutes.f l0_0 a0_1 l0_2 l0_3 a1 l2 l3 = some r) :
  Calls Try.prog 19 #[.agg #[.slice A0_0 l0_0.length c0_0, .int .i64 a0_1, .slice A0_2 l0_2.length c0_2, .slice A0_3 l0_3.length c0_3], .int .i64 a1, .slice A2 l2.length c2, .slice A3 l3.length c3] w fun e w' => e = .returned (.bool r) ∧ Below w.heap.size w w' := by
 have hu33 := Try.underlying33
 obtain ⟨hl2, h⟩ := if_some h
 obtain ⟨hl3, h⟩ := if_some h
 obtain ⟨e, he, hr⟩ := Option.bind_eq_some_iff.1 h
 have hr' := Option.some.inj hr
 obtain ⟨W2, hW2⟩ : ∃ W2, W2 = (w.alloc (.cells #[.slice A0_0 l0_0.length c0_0, .int .i64 a0_1, .slice A0_2 l0_2.length c0_2, .slice A0_3 l0_3.length c0_3] 33)).alloc (.cells #[.slice A3 l3.length c3] 23) := ⟨_, rfl⟩
 have hb2 : Below w.heap.size w W2 := by rw [hW2]; exact wa (wa (Below.refl _ _) _) _
 have b1 : W2.heap[w.heap.size]? = some (.cells #[.slice A0_0 l0_0.length c0_0, .int .i64 a0_1, .slice A0_2 l0_2.length c0_2, .slice A0_3 l0_3.length c0_3] 33 (0, 0)) := by rw [hW2]; exact blk_alloc (blk_new w _) _
 have b2 : W2.heap[w.heap.size + 1]? = some (.cells #[.slice A3 l3.length c3] 23 (0, 0)) := by
  rw [hW2]; have := blk_new (w.alloc (.cells #[.slice A0_0 l0_0.length c0_0, .int .i64 a0_1, .slice A0_2 l0_2.length c0_2, .slice A0_3 l0_3.length c0_3] 33)) (.cells #[.slice A3 l3.length c3] 23); rw [World.size_alloc] at this; exact this
 have hz : w.heap.size < W2.heap.size := by rw [hW2]; simp; omega
 have hz2 : w.heap.size + 1 < W2.heap.size := by rw [hW2]; simp
 have HE := am he
 have HR0 := am hr0_0
 have HR2 := am hr0_2
 have HR3 := am hr0_3
 have HS := am hr2
 have HP := am hr3
 have HL2 := am hl2
 have HL3 := am hl3
 have HB2 := am hb2
 have HBX := am b1
 have HBP := am b2
 have HZ := am hz
 have HZ2 := am hz2
 have HB := am (Below.refl W2.heap.size W2)
 have HRES := am hr'
 have HW := am hW2
 clear hW2 hr0_0 hr0_2 hr0_3 hr2 hr3 hl2 hl3 hb2 b1 b2 hz hz2 he hr hr' h
 by_cases he0 : e = 0
 case neg =>
  have e1 : (e == 0) = false := beq_eq_false_iff_ne.2 he0
  have e2 : (e != 0) = true := by simpa using he0
  obtain rfl : r = false := by have := HRES.out; rw [decide_eq_false he0] at this; simpa using this.symm
  clear he0
  go_enter Try.func19, Try.ntmps19
  go_wp2_with (first | (go_at_call 24; rw [← HW.out]; refine (replace_Check.calls A0_0 c0_0 l0_0 a0_1 A0_2 c0_2 l0_2 A0_3 c0_3 l0_3 _ _ (Kd.C_below (Kd.C_below HR0.out HB2.out) (fW HB.out)) hc0_0 (Kd.C_below (Kd.C_below HR2.out HB2.out) (fW HB.out)) hc0_2 (Kd.C_below (Kd.C_below HR3.out HB2.out) (fW HB.out)) hc0_3 HE.out).mono ?_; rintro e' w' ⟨rfl, hb⟩; have n1 := am (HB.out.trans (hb.mono HB.out.size)); clear HB hb; have HB := n1; clear n1; obtain ⟨g0, g1, g2, g3⟩ := box4 HB.out HZ.out HBX.out; have gp := (blk_cell ((HB.out.block _ HZ2.out).trans HBP.out) 0).trans rfl))
  go_ret
  exact ⟨rfl, (HB2.out.trans ((by repeat (first | (with_reducible first | exact HB.out | apply wa | apply wN | apply wd) | exact HB.out) : Below W2.heap.size W2 _).mono (Nat.le_of_lt HZ.out)))⟩
 subst he0
 obtain ⟨z1, z2, z3, z4, z5, z6, z7, z8⟩ := check_ok HE.out
 have HZ1 := am z1
 have HZ2e := am z2
 have z9 : l0_0.length ≤ l0_2.length := Nat.le_of_eq z1.symm
 have z10 : l0_0.length ≤ l0_3.length := Nat.le_of_eq z2.symm
 clear z1 z2
 have HZ6 := am z6
 have HZ7 := am z7
 clear z6 z7 z8
 cases hI1 : incB l2 (l0_0.length : Int) with
 | false =>
  have HI1 := am hI1
  obtain rfl : r = false := by have := HRES.out; rw [hI1] at this; simpa using this.symm
  clear hI1
  go_enter Try.func19, Try.ntmps19
  go_wp2_with (first | (go_at_call 24; rw [← HW.out]; refine (replace_Check.calls A0_0 c0_0 l0_0 a0_1 A0_2 c0_2 l0_2 A0_3 c0_3 l0_3 _ _ (Kd.C_below (Kd.C_below HR0.out HB2.out) (fW HB.out)) hc0_0 (Kd.C_below (Kd.C_below HR2.out HB2.out) (fW HB.out)) hc0_2 (Kd.C_below (Kd.C_below HR3.out HB2.out) (fW HB.out)) hc0_3 HE.out).mono ?_; rintro e' w' ⟨rfl, hb⟩; have n1 := am (HB.out.trans (hb.mono HB.out.size)); clear HB hb; have HB := n1; clear n1; obtain ⟨g0, g1, g2, g3⟩ := box4 HB.out HZ.out HBX.out; have gp := (blk_cell ((HB.out.block _ HZ2.out).trans HBP.out) 0).trans rfl) | (go_at_call 43; (with_reducible refine (incr_is (A0 := A2) (c0 := c2) (l0 := l2) (l0_0.length : Int) _ ?cS hc2 HL2.out).mono ?_); (case cS => exact (Kd.C_below (Kd.C_below HS.out HB2.out) (fW HB.out))); rintro e' w' ⟨rfl, nd, rfl⟩; rw [HI1.out]))
  go_ret
  exact ⟨rfl, (HB2.out.trans ((by repeat (first | (with_reducible first | exact HB.out | apply wa | apply wN | apply wd) | exact HB.out) : Below W2.heap.size W2 _).mono (Nat.le_of_lt HZ.out)))⟩
 | true =>
 have HI1 := am hI1
 cases hI2 : incB l3 a0_1 with
 | false =>
  have HI2 := am hI2
  obtain rfl : r = false := by have := HRES.out; rw [hI1, hI2] at this; simpa using this.symm
  clear hI1 hI2
  go_enter Try.func19, Try.ntmps19
  go_wp2_with (first | (go_at_call 24; rw [← HW.out]; refine (replace_Check.calls A0_0 c0_0 l0_0 a0_1 A0_2 c0_2 l0_2 A0_3 c0_3 l0_3 _ _ (Kd.C_below (Kd.C_below HR0.out HB2.out) (fW HB.out)) hc0_0 (Kd.C_below (Kd.C_below HR2.out HB2.out) (fW HB.out)) hc0_2 (Kd.C_below (Kd.C_below HR3.out HB2.out) (fW HB.out)) hc0_3 HE.out).mono ?_; rintro e' w' ⟨rfl, hb⟩; have n1 := am (HB.out.trans (hb.mono HB.out.size)); clear HB hb; have HB := n1; clear n1; obtain ⟨g0, g1, g2, g3⟩ := box4 HB.out HZ.out HBX.out; have gp := (blk_cell ((HB.out.block _ HZ2.out).trans HBP.out) 0).trans rfl) | (go_at_call 43; (with_reducible refine (incr_is (A0 := A2) (c0 := c2) (l0 := l2) (l0_0.length : Int) _ ?cS hc2 HL2.out).mono ?_); (case cS => exact (Kd.C_below (Kd.C_below HS.out HB2.out) (fW HB.out))); rintro e' w' ⟨rfl, nd, rfl⟩; rw [HI1.out]) | (go_at_call 43; (with_reducible refine (incr_is (A0 := A3) (c0 := c3) (l0 := l3) a0_1 _ ?cP hc3 HL3.out).mono ?_); (case cP => exact (Kd.C_below (Kd.C_below HP.out HB2.out) (fW HB.out))); rintro e' w' ⟨rfl, nd2, rfl⟩; rw [HI2.out]))
  go_ret
  exact ⟨rfl, (HB2.out.trans ((by repeat (first | (with_reducible first | exact HB.out | apply wa | apply wN | apply wd) | exact HB.out) : Below W2.heap.size W2 _).mono (Nat.le_of_lt HZ.out)))⟩
 | true =>
 have HI2 := am hI2
 cases hI3 : decide (a1 ∈ l2) with
 | false =>
  have HI3 := am hI3
  obtain rfl : r = false := by have := HRES.out; rw [hI1, hI2, hI3] at this; simpa using this.symm
  clear hI1 hI2 hI3
  go_enter Try.func19, Try.ntmps19
  go_wp2_with (first | (go_at_call 24; rw [← HW.out]; refine (replace_Check.calls A0_0 c0_0 l0_0 a0_1 A0_2 c0_2 l0_2 A0_3 c0_3 l0_3 _ _ (Kd.C_below (Kd.C_below HR0.out HB2.out) (fW HB.out)) hc0_0 (Kd.C_below (Kd.C_below HR2.out HB2.out) (fW HB.out)) hc0_2 (Kd.C_below (Kd.C_below HR3.out HB2.out) (fW HB.out)) hc0_3 HE.out).mono ?_; rintro e' w' ⟨rfl, hb⟩; have n1 := am (HB.out.trans (hb.mono HB.out.size)); clear HB hb; have HB := n1; clear n1; obtain ⟨g0, g1, g2, g3⟩ := box4 HB.out HZ.out HBX.out; have gp := (blk_cell ((HB.out.block _ HZ2.out).trans HBP.out) 0).trans rfl) | (go_at_call 43; (with_reducible refine (incr_is (A0 := A2) (c0 := c2) (l0 := l2) (l0_0.length : Int) _ ?cS hc2 HL2.out).mono ?_); (case cS => exact (Kd.C_below (Kd.C_below HS.out HB2.out) (fW HB.out))); rintro e' w' ⟨rfl, nd, rfl⟩; rw [HI1.out]) | (go_at_call 43; (with_reducible refine (incr_is (A0 := A3) (c0 := c3) (l0 := l3) a0_1 _ ?cP hc3 HL3.out).mono ?_); (case cP => exact (Kd.C_below (Kd.C_below HP.out HB2.out) (fW HB.out))); rintro e' w' ⟨rfl, nd2, rfl⟩; rw [HI2.out]) | (go_at_call 44; refine (contains_is (A0 := A2) (c0 := c2) (l0 := l2) a1 _ (Kd.C_below (Kd.C_below HS.out HB2.out) (fW HB.out)) hc2 HL2.out).mono ?_; rintro e' w' ⟨rfl, nd3, rfl⟩; rw [HI3.out]))
  go_ret
  exact ⟨rfl, (HB2.out.trans ((by repeat (first | (with_reducible first | exact HB.out | apply wa | apply wN | apply wd) | exact HB.out) : Below W2.heap.size W2 _).mono (Nat.le_of_lt HZ.out)))⟩
 | true =>
 have HI3 := am hI3
 have hin := ((incB_iff _ _).1 hI1).2
 have ha := hin a1 (of_decide_eq_true hI3)
 obtain ⟨ad2, eA2, hcw⟩ := at_I (Kd.C_below HR2.out HB2.out) a1.toNat (by omega)
 subst eA2
 obtain ⟨u, hu⟩ : ∃ u, u = l0_2.getD a1.toNat 0 := ⟨_, rfl⟩
 rw [← hu] at hcw
 have HCW := am hcw
 have HIN := am hin
 clear hcw hin
 have ha0 := ha.1
 have ha1 := ha.2
 clear ha
 by_cases hu1 : u = -1
 case neg =>
  have u1 : (u == -1) = false := by simpa using hu1
  have u2 : (u != -1) = true := by simpa using hu1
  obtain rfl : r = false := by have := HRES.out; rw [hI1, hI2, hI3, ← hu, u1] at this; simpa using this.symm
  clear hI1 hI2 hI3 hu1 hu
  go_enter Try.func19, Try.ntmps19
  go_wp2_with (first | (go_at_call 24; rw [← HW.out]; refine (replace_Check.calls A0_0 c0_0 l0_0 a0_1 _ c0_2 l0_2 A0_3 c0_3 l0_3 _ _ (Kd.C_below (Kd.C_below HR0.out HB2.out) (fW HB.out)) hc0_0 (Kd.C_below (Kd.C_below HR2.out HB2.out) (fW HB.out)) hc0_2 (Kd.C_below (Kd.C_below HR3.out HB2.out) (fW HB.out)) hc0_3 HE.out).mono ?_; rintro e' w' ⟨rfl, hb⟩; have n1 := am (HB.out.trans (hb.mono HB.out.size)); clear HB hb; have HB := n1; clear n1; obtain ⟨g0, g1, g2, g3⟩ := box4 HB.out HZ.out HBX.out; have gu := (HB.out.cell (bq W2 _ HCW.out)).trans HCW.out; have gp := (blk_cell ((HB.out.block _ HZ2.out).trans HBP.out) 0).trans rfl) | (go_at_call 43; (with_reducible refine (incr_is (A0 := A2) (c0 := c2) (l0 := l2) (l0_0.length : Int) _ ?cS hc2 HL2.out).mono ?_); (case cS => exact (Kd.C_below (Kd.C_below HS.out HB2.out) (fW HB.out))); rintro e' w' ⟨rfl, nd, rfl⟩; rw [HI1.out]) | (go_at_call 43; (with_reducible refine (incr_is (A0 := A3) (c0 := c3) (l0 := l3) a0_1 _ ?cP hc3 HL3.out).mono ?_); (case cP => exact (Kd.C_below (Kd.C_below HP.out HB2.out) (fW HB.out))); rintro e' w' ⟨rfl, nd2, rfl⟩; rw [HI2.out]) | (go_at_call 44; refine (contains_is (A0 := A2) (c0 := c2) (l0 := l2) a1 _ (Kd.C_below (Kd.C_below HS.out HB2.out) (fW HB.out)) hc2 HL2.out).mono ?_; rintro e' w' ⟨rfl, nd3, rfl⟩; rw [HI3.out]))
  go_ret
  exact ⟨rfl, (HB2.out.trans ((by repeat (first | (with_reducible first | exact HB.out | apply wa | apply wN | apply wd) | exact HB.out) : Below W2.heap.size W2 _).mono (Nat.le_of_lt HZ.out)))⟩
 subst hu1
 have hbase : r = (l2.all (okSt l0_0 l0_3 l3) && decide ((l3.filter (freS l0_2 l0_3)).length < (l2.filter (clmS l0_2 a1)).length)) := by
  have := HRES.out; rw [hI1, hI2, hI3, ← hu] at this; simpa using this.symm
 have HBASE := am hbase
 clear hbase HRES hI1 hI2 hI3 hu
 go_enter Try.func19, Try.ntmps19
 go_wp2_with (first | (go_at_call 24; rw [← HW.out]; refine (replace_Check.calls A0_0 c0_0 l0_0 a0_1 _ c0_2 l0_2 A0_3 c0_3 l0_3 _ _ (Kd.C_below (Kd.C_below HR0.out HB2.out) (fW HB.out)) hc0_0 (Kd.C_below (Kd.C_below HR2.out HB2.out) (fW HB.out)) hc0_2 (Kd.C_below (Kd.C_below HR3.out HB2.out) (fW HB.out)) hc0_3 HE.out).mono ?_; rintro e' w' ⟨rfl, hb⟩; have n1 := am (HB.out.trans (hb.mono HB.out.size)); clear HB hb; have HB := n1; clear n1; obtain ⟨g0, g1, g2, g3⟩ := box4 HB.out HZ.out HBX.out; have gu := (HB.out.cell (bq W2 _ HCW.out)).trans HCW.out; have gp := (blk_cell ((HB.out.block _ HZ2.out).trans HBP.out) 0).trans rfl) | (go_at_call 43; (with_reducible refine (incr_is (A0 := A2) (c0 := c2) (l0 := l2) (l0_0.length : Int) _ ?cS hc2 HL2.out).mono ?_); (case cS => exact (Kd.C_below (Kd.C_below HS.out HB2.out) (fW HB.out))); rintro e' w' ⟨rfl, nd, rfl⟩; rw [HI1.out]) | (go_at_call 43; (with_reducible refine (incr_is (A0 := A3) (c0 := c3) (l0 := l3) a0_1 _ ?cP hc3 HL3.out).mono ?_); (case cP => exact (Kd.C_below (Kd.C_below HP.out HB2.out) (fW HB.out))); rintro e' w' ⟨rfl, nd2, rfl⟩; rw [HI2.out]) | (go_at_call 44; refine (contains_is (A0 := A2) (c0 := c2) (l0 := l2) a1 _ (Kd.C_below (Kd.C_below HS.out HB2.out) (fW HB.out)) hc2 HL2.out).mono ?_; rintro e' w' ⟨rfl, nd3, rfl⟩; rw [HI3.out]))
 obtain ⟨Wc, hWc⟩ : ∃ Wc, Wc = w'.drewN (nd + nd2 + nd3) := ⟨_, rfl⟩
 have HBc := am (show Below W2.heap.size W2 Wc by rw [hWc]; exact wN HB.out _)
 clear gu g0 g1 g2 g3 gp
 go_loopw [50, 9] (fun i c wr => ∃ k q : Nat, k ≤ l2.length ∧ i = .int .i64 k ∧ c = .int .i64 ((l2.take k).filter (clmS l0_2 a1)).length ∧ wr = w'.drewN q ∧ Aside0 (∀ j, j < k → okSt l0_0 l0_3 l3 (l2.getD j 0) = true))
  (fun i _ _ => l2.length - (intOf i).toNat)
 case atStart => exact ⟨0, nd + nd2 + nd3, Nat.zero_le _, rfl, rfl, by first | rfl | simp [World.drewN_drewN, Nat.add_assoc], ⟨fun j hj => absurd hj (by omega)⟩⟩
 case round =>
  obtain ⟨k, q, hk, rfl, rfl, rfl, HOK⟩ := hrel
  have HBq := am (wN HB.out q)
  have hl2b := HL2.out
  have hl3b := HL3.out
  obtain ⟨g0, g1, g2, g3⟩ := box4 HB.out HZ.out HBX.out
  have gp := (blk_cell ((HB.out.block _ HZ2.out).trans HBP.out) 0).trans rfl
  by_cases hlt : k < l2.length
  ·have hs := HIN.out (l2.getD k 0) (by rw [List.getD_eq_getElem?_getD, List.getElem?_eq_getElem hlt]; exact List.getElem_mem _)
   have hts : ((l2.take (k + 1)).filter (clmS l0_2 a1)).length = ((l2.take k).filter (clmS l0_2 a1)).length + (if clmS l0_2 a1 (l2.getD k 0) = true then 1 else 0) := by
    rw [List.take_succ_eq_append_getElem hlt, List.filter_append, List.length_append, List.getD_eq_getElem?_getD, List.getElem?_eq_getElem hlt]
    simp only [Option.getD_some, List.filter_cons, List.filter_nil]
    split <;> rfl
   have hcb : ((l2.take k).filter (clmS l0_2 a1)).length ≤ k := Nat.le_trans (List.length_filter_le _ _) (List.length_take_le _ _)
   have hbad : okSt l0_0 l0_3 l3 (l2.getD k 0) = false → r = false := fun h => by
    rw [HBASE.out]
    have : l2.all (okSt l0_0 l0_3 l3) = false := by
     rw [List.all_eq_false]
     exact ⟨l2.getD k 0, by rw [List.getD_eq_getElem?_getD, List.getElem?_eq_getElem hlt]; exact List.getElem_mem _, by rw [h]; simp⟩
    rw [this]; rfl
   have hgood : okSt l0_0 l0_3 l3 (l2.getD k 0) = true → ∀ j, j < k + 1 → okSt l0_0 l0_3 l3 (l2.getD j 0) = true := fun h j hj => by
    by_cases hjk : j < k
    ·exact HOK.out j hjk
    obtain rfl : j = k := by omega
    exact h
   obtain ⟨ads, eAs, hcs⟩ := at_I (Kd.C_below (Kd.C_below HS.out HB2.out) HB.out) k hlt
   subst eAs
   obtain ⟨s, hsd⟩ : ∃ s, s = l2.getD k 0 := ⟨_, rfl⟩
   rw [← hsd] at hs hts hbad hgood hcs
   have hs0 := hs.1
   have hs1 := hs.2
   obtain ⟨adf, eAf, hcf⟩ := at_B (Kd.C_below (Kd.C_below HR3.out HB2.out) HB.out) s.toNat (by omega)
   obtain ⟨adw, Ar, cr, eAw, hcw, hcr, hCr⟩ := at_L1 (Kd.C_below HR0.out HB2.out) s hs0 (by omega)
   obtain ⟨adu, eAu, hcu⟩ := at_I (Kd.C_below (Kd.C_below HR2.out HB2.out) HB.out) s.toNat (by omega)
   have hrl : (rd_L1 l0_0 s).length < 1099511627776 := by have := HZ6.out s.toNat (by omega); simp only [rd_L1]; omega
   have eok : okSt l0_0 l0_3 l3 s = (!(l0_3.getD s.toNat false) && !((rd_L1 l0_0 s).any fun x => !decide (x ∈ l3))) := rfl
   have ecl : clmS l0_2 a1 s = ((s == a1) || (l0_2.getD s.toNat 0 != -1)) := rfl
   subst eAf eAw
   cases eAu
   have hcw' := (HB.out.cell (bq W2 _ hcw)).trans hcw
   obtain ⟨f, hf⟩ : ∃ f, f = l0_3.getD s.toNat false := ⟨_, rfl⟩
   obtain ⟨u, hu⟩ : ∃ u, u = l0_2.getD s.toNat 0 := ⟨_, rfl⟩
   rw [← hf] at hcf eok
   rw [← hu] at hcu ecl
   have HRL := am hrl
   have HCR := am hCr
   have HTS := am hts
   have HBAD := am hbad
   have HGOOD := am hgood
   have HEOK := am eok
   have HECL := am ecl
   clear hs hts hbad hgood hsd hrl hCr hcw eok ecl hf hu
   cases f with
   | true =>
    obtain rfl := HBAD.out (by rw [HEOK.out]; rfl)
    go_wp2_with fail
    go_ret
    exact ⟨rfl, (HB2.out.trans ((by repeat (first | (with_reducible first | exact HBq.out | exact HB.out | apply wa | apply wN | apply wd) | exact HBq.out) : Below W2.heap.size W2 _).mono (Nat.le_of_lt HZ.out)))⟩
   | false =>
   cases hany : (rd_L1 l0_0 s).any fun x => !decide (x ∈ l3) with
   | true =>
    obtain rfl := HBAD.out (by rw [HEOK.out, hany]; rfl)
    have HANY := am hany
    clear hany
    go_wp2_with ((go_at_call 45; (with_reducible refine (contains_46 (w.heap.size + 1) (fun x => !decide (x ∈ l3)) _ ?cC hcr HRL.out ?cl).mono ?_); (case cC => exact Kd.C_below HCR.out (by repeat (first | (with_reducible first | exact HBq.out | exact HB.out | apply wa | apply wN | apply wd) | exact HBq.out))); (case cl => exact fun x n => clo_46 _ x _ (((by repeat (first | (with_reducible first | exact HBq.out | exact HB.out | apply wa | apply wN | apply wd) | exact HBq.out) : Below W2.heap.size W2 _).block _ HZ2.out).trans HBP.out) (Kd.C_below (Kd.C_below HP.out HB2.out) (by repeat (first | (with_reducible first | exact HBq.out | exact HB.out | apply wa | apply wN | apply wd) | exact HBq.out))) hc3 HL3.out n); rintro e' w5 ⟨rfl, nd5, rfl⟩; rw [HANY.out]))
    go_ret
    exact ⟨rfl, (HB2.out.trans ((by repeat (first | (with_reducible first | exact HBq.out | exact HB.out | apply wa | apply wN | apply wd) | exact HBq.out) : Below W2.heap.size W2 _).mono (Nat.le_of_lt HZ.out)))⟩
   | false =>
   have HANY := am hany
   have HG := am (HGOOD.out (by rw [HEOK.out, hany]; rfl))
   clear hany
   by_cases hsa : s = a1
   ·have s1 : (s == a1) = true := beq_iff_eq.2 hsa
    have HT := am (HTS.out.trans (by rw [if_pos (by rw [HECL.out, s1]; rfl)]))
    have HSA := am hsa
    clear hsa
    go_wp2_with ((go_at_call 45; (with_reducible refine (contains_46 (w.heap.size + 1) (fun x => !decide (x ∈ l3)) _ ?cC hcr HRL.out ?cl).mono ?_); (case cC => exact Kd.C_below HCR.out (by repeat (first | (with_reducible first | exact HBq.out | exact HB.out | apply wa | apply wN | apply wd) | exact HBq.out))); (case cl => exact fun x n => clo_46 _ x _ (((by repeat (first | (with_reducible first | exact HBq.out | exact HB.out | apply wa | apply wN | apply wd) | exact HBq.out) : Below W2.heap.size W2 _).block _ HZ2.out).trans HBP.out) (Kd.C_below (Kd.C_below HP.out HB2.out) (by repeat (first | (with_reducible first | exact HBq.out | exact HB.out | apply wa | apply wN | apply wd) | exact HBq.out))) hc3 HL3.out n); rintro e' w5 ⟨rfl, nd5, rfl⟩; rw [HANY.out]))
    go_roundw
    case rel => exact ⟨k + 1, _, by omega, by go_num, by rw [HT.out]; go_num, by first | rfl | exact World.drewN_drewN _ _ _, HG⟩
    case measure => simp [intOf]; omega
   have s1 : (s == a1) = false := beq_eq_false_iff_ne.2 hsa
   have HSA := am hsa
   clear hsa
   by_cases hu1 : u = -1
   ·have HT := am (HTS.out.trans (by rw [if_neg (by rw [HECL.out, s1, hu1]; simp)]))
    subst hu1
    go_wp2_with ((go_at_call 45; (with_reducible refine (contains_46 (w.heap.size + 1) (fun x => !decide (x ∈ l3)) _ ?cC hcr HRL.out ?cl).mono ?_); (case cC => exact Kd.C_below HCR.out (by repeat (first | (with_reducible first | exact HBq.out | exact HB.out | apply wa | apply wN | apply wd) | exact HBq.out))); (case cl => exact fun x n => clo_46 _ x _ (((by repeat (first | (with_reducible first | exact HBq.out | exact HB.out | apply wa | apply wN | apply wd) | exact HBq.out) : Below W2.heap.size W2 _).block _ HZ2.out).trans HBP.out) (Kd.C_below (Kd.C_below HP.out HB2.out) (by repeat (first | (with_reducible first | exact HBq.out | exact HB.out | apply wa | apply wN | apply wd) | exact HBq.out))) hc3 HL3.out n); rintro e' w5 ⟨rfl, nd5, rfl⟩; rw [HANY.out]))
    go_roundw
    case rel => exact ⟨k + 1, _, by omega, by go_num, by rw [HT.out]; rfl, by first | rfl | exact World.drewN_drewN _ _ _, HG⟩
    case measure => simp [intOf]; omega
   have u1 : (u == -1) = false := by simpa using hu1
   have u2 : (u != -1) = true := by simpa using hu1
   have HT := am (HTS.out.trans (by rw [if_pos (by rw [HECL.out, s1, u2]; rfl)]))
   have HU1 := am hu1
   clear hu1
   go_wp2_with ((go_at_call 45; (with_reducible refine (contains_46 (w.heap.size + 1) (fun x => !decide (x ∈ l3)) _ ?cC hcr HRL.out ?cl).mono ?_); (case cC => exact Kd.C_below HCR.out (by repeat (first | (with_reducible first | exact HBq.out | exact HB.out | apply wa | apply wN | apply wd) | exact HBq.out))); (case cl => exact fun x n => clo_46 _ x _ (((by repeat (first | (with_reducible first | exact HBq.out | exact HB.out | apply wa | apply wN | apply wd) | exact HBq.out) : Below W2.heap.size W2 _).block _ HZ2.out).trans HBP.out) (Kd.C_below (Kd.C_below HP.out HB2.out) (by repeat (first | (with_reducible first | exact HBq.out | exact HB.out | apply wa | apply wN | apply wd) | exact HBq.out))) hc3 HL3.out n); rintro e' w5 ⟨rfl, nd5, rfl⟩; rw [HANY.out]))
   go_roundw
   case rel => exact ⟨k + 1, _, by omega, by go_num, by rw [HT.out]; go_num, by first | rfl | exact World.drewN_drewN _ _ _, HG⟩
   case measure => simp [intOf]; omega
  obtain rfl : k = l2.length := by omega
  have hall : l2.all (okSt l0_0 l0_3 l3) = true := by
   rw [List.all_eq_true]
   intro x hx
   obtain ⟨i, hi, rfl⟩ := List.getElem_of_mem hx
   have := HOK.out i hi
   rw [List.getD_eq_getElem?_getD, List.getElem?_eq_getElem hi] at this
   exact this
  have hres := HBASE.out
  rw [hall, Bool.true_and] at hres
  have HRES := am hres
  have hcb : (l2.filter (clmS l0_2 a1)).length ≤ l2.length := List.length_filter_le _ _
  rw [List.take_length]
  obtain ⟨cl, hcl⟩ : ∃ cl, cl = (l2.filter (clmS l0_2 a1)).length := ⟨_, rfl⟩
  rw [← hcl] at hcb HRES ⊢
  have HLU := am (show l0_2.length < 1099511627776 by have := HZ1.out; omega)
  clear hall hres hlt hk hcl HOK HBASE
  go_wp2_with fail
  go_loopw [84, 12] (fun i c wr => ∃ k : Nat, k ≤ l3.length ∧ i = .int .i64 k ∧ c = .int .i64 ((l3.take k).filter (freS l0_2 l0_3)).length ∧ Aside0 (Below W2.heap.size W2 wr))
   (fun i _ _ => l3.length - (intOf i).toNat)
  case atStart => exact ⟨0, Nat.zero_le _, rfl, rfl, HBq⟩
  case round =>
   clear g0 g1 g2 g3 gp HBq
   obtain ⟨k, hk, rfl, rfl, HBr⟩ := hrel
   by_cases hlt : k < l3.length
   rotate_left
   ·obtain rfl : k = l3.length := by omega
    rw [List.take_length]
    obtain ⟨fr, hfr⟩ : ∃ fr, fr = (l3.filter (freS l0_2 l0_3)).length := ⟨_, rfl⟩
    rw [← hfr] at HRES ⊢
    have HRR := am (show r = decide ((fr : Int) < (cl : Int)) by rw [HRES.out]; by_cases q : fr < cl <;> simp [q])
    clear hfr hlt hk
    go_wp2_with fail
    go_ret
    exact ⟨by first | (rw [HRR.out]; done) | (rw [HRR.out]; rfl) | (rw [HRR.out]; simp), HB2.out.trans (HBr.out.mono (Nat.le_of_lt HZ.out))⟩
   have hts : ((l3.take (k + 1)).filter (freS l0_2 l0_3)).length = ((l3.take k).filter (freS l0_2 l0_3)).length + (if freS l0_2 l0_3 (l3.getD k 0) = true then 1 else 0) := by
    rw [List.take_succ_eq_append_getElem hlt, List.filter_append, List.length_append, List.getD_eq_getElem?_getD, List.getElem?_eq_getElem hlt]
    simp only [Option.getD_some, List.filter_cons, List.filter_nil]
    split <;> rfl
   have hfb : ((l3.take k).filter (freS l0_2 l0_3)).length ≤ k := Nat.le_trans (List.length_filter_le _ _) (List.length_take_le _ _)
   obtain ⟨adp, eAp, hcp⟩ := at_I (Kd.C_below (Kd.C_below HP.out HB2.out) HBr.out) k hlt
   subst eAp
   obtain ⟨g0, g1, g2, g3⟩ := box4 HBr.out HZ.out HBX.out
   obtain ⟨x, hx⟩ : ∃ x, x = l3.getD k 0 := ⟨_, rfl⟩
   rw [← hx] at hts hcp
   have efr : freS l0_2 l0_3 x = (decide (idxI l0_2 x < 0) || !(l0_3.getD (idxI l0_2 x).toNat false)) := rfl
   have hib : idxI l0_2 x < l0_2.length := by
    unfold idxI
    split
    ·rename_i hm; have := List.idxOf_lt_length_iff.2 hm; omega
    omega
   obtain ⟨o, ho⟩ : ∃ o, idxI l0_2 x = o := ⟨_, rfl⟩
   rw [ho] at efr hib
   have HO := am ho
   have HTS := am hts
   have HEF := am efr
   have hob : o < l0_0.length := by have := HZ1.out; omega
   clear ho hts efr hx hib
   by_cases ho0 : o < 0
   ·have HT := am (HTS.out.trans (by rw [if_pos (by rw [HEF.out, decide_eq_true ho0]; rfl)]))
    go_wp2_with ((go_at_call 47; (with_reducible refine (user_is x _ ?c0 hc0_0 ?c2 hc0_2 ?c3 hc0_3 HLU.out).mono ?_); (case c0 => exact Kd.C_below (Kd.C_below HR0.out HB2.out) (fW HBr.out)); (case c2 => exact Kd.C_below (Kd.C_below HR2.out HB2.out) (fW HBr.out)); (case c3 => exact Kd.C_below (Kd.C_below HR3.out HB2.out) (fW HBr.out)); rintro e' w5 ⟨rfl, hb⟩; rw [HO.out]; have n1 := am (HBr.out.trans (hb.mono HBr.out.size)); clear HBr hb; have HBr := n1; clear n1 g0 g1 g2 g3; obtain ⟨g0, g1, g2, g3⟩ := box4 HBr.out HZ.out HBX.out; try (have h3 := (HBr.out.cell (bq W2 _ HC3.out)).trans HC3.out)))
    go_roundw
    case rel => exact ⟨k + 1, by omega, by go_num, by rw [HT.out]; go_num, HBr⟩
    case measure => simp [intOf]; omega
   obtain ⟨adf, eAf, hcf⟩ := at_B (Kd.C_below HR3.out HB2.out) o.toNat (by omega)
   subst eAf
   obtain ⟨f, hf⟩ : ∃ f, f = l0_3.getD o.toNat false := ⟨_, rfl⟩
   rw [← hf] at hcf
   have HC3 := am hcf
   have ho1 : 0 ≤ o := by omega
   cases f with
   | true =>
    have HT := am (HTS.out.trans (by rw [if_neg (by rw [HEF.out, decide_eq_false ho0, ← hf]; simp)]))
    clear hf hcf ho0
    go_wp2_with ((go_at_call 47; (with_reducible refine (user_is x _ ?c0 hc0_0 ?c2 hc0_2 ?c3 hc0_3 HLU.out).mono ?_); (case c0 => exact Kd.C_below (Kd.C_below HR0.out HB2.out) (fW HBr.out)); (case c2 => exact Kd.C_below (Kd.C_below HR2.out HB2.out) (fW HBr.out)); (case c3 => exact Kd.C_below (Kd.C_below HR3.out HB2.out) (fW HBr.out)); rintro e' w5 ⟨rfl, hb⟩; rw [HO.out]; have n1 := am (HBr.out.trans (hb.mono HBr.out.size)); clear HBr hb; have HBr := n1; clear n1 g0 g1 g2 g3; obtain ⟨g0, g1, g2, g3⟩ := box4 HBr.out HZ.out HBX.out; try (have h3 := (HBr.out.cell (bq W2 _ HC3.out)).trans HC3.out)))
    go_roundw
    case rel => exact ⟨k + 1, by omega, by go_num, by rw [HT.out]; rfl, HBr⟩
    case measure => simp [intOf]; omega
   | false =>
    have HT := am (HTS.out.trans (by rw [if_pos (by rw [HEF.out, ← hf]; simp)]))
    clear hf hcf ho0
    go_wp2_with ((go_at_call 47; (with_reducible refine (user_is x _ ?c0 hc0_0 ?c2 hc0_2 ?c3 hc0_3 HLU.out).mono ?_); (case c0 => exact Kd.C_below (Kd.C_below HR0.out HB2.out) (fW HBr.out)); (case c2 => exact Kd.C_below (Kd.C_below HR2.out HB2.out) (fW HBr.out)); (case c3 => exact Kd.C_below (Kd.C_below HR3.out HB2.out) (fW HBr.out)); rintro e' w5 ⟨rfl, hb⟩; rw [HO.out]; have n1 := am (HBr.out.trans (hb.mono HBr.out.size)); clear HBr hb; have HBr := n1; clear n1 g0 g1 g2 g3; obtain ⟨g0, g1, g2, g3⟩ := box4 HBr.out HZ.out HBX.out; try (have h3 := (HBr.out.cell (bq W2 _ HC3.out)).trans HC3.out)))
    go_roundw
    case rel => exact ⟨k + 1, by omega, by go_num, by rw [HT.out]; go_num, HBr⟩
    case measure => simp [intOf]; omega
end

def r_SameInts.l0 : Nat → List Int → List Int → Int → Option (Bool)
 | 0, _, _, _ => none
 | k + 1, x0, x1, x5 => if x5 < (x0.length : Int) then (if 0 ≤ x5 then (if x5 < (x1.length : Int) then (if (rd x0 x5) = (rd x1 x5) then (r_SameInts.l0 k x0 x1 (wrap64 (x5 + 1))) else (some false)) else (none)) else (none)) else (some true)
def r_SameInts.f (k : Nat) (l0 : List Int) (l1 : List Int) : Option (Bool) := if (l0.length : Int) = (l1.length : Int) then (r_SameInts.l0 k l0 l1 0) else (some false)
theorem r_SameInts.mono_l : ∀ k, (∀ y0 y1 y2, LeO (r_SameInts.l0 k y0 y1 y2) (r_SameInts.l0 (k + 1) y0 y1 y2))
 | 0 => fun _ _ _ r h => by simp [r_SameInts.l0] at h
 | k + 1 => by
  have ih0 := r_SameInts.mono_l k
  intro y0 y1 y2
  unfold r_SameInts.l0
  repeat' first
  | (with_reducible exact ih0 _ _ _)
  | (with_reducible exact LeO.refl _)
  | (with_reducible exact LeO.none _)
  | (with_reducible refine LeO.ite ?_ ?_)
  | (with_reducible refine LeO.bind ?_ (fun _ => ?_))
  | exact ih0 _ _ _
  | exact LeO.none _
  | refine LeO.ite ?_ ?_
  | refine LeO.bind ?_ (fun _ => ?_)
theorem r_SameInts.mono : ∀ a0 a1 k, LeO (r_SameInts.f k a0 a1) (r_SameInts.f (k + 1) a0 a1) := by
 intro a0 a1 k
 have ih0 := r_SameInts.mono_l k
 unfold r_SameInts.f
 repeat' first
   | (with_reducible exact ih0 _ _ _)
   | (with_reducible exact LeO.refl _)
   | (with_reducible exact LeO.none _)
   | (with_reducible refine LeO.ite ?_ ?_)
   | (with_reducible refine LeO.bind ?_ (fun _ => ?_))
   | exact ih0 _ _ _
   | exact LeO.none _
   | refine LeO.ite ?_ ?_
   | refine LeO.bind ?_ (fun _ => ?_)
set_option maxHeartbeats 8000000 in
set_option maxRecDepth 100000 in
theorem r_SameInts.calls (k : Nat) (A0 : Option Addr) (c0 : Nat) (l0 : List Int) (A1 : Option Addr) (c1 : Nat) (l1 : List Int) (r : Bool) (w : World) (hr0 : Kd.C (Kd.int .i64) w A0 l0.length l0) (hc0 : l0.length ≤ c0) (hr1 : Kd.C (Kd.int .i64) w A1 l1.length l1) (hc1 : l1.length ≤ c1) (h : r_SameInts.f k l0 l1 = some r) :
  Calls Try.prog 22 #[.slice A0 l0.length c0, .slice A1 l1.length c1] w fun e w' => e = .returned (.bool r) ∧ Drawn0 w w' := by
 have HR0 := am hr0
 have HC0 := am hc0
 clear hr0 hc0
 have HR1 := am hr1
 have HC1 := am hc1
 clear hr1 hc1
 have H : (if (l0.length : Int) = (l1.length : Int) then (r_SameInts.l0 k l0 l1 0) else (some false)) = some r := h
 clear h
 by_cases c3 : (l0.length : Int) = (l1.length : Int)
 ·rw [if_pos c3] at H
  have c3b0 : ((l0.length : Int) == (l1.length : Int)) = true := beq_iff_eq.mpr c3
  have c3b1 : ((l0.length : Int) != (l1.length : Int)) = false := bne_eq_false_iff_eq.mpr c3
  have c3b2 : (l0.length == l1.length) = true := by first | simpa using c3 | (simp at c3 ⊢; omega)
  clear c3
  have H' := am H
  clear H
  go_enter Try.func22, Try.ntmps22
  go_wp2
  repeat (go_quiet (fail); try go_wp2)
  go_loopg [5] k (fun kq v5 w' => ∃ (x5_1 : Int), v5 = .int .i64 x5_1 ∧ Aside0 (r_SameInts.l0 kq l0 l1 x5_1 = some r) ∧ Aside0 (kq ≤ k) ∧ Drawn0 w w')
  case atStart => exact ⟨(0), sqD, H', ⟨Nat.le_refl _⟩, by repeat (first | exact Drawn0.refl _ | apply Drawn0.step)⟩
  case round =>
   clear H'
   try clear c1;try clear c2;try clear p2;try clear c3;try clear c3b0;try clear c3b1;try clear c3b2
   obtain ⟨x5_1, rfl, HA, HK1, ⟨m1, rfl⟩⟩ := hrel
   cases gk with
   | zero => exact absurd HA.out (by simp [r_SameInts.l0])
   | succ k1 =>
    have H := HA.out
    clear HA
    simp only [r_SameInts.l0] at H
    by_cases c4 : x5_1 < (l0.length : Int)
    rotate_left
    ·rw [if_neg c4] at H
     have c4b0 : decide (x5_1 < (l0.length : Int)) = false := decide_eq_false c4
     clear c4
     obtain rfl := Option.some.inj H
     go_wp2
     repeat (go_quiet (fail); try go_wp2)
     go_ret
     exact ⟨by first | rfl | (simp; done) | (simp [*]; done), by repeat (first | exact Drawn0.refl _ | apply Drawn0.step)⟩
    rw [if_pos c4] at H
    have c4b0 : decide (x5_1 < (l0.length : Int)) = true := decide_eq_true c4
    clear c4
    by_cases c5 : 0 ≤ x5_1
    rotate_left
    ·rw [if_neg c5] at H
     exact absurd H (by simp)
    rw [if_pos c5] at H
    have c5b0 : decide (0 ≤ x5_1) = true := decide_eq_true c5
    clear c5
    by_cases c6 : x5_1 < (l1.length : Int)
    rotate_left
    ·rw [if_neg c6] at H
     exact absurd H (by simp)
    rw [if_pos c6] at H
    have c6b0 : decide (x5_1 < (l1.length : Int)) = true := decide_eq_true c6
    clear c6
    by_cases c7 : (rd l0 x5_1) = (rd l1 x5_1)
    ·rw [if_pos c7] at H
     have c7b0 : ((rd l0 x5_1) == (rd l1 x5_1)) = true := beq_iff_eq.mpr c7
     have c7b1 : ((rd l0 x5_1) != (rd l1 x5_1)) = false := bne_eq_false_iff_eq.mpr c7
     clear c7
     have H' := am H
     clear H
     have p122 : 0 ≤ (x5_1 : Int) := of_decide_eq_true (by assumption)
     have q122 : x5_1 < (l0.length : Int) := of_decide_eq_true (by assumption)
     obtain ⟨ad122, e122, hx122_0⟩ := Kd.at_int HR0.out x5_1 p122 q122
     cases e122
     replace p122 := eq_true p122
     replace q122 := eq_true q122
     have p123 : 0 ≤ (x5_1 : Int) := of_decide_eq_true (by assumption)
     have q123 : x5_1 < (l1.length : Int) := of_decide_eq_true (by assumption)
     obtain ⟨ad123, e123, hx123_0⟩ := Kd.at_int HR1.out x5_1 p123 q123
     cases e123
     replace p123 := eq_true p123
     replace q123 := eq_true q123
     go_wp2
     repeat (go_quiet (fail); try go_wp2)
     go_roundg k1
     case measure => have := HK1.out; omega
     case rel => exact ⟨(wrap64 (x5_1 + 1)), sqD, H', ⟨by have := HK1.out; omega⟩, by repeat (first | exact Drawn0.refl _ | apply Drawn0.step)⟩
    rw [if_neg c7] at H
    have c7b0 : ((rd l0 x5_1) == (rd l1 x5_1)) = false := beq_eq_false_iff_ne.mpr c7
    have c7b1 : ((rd l0 x5_1) != (rd l1 x5_1)) = true := bne_iff_ne.mpr c7
    obtain rfl := Option.some.inj H
    have p122 : 0 ≤ (x5_1 : Int) := of_decide_eq_true (by assumption)
    have q122 : x5_1 < (l0.length : Int) := of_decide_eq_true (by assumption)
    obtain ⟨ad122, e122, hx122_0⟩ := Kd.at_int HR0.out x5_1 p122 q122
    cases e122
    replace p122 := eq_true p122
    replace q122 := eq_true q122
    have p123 : 0 ≤ (x5_1 : Int) := of_decide_eq_true (by assumption)
    have q123 : x5_1 < (l1.length : Int) := of_decide_eq_true (by assumption)
    obtain ⟨ad123, e123, hx123_0⟩ := Kd.at_int HR1.out x5_1 p123 q123
    cases e123
    replace p123 := eq_true p123
    replace q123 := eq_true q123
    go_wp2
    repeat (go_quiet (fail); try go_wp2)
    go_ret
    exact ⟨by first | rfl | (simp; done) | (simp [*]; done), by repeat (first | exact Drawn0.refl _ | apply Drawn0.step)⟩
 ·rw [if_neg c3] at H
  have c3b0 : ((l0.length : Int) == (l1.length : Int)) = false := beq_eq_false_iff_ne.mpr c3
  have c3b1 : ((l0.length : Int) != (l1.length : Int)) = true := bne_iff_ne.mpr c3
  have c3b2 : (l0.length == l1.length) = false := by first | simpa using c3 | (simp at c3 ⊢; omega)
  obtain rfl := Option.some.inj H
  go_enter Try.func22, Try.ntmps22
  go_wp2
  repeat (go_quiet (fail); try go_wp2)
  go_ret
  exact ⟨by first | rfl | (simp; done) | (simp [*]; done), by repeat (first | exact Drawn0.refl _ | apply Drawn0.step)⟩

def slices_Clone_int_int.f (l0 : List Int) : Option (List Int) := if l0.length < 1099511627776 then some l0 else none

set_option maxHeartbeats 1000000 in
set_option maxRecDepth 100000 in
theorem slices_Clone_int_int.calls (A0 : Option Addr) (c0 : Nat) (l0 : List Int) (r : List Int) (w : World) (hr0 : Kd.C (Kd.int .i64) w A0 l0.length l0) (hc0 : l0.length ≤ c0) (h : slices_Clone_int_int.f l0 = some r) :
  Calls Try.prog 51 #[.slice A0 l0.length c0] w fun e w' => ∃ v0_ : Value, e = .returned v0_ ∧ Kd.R (Kd.int .i64) 3 w' w.heap.size (fun _ => True) v0_ r ∧ Below w.heap.size w w' := by
 unfold slices_Clone_int_int.f at h
 split at h
 case isFalse => exact absurd h (by simp)
 case isTrue hl =>
 obtain rfl := Option.some.inj h
 clear h
 have HL := am hl
 clear hl
 have HR := am hr0
 clear hr0
 rcases A0 with _ | ad
 ·have h0 : l0 = [] := by
   rcases Nat.eq_zero_or_pos l0.length with h | h
   ·exact List.eq_nil_of_length_eq_zero h
   obtain ⟨ad, e, _⟩ := HR.out.2.2 h
   cases e
  subst h0
  have hq := fun W => Lib.run_eql_slice_nil (P := Try.prog) W 23 3 none 0 c0 0 0 Try.underlying23
  go_enter Try.func51, Try.ntmps51
  go_wp2
  go_ret
  exact ⟨_, rfl, Kd.R_nil _ _ _ _ _, Below.refl _ _⟩
 ·have hq := fun W => Lib.run_eql_slice_nil (P := Try.prog) W 23 3 (some ad) l0.length c0 0 0 Try.underlying23
  go_enter Try.func51, Try.ntmps51
  go_wp2_with (first | ((with_reducible refine gate_dst (N := 5) rfl ?_); refine Kd.R_lit (Kd.int .i64) _ 3 ?hg (N := 5) ?hd (xs := ([] : List Int)) (inner := []) (ok := fun _ => True) (okp := fun _ => True) ?hr ?hp (fun _ hk => hk) trivial (Below.refl _ _) (Nat.le_refl _) (by simp) ?_; (case hd | hg => rfl); (case hr => first | (go_simp; done) | (go_simp; rfl)); (case hp => exact (Reps.none _ _)); intro v1 w1 ho9 hb hg_ hnew_; clear hg_ hnew_; have HO := am ho9; have HB := am hb; clear ho9 hb) | ((with_reducible refine gate_builtin (b := .append) (xs := #[.tmp 5, .tmp 6]) rfl ?_); at_builtin; refine Kd.R_append_rows (Kd.int .i64) (w0 := w) w.heap.size rfl (.tmp 5) (.tmp 6) 23 3 (.int .i64 0) 8 rfl Try.underlying23 info3 rfl (by decide) (by omega) _ [] l0 _ _ _ (fun _ => True) (fun _ => False) rfl rfl ?aO ?aR (fun _ _ h => h) (fun _ h => h.elim) ?aF ?aB ?aS ?aL ?_; (case aR => exact Kd.C_below HR.out HB.out); (case aB => exact HB.out); (case aF => exact (fun _ _ => trivial)); (case aO => exact HO.out); (case aS => exact below_size HB.out); (case aL => have := HL.out; simp; omega); intro v2 w2 ho hb hg hat; have HO2 := am ho; have HB2 := am hb; clear ho hb hg hat))
  go_ret
  exact ⟨_, rfl, HO2.out, HB2.out⟩

def slices_Clone_bool_bool.f (l0 : List Bool) : Option (List Bool) := if l0.length < 1099511627776 then some l0 else none

set_option maxHeartbeats 1000000 in
set_option maxRecDepth 100000 in
theorem slices_Clone_bool_bool.calls (A0 : Option Addr) (c0 : Nat) (l0 : List Bool) (r : List Bool) (w : World) (hr0 : Kd.C Kd.bool w A0 l0.length l0) (hc0 : l0.length ≤ c0) (h : slices_Clone_bool_bool.f l0 = some r) :
  Calls Try.prog 58 #[.slice A0 l0.length c0] w fun e w' => ∃ v0_ : Value, e = .returned v0_ ∧ Kd.R Kd.bool 4 w' w.heap.size (fun _ => True) v0_ r ∧ Below w.heap.size w w' := by
 unfold slices_Clone_bool_bool.f at h
 split at h
 case isFalse => exact absurd h (by simp)
 case isTrue hl =>
 obtain rfl := Option.some.inj h
 clear h
 have HL := am hl
 clear hl
 have HR := am hr0
 clear hr0
 rcases A0 with _ | ad
 ·have h0 : l0 = [] := by
   rcases Nat.eq_zero_or_pos l0.length with h | h
   ·exact List.eq_nil_of_length_eq_zero h
   obtain ⟨ad, e, _⟩ := HR.out.2.2 h
   cases e
  subst h0
  have hq := fun W => Lib.run_eql_slice_nil (P := Try.prog) W 24 4 none 0 c0 0 0 Try.underlying24
  go_enter Try.func58, Try.ntmps58
  go_wp2
  go_ret
  exact ⟨_, rfl, Kd.R_nil _ _ _ _ _, Below.refl _ _⟩
 ·have hq := fun W => Lib.run_eql_slice_nil (P := Try.prog) W 24 4 (some ad) l0.length c0 0 0 Try.underlying24
  go_enter Try.func58, Try.ntmps58
  go_wp2_with (first | ((with_reducible refine gate_dst (N := 5) rfl ?_); refine Kd.R_lit Kd.bool _ 4 ?hg (N := 5) ?hd (xs := ([] : List Bool)) (inner := []) (ok := fun _ => True) (okp := fun _ => True) ?hr ?hp (fun _ hk => hk) trivial (Below.refl _ _) (Nat.le_refl _) (by simp) ?_; (case hd | hg => rfl); (case hr => first | (go_simp; done) | (go_simp; rfl)); (case hp => exact (Reps.none _ _)); intro v1 w1 ho9 hb hg_ hnew_; clear hg_ hnew_; have HO := am ho9; have HB := am hb; clear ho9 hb) | ((with_reducible refine gate_builtin (b := .append) (xs := #[.tmp 5, .tmp 6]) rfl ?_); at_builtin; refine Kd.R_append_rows Kd.bool (w0 := w) w.heap.size rfl (.tmp 5) (.tmp 6) 24 4 (.bool false) 1 rfl Try.underlying24 info4 rfl (by decide) (by omega) _ [] l0 _ _ _ (fun _ => True) (fun _ => False) rfl rfl ?aO ?aR (fun _ _ h => h) (fun _ h => h.elim) ?aF ?aB ?aS ?aL ?_; (case aR => exact Kd.C_below HR.out HB.out); (case aB => exact HB.out); (case aF => exact (fun _ _ => trivial)); (case aO => exact HO.out); (case aS => exact below_size HB.out); (case aL => have := HL.out; simp; omega); intro v2 w2 ho hb hg hat; have HO2 := am ho; have HB2 := am hb; clear ho hb hg hat))
  go_ret
  exact ⟨_, rfl, HO2.out, HB2.out⟩

end Go.Proofs.Ytkeomlmlimkebaa.QA
