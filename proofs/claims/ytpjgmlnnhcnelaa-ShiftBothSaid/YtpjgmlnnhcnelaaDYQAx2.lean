import Derived.Test.YtpjgmlnnhcnelaaDYQAx0
namespace Go.Proofs.Ytpjgmlnnhcnelaa.QA
open Go.RowKit Go.Proofs.YtpjgmlnnhcnelaaW.PrintWords Go.Proofs.YtpjgmlnnhcnelaaW.PrintLast Go.Proofs.YtpjgmlnnhcnelaaW.PrintMore
open Aside0 renaming mk → am
attribute [local go_sem] max2_int min2_int max_two min_two max_three min_three max_four min_four
set_option linter.unusedVariables false
set_option linter.unusedSimpArgs false

def w_few.f (l0_0 : List (S54)) (l0_1 : List Int) : Option (Bool) := if (l0_0.length : Int) ≤ 70 then (some (decide ((l0_1.length : Int) ≤ 70))) else (some false)
set_option maxHeartbeats 8000000 in
set_option maxRecDepth 100000 in
theorem w_few.calls (A0_0 : Option Addr) (c0_0 : Nat) (l0_0 : List (S54)) (A0_1 : Option Addr) (c0_1 : Nat) (l0_1 : List Int) (r : Bool) (w : World) (hr0_0 : Kd.C k54 w A0_0 l0_0.length l0_0) (hc0_0 : l0_0.length ≤ c0_0) (hr0_1 : Kd.C (Kd.int .i64) w A0_1 l0_1.length l0_1) (hc0_1 : l0_1.length ≤ c0_1) (h : w_few.f l0_0 l0_1 = some r) :
  Calls Try.prog 11 #[.agg #[.slice A0_0 l0_0.length c0_0, .slice A0_1 l0_1.length c0_1]] w fun e w' => e = .returned (.bool r) ∧ Below w.heap.size w w' := by
 have hu25 := Try.underlying25
 have HR0_0 := am hr0_0
 have HC0_0 := am hc0_0
 clear hr0_0 hc0_0
 have HR0_1 := am hr0_1
 have HC0_1 := am hc0_1
 clear hr0_1 hc0_1
 have HB := am (Below.refl w.heap.size w)
 have H : (if (l0_0.length : Int) ≤ 70 then (some (decide ((l0_1.length : Int) ≤ 70))) else (some false)) = some r := h
 clear h
 by_cases c2 : (l0_0.length : Int) ≤ 70
 ·rw [if_pos c2] at H
  have c2b0 : decide ((l0_0.length : Int) ≤ 70) = true := decide_eq_true c2
  have c2b1 : decide (l0_0.length ≤ 70) = true := decide_eq_true (by omega)
  clear c2
  obtain rfl := Option.some.inj H
  go_enter Try.func11, Try.ntmps11
  go_wp2_with (first | ((with_reducible refine gate_dst (N := 1) rfl ?_); (try (refine gate_guard (by rfl) ?_; dsimp only)); refine box_event ?hg (N := 1) ?hd (cs := #[.slice A0_0 l0_0.length c0_0, .slice A0_1 l0_1.length c0_1]) (t := 25) ?hr ?_; (case hd | hg => rfl); (case hr => first | (go_simp; done) | (go_simp; rfl)); intro gb101 hg w3 hbox hb; have BK101 := am hbox; have GW101 := sG HB hg; have GE101 := sG HB hg; replace HB := bS HB hb; clear hb hbox hg; obtain ⟨_, _, _, _⟩ := zC2 BK101))
  go_ret
  exact ⟨sqE, fW HB.out⟩
 ·rw [if_neg c2] at H
  have c2b0 : decide ((l0_0.length : Int) ≤ 70) = false := decide_eq_false c2
  have c2b1 : decide (l0_0.length ≤ 70) = false := decide_eq_false (by omega)
  clear c2
  obtain rfl := Option.some.inj H
  go_enter Try.func11, Try.ntmps11
  go_wp2_with (first | ((with_reducible refine gate_dst (N := 1) rfl ?_); (try (refine gate_guard (by rfl) ?_; dsimp only)); refine box_event ?hg (N := 1) ?hd (cs := #[.slice A0_0 l0_0.length c0_0, .slice A0_1 l0_1.length c0_1]) (t := 25) ?hr ?_; (case hd | hg => rfl); (case hr => first | (go_simp; done) | (go_simp; rfl)); intro gb101 hg w5 hbox hb; have BK101 := am hbox; have GW101 := sG HB hg; have GE101 := sG HB hg; replace HB := bS HB hb; clear hb hbox hg; obtain ⟨_, _, _, _⟩ := zC2 BK101))
  go_ret
  exact ⟨sqE, fW HB.out⟩

def shift_in.f (a0 : Int) (a1 : Int) (a2 : Int) : Option (Bool) := if a0 ≥ a1 then (some (decide (a0 ≤ a2))) else (some false)
set_option maxHeartbeats 8000000 in
set_option maxRecDepth 100000 in
theorem shift_in.calls (a0 : Int) (a1 : Int) (a2 : Int) (r : Bool) (w : World) (h : shift_in.f a0 a1 a2 = some r) :
  Calls Try.prog 42 #[.int .i64 a0, .int .i64 a1, .int .i64 a2] w fun e w' => e = .returned (.bool r) ∧ Drawn0 w w' := by
 have H : (if a0 ≥ a1 then (some (decide (a0 ≤ a2))) else (some false)) = some r := h
 clear h
 by_cases c4 : a0 ≥ a1
 ·rw [if_pos c4] at H
  have c4b0 : decide (a1 ≤ a0) = true := decide_eq_true c4
  clear c4
  obtain rfl := Option.some.inj H
  go_enter Try.func42, Try.ntmps42
  go_wp2
  go_ret
  exact ⟨by first | rfl | (simp; done) | (simp [*]; done), by repeat (first | exact Drawn0.refl _ | apply Drawn0.step)⟩
 ·rw [if_neg c4] at H
  have c4b0 : decide (a1 ≤ a0) = false := decide_eq_false c4
  clear c4
  obtain rfl := Option.some.inj H
  go_enter Try.func42, Try.ntmps42
  go_wp2
  go_ret
  exact ⟨by first | rfl | (simp; done) | (simp [*]; done), by repeat (first | exact Drawn0.refl _ | apply Drawn0.step)⟩

def shift_Check_1.f (a0_0 : Int) (a0_1 : Int) (a0_2 : Int) : Option (Bool) := (shift_in.f a0_0 1 7).bind fun t103 => (if t103 = true then ((shift_in.f a0_1 0 1440).bind fun t104 => (if t104 = true then ((shift_in.f a0_2 0 1440).bind fun t105 => (if t105 = true then (some (decide (a0_1 ≥ a0_2))) else (some true))) else (some true))) else (some true))
set_option maxHeartbeats 8000000 in
set_option maxRecDepth 100000 in
theorem shift_Check_1.calls (a0_0 : Int) (a0_1 : Int) (a0_2 : Int) (r : Bool) (w : World) (h : shift_Check_1.f a0_0 a0_1 a0_2 = some r) :
  Calls Try.prog 41 #[.agg #[.int .i64 a0_0, .int .i64 a0_1, .int .i64 a0_2]] w fun e w' => e = .returned (.bool r) ∧ Below w.heap.size w w' := by
 have hu54 := Try.underlying54
 have HB := am (Below.refl w.heap.size w)
 have H : ((shift_in.f a0_0 1 7).bind fun t103 => (if t103 = true then ((shift_in.f a0_1 0 1440).bind fun t104 => (if t104 = true then ((shift_in.f a0_2 0 1440).bind fun t105 => (if t105 = true then (some (decide (a0_1 ≥ a0_2))) else (some true))) else (some true))) else (some true))) = some r := h
 clear h
 replace H := Option.bind_eq_some_iff.mp H
 obtain ⟨t103, A20, H⟩ := H
 replace H : (if t103 = true then ((shift_in.f a0_1 0 1440).bind fun t104 => (if t104 = true then ((shift_in.f a0_2 0 1440).bind fun t105 => (if t105 = true then (some (decide (a0_1 ≥ a0_2))) else (some true))) else (some true))) else (some true)) = some r := H
 have A2 := am A20
 clear A20
 by_cases c3 : t103 = true
 ·subst c3
  have H1 : ((shift_in.f a0_1 0 1440).bind fun t104 => (if t104 = true then ((shift_in.f a0_2 0 1440).bind fun t105 => (if t105 = true then (some (decide (a0_1 ≥ a0_2))) else (some true))) else (some true))) = some r := by rw [if_pos rfl] at H; exact H
  clear H
  have H := H1
  clear H1
  replace H := Option.bind_eq_some_iff.mp H
  obtain ⟨t104, A40, H⟩ := H
  replace H : (if t104 = true then ((shift_in.f a0_2 0 1440).bind fun t105 => (if t105 = true then (some (decide (a0_1 ≥ a0_2))) else (some true))) else (some true)) = some r := H
  have A4 := am A40
  clear A40
  by_cases c5 : t104 = true
  rotate_left
  ·replace c5 := Bool.eq_false_iff.mpr c5
   subst c5
   have H1 : (some true) = some r := by rw [if_neg (show ¬ (false = true) by decide)] at H; exact H
   clear H
   have H := H1
   clear H1
   obtain rfl := Option.some.inj H
   go_enter Try.func41, Try.ntmps41
   go_wp2_with (first | ((with_reducible refine gate_dst (N := 1) rfl ?_); refine box_event ?hg (N := 1) ?hd (cs := #[.int .i64 a0_0, .int .i64 a0_1, .int .i64 a0_2]) (t := 54) ?hr ?_; (case hd | hg => rfl); (case hr => first | (go_simp; done) | (go_simp; rfl)); intro gb102 hg w12 hbox hb; have BK102 := am hbox; have GW102 := sG HB hg; have GE102 := sG HB hg; replace HB := bS HB hb; clear hb hbox hg; obtain ⟨_, _, _, _, _, _⟩ := zC3 BK102) | ((with_reducible refine gate_callee (f := 42) rfl ?_); refine goesL_ (some 5) rfl rfl Try.func42 (by kernel_rfl) rfl #[.int .i64 a0_0, .int .i64 1, .int .i64 7] rfl (by (try simp only [pml]); first | done | rfl | (simp only [pdt]; rfl)) ?_; (with_reducible refine (shift_in.calls a0_0 1 7 true _ A2.out).mono ?_); rintro e w' ⟨rfl, ⟨nd, rfl⟩⟩; refine ⟨_, rfl, ?_⟩) | (go_at_call 42; (with_reducible refine (shift_in.calls a0_1 0 1440 false _ A4.out).mono ?_); rintro e w' ⟨rfl, ⟨nd, rfl⟩⟩))
   go_ret
   exact ⟨sqE, fW HB.out⟩
  subst c5
  have H1 : ((shift_in.f a0_2 0 1440).bind fun t105 => (if t105 = true then (some (decide (a0_1 ≥ a0_2))) else (some true))) = some r := by rw [if_pos rfl] at H; exact H
  clear H
  have H := H1
  clear H1
  replace H := Option.bind_eq_some_iff.mp H
  obtain ⟨t105, A60, H⟩ := H
  replace H : (if t105 = true then (some (decide (a0_1 ≥ a0_2))) else (some true)) = some r := H
  have A6 := am A60
  clear A60
  by_cases c7 : t105 = true
  ·subst c7
   have H1 : (some (decide (a0_1 ≥ a0_2))) = some r := by rw [if_pos rfl] at H; exact H
   clear H
   have H := H1
   clear H1
   obtain rfl := Option.some.inj H
   go_enter Try.func41, Try.ntmps41
   go_wp2_with (first | ((with_reducible refine gate_dst (N := 1) rfl ?_); refine box_event ?hg (N := 1) ?hd (cs := #[.int .i64 a0_0, .int .i64 a0_1, .int .i64 a0_2]) (t := 54) ?hr ?_; (case hd | hg => rfl); (case hr => first | (go_simp; done) | (go_simp; rfl)); intro gb102 hg w8 hbox hb; have BK102 := am hbox; have GW102 := sG HB hg; have GE102 := sG HB hg; replace HB := bS HB hb; clear hb hbox hg; obtain ⟨_, _, _, _, _, _⟩ := zC3 BK102) | ((with_reducible refine gate_callee (f := 42) rfl ?_); refine goesL_ (some 5) rfl rfl Try.func42 (by kernel_rfl) rfl #[.int .i64 a0_0, .int .i64 1, .int .i64 7] rfl (by (try simp only [pml]); first | done | rfl | (simp only [pdt]; rfl)) ?_; (with_reducible refine (shift_in.calls a0_0 1 7 true _ A2.out).mono ?_); rintro e w' ⟨rfl, ⟨nd, rfl⟩⟩; refine ⟨_, rfl, ?_⟩) | (go_at_call 42; (with_reducible refine (shift_in.calls a0_1 0 1440 true _ A4.out).mono ?_); rintro e w' ⟨rfl, ⟨nd, rfl⟩⟩) | (go_at_call 42; (with_reducible refine (shift_in.calls a0_2 0 1440 true _ A6.out).mono ?_); rintro e w' ⟨rfl, ⟨nd, rfl⟩⟩))
   go_ret
   exact ⟨sqE, fW HB.out⟩
  replace c7 := Bool.eq_false_iff.mpr c7
  subst c7
  have H1 : (some true) = some r := by rw [if_neg (show ¬ (false = true) by decide)] at H; exact H
  clear H
  have H := H1
  clear H1
  obtain rfl := Option.some.inj H
  go_enter Try.func41, Try.ntmps41
  go_wp2_with (first | ((with_reducible refine gate_dst (N := 1) rfl ?_); refine box_event ?hg (N := 1) ?hd (cs := #[.int .i64 a0_0, .int .i64 a0_1, .int .i64 a0_2]) (t := 54) ?hr ?_; (case hd | hg => rfl); (case hr => first | (go_simp; done) | (go_simp; rfl)); intro gb102 hg w10 hbox hb; have BK102 := am hbox; have GW102 := sG HB hg; have GE102 := sG HB hg; replace HB := bS HB hb; clear hb hbox hg; obtain ⟨_, _, _, _, _, _⟩ := zC3 BK102) | ((with_reducible refine gate_callee (f := 42) rfl ?_); refine goesL_ (some 5) rfl rfl Try.func42 (by kernel_rfl) rfl #[.int .i64 a0_0, .int .i64 1, .int .i64 7] rfl (by (try simp only [pml]); first | done | rfl | (simp only [pdt]; rfl)) ?_; (with_reducible refine (shift_in.calls a0_0 1 7 true _ A2.out).mono ?_); rintro e w' ⟨rfl, ⟨nd, rfl⟩⟩; refine ⟨_, rfl, ?_⟩) | (go_at_call 42; (with_reducible refine (shift_in.calls a0_1 0 1440 true _ A4.out).mono ?_); rintro e w' ⟨rfl, ⟨nd, rfl⟩⟩) | (go_at_call 42; (with_reducible refine (shift_in.calls a0_2 0 1440 false _ A6.out).mono ?_); rintro e w' ⟨rfl, ⟨nd, rfl⟩⟩))
  go_ret
  exact ⟨sqE, fW HB.out⟩
 ·replace c3 := Bool.eq_false_iff.mpr c3
  subst c3
  have H1 : (some true) = some r := by rw [if_neg (show ¬ (false = true) by decide)] at H; exact H
  clear H
  have H := H1
  clear H1
  obtain rfl := Option.some.inj H
  go_enter Try.func41, Try.ntmps41
  go_wp2_with (first | ((with_reducible refine gate_dst (N := 1) rfl ?_); refine box_event ?hg (N := 1) ?hd (cs := #[.int .i64 a0_0, .int .i64 a0_1, .int .i64 a0_2]) (t := 54) ?hr ?_; (case hd | hg => rfl); (case hr => first | (go_simp; done) | (go_simp; rfl)); intro gb102 hg w14 hbox hb; have BK102 := am hbox; have GW102 := sG HB hg; have GE102 := sG HB hg; replace HB := bS HB hb; clear hb hbox hg; obtain ⟨_, _, _, _, _, _⟩ := zC3 BK102) | ((with_reducible refine gate_callee (f := 42) rfl ?_); refine goesL_ (some 5) rfl rfl Try.func42 (by kernel_rfl) rfl #[.int .i64 a0_0, .int .i64 1, .int .i64 7] rfl (by (try simp only [pml]); first | done | rfl | (simp only [pdt]; rfl)) ?_; (with_reducible refine (shift_in.calls a0_0 1 7 false _ A2.out).mono ?_); rintro e w' ⟨rfl, ⟨nd, rfl⟩⟩; refine ⟨_, rfl, ?_⟩))
  go_ret
  exact ⟨sqE, fW HB.out⟩

def inR (n lo hi : Int) : Bool := decide (lo ≤ n) && decide (n ≤ hi)
theorem in_is (n lo hi : Int) : shift_in.f n lo hi = some (inR n lo hi) := by
 unfold shift_in.f inR
 by_cases h : lo ≤ n
 ·rw [if_pos h, decide_eq_true h, Bool.true_and]
 rw [if_neg h, decide_eq_false h, Bool.false_and]
def wrongS (x : S54) : Bool := !inR x.f0 1 7 || !inR x.f1 0 1440 || !inR x.f2 0 1440 || decide (x.f1 ≥ x.f2)
theorem wrong_is (x : S54) : shift_Check_1.f x.f0 x.f1 x.f2 = some (wrongS x) := by
 unfold shift_Check_1.f wrongS
 simp only [in_is, Option.bind_some]
 cases inR x.f0 1 7 <;> cases inR x.f1 0 1440 <;> cases inR x.f2 0 1440 <;> simp
theorem wrong_calls (x : S54) (w : World) : Calls Try.prog 41 #[.agg #[.int .i64 x.f0, .int .i64 x.f1, .int .i64 x.f2]] w fun e w' => e = .returned (.bool (wrongS x)) ∧ Below w.heap.size w w' := shift_Check_1.calls x.f0 x.f1 x.f2 _ w (wrong_is x)
theorem any_take_succ {α : Type} (p : α → Bool) (l : List α) (k : Nat) (d : α) (h : k < l.length) : (l.take (k + 1)).any p = ((l.take k).any p || p (l.getD k d)) := by
 rw [List.take_succ_eq_append_getElem h, List.any_append]
 simp [List.getD_eq_getElem?_getD, List.getElem?_eq_getElem h]
theorem any_of_at {α : Type} (p : α → Bool) (l : List α) (k : Nat) (d : α) (h : k < l.length) (hp : p (l.getD k d) = true) : l.any p = true := by
 rw [List.any_eq_true]
 exact ⟨l.getD k d, by rw [List.getD_eq_getElem?_getD, List.getElem?_eq_getElem h]; exact List.getElem_mem h, hp⟩
set_option maxHeartbeats 1000000 in
set_option maxRecDepth 100000 in
theorem index54 (A0 : Option Addr) (c0 : Nat) (l0 : List S54) (w : World) (hr0 : Kd.C k54 w A0 l0.length l0) (hc0 : l0.length ≤ c0) :
  Calls Try.prog 54 #[.slice A0 l0.length c0, .func (.func 41) #[] #[]] w fun e w' => ∃ i : Int, e = .returned (.int .i64 i) ∧ decide (i ≥ 0) = l0.any wrongS ∧ Below w.heap.size w w' := by
 have hn := hr0.2.1
 have HR := am hr0
 clear hr0
 go_enter Try.func54, Try.ntmps54
 go_wp2
 go_loopw [8] (fun i wr => ∃ k : Nat, k ≤ l0.length ∧ i = .int .i64 k ∧ Aside0 ((l0.take k).any wrongS = false) ∧ Aside0 (Below w.heap.size w wr))
  (fun i _ => l0.length - (intOf i).toNat)
 case atStart => exact ⟨0, Nat.zero_le _, rfl, ⟨rfl⟩, ⟨Below.refl _ _⟩⟩
 case round =>
  obtain ⟨k, hk, rfl, HP, HB⟩ := hrel
  by_cases hlt : k < l0.length
  rotate_left
  ·obtain rfl : k = l0.length := by omega
   rw [List.take_length] at HP
   go_wp2
   go_ret
   exact ⟨_, rfl, by rw [HP.out]; simp, HB.out⟩
  obtain ⟨ad, e, h0, h1, h2⟩ := at_T54 HR.out (k : Int) (by omega) (by omega)
  cases e
  replace h0 := cl HB h0
  replace h1 := cl HB h1
  replace h2 := cl HB h2
  rw [Int.toNat_natCast] at h0 h1 h2
  have hs := any_take_succ wrongS l0 k z54 hlt
  have ha := any_of_at wrongS l0 k z54 hlt
  have er : l0.getD k z54 = rd_T54 l0 (k : Int) := by simp [rd_T54]
  rw [er] at hs ha
  rw [HP.out, Bool.false_or] at hs
  obtain ⟨x, hx⟩ : ∃ x, x = rd_T54 l0 (k : Int) := ⟨_, rfl⟩
  rw [← hx] at h0 h1 h2 hs ha
  have HS := am hs
  have HA := am ha
  clear hs ha er hx
  cases hw : wrongS x with
  | true =>
   have HW := am hw
   clear hw
   go_wp2_with (go_at_call 41; refine (wrong_calls x _).mono ?_; rintro e w' ⟨rfl, hb⟩; rw [HW.out]; have HB2 := bS HB hb; clear hb)
   go_ret
   exact ⟨_, rfl, by rw [HA.out HW.out]; simp, HB2.out⟩
  | false =>
   have HW := am hw
   clear hw
   go_wp2_with (go_at_call 41; refine (wrong_calls x _).mono ?_; rintro e w' ⟨rfl, hb⟩; rw [HW.out]; have HB2 := bS HB hb; clear hb)
   go_roundw
   case rel => exact ⟨k + 1, by omega, by go_num, ⟨by rw [HS.out]; exact HW.out⟩, HB2⟩
   case measure => simp [intOf]; omega
def api_Shift.f (l0 : List S54) (a1 : Nat) : Option Bool := if a1 = 41 then some (l0.any wrongS) else none
set_option maxHeartbeats 1000000 in
set_option maxRecDepth 100000 in
theorem api_Shift.calls (A0 : Option Addr) (c0 : Nat) (l0 : List S54) (a1 : Nat) (r : Bool) (w : World) (hr0 : Kd.C k54 w A0 l0.length l0) (hc0 : l0.length ≤ c0) (h : api_Shift.f l0 a1 = some r) :
  Calls Try.prog 43 #[.slice A0 l0.length c0, .func (.func a1) #[] #[]] w fun e w' => e = .returned (.bool r) ∧ Below w.heap.size w w' := by
 unfold api_Shift.f at h
 split at h
 case isFalse => exact absurd h (by simp)
 case isTrue hl =>
 subst hl
 obtain rfl := Option.some.inj h
 clear h
 have hcon := fun W hW => index54 A0 c0 l0 W hW hc0
 have HR := am hr0
 clear hr0
 generalize l0.any wrongS = r at hcon ⊢
 go_enter Try.func43, Try.ntmps43
 go_wp2_with (go_at_call 54; refine (hcon _ HR.out).mono ?_; rintro e w' ⟨i, rfl, hi, hb⟩; have HI := am hi; have HB := am hb; clear hi hb)
 go_ret
 exact ⟨by rw [← HI.out]; rfl, HB.out⟩

def shift_Check_2.f (a0 : Int) : Option (Bool) := (shift_in.f a0 0 9999).bind fun t106 => (some (!t106))
set_option maxHeartbeats 8000000 in
set_option maxRecDepth 100000 in
theorem shift_Check_2.calls (a0 : Int) (r : Bool) (w : World) (h : shift_Check_2.f a0 = some r) :
  Calls Try.prog 45 #[.int .i64 a0] w fun e w' => e = .returned (.bool r) ∧ Drawn0 w w' := by
 have H : ((shift_in.f a0 0 9999).bind fun t106 => (some (!t106))) = some r := h
 clear h
 replace H := Option.bind_eq_some_iff.mp H
 obtain ⟨t106, A20, H⟩ := H
 replace H : (some (!t106)) = some r := H
 have A2 := am A20
 clear A20
 obtain rfl := Option.some.inj H
 go_enter Try.func45, Try.ntmps45
 go_wp2_with (first | ((with_reducible refine gate_callee (f := 42) rfl ?_); refine goesL_ (some 4) rfl rfl Try.func42 (by kernel_rfl) rfl #[.int .i64 a0, .int .i64 0, .int .i64 9999] rfl (by (try simp only [pml]); first | done | rfl | (simp only [pdt]; rfl)) ?_; (with_reducible refine (shift_in.calls a0 0 9999 t106 _ A2.out).mono ?_); rintro e w' ⟨rfl, ⟨nd, rfl⟩⟩; refine ⟨_, rfl, ?_⟩))
 go_ret
 exact ⟨by first | rfl | (simp; done) | (simp [*]; done), by repeat (first | exact Drawn0.refl _ | apply Drawn0.step)⟩

def shift_minutes_1.f (a0 : Int) : Option (Bool) := (shift_in.f a0 0 14400000).bind fun t107 => (some (!t107))
set_option maxHeartbeats 8000000 in
set_option maxRecDepth 100000 in
theorem shift_minutes_1.calls (a0 : Int) (r : Bool) (w : World) (h : shift_minutes_1.f a0 = some r) :
  Calls Try.prog 49 #[.int .i64 a0] w fun e w' => e = .returned (.bool r) ∧ Drawn0 w w' := by
 have H : ((shift_in.f a0 0 14400000).bind fun t107 => (some (!t107))) = some r := h
 clear h
 replace H := Option.bind_eq_some_iff.mp H
 obtain ⟨t107, A20, H⟩ := H
 replace H : (some (!t107)) = some r := H
 have A2 := am A20
 clear A20
 obtain rfl := Option.some.inj H
 go_enter Try.func49, Try.ntmps49
 go_wp2_with (first | ((with_reducible refine gate_callee (f := 42) rfl ?_); refine goesL_ (some 4) rfl rfl Try.func42 (by kernel_rfl) rfl #[.int .i64 a0, .int .i64 0, .int .i64 14400000] rfl (by (try simp only [pml]); first | done | rfl | (simp only [pdt]; rfl)) ?_; (with_reducible refine (shift_in.calls a0 0 14400000 t107 _ A2.out).mono ?_); rintro e w' ⟨rfl, ⟨nd, rfl⟩⟩; refine ⟨_, rfl, ?_⟩))
 go_ret
 exact ⟨by first | rfl | (simp; done) | (simp [*]; done), by repeat (first | exact Drawn0.refl _ | apply Drawn0.step)⟩

def offDay (d : Int) : Bool := !inR d 0 9999
def offMin (d : Int) : Bool := !inR d 0 14400000
theorem offDay_is (d : Int) : shift_Check_2.f d = some (offDay d) := by unfold shift_Check_2.f offDay; simp only [in_is, Option.bind_some]
theorem offMin_is (d : Int) : shift_minutes_1.f d = some (offMin d) := by unfold shift_minutes_1.f offMin; simp only [in_is, Option.bind_some]
theorem offDay_calls (d : Int) (w : World) : Calls Try.prog 45 #[.int .i64 d] w fun e w' => e = .returned (.bool (offDay d)) ∧ Drawn0 w w' := shift_Check_2.calls d _ w (offDay_is d)
theorem offMin_calls (d : Int) (w : World) : Calls Try.prog 49 #[.int .i64 d] w fun e w' => e = .returned (.bool (offMin d)) ∧ Drawn0 w w' := shift_minutes_1.calls d _ w (offMin_is d)
def offOf (a1 : Nat) : Int → Bool := if a1 = 45 then offDay else offMin
set_option maxHeartbeats 1000000 in
set_option maxRecDepth 100000 in
theorem index55 (a1 : Nat) (ha1 : a1 = 45 ∨ a1 = 49) (A0 : Option Addr) (c0 : Nat) (l0 : List Int) (w : World) (hr0 : Kd.C (Kd.int .i64) w A0 l0.length l0) (hc0 : l0.length ≤ c0) :
  Calls Try.prog 55 #[.slice A0 l0.length c0, .func (.func a1) #[] #[]] w fun e w' => ∃ i : Int, e = .returned (.int .i64 i) ∧ decide (i ≥ 0) = l0.any (offOf a1) ∧ Below w.heap.size w w' := by
 have hn := hr0.2.1
 have HR := am hr0
 clear hr0
 rcases ha1 with rfl | rfl
 ·rw [show offOf 45 = offDay from rfl]
  go_enter Try.func55, Try.ntmps55
  go_wp2
  go_loopw [8] (fun i wr => ∃ k : Nat, k ≤ l0.length ∧ i = .int .i64 k ∧ Aside0 ((l0.take k).any offDay = false) ∧ Aside0 (Below w.heap.size w wr))
   (fun i _ => l0.length - (intOf i).toNat)
  case atStart => exact ⟨0, Nat.zero_le _, rfl, ⟨rfl⟩, ⟨Below.refl _ _⟩⟩
  case round =>
   obtain ⟨k, hk, rfl, HP, HB⟩ := hrel
   by_cases hlt : k < l0.length
   rotate_left
   ·obtain rfl : k = l0.length := by omega
    rw [List.take_length] at HP
    go_wp2
    go_ret
    exact ⟨_, rfl, by rw [HP.out]; simp, HB.out⟩
   obtain ⟨ad, e, h0⟩ := Kd.at_int HR.out (k : Int) (by omega) (by omega)
   cases e
   replace h0 := cl HB h0
   rw [Int.toNat_natCast] at h0
   have hs := any_take_succ offDay l0 k 0 hlt
   have ha := any_of_at offDay l0 k 0 hlt
   have er : l0.getD k 0 = rd l0 (k : Int) := by simp [rd]
   rw [er] at hs ha
   rw [HP.out, Bool.false_or] at hs
   obtain ⟨x, hx⟩ : ∃ x, x = rd l0 (k : Int) := ⟨_, rfl⟩
   rw [← hx] at h0 hs ha
   have HS := am hs
   have HA := am ha
   clear hs ha er hx
   cases hw : offDay x with
   | true =>
    have HW := am hw
    clear hw
    go_wp2_with (go_at_call 45; refine (offDay_calls x _).mono ?_; rintro e w' ⟨rfl, hb⟩; rw [HW.out]; have HB2 := am (below_step (fW HB.out) hb.below); clear hb)
    go_ret
    exact ⟨_, rfl, by rw [HA.out HW.out]; simp, HB2.out⟩
   | false =>
    have HW := am hw
    clear hw
    go_wp2_with (go_at_call 45; refine (offDay_calls x _).mono ?_; rintro e w' ⟨rfl, hb⟩; rw [HW.out]; have HB2 := am (below_step (fW HB.out) hb.below); clear hb)
    go_roundw
    case rel => exact ⟨k + 1, by omega, by go_num, ⟨by rw [HS.out]; exact HW.out⟩, HB2⟩
    case measure => simp [intOf]; omega
 rw [show offOf 49 = offMin from rfl]
 go_enter Try.func55, Try.ntmps55
 go_wp2
 go_loopw [8] (fun i wr => ∃ k : Nat, k ≤ l0.length ∧ i = .int .i64 k ∧ Aside0 ((l0.take k).any offMin = false) ∧ Aside0 (Below w.heap.size w wr))
  (fun i _ => l0.length - (intOf i).toNat)
 case atStart => exact ⟨0, Nat.zero_le _, rfl, ⟨rfl⟩, ⟨Below.refl _ _⟩⟩
 case round =>
  obtain ⟨k, hk, rfl, HP, HB⟩ := hrel
  by_cases hlt : k < l0.length
  rotate_left
  ·obtain rfl : k = l0.length := by omega
   rw [List.take_length] at HP
   go_wp2
   go_ret
   exact ⟨_, rfl, by rw [HP.out]; simp, HB.out⟩
  obtain ⟨ad, e, h0⟩ := Kd.at_int HR.out (k : Int) (by omega) (by omega)
  cases e
  replace h0 := cl HB h0
  rw [Int.toNat_natCast] at h0
  have hs := any_take_succ offMin l0 k 0 hlt
  have ha := any_of_at offMin l0 k 0 hlt
  have er : l0.getD k 0 = rd l0 (k : Int) := by simp [rd]
  rw [er] at hs ha
  rw [HP.out, Bool.false_or] at hs
  obtain ⟨x, hx⟩ : ∃ x, x = rd l0 (k : Int) := ⟨_, rfl⟩
  rw [← hx] at h0 hs ha
  have HS := am hs
  have HA := am ha
  clear hs ha er hx
  cases hw : offMin x with
  | true =>
   have HW := am hw
   clear hw
   go_wp2_with (go_at_call 49; refine (offMin_calls x _).mono ?_; rintro e w' ⟨rfl, hb⟩; rw [HW.out]; have HB2 := am (below_step (fW HB.out) hb.below); clear hb)
   go_ret
   exact ⟨_, rfl, by rw [HA.out HW.out]; simp, HB2.out⟩
  | false =>
   have HW := am hw
   clear hw
   go_wp2_with (go_at_call 49; refine (offMin_calls x _).mono ?_; rintro e w' ⟨rfl, hb⟩; rw [HW.out]; have HB2 := am (below_step (fW HB.out) hb.below); clear hb)
   go_roundw
   case rel => exact ⟨k + 1, by omega, by go_num, ⟨by rw [HS.out]; exact HW.out⟩, HB2⟩
   case measure => simp [intOf]; omega
def slices_ContainsFunc_int_int.f (l0 : List Int) (a1 : Nat) : Option Bool := if a1 = 45 ∨ a1 = 49 then some (l0.any (offOf a1)) else none
set_option maxHeartbeats 1000000 in
set_option maxRecDepth 100000 in
theorem slices_ContainsFunc_int_int.calls (A0 : Option Addr) (c0 : Nat) (l0 : List Int) (a1 : Nat) (r : Bool) (w : World) (hr0 : Kd.C (Kd.int .i64) w A0 l0.length l0) (hc0 : l0.length ≤ c0) (h : slices_ContainsFunc_int_int.f l0 a1 = some r) :
  Calls Try.prog 44 #[.slice A0 l0.length c0, .func (.func a1) #[] #[]] w fun e w' => e = .returned (.bool r) ∧ Below w.heap.size w w' := by
 unfold slices_ContainsFunc_int_int.f at h
 split at h
 case isFalse => exact absurd h (by simp)
 case isTrue hl =>
 obtain rfl := Option.some.inj h
 clear h
 have hcon := fun W hW => index55 a1 hl A0 c0 l0 W hW hc0
 have HR := am hr0
 clear hr0
 generalize l0.any (offOf a1) = r at hcon ⊢
 go_enter Try.func44, Try.ntmps44
 go_wp2_with (go_at_call 55; refine (hcon _ HR.out).mono ?_; rintro e w' ⟨i, rfl, hi, hb⟩; have HI := am hi; have HB := am hb; clear hi hb)
 go_ret
 exact ⟨by rw [← HI.out]; rfl, HB.out⟩

end Go.Proofs.Ytpjgmlnnhcnelaa.QA
