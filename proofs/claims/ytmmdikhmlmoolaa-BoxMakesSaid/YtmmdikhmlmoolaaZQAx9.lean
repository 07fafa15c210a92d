import Derived.Test.YtmmdikhmlmoolaaZQAx0
import Derived.Test.YtmmdikhmlmoolaaZEvKit
import Derived.Test.YtmmdikhmlmoolaaLay
import Derived.Test.YtmmdikhmlmoolaaZSortRow
import Derived.Deep.RegionHeld3
import Derived.Shelf.SlSortCmp.NoneTotal
import Derived.WalkSpells
namespace Go.Proofs.Ytmmdikhmlmoolaa.QA
open Go.RowKit Go.Proofs.YtmmdikhmlmoolaaW.PrintWords Go.Proofs.YtmmdikhmlmoolaaW.PrintLast Go.Proofs.YtmmdikhmlmoolaaW.PrintMore
open Go.Proofs.YtmmdikhmlmoolaaW.PrintWords renaming gate_callee → gc
open Aside0 renaming mk → am
attribute [local go_sem] max2_int min2_int max_two min_two max_three min_three max_four min_four
set_option linter.unusedVariables false
set_option linter.unusedSimpArgs false

def api_Box_70.f (l0 : List S25) : Option (List S25) := if l0.length < 1099511627776 then some l0 else none

set_option maxHeartbeats 1000000 in
set_option maxRecDepth 100000 in
theorem api_Box_70.calls (A0 : Option Addr) (c0 : Nat) (l0 : List S25) (r : List S25) (w : World) (hr0 : Kd.C k25 w A0 l0.length l0) (hc0 : l0.length ≤ c0) (h : api_Box_70.f l0 = some r) :
  Calls Try.prog 70 #[.slice A0 l0.length c0] w fun e w' => ∃ v0_ : Value, e = .returned v0_ ∧ Kd.R k25 25 w' w.heap.size (fun _ => True) v0_ r ∧ Below w.heap.size w w' := by
 unfold api_Box_70.f at h
 split at h
 case isFalse => exact absurd h (by simp)
 case isTrue hl =>
 obtain rfl := Option.some.inj h
 clear h
 have HL := am hl
 clear hl
 have HR := am hr0
 clear hr0
 rcases A0 with _ | ad
 ·have h0 : l0 = [] := by
   rcases Nat.eq_zero_or_pos l0.length with h | h
   ·exact List.eq_nil_of_length_eq_zero h
   obtain ⟨ad, e, _⟩ := HR.out.2.2 h
   cases e
  subst h0
  have hq := fun W => Lib.run_eql_slice_nil (P := Try.prog) W 26 25 none 0 c0 0 0 Try.underlying26
  go_enter Try.func70, Try.ntmps70
  go_wp2
  go_ret
  exact ⟨_, rfl, Kd.R_nil _ _ _ _ _, Below.refl _ _⟩
 ·have hq := fun W => Lib.run_eql_slice_nil (P := Try.prog) W 26 25 (some ad) l0.length c0 0 0 Try.underlying26
  go_enter Try.func70, Try.ntmps70
  go_wp2_with (first | ((with_reducible refine gate_dst (N := 5) rfl ?_); refine Kd.R_lit k25 _ 25 ?hg (N := 5) ?hd (xs := ([] : List (S25))) (inner := []) (ok := fun _ => True) (okp := fun _ => True) ?hr ?hp (fun _ hk => hk) trivial (Below.refl _ _) (Nat.le_refl _) (by simp) ?_; (case hd | hg => rfl); (case hr => first | (go_simp; done) | (go_simp; rfl)); (case hp => exact (Reps.none _ _)); intro v1 w1 ho9 hb hg_ hnew_; clear hg_ hnew_; have HO := am ho9; have HB := am hb; clear ho9 hb) | ((with_reducible refine gate_builtin (b := .append) (xs := #[.tmp 5, .tmp 6]) rfl ?_); at_builtin; refine Kd.R_append_rows k25 (w0 := w) w.heap.size rfl (.tmp 5) (.tmp 6) 26 25 (.agg #[(.int .i64 0), (.int .i64 0), (.int .i64 0), (.int .i64 0), (.int .i64 0), (.int .i64 0)]) 48 rfl Try.underlying26 info25 rfl (by decide) (by omega) _ [] l0 _ _ _ (fun _ => True) (fun _ => False) rfl rfl ?aO ?aR (fun _ _ h => h) (fun _ h => h.elim) ?aF ?aB ?aS ?aL ?_; (case aR => exact Kd.C_below HR.out HB.out); (case aB => exact HB.out); (case aF => exact (fun _ _ => trivial)); (case aO => exact HO.out); (case aS => exact below_size HB.out); (case aL => have := HL.out; simp; omega); intro v2 w2 ho hb hg hat; have HO2 := am ho; have HB2 := am hb; clear ho hb hg hat))
  go_ret
  exact ⟨_, rfl, HO2.out, HB2.out⟩

def cmp_isNaN_int.f (a0 : Int) : Option (Bool) := some (a0 != a0)
set_option maxHeartbeats 8000000 in
set_option maxRecDepth 100000 in
theorem cmp_isNaN_int.calls (a0 : Int) (r : Bool) (w : World) (h : cmp_isNaN_int.f a0 = some r) :
  Calls Try.prog 77 #[.int .i64 a0] w fun e w' => e = .returned (.bool r) ∧ Drawn0 w w' := by
 have H : (some (a0 != a0)) = some r := h
 clear h
 obtain rfl := Option.some.inj H
 go_enter Try.func77, Try.ntmps77
 go_wp2
 go_ret
 exact ⟨by first | rfl | (simp; done) | (simp [*]; done), by repeat (first | exact Drawn0.refl _ | apply Drawn0.step)⟩

def cmp_Compare_int.f (a0 : Int) (a1 : Int) : Option (Int) := (cmp_isNaN_int.f a0).bind fun t271 => ((cmp_isNaN_int.f a1).bind fun t272 => (if t271 = true then (if t272 = true then (some 0) else (some (-1))) else (if t272 = true then (some 1) else (if a0 < a1 then (some (-1)) else (if a0 > a1 then (some 1) else (some 0))))))
set_option maxHeartbeats 8000000 in
set_option maxRecDepth 100000 in
theorem cmp_Compare_int.calls (a0 : Int) (a1 : Int) (r : Int) (w : World) (h : cmp_Compare_int.f a0 a1 = some r) :
  Calls Try.prog 73 #[.int .i64 a0, .int .i64 a1] w fun e w' => e = .returned (.int .i64 r) ∧ Drawn0 w w' := by
 have H : ((cmp_isNaN_int.f a0).bind fun t271 => ((cmp_isNaN_int.f a1).bind fun t272 => (if t271 = true then (if t272 = true then (some 0) else (some (-1))) else (if t272 = true then (some 1) else (if a0 < a1 then (some (-1)) else (if a0 > a1 then (some 1) else (some 0))))))) = some r := h
 clear h
 replace H := Option.bind_eq_some_iff.mp H
 obtain ⟨t271, A30, H⟩ := H
 replace H : ((cmp_isNaN_int.f a1).bind fun t272 => (if t271 = true then (if t272 = true then (some 0) else (some (-1))) else (if t272 = true then (some 1) else (if a0 < a1 then (some (-1)) else (if a0 > a1 then (some 1) else (some 0)))))) = some r := H
 have A3 := am A30
 clear A30
 replace H := Option.bind_eq_some_iff.mp H
 obtain ⟨t272, A40, H⟩ := H
 replace H : (if t271 = true then (if t272 = true then (some 0) else (some (-1))) else (if t272 = true then (some 1) else (if a0 < a1 then (some (-1)) else (if a0 > a1 then (some 1) else (some 0))))) = some r := H
 have A4 := am A40
 clear A40
 by_cases c5 : t271 = true
 ·subst c5
  have H1 : (if t272 = true then (some 0) else (some (-1))) = some r := by rw [if_pos rfl] at H; exact H
  clear H
  have H := H1
  clear H1
  by_cases c6 : t272 = true
  ·subst c6
   have H1 : (some 0) = some r := by rw [if_pos rfl] at H; exact H
   clear H
   have H := H1
   clear H1
   obtain rfl := Option.some.inj H
   go_enter Try.func73, Try.ntmps73
   go_wp2_with (first | ((with_reducible refine gc (f := 77) rfl ?_); refine goesL_ (some 8) rfl rfl Try.func77 (by kernel_rfl) rfl #[.int .i64 a0] rfl (by (try simp only [pml]); first | done | rfl | (simp only [pdt]; rfl)) ?_; (with_reducible refine (cmp_isNaN_int.calls a0 true _ A3.out).mono ?_); rintro e w' ⟨rfl, ⟨nd, rfl⟩⟩; refine ⟨_, rfl, ?_⟩) | ((with_reducible refine gc (f := 77) rfl ?_); refine goesL_ (some 10) rfl rfl Try.func77 (by kernel_rfl) rfl #[.int .i64 a1] rfl (by (try simp only [pml]); first | done | rfl | (simp only [pdt]; rfl)) ?_; (with_reducible refine (cmp_isNaN_int.calls a1 true _ A4.out).mono ?_); rintro e w' ⟨rfl, ⟨nd, rfl⟩⟩; refine ⟨_, rfl, ?_⟩))
   go_ret
   exact ⟨by first | rfl | (simp; done) | (simp [*]; done), by repeat (first | exact Drawn0.refl _ | apply Drawn0.step)⟩
  replace c6 := Bool.eq_false_iff.mpr c6
  subst c6
  have H1 : (some (-1)) = some r := by rw [if_neg (show ¬ (false = true) by decide)] at H; exact H
  clear H
  have H := H1
  clear H1
  obtain rfl := Option.some.inj H
  go_enter Try.func73, Try.ntmps73
  go_wp2_with (first | ((with_reducible refine gc (f := 77) rfl ?_); refine goesL_ (some 8) rfl rfl Try.func77 (by kernel_rfl) rfl #[.int .i64 a0] rfl (by (try simp only [pml]); first | done | rfl | (simp only [pdt]; rfl)) ?_; (with_reducible refine (cmp_isNaN_int.calls a0 true _ A3.out).mono ?_); rintro e w' ⟨rfl, ⟨nd, rfl⟩⟩; refine ⟨_, rfl, ?_⟩) | ((with_reducible refine gc (f := 77) rfl ?_); refine goesL_ (some 10) rfl rfl Try.func77 (by kernel_rfl) rfl #[.int .i64 a1] rfl (by (try simp only [pml]); first | done | rfl | (simp only [pdt]; rfl)) ?_; (with_reducible refine (cmp_isNaN_int.calls a1 false _ A4.out).mono ?_); rintro e w' ⟨rfl, ⟨nd, rfl⟩⟩; refine ⟨_, rfl, ?_⟩))
  go_ret
  exact ⟨by first | rfl | (simp; done) | (simp [*]; done), by repeat (first | exact Drawn0.refl _ | apply Drawn0.step)⟩
 ·replace c5 := Bool.eq_false_iff.mpr c5
  subst c5
  have H1 : (if t272 = true then (some 1) else (if a0 < a1 then (some (-1)) else (if a0 > a1 then (some 1) else (some 0)))) = some r := by rw [if_neg (show ¬ (false = true) by decide)] at H; exact H
  clear H
  have H := H1
  clear H1
  by_cases c7 : t272 = true
  ·subst c7
   have H1 : (some 1) = some r := by rw [if_pos rfl] at H; exact H
   clear H
   have H := H1
   clear H1
   obtain rfl := Option.some.inj H
   go_enter Try.func73, Try.ntmps73
   go_wp2_with (first | ((with_reducible refine gc (f := 77) rfl ?_); refine goesL_ (some 8) rfl rfl Try.func77 (by kernel_rfl) rfl #[.int .i64 a0] rfl (by (try simp only [pml]); first | done | rfl | (simp only [pdt]; rfl)) ?_; (with_reducible refine (cmp_isNaN_int.calls a0 false _ A3.out).mono ?_); rintro e w' ⟨rfl, ⟨nd, rfl⟩⟩; refine ⟨_, rfl, ?_⟩) | ((with_reducible refine gc (f := 77) rfl ?_); refine goesL_ (some 10) rfl rfl Try.func77 (by kernel_rfl) rfl #[.int .i64 a1] rfl (by (try simp only [pml]); first | done | rfl | (simp only [pdt]; rfl)) ?_; (with_reducible refine (cmp_isNaN_int.calls a1 true _ A4.out).mono ?_); rintro e w' ⟨rfl, ⟨nd, rfl⟩⟩; refine ⟨_, rfl, ?_⟩))
   go_ret
   exact ⟨by first | rfl | (simp; done) | (simp [*]; done), by repeat (first | exact Drawn0.refl _ | apply Drawn0.step)⟩
  ·replace c7 := Bool.eq_false_iff.mpr c7
   subst c7
   have H1 : (if a0 < a1 then (some (-1)) else (if a0 > a1 then (some 1) else (some 0))) = some r := by rw [if_neg (show ¬ (false = true) by decide)] at H; exact H
   clear H
   have H := H1
   clear H1
   by_cases c8 : a0 < a1
   ·rw [if_pos c8] at H
    have c8b0 : decide (a0 < a1) = true := decide_eq_true c8
    clear c8
    obtain rfl := Option.some.inj H
    go_enter Try.func73, Try.ntmps73
    go_wp2_with (first | ((with_reducible refine gc (f := 77) rfl ?_); refine goesL_ (some 8) rfl rfl Try.func77 (by kernel_rfl) rfl #[.int .i64 a0] rfl (by (try simp only [pml]); first | done | rfl | (simp only [pdt]; rfl)) ?_; (with_reducible refine (cmp_isNaN_int.calls a0 false _ A3.out).mono ?_); rintro e w' ⟨rfl, ⟨nd, rfl⟩⟩; refine ⟨_, rfl, ?_⟩) | ((with_reducible refine gc (f := 77) rfl ?_); refine goesL_ (some 10) rfl rfl Try.func77 (by kernel_rfl) rfl #[.int .i64 a1] rfl (by (try simp only [pml]); first | done | rfl | (simp only [pdt]; rfl)) ?_; (with_reducible refine (cmp_isNaN_int.calls a1 false _ A4.out).mono ?_); rintro e w' ⟨rfl, ⟨nd, rfl⟩⟩; refine ⟨_, rfl, ?_⟩))
    go_ret
    exact ⟨by first | rfl | (simp; done) | (simp [*]; done), by repeat (first | exact Drawn0.refl _ | apply Drawn0.step)⟩
   ·rw [if_neg c8] at H
    have c8b0 : decide (a0 < a1) = false := decide_eq_false c8
    clear c8
    by_cases c9 : a0 > a1
    ·rw [if_pos c9] at H
     have c9b0 : decide (a1 < a0) = true := decide_eq_true c9
     clear c9
     obtain rfl := Option.some.inj H
     go_enter Try.func73, Try.ntmps73
     go_wp2_with (first | ((with_reducible refine gc (f := 77) rfl ?_); refine goesL_ (some 8) rfl rfl Try.func77 (by kernel_rfl) rfl #[.int .i64 a0] rfl (by (try simp only [pml]); first | done | rfl | (simp only [pdt]; rfl)) ?_; (with_reducible refine (cmp_isNaN_int.calls a0 false _ A3.out).mono ?_); rintro e w' ⟨rfl, ⟨nd, rfl⟩⟩; refine ⟨_, rfl, ?_⟩) | ((with_reducible refine gc (f := 77) rfl ?_); refine goesL_ (some 10) rfl rfl Try.func77 (by kernel_rfl) rfl #[.int .i64 a1] rfl (by (try simp only [pml]); first | done | rfl | (simp only [pdt]; rfl)) ?_; (with_reducible refine (cmp_isNaN_int.calls a1 false _ A4.out).mono ?_); rintro e w' ⟨rfl, ⟨nd, rfl⟩⟩; refine ⟨_, rfl, ?_⟩))
     go_ret
     exact ⟨by first | rfl | (simp; done) | (simp [*]; done), by repeat (first | exact Drawn0.refl _ | apply Drawn0.step)⟩
    ·rw [if_neg c9] at H
     have c9b0 : decide (a1 < a0) = false := decide_eq_false c9
     clear c9
     obtain rfl := Option.some.inj H
     go_enter Try.func73, Try.ntmps73
     go_wp2_with (first | ((with_reducible refine gc (f := 77) rfl ?_); refine goesL_ (some 8) rfl rfl Try.func77 (by kernel_rfl) rfl #[.int .i64 a0] rfl (by (try simp only [pml]); first | done | rfl | (simp only [pdt]; rfl)) ?_; (with_reducible refine (cmp_isNaN_int.calls a0 false _ A3.out).mono ?_); rintro e w' ⟨rfl, ⟨nd, rfl⟩⟩; refine ⟨_, rfl, ?_⟩) | ((with_reducible refine gc (f := 77) rfl ?_); refine goesL_ (some 10) rfl rfl Try.func77 (by kernel_rfl) rfl #[.int .i64 a1] rfl (by (try simp only [pml]); first | done | rfl | (simp only [pdt]; rfl)) ?_; (with_reducible refine (cmp_isNaN_int.calls a1 false _ A4.out).mono ?_); rintro e w' ⟨rfl, ⟨nd, rfl⟩⟩; refine ⟨_, rfl, ?_⟩))
     go_ret
     exact ⟨by first | rfl | (simp; done) | (simp [*]; done), by repeat (first | exact Drawn0.refl _ | apply Drawn0.step)⟩

instance instInhabitedS25 : Inhabited S25 := ⟨z25⟩
def enc25 (x : S25) : List Value := [.int .i64 x.f0.f0, .int .i64 x.f0.f1, .int .i64 x.f0.f2, .int .i64 x.f1.f0, .int .i64 x.f1.f1, .int .i64 x.f1.f2]
theorem flat25 : SortRow.Flat k25 enc25 := ⟨fun _ _ _ _ _ h => k25_openM h, fun _ _ _ x => k25_mkM _ _ _ x, fun _ => rfl⟩
def cmpLo (a b : Int) : Int := if a < b then -1 else if a > b then 1 else 0
theorem cmpLo_f (a b : Int) : cmp_Compare_int.f a b = some (cmpLo a b) := by
 unfold cmp_Compare_int.f cmp_isNaN_int.f cmpLo
 simp only [Option.bind_some, bne_self_eq_false, Bool.false_eq_true, if_false]
 split
 ·rfl
 split <;> rfl
theorem grow_on {W W1 : World} (h : ∃ q os', W1 = Go.Sort.grow (W.drewN q) os') (n m : Nat) (o : Obj) : ∃ q os', (((W1.drewN n).alloc o).drewN m) = Go.Sort.grow (W.drewN q) os' := by
 obtain ⟨q, os', rfl⟩ := h
 refine ⟨q + (n + m), os' ++ #[o], ?_⟩
 rw [Go.Sort.alloc_eq_grow]
 have e : ∀ (X : World) (os : Array Obj) (k : Nat), (Go.Sort.grow X os).drewN k = Go.Sort.grow (X.drewN k) os := fun _ _ _ => rfl
 have e2 : ∀ (X : World) (a b : Nat), (X.drewN a).drewN b = X.drewN (a + b) := fun X a b => by unfold World.drewN; simp [Nat.add_assoc]
 rw [e, e, e, Go.Sort.grow_grow, e2, e2]
def cmpB (x y : S25) : Int := cmpLo x.f0.f0 y.f0.f0
set_option maxHeartbeats 1000000 in
set_option maxRecDepth 100000 in
theorem before72 (x y : S25) (W : World) : Calls Try.prog 72 #[.agg #[.int .i64 x.f0.f0, .int .i64 x.f0.f1, .int .i64 x.f0.f2, .int .i64 x.f1.f0, .int .i64 x.f1.f1, .int .i64 x.f1.f2], .agg #[.int .i64 y.f0.f0, .int .i64 y.f0.f1, .int .i64 y.f0.f2, .int .i64 y.f1.f0, .int .i64 y.f1.f1, .int .i64 y.f1.f2]] W fun e w' => e = .returned (.int .i64 (cmpB x y)) ∧ ∃ q os', w' = Go.Sort.grow (W.drewN q) os' := by
 have hcon := fun a b W' => cmp_Compare_int.calls a b _ W' (cmpLo_f a b)
 have HCON := am hcon
 clear hcon
 have hu25 := Try.underlying25
 have hu23 := Try.underlying23
 have hres : cmpB x y = cmpLo x.f0.f0 y.f0.f0 := rfl
 have HRES := am hres
 clear hres
 obtain ⟨⟨x0, x1, x2⟩, ⟨x3, x4, x5⟩⟩ := x
 obtain ⟨⟨y0, y1, y2⟩, ⟨y3, y4, y5⟩⟩ := y
 dsimp only at HRES ⊢
 go_enter Try.func72, Try.ntmps72
 go_wp2_with (go_at_call 73; refine (HCON.out _ _ _).mono ?_; rintro e w' ⟨rfl, ⟨nd, rfl⟩⟩)
 go_ret
 refine ⟨by rw [HRES.out]; rfl, ?_⟩
 have h0 : ∃ q os', W = Go.Sort.grow (W.drewN q) os' := ⟨0, #[], by rw [Go.Sort.grow_empty]; rfl⟩
 exact grow_on (grow_on h0 0 0 _) 0 nd _
def ltB (x y : S25) : Bool := decide (x.f0.f0 < y.f0.f0)
theorem ltB_of : Go.Proofs.ltOf cmpB = ltB := by
 funext x y
 unfold Go.Proofs.ltOf ltB cmpB cmpLo
 by_cases h1 : x.f0.f0 < y.f0.f0
 ·simp [h1]
 by_cases h2 : x.f0.f0 > y.f0.f0
 ·simp [h1, h2]
 simp [h1, h2]
theorem ltB_is (x y : S25) : ltB x y = true ↔ x.f0.f0 < y.f0.f0 := by simp [ltB]
theorem swoB : Go.Sort.SWO ltB where
 irrefl x := by simp [ltB]
 trans x y z h1 h2 := by rw [ltB_is] at *; omega
 ntrans x y z h1 h2 := by
  rw [← Bool.not_eq_true, ltB_is] at *
  omega
theorem cmpLays72 (blk off size : Nat) (w : World) : Go.Proofs.CmpLays Try.prog 72 #[] enc25 6 cmpB blk off size w :=
 fun _ _ _ _ x y => before72 x y _
def api_Box_71.f (l0 : List S25) (a1 : Nat) : Option (List S25) := if a1 = 72 ∧ l0.length < 1099511627776 then some (Go.Proofs.Ytmmdikhmlmoolaa.SortRow.sortL ltB l0) else none
set_option maxHeartbeats 1000000 in
set_option maxRecDepth 100000 in
theorem api_Box_71.calls (P0_ : Nat → Prop) (u9000_ : Value) (l0 : List S25) (a1 : Nat) (r : List S25) (w0 w : World) (hB : Below w0.heap.size w0 w) (ho0 : Kd.R k25 25 w w0.heap.size P0_ u9000_ l0) (h : api_Box_71.f l0 a1 = some r) :
  Calls Try.prog 71 #[u9000_, .func (.func a1) #[] #[]] w fun e w' => e = .returned (.tuple #[]) ∧ Kd.R k25 25 w' w0.heap.size (fun k_ => (P0_ k_ ∨ w.heap.size ≤ k_)) u9000_ r ∧ Below w0.heap.size w0 w' ∧ Kept w w' (fun k_ => P0_ k_) := by
 unfold api_Box_71.f at h
 split at h
 case isFalse => exact absurd h (by simp)
 case isTrue hl =>
 obtain ⟨rfl, hl⟩ := hl
 obtain rfl := Option.some.inj h
 clear h
 rcases List.eq_nil_or_concat l0 with rfl | ⟨l', x', hx⟩
 ·obtain ⟨A1, c1, rfl⟩ := Kd.R_slice ho0
  have hcon := Go.Proofs.AnyF.slices_SortFunc_none (P := Try.prog) { Lay.sortF with } A1 c1 (.func (.func 72) #[] #[]) w
  refine Calls.mono hcon ?_
  rintro e w' ⟨rfl, rfl⟩
  have e0 : Go.Proofs.Ytmmdikhmlmoolaa.SortRow.sortL ltB ([] : List S25) = [] := List.eq_nil_of_length_eq_zero (Go.Proofs.Ytmmdikhmlmoolaa.SortRow.sortL_length ltB swoB [])
  rw [e0]
  exact ⟨rfl, Kd.R_mono ho0 (fun _ hk => .inl hk), hB, Kept.refl _ _⟩
 ·have hne : l0 ≠ [] := by rw [hx]; simp
  obtain ⟨g, cap, rfl, hH, hg, hbg, hP⟩ := Go.Proofs.Ytmmdikhmlmoolaa.SortRow.holds_of_R flat25 ho0 hne
  have eg : ∀ args w, (callFunc 72 args).run Try.prog w = .ok (.enter 72 args) w := enters_of Try.func72 (by kernel_rfl) rfl
  have hcon := Go.Proofs.AnyQ.slices_SortFunc_eq Lay.sortF 6 Try.isAgg25 Try.sizeOf25 enc25 (fun _ => rfl) (fun x v hv => by simp [enc25] at hv; rcases hv with rfl | rfl | rfl | rfl | rfl | rfl <;> rfl) cmpB (by rw [ltB_of]; exact swoB) 72 #[] g 0 cap l0.toArray w eg (cmpLays72 g 0 _ w) hH hg (by simp; omega)
  refine Calls.mono hcon ?_
  rintro e w' ⟨rfl, n, os, rfl⟩
  rw [ltB_of]
  have hlen : (Go.Proofs.Ytmmdikhmlmoolaa.SortRow.sortL ltB l0).length = l0.length := Go.Proofs.Ytmmdikhmlmoolaa.SortRow.sortL_length ltB swoB l0
  have hR := Go.Proofs.Ytmmdikhmlmoolaa.SortRow.R_of_sorted flat25 (by decide) ho0 (by simp) hlen hne n os
  refine ⟨rfl, Kd.R_mono (show Kd.R k25 25 _ w0.heap.size P0_ _ _ from ?_) (fun _ hk => .inl hk), Go.Proofs.Ytmmdikhmlmoolaa.SortRow.below_sorted (d := k25) hB g n _ os hbg, Go.Proofs.Ytmmdikhmlmoolaa.SortRow.kept_sorted (d := k25) w g n _ os _ hP⟩
  have e : (Go.Proofs.Ytmmdikhmlmoolaa.SortRow.sortL ltB l0).toArray = Go.Sort.pdq ltB l0.toArray 0 l0.toArray.size (Lib.bitLen l0.toArray.size) true true := by simp [Go.Proofs.Ytmmdikhmlmoolaa.SortRow.sortL]
  rw [e] at hR
  exact hR

def box_covered.l0 : Nat → Int → Int → List (S25) → Int → Int → Option (Int)
 | 0, _, _, _, _, _ => none
 | k + 1, x4, x5, x12, x13, x14 => if x14 < x13 then (if 0 ≤ x14 then (if x14 < (x12.length : Int) then (box_covered.l0 k (wrap64 (x4 + (mx 0 (wrap64 (((rd_T25 x12 x14).f1.f0) - (mx x5 ((rd_T25 x12 x14).f0.f0))))))) (mx x5 ((rd_T25 x12 x14).f1.f0)) x12 x13 (wrap64 (x14 + 1))) else (none)) else (none)) else (some x4)
def box_covered.f (k : Nat) (l0 : List (S25)) : Option (Int) := (api_Box_70.f l0).bind fun t273 => ((api_Box_71.f t273 72).bind fun t276 => (box_covered.l0 k 0 (-1000001) t276 (t273.length : Int) 0))
set_option maxHeartbeats 8000000 in
set_option maxRecDepth 100000 in
theorem box_covered.calls (k : Nat) (A0 : Option Addr) (c0 : Nat) (l0 : List (S25)) (r : Int) (w : World) (hr0 : Kd.C k25 w A0 l0.length l0) (hc0 : l0.length ≤ c0) (h : box_covered.f k l0 = some r) :
  Calls Try.prog 64 #[.slice A0 l0.length c0] w fun e w' => e = .returned (.int .i64 r) ∧ Below w.heap.size w w' := by
 have hu25 := Try.underlying25
 have HR0 := am hr0
 have HC0 := am hc0
 clear hr0 hc0
 have HB := am (Below.refl w.heap.size w)
 have H : ((api_Box_70.f l0).bind fun t273 => ((api_Box_71.f t273 72).bind fun t276 => (box_covered.l0 k 0 (-1000001) t276 (t273.length : Int) 0))) = some r := h
 clear h
 replace H := Option.bind_eq_some_iff.mp H
 obtain ⟨t273, A20, H⟩ := H
 replace H : ((api_Box_71.f t273 72).bind fun t276 => (box_covered.l0 k 0 (-1000001) t276 (t273.length : Int) 0)) = some r := H
 have A2 := am A20
 clear A20
 replace H := Option.bind_eq_some_iff.mp H
 obtain ⟨t276, A30, H⟩ := H
 replace H : (box_covered.l0 k 0 (-1000001) t276 (t273.length : Int) 0) = some r := H
 have A3 := am A30
 clear A30
 have H' := am H
 clear H
 go_enter Try.func64, Try.ntmps64
 go_wp2_with (first | ((with_reducible refine gc (f := 70) rfl ?_); refine goesL_ (some 9) rfl rfl Try.func70 (by kernel_rfl) rfl #[.slice A0 l0.length c0] rfl (by (try simp only [pml]); first | done | rfl | (simp only [pdt]; rfl)) ?_; (with_reducible refine (api_Box_70.calls _ _ l0 t273 _ ?side1 ?side2 A2.out).mono ?_); (case side1 => repeat (first | exact HR0.out | (with_reducible refine Kd.C_alloc ?_ _) | (with_reducible refine Kd.C_drewN ?_ _) | (with_reducible refine Kd.C_drew ?_))); (case side2 => exact HC0.out); rintro e w4 ⟨v274, rfl, ho0, hb⟩; refine ⟨_, rfl, ?_⟩; have HO275 := am (Kd.R_lower ho0 (below_size (fW HB.out))); replace HB := bS HB hb; (try clear hb); (try clear hb2); (try clear hk); (try clear hi); (try clear ho0); obtain ⟨Ao5, co5, eo5⟩ := Kd.R_slice HO275.out; subst eo5) | ((with_reducible refine gc (f := 71) rfl ?_); refine goesL_ (some 11) rfl rfl Try.func71 (by kernel_rfl) rfl #[.slice Ao5 t273.length co5, .func (.func 72) #[] #[]] rfl (by (try simp only [pml]); first | done | rfl | (simp only [pdt]; rfl)) ?_; (with_reducible refine (api_Box_71.calls (fun k_ => some k_ = (.slice Ao5 t273.length co5 : Value).ownBlock) (.slice Ao5 t273.length co5) t273 72 t276 w _ ?side1 ?side2 A3.out).mono ?_); (case side1 => repeat (first | (with_reducible first | exact HB.out | apply below_alloc | apply pw_below_drewN | apply below_drew1) | exact HB.out)); (case side2 => exact Kd.R_tight rfl HO275.out); rintro e w6 ⟨rfl, hy0, hb, hkp⟩; refine ⟨_, rfl, ?_⟩; replace HO275 := am (Kd.R_reok rfl hy0 (fun k_ e_ => HO275.out.1 k_ e_)); replace HB := am (hb); (try clear hb); (try clear hkp); (try clear hy0)))
 go_loopg [4, 5, 14] k (fun kq v4 v5 v14 w' => ∃ (x4_1 : Int) (x5_1 : Int) (x14_1 : Int), v4 = .int .i64 x4_1 ∧ v5 = .int .i64 x5_1 ∧ v14 = .int .i64 x14_1 ∧ Aside0 (box_covered.l0 kq x4_1 x5_1 t276 (t273.length : Int) x14_1 = some r) ∧ Aside0 (kq ≤ k) ∧ Aside0 (Kd.R k25 25 w' w.heap.size (fun _ => True) (.slice Ao5 t273.length co5) t276) ∧ Aside0 (Below w.heap.size w w'))
 case atStart => exact ⟨(0), ((-1000001)), (0), sqD, sqD, sqD, H', ⟨Nat.le_refl _⟩, ⟨fR HO275.out⟩, ⟨fW HB.out⟩⟩
 case round =>
  clear H'
  try clear p2;try clear c6
  obtain ⟨x4_1, x5_1, x14_1, rfl, rfl, rfl, HA, HK1, HO_12, HB⟩ := hrel
  have hl12_1 := (Kd.R_reads' HO_12.out).1
  rw [hl12_1] at HO_12
  (try simp only [hl12_1])
  cases gk with
  | zero => exact absurd HA.out (by simp [box_covered.l0])
  | succ k1 =>
   have H := HA.out
   clear HA
   simp only [box_covered.l0] at H
   by_cases c7 : x14_1 < (t273.length : Int)
   ·rw [if_pos c7] at H
    have c7b0 : decide (x14_1 < (t273.length : Int)) = true := decide_eq_true c7
    clear c7
    by_cases c8 : 0 ≤ x14_1
    rotate_left
    ·rw [if_neg c8] at H
     exact absurd H (by simp)
    rw [if_pos c8] at H
    have c8b0 : decide (0 ≤ x14_1) = true := decide_eq_true c8
    clear c8
    by_cases c9 : x14_1 < (t276.length : Int)
    rotate_left
    ·rw [if_neg c9] at H
     exact absurd H (by simp)
    rw [if_pos c9] at H
    have c9b0 : decide (x14_1 < (t276.length : Int)) = true := decide_eq_true c9
    clear c9
    obtain ⟨ji10, hji10⟩ : ∃ j_ : Int, (mx x5_1 ((rd_T25 t276 x14_1).f0.f0)) = j_ := ⟨_, rfl⟩
    replace H : (box_covered.l0 k1 (wrap64 (x4_1 + (mx 0 (wrap64 (((rd_T25 t276 x14_1).f1.f0) - (ji10)))))) (mx x5_1 ((rd_T25 t276 x14_1).f1.f0)) t276 (t273.length : Int) (wrap64 (x14_1 + 1))) = some r := by first | (rw [hji10] at H; exact H) | (simp only [hji10] at H ⊢; exact H)
    have hji10_ : (if x5_1 < ((rd_T25 t276 x14_1).f0.f0) then ((rd_T25 t276 x14_1).f0.f0) else x5_1) = ji10 := hji10
    obtain ⟨ji11, hji11⟩ : ∃ j_ : Int, (mx 0 (wrap64 (((rd_T25 t276 x14_1).f1.f0) - (ji10)))) = j_ := ⟨_, rfl⟩
    replace H : (box_covered.l0 k1 (wrap64 (x4_1 + (ji11))) (mx x5_1 ((rd_T25 t276 x14_1).f1.f0)) t276 (t273.length : Int) (wrap64 (x14_1 + 1))) = some r := by first | (rw [hji11] at H; exact H) | (simp only [hji11] at H ⊢; exact H)
    have hji11_ : (if 0 < (wrap64 (((rd_T25 t276 x14_1).f1.f0) - (ji10))) then (wrap64 (((rd_T25 t276 x14_1).f1.f0) - (ji10))) else 0) = ji11 := hji11
    obtain ⟨ji12, hji12⟩ : ∃ j_ : Int, (mx x5_1 ((rd_T25 t276 x14_1).f1.f0)) = j_ := ⟨_, rfl⟩
    replace H : (box_covered.l0 k1 (wrap64 (x4_1 + (ji11))) ji12 t276 (t273.length : Int) (wrap64 (x14_1 + 1))) = some r := by first | (rw [hji12] at H; exact H) | (simp only [hji12] at H ⊢; exact H)
    have hji12_ : (if x5_1 < ((rd_T25 t276 x14_1).f1.f0) then ((rd_T25 t276 x14_1).f1.f0) else x5_1) = ji12 := hji12
    have H' := am H
    clear H
    have p277 : 0 ≤ (x14_1 : Int) := of_decide_eq_true (by assumption)
    have q277 : x14_1 < (t276.length : Int) := of_decide_eq_true (by assumption)
    obtain ⟨ad277, e277, hx277_0, hx277_1, hx277_2, hx277_3, hx277_4, hx277_5⟩ := at_T25 (Kd.R_reads' HO_12.out).2.2 x14_1 p277 q277
    cases e277
    replace p277 := eq_true p277
    replace q277 := eq_true q277
    go_wp2_with (first | ((with_reducible refine gate_dst (N := 7) rfl ?_); refine box_event ?hg (N := 7) ?hd (cs := #[.int .i64 0, .int .i64 0, .int .i64 0, .int .i64 0, .int .i64 0, .int .i64 0]) (t := 25) ?hr ?_; (case hd | hg => rfl); (case hr => first | (go_simp; done) | (go_simp; rfl)); intro gb278 hg w13 hbox hb; replace HO_12 := eR HO_12 hg hb; have BK278 := am hbox; have GW278 := sG HB hg; have GE278 := sG HB hg; replace HB := bS HB hb; clear hb hbox hg; obtain ⟨_, _, _, _, _, _, _, _, _, _, _, _⟩ := zC6 BK278))
    (try simp only [← hl12_1])
    go_roundg k1
    case measure => have := HK1.out; omega
    case rel => exact ⟨(wrap64 (x4_1 + (ji11))), (ji12), (wrap64 (x14_1 + 1)), (by first | rfl | (simp; done) | (simp only [← hji11] <;> (first | rfl | simp)) | (simp [*]; done)), (by first | rfl | (simp; done) | (simp only [← hji12] <;> (first | rfl | simp)) | (simp [*]; done)), sqD, H', ⟨by have := HK1.out; omega⟩, ⟨by (try simp only [hl12_1]); (with_reducible repeat (first | apply Kd.R_alloc | apply Kd.R_drewN | apply Kd.R_drew)); exact Kd.R_mono (Kd.R_far (p := ⟨gb278, 5, none⟩) (Kd.R_far (p := ⟨gb278, 4, none⟩) (Kd.R_far (p := ⟨gb278, 3, none⟩) (Kd.R_far (p := ⟨gb278, 2, none⟩) (Kd.R_far (p := ⟨gb278, 1, none⟩) (Kd.R_far (p := ⟨gb278, 0, none⟩) (Kd.R_mono HO_12.out (fun k_ hk => (⟨hk, hk.2⟩ : _ ∧ k_ ≠ gb278))) (fun _ hk => hk.2) (.int .i64 ((rd_T25 t276 x14_1).f0.f0))) (fun _ hk => hk.2) (.int .i64 ((rd_T25 t276 x14_1).f0.f1))) (fun _ hk => hk.2) (.int .i64 ((rd_T25 t276 x14_1).f0.f2))) (fun _ hk => hk.2) (.int .i64 ((rd_T25 t276 x14_1).f1.f0))) (fun _ hk => hk.2) (.int .i64 ((rd_T25 t276 x14_1).f1.f1))) (fun _ hk => hk.2) (.int .i64 ((rd_T25 t276 x14_1).f1.f2))) (fun _ hk => trivial)⟩, ⟨fW HB.out⟩⟩
   ·rw [if_neg c7] at H
    have c7b0 : decide (x14_1 < (t273.length : Int)) = false := decide_eq_false c7
    rw [hl12_1] at c7b0
    clear c7
    obtain rfl := Option.some.inj H
    go_wp2
    go_ret
    exact ⟨sqE, fW HB.out⟩

end Go.Proofs.Ytmmdikhmlmoolaa.QA
