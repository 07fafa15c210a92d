import Derived.Test.YtcembjgpcbodcaaZQAx0
import Derived.Test.YtcembjgpcbodcaaZQAx1
namespace Go.Proofs.Ytcembjgpcbodcaa.QA
open Go.RowKit Go.Proofs.YtcembjgpcbodcaaW.PrintWords Go.Proofs.YtcembjgpcbodcaaW.PrintLast Go.Proofs.YtcembjgpcbodcaaW.PrintMore
open Go.Proofs.YtcembjgpcbodcaaW.PrintWords renaming gate_dst → gd, gate_callee → gc, box_event → be
open Aside0 renaming mk → am
attribute [local go_sem] max2_int min2_int max_two min_two max_three min_three max_four min_four
set_option linter.unusedVariables false
set_option linter.unusedSimpArgs false

attribute [local go_sem high] eqA23
def cmp_isNaN_int64.f (a0 : Int) : Option (Bool) := some (a0 != a0)
set_option maxHeartbeats 8000000 in
set_option maxRecDepth 100000 in
theorem cmp_isNaN_int64.calls (a0 : Int) (r : Bool) (w : World) (h : cmp_isNaN_int64.f a0 = some r) :
  Calls Try.prog 60 #[.int .i64 a0] w fun e w' => e = .returned (.bool r) ∧ Drawn0 w w' := by
 have H : (some (a0 != a0)) = some r := h
 clear h
 obtain rfl := Option.some.inj H
 go_enter Try.func60, Try.ntmps60
 go_wp2
 go_ret
 exact ⟨by first | rfl | (simp; done) | (simp [*]; done), by repeat (first | exact Drawn0.refl _ | apply Drawn0.step)⟩

def cmp_Compare_int64.f (a0 : Int) (a1 : Int) : Option (Int) := (cmp_isNaN_int64.f a0).bind fun t101 => ((cmp_isNaN_int64.f a1).bind fun t102 => (if t101 = true then (if t102 = true then (some 0) else (some (-1))) else (if t102 = true then (some 1) else (if a0 < a1 then (some (-1)) else (if a0 > a1 then (some 1) else (some 0))))))
set_option maxHeartbeats 8000000 in
set_option maxRecDepth 100000 in
theorem cmp_Compare_int64.calls (a0 : Int) (a1 : Int) (r : Int) (w : World) (h : cmp_Compare_int64.f a0 a1 = some r) :
  Calls Try.prog 37 #[.int .i64 a0, .int .i64 a1] w fun e w' => e = .returned (.int .i64 r) ∧ Drawn0 w w' := by
 have H : ((cmp_isNaN_int64.f a0).bind fun t101 => ((cmp_isNaN_int64.f a1).bind fun t102 => (if t101 = true then (if t102 = true then (some 0) else (some (-1))) else (if t102 = true then (some 1) else (if a0 < a1 then (some (-1)) else (if a0 > a1 then (some 1) else (some 0))))))) = some r := h
 clear h
 replace H := Option.bind_eq_some_iff.mp H
 obtain ⟨t101, A30, H⟩ := H
 replace H : ((cmp_isNaN_int64.f a1).bind fun t102 => (if t101 = true then (if t102 = true then (some 0) else (some (-1))) else (if t102 = true then (some 1) else (if a0 < a1 then (some (-1)) else (if a0 > a1 then (some 1) else (some 0)))))) = some r := H
 have A3 := am A30
 clear A30
 replace H := Option.bind_eq_some_iff.mp H
 obtain ⟨t102, A40, H⟩ := H
 replace H : (if t101 = true then (if t102 = true then (some 0) else (some (-1))) else (if t102 = true then (some 1) else (if a0 < a1 then (some (-1)) else (if a0 > a1 then (some 1) else (some 0))))) = some r := H
 have A4 := am A40
 clear A40
 by_cases c5 : t101 = true
 ·subst c5
  have H1 : (if t102 = true then (some 0) else (some (-1))) = some r := by rw [if_pos rfl] at H; exact H
  clear H
  have H := H1
  clear H1
  by_cases c6 : t102 = true
  ·subst c6
   have H1 : (some 0) = some r := by rw [if_pos rfl] at H; exact H
   clear H
   have H := H1
   clear H1
   obtain rfl := Option.some.inj H
   go_enter Try.func37, Try.ntmps37
   go_wp2_with (first | ((with_reducible refine gc (f := 60) rfl ?_); refine goesL_ (some 8) rfl rfl Try.func60 (by kernel_rfl) rfl #[.int .i64 a0] rfl (by (try simp only [pml]); first | done | rfl | (simp only [pdt]; rfl)) ?_; (with_reducible refine (cmp_isNaN_int64.calls a0 true _ A3.out).mono ?_); rintro e w' ⟨rfl, ⟨nd, rfl⟩⟩; refine ⟨_, rfl, ?_⟩) | ((with_reducible refine gc (f := 60) rfl ?_); refine goesL_ (some 10) rfl rfl Try.func60 (by kernel_rfl) rfl #[.int .i64 a1] rfl (by (try simp only [pml]); first | done | rfl | (simp only [pdt]; rfl)) ?_; (with_reducible refine (cmp_isNaN_int64.calls a1 true _ A4.out).mono ?_); rintro e w' ⟨rfl, ⟨nd, rfl⟩⟩; refine ⟨_, rfl, ?_⟩))
   go_ret
   exact ⟨by first | rfl | (simp; done) | (simp [*]; done), by repeat (first | exact Drawn0.refl _ | apply Drawn0.step)⟩
  replace c6 := Bool.eq_false_iff.mpr c6
  subst c6
  have H1 : (some (-1)) = some r := by rw [if_neg (show ¬ (false = true) by decide)] at H; exact H
  clear H
  have H := H1
  clear H1
  obtain rfl := Option.some.inj H
  go_enter Try.func37, Try.ntmps37
  go_wp2_with (first | ((with_reducible refine gc (f := 60) rfl ?_); refine goesL_ (some 8) rfl rfl Try.func60 (by kernel_rfl) rfl #[.int .i64 a0] rfl (by (try simp only [pml]); first | done | rfl | (simp only [pdt]; rfl)) ?_; (with_reducible refine (cmp_isNaN_int64.calls a0 true _ A3.out).mono ?_); rintro e w' ⟨rfl, ⟨nd, rfl⟩⟩; refine ⟨_, rfl, ?_⟩) | ((with_reducible refine gc (f := 60) rfl ?_); refine goesL_ (some 10) rfl rfl Try.func60 (by kernel_rfl) rfl #[.int .i64 a1] rfl (by (try simp only [pml]); first | done | rfl | (simp only [pdt]; rfl)) ?_; (with_reducible refine (cmp_isNaN_int64.calls a1 false _ A4.out).mono ?_); rintro e w' ⟨rfl, ⟨nd, rfl⟩⟩; refine ⟨_, rfl, ?_⟩))
  go_ret
  exact ⟨by first | rfl | (simp; done) | (simp [*]; done), by repeat (first | exact Drawn0.refl _ | apply Drawn0.step)⟩
 ·replace c5 := Bool.eq_false_iff.mpr c5
  subst c5
  have H1 : (if t102 = true then (some 1) else (if a0 < a1 then (some (-1)) else (if a0 > a1 then (some 1) else (some 0)))) = some r := by rw [if_neg (show ¬ (false = true) by decide)] at H; exact H
  clear H
  have H := H1
  clear H1
  by_cases c7 : t102 = true
  ·subst c7
   have H1 : (some 1) = some r := by rw [if_pos rfl] at H; exact H
   clear H
   have H := H1
   clear H1
   obtain rfl := Option.some.inj H
   go_enter Try.func37, Try.ntmps37
   go_wp2_with (first | ((with_reducible refine gc (f := 60) rfl ?_); refine goesL_ (some 8) rfl rfl Try.func60 (by kernel_rfl) rfl #[.int .i64 a0] rfl (by (try simp only [pml]); first | done | rfl | (simp only [pdt]; rfl)) ?_; (with_reducible refine (cmp_isNaN_int64.calls a0 false _ A3.out).mono ?_); rintro e w' ⟨rfl, ⟨nd, rfl⟩⟩; refine ⟨_, rfl, ?_⟩) | ((with_reducible refine gc (f := 60) rfl ?_); refine goesL_ (some 10) rfl rfl Try.func60 (by kernel_rfl) rfl #[.int .i64 a1] rfl (by (try simp only [pml]); first | done | rfl | (simp only [pdt]; rfl)) ?_; (with_reducible refine (cmp_isNaN_int64.calls a1 true _ A4.out).mono ?_); rintro e w' ⟨rfl, ⟨nd, rfl⟩⟩; refine ⟨_, rfl, ?_⟩))
   go_ret
   exact ⟨by first | rfl | (simp; done) | (simp [*]; done), by repeat (first | exact Drawn0.refl _ | apply Drawn0.step)⟩
  ·replace c7 := Bool.eq_false_iff.mpr c7
   subst c7
   have H1 : (if a0 < a1 then (some (-1)) else (if a0 > a1 then (some 1) else (some 0))) = some r := by rw [if_neg (show ¬ (false = true) by decide)] at H; exact H
   clear H
   have H := H1
   clear H1
   by_cases c8 : a0 < a1
   ·rw [if_pos c8] at H
    have c8b0 : decide (a0 < a1) = true := decide_eq_true c8
    clear c8
    obtain rfl := Option.some.inj H
    go_enter Try.func37, Try.ntmps37
    go_wp2_with (first | ((with_reducible refine gc (f := 60) rfl ?_); refine goesL_ (some 8) rfl rfl Try.func60 (by kernel_rfl) rfl #[.int .i64 a0] rfl (by (try simp only [pml]); first | done | rfl | (simp only [pdt]; rfl)) ?_; (with_reducible refine (cmp_isNaN_int64.calls a0 false _ A3.out).mono ?_); rintro e w' ⟨rfl, ⟨nd, rfl⟩⟩; refine ⟨_, rfl, ?_⟩) | ((with_reducible refine gc (f := 60) rfl ?_); refine goesL_ (some 10) rfl rfl Try.func60 (by kernel_rfl) rfl #[.int .i64 a1] rfl (by (try simp only [pml]); first | done | rfl | (simp only [pdt]; rfl)) ?_; (with_reducible refine (cmp_isNaN_int64.calls a1 false _ A4.out).mono ?_); rintro e w' ⟨rfl, ⟨nd, rfl⟩⟩; refine ⟨_, rfl, ?_⟩))
    go_ret
    exact ⟨by first | rfl | (simp; done) | (simp [*]; done), by repeat (first | exact Drawn0.refl _ | apply Drawn0.step)⟩
   ·rw [if_neg c8] at H
    have c8b0 : decide (a0 < a1) = false := decide_eq_false c8
    clear c8
    by_cases c9 : a0 > a1
    ·rw [if_pos c9] at H
     have c9b0 : decide (a1 < a0) = true := decide_eq_true c9
     clear c9
     obtain rfl := Option.some.inj H
     go_enter Try.func37, Try.ntmps37
     go_wp2_with (first | ((with_reducible refine gc (f := 60) rfl ?_); refine goesL_ (some 8) rfl rfl Try.func60 (by kernel_rfl) rfl #[.int .i64 a0] rfl (by (try simp only [pml]); first | done | rfl | (simp only [pdt]; rfl)) ?_; (with_reducible refine (cmp_isNaN_int64.calls a0 false _ A3.out).mono ?_); rintro e w' ⟨rfl, ⟨nd, rfl⟩⟩; refine ⟨_, rfl, ?_⟩) | ((with_reducible refine gc (f := 60) rfl ?_); refine goesL_ (some 10) rfl rfl Try.func60 (by kernel_rfl) rfl #[.int .i64 a1] rfl (by (try simp only [pml]); first | done | rfl | (simp only [pdt]; rfl)) ?_; (with_reducible refine (cmp_isNaN_int64.calls a1 false _ A4.out).mono ?_); rintro e w' ⟨rfl, ⟨nd, rfl⟩⟩; refine ⟨_, rfl, ?_⟩))
     go_ret
     exact ⟨by first | rfl | (simp; done) | (simp [*]; done), by repeat (first | exact Drawn0.refl _ | apply Drawn0.step)⟩
    ·rw [if_neg c9] at H
     have c9b0 : decide (a1 < a0) = false := decide_eq_false c9
     clear c9
     obtain rfl := Option.some.inj H
     go_enter Try.func37, Try.ntmps37
     go_wp2_with (first | ((with_reducible refine gc (f := 60) rfl ?_); refine goesL_ (some 8) rfl rfl Try.func60 (by kernel_rfl) rfl #[.int .i64 a0] rfl (by (try simp only [pml]); first | done | rfl | (simp only [pdt]; rfl)) ?_; (with_reducible refine (cmp_isNaN_int64.calls a0 false _ A3.out).mono ?_); rintro e w' ⟨rfl, ⟨nd, rfl⟩⟩; refine ⟨_, rfl, ?_⟩) | ((with_reducible refine gc (f := 60) rfl ?_); refine goesL_ (some 10) rfl rfl Try.func60 (by kernel_rfl) rfl #[.int .i64 a1] rfl (by (try simp only [pml]); first | done | rfl | (simp only [pdt]; rfl)) ?_; (with_reducible refine (cmp_isNaN_int64.calls a1 false _ A4.out).mono ?_); rintro e w' ⟨rfl, ⟨nd, rfl⟩⟩; refine ⟨_, rfl, ?_⟩))
     go_ret
     exact ⟨by first | rfl | (simp; done) | (simp [*]; done), by repeat (first | exact Drawn0.refl _ | apply Drawn0.step)⟩

def polygon_Orient.f (a0_0 : Int) (a0_1 : Int) (a1_0 : Int) (a1_1 : Int) (a2_0 : Int) (a2_1 : Int) : Option (Int) := (cmp_Compare_int64.f (wrap64 ((wrap64 ((wrap64 (a1_0 - a0_0)) * (wrap64 (a2_1 - a0_1)))) - (wrap64 ((wrap64 (a1_1 - a0_1)) * (wrap64 (a2_0 - a0_0)))))) 0).bind fun t106 => (some t106)
set_option maxHeartbeats 8000000 in
set_option maxRecDepth 100000 in
theorem polygon_Orient.calls (a0_0 : Int) (a0_1 : Int) (a1_0 : Int) (a1_1 : Int) (a2_0 : Int) (a2_1 : Int) (r : Int) (w : World) (h : polygon_Orient.f a0_0 a0_1 a1_0 a1_1 a2_0 a2_1 = some r) :
  Calls Try.prog 13 #[.agg #[.int .i64 a0_0, .int .i64 a0_1], .agg #[.int .i64 a1_0, .int .i64 a1_1], .agg #[.int .i64 a2_0, .int .i64 a2_1]] w fun e w' => e = .returned (.int .i64 r) ∧ Below w.heap.size w w' := by
 have hu23 := Try.underlying23
 have HB := am (Below.refl w.heap.size w)
 have H : ((cmp_Compare_int64.f (wrap64 ((wrap64 ((wrap64 (a1_0 - a0_0)) * (wrap64 (a2_1 - a0_1)))) - (wrap64 ((wrap64 (a1_1 - a0_1)) * (wrap64 (a2_0 - a0_0)))))) 0).bind fun t106 => (some t106)) = some r := h
 clear h
 replace H := Option.bind_eq_some_iff.mp H
 obtain ⟨t106, A40, H⟩ := H
 replace H : (some t106) = some r := H
 have A4 := am A40
 clear A40
 obtain rfl := Option.some.inj H
 go_enter Try.func13, Try.ntmps13
 go_wp2_with (first | ((with_reducible refine gd (N := 3) rfl ?_); refine be ?hg (N := 3) ?hd (cs := #[.int .i64 a0_0, .int .i64 a0_1]) (t := 23) ?hr ?_; (case hd | hg => rfl); (case hr => first | (go_simp; done) | (go_simp; rfl)); intro gb103 hg w5 hbox hb; have BK103 := am hbox; have GW103 := sG HB hg; have GE103 := sG HB hg; replace HB := bS HB hb; clear hb hbox hg) | ((with_reducible refine gd (N := 4) rfl ?_); refine be ?hg (N := 4) ?hd (cs := #[.int .i64 a1_0, .int .i64 a1_1]) (t := 23) ?hr ?_; (case hd | hg => rfl); (case hr => first | (go_simp; done) | (go_simp; rfl)); intro gb104 hg w6 hbox hb; have BK104 := am hbox; have GW104 := sG HB hg; have GE104 := sG HB hg; replace HB := bS HB hb; have NB103_104 := nL BK103 hg; have NB104_103 := nG BK103 hg; replace BK103 := bB BK103 hb; clear hb hbox hg) | ((with_reducible refine gd (N := 5) rfl ?_); refine be ?hg (N := 5) ?hd (cs := #[.int .i64 a2_0, .int .i64 a2_1]) (t := 23) ?hr ?_; (case hd | hg => rfl); (case hr => first | (go_simp; done) | (go_simp; rfl)); intro gb105 hg w7 hbox hb; have BK105 := am hbox; have GW105 := sG HB hg; have GE105 := sG HB hg; replace HB := bS HB hb; have NB103_105 := nL BK103 hg; have NB105_103 := nG BK103 hg; replace BK103 := bB BK103 hb; have NB104_105 := nL BK104 hg; have NB105_104 := nG BK104 hg; replace BK104 := bB BK104 hb; clear hb hbox hg; have hnb8 := NB104_103.out; have hnc8 := NB103_104.out; have hnb9 := NB104_105.out; have hnc9 := NB105_104.out; obtain ⟨_, _, _, _⟩ := zC2 BK104; have hnb11 := NB103_105.out; have hnc11 := NB105_103.out; obtain ⟨_, _, _, _⟩ := zC2 BK103; obtain ⟨_, _, _, _⟩ := zC2 BK105) | ((with_reducible refine gc (f := 37) rfl ?_); refine goesL_ (some 32) rfl rfl Try.func37 (by kernel_rfl) rfl #[.int .i64 (wrap64 ((wrap64 ((wrap64 (a1_0 - a0_0)) * (wrap64 (a2_1 - a0_1)))) - (wrap64 ((wrap64 (a1_1 - a0_1)) * (wrap64 (a2_0 - a0_0)))))), .int .i64 0] rfl (by (try simp only [pml]); first | done | rfl | (simp only [pdt]; rfl)) ?_; (with_reducible refine (cmp_Compare_int64.calls (wrap64 ((wrap64 ((wrap64 (a1_0 - a0_0)) * (wrap64 (a2_1 - a0_1)))) - (wrap64 ((wrap64 (a1_1 - a0_1)) * (wrap64 (a2_0 - a0_0)))))) 0 t106 _ A4.out).mono ?_); rintro e w' ⟨rfl, ⟨nd, rfl⟩⟩; refine ⟨_, rfl, ?_⟩))
 go_ret
 exact ⟨sqE, fW HB.out⟩

def polygon_allowed_1.f (a0 : Int) : Option (Bool) := if (-1000000) ≤ a0 then (some (decide (a0 ≤ 1000000))) else (some false)
set_option maxHeartbeats 8000000 in
set_option maxRecDepth 100000 in
theorem polygon_allowed_1.calls (a0 : Int) (r : Bool) (w : World) (h : polygon_allowed_1.f a0 = some r) :
  Calls Try.prog 63 #[.int .i64 a0] w fun e w' => e = .returned (.bool r) ∧ Drawn0 w w' := by
 have H : (if (-1000000) ≤ a0 then (some (decide (a0 ≤ 1000000))) else (some false)) = some r := h
 clear h
 by_cases c2 : (-1000000) ≤ a0
 ·rw [if_pos c2] at H
  have c2b0 : decide ((-1000000) ≤ a0) = true := decide_eq_true c2
  clear c2
  obtain rfl := Option.some.inj H
  go_enter Try.func63, Try.ntmps63
  go_wp2
  go_ret
  exact ⟨by first | rfl | (simp; done) | (simp [*]; done), by repeat (first | exact Drawn0.refl _ | apply Drawn0.step)⟩
 ·rw [if_neg c2] at H
  have c2b0 : decide ((-1000000) ≤ a0) = false := decide_eq_false c2
  clear c2
  obtain rfl := Option.some.inj H
  go_enter Try.func63, Try.ntmps63
  go_wp2
  go_ret
  exact ⟨by first | rfl | (simp; done) | (simp [*]; done), by repeat (first | exact Drawn0.refl _ | apply Drawn0.step)⟩

def nearB (n : Int) : Bool := decide (-1000000 ≤ n) && decide (n ≤ 1000000)
def nearP (x : S23) : Bool := nearB x.f0 && nearB x.f1
theorem near_is (n : Int) : polygon_allowed_1.f n = some (nearB n) := by
 unfold polygon_allowed_1.f nearB
 by_cases h : -1000000 ≤ n
 ·rw [if_pos h, decide_eq_true h, Bool.true_and]
 rw [if_neg h, decide_eq_false h, Bool.false_and]
theorem all_take_succ {α : Type} (p : α → Bool) (l : List α) (k : Nat) (d : α) (h : k < l.length) : (l.take (k + 1)).all p = ((l.take k).all p && p (l.getD k d)) := by
 rw [List.take_succ_eq_append_getElem h, List.all_append]
 simp [List.getD_eq_getElem?_getD, List.getElem?_eq_getElem h]
theorem all_not {α : Type} (p : α → Bool) (l : List α) (k : Nat) (d : α) (h : k < l.length) (hp : p (l.getD k d) = false) : l.all p = false := by
 rw [List.all_eq_false]
 exact ⟨l.getD k d, by rw [List.getD_eq_getElem?_getD, List.getElem?_eq_getElem h]; exact List.getElem_mem h, by rw [hp]; simp⟩
def polygon_allowed.f (l0 : List S23) : Option Bool := some (l0.all nearP)
set_option maxHeartbeats 4000000 in
set_option maxRecDepth 100000 in
theorem polygon_allowed.calls (A0 : Option Addr) (c0 : Nat) (l0 : List S23) (r : Bool) (w : World) (hr0 : Kd.C k23 w A0 l0.length l0) (hc0 : l0.length ≤ c0) (h : polygon_allowed.f l0 = some r) :
  Calls Try.prog 46 #[.slice A0 l0.length c0] w fun e w' => e = .returned (.bool r) ∧ Below w.heap.size w w' := by
 obtain rfl := Option.some.inj h
 clear h
 have hn := hr0.2.1
 have HR := am hr0
 clear hr0
 have hcon := fun a W' => polygon_allowed_1.calls a _ W' (near_is a)
 have HCON := am hcon
 clear hcon
 go_enter Try.func46, Try.ntmps46
 go_wp2
 go_loopw [8] (fun i wr => ∃ k : Nat, k ≤ l0.length ∧ i = .int .i64 k ∧ Aside0 ((l0.take k).all nearP = true) ∧ Aside0 (Below w.heap.size w wr))
  (fun i _ => l0.length - (intOf i).toNat)
 case atStart => exact ⟨0, Nat.zero_le _, rfl, ⟨rfl⟩, ⟨Below.refl _ _⟩⟩
 case round =>
  obtain ⟨k, hk, rfl, HP, HB⟩ := hrel
  by_cases hlt : k < l0.length
  ·obtain ⟨ad, e, h0, h1⟩ := at_T23 HR.out (k : Int) (by omega) (by omega)
   cases e
   replace h0 := cl HB h0
   replace h1 := cl HB h1
   rw [Int.toNat_natCast] at h0 h1
   have hs := all_take_succ nearP l0 k z23 hlt
   have ha := all_not nearP l0 k z23 hlt
   have er : l0.getD k z23 = rd_T23 l0 (k : Int) := by simp [rd_T23]
   rw [er] at hs ha
   rw [HP.out, Bool.true_and] at hs
   obtain ⟨x, hx⟩ : ∃ x, x = rd_T23 l0 (k : Int) := ⟨_, rfl⟩
   rw [← hx] at h0 h1 hs ha
   have HS := am hs
   have HA := am ha
   clear hs ha er hx
   cases hw : nearB x.f0 with
   | false =>
    have HW := am hw
    clear hw
    go_wp2_with (go_at_call 63; refine (HCON.out _ _).mono ?_; rintro e w' ⟨rfl, ⟨nd, rfl⟩⟩; rw [HW.out])
    go_ret
    exact ⟨by rw [HA.out (by unfold nearP; rw [HW.out]; rfl)]; rfl, fW HB.out⟩
   | true =>
    have HW := am hw
    clear hw
    cases hv : nearB x.f1 with
    | false =>
     have HX := am hv
     clear hv
     go_wp2_with (go_at_call 63; refine (HCON.out _ _).mono ?_; rintro e w' ⟨rfl, ⟨nd, rfl⟩⟩; first | rw [HW.out] | rw [HX.out])
     go_ret
     exact ⟨by rw [HA.out (by unfold nearP; rw [HW.out, HX.out]; rfl)]; rfl, fW HB.out⟩
    | true =>
     have HX := am hv
     clear hv
     go_wp2_with (go_at_call 63; refine (HCON.out _ _).mono ?_; rintro e w' ⟨rfl, ⟨nd, rfl⟩⟩; first | rw [HW.out] | rw [HX.out])
     go_roundw
     case rel => exact ⟨k + 1, by omega, by go_num, ⟨by rw [HS.out]; unfold nearP; rw [HW.out, HX.out]; rfl⟩, ⟨fW HB.out⟩⟩
     case measure => simp [intOf]; omega
  ·obtain rfl : k = l0.length := by omega
   rw [List.take_length] at HP
   go_wp2
   go_ret
   exact ⟨by rw [HP.out]; rfl, HB.out⟩

def polygon_check.l0 : Nat → List (S23) → Int → Int → Int → Int → Option (Int)
 | 0, _, _, _, _, _ => none
 | k + 1, x31, x32, x33, x111000, x111001 => if x33 < x32 then (if 0 ≤ x33 then (if x33 < (x31.length : Int) then (if (((rd_T23 x31 x33).f0) == x111000 && (((rd_T23 x31 x33).f1) == x111001)) = true then (some 5) else (polygon_check.l0 k x31 x32 (wrap64 (x33 + 1)) ((rd_T23 x31 x33).f0) ((rd_T23 x31 x33).f1))) else (none)) else (none)) else (some 0)
def polygon_check.f (k : Nat) (l0 : List (S23)) (l1 : List (S23)) : Option (Int) := if (l0.length : Int) > 64 then (some 7) else (if (l0.length : Int) < 3 then (some 1) else ((polygon_allowed.f l0).bind fun t107 => (if t107 = true then ((polygon_allowed.f l1).bind fun t108 => (if t108 = true then (if 0 ≤ (wrap64 ((l0.length : Int) - 1)) then (if (wrap64 ((l0.length : Int) - 1)) < (l0.length : Int) then (polygon_check.l0 k l0 (l0.length : Int) 0 ((rd_T23 l0 (wrap64 ((l0.length : Int) - 1))).f0) ((rd_T23 l0 (wrap64 ((l0.length : Int) - 1))).f1)) else (none)) else (none)) else (some 6))) else (some 6))))
theorem polygon_check.mono_l : ∀ k, (∀ y0 y1 y2 y3 y4, LeO (polygon_check.l0 k y0 y1 y2 y3 y4) (polygon_check.l0 (k + 1) y0 y1 y2 y3 y4))
 | 0 => fun _ _ _ _ _ r h => by simp [polygon_check.l0] at h
 | k + 1 => by
  have ih0 := polygon_check.mono_l k
  intro y0 y1 y2 y3 y4
  unfold polygon_check.l0
  repeat' first
  | (with_reducible exact ih0 _ _ _ _ _)
  | (with_reducible exact LeO.refl _)
  | (with_reducible exact LeO.none _)
  | (with_reducible refine LeO.ite ?_ ?_)
  | (with_reducible refine LeO.bind ?_ (fun _ => ?_))
  | exact ih0 _ _ _ _ _
  | exact LeO.none _
  | refine LeO.ite ?_ ?_
  | refine LeO.bind ?_ (fun _ => ?_)
theorem polygon_check.mono : ∀ a0 a1 k, LeO (polygon_check.f k a0 a1) (polygon_check.f (k + 1) a0 a1) := by
 intro a0 a1 k
 have ih0 := polygon_check.mono_l k
 unfold polygon_check.f
 repeat' first
   | (with_reducible exact ih0 _ _ _ _ _)
   | (with_reducible exact LeO.refl _)
   | (with_reducible exact LeO.none _)
   | (with_reducible refine LeO.ite ?_ ?_)
   | (with_reducible refine LeO.bind ?_ (fun _ => ?_))
   | exact ih0 _ _ _ _ _
   | exact LeO.none _
   | refine LeO.ite ?_ ?_
   | refine LeO.bind ?_ (fun _ => ?_)
set_option maxHeartbeats 8000000 in
set_option maxRecDepth 100000 in
theorem polygon_check.calls (k : Nat) (A0 : Option Addr) (c0 : Nat) (l0 : List (S23)) (A1 : Option Addr) (c1 : Nat) (l1 : List (S23)) (r : Int) (w : World) (hr0 : Kd.C k23 w A0 l0.length l0) (hc0 : l0.length ≤ c0) (hr1 : Kd.C k23 w A1 l1.length l1) (hc1 : l1.length ≤ c1) (h : polygon_check.f k l0 l1 = some r) :
  Calls Try.prog 38 #[.slice A0 l0.length c0, .slice A1 l1.length c1] w fun e w' => e = .returned (.int .i64 r) ∧ Below w.heap.size w w' := by
 have hu23 := Try.underlying23
 have HR0 := am hr0
 have HC0 := am hc0
 clear hr0 hc0
 have HR1 := am hr1
 have HC1 := am hc1
 clear hr1 hc1
 have HB := am (Below.refl w.heap.size w)
 have H : (if (l0.length : Int) > 64 then (some 7) else (if (l0.length : Int) < 3 then (some 1) else ((polygon_allowed.f l0).bind fun t107 => (if t107 = true then ((polygon_allowed.f l1).bind fun t108 => (if t108 = true then (if 0 ≤ (wrap64 ((l0.length : Int) - 1)) then (if (wrap64 ((l0.length : Int) - 1)) < (l0.length : Int) then (polygon_check.l0 k l0 (l0.length : Int) 0 ((rd_T23 l0 (wrap64 ((l0.length : Int) - 1))).f0) ((rd_T23 l0 (wrap64 ((l0.length : Int) - 1))).f1)) else (none)) else (none)) else (some 6))) else (some 6))))) = some r := h
 clear h
 by_cases c3 : (l0.length : Int) > 64
 ·rw [if_pos c3] at H
  have c3b0 : decide (64 < (l0.length : Int)) = true := decide_eq_true c3
  have c3b1 : decide (64 < l0.length) = true := decide_eq_true (by omega)
  clear c3
  obtain rfl := Option.some.inj H
  go_enter Try.func38, Try.ntmps38
  go_wp2
  go_ret
  exact ⟨sqE, fW HB.out⟩
 ·rw [if_neg c3] at H
  have c3b0 : decide (64 < (l0.length : Int)) = false := decide_eq_false c3
  have c3b1 : decide (64 < l0.length) = false := decide_eq_false (by omega)
  clear c3
  by_cases c4 : (l0.length : Int) < 3
  ·rw [if_pos c4] at H
   have c4b0 : decide ((l0.length : Int) < 3) = true := decide_eq_true c4
   have c4b1 : decide (l0.length < 3) = true := decide_eq_true (by omega)
   clear c4
   obtain rfl := Option.some.inj H
   go_enter Try.func38, Try.ntmps38
   go_wp2
   go_ret
   exact ⟨sqE, fW HB.out⟩
  ·rw [if_neg c4] at H
   have c4b0 : decide ((l0.length : Int) < 3) = false := decide_eq_false c4
   have c4b1 : decide (l0.length < 3) = false := decide_eq_false (by omega)
   clear c4
   replace H := Option.bind_eq_some_iff.mp H
   obtain ⟨t107, A50, H⟩ := H
   replace H : (if t107 = true then ((polygon_allowed.f l1).bind fun t108 => (if t108 = true then (if 0 ≤ (wrap64 ((l0.length : Int) - 1)) then (if (wrap64 ((l0.length : Int) - 1)) < (l0.length : Int) then (polygon_check.l0 k l0 (l0.length : Int) 0 ((rd_T23 l0 (wrap64 ((l0.length : Int) - 1))).f0) ((rd_T23 l0 (wrap64 ((l0.length : Int) - 1))).f1)) else (none)) else (none)) else (some 6))) else (some 6)) = some r := H
   have A5 := am A50
   clear A50
   by_cases c6 : t107 = true
   ·subst c6
    have H1 : ((polygon_allowed.f l1).bind fun t108 => (if t108 = true then (if 0 ≤ (wrap64 ((l0.length : Int) - 1)) then (if (wrap64 ((l0.length : Int) - 1)) < (l0.length : Int) then (polygon_check.l0 k l0 (l0.length : Int) 0 ((rd_T23 l0 (wrap64 ((l0.length : Int) - 1))).f0) ((rd_T23 l0 (wrap64 ((l0.length : Int) - 1))).f1)) else (none)) else (none)) else (some 6))) = some r := by rw [if_pos rfl] at H; exact H
    clear H
    have H := H1
    clear H1
    replace H := Option.bind_eq_some_iff.mp H
    obtain ⟨t108, A70, H⟩ := H
    replace H : (if t108 = true then (if 0 ≤ (wrap64 ((l0.length : Int) - 1)) then (if (wrap64 ((l0.length : Int) - 1)) < (l0.length : Int) then (polygon_check.l0 k l0 (l0.length : Int) 0 ((rd_T23 l0 (wrap64 ((l0.length : Int) - 1))).f0) ((rd_T23 l0 (wrap64 ((l0.length : Int) - 1))).f1)) else (none)) else (none)) else (some 6)) = some r := H
    have A7 := am A70
    clear A70
    by_cases c8 : t108 = true
    rotate_left
    ·replace c8 := Bool.eq_false_iff.mpr c8
     subst c8
     have H1 : (some 6) = some r := by rw [if_neg (show ¬ (false = true) by decide)] at H; exact H
     clear H
     have H := H1
     clear H1
     obtain rfl := Option.some.inj H
     go_enter Try.func38, Try.ntmps38
     go_wp2_with (first | ((with_reducible refine gc (f := 46) rfl ?_); refine goesL_ (some 18) rfl rfl Try.func46 (by kernel_rfl) rfl #[.slice A0 l0.length c0] rfl (by (try simp only [pml]); first | done | rfl | (simp only [pdt]; rfl)) ?_; (with_reducible refine (polygon_allowed.calls _ _ l0 true _ ?side1 ?side2 A5.out).mono ?_); (case side1 => repeat (first | exact HR0.out | (with_reducible refine Kd.C_alloc ?_ _) | (with_reducible refine Kd.C_drewN ?_ _) | (with_reducible refine Kd.C_drew ?_))); (case side2 => exact HC0.out); rintro e w28 ⟨rfl, hb⟩; refine ⟨_, rfl, ?_⟩; replace HB := bS HB hb; (try clear hb); (try clear hb2); (try clear hk); (try clear hi)) | (go_at_call 46; (with_reducible refine (polygon_allowed.calls _ _ l1 false _ ?side1 ?side2 A7.out).mono ?_); (case side1 => repeat (first | exact (Kd.C_below HR1.out HB.out) | (with_reducible refine Kd.C_alloc ?_ _) | (with_reducible refine Kd.C_drewN ?_ _) | (with_reducible refine Kd.C_drew ?_))); (case side2 => exact HC1.out); rintro e w29 ⟨rfl, hb⟩; replace HB := bS HB hb; (try clear hb); (try clear hb2); (try clear hk); (try clear hi)))
     go_ret
     exact ⟨sqE, fW HB.out⟩
    subst c8
    have H1 : (if 0 ≤ (wrap64 ((l0.length : Int) - 1)) then (if (wrap64 ((l0.length : Int) - 1)) < (l0.length : Int) then (polygon_check.l0 k l0 (l0.length : Int) 0 ((rd_T23 l0 (wrap64 ((l0.length : Int) - 1))).f0) ((rd_T23 l0 (wrap64 ((l0.length : Int) - 1))).f1)) else (none)) else (none)) = some r := by rw [if_pos rfl] at H; exact H
    clear H
    have H := H1
    clear H1
    obtain ⟨ji9, hji9⟩ : ∃ j_ : Int, (wrap64 ((l0.length : Int) - 1)) = j_ := ⟨_, rfl⟩
    replace H : (if 0 ≤ (ji9) then (if (ji9) < (l0.length : Int) then (polygon_check.l0 k l0 (l0.length : Int) 0 ((rd_T23 l0 (ji9)).f0) ((rd_T23 l0 (ji9)).f1)) else (none)) else (none)) = some r := by first | (rw [hji9] at H; exact H) | (simp only [hji9] at H ⊢; exact H)
    (try rw [hji9] at A5)
    (try rw [hji9] at A7)
    have hji9w : (IntKind.i64.wrap ((l0.length : Int) - 1)) = ji9 := (i64_w _).trans hji9
    by_cases c10 : 0 ≤ (ji9)
    rotate_left
    ·rw [if_neg c10] at H
     exact absurd H (by simp)
    rw [if_pos c10] at H
    have c10b0 : decide (0 ≤ (ji9)) = true := decide_eq_true c10
    clear c10
    by_cases c11 : (ji9) < (l0.length : Int)
    rotate_left
    ·rw [if_neg c11] at H
     exact absurd H (by simp)
    rw [if_pos c11] at H
    have c11b0 : decide ((ji9) < (l0.length : Int)) = true := decide_eq_true c11
    clear c11
    have H' := am H
    clear H
    go_enter Try.func38, Try.ntmps38
    go_wp2_with (first | ((with_reducible refine gc (f := 46) rfl ?_); refine goesL_ (some 18) rfl rfl Try.func46 (by kernel_rfl) rfl #[.slice A0 l0.length c0] rfl (by (try simp only [pml]); first | done | rfl | (simp only [pdt]; rfl)) ?_; (with_reducible refine (polygon_allowed.calls _ _ l0 true _ ?side1 ?side2 A5.out).mono ?_); (case side1 => repeat (first | exact HR0.out | (with_reducible refine Kd.C_alloc ?_ _) | (with_reducible refine Kd.C_drewN ?_ _) | (with_reducible refine Kd.C_drew ?_))); (case side2 => exact HC0.out); rintro e w12 ⟨rfl, hb⟩; refine ⟨_, rfl, ?_⟩; replace HB := bS HB hb; (try clear hb); (try clear hb2); (try clear hk); (try clear hi)) | (go_at_call 46; (with_reducible refine (polygon_allowed.calls _ _ l1 true _ ?side1 ?side2 A7.out).mono ?_); (case side1 => repeat (first | exact (Kd.C_below HR1.out HB.out) | (with_reducible refine Kd.C_alloc ?_ _) | (with_reducible refine Kd.C_drewN ?_ _) | (with_reducible refine Kd.C_drew ?_))); (case side2 => exact HC1.out); rintro e w13 ⟨rfl, hb⟩; replace HB := bS HB hb; (try clear hb); (try clear hb2); (try clear hk); (try clear hi); have p109 : 0 ≤ ((ji9) : Int) := of_decide_eq_true (by assumption); have q109 : (ji9) < (l0.length : Int) := of_decide_eq_true (by assumption); obtain ⟨ad109, e109, hx109_0, hx109_1⟩ := at_T23 HR0.out (ji9) p109 q109; cases e109; replace hx109_0 := cl HB hx109_0; replace hx109_1 := cl HB hx109_1; replace p109 := eq_true p109; replace q109 := eq_true q109) | ((with_reducible refine gd (N := 5) rfl ?_); refine be ?hg (N := 5) ?hd (cs := #[.int .i64 0, .int .i64 0]) (t := 23) ?hr ?_; (case hd | hg => rfl); (case hr => first | (go_simp; done) | (go_simp; rfl)); intro gb110 hg w14 hbox hb; have BK110 := am hbox; have GW110 := sG HB hg; have GE110 := sG HB hg; replace HB := bS HB hb; clear hb hbox hg; obtain ⟨_, _, _, _⟩ := zC2 BK110))
    go_loopg [33] k (fun kq v33 w' => ∃ (x33_1 : Int) (x111000_1 : Int) (x111001_1 : Int), v33 = .int .i64 x33_1 ∧ Aside0 (polygon_check.l0 kq l0 (l0.length : Int) x33_1 x111000_1 x111001_1 = some r) ∧ Aside0 (kq ≤ k) ∧ Aside0 (w'.heap[gb110]? = some (.cells #[.int .i64 x111000_1, .int .i64 x111001_1] 23 (0, 0))) ∧ Aside0 (Below w.heap.size w w'))
    case atStart => exact ⟨(0), ((rd_T23 l0 (ji9)).f0), ((rd_T23 l0 (ji9)).f1), sqD, H', ⟨Nat.le_refl _⟩, ⟨by (with_reducible repeat first | apply blk_drewN | apply blk_drew | apply blk_alloc); refine blk_put (cs := #[.int .i64 ((rd_T23 l0 (ji9)).f0), .int .i64 0]) ?_ 1 _ rfl; (with_reducible repeat first | apply blk_drewN | apply blk_drew | apply blk_alloc); refine blk_put (cs := #[.int .i64 0, .int .i64 0]) ?_ 0 _ rfl; (with_reducible repeat first | apply blk_drewN | apply blk_drew | apply blk_alloc); exact BK110.out⟩, ⟨fW HB.out⟩⟩
    case round =>
     clear H'
     try clear c1;try clear p1;try clear q1;try clear hx1;try clear p2;try clear c3;try clear c3b0;try clear c3b1;try clear c4;try clear c4b0;try clear c4b1;try clear c6;try clear p6;try clear c8;try clear c10;try clear c10b0;try clear p10;try clear q10;try clear hx10;try clear c11;try clear c11b0;try clear hx109_0;try clear hx109_1;try clear p109;try clear q109
     obtain ⟨x33_1, x111000_1, x111001_1, rfl, HA, HK1, BK110, HB⟩ := hrel
     cases gk with
     | zero => exact absurd HA.out (by simp [polygon_check.l0])
     | succ k1 =>
      have H := HA.out
      clear HA
      simp only [polygon_check.l0] at H
      by_cases c16 : x33_1 < (l0.length : Int)
      rotate_left
      ·rw [if_neg c16] at H
       have c16b0 : decide (x33_1 < (l0.length : Int)) = false := decide_eq_false c16
       clear c16
       obtain rfl := Option.some.inj H
       go_wp2
       go_ret
       exact ⟨by first | rfl | (simp [errW_none, errW_some] <;> rfl) | (simp only [← hji9]; first | rfl | (simp [errW_none, errW_some] <;> rfl)) | (simp [*, errW_none, errW_some] <;> rfl), fW HB.out⟩
      rw [if_pos c16] at H
      have c16b0 : decide (x33_1 < (l0.length : Int)) = true := decide_eq_true c16
      clear c16
      by_cases c17 : 0 ≤ x33_1
      rotate_left
      ·rw [if_neg c17] at H
       exact absurd H (by simp)
      rw [if_pos c17] at H
      have c17b0 : decide (0 ≤ x33_1) = true := decide_eq_true c17
      clear c17
      by_cases c18 : x33_1 < (l0.length : Int)
      rotate_left
      ·rw [if_neg c18] at H
       exact absurd H (by simp)
      rw [if_pos c18] at H
      have c18b0 : decide (x33_1 < (l0.length : Int)) = true := decide_eq_true c18
      clear c18
      by_cases c19 : (((rd_T23 l0 x33_1).f0) == x111000_1 && (((rd_T23 l0 x33_1).f1) == x111001_1)) = true
      ·rw [if_pos c19] at H
       have c19b0 : (((rd_T23 l0 x33_1).f0) == x111000_1 && (((rd_T23 l0 x33_1).f1) == x111001_1)) = true := c19
       (try (have c19b1 : decide (((rd_T23 l0 x33_1).f0) = x111000_1 && (((rd_T23 l0 x33_1).f1) == x111001_1)) = true := by simpa using c19))
       (try (have c19b2 : (((rd_T23 l0 x33_1).f0) == x111000_1 && (((rd_T23 l0 x33_1).f1) == x111001_1)) = true := by simpa using c19))
       clear c19
       obtain rfl := Option.some.inj H
       have p111 : 0 ≤ (x33_1 : Int) := of_decide_eq_true (by assumption)
       have q111 : x33_1 < (l0.length : Int) := of_decide_eq_true (by assumption)
       obtain ⟨ad111, e111, hx111_0, hx111_1⟩ := at_T23 HR0.out x33_1 p111 q111
       obtain rfl : ad109 = ad111 := (by injection e111)
       replace hx111_0 := cl HB hx111_0
       replace hx111_1 := cl HB hx111_1
       replace p111 := eq_true p111
       replace q111 := eq_true q111
       go_wp2_with (first | ((with_reducible refine gd (N := 7) rfl ?_); refine be ?hg (N := 7) ?hd (cs := #[.int .i64 0, .int .i64 0]) (t := 23) ?hr ?_; (case hd | hg => rfl); (case hr => first | (go_simp; done) | (go_simp; rfl)); intro gb112 hg w20 hbox hb; have BK112 := am hbox; have GW112 := sG HB hg; have GE112 := sG HB hg; replace HB := bS HB hb; have NB110_112 := nL BK110 hg; have NB112_110 := nG BK110 hg; replace BK110 := bB BK110 hb; clear hb hbox hg; have hnb21 := NB112_110.out; have hnc21 := NB110_112.out; obtain ⟨_, _, _, _⟩ := zC2 BK112; obtain ⟨_, _, _, _⟩ := zC2 BK110))
       go_ret
       exact ⟨by first | rfl | (simp [errW_none, errW_some] <;> rfl) | (simp only [← hji9]; first | rfl | (simp [errW_none, errW_some] <;> rfl)) | (simp [*, errW_none, errW_some] <;> rfl), fW HB.out⟩
      rw [if_neg c19] at H
      have c19b0 : (((rd_T23 l0 x33_1).f0) == x111000_1 && (((rd_T23 l0 x33_1).f1) == x111001_1)) = false := by simpa using c19
      (try (have c19b1 : decide (((rd_T23 l0 x33_1).f0) = x111000_1 && (((rd_T23 l0 x33_1).f1) == x111001_1)) = false := by simpa using c19))
      (try (have c19b2 : (((rd_T23 l0 x33_1).f0) == x111000_1 && (((rd_T23 l0 x33_1).f1) == x111001_1)) = false := by simpa using c19))
      (try (have c19b3 : ¬ (((rd_T23 l0 x33_1).f0) = x111000_1 && (((rd_T23 l0 x33_1).f1) == x111001_1)) := by simpa using c19))
      clear c19
      have H' := am H
      clear H
      have p111 : 0 ≤ (x33_1 : Int) := of_decide_eq_true (by assumption)
      have q111 : x33_1 < (l0.length : Int) := of_decide_eq_true (by assumption)
      obtain ⟨ad111, e111, hx111_0, hx111_1⟩ := at_T23 HR0.out x33_1 p111 q111
      obtain rfl : ad109 = ad111 := (by injection e111)
      replace hx111_0 := cl HB hx111_0
      replace hx111_1 := cl HB hx111_1
      replace p111 := eq_true p111
      replace q111 := eq_true q111
      go_wp2_with (first | ((with_reducible refine gd (N := 7) rfl ?_); refine be ?hg (N := 7) ?hd (cs := #[.int .i64 0, .int .i64 0]) (t := 23) ?hr ?_; (case hd | hg => rfl); (case hr => first | (go_simp; done) | (go_simp; rfl)); intro gb112 hg w24 hbox hb; have BK112 := am hbox; have GW112 := sG HB hg; have GE112 := sG HB hg; replace HB := bS HB hb; have NB110_112 := nL BK110 hg; have NB112_110 := nG BK110 hg; replace BK110 := bB BK110 hb; clear hb hbox hg; have hnb25 := NB112_110.out; have hnc25 := NB110_112.out; obtain ⟨_, _, _, _⟩ := zC2 BK112; obtain ⟨_, _, _, _⟩ := zC2 BK110))
      go_roundg k1
      case measure => have := HK1.out; omega
      case rel => exact ⟨(wrap64 (x33_1 + 1)), ((rd_T23 l0 x33_1).f0), ((rd_T23 l0 x33_1).f1), sqD, H', ⟨by have := HK1.out; omega⟩, ⟨by (with_reducible repeat first | apply blk_drewN | apply blk_drew | apply blk_alloc); refine blk_put (cs := #[.int .i64 ((rd_T23 l0 x33_1).f0), .int .i64 x111001_1]) ?_ 1 _ rfl; (with_reducible repeat first | apply blk_drewN | apply blk_drew | apply blk_alloc); refine blk_put (cs := #[.int .i64 x111000_1, .int .i64 x111001_1]) ?_ 0 _ rfl; (with_reducible repeat first | apply blk_drewN | apply blk_drew | apply blk_alloc); refine blk_far ?_ NB110_112.out _; (with_reducible repeat first | apply blk_drewN | apply blk_drew | apply blk_alloc); refine blk_far ?_ NB110_112.out _; (with_reducible repeat first | apply blk_drewN | apply blk_drew | apply blk_alloc); exact BK110.out⟩, ⟨fW HB.out⟩⟩
   ·replace c6 := Bool.eq_false_iff.mpr c6
    subst c6
    have H1 : (some 6) = some r := by rw [if_neg (show ¬ (false = true) by decide)] at H; exact H
    clear H
    have H := H1
    clear H1
    obtain rfl := Option.some.inj H
    go_enter Try.func38, Try.ntmps38
    go_wp2_with (first | ((with_reducible refine gc (f := 46) rfl ?_); refine goesL_ (some 18) rfl rfl Try.func46 (by kernel_rfl) rfl #[.slice A0 l0.length c0] rfl (by (try simp only [pml]); first | done | rfl | (simp only [pdt]; rfl)) ?_; (with_reducible refine (polygon_allowed.calls _ _ l0 false _ ?side1 ?side2 A5.out).mono ?_); (case side1 => repeat (first | exact HR0.out | (with_reducible refine Kd.C_alloc ?_ _) | (with_reducible refine Kd.C_drewN ?_ _) | (with_reducible refine Kd.C_drew ?_))); (case side2 => exact HC0.out); rintro e w30 ⟨rfl, hb⟩; refine ⟨_, rfl, ?_⟩; replace HB := bS HB hb; (try clear hb); (try clear hb2); (try clear hk); (try clear hi)))
    go_ret
    exact ⟨sqE, fW HB.out⟩

def polygon_end.f (l0 : List (S23)) (a1 : Int) : Option (Int × Int) := if (l0.length : Int) = 0 then (none) else (if 0 ≤ (Int.tmod (wrap64 (a1 + 1)) (l0.length : Int)) then (if (Int.tmod (wrap64 (a1 + 1)) (l0.length : Int)) < (l0.length : Int) then (some ((rd_T23 l0 (Int.tmod (wrap64 (a1 + 1)) (l0.length : Int))).f0, (rd_T23 l0 (Int.tmod (wrap64 (a1 + 1)) (l0.length : Int))).f1)) else (none)) else (none))
set_option maxHeartbeats 8000000 in
set_option maxRecDepth 100000 in
theorem polygon_end.calls (A0 : Option Addr) (c0 : Nat) (l0 : List (S23)) (a1 : Int) (r1 : Int) (r2 : Int) (w : World) (hr0 : Kd.C k23 w A0 l0.length l0) (hc0 : l0.length ≤ c0) (h : polygon_end.f l0 a1 = some (r1, r2)) :
  Calls Try.prog 40 #[.slice A0 l0.length c0, .int .i64 a1] w fun e w' => e = .returned (.agg #[.int .i64 r1, .int .i64 r2]) ∧ Below w.heap.size w w' := by
 have hu23 := Try.underlying23
 have HR0 := am hr0
 have HC0 := am hc0
 clear hr0 hc0
 have HB := am (Below.refl w.heap.size w)
 have H : (if (l0.length : Int) = 0 then (none) else (if 0 ≤ (Int.tmod (wrap64 (a1 + 1)) (l0.length : Int)) then (if (Int.tmod (wrap64 (a1 + 1)) (l0.length : Int)) < (l0.length : Int) then (some ((rd_T23 l0 (Int.tmod (wrap64 (a1 + 1)) (l0.length : Int))).f0, (rd_T23 l0 (Int.tmod (wrap64 (a1 + 1)) (l0.length : Int))).f1)) else (none)) else (none))) = some (r1, r2) := h
 clear h
 by_cases c3 : (l0.length : Int) = 0
 ·rw [if_pos c3] at H
  exact absurd H (by simp)
 ·rw [if_neg c3] at H
  have c3b0 : ((l0.length : Int) == 0) = false := beq_eq_false_iff_ne.mpr c3
  have c3b1 : ((l0.length : Int) != 0) = true := bne_iff_ne.mpr c3
  have c3b2 : ¬ (l0 = []) := fun h_ => c3 (by rw [h_]; rfl)
  obtain ⟨ji4, hji4⟩ : ∃ j_ : Int, (Int.tmod (wrap64 (a1 + 1)) (l0.length : Int)) = j_ := ⟨_, rfl⟩
  replace H : (if 0 ≤ (ji4) then (if (ji4) < (l0.length : Int) then (some ((rd_T23 l0 (ji4)).f0, (rd_T23 l0 (ji4)).f1)) else (none)) else (none)) = some (r1, r2) := by first | (rw [hji4] at H; exact H) | (simp only [hji4] at H ⊢; exact H)
  by_cases c5 : 0 ≤ (ji4)
  ·rw [if_pos c5] at H
   have c5b0 : decide (0 ≤ (ji4)) = true := decide_eq_true c5
   clear c5
   by_cases c6 : (ji4) < (l0.length : Int)
   ·rw [if_pos c6] at H
    have c6b0 : decide ((ji4) < (l0.length : Int)) = true := decide_eq_true c6
    clear c6
    simp only [Option.some.injEq, Prod.mk.injEq] at H
    obtain ⟨rfl, rfl⟩ := H
    go_enter Try.func40, Try.ntmps40
    go_wp2_with (first | ((with_reducible refine gd (N := 4) rfl ?_); refine be ?hg (N := 4) ?hd (cs := #[.int .i64 0, .int .i64 0]) (t := 23) ?hr ?_; (case hd | hg => rfl); (case hr => first | (go_simp; done) | (go_simp; rfl)); intro gb113 hg w7 hbox hb; have BK113 := am hbox; have GW113 := sG HB hg; have GE113 := sG HB hg; replace HB := bS HB hb; clear hb hbox hg; have p114 : 0 ≤ ((ji4) : Int) := of_decide_eq_true (by assumption); have q114 : (ji4) < (l0.length : Int) := of_decide_eq_true (by assumption); obtain ⟨ad114, e114, hx114_0, hx114_1⟩ := at_T23 HR0.out (ji4) p114 q114; cases e114; replace hx114_0 := cl HB hx114_0; replace hx114_1 := cl HB hx114_1; replace p114 := eq_true p114; replace q114 := eq_true q114; obtain ⟨_, _, _, _⟩ := zC2 BK113))
    refine bodyPost_ret (results_cell_row rfl _ _ gb113 23 #[.int .i64 ((rd_T23 l0 (ji4)).f0), .int .i64 ((rd_T23 l0 (ji4)).f1)] (0, 0) _ rfl (kkC BK113.out) Try.underlying23 rfl (by kernel_rfl)) rfl ?_
    exact ⟨by first | rfl | (simp [errW_none, errW_some] <;> rfl) | (simp only [← hji4]; first | rfl | (simp [errW_none, errW_some] <;> rfl)) | (simp [*, errW_none, errW_some] <;> rfl), fW HB.out⟩
   rw [if_neg c6] at H
   exact absurd H (by simp)
  ·rw [if_neg c5] at H
   exact absurd H (by simp)

def polygon_folded.f (a0_0 : Int) (a0_1 : Int) (a1_0 : Int) (a1_1 : Int) (a2_0 : Int) (a2_1 : Int) : Option (Bool) := (polygon_Orient.f a0_0 a0_1 a1_0 a1_1 a2_0 a2_1).bind fun t118 => (if t118 = 0 then (some (decide ((wrap64 ((wrap64 ((wrap64 (a0_0 - a1_0)) * (wrap64 (a2_0 - a1_0)))) + (wrap64 ((wrap64 (a0_1 - a1_1)) * (wrap64 (a2_1 - a1_1)))))) > 0))) else (some false))
set_option maxHeartbeats 8000000 in
set_option maxRecDepth 100000 in
theorem polygon_folded.calls (a0_0 : Int) (a0_1 : Int) (a1_0 : Int) (a1_1 : Int) (a2_0 : Int) (a2_1 : Int) (r : Bool) (w : World) (h : polygon_folded.f a0_0 a0_1 a1_0 a1_1 a2_0 a2_1 = some r) :
  Calls Try.prog 61 #[.agg #[.int .i64 a0_0, .int .i64 a0_1], .agg #[.int .i64 a1_0, .int .i64 a1_1], .agg #[.int .i64 a2_0, .int .i64 a2_1]] w fun e w' => e = .returned (.bool r) ∧ Below w.heap.size w w' := by
 have hu23 := Try.underlying23
 have HB := am (Below.refl w.heap.size w)
 have H : ((polygon_Orient.f a0_0 a0_1 a1_0 a1_1 a2_0 a2_1).bind fun t118 => (if t118 = 0 then (some (decide ((wrap64 ((wrap64 ((wrap64 (a0_0 - a1_0)) * (wrap64 (a2_0 - a1_0)))) + (wrap64 ((wrap64 (a0_1 - a1_1)) * (wrap64 (a2_1 - a1_1)))))) > 0))) else (some false))) = some r := h
 clear h
 replace H := Option.bind_eq_some_iff.mp H
 obtain ⟨t118, A40, H⟩ := H
 replace H : (if t118 = 0 then (some (decide ((wrap64 ((wrap64 ((wrap64 (a0_0 - a1_0)) * (wrap64 (a2_0 - a1_0)))) + (wrap64 ((wrap64 (a0_1 - a1_1)) * (wrap64 (a2_1 - a1_1)))))) > 0))) else (some false)) = some r := H
 have A4 := am A40
 clear A40
 by_cases c5 : t118 = 0
 ·rw [if_pos c5] at H
  have c5b0 : (t118 == 0) = true := beq_iff_eq.mpr c5
  have c5b1 : (t118 != 0) = false := bne_eq_false_iff_eq.mpr c5
  clear c5
  obtain rfl := Option.some.inj H
  go_enter Try.func61, Try.ntmps61
  go_wp2_with (first | ((with_reducible refine gd (N := 3) rfl ?_); refine be ?hg (N := 3) ?hd (cs := #[.int .i64 a0_0, .int .i64 a0_1]) (t := 23) ?hr ?_; (case hd | hg => rfl); (case hr => first | (go_simp; done) | (go_simp; rfl)); intro gb115 hg w6 hbox hb; have BK115 := am hbox; have GW115 := sG HB hg; have GE115 := sG HB hg; replace HB := bS HB hb; clear hb hbox hg) | ((with_reducible refine gd (N := 4) rfl ?_); refine be ?hg (N := 4) ?hd (cs := #[.int .i64 a1_0, .int .i64 a1_1]) (t := 23) ?hr ?_; (case hd | hg => rfl); (case hr => first | (go_simp; done) | (go_simp; rfl)); intro gb116 hg w7 hbox hb; have BK116 := am hbox; have GW116 := sG HB hg; have GE116 := sG HB hg; replace HB := bS HB hb; have NB115_116 := nL BK115 hg; have NB116_115 := nG BK115 hg; replace BK115 := bB BK115 hb; clear hb hbox hg) | ((with_reducible refine gd (N := 5) rfl ?_); refine be ?hg (N := 5) ?hd (cs := #[.int .i64 a2_0, .int .i64 a2_1]) (t := 23) ?hr ?_; (case hd | hg => rfl); (case hr => first | (go_simp; done) | (go_simp; rfl)); intro gb117 hg w8 hbox hb; have BK117 := am hbox; have GW117 := sG HB hg; have GE117 := sG HB hg; replace HB := bS HB hb; have NB115_117 := nL BK115 hg; have NB117_115 := nG BK115 hg; replace BK115 := bB BK115 hb; have NB116_117 := nL BK116 hg; have NB117_116 := nG BK116 hg; replace BK116 := bB BK116 hb; clear hb hbox hg; have hnb9 := NB115_116.out; have hnc9 := NB116_115.out; have hnb10 := NB115_117.out; have hnc10 := NB117_115.out; obtain ⟨_, _, _, _⟩ := zC2 BK115; have hnb12 := NB116_117.out; have hnc12 := NB117_116.out; obtain ⟨_, _, _, _⟩ := zC2 BK116; obtain ⟨_, _, _, _⟩ := zC2 BK117) | ((with_reducible refine gc (f := 13) rfl ?_); refine goesL_ (some 10) rfl rfl Try.func13 (by kernel_rfl) rfl #[.agg #[.int .i64 a0_0, .int .i64 a0_1], .agg #[.int .i64 a1_0, .int .i64 a1_1], .agg #[.int .i64 a2_0, .int .i64 a2_1]] rfl (by (try simp only [pml]); first | done | rfl | (simp only [pdt]; rfl)) ?_; (with_reducible refine (polygon_Orient.calls a0_0 a0_1 a1_0 a1_1 a2_0 a2_1 t118 _ A4.out).mono ?_); rintro e w15 ⟨rfl, hb⟩; refine ⟨_, rfl, ?_⟩; replace BK115 := bB BK115 hb; replace BK116 := bB BK116 hb; replace BK117 := bB BK117 hb; replace HB := bS HB hb; (try clear hb); (try clear hb2); (try clear hk); (try clear hi); obtain ⟨_, _, _, _⟩ := zC2 BK115; obtain ⟨_, _, _, _⟩ := zC2 BK116; obtain ⟨_, _, _, _⟩ := zC2 BK117))
  go_ret
  exact ⟨sqE, fW HB.out⟩
 ·rw [if_neg c5] at H
  have c5b0 : (t118 == 0) = false := beq_eq_false_iff_ne.mpr c5
  have c5b1 : (t118 != 0) = true := bne_iff_ne.mpr c5
  obtain rfl := Option.some.inj H
  go_enter Try.func61, Try.ntmps61
  go_wp2_with (first | ((with_reducible refine gd (N := 3) rfl ?_); refine be ?hg (N := 3) ?hd (cs := #[.int .i64 a0_0, .int .i64 a0_1]) (t := 23) ?hr ?_; (case hd | hg => rfl); (case hr => first | (go_simp; done) | (go_simp; rfl)); intro gb115 hg w19 hbox hb; have BK115 := am hbox; have GW115 := sG HB hg; have GE115 := sG HB hg; replace HB := bS HB hb; clear hb hbox hg) | ((with_reducible refine gd (N := 4) rfl ?_); refine be ?hg (N := 4) ?hd (cs := #[.int .i64 a1_0, .int .i64 a1_1]) (t := 23) ?hr ?_; (case hd | hg => rfl); (case hr => first | (go_simp; done) | (go_simp; rfl)); intro gb116 hg w20 hbox hb; have BK116 := am hbox; have GW116 := sG HB hg; have GE116 := sG HB hg; replace HB := bS HB hb; have NB115_116 := nL BK115 hg; have NB116_115 := nG BK115 hg; replace BK115 := bB BK115 hb; clear hb hbox hg) | ((with_reducible refine gd (N := 5) rfl ?_); refine be ?hg (N := 5) ?hd (cs := #[.int .i64 a2_0, .int .i64 a2_1]) (t := 23) ?hr ?_; (case hd | hg => rfl); (case hr => first | (go_simp; done) | (go_simp; rfl)); intro gb117 hg w21 hbox hb; have BK117 := am hbox; have GW117 := sG HB hg; have GE117 := sG HB hg; replace HB := bS HB hb; have NB115_117 := nL BK115 hg; have NB117_115 := nG BK115 hg; replace BK115 := bB BK115 hb; have NB116_117 := nL BK116 hg; have NB117_116 := nG BK116 hg; replace BK116 := bB BK116 hb; clear hb hbox hg; have hnb22 := NB115_116.out; have hnc22 := NB116_115.out; have hnb23 := NB115_117.out; have hnc23 := NB117_115.out; obtain ⟨_, _, _, _⟩ := zC2 BK115; have hnb25 := NB116_117.out; have hnc25 := NB117_116.out; obtain ⟨_, _, _, _⟩ := zC2 BK116; obtain ⟨_, _, _, _⟩ := zC2 BK117) | ((with_reducible refine gc (f := 13) rfl ?_); refine goesL_ (some 10) rfl rfl Try.func13 (by kernel_rfl) rfl #[.agg #[.int .i64 a0_0, .int .i64 a0_1], .agg #[.int .i64 a1_0, .int .i64 a1_1], .agg #[.int .i64 a2_0, .int .i64 a2_1]] rfl (by (try simp only [pml]); first | done | rfl | (simp only [pdt]; rfl)) ?_; (with_reducible refine (polygon_Orient.calls a0_0 a0_1 a1_0 a1_1 a2_0 a2_1 t118 _ A4.out).mono ?_); rintro e w28 ⟨rfl, hb⟩; refine ⟨_, rfl, ?_⟩; replace BK115 := bB BK115 hb; replace BK116 := bB BK116 hb; replace BK117 := bB BK117 hb; replace HB := bS HB hb; (try clear hb); (try clear hb2); (try clear hk); (try clear hi)))
  go_ret
  exact ⟨sqE, fW HB.out⟩

end Go.Proofs.Ytcembjgpcbodcaa.QA
