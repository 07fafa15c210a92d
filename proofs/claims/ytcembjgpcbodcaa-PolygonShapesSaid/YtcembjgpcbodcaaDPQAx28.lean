import Derived.Test.YtcembjgpcbodcaaDPQAx0
import Derived.Test.YtcembjgpcbodcaaDPQAx11
import Derived.Test.YtcembjgpcbodcaaDPQAx12
import Derived.Test.YtcembjgpcbodcaaDPQAx15
namespace Go.Proofs.Ytcembjgpcbodcaa.QA
open Go.RowKit Go.Proofs.YtcembjgpcbodcaaW.PrintWords Go.Proofs.YtcembjgpcbodcaaW.PrintLast Go.Proofs.YtcembjgpcbodcaaW.PrintMore
open Go.Proofs.YtcembjgpcbodcaaW.PrintWords renaming below_alloc → wa, pw_below_drewN → wN, below_drew1 → wd
open Aside0 renaming mk → am
open World renaming block_lt_of_cell? → bq
attribute [local go_sem] max2_int min2_int max_two min_two max_three min_three max_four min_four
set_option linter.unusedVariables false
set_option linter.unusedSimpArgs false

def r_Convex.l0 : Nat → List (S23) → Int → Option (Bool)
 | 0, _, _ => none
 | k + 1, x0, x3 => if x3 < (x0.length : Int) then ((r_next.f x0 x3).bind fun t541 => (if 0 ≤ x3 then (if 0 ≤ t541 then (if t541 < (x0.length : Int) then ((r_next.f x0 t541).bind fun t544 => (if 0 ≤ t544 then (if t544 < (x0.length : Int) then ((r_Orient.f ((rd_T23 x0 x3).f0) ((rd_T23 x0 x3).f1) ((rd_T23 x0 t541).f0) ((rd_T23 x0 t541).f1) ((rd_T23 x0 t544).f0) ((rd_T23 x0 t544).f1)).bind fun t546 => (if t546 = 1 then (r_Convex.l0 k x0 (wrap64 (x3 + 1))) else (some false))) else (none)) else (none))) else (none)) else (none)) else (none))) else ((r_Simple.f k x0).bind fun t547 => (some t547))
def r_Convex.f (k : Nat) (l0 : List (S23)) : Option (Bool) := r_Convex.l0 k l0 0
def r_Convex.T5 : Bool × List (List Nat × List Nat) := (true, [([], []), ([], []), ([0, 1], [0, 1]), ([2], [2]), ([], []), ([], []), ([4, 5], [4, 5]), ([6], [6]), ([], []), ([], []), ([], []), ([9, 10], [9, 10]), ([8, 11], [8, 11]), ([12], [12]), ([3, 7, 13, 11], [3, 7, 13]), ([14], [14])])
def r_Convex.B5 : List Nat := [0, 0, 3, 7, 0, 0, 48, 112, 0, 0, 0, 1536, 3840, 7936, 16383, 32767]
theorem r_Convex.tab5 : rtab .any (opsOf Try.f34 5) = r_Convex.T5 := by kernel_rfl
theorem r_Convex.bits5 : waitsOk r_Convex.T5.2 r_Convex.B5 = true := by kernel_rfl
set_option maxHeartbeats 8000000 in
set_option maxRecDepth 100000 in
theorem r_Convex.calls (k : Nat) (A0 : Option Addr) (c0 : Nat) (l0 : List (S23)) (r : Bool) (w : World) (hr0 : Kd.C k23 w A0 l0.length l0) (hc0 : l0.length ≤ c0) (h : r_Convex.f k l0 = some r) :
  Calls Try.prog 34 #[.slice A0 l0.length c0] w fun e w' => e = .returned (.bool r) ∧ Below w.heap.size w w' := by
 have hu23 := Try.underlying23
 have HR0 := am hr0
 have HC0 := am hc0
 clear hr0 hc0
 have HB := am (Below.refl w.heap.size w)
 have H : (r_Convex.l0 k l0 0) = some r := h
 clear h
 have H' := am H
 clear H
 go_enter Try.func34, Try.ntmps34
 go_wp2
 go_loopg [3] k (fun kq v3 w' => ∃ (x3_1 : Int), v3 = .int .i64 x3_1 ∧ Aside0 (r_Convex.l0 kq l0 x3_1 = some r) ∧ Aside0 (kq ≤ k) ∧ Aside0 (Below w.heap.size w w'))
 case atStart => exact ⟨(0), (by first | rfl | (simp; done) | (simp [*]; done)), H', ⟨Nat.le_refl _⟩, ⟨by repeat (first | (with_reducible first | exact HB.out | apply wa | apply wN | apply wd) | exact HB.out)⟩⟩
 case round =>
  clear H'
  obtain ⟨x3_1, rfl, HA, HK1, HB⟩ := hrel
  cases gk with
  | zero => exact absurd HA.out (by simp [r_Convex.l0])
  | succ k1 =>
   have H := HA.out
   clear HA
   simp only [r_Convex.l0] at H
   by_cases c2 : x3_1 < (l0.length : Int)
   ·rw [if_pos c2] at H
    have c2b0 : decide (x3_1 < (l0.length : Int)) = true := decide_eq_true c2
    clear c2
    replace H := Option.bind_eq_some_iff.mp H
    obtain ⟨t541, A30, H⟩ := H
    replace H : (if 0 ≤ x3_1 then (if 0 ≤ t541 then (if t541 < (l0.length : Int) then ((r_next.f l0 t541).bind fun t544 => (if 0 ≤ t544 then (if t544 < (l0.length : Int) then ((r_Orient.f ((rd_T23 l0 x3_1).f0) ((rd_T23 l0 x3_1).f1) ((rd_T23 l0 t541).f0) ((rd_T23 l0 t541).f1) ((rd_T23 l0 t544).f0) ((rd_T23 l0 t544).f1)).bind fun t546 => (if t546 = 1 then (r_Convex.l0 k1 l0 (wrap64 (x3_1 + 1))) else (some false))) else (none)) else (none))) else (none)) else (none)) else (none)) = some r := H
    have A3 := am A30
    clear A30
    by_cases c4 : 0 ≤ x3_1
    rotate_left
    ·rw [if_neg c4] at H
     exact absurd H (by simp)
    rw [if_pos c4] at H
    have c4b0 : decide (0 ≤ x3_1) = true := decide_eq_true c4
    clear c4
    by_cases c5 : 0 ≤ t541
    rotate_left
    ·rw [if_neg c5] at H
     exact absurd H (by simp)
    rw [if_pos c5] at H
    have c5b0 : decide (0 ≤ t541) = true := decide_eq_true c5
    clear c5
    by_cases c6 : t541 < (l0.length : Int)
    rotate_left
    ·rw [if_neg c6] at H
     exact absurd H (by simp)
    rw [if_pos c6] at H
    have c6b0 : decide (t541 < (l0.length : Int)) = true := decide_eq_true c6
    clear c6
    replace H := Option.bind_eq_some_iff.mp H
    obtain ⟨t544, A70, H⟩ := H
    replace H : (if 0 ≤ t544 then (if t544 < (l0.length : Int) then ((r_Orient.f ((rd_T23 l0 x3_1).f0) ((rd_T23 l0 x3_1).f1) ((rd_T23 l0 t541).f0) ((rd_T23 l0 t541).f1) ((rd_T23 l0 t544).f0) ((rd_T23 l0 t544).f1)).bind fun t546 => (if t546 = 1 then (r_Convex.l0 k1 l0 (wrap64 (x3_1 + 1))) else (some false))) else (none)) else (none)) = some r := H
    have A7 := am A70
    clear A70
    by_cases c8 : 0 ≤ t544
    rotate_left
    ·rw [if_neg c8] at H
     exact absurd H (by simp)
    rw [if_pos c8] at H
    have c8b0 : decide (0 ≤ t544) = true := decide_eq_true c8
    clear c8
    by_cases c9 : t544 < (l0.length : Int)
    rotate_left
    ·rw [if_neg c9] at H
     exact absurd H (by simp)
    rw [if_pos c9] at H
    have c9b0 : decide (t544 < (l0.length : Int)) = true := decide_eq_true c9
    clear c9
    replace H := Option.bind_eq_some_iff.mp H
    obtain ⟨t546, A100, H⟩ := H
    replace H : (if t546 = 1 then (r_Convex.l0 k1 l0 (wrap64 (x3_1 + 1))) else (some false)) = some r := H
    have A10 := am A100
    clear A100
    by_cases c11 : t546 = 1
    ·rw [if_pos c11] at H
     have c11b0 : (t546 == 1) = true := beq_iff_eq.mpr c11
     have c11b1 : (t546 != 1) = false := bne_eq_false_iff_eq.mpr c11
     clear c11
     have H' := am H
     clear H
     try go_wp2_with (first | ((with_reducible refine gate_callee (f := 42) rfl ?_); refine goesL_ (some 13) rfl rfl Try.func42 (by kernel_rfl) rfl #[.slice A0 l0.length c0, .int .i64 x3_1] rfl (by (try simp only [pml]); first | done | rfl | (simp only [pdt]; rfl)) ?_; (with_reducible refine (r_next.calls _ _ l0 x3_1 t541 _ ?side1 ?side2 A3.out).mono ?_); (case side1 => repeat (first | exact (Kd.C_below HR0.out HB.out) | (with_reducible refine Kd.C_alloc ?_ _) | (with_reducible refine Kd.C_drewN ?_ _) | (with_reducible refine Kd.C_drew ?_))); (case side2 => exact HC0.out); rintro e w' ⟨rfl, ⟨nd, rfl⟩⟩; refine ⟨_, rfl, ?_⟩))
     (try (rw [drewN_self wr]; generalize hq_ : World.drewN wr _ = wr; have n0_ : Aside0 (Below w.heap.size w wr) := ⟨by rw [← hq_]; exact (by repeat (first | (with_reducible first | exact HB.out | apply wa | apply wN | apply wd) | exact HB.out))⟩; clear HB hq_; have HB := n0_; clear n0_))
     have n0_ := am (wd HB.out)
     clear HB
     have HB := n0_
     clear n0_
     have p542 : 0 ≤ (x3_1 : Int) := of_decide_eq_true (by assumption)
     have q542 : x3_1 < (l0.length : Int) := of_decide_eq_true (by assumption)
     obtain ⟨ad542, e542, hx542_0, hx542_1⟩ := at_T23 HR0.out x3_1 p542 q542
     have hw542_1 := hx542_1
     have hw542_0 := hx542_0
     cases e542
     replace hx542_0 := (HB.out.cell (bq w _ hx542_0)).trans hx542_0
     replace hx542_1 := (HB.out.cell (bq w _ hx542_1)).trans hx542_1
     replace p542 := eq_true p542
     replace q542 := eq_true q542
     have p543 : 0 ≤ (t541 : Int) := of_decide_eq_true (by assumption)
     have q543 : t541 < (l0.length : Int) := of_decide_eq_true (by assumption)
     obtain ⟨ad543, e543, hx543_0, hx543_1⟩ := at_T23 HR0.out t541 p543 q543
     have hw543_1 := hx543_1
     have hw543_0 := hx543_0
     obtain rfl : ad542 = ad543 := (by injection e543)
     replace hx543_0 := (HB.out.cell (bq w _ hx543_0)).trans hx543_0
     replace hx543_1 := (HB.out.cell (bq w _ hx543_1)).trans hx543_1
     replace p543 := eq_true p543
     replace q543 := eq_true q543
     have p545 : 0 ≤ (t544 : Int) := of_decide_eq_true (by assumption)
     have q545 : t544 < (l0.length : Int) := of_decide_eq_true (by assumption)
     obtain ⟨ad545, e545, hx545_0, hx545_1⟩ := at_T23 HR0.out t544 p545 q545
     have hw545_1 := hx545_1
     have hw545_0 := hx545_0
     obtain rfl : ad542 = ad545 := (by injection e545)
     replace hx545_0 := (HB.out.cell (bq w _ hx545_0)).trans hx545_0
     replace hx545_1 := (HB.out.cell (bq w _ hx545_1)).trans hx545_1
     replace p545 := eq_true p545
     replace q545 := eq_true q545
     refine start_ (n := 16) (S := fun w' => w'.cell? (ad542.add ((x3_1).toNat * 2)) = some (.int .i64 ((rd_T23 l0 x3_1).f0)) ∧ w'.cell? ⟨(ad542.add ((x3_1).toNat * 2)).block, (ad542.add ((x3_1).toNat * 2)).off + 1, none⟩ = some (.int .i64 ((rd_T23 l0 x3_1).f1)) ∧ w'.cell? (ad542.add ((t541).toNat * 2)) = some (.int .i64 ((rd_T23 l0 t541).f0)) ∧ w'.cell? ⟨(ad542.add ((t541).toNat * 2)).block, (ad542.add ((t541).toNat * 2)).off + 1, none⟩ = some (.int .i64 ((rd_T23 l0 t541).f1)) ∧ w'.cell? (ad542.add ((t544).toNat * 2)) = some (.int .i64 ((rd_T23 l0 t544).f0)) ∧ w'.cell? ⟨(ad542.add ((t544).toNat * 2)).block, (ad542.add ((t544).toNat * 2)).off + 1, none⟩ = some (.int .i64 ((rd_T23 l0 t544).f1))) (ds := []) #[F,F,F,F,F,F,F,F,F,F,F,F,F,F,F,F] (by kernel_rfl) rfl rfl ⟨((HB.out.cell (bq w _ hw542_0)).trans hw542_0), ((HB.out.cell (bq w _ hw542_1)).trans hw542_1), ((HB.out.cell (bq w _ hw543_0)).trans hw543_0), ((HB.out.cell (bq w _ hw543_1)).trans hw543_1), ((HB.out.cell (bq w _ hw545_0)).trans hw545_0), ((HB.out.cell (bq w _ hw545_1)).trans hw545_1)⟩ (fun hHeld => ?_); refine with_tabW r_Convex.tab5 r_Convex.bits5 (fun HT_ HW_ => ?_)
     generalize wr.drew = w12 at HB hx542_0 hx542_1 hx543_0 hx543_1 hx545_0 hx545_1 hHeld ⊢
     refine pure_ (i := 0) (N := some 14) (v := ?_) (a' := ?_) #[T,F,F,F,F,F,F,F,F,F,F,F,F,F,F,F] rfl rfl (any_of HT_.out (by kernel_rfl)) (fun _ _ _ h => h) (Or.inl ⟨by rfl, ?_⟩) ?_ ?_
     rotate_left
     ·intro w'
      go_simp
      with_reducible rfl
     rotate_left
     ·simp only [Act.put, psl, i64_w, i32_w]
      rfl
     refine pure_ (i := 1) (N := some 15) (v := ?_) (a' := ?_) #[T,T,F,F,F,F,F,F,F,F,F,F,F,F,F,F] rfl rfl (any_of HT_.out (by kernel_rfl)) (fun _ _ _ h => h) (Or.inl ⟨by rfl, ?_⟩) ?_ ?_
     rotate_left
     ·intro w'
      go_simp
      with_reducible rfl
     rotate_left
     ·simp only [Act.put, psl, i64_w, i32_w]
      rfl
     refine pure_ (i := 2) (N := some 16) (v := ?_) (a' := ?_) #[T,T,T,F,F,F,F,F,F,F,F,F,F,F,F,F] rfl rfl (any_of HT_.out (by kernel_rfl)) (fun _ _ _ h => h) (Or.inl ⟨by rfl, ?_⟩) ?_ ?_
     rotate_left
     ·intro w'
      go_simp
      with_reducible rfl
     rotate_left
     ·simp only [Act.put, psl, i64_w, i32_w]
      rfl
     refine pure_ (i := 4) (N := some 18) (v := ?_) (a' := ?_) #[T,T,T,F,T,F,F,F,F,F,F,F,F,F,F,F] rfl rfl (any_of HT_.out (by kernel_rfl)) (fun _ _ _ h => h) (Or.inl ⟨by rfl, ?_⟩) ?_ ?_
     rotate_left
     ·intro w'
      go_simp
      with_reducible rfl
     rotate_left
     ·simp only [Act.put, psl, i64_w, i32_w]
      rfl
     refine pure_ (i := 5) (N := some 19) (v := ?_) (a' := ?_) #[T,T,T,F,T,T,F,F,F,F,F,F,F,F,F,F] rfl rfl (any_of HT_.out (by kernel_rfl)) (fun _ _ _ h => h) (Or.inl ⟨by rfl, ?_⟩) ?_ ?_
     rotate_left
     ·intro w'
      go_simp
      with_reducible rfl
     rotate_left
     ·simp only [Act.put, psl, i64_w, i32_w]
      rfl
     refine pure_ (i := 6) (N := some 20) (v := ?_) (a' := ?_) #[T,T,T,F,T,T,T,F,F,F,F,F,F,F,F,F] rfl rfl (any_of HT_.out (by kernel_rfl)) (fun _ _ _ h => h) (Or.inl ⟨by rfl, ?_⟩) ?_ ?_
     rotate_left
     ·intro w'
      go_simp
      with_reducible rfl
     rotate_left
     ·simp only [Act.put, psl, i64_w, i32_w]
      rfl
     refine pure_ (i := 8) (N := some 22) (v := ?_) (a' := ?_) #[T,T,T,F,T,T,T,F,T,F,F,F,F,F,F,F] rfl rfl (any_of HT_.out (by kernel_rfl)) (fun _ _ _ h => h) (Or.inl ⟨by rfl, ?_⟩) ?_ ?_
     rotate_left
     ·intro w'
      go_simp
      with_reducible rfl
     rotate_left
     ·simp only [Act.put, psl, i64_w, i32_w]
      rfl
     refine pure_ (i := 9) (N := some 23) (v := ?_) (a' := ?_) #[T,T,T,F,T,T,T,F,T,T,F,F,F,F,F,F] rfl rfl (any_of HT_.out (by kernel_rfl)) (fun _ _ _ h => h) (Or.inl ⟨by rfl, ?_⟩) ?_ ?_
     rotate_left
     ·intro w'
      go_simp
      with_reducible rfl
     rotate_left
     ·simp only [Act.put, psl, i64_w, i32_w]
      rfl
     refine pure_ (i := 10) (N := some 24) (v := ?_) (a' := ?_) #[T,T,T,F,T,T,T,F,T,T,T,F,F,F,F,F] rfl rfl (any_of HT_.out (by kernel_rfl)) (fun _ _ _ h => h) (Or.inl ⟨by rfl, ?_⟩) ?_ ?_
     rotate_left
     ·intro w'
      go_simp
      with_reducible rfl
     rotate_left
     ·simp only [Act.put, psl, i64_w, i32_w]
      rfl
     refine take_ (i := 3) (N := some 17) (v := ?_) (a' := ?_) #[T,T,T,T,T,T,T,F,T,T,T,F,F,F,F,F] rfl rfl (take_ofW HT_.out HW_.out (by kernel_rfl)) (fun _ _ _ h => h) (Or.inl ⟨by rfl, ?_⟩) hHeld ?_ ?_
     rotate_left
     ·rintro w' ⟨s0, s1, s2, s3, s4, s5⟩
      go_simp
      with_reducible rfl
     rotate_left
     ·simp only [Act.put, psl, i64_w, i32_w]
      rfl
     refine take_ (i := 7) (N := some 21) (v := ?_) (a' := ?_) #[T,T,T,T,T,T,T,T,T,T,T,F,F,F,F,F] rfl rfl (take_ofW HT_.out HW_.out (by kernel_rfl)) (fun _ _ _ h => h) (Or.inl ⟨by rfl, ?_⟩) hHeld ?_ ?_
     rotate_left
     ·rintro w' ⟨s0, s1, s2, s3, s4, s5⟩
      go_simp
      with_reducible rfl
     rotate_left
     ·simp only [Act.put, psl, i64_w, i32_w]
      rfl
     refine one_ (i := 11) (N := some 25) #[T,T,T,T,T,T,T,T,T,T,T,T,F,F,F,F] rfl rfl (one_of HT_.out (by kernel_rfl)) (by decide) (fun K hK => ?_)
     refine goes_ Try.func42 (by kernel_rfl) rfl #[.slice (some ad542) l0.length c0, .int .i64 t541] (by rfl) rfl rfl (by (try simp only [pml]); first | done | rfl | (simp only [pdt]; rfl)) ?_
     with_reducible refine (r_next.calls _ _ l0 t541 t544 _ ?side1 ?side2 A7.out).mono ?_
     (case side1 => repeat (first | exact (Kd.C_below HR0.out HB.out) | (with_reducible refine Kd.C_alloc ?_ _) | (with_reducible refine Kd.C_drewN ?_ _) | (with_reducible refine Kd.C_drew ?_)))
     (case side2 => exact HC0.out)
     rintro e w' ⟨rfl, ⟨nd, rfl⟩⟩
     refine ⟨_, rfl, ?_⟩
     refine hK.out _ _ ⟨((HB.out.cell (bq w _ hw542_0)).trans hw542_0), ((HB.out.cell (bq w _ hw542_1)).trans hw542_1), ((HB.out.cell (bq w _ hw543_0)).trans hw543_0), ((HB.out.cell (bq w _ hw543_1)).trans hw543_1), ((HB.out.cell (bq w _ hw545_0)).trans hw545_0), ((HB.out.cell (bq w _ hw545_1)).trans hw545_1)⟩ (fun hHeld => ?_)
     clear hK K
     refine norm_ (a' := ?_) ?_ ?_
     rotate_left
     ·show Act.put _ (some 25) _ = _
      simp only [Act.put, psl, i64_w, i32_w]
      rfl
     refine pure_ (i := 12) (N := some 26) (v := ?_) (a' := ?_) #[T,T,T,T,T,T,T,T,T,T,T,T,T,F,F,F] rfl rfl (any_of HT_.out (by kernel_rfl)) (fun _ _ _ h => h) (Or.inl ⟨by rfl, ?_⟩) ?_ ?_
     rotate_left
     ·intro w'
      go_simp
      with_reducible rfl
     rotate_left
     ·simp only [Act.put, psl, i64_w, i32_w]
      rfl
     refine take_ (i := 13) (N := some 27) (v := ?_) (a' := ?_) #[T,T,T,T,T,T,T,T,T,T,T,T,T,T,F,F] rfl rfl (take_ofW HT_.out HW_.out (by kernel_rfl)) (fun _ _ _ h => h) (Or.inl ⟨by rfl, ?_⟩) hHeld ?_ ?_
     rotate_left
     ·rintro w' ⟨s0, s1, s2, s3, s4, s5⟩
      go_simp
      with_reducible rfl
     rotate_left
     ·simp only [Act.put, psl, i64_w, i32_w]
      rfl
     refine one_ (i := 14) (N := some 28) #[T,T,T,T,T,T,T,T,T,T,T,T,T,T,T,F] rfl rfl (one_of HT_.out (by kernel_rfl)) (by decide) (fun K hK => ?_)
     refine goes_ Try.func14 (by kernel_rfl) rfl #[.agg #[.int .i64 ((rd_T23 l0 x3_1).f0), .int .i64 ((rd_T23 l0 x3_1).f1)], .agg #[.int .i64 ((rd_T23 l0 t541).f0), .int .i64 ((rd_T23 l0 t541).f1)], .agg #[.int .i64 ((rd_T23 l0 t544).f0), .int .i64 ((rd_T23 l0 t544).f1)]] (by rfl) rfl rfl (by (try simp only [pml]); first | done | rfl | (simp only [pdt]; rfl)) ?_
     with_reducible refine (r_Orient.calls ((rd_T23 l0 x3_1).f0) ((rd_T23 l0 x3_1).f1) ((rd_T23 l0 t541).f0) ((rd_T23 l0 t541).f1) ((rd_T23 l0 t544).f0) ((rd_T23 l0 t544).f1) t546 _ A10.out).mono ?_
     rintro e w13 ⟨rfl, hb⟩
     refine ⟨_, rfl, ?_⟩
     have n0_ := am (below_step (by repeat (first | (with_reducible first | exact HB.out | apply wa | apply wN | apply wd) | exact HB.out)) hb)
     clear HB
     have HB := n0_
     clear n0_
     (try clear hb)
     (try clear hb2)
     (try clear hk)
     (try clear hi)
     refine hK.out _ _ ⟨((HB.out.cell (bq w _ hw542_0)).trans hw542_0), ((HB.out.cell (bq w _ hw542_1)).trans hw542_1), ((HB.out.cell (bq w _ hw543_0)).trans hw543_0), ((HB.out.cell (bq w _ hw543_1)).trans hw543_1), ((HB.out.cell (bq w _ hw545_0)).trans hw545_0), ((HB.out.cell (bq w _ hw545_1)).trans hw545_1)⟩ (fun hHeld => ?_)
     clear hK K
     refine norm_ (a' := ?_) ?_ ?_
     rotate_left
     ·show Act.put _ (some 28) _ = _
      simp only [Act.put, psl, i64_w, i32_w]
      rfl
     refine pure_ (i := 15) (N := some 29) (v := ?_) (a' := ?_) #[T,T,T,T,T,T,T,T,T,T,T,T,T,T,T,T] rfl rfl (any_of HT_.out (by kernel_rfl)) (fun _ _ _ h => h) (Or.inl ⟨by rfl, ?_⟩) ?_ ?_
     rotate_left
     ·intro w'
      go_simp
      with_reducible rfl
     rotate_left
     ·simp only [Act.put, psl, i64_w, i32_w]
      rfl
     refine done_ (done_of HT_.out (by kernel_rfl)) ?_
     try go_wp2
     go_roundg k1
     case measure => have := HK1.out; omega
     case rel => exact ⟨(wrap64 (x3_1 + 1)), (by first | rfl | (simp; done) | (simp [*]; done)), H', ⟨by have := HK1.out; omega⟩, ⟨by repeat (first | (with_reducible first | exact HB.out | apply wa | apply wN | apply wd) | exact HB.out)⟩⟩
    rw [if_neg c11] at H
    have c11b0 : (t546 == 1) = false := beq_eq_false_iff_ne.mpr c11
    have c11b1 : (t546 != 1) = true := bne_iff_ne.mpr c11
    obtain rfl := Option.some.inj H
    try go_wp2_with (first | ((with_reducible refine gate_callee (f := 42) rfl ?_); refine goesL_ (some 13) rfl rfl Try.func42 (by kernel_rfl) rfl #[.slice A0 l0.length c0, .int .i64 x3_1] rfl (by (try simp only [pml]); first | done | rfl | (simp only [pdt]; rfl)) ?_; (with_reducible refine (r_next.calls _ _ l0 x3_1 t541 _ ?side1 ?side2 A3.out).mono ?_); (case side1 => repeat (first | exact (Kd.C_below HR0.out HB.out) | (with_reducible refine Kd.C_alloc ?_ _) | (with_reducible refine Kd.C_drewN ?_ _) | (with_reducible refine Kd.C_drew ?_))); (case side2 => exact HC0.out); rintro e w' ⟨rfl, ⟨nd, rfl⟩⟩; refine ⟨_, rfl, ?_⟩))
    (try (rw [drewN_self wr]; generalize hq_ : World.drewN wr _ = wr; have n0_ : Aside0 (Below w.heap.size w wr) := ⟨by rw [← hq_]; exact (by repeat (first | (with_reducible first | exact HB.out | apply wa | apply wN | apply wd) | exact HB.out))⟩; clear HB hq_; have HB := n0_; clear n0_))
    have n0_ := am (wd HB.out)
    clear HB
    have HB := n0_
    clear n0_
    have p542 : 0 ≤ (x3_1 : Int) := of_decide_eq_true (by assumption)
    have q542 : x3_1 < (l0.length : Int) := of_decide_eq_true (by assumption)
    obtain ⟨ad542, e542, hx542_0, hx542_1⟩ := at_T23 HR0.out x3_1 p542 q542
    have hw542_1 := hx542_1
    have hw542_0 := hx542_0
    cases e542
    replace hx542_0 := (HB.out.cell (bq w _ hx542_0)).trans hx542_0
    replace hx542_1 := (HB.out.cell (bq w _ hx542_1)).trans hx542_1
    replace p542 := eq_true p542
    replace q542 := eq_true q542
    have p543 : 0 ≤ (t541 : Int) := of_decide_eq_true (by assumption)
    have q543 : t541 < (l0.length : Int) := of_decide_eq_true (by assumption)
    obtain ⟨ad543, e543, hx543_0, hx543_1⟩ := at_T23 HR0.out t541 p543 q543
    have hw543_1 := hx543_1
    have hw543_0 := hx543_0
    obtain rfl : ad542 = ad543 := (by injection e543)
    replace hx543_0 := (HB.out.cell (bq w _ hx543_0)).trans hx543_0
    replace hx543_1 := (HB.out.cell (bq w _ hx543_1)).trans hx543_1
    replace p543 := eq_true p543
    replace q543 := eq_true q543
    have p545 : 0 ≤ (t544 : Int) := of_decide_eq_true (by assumption)
    have q545 : t544 < (l0.length : Int) := of_decide_eq_true (by assumption)
    obtain ⟨ad545, e545, hx545_0, hx545_1⟩ := at_T23 HR0.out t544 p545 q545
    have hw545_1 := hx545_1
    have hw545_0 := hx545_0
    obtain rfl : ad542 = ad545 := (by injection e545)
    replace hx545_0 := (HB.out.cell (bq w _ hx545_0)).trans hx545_0
    replace hx545_1 := (HB.out.cell (bq w _ hx545_1)).trans hx545_1
    replace p545 := eq_true p545
    replace q545 := eq_true q545
    refine start_ (n := 16) (S := fun w' => w'.cell? (ad542.add ((x3_1).toNat * 2)) = some (.int .i64 ((rd_T23 l0 x3_1).f0)) ∧ w'.cell? ⟨(ad542.add ((x3_1).toNat * 2)).block, (ad542.add ((x3_1).toNat * 2)).off + 1, none⟩ = some (.int .i64 ((rd_T23 l0 x3_1).f1)) ∧ w'.cell? (ad542.add ((t541).toNat * 2)) = some (.int .i64 ((rd_T23 l0 t541).f0)) ∧ w'.cell? ⟨(ad542.add ((t541).toNat * 2)).block, (ad542.add ((t541).toNat * 2)).off + 1, none⟩ = some (.int .i64 ((rd_T23 l0 t541).f1)) ∧ w'.cell? (ad542.add ((t544).toNat * 2)) = some (.int .i64 ((rd_T23 l0 t544).f0)) ∧ w'.cell? ⟨(ad542.add ((t544).toNat * 2)).block, (ad542.add ((t544).toNat * 2)).off + 1, none⟩ = some (.int .i64 ((rd_T23 l0 t544).f1))) (ds := []) #[F,F,F,F,F,F,F,F,F,F,F,F,F,F,F,F] (by kernel_rfl) rfl rfl ⟨((HB.out.cell (bq w _ hw542_0)).trans hw542_0), ((HB.out.cell (bq w _ hw542_1)).trans hw542_1), ((HB.out.cell (bq w _ hw543_0)).trans hw543_0), ((HB.out.cell (bq w _ hw543_1)).trans hw543_1), ((HB.out.cell (bq w _ hw545_0)).trans hw545_0), ((HB.out.cell (bq w _ hw545_1)).trans hw545_1)⟩ (fun hHeld => ?_); refine with_tabW r_Convex.tab5 r_Convex.bits5 (fun HT_ HW_ => ?_)
    generalize wr.drew = w14 at HB hx542_0 hx542_1 hx543_0 hx543_1 hx545_0 hx545_1 hHeld ⊢
    refine pure_ (i := 0) (N := some 14) (v := ?_) (a' := ?_) #[T,F,F,F,F,F,F,F,F,F,F,F,F,F,F,F] rfl rfl (any_of HT_.out (by kernel_rfl)) (fun _ _ _ h => h) (Or.inl ⟨by rfl, ?_⟩) ?_ ?_
    rotate_left
    ·intro w'
     go_simp
     with_reducible rfl
    rotate_left
    ·simp only [Act.put, psl, i64_w, i32_w]
     rfl
    refine pure_ (i := 1) (N := some 15) (v := ?_) (a' := ?_) #[T,T,F,F,F,F,F,F,F,F,F,F,F,F,F,F] rfl rfl (any_of HT_.out (by kernel_rfl)) (fun _ _ _ h => h) (Or.inl ⟨by rfl, ?_⟩) ?_ ?_
    rotate_left
    ·intro w'
     go_simp
     with_reducible rfl
    rotate_left
    ·simp only [Act.put, psl, i64_w, i32_w]
     rfl
    refine pure_ (i := 2) (N := some 16) (v := ?_) (a' := ?_) #[T,T,T,F,F,F,F,F,F,F,F,F,F,F,F,F] rfl rfl (any_of HT_.out (by kernel_rfl)) (fun _ _ _ h => h) (Or.inl ⟨by rfl, ?_⟩) ?_ ?_
    rotate_left
    ·intro w'
     go_simp
     with_reducible rfl
    rotate_left
    ·simp only [Act.put, psl, i64_w, i32_w]
     rfl
    refine pure_ (i := 4) (N := some 18) (v := ?_) (a' := ?_) #[T,T,T,F,T,F,F,F,F,F,F,F,F,F,F,F] rfl rfl (any_of HT_.out (by kernel_rfl)) (fun _ _ _ h => h) (Or.inl ⟨by rfl, ?_⟩) ?_ ?_
    rotate_left
    ·intro w'
     go_simp
     with_reducible rfl
    rotate_left
    ·simp only [Act.put, psl, i64_w, i32_w]
     rfl
    refine pure_ (i := 5) (N := some 19) (v := ?_) (a' := ?_) #[T,T,T,F,T,T,F,F,F,F,F,F,F,F,F,F] rfl rfl (any_of HT_.out (by kernel_rfl)) (fun _ _ _ h => h) (Or.inl ⟨by rfl, ?_⟩) ?_ ?_
    rotate_left
    ·intro w'
     go_simp
     with_reducible rfl
    rotate_left
    ·simp only [Act.put, psl, i64_w, i32_w]
     rfl
    refine pure_ (i := 6) (N := some 20) (v := ?_) (a' := ?_) #[T,T,T,F,T,T,T,F,F,F,F,F,F,F,F,F] rfl rfl (any_of HT_.out (by kernel_rfl)) (fun _ _ _ h => h) (Or.inl ⟨by rfl, ?_⟩) ?_ ?_
    rotate_left
    ·intro w'
     go_simp
     with_reducible rfl
    rotate_left
    ·simp only [Act.put, psl, i64_w, i32_w]
     rfl
    refine pure_ (i := 8) (N := some 22) (v := ?_) (a' := ?_) #[T,T,T,F,T,T,T,F,T,F,F,F,F,F,F,F] rfl rfl (any_of HT_.out (by kernel_rfl)) (fun _ _ _ h => h) (Or.inl ⟨by rfl, ?_⟩) ?_ ?_
    rotate_left
    ·intro w'
     go_simp
     with_reducible rfl
    rotate_left
    ·simp only [Act.put, psl, i64_w, i32_w]
     rfl
    refine pure_ (i := 9) (N := some 23) (v := ?_) (a' := ?_) #[T,T,T,F,T,T,T,F,T,T,F,F,F,F,F,F] rfl rfl (any_of HT_.out (by kernel_rfl)) (fun _ _ _ h => h) (Or.inl ⟨by rfl, ?_⟩) ?_ ?_
    rotate_left
    ·intro w'
     go_simp
     with_reducible rfl
    rotate_left
    ·simp only [Act.put, psl, i64_w, i32_w]
     rfl
    refine pure_ (i := 10) (N := some 24) (v := ?_) (a' := ?_) #[T,T,T,F,T,T,T,F,T,T,T,F,F,F,F,F] rfl rfl (any_of HT_.out (by kernel_rfl)) (fun _ _ _ h => h) (Or.inl ⟨by rfl, ?_⟩) ?_ ?_
    rotate_left
    ·intro w'
     go_simp
     with_reducible rfl
    rotate_left
    ·simp only [Act.put, psl, i64_w, i32_w]
     rfl
    refine take_ (i := 3) (N := some 17) (v := ?_) (a' := ?_) #[T,T,T,T,T,T,T,F,T,T,T,F,F,F,F,F] rfl rfl (take_ofW HT_.out HW_.out (by kernel_rfl)) (fun _ _ _ h => h) (Or.inl ⟨by rfl, ?_⟩) hHeld ?_ ?_
    rotate_left
    ·rintro w' ⟨s0, s1, s2, s3, s4, s5⟩
     go_simp
     with_reducible rfl
    rotate_left
    ·simp only [Act.put, psl, i64_w, i32_w]
     rfl
    refine take_ (i := 7) (N := some 21) (v := ?_) (a' := ?_) #[T,T,T,T,T,T,T,T,T,T,T,F,F,F,F,F] rfl rfl (take_ofW HT_.out HW_.out (by kernel_rfl)) (fun _ _ _ h => h) (Or.inl ⟨by rfl, ?_⟩) hHeld ?_ ?_
    rotate_left
    ·rintro w' ⟨s0, s1, s2, s3, s4, s5⟩
     go_simp
     with_reducible rfl
    rotate_left
    ·simp only [Act.put, psl, i64_w, i32_w]
     rfl
    refine one_ (i := 11) (N := some 25) #[T,T,T,T,T,T,T,T,T,T,T,T,F,F,F,F] rfl rfl (one_of HT_.out (by kernel_rfl)) (by decide) (fun K hK => ?_)
    refine goes_ Try.func42 (by kernel_rfl) rfl #[.slice (some ad542) l0.length c0, .int .i64 t541] (by rfl) rfl rfl (by (try simp only [pml]); first | done | rfl | (simp only [pdt]; rfl)) ?_
    with_reducible refine (r_next.calls _ _ l0 t541 t544 _ ?side1 ?side2 A7.out).mono ?_
    (case side1 => repeat (first | exact (Kd.C_below HR0.out HB.out) | (with_reducible refine Kd.C_alloc ?_ _) | (with_reducible refine Kd.C_drewN ?_ _) | (with_reducible refine Kd.C_drew ?_)))
    (case side2 => exact HC0.out)
    rintro e w' ⟨rfl, ⟨nd, rfl⟩⟩
    refine ⟨_, rfl, ?_⟩
    refine hK.out _ _ ⟨((HB.out.cell (bq w _ hw542_0)).trans hw542_0), ((HB.out.cell (bq w _ hw542_1)).trans hw542_1), ((HB.out.cell (bq w _ hw543_0)).trans hw543_0), ((HB.out.cell (bq w _ hw543_1)).trans hw543_1), ((HB.out.cell (bq w _ hw545_0)).trans hw545_0), ((HB.out.cell (bq w _ hw545_1)).trans hw545_1)⟩ (fun hHeld => ?_)
    clear hK K
    refine norm_ (a' := ?_) ?_ ?_
    rotate_left
    ·show Act.put _ (some 25) _ = _
     simp only [Act.put, psl, i64_w, i32_w]
     rfl
    refine pure_ (i := 12) (N := some 26) (v := ?_) (a' := ?_) #[T,T,T,T,T,T,T,T,T,T,T,T,T,F,F,F] rfl rfl (any_of HT_.out (by kernel_rfl)) (fun _ _ _ h => h) (Or.inl ⟨by rfl, ?_⟩) ?_ ?_
    rotate_left
    ·intro w'
     go_simp
     with_reducible rfl
    rotate_left
    ·simp only [Act.put, psl, i64_w, i32_w]
     rfl
    refine take_ (i := 13) (N := some 27) (v := ?_) (a' := ?_) #[T,T,T,T,T,T,T,T,T,T,T,T,T,T,F,F] rfl rfl (take_ofW HT_.out HW_.out (by kernel_rfl)) (fun _ _ _ h => h) (Or.inl ⟨by rfl, ?_⟩) hHeld ?_ ?_
    rotate_left
    ·rintro w' ⟨s0, s1, s2, s3, s4, s5⟩
     go_simp
     with_reducible rfl
    rotate_left
    ·simp only [Act.put, psl, i64_w, i32_w]
     rfl
    refine one_ (i := 14) (N := some 28) #[T,T,T,T,T,T,T,T,T,T,T,T,T,T,T,F] rfl rfl (one_of HT_.out (by kernel_rfl)) (by decide) (fun K hK => ?_)
    refine goes_ Try.func14 (by kernel_rfl) rfl #[.agg #[.int .i64 ((rd_T23 l0 x3_1).f0), .int .i64 ((rd_T23 l0 x3_1).f1)], .agg #[.int .i64 ((rd_T23 l0 t541).f0), .int .i64 ((rd_T23 l0 t541).f1)], .agg #[.int .i64 ((rd_T23 l0 t544).f0), .int .i64 ((rd_T23 l0 t544).f1)]] (by rfl) rfl rfl (by (try simp only [pml]); first | done | rfl | (simp only [pdt]; rfl)) ?_
    with_reducible refine (r_Orient.calls ((rd_T23 l0 x3_1).f0) ((rd_T23 l0 x3_1).f1) ((rd_T23 l0 t541).f0) ((rd_T23 l0 t541).f1) ((rd_T23 l0 t544).f0) ((rd_T23 l0 t544).f1) t546 _ A10.out).mono ?_
    rintro e w15 ⟨rfl, hb⟩
    refine ⟨_, rfl, ?_⟩
    have n0_ := am (below_step (by repeat (first | (with_reducible first | exact HB.out | apply wa | apply wN | apply wd) | exact HB.out)) hb)
    clear HB
    have HB := n0_
    clear n0_
    (try clear hb)
    (try clear hb2)
    (try clear hk)
    (try clear hi)
    refine hK.out _ _ ⟨((HB.out.cell (bq w _ hw542_0)).trans hw542_0), ((HB.out.cell (bq w _ hw542_1)).trans hw542_1), ((HB.out.cell (bq w _ hw543_0)).trans hw543_0), ((HB.out.cell (bq w _ hw543_1)).trans hw543_1), ((HB.out.cell (bq w _ hw545_0)).trans hw545_0), ((HB.out.cell (bq w _ hw545_1)).trans hw545_1)⟩ (fun hHeld => ?_)
    clear hK K
    refine norm_ (a' := ?_) ?_ ?_
    rotate_left
    ·show Act.put _ (some 28) _ = _
     simp only [Act.put, psl, i64_w, i32_w]
     rfl
    refine pure_ (i := 15) (N := some 29) (v := ?_) (a' := ?_) #[T,T,T,T,T,T,T,T,T,T,T,T,T,T,T,T] rfl rfl (any_of HT_.out (by kernel_rfl)) (fun _ _ _ h => h) (Or.inl ⟨by rfl, ?_⟩) ?_ ?_
    rotate_left
    ·intro w'
     go_simp
     with_reducible rfl
    rotate_left
    ·simp only [Act.put, psl, i64_w, i32_w]
     rfl
    refine done_ (done_of HT_.out (by kernel_rfl)) ?_
    try go_wp2
    go_ret
    exact ⟨by first | rfl | (simp [errW_none, errW_some] <;> rfl) | (simp [*, errW_none, errW_some] <;> rfl), by repeat (first | (with_reducible first | exact HB.out | apply wa | apply wN | apply wd) | exact HB.out)⟩
   ·rw [if_neg c2] at H
    have c2b0 : decide (x3_1 < (l0.length : Int)) = false := decide_eq_false c2
    clear c2
    replace H := Option.bind_eq_some_iff.mp H
    obtain ⟨t547, A160, H⟩ := H
    replace H : (some t547) = some r := H
    have A16 := am A160
    clear A160
    obtain rfl := Option.some.inj H
    go_wp2_with (first | ((with_reducible refine gate_callee (f := 18) rfl ?_); refine goesL_ (some 31) rfl rfl Try.func18 (by kernel_rfl) rfl #[.slice A0 l0.length c0] rfl (by (try simp only [pml]); first | done | rfl | (simp only [pdt]; rfl)) ?_; (with_reducible refine (r_Simple.calls k1 _ _ l0 t547 _ ?side1 ?side2 A16.out).mono ?_); (case side1 => repeat (first | exact (Kd.C_below HR0.out HB.out) | (with_reducible refine Kd.C_alloc ?_ _) | (with_reducible refine Kd.C_drewN ?_ _) | (with_reducible refine Kd.C_drew ?_))); (case side2 => exact HC0.out); rintro e w17 ⟨rfl, hb⟩; refine ⟨_, rfl, ?_⟩; have n0_ := am (below_step (by repeat (first | (with_reducible first | exact HB.out | apply wa | apply wN | apply wd) | exact HB.out)) hb); clear HB; have HB := n0_; clear n0_; (try clear hb); (try clear hb2); (try clear hk); (try clear hi)))
    go_ret
    exact ⟨by first | rfl | (simp [errW_none, errW_some] <;> rfl) | (simp [*, errW_none, errW_some] <;> rfl), by repeat (first | (with_reducible first | exact HB.out | apply wa | apply wN | apply wd) | exact HB.out)⟩

end Go.Proofs.Ytcembjgpcbodcaa.QA
