import Derived.Test.YtcembjgpcbodcaaDPQAx0
import Derived.Test.YtcembjgpcbodcaaDPQAx18
import Derived.Test.YtcembjgpcbodcaaDPQAx22
import Derived.Test.YtcembjgpcbodcaaDPQAx23
namespace Go.Proofs.Ytcembjgpcbodcaa.QA
open Go.RowKit Go.Proofs.YtcembjgpcbodcaaW.PrintWords Go.Proofs.YtcembjgpcbodcaaW.PrintLast Go.Proofs.YtcembjgpcbodcaaW.PrintMore
open Go.Proofs.YtcembjgpcbodcaaW.PrintWords renaming below_alloc → wa, pw_below_drewN → wN, below_drew1 → wd, below_size → wz
open Aside0 renaming mk → am
open World renaming block_lt_of_cell? → bq
attribute [local go_sem] max2_int min2_int max_two min_two max_three min_three max_four min_four
set_option linter.unusedVariables false
set_option linter.unusedSimpArgs false

mutual
def r_Canonical.j0 : Nat → List (S23) → Option ((List (S23)))
 | 0, _ => none
 | k + 1, x0 => r_Canonical.l0 k x0 0 0
def r_Canonical.l0 : Nat → List (S23) → Int → Int → Option ((List (S23)))
 | 0, _, _, _ => none
 | k + 1, x0, x3, x4 => if x4 < (x0.length : Int) then (if 0 ≤ x4 then (if 0 ≤ x3 then (if x3 < (x0.length : Int) then ((r_Less.f k ((rd_T23 x0 x4).f0) ((rd_T23 x0 x4).f1) ((rd_T23 x0 x3).f0) ((rd_T23 x0 x3).f1)).bind fun t554 => (if t554 = true then (r_Canonical.l0 k x0 x4 (wrap64 (x4 + 1))) else (r_Canonical.l0 k x0 x3 (wrap64 (x4 + 1))))) else (none)) else (none)) else (none)) else ((some (([] : List (S23)) : List (S23))).bind fun y555 => (if 0 ≤ x3 then (if x3 ≤ (x0.length : Int) then ((some (x0.drop (x3 : Int).toNat : List (S23))).bind fun y558 => (if y555.length + y558.length < 8796093022208 then ((some (y555 ++ y558 : List (S23))).bind fun y563 => ((some (x0.take (x3 : Int).toNat : List (S23))).bind fun y566 => (if y563.length + y566.length < 8796093022208 then (some (y563 ++ y566)) else (none)))) else (none))) else (none)) else (none)))
end
def r_Canonical.f (k : Nat) (l0 : List (S23)) : Option ((List (S23))) := (r_Area2.f k l0).bind fun t548 => (if t548 < 0 then ((r_Reverse.f k l0).bind fun t549 => (r_Canonical.j0 k t549)) else (r_Canonical.j0 k l0))
def r_Canonical.T7 : Bool × List (List Nat × List Nat) := (true, [([], []), ([], []), ([0, 1], [0, 1]), ([2], [2]), ([], []), ([], []), ([4, 5], [4, 5]), ([6], [6]), ([3, 7], [3, 7])])
def r_Canonical.B7 : List Nat := [0, 0, 3, 7, 0, 0, 48, 112, 255]
theorem r_Canonical.tab7 : rtab .any (opsOf Try.f35 7) = r_Canonical.T7 := by kernel_rfl
theorem r_Canonical.bits7 : waitsOk r_Canonical.T7.2 r_Canonical.B7 = true := by kernel_rfl
def r_Canonical.T9 : Bool × List (List Nat × List Nat) := (true, [([], []), ([], []), ([], []), ([1, 2], [1, 2]), ([0, 3], [0, 3]), ([], []), ([], []), ([5, 6], [5, 6]), ([4, 7, 4], [4, 7]), ([8, 8, 0, 1, 2, 3, 4, 5, 6, 7, 8], [8])])
def r_Canonical.B9 : List Nat := [0, 0, 0, 6, 15, 0, 0, 96, 255, 511]
theorem r_Canonical.tab9 : rtab .any (opsOf Try.f35 9) = r_Canonical.T9 := by kernel_rfl
theorem r_Canonical.bits9 : waitsOk r_Canonical.T9.2 r_Canonical.B9 = true := by kernel_rfl
set_option maxHeartbeats 8000000 in
set_option maxRecDepth 100000 in
theorem r_Canonical.calls (k : Nat) (P0_ : Nat → Prop) (A0 : Option Addr) (c0 : Nat) (l0 : List (S23)) (r : List (S23)) (w : World) (hs0 : Kd.V k23 23 w w.heap.size (fun k_ => P0_ k_) (.slice A0 l0.length c0) l0) (h : r_Canonical.f k l0 = some r) :
  Calls Try.prog 35 #[.slice A0 l0.length c0] w fun e w' => ∃ v0_ : Value, e = .returned (v0_) ∧ Kd.R k23 23 w' w.heap.size (fun k_ => (w.heap.size ≤ k_)) v0_ r ∧ Below w.heap.size w w' := by
 have hu23 := Try.underlying23
 have HO0 := am (show Kd.V k23 23 w w.heap.size (fun k_ => (P0_ k_ ∨ w.heap.size ≤ k_)) (.slice A0 l0.length c0) l0 from Kd.V_mono hs0 (fun k_ hk => .inl hk))
 have HB := am (Below.refl w.heap.size w)
 have H : ((r_Area2.f k l0).bind fun t548 => (if t548 < 0 then ((r_Reverse.f k l0).bind fun t549 => (r_Canonical.j0 k t549)) else (r_Canonical.j0 k l0))) = some r := h
 clear h
 replace H := Option.bind_eq_some_iff.mp H
 obtain ⟨t548, A20, H⟩ := H
 replace H : (if t548 < 0 then ((r_Reverse.f k l0).bind fun t549 => (r_Canonical.j0 k t549)) else (r_Canonical.j0 k l0)) = some r := H
 have A2 := am A20
 clear A20
 have HC3 := am H
 clear H
 go_enter Try.func35, Try.ntmps35
 go_upto_if 7 with (first | ((with_reducible refine gate_callee (f := 31) rfl ?_); refine goesL_ (some 6) rfl rfl Try.func31 (by kernel_rfl) rfl #[.slice A0 l0.length c0] rfl (by (try simp only [pml]); first | done | rfl | (simp only [pdt]; rfl)) ?_; (with_reducible refine (r_Area2.calls k _ _ l0 t548 _ ?side1 ?side2 A2.out).mono ?_); (case side1 => repeat (first | exact (Kd.V_reads' HO0.out).2.2 | (with_reducible refine Kd.C_alloc ?_ _) | (with_reducible refine Kd.C_drewN ?_ _) | (with_reducible refine Kd.C_drew ?_))); (case side2 => exact (Kd.V_reads' HO0.out).2.1); rintro e w' ⟨rfl, ⟨nd, rfl⟩⟩; refine ⟨_, rfl, ?_⟩))
 (try simp only [Act.put, psl])
 go_cut [0] (fun v0 wc => ∃ (kq : Nat) (x0_2 : List (S23)), Aside0 (r_Canonical.j0 kq x0_2 = some r) ∧ Aside0 (kq ≤ k) ∧ Aside0 (Kd.V k23 23 wc w.heap.size (fun k_ => (P0_ k_ ∨ w.heap.size ≤ k_)) v0 x0_2) ∧ Aside0 (Below w.heap.size w wc))
 case first =>
  have H := HC3.out
  clear HC3
  by_cases c4 : t548 < 0
  ·rw [if_pos c4] at H
   have c4b0 : decide (t548 < 0) = true := decide_eq_true c4
   clear c4
   (first | rw [c4b0] | (simp only [i64_w, i32_w]; rw [c4b0]) | skip)
   replace H := Option.bind_eq_some_iff.mp H
   obtain ⟨t549, A50, H⟩ := H
   replace H : (r_Canonical.j0 k t549) = some r := H
   have A5 := am A50
   clear A50
   have H' := am H
   clear H
   go_wp2_with (first | ((with_reducible refine gate_callee (f := 29) rfl ?_); refine goesL_ (some 9) rfl rfl Try.func29 (by kernel_rfl) rfl #[.slice A0 l0.length c0] rfl (by (try simp only [pml]); first | done | rfl | (simp only [pdt]; rfl)) ?_; (with_reducible refine (r_Reverse.calls k _ _ l0 t549 _ ?side1 ?side2 A5.out).mono ?_); (case side1 => repeat (first | exact (Kd.V_reads' HO0.out).2.2 | (with_reducible refine Kd.C_alloc ?_ _) | (with_reducible refine Kd.C_drewN ?_ _) | (with_reducible refine Kd.C_drew ?_))); (case side2 => exact (Kd.V_reads' HO0.out).2.1); rintro e w6 ⟨v550, rfl, ho0, hb⟩; refine ⟨_, rfl, ?_⟩; have n0_ := am (Kd.V_elder' (by (with_reducible repeat (first | apply Kd.V_alloc | apply Kd.V_drewN | apply Kd.V_drew)); exact HO0.out) (Kd.R_base ho0) hb); have n1_ := am (Kd.R_lower (Kd.R_newM (M := fun k_ => (w.heap.size ≤ k_)) ho0 (wz (by repeat (first | (with_reducible first | exact HB.out | apply wa | apply wN | apply wd) | exact HB.out))) (fun k_ h_ => h_)) (wz (by repeat (first | (with_reducible first | exact HB.out | apply wa | apply wN | apply wd) | exact HB.out)))); have n2_ := am (below_step (by repeat (first | (with_reducible first | exact HB.out | apply wa | apply wN | apply wd) | exact HB.out)) hb); clear HO0 HB; have HO0 := n0_; have HO551 := n1_; have HB := n2_; clear n0_ n1_ n2_; (try clear hb); (try clear hb2); (try clear hk); (try clear hi); (try clear ho0)))
   go_meet
   case rel => exact ⟨_, (t549), H', ⟨by first | omega | exact Nat.le_refl _⟩, ⟨Kd.V_mono (Kd.R_V (by (with_reducible repeat (first | apply Kd.R_alloc | apply Kd.R_drewN | apply Kd.R_drew)); exact Kd.R_mono HO551.out (fun _ hk => hk.1))) (fun k_ hk => by first | exact ⟨(.inr (hk.1)), hk.2⟩ | exact (.inr (hk)))⟩, ⟨by repeat (first | (with_reducible first | exact HB.out | apply wa | apply wN | apply wd) | exact HB.out)⟩⟩
  rw [if_neg c4] at H
  have c4b0 : decide (t548 < 0) = false := decide_eq_false c4
  clear c4
  (first | rw [c4b0] | (simp only [i64_w, i32_w]; rw [c4b0]) | skip)
  have H' := am H
  clear H
  go_wp2
  go_meet
  case rel => exact ⟨_, (l0), H', ⟨by first | omega | exact Nat.le_refl _⟩, ⟨by (with_reducible repeat (first | apply Kd.V_alloc | apply Kd.V_drewN | apply Kd.V_drew)); exact HO0.out⟩, ⟨by repeat (first | (with_reducible first | exact HB.out | apply wa | apply wN | apply wd) | exact HB.out)⟩⟩
 case rest =>
  clear HC3
  try clear c2;try clear p2;try clear c3;try clear c4;try clear c4b0
  obtain ⟨kq, x0_2, HA, HJ2, HO_0, HB⟩ := hcut
  cases kq with
  | zero => exact absurd HA.out (by simp [r_Canonical.j0])
  | succ kj2 =>
   have H := HA.out
   clear HA
   simp only [r_Canonical.j0] at H
   have H' := am H
   clear H
   go_wp2
   go_loopg [3, 4] kj2 (fun kq v3 v4 w' => ∃ (x3_2 : Int) (x4_2 : Int), v3 = .int .i64 x3_2 ∧ v4 = .int .i64 x4_2 ∧ Aside0 (r_Canonical.l0 kq x0_2 x3_2 x4_2 = some r) ∧ Aside0 (kq ≤ kj2) ∧ Aside0 (Kd.V k23 23 w' w.heap.size (fun k_ => (P0_ k_ ∨ w.heap.size ≤ k_)) u0 x0_2) ∧ Aside0 (Below w.heap.size w w'))
   case atStart => exact ⟨(0), (0), (by first | rfl | (simp; done) | (simp [*]; done)), (by first | rfl | (simp; done) | (simp [*]; done)), H', ⟨Nat.le_refl _⟩, ⟨by (with_reducible repeat (first | apply Kd.V_alloc | apply Kd.V_drewN | apply Kd.V_drew)); exact HO_0.out⟩, ⟨by repeat (first | (with_reducible first | exact HB.out | apply wa | apply wN | apply wd) | exact HB.out)⟩⟩
   case round =>
    clear H'
    try clear c2;try clear p2;try clear c3;try clear c4;try clear c4b0;try clear p2
    obtain ⟨x3_2, x4_2, rfl, rfl, HA, HK2, HO_0, HB⟩ := hrel
    cases gk with
    | zero => exact absurd HA.out (by simp [r_Canonical.l0])
    | succ k2 =>
     have H := HA.out
     clear HA
     simp only [r_Canonical.l0] at H
     by_cases c7 : x4_2 < (x0_2.length : Int)
     ·rw [if_pos c7] at H
      have c7b0 : decide (x4_2 < (x0_2.length : Int)) = true := decide_eq_true c7
      clear c7
      by_cases c8 : 0 ≤ x4_2
      rotate_left
      ·rw [if_neg c8] at H
       exact absurd H (by simp)
      rw [if_pos c8] at H
      have c8b0 : decide (0 ≤ x4_2) = true := decide_eq_true c8
      clear c8
      by_cases c9 : 0 ≤ x3_2
      rotate_left
      ·rw [if_neg c9] at H
       exact absurd H (by simp)
      rw [if_pos c9] at H
      have c9b0 : decide (0 ≤ x3_2) = true := decide_eq_true c9
      clear c9
      by_cases c10 : x3_2 < (x0_2.length : Int)
      rotate_left
      ·rw [if_neg c10] at H
       exact absurd H (by simp)
      rw [if_pos c10] at H
      have c10b0 : decide (x3_2 < (x0_2.length : Int)) = true := decide_eq_true c10
      clear c10
      replace H := Option.bind_eq_some_iff.mp H
      obtain ⟨t554, A110, H⟩ := H
      replace H : (if t554 = true then (r_Canonical.l0 k2 x0_2 x4_2 (wrap64 (x4_2 + 1))) else (r_Canonical.l0 k2 x0_2 x3_2 (wrap64 (x4_2 + 1)))) = some r := H
      have A11 := am A110
      clear A110
      by_cases c12 : t554 = true
      ·subst c12
       have H1 : (r_Canonical.l0 k2 x0_2 x4_2 (wrap64 (x4_2 + 1))) = some r := by rw [if_pos rfl] at H; exact H
       clear H
       have H := H1
       clear H1
       have H' := am H
       clear H
       obtain ⟨Ao13, co13, eo13⟩ := Kd.V_slice HO_0.out
       subst eo13
       try go_wp2
       have n0_ := am (Kd.V_drew HO_0.out)
       have n1_ := am (wd HB.out)
       clear HO_0 HB
       have HO_0 := n0_
       have HB := n1_
       clear n0_ n1_
       have p552 : 0 ≤ (x4_2 : Int) := of_decide_eq_true (by assumption)
       have q552 : x4_2 < (x0_2.length : Int) := of_decide_eq_true (by assumption)
       obtain ⟨ad552, e552, hx552_0, hx552_1⟩ := at_T23 (Kd.V_reads' HO_0.out).2.2 x4_2 p552 q552
       cases e552
       replace p552 := eq_true p552
       replace q552 := eq_true q552
       have p553 : 0 ≤ (x3_2 : Int) := of_decide_eq_true (by assumption)
       have q553 : x3_2 < (x0_2.length : Int) := of_decide_eq_true (by assumption)
       obtain ⟨ad553, e553, hx553_0, hx553_1⟩ := at_T23 (Kd.V_reads' HO_0.out).2.2 x3_2 p553 q553
       obtain rfl : ad552 = ad553 := (by injection e553)
       replace p553 := eq_true p553
       replace q553 := eq_true q553
       refine start_ (n := 9) (S := fun w' => w'.cell? (ad552.add ((x4_2).toNat * 2)) = some (.int .i64 ((rd_T23 x0_2 x4_2).f0)) ∧ w'.cell? ⟨(ad552.add ((x4_2).toNat * 2)).block, (ad552.add ((x4_2).toNat * 2)).off + 1, none⟩ = some (.int .i64 ((rd_T23 x0_2 x4_2).f1)) ∧ w'.cell? (ad552.add ((x3_2).toNat * 2)) = some (.int .i64 ((rd_T23 x0_2 x3_2).f0)) ∧ w'.cell? ⟨(ad552.add ((x3_2).toNat * 2)).block, (ad552.add ((x3_2).toNat * 2)).off + 1, none⟩ = some (.int .i64 ((rd_T23 x0_2 x3_2).f1))) (ds := []) #[F,F,F,F,F,F,F,F,F] (by kernel_rfl) rfl rfl ⟨hx552_0, hx552_1, hx553_0, hx553_1⟩ (fun hHeld => ?_); refine with_tabW r_Canonical.tab7 r_Canonical.bits7 (fun HT_ HW_ => ?_)
       generalize wr.drew = w14 at HO_0 HB hx552_0 hx552_1 hx553_0 hx553_1 hHeld ⊢
       refine pure_ (i := 0) (N := some 16) (v := ?_) (a' := ?_) #[T,F,F,F,F,F,F,F,F] rfl rfl (any_of HT_.out (by kernel_rfl)) (fun _ _ _ h => h) (Or.inl ⟨by rfl, ?_⟩) ?_ ?_
       rotate_left
       ·intro w'
        go_simp
        with_reducible rfl
       rotate_left
       ·simp only [Act.put, psl, i64_w, i32_w]
        rfl
       refine pure_ (i := 1) (N := some 17) (v := ?_) (a' := ?_) #[T,T,F,F,F,F,F,F,F] rfl rfl (any_of HT_.out (by kernel_rfl)) (fun _ _ _ h => h) (Or.inl ⟨by rfl, ?_⟩) ?_ ?_
       rotate_left
       ·intro w'
        go_simp
        with_reducible rfl
       rotate_left
       ·simp only [Act.put, psl, i64_w, i32_w]
        rfl
       refine pure_ (i := 2) (N := some 18) (v := ?_) (a' := ?_) #[T,T,T,F,F,F,F,F,F] rfl rfl (any_of HT_.out (by kernel_rfl)) (fun _ _ _ h => h) (Or.inl ⟨by rfl, ?_⟩) ?_ ?_
       rotate_left
       ·intro w'
        go_simp
        with_reducible rfl
       rotate_left
       ·simp only [Act.put, psl, i64_w, i32_w]
        rfl
       refine pure_ (i := 4) (N := some 20) (v := ?_) (a' := ?_) #[T,T,T,F,T,F,F,F,F] rfl rfl (any_of HT_.out (by kernel_rfl)) (fun _ _ _ h => h) (Or.inl ⟨by rfl, ?_⟩) ?_ ?_
       rotate_left
       ·intro w'
        go_simp
        with_reducible rfl
       rotate_left
       ·simp only [Act.put, psl, i64_w, i32_w]
        rfl
       refine pure_ (i := 5) (N := some 21) (v := ?_) (a' := ?_) #[T,T,T,F,T,T,F,F,F] rfl rfl (any_of HT_.out (by kernel_rfl)) (fun _ _ _ h => h) (Or.inl ⟨by rfl, ?_⟩) ?_ ?_
       rotate_left
       ·intro w'
        go_simp
        with_reducible rfl
       rotate_left
       ·simp only [Act.put, psl, i64_w, i32_w]
        rfl
       refine pure_ (i := 6) (N := some 22) (v := ?_) (a' := ?_) #[T,T,T,F,T,T,T,F,F] rfl rfl (any_of HT_.out (by kernel_rfl)) (fun _ _ _ h => h) (Or.inl ⟨by rfl, ?_⟩) ?_ ?_
       rotate_left
       ·intro w'
        go_simp
        with_reducible rfl
       rotate_left
       ·simp only [Act.put, psl, i64_w, i32_w]
        rfl
       refine take_ (i := 3) (N := some 19) (v := ?_) (a' := ?_) #[T,T,T,T,T,T,T,F,F] rfl rfl (take_ofW HT_.out HW_.out (by kernel_rfl)) (fun _ _ _ h => h) (Or.inl ⟨by rfl, ?_⟩) hHeld ?_ ?_
       rotate_left
       ·rintro w' ⟨s0, s1, s2, s3⟩
        go_simp
        with_reducible rfl
       rotate_left
       ·simp only [Act.put, psl, i64_w, i32_w]
        rfl
       refine take_ (i := 7) (N := some 23) (v := ?_) (a' := ?_) #[T,T,T,T,T,T,T,T,F] rfl rfl (take_ofW HT_.out HW_.out (by kernel_rfl)) (fun _ _ _ h => h) (Or.inl ⟨by rfl, ?_⟩) hHeld ?_ ?_
       rotate_left
       ·rintro w' ⟨s0, s1, s2, s3⟩
        go_simp
        with_reducible rfl
       rotate_left
       ·simp only [Act.put, psl, i64_w, i32_w]
        rfl
       refine one_ (i := 8) (N := some 24) #[T,T,T,T,T,T,T,T,T] rfl rfl (one_of HT_.out (by kernel_rfl)) (by decide) (fun K hK => ?_)
       refine goes_ Try.func54 (by kernel_rfl) rfl #[.agg #[.int .i64 ((rd_T23 x0_2 x4_2).f0), .int .i64 ((rd_T23 x0_2 x4_2).f1)], .agg #[.int .i64 ((rd_T23 x0_2 x3_2).f0), .int .i64 ((rd_T23 x0_2 x3_2).f1)]] (by rfl) rfl rfl (by (try simp only [pml]); first | done | rfl | (simp only [pdt]; rfl)) ?_
       with_reducible refine (r_Less.calls k2 ((rd_T23 x0_2 x4_2).f0) ((rd_T23 x0_2 x4_2).f1) ((rd_T23 x0_2 x3_2).f0) ((rd_T23 x0_2 x3_2).f1) true _ A11.out).mono ?_
       rintro e w15 ⟨rfl, hb⟩
       have HS0_ := (hb.cell (bq _ _ (hHeld.1))).trans (hHeld.1)
       have HS1_ := (hb.cell (bq _ _ (hHeld.2.1))).trans (hHeld.2.1)
       have HS2_ := (hb.cell (bq _ _ (hHeld.2.2.1))).trans (hHeld.2.2.1)
       have HS3_ := (hb.cell (bq _ _ (hHeld.2.2.2))).trans (hHeld.2.2.2)
       refine ⟨_, rfl, ?_⟩
       have n0_ := am (Kd.V_below (by (with_reducible repeat (first | apply Kd.V_alloc | apply Kd.V_drewN | apply Kd.V_drew)); exact HO_0.out) hb)
       have n1_ := am (below_step (by repeat (first | (with_reducible first | exact HB.out | apply wa | apply wN | apply wd) | exact HB.out)) hb)
       clear HO_0 HB
       have HO_0 := n0_
       have HB := n1_
       clear n0_ n1_
       (try clear hb)
       (try clear hb2)
       (try clear hk)
       (try clear hi)
       refine hK.out _ _ ⟨HS0_, HS1_, HS2_, HS3_⟩ (fun hHeld => ?_)
       clear hK K
       refine norm_ (a' := ?_) ?_ ?_
       rotate_left
       ·show Act.put _ (some 24) _ = _
        simp only [Act.put, psl, i64_w, i32_w]
        rfl
       refine done_ (done_of HT_.out (by kernel_rfl)) ?_
       try go_wp2
       go_roundg k2
       case measure => have := HJ2.out; have := HK2.out; omega
       case rel => exact ⟨(x4_2), (wrap64 (x4_2 + 1)), (by first | rfl | (simp; done) | (simp [*]; done)), (by first | rfl | (simp; done) | (simp [*]; done)), H', ⟨by have := HJ2.out; have := HK2.out; omega⟩, ⟨by (with_reducible repeat (first | apply Kd.V_alloc | apply Kd.V_drewN | apply Kd.V_drew)); exact HO_0.out⟩, ⟨by repeat (first | (with_reducible first | exact HB.out | apply wa | apply wN | apply wd) | exact HB.out)⟩⟩
      replace c12 := Bool.eq_false_iff.mpr c12
      subst c12
      have H1 : (r_Canonical.l0 k2 x0_2 x3_2 (wrap64 (x4_2 + 1))) = some r := by rw [if_neg (show ¬ (false = true) by decide)] at H; exact H
      clear H
      have H := H1
      clear H1
      have H' := am H
      clear H
      obtain ⟨Ao16, co16, eo16⟩ := Kd.V_slice HO_0.out
      subst eo16
      try go_wp2
      have n0_ := am (Kd.V_drew HO_0.out)
      have n1_ := am (wd HB.out)
      clear HO_0 HB
      have HO_0 := n0_
      have HB := n1_
      clear n0_ n1_
      have p552 : 0 ≤ (x4_2 : Int) := of_decide_eq_true (by assumption)
      have q552 : x4_2 < (x0_2.length : Int) := of_decide_eq_true (by assumption)
      obtain ⟨ad552, e552, hx552_0, hx552_1⟩ := at_T23 (Kd.V_reads' HO_0.out).2.2 x4_2 p552 q552
      cases e552
      replace p552 := eq_true p552
      replace q552 := eq_true q552
      have p553 : 0 ≤ (x3_2 : Int) := of_decide_eq_true (by assumption)
      have q553 : x3_2 < (x0_2.length : Int) := of_decide_eq_true (by assumption)
      obtain ⟨ad553, e553, hx553_0, hx553_1⟩ := at_T23 (Kd.V_reads' HO_0.out).2.2 x3_2 p553 q553
      obtain rfl : ad552 = ad553 := (by injection e553)
      replace p553 := eq_true p553
      replace q553 := eq_true q553
      refine start_ (n := 9) (S := fun w' => w'.cell? (ad552.add ((x4_2).toNat * 2)) = some (.int .i64 ((rd_T23 x0_2 x4_2).f0)) ∧ w'.cell? ⟨(ad552.add ((x4_2).toNat * 2)).block, (ad552.add ((x4_2).toNat * 2)).off + 1, none⟩ = some (.int .i64 ((rd_T23 x0_2 x4_2).f1)) ∧ w'.cell? (ad552.add ((x3_2).toNat * 2)) = some (.int .i64 ((rd_T23 x0_2 x3_2).f0)) ∧ w'.cell? ⟨(ad552.add ((x3_2).toNat * 2)).block, (ad552.add ((x3_2).toNat * 2)).off + 1, none⟩ = some (.int .i64 ((rd_T23 x0_2 x3_2).f1))) (ds := []) #[F,F,F,F,F,F,F,F,F] (by kernel_rfl) rfl rfl ⟨hx552_0, hx552_1, hx553_0, hx553_1⟩ (fun hHeld => ?_); refine with_tabW r_Canonical.tab7 r_Canonical.bits7 (fun HT_ HW_ => ?_)
      generalize wr.drew = w17 at HO_0 HB hx552_0 hx552_1 hx553_0 hx553_1 hHeld ⊢
      refine pure_ (i := 0) (N := some 16) (v := ?_) (a' := ?_) #[T,F,F,F,F,F,F,F,F] rfl rfl (any_of HT_.out (by kernel_rfl)) (fun _ _ _ h => h) (Or.inl ⟨by rfl, ?_⟩) ?_ ?_
      rotate_left
      ·intro w'
       go_simp
       with_reducible rfl
      rotate_left
      ·simp only [Act.put, psl, i64_w, i32_w]
       rfl
      refine pure_ (i := 1) (N := some 17) (v := ?_) (a' := ?_) #[T,T,F,F,F,F,F,F,F] rfl rfl (any_of HT_.out (by kernel_rfl)) (fun _ _ _ h => h) (Or.inl ⟨by rfl, ?_⟩) ?_ ?_
      rotate_left
      ·intro w'
       go_simp
       with_reducible rfl
      rotate_left
      ·simp only [Act.put, psl, i64_w, i32_w]
       rfl
      refine pure_ (i := 2) (N := some 18) (v := ?_) (a' := ?_) #[T,T,T,F,F,F,F,F,F] rfl rfl (any_of HT_.out (by kernel_rfl)) (fun _ _ _ h => h) (Or.inl ⟨by rfl, ?_⟩) ?_ ?_
      rotate_left
      ·intro w'
       go_simp
       with_reducible rfl
      rotate_left
      ·simp only [Act.put, psl, i64_w, i32_w]
       rfl
      refine pure_ (i := 4) (N := some 20) (v := ?_) (a' := ?_) #[T,T,T,F,T,F,F,F,F] rfl rfl (any_of HT_.out (by kernel_rfl)) (fun _ _ _ h => h) (Or.inl ⟨by rfl, ?_⟩) ?_ ?_
      rotate_left
      ·intro w'
       go_simp
       with_reducible rfl
      rotate_left
      ·simp only [Act.put, psl, i64_w, i32_w]
       rfl
      refine pure_ (i := 5) (N := some 21) (v := ?_) (a' := ?_) #[T,T,T,F,T,T,F,F,F] rfl rfl (any_of HT_.out (by kernel_rfl)) (fun _ _ _ h => h) (Or.inl ⟨by rfl, ?_⟩) ?_ ?_
      rotate_left
      ·intro w'
       go_simp
       with_reducible rfl
      rotate_left
      ·simp only [Act.put, psl, i64_w, i32_w]
       rfl
      refine pure_ (i := 6) (N := some 22) (v := ?_) (a' := ?_) #[T,T,T,F,T,T,T,F,F] rfl rfl (any_of HT_.out (by kernel_rfl)) (fun _ _ _ h => h) (Or.inl ⟨by rfl, ?_⟩) ?_ ?_
      rotate_left
      ·intro w'
       go_simp
       with_reducible rfl
      rotate_left
      ·simp only [Act.put, psl, i64_w, i32_w]
       rfl
      refine take_ (i := 3) (N := some 19) (v := ?_) (a' := ?_) #[T,T,T,T,T,T,T,F,F] rfl rfl (take_ofW HT_.out HW_.out (by kernel_rfl)) (fun _ _ _ h => h) (Or.inl ⟨by rfl, ?_⟩) hHeld ?_ ?_
      rotate_left
      ·rintro w' ⟨s0, s1, s2, s3⟩
       go_simp
       with_reducible rfl
      rotate_left
      ·simp only [Act.put, psl, i64_w, i32_w]
       rfl
      refine take_ (i := 7) (N := some 23) (v := ?_) (a' := ?_) #[T,T,T,T,T,T,T,T,F] rfl rfl (take_ofW HT_.out HW_.out (by kernel_rfl)) (fun _ _ _ h => h) (Or.inl ⟨by rfl, ?_⟩) hHeld ?_ ?_
      rotate_left
      ·rintro w' ⟨s0, s1, s2, s3⟩
       go_simp
       with_reducible rfl
      rotate_left
      ·simp only [Act.put, psl, i64_w, i32_w]
       rfl
      refine one_ (i := 8) (N := some 24) #[T,T,T,T,T,T,T,T,T] rfl rfl (one_of HT_.out (by kernel_rfl)) (by decide) (fun K hK => ?_)
      refine goes_ Try.func54 (by kernel_rfl) rfl #[.agg #[.int .i64 ((rd_T23 x0_2 x4_2).f0), .int .i64 ((rd_T23 x0_2 x4_2).f1)], .agg #[.int .i64 ((rd_T23 x0_2 x3_2).f0), .int .i64 ((rd_T23 x0_2 x3_2).f1)]] (by rfl) rfl rfl (by (try simp only [pml]); first | done | rfl | (simp only [pdt]; rfl)) ?_
      with_reducible refine (r_Less.calls k2 ((rd_T23 x0_2 x4_2).f0) ((rd_T23 x0_2 x4_2).f1) ((rd_T23 x0_2 x3_2).f0) ((rd_T23 x0_2 x3_2).f1) false _ A11.out).mono ?_
      rintro e w18 ⟨rfl, hb⟩
      have HS0_ := (hb.cell (bq _ _ (hHeld.1))).trans (hHeld.1)
      have HS1_ := (hb.cell (bq _ _ (hHeld.2.1))).trans (hHeld.2.1)
      have HS2_ := (hb.cell (bq _ _ (hHeld.2.2.1))).trans (hHeld.2.2.1)
      have HS3_ := (hb.cell (bq _ _ (hHeld.2.2.2))).trans (hHeld.2.2.2)
      refine ⟨_, rfl, ?_⟩
      have n0_ := am (Kd.V_below (by (with_reducible repeat (first | apply Kd.V_alloc | apply Kd.V_drewN | apply Kd.V_drew)); exact HO_0.out) hb)
      have n1_ := am (below_step (by repeat (first | (with_reducible first | exact HB.out | apply wa | apply wN | apply wd) | exact HB.out)) hb)
      clear HO_0 HB
      have HO_0 := n0_
      have HB := n1_
      clear n0_ n1_
      (try clear hb)
      (try clear hb2)
      (try clear hk)
      (try clear hi)
      refine hK.out _ _ ⟨HS0_, HS1_, HS2_, HS3_⟩ (fun hHeld => ?_)
      clear hK K
      refine norm_ (a' := ?_) ?_ ?_
      rotate_left
      ·show Act.put _ (some 24) _ = _
       simp only [Act.put, psl, i64_w, i32_w]
       rfl
      refine done_ (done_of HT_.out (by kernel_rfl)) ?_
      try go_wp2
      go_roundg k2
      case measure => have := HJ2.out; have := HK2.out; omega
      case rel => exact ⟨(x3_2), (wrap64 (x4_2 + 1)), (by first | rfl | (simp; done) | (simp [*]; done)), (by first | rfl | (simp; done) | (simp [*]; done)), H', ⟨by have := HJ2.out; have := HK2.out; omega⟩, ⟨by (with_reducible repeat (first | apply Kd.V_alloc | apply Kd.V_drewN | apply Kd.V_drew)); exact HO_0.out⟩, ⟨by repeat (first | (with_reducible first | exact HB.out | apply wa | apply wN | apply wd) | exact HB.out)⟩⟩
     ·rw [if_neg c7] at H
      have c7b0 : decide (x4_2 < (x0_2.length : Int)) = false := decide_eq_false c7
      clear c7
      obtain ⟨y555, hy555⟩ : ∃ y_ : List (S23), y_ = (([] : List (S23))) := ⟨_, rfl⟩
      replace H : (if 0 ≤ x3_2 then (if x3_2 ≤ (x0_2.length : Int) then ((some (x0_2.drop (x3_2 : Int).toNat : List (S23))).bind fun y558 => (if y555.length + y558.length < 8796093022208 then ((some (y555 ++ y558 : List (S23))).bind fun y563 => ((some (x0_2.take (x3_2 : Int).toNat : List (S23))).bind fun y566 => (if y563.length + y566.length < 8796093022208 then (some (y563 ++ y566)) else (none)))) else (none))) else (none)) else (none)) = some r := by first | (rw [hy555]; with_reducible exact H) | (have H2_ := (Option.bind_some _ _).symm.trans H; rw [hy555]; with_reducible exact H2_) | (have H2_ := (Option.bind_some _ _).symm.trans H; with_reducible exact H2_) | with_reducible exact H | (rw [hy555]; exact H) | exact H
      have Ny555 := am hy555
      clear hy555
      by_cases c19 : 0 ≤ x3_2
      ·rw [if_pos c19] at H
       have c19b0 := eq_true c19
       have c19b1 : decide (0 ≤ x3_2) = true := decide_eq_true c19
       clear c19
       by_cases c20 : x3_2 ≤ (x0_2.length : Int)
       rotate_left
       ·rw [if_neg c20] at H
        exact absurd H (by simp)
       rw [if_pos c20] at H
       have c20b0 := eq_true c20
       have c20b1 : decide (x3_2 ≤ (x0_2.length : Int)) = true := decide_eq_true c20
       clear c20
       obtain ⟨y558, hy558⟩ : ∃ y_ : List (S23), y_ = (x0_2.drop (x3_2 : Int).toNat) := ⟨_, rfl⟩
       replace H : (if y555.length + y558.length < 8796093022208 then ((some (y555 ++ y558 : List (S23))).bind fun y563 => ((some (x0_2.take (x3_2 : Int).toNat : List (S23))).bind fun y566 => (if y563.length + y566.length < 8796093022208 then (some (y563 ++ y566)) else (none)))) else (none)) = some r := by first | (rw [hy558]; with_reducible exact H) | (have H2_ := (Option.bind_some _ _).symm.trans H; rw [hy558]; with_reducible exact H2_) | (have H2_ := (Option.bind_some _ _).symm.trans H; with_reducible exact H2_) | with_reducible exact H | (rw [hy558]; exact H) | exact H
       have Ny558 := am hy558
       clear hy558
       by_cases c21 : y555.length + y558.length < 8796093022208
       rotate_left
       ·rw [if_neg c21] at H
        exact absurd H (by simp)
       rw [if_pos c21] at H
       have LMc21 := am c21
       clear c21
       obtain ⟨y563, hy563⟩ : ∃ y_ : List (S23), y_ = (y555 ++ y558) := ⟨_, rfl⟩
       replace H : ((some (x0_2.take (x3_2 : Int).toNat : List (S23))).bind fun y566 => (if y563.length + y566.length < 8796093022208 then (some (y563 ++ y566)) else (none))) = some r := by first | (rw [hy563]; with_reducible exact H) | (have H2_ := (Option.bind_some _ _).symm.trans H; rw [hy563]; with_reducible exact H2_) | (have H2_ := (Option.bind_some _ _).symm.trans H; with_reducible exact H2_) | with_reducible exact H | (rw [hy563]; exact H) | exact H
       have Ny563 := am hy563
       clear hy563
       have c22b0 := eq_true (of_decide_eq_true (by assumption) : 0 ≤ x3_2)
       have c23b0 := eq_true (of_decide_eq_true (by assumption) : x3_2 ≤ (x0_2.length : Int))
       obtain ⟨y566, hy566⟩ : ∃ y_ : List (S23), y_ = (x0_2.take (x3_2 : Int).toNat) := ⟨_, rfl⟩
       replace H : (if y563.length + y566.length < 8796093022208 then (some (y563 ++ y566)) else (none)) = some r := by first | (rw [hy566]; with_reducible exact H) | (have H2_ := (Option.bind_some _ _).symm.trans H; rw [hy566]; with_reducible exact H2_) | (have H2_ := (Option.bind_some _ _).symm.trans H; with_reducible exact H2_) | with_reducible exact H | (rw [hy566]; exact H) | exact H
       have Ny566 := am hy566
       clear hy566
       by_cases c24 : y563.length + y566.length < 8796093022208
       rotate_left
       ·rw [if_neg c24] at H
        exact absurd H (by simp)
       rw [if_pos c24] at H
       have LMc24 := am c24
       clear c24
       obtain ⟨y571, hy571⟩ : ∃ y_ : List (S23), y_ = (y563 ++ y566) := ⟨_, rfl⟩
       replace H : (some y571) = some r := by first | (rw [hy571]; with_reducible exact H) | (have H2_ := (Option.bind_some _ _).symm.trans H; rw [hy571]; with_reducible exact H2_) | (have H2_ := (Option.bind_some _ _).symm.trans H; with_reducible exact H2_) | with_reducible exact H | (rw [hy571]; exact H) | exact H
       have Ny571 := am hy571
       clear hy571
       obtain rfl := Option.some.inj H
       obtain ⟨Ao25, co25, eo25⟩ := Kd.V_slice HO_0.out
       subst eo25
       try go_wp2
       have n0_ := am (Kd.V_drew HO_0.out)
       have n1_ := am (wd HB.out)
       clear HO_0 HB
       have HO_0 := n0_
       have HB := n1_
       clear n0_ n1_
       have q27 : (x3_2 : Int) ≤ ((x0_2.length : Int) : Int) := of_decide_eq_true (by assumption)
       obtain ⟨i027, hi027, _, hsz27, _⟩ := info_parts info23
       have hroom27 : x0_2.length ≤ co25 := (Kd.V_reads' HO_0.out).2.1
       have hC27 : Kd.F k23 _ _ Ao25 x0_2.length x0_2 := (Kd.V_at (base := w.heap.size) HO_0.out).2.2
       have q027 : (0 : Int) ≤ (x3_2 : Int) := of_decide_eq_true (by assumption)
       have hcut27 := cut_from (P := Try.prog) 29 23 .i64 Try.underlying29 hi027 2 hsz27 Ao25 x0_2.length co25 x3_2 q027 q27
       have hr27 := Kd.F_cut (m := (x3_2 : Int).toNat) (c := co25) hC27 (by omega) hroom27
       obtain ⟨A27, hA27⟩ : ∃ A1, A1 = (if co25 = (x3_2 : Int).toNat then Ao25 else (Ao25 : Option Addr).map (·.add ((x3_2 : Int).toNat * 2))) := ⟨_, rfl⟩
       obtain ⟨c27, hc27⟩ : ∃ c1, c1 = co25 - (x3_2 : Int).toNat := ⟨_, rfl⟩
       have hy27 : y558.length = x0_2.length - (x3_2 : Int).toNat := (by rw [Ny558.out, List.length_drop] <;> omega)
       rw [show (x0_2).drop (x3_2 : Int).toNat = y558 from Ny558.out.symm] at hr27
       replace hr27 : Kd.F k23 _ _ A27 y558.length y558 := (by rw [hA27]; exact hr27)
       rw [← hy27, ← hA27, ← hc27] at hcut27
       have HO562 := am (show Kd.V k23 23 _ w.heap.size _ (.slice A27 y558.length c27) y558 from Kd.V_mk (by rw [hy27, hc27]; exact Nat.sub_le_sub_right hroom27 _) hr27)
       have HC562 := am (show y558.length ≤ c27 from by rw [hy27, hc27]; exact Nat.sub_le_sub_right hroom27 _)
       clear hr27 hC27 hroom27 hi027 hsz27 hc27
       have KY27 := am hy27
       have KA27 := am hA27
       clear hy27 hA27
       replace q27 := eq_true q27
       have q28 : (x3_2 : Int) ≤ ((x0_2.length : Int) : Int) := of_decide_eq_true (by assumption)
       obtain ⟨i028, hi028, _, hsz28, _⟩ := info_parts info23
       have hroom28 : x0_2.length ≤ co25 := (Kd.V_reads' HO_0.out).2.1
       have hC28 : Kd.F k23 _ _ Ao25 x0_2.length x0_2 := (Kd.V_at (base := w.heap.size) HO_0.out).2.2
       have hcut28 := cut_to (P := Try.prog) 29 23 .i64 Try.underlying29 hi028 Ao25 x0_2.length co25 x3_2 (of_decide_eq_true (by assumption)) q28 hroom28
       have hr28 := Kd.F_take (m := (x3_2 : Int).toNat) hC28 (by omega)
       have hy28 : y566.length = (x3_2 : Int).toNat := (by rw [Ny566.out, List.length_take]; omega)
       rw [← Ny566.out] at hr28
       rw [← hy28] at hcut28
       have HO570 := am (show Kd.V k23 23 _ w.heap.size _ (.slice Ao25 y566.length co25) y566 from Kd.V_mk (by omega) hr28)
       have HC570 := am (show y566.length ≤ co25 from by omega)
       clear hr28 hC28 hroom28 hi028 hsz28
       have KY28 := am hy28
       clear hy28
       replace q28 := eq_true q28
       refine start_ (n := 10) (S := fun w' => True) (ds := []) #[F,F,F,F,F,F,F,F,F,F] (by kernel_rfl) rfl rfl trivial (fun hHeld => ?_); refine with_tabW r_Canonical.tab9 r_Canonical.bits9 (fun HT_ HW_ => ?_)
       generalize wr.drew = w26 at HO_0 HB HO562 HO570 hHeld ⊢
       refine pure_ (i := 1) (N := some 27) (v := ?_) (a' := ?_) #[F,T,F,F,F,F,F,F,F,F] rfl rfl (any_of HT_.out (by kernel_rfl)) (fun _ _ _ h => h) (Or.inl ⟨by rfl, ?_⟩) ?_ ?_
       rotate_left
       ·intro w'
        go_simp
        with_reducible rfl
       rotate_left
       ·simp only [Act.put, psl, i64_w, i32_w]
        rfl
       refine pure_ (i := 2) (N := some 28) (v := ?_) (a' := ?_) #[F,T,T,F,F,F,F,F,F,F] rfl rfl (any_of HT_.out (by kernel_rfl)) (fun _ _ _ h => h) (Or.inl ⟨by rfl, ?_⟩) ?_ ?_
       rotate_left
       ·intro w'
        go_simp
        with_reducible rfl
       rotate_left
       ·simp only [Act.put, psl, i64_w, i32_w]
        rfl
       refine pure_ (i := 3) (N := some 29) (v := ?_) (a' := ?_) #[F,T,T,T,F,F,F,F,F,F] rfl rfl (any_of HT_.out (by kernel_rfl)) (fun _ _ _ h => h) (Or.inl ⟨by rfl, ?_⟩) ?_ ?_
       rotate_left
       ·intro w'
        go_simp
        with_reducible rfl
       rotate_left
       ·simp only [Act.put, psl, i64_w, i32_w]
        rfl
       refine pure_ (i := 5) (N := some 31) (v := ?_) (a' := ?_) #[F,T,T,T,F,T,F,F,F,F] rfl rfl (any_of HT_.out (by kernel_rfl)) (fun _ _ _ h => h) (Or.inl ⟨by rfl, ?_⟩) ?_ ?_
       rotate_left
       ·intro w'
        go_simp
        with_reducible rfl
       rotate_left
       ·simp only [Act.put, psl, i64_w, i32_w]
        rfl
       refine pure_ (i := 6) (N := some 32) (v := ?_) (a' := ?_) #[F,T,T,T,F,T,T,F,F,F] rfl rfl (any_of HT_.out (by kernel_rfl)) (fun _ _ _ h => h) (Or.inl ⟨by rfl, ?_⟩) ?_ ?_
       rotate_left
       ·intro w'
        go_simp
        with_reducible rfl
       rotate_left
       ·simp only [Act.put, psl, i64_w, i32_w]
        rfl
       refine pure_ (i := 7) (N := some 33) (v := ?_) (a' := ?_) #[F,T,T,T,F,T,T,T,F,F] rfl rfl (any_of HT_.out (by kernel_rfl)) (fun _ _ _ h => h) (Or.inl ⟨by rfl, ?_⟩) ?_ ?_
       rotate_left
       ·intro w'
        go_simp
        with_reducible rfl
       rotate_left
       ·simp only [Act.put, psl, i64_w, i32_w]
        rfl
       refine one_ (i := 0) (N := some 26) #[T,T,T,T,F,T,T,T,F,F] rfl rfl (one_of HT_.out (by kernel_rfl)) (by decide) (fun K hK => ?_)
       refine Kd.R_lit_step k23 _ 23 ?hg (N := 26) ?hd (xs := ([] : List (S23))) (inner := []) (ok := fun _ => True) (okp := fun _ => True) ?hr ?hp (fun _ hk => hk) trivial (Below.refl _ _) (Nat.le_refl _) (by simp) ?_; (case hd | hg => rfl); (case hr => first | (go_simp; done) | (go_simp; rfl)); (case hp => exact (Reps.none _ _))
       intro v556 w29 ho30 hb hg_ hnew_
       clear hg_ hnew_
       (first | rw [← Ny555.out] at ho30 | (simp only [Int.reduceToNat] at ho30; rw [← Ny555.out] at ho30))
       have n0_ := am (Kd.V_elder' (by (with_reducible repeat (first | apply Kd.V_alloc | apply Kd.V_drewN | apply Kd.V_drew)); exact HO_0.out) (Kd.R_base ho30) hb)
       have n1_ := am (Kd.V_elder' (by (with_reducible repeat (first | apply Kd.V_alloc | apply Kd.V_drewN | apply Kd.V_drew)); exact HO562.out) (Kd.R_base ho30) hb)
       have n2_ := am (Kd.V_elder' (by (with_reducible repeat (first | apply Kd.V_alloc | apply Kd.V_drewN | apply Kd.V_drew)); exact HO570.out) (Kd.R_base ho30) hb)
       have n3_ := am (Kd.R_lower (Kd.R_newM (M := fun k_ => (w.heap.size ≤ k_)) ho30 (wz (by repeat (first | (with_reducible first | exact HB.out | apply wa | apply wN | apply wd) | exact HB.out))) (fun k_ h_ => h_)) (wz (by repeat (first | (with_reducible first | exact HB.out | apply wa | apply wN | apply wd) | exact HB.out))))
       have n4_ := am (below_step (by repeat (first | (with_reducible first | exact HB.out | apply wa | apply wN | apply wd) | exact HB.out)) hb)
       clear HO_0 HO562 HO570 HB
       have HO_0 := n0_
       have HO562 := n1_
       have HO570 := n2_
       have HO557 := n3_
       have HB := n4_
       clear n0_ n1_ n2_ n3_ n4_ hb ho30
       refine hK.out _ _ trivial (fun hHeld => ?_)
       clear hK K
       refine norm_ (a' := ?_) ?_ ?_
       rotate_left
       ·show Act.put _ (some 26) _ = _
        simp only [Act.put, psl, i64_w, i32_w]
        rfl
       refine one_ (i := 4) (N := some 30) #[T,T,T,T,T,T,T,T,F,F] rfl rfl (one_of HT_.out (by kernel_rfl)) (by decide) (fun K hK => ?_)
       refine Kd.R_append_rows_step k23 (w0 := w) w.heap.size (by rfl) (.tmp 26) (.tmp 29) 29 23 (.agg #[(.int .i64 0), (.int .i64 0)]) 16 rfl Try.underlying29 info23 rfl (by decide) (by omega) v556 y555 y558 _ _ _ (fun k_ => (w.heap.size ≤ k_)) (fun _ => False) rfl rfl ?aO ?aR (fun _ _ h => h) (fun _ h => h.elim) ?aF ?aB ?aS ?aL ?_
       (case aR => repeat (first | exact (Kd.V_reads' HO562.out).2.2 | (with_reducible refine Kd.C_alloc ?_ _) | (with_reducible refine Kd.C_drewN ?_ _) | (with_reducible refine Kd.C_drew ?_)))
       (case aB => exact (by repeat (first | (with_reducible first | exact HB.out | apply wa | apply wN | apply wd) | exact HB.out)))
       (case aF => exact (fun k_ hk => (Nat.le_trans (wz (by repeat (first | (with_reducible first | exact HB.out | apply wa | apply wN | apply wd) | exact HB.out))) hk)))
       (case aO => exact (by (with_reducible repeat (first | apply Kd.R_alloc | apply Kd.R_drewN | apply Kd.R_drew)); exact Kd.R_mono HO557.out (fun _ hk => hk.1)))
       (case aS => exact (wz (by repeat (first | (with_reducible first | exact HB.out | apply wa | apply wN | apply wd) | exact HB.out))))
       (case aL => have := LMc21.out; omega)
       intro v564 w31 ho hb hg hat
       rw [← Ny563.out] at ho
       have n0_ := am (Kd.V_afterv (ok := (fun k_ => (P0_ k_ ∨ w.heap.size ≤ k_))) (by (with_reducible repeat (first | apply Kd.V_alloc | apply Kd.V_drewN | apply Kd.V_drew)); exact HO_0.out) hg hat)
       have n1_ := am (Kd.V_afterv (ok := (fun k_ => (P0_ k_ ∨ w.heap.size ≤ k_))) (by (with_reducible repeat (first | apply Kd.V_alloc | apply Kd.V_drewN | apply Kd.V_drew)); exact HO562.out) hg hat)
       have n2_ := am (Kd.V_afterv (ok := (fun k_ => (P0_ k_ ∨ w.heap.size ≤ k_))) (by (with_reducible repeat (first | apply Kd.V_alloc | apply Kd.V_drewN | apply Kd.V_drew)); exact HO570.out) hg hat)
       have n3_ := am (hb)
       have n4_ := am (ho)
       clear HO_0 HO562 HO570 HB HO557
       have HO_0 := n0_
       have HO562 := n1_
       have HO570 := n2_
       have HB := n3_
       have HO565 := n4_
       clear n0_ n1_ n2_ n3_ n4_ ho hb hg hat
       refine hK.out _ _ trivial (fun hHeld => ?_)
       clear hK K
       refine norm_ (a' := ?_) ?_ ?_
       rotate_left
       ·show Act.put _ (some 30) _ = _
        simp only [Act.put, psl, i64_w, i32_w]
        rfl
       refine one_ (i := 8) (N := some 34) #[T,T,T,T,T,T,T,T,T,F] rfl rfl (one_of HT_.out (by kernel_rfl)) (by decide) (fun K hK => ?_)
       refine Kd.R_append_rows_step k23 (w0 := w) w.heap.size (by rfl) (.tmp 30) (.tmp 33) 29 23 (.agg #[(.int .i64 0), (.int .i64 0)]) 16 rfl Try.underlying29 info23 rfl (by decide) (by omega) v564 y563 y566 _ _ _ (fun k_ => (w.heap.size ≤ k_)) (fun _ => False) rfl rfl ?aO ?aR (fun _ _ h => h) (fun _ h => h.elim) ?aF ?aB ?aS ?aL ?_
       (case aR => repeat (first | exact (Kd.V_reads' HO570.out).2.2 | (with_reducible refine Kd.C_alloc ?_ _) | (with_reducible refine Kd.C_drewN ?_ _) | (with_reducible refine Kd.C_drew ?_)))
       (case aB => exact (by repeat (first | (with_reducible first | exact HB.out | apply wa | apply wN | apply wd) | exact HB.out)))
       (case aF => exact (fun k_ hk => (Nat.le_trans (wz (by repeat (first | (with_reducible first | exact HB.out | apply wa | apply wN | apply wd) | exact HB.out))) hk)))
       (case aO => exact (by (with_reducible repeat (first | apply Kd.R_alloc | apply Kd.R_drewN | apply Kd.R_drew)); exact HO565.out))
       (case aS => exact (wz (by repeat (first | (with_reducible first | exact HB.out | apply wa | apply wN | apply wd) | exact HB.out))))
       (case aL => have := LMc24.out; omega)
       intro v572 w32 ho hb hg hat
       rw [← Ny571.out] at ho
       have n0_ := am (Kd.V_afterv (ok := (fun k_ => (P0_ k_ ∨ w.heap.size ≤ k_))) (by (with_reducible repeat (first | apply Kd.V_alloc | apply Kd.V_drewN | apply Kd.V_drew)); exact HO_0.out) hg hat)
       have n1_ := am (Kd.V_afterv (ok := (fun k_ => (P0_ k_ ∨ w.heap.size ≤ k_))) (by (with_reducible repeat (first | apply Kd.V_alloc | apply Kd.V_drewN | apply Kd.V_drew)); exact HO562.out) hg hat)
       have n2_ := am (Kd.V_afterv (ok := (fun k_ => (P0_ k_ ∨ w.heap.size ≤ k_))) (by (with_reducible repeat (first | apply Kd.V_alloc | apply Kd.V_drewN | apply Kd.V_drew)); exact HO570.out) hg hat)
       have n3_ := am (hb)
       have n4_ := am (ho)
       clear HO_0 HO562 HO570 HB HO565
       have HO_0 := n0_
       have HO562 := n1_
       have HO570 := n2_
       have HB := n3_
       have HO573 := n4_
       clear n0_ n1_ n2_ n3_ n4_ ho hb hg hat
       refine hK.out _ _ trivial (fun hHeld => ?_)
       clear hK K
       refine norm_ (a' := ?_) ?_ ?_
       rotate_left
       ·show Act.put _ (some 34) _ = _
        simp only [Act.put, psl, i64_w, i32_w]
        rfl
       refine pure_ (i := 9) (N := some 2) (v := ?_) (a' := ?_) #[T,T,T,T,T,T,T,T,T,T] rfl rfl (any_of HT_.out (by kernel_rfl)) (fun _ _ _ h => h) (Or.inl ⟨by rfl, ?_⟩) ?_ ?_
       rotate_left
       ·intro w'
        go_simp
        with_reducible rfl
       rotate_left
       ·simp only [Act.put, psl, i64_w, i32_w]
        rfl
       refine done_ (done_of HT_.out (by kernel_rfl)) ?_
       try go_wp2
       go_ret
       exact ⟨_, by first | rfl | (simp [errW_none, errW_some] <;> rfl) | (simp [*, errW_none, errW_some] <;> rfl), by (with_reducible repeat (first | apply Kd.R_alloc | apply Kd.R_drewN | apply Kd.R_drew)); exact HO573.out, by repeat (first | (with_reducible first | exact HB.out | apply wa | apply wN | apply wd) | exact HB.out)⟩
      ·rw [if_neg c19] at H
       exact absurd H (by simp)

end Go.Proofs.Ytcembjgpcbodcaa.QA
