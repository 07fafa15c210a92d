import Derived.Test.YtcofgnbopodahaaJQAx0
import Derived.Test.YtcofgnbopodahaaJQAx27
namespace Go.Proofs.Ytcofgnbopodahaa.QA
open Go.RowKit Go.Proofs.YtcofgnbopodahaaW.PrintWords Go.Proofs.YtcofgnbopodahaaW.PrintLast Go.Proofs.YtcofgnbopodahaaW.PrintMore
open Aside0 renaming mk → am
open World renaming block_lt_of_cell? → bq
attribute [local go_sem] max2_int min2_int max_two min_two max_three min_three max_four min_four
set_option linter.unusedVariables false
set_option linter.unusedSimpArgs false

mutual
def r_Clashes.l0 : Nat → List (S68) → List (S65) → Int → Option ((List (S65)))
 | 0, _, _, _ => none
 | k + 1, x0, x3, x4 => if x4 < (x0.length : Int) then (r_Clashes.l1 k x0 x3 x4 (wrap64 (x4 + 1))) else (some x3)
def r_Clashes.l1 : Nat → List (S68) → List (S65) → Int → Int → Option ((List (S65)))
 | 0, _, _, _, _ => none
 | k + 1, x0, x3, x4, x5 => if x5 < (x0.length : Int) then (if 0 ≤ x4 then (if x4 < (x0.length : Int) then (if 0 ≤ x5 then (if ((rd_T68 x0 x4).f2) = ((rd_T68 x0 x5).f2) then (r_Clashes.j2 k x0 x3 x4 x5) else ((r_overlap.f k ((rd_T68 x0 x4).f1.f0.f0) ((rd_T68 x0 x4).f1.f0.f1) ((rd_T68 x0 x4).f1.f0.f2) ((rd_T68 x0 x4).f1.f1.f0) ((rd_T68 x0 x4).f1.f1.f1) ((rd_T68 x0 x4).f1.f1.f2) ((rd_T68 x0 x5).f1.f0.f0) ((rd_T68 x0 x5).f1.f0.f1) ((rd_T68 x0 x5).f1.f0.f2) ((rd_T68 x0 x5).f1.f1.f0) ((rd_T68 x0 x5).f1.f1.f1) ((rd_T68 x0 x5).f1.f1.f2)).bind fun t538 => (if t538 = true then (if x3.length < 8796093022208 then (r_Clashes.j2 k x0 (x3 ++ [(⟨x4, x5⟩ : S65)]) x4 x5) else (none)) else (r_Clashes.j2 k x0 x3 x4 x5)))) else (none)) else (none)) else (none)) else (r_Clashes.l0 k x0 x3 (wrap64 (x4 + 1)))
def r_Clashes.j2 : Nat → List (S68) → List (S65) → Int → Int → Option ((List (S65)))
 | 0, _, _, _, _ => none
 | k + 1, x0, x3, x4, x5 => r_Clashes.l1 k x0 x3 x4 (wrap64 (x5 + 1))
end
def r_Clashes.f (k : Nat) (l0 : List (S68)) : Option ((List (S65))) := r_Clashes.l0 k l0 (([] : List (S65))) 0
def r_Clashes.T8 : Bool × List (List Nat × List Nat) := (true, [([], []), ([], []), ([0, 1], [0, 1]), ([2], [2]), ([3], [3]), ([], []), ([], []), ([5, 6], [5, 6]), ([7], [7]), ([8], [8]), ([4, 9], [4, 9]), ([10], [10]), ([11], [11]), ([11], [11]), ([12, 13, 11], [11, 12, 13]), ([14, 11], [11, 14]), ([15, 11], [11, 15]), ([11], [11]), ([11], [11]), ([17, 18, 11], [11, 17, 18]), ([19, 11], [11, 19]), ([20, 11], [11, 20]), ([16, 21, 11, 11], [11, 16, 21]), ([11, 22], [11, 22])])
def r_Clashes.B8 : List Nat := [0, 0, 3, 7, 15, 0, 0, 96, 224, 480, 1023, 2047, 4095, 4095, 16383, 32767, 65535, 4095, 4095, 397311, 921599, 1970175, 4194303, 8388607]
theorem r_Clashes.tab8 : rtab .any (opsOf Try.f30 8) = r_Clashes.T8 := by kernel_rfl
theorem r_Clashes.bits8 : waitsOk r_Clashes.T8.2 r_Clashes.B8 = true := by kernel_rfl
set_option maxHeartbeats 8000000 in
set_option maxRecDepth 100000 in
theorem r_Clashes.calls (k : Nat) (A0 : Option Addr) (c0 : Nat) (l0 : List (S68)) (r : List (S65)) (w : World) (hr0 : Kd.C k68 w A0 l0.length l0) (hc0 : l0.length ≤ c0) (h : r_Clashes.f k l0 = some r) :
  Calls Try.prog 30 #[.slice A0 l0.length c0] w fun e w' => ∃ v0_ : Value, e = .returned (v0_) ∧ Kd.R k65 65 w' w.heap.size (fun _ => True) v0_ r ∧ Below w.heap.size w w' := by
 have hu43 := Try.underlying43
 have hu65 := Try.underlying65
 have HR0 := am hr0
 have HC0 := am hc0
 clear hr0 hc0
 have HB := am (Below.refl w.heap.size w)
 have H : (r_Clashes.l0 k l0 (([] : List (S65))) 0) = some r := h
 clear h
 obtain ⟨y531, hy531⟩ : ∃ y_ : List (S65), y_ = (([] : List (S65))) := ⟨_, rfl⟩
 replace H : (r_Clashes.l0 k l0 y531 0) = some r := by first | (rw [hy531]; with_reducible exact H) | (have H2_ := (Option.bind_some _ _).symm.trans H; rw [hy531]; with_reducible exact H2_) | (have H2_ := (Option.bind_some _ _).symm.trans H; with_reducible exact H2_) | with_reducible exact H | (rw [hy531]; exact H) | exact H
 have Ny531 := am hy531
 clear hy531
 have H' := am H
 clear H
 go_enter Try.func30, Try.ntmps30
 go_wp2_with (first | ((with_reducible refine gate_dst (N := 6) rfl ?_); refine Kd.R_lit k65 _ 65 ?hg (N := 6) ?hd (xs := ([] : List (S65))) (inner := []) (ok := fun _ => True) (okp := fun _ => True) ?hr ?hp (fun _ hk => hk) trivial (Below.refl _ _) (Nat.le_refl _) (by simp) ?_; (case hd | hg => rfl); (case hr => first | (go_simp; done) | (go_simp; rfl)); (case hp => exact (Reps.none _ _)); intro v532 w2 ho3 hb hg_ hnew_; clear hg_ hnew_; (first | rw [← Ny531.out] at ho3 | (simp only [Int.reduceToNat] at ho3; rw [← Ny531.out] at ho3)); have HO533 := am (Kd.R_lower ho3 (below_size (fW HB.out))); replace HB := bS HB hb; clear hb ho3))
 go_loopg [3, 4] k (fun kq v3 v4 w' => ∃ (x3_1 : List (S65)) (x4_1 : Int), v4 = .int .i64 x4_1 ∧ Aside0 (r_Clashes.l0 kq l0 x3_1 x4_1 = some r) ∧ Aside0 (kq ≤ k) ∧ Aside0 (Kd.R k65 65 w' w.heap.size (fun _ => True) v3 x3_1) ∧ Aside0 (Below w.heap.size w w'))
 case atStart => exact ⟨(y531), (0), sqD, H', ⟨Nat.le_refl _⟩, ⟨fR HO533.out⟩, ⟨fW HB.out⟩⟩
 case round =>
  clear H'
  try clear p2;try clear c3
  obtain ⟨x3_1, x4_1, rfl, HA, HK1, HO_3, HB⟩ := hrel
  cases gk with
  | zero => exact absurd HA.out (by simp [r_Clashes.l0])
  | succ k1 =>
   have H := HA.out
   clear HA
   simp only [r_Clashes.l0] at H
   by_cases c4 : x4_1 < (l0.length : Int)
   ·rw [if_pos c4] at H
    have c4b0 : decide (x4_1 < (l0.length : Int)) = true := decide_eq_true c4
    clear c4
    have H' := am H
    clear H
    go_wp2
    go_loopg [3, 5] k1 (fun kq v3 v5 w' => ∃ (x3_2 : List (S65)) (x5_2 : Int), v5 = .int .i64 x5_2 ∧ Aside0 (r_Clashes.l1 kq l0 x3_2 x4_1 x5_2 = some r) ∧ Aside0 (kq ≤ k1) ∧ Aside0 (Kd.R k65 65 w' w.heap.size (fun _ => True) v3 x3_2) ∧ Aside0 (Below w.heap.size w w'))
    case atStart => exact ⟨(x3_1), (wrap64 (x4_1 + 1)), sqD, H', ⟨Nat.le_refl _⟩, ⟨fR HO_3.out⟩, ⟨fW HB.out⟩⟩
    case round =>
     clear H'
     try clear p2;try clear c3;try clear c4;try clear c4b0;try clear p2
     obtain ⟨x3_2, x5_2, rfl, HA, HK2, HO_3, HB⟩ := hrel
     cases gk with
     | zero => exact absurd HA.out (by simp [r_Clashes.l1])
     | succ k2 =>
      have H := HA.out
      clear HA
      simp only [r_Clashes.l1] at H
      by_cases c5 : x5_2 < (l0.length : Int)
      rotate_left
      ·rw [if_neg c5] at H
       have c5b0 : decide (x5_2 < (l0.length : Int)) = false := decide_eq_false c5
       clear c5
       have H' := am H
       clear H
       go_wp2
       go_roundg k2
       case measure => have := HK1.out; have := HK2.out; omega
       case rel => exact ⟨(x3_2), (wrap64 (x4_1 + 1)), sqD, H', ⟨by have := HK1.out; have := HK2.out; omega⟩, ⟨fR HO_3.out⟩, ⟨fW HB.out⟩⟩
      rw [if_pos c5] at H
      have c5b0 : decide (x5_2 < (l0.length : Int)) = true := decide_eq_true c5
      clear c5
      have HC6 := am H
      clear H
      go_upto_block 3 with (fail)
      go_cut [3] (fun v3 wc => ∃ (kq : Nat) (x3_5 : List (S65)), Aside0 (r_Clashes.j2 kq l0 x3_5 x4_1 x5_2 = some r) ∧ Aside0 (kq ≤ k2) ∧ Aside0 (Kd.R k65 65 wc w.heap.size (fun _ => True) v3 x3_5) ∧ Aside0 (Below w.heap.size w wc))
      case first =>
       have H := HC6.out
       clear HC6
       by_cases c7 : 0 ≤ x4_1
       rotate_left
       ·rw [if_neg c7] at H
        exact absurd H (by simp)
       rw [if_pos c7] at H
       have c7b0 : decide (0 ≤ x4_1) = true := decide_eq_true c7
       clear c7
       (first | rw [c7b0] | (simp only [i64_w, i32_w]; rw [c7b0]) | skip)
       by_cases c8 : x4_1 < (l0.length : Int)
       rotate_left
       ·rw [if_neg c8] at H
        exact absurd H (by simp)
       rw [if_pos c8] at H
       have c8b0 : decide (x4_1 < (l0.length : Int)) = true := decide_eq_true c8
       clear c8
       by_cases c9 : 0 ≤ x5_2
       rotate_left
       ·rw [if_neg c9] at H
        exact absurd H (by simp)
       rw [if_pos c9] at H
       have c9b0 : decide (0 ≤ x5_2) = true := decide_eq_true c9
       clear c9
       by_cases c10 : ((rd_T68 l0 x4_1).f2) = ((rd_T68 l0 x5_2).f2)
       ·rw [if_pos c10] at H
        have c10b0 : (((rd_T68 l0 x4_1).f2) == ((rd_T68 l0 x5_2).f2)) = true := beq_iff_eq.mpr c10
        have c10b1 : (((rd_T68 l0 x4_1).f2) != ((rd_T68 l0 x5_2).f2)) = false := bne_eq_false_iff_eq.mpr c10
        clear c10
        have H' := am H
        clear H
        try go_wp2
        have n0_ := am (Kd.R_drew HO_3.out)
        have n1_ := am (below_drew1 HB.out)
        clear HO_3 HB
        have HO_3 := n0_
        have HB := n1_
        clear n0_ n1_
        have p534 : 0 ≤ (x4_1 : Int) := of_decide_eq_true (by assumption)
        have q534 : x4_1 < (l0.length : Int) := of_decide_eq_true (by assumption)
        obtain ⟨ad534, e534, hx534_0, hx534_1, hx534_2, hx534_3, hx534_4, hx534_5, hx534_6, hx534_7⟩ := at_T68 HR0.out x4_1 p534 q534
        have hw534_7 := hx534_7
        have hw534_6 := hx534_6
        have hw534_5 := hx534_5
        have hw534_4 := hx534_4
        have hw534_3 := hx534_3
        have hw534_2 := hx534_2
        have hw534_1 := hx534_1
        have hw534_0 := hx534_0
        cases e534
        replace hx534_0 := cl HB hx534_0
        replace hx534_1 := cl HB hx534_1
        replace hx534_2 := cl HB hx534_2
        replace hx534_3 := cl HB hx534_3
        replace hx534_4 := cl HB hx534_4
        replace hx534_5 := cl HB hx534_5
        replace hx534_6 := cl HB hx534_6
        replace hx534_7 := cl HB hx534_7
        replace p534 := eq_true p534
        replace q534 := eq_true q534
        have p535 : 0 ≤ (x5_2 : Int) := of_decide_eq_true (by assumption)
        have q535 : x5_2 < (l0.length : Int) := of_decide_eq_true (by assumption)
        obtain ⟨ad535, e535, hx535_0, hx535_1, hx535_2, hx535_3, hx535_4, hx535_5, hx535_6, hx535_7⟩ := at_T68 HR0.out x5_2 p535 q535
        have hw535_7 := hx535_7
        have hw535_6 := hx535_6
        have hw535_5 := hx535_5
        have hw535_4 := hx535_4
        have hw535_3 := hx535_3
        have hw535_2 := hx535_2
        have hw535_1 := hx535_1
        have hw535_0 := hx535_0
        obtain rfl : ad534 = ad535 := (by injection e535)
        replace hx535_0 := cl HB hx535_0
        replace hx535_1 := cl HB hx535_1
        replace hx535_2 := cl HB hx535_2
        replace hx535_3 := cl HB hx535_3
        replace hx535_4 := cl HB hx535_4
        replace hx535_5 := cl HB hx535_5
        replace hx535_6 := cl HB hx535_6
        replace hx535_7 := cl HB hx535_7
        replace p535 := eq_true p535
        replace q535 := eq_true q535
        refine start_ (n := 24) (S := fun w' => w'.cell? (ad534.add ((x4_1).toNat * 8)) = some (.string ((rd_T68 l0 x4_1).f0)) ∧ w'.cell? ⟨(ad534.add ((x4_1).toNat * 8)).block, (ad534.add ((x4_1).toNat * 8)).off + 1, none⟩ = some (.int .i64 ((rd_T68 l0 x4_1).f1.f0.f0)) ∧ w'.cell? ⟨(ad534.add ((x4_1).toNat * 8)).block, (ad534.add ((x4_1).toNat * 8)).off + 2, none⟩ = some (.int .i64 ((rd_T68 l0 x4_1).f1.f0.f1)) ∧ w'.cell? ⟨(ad534.add ((x4_1).toNat * 8)).block, (ad534.add ((x4_1).toNat * 8)).off + 3, none⟩ = some (.int .i64 ((rd_T68 l0 x4_1).f1.f0.f2)) ∧ w'.cell? ⟨(ad534.add ((x4_1).toNat * 8)).block, (ad534.add ((x4_1).toNat * 8)).off + 4, none⟩ = some (.int .i64 ((rd_T68 l0 x4_1).f1.f1.f0)) ∧ w'.cell? ⟨(ad534.add ((x4_1).toNat * 8)).block, (ad534.add ((x4_1).toNat * 8)).off + 5, none⟩ = some (.int .i64 ((rd_T68 l0 x4_1).f1.f1.f1)) ∧ w'.cell? ⟨(ad534.add ((x4_1).toNat * 8)).block, (ad534.add ((x4_1).toNat * 8)).off + 6, none⟩ = some (.int .i64 ((rd_T68 l0 x4_1).f1.f1.f2)) ∧ w'.cell? ⟨(ad534.add ((x4_1).toNat * 8)).block, (ad534.add ((x4_1).toNat * 8)).off + 7, none⟩ = some (.int .i64 ((rd_T68 l0 x4_1).f2)) ∧ w'.cell? (ad534.add ((x5_2).toNat * 8)) = some (.string ((rd_T68 l0 x5_2).f0)) ∧ w'.cell? ⟨(ad534.add ((x5_2).toNat * 8)).block, (ad534.add ((x5_2).toNat * 8)).off + 1, none⟩ = some (.int .i64 ((rd_T68 l0 x5_2).f1.f0.f0)) ∧ w'.cell? ⟨(ad534.add ((x5_2).toNat * 8)).block, (ad534.add ((x5_2).toNat * 8)).off + 2, none⟩ = some (.int .i64 ((rd_T68 l0 x5_2).f1.f0.f1)) ∧ w'.cell? ⟨(ad534.add ((x5_2).toNat * 8)).block, (ad534.add ((x5_2).toNat * 8)).off + 3, none⟩ = some (.int .i64 ((rd_T68 l0 x5_2).f1.f0.f2)) ∧ w'.cell? ⟨(ad534.add ((x5_2).toNat * 8)).block, (ad534.add ((x5_2).toNat * 8)).off + 4, none⟩ = some (.int .i64 ((rd_T68 l0 x5_2).f1.f1.f0)) ∧ w'.cell? ⟨(ad534.add ((x5_2).toNat * 8)).block, (ad534.add ((x5_2).toNat * 8)).off + 5, none⟩ = some (.int .i64 ((rd_T68 l0 x5_2).f1.f1.f1)) ∧ w'.cell? ⟨(ad534.add ((x5_2).toNat * 8)).block, (ad534.add ((x5_2).toNat * 8)).off + 6, none⟩ = some (.int .i64 ((rd_T68 l0 x5_2).f1.f1.f2)) ∧ w'.cell? ⟨(ad534.add ((x5_2).toNat * 8)).block, (ad534.add ((x5_2).toNat * 8)).off + 7, none⟩ = some (.int .i64 ((rd_T68 l0 x5_2).f2))) (ds := []) #[F,F,F,F,F,F,F,F,F,F,F,F,F,F,F,F,F,F,F,F,F,F,F,F] (by kernel_rfl) rfl rfl ⟨((HB.out.cell (bq w _ hw534_0)).trans hw534_0), ((HB.out.cell (bq w _ hw534_1)).trans hw534_1), ((HB.out.cell (bq w _ hw534_2)).trans hw534_2), ((HB.out.cell (bq w _ hw534_3)).trans hw534_3), ((HB.out.cell (bq w _ hw534_4)).trans hw534_4), ((HB.out.cell (bq w _ hw534_5)).trans hw534_5), ((HB.out.cell (bq w _ hw534_6)).trans hw534_6), ((HB.out.cell (bq w _ hw534_7)).trans hw534_7), ((HB.out.cell (bq w _ hw535_0)).trans hw535_0), ((HB.out.cell (bq w _ hw535_1)).trans hw535_1), ((HB.out.cell (bq w _ hw535_2)).trans hw535_2), ((HB.out.cell (bq w _ hw535_3)).trans hw535_3), ((HB.out.cell (bq w _ hw535_4)).trans hw535_4), ((HB.out.cell (bq w _ hw535_5)).trans hw535_5), ((HB.out.cell (bq w _ hw535_6)).trans hw535_6), ((HB.out.cell (bq w _ hw535_7)).trans hw535_7)⟩ (fun hHeld => ?_); refine with_tabW r_Clashes.tab8 r_Clashes.bits8 (fun HT_ HW_ => ?_)
        generalize wr.drew = w11 at HO_3 HB hx534_0 hx534_1 hx534_2 hx534_3 hx534_4 hx534_5 hx534_6 hx534_7 hx535_0 hx535_1 hx535_2 hx535_3 hx535_4 hx535_5 hx535_6 hx535_7 hHeld ⊢
        refine pu (i := 0) (N := some 21) (fl 24 1 []) HT_ ?_
        refine pu (i := 1) (N := some 22) (fl 24 2 []) HT_ ?_
        refine pu (i := 2) (N := some 23) (fl 24 3 []) HT_ ?_
        refine pu (i := 3) (N := some 24) (fl 24 4 []) HT_ ?_
        refine pu (i := 5) (N := some 26) (fl 24 4 [5]) HT_ ?_
        refine pu (i := 6) (N := some 27) (fl 24 4 [5, 6]) HT_ ?_
        refine pu (i := 7) (N := some 28) (fl 24 4 [5, 6, 7]) HT_ ?_
        refine pu (i := 8) (N := some 29) (fl 24 4 [5, 6, 7, 8]) HT_ ?_
        refine tk (i := 4) (N := some 25) (fl 24 9 []) HT_ HW_ hHeld ?_
        refine tk (i := 9) (N := some 30) (fl 24 10 []) HT_ HW_ hHeld ?_
        refine pu (i := 10) (N := some 31) (fl 24 11 []) HT_ ?_
        refine pu (i := 11) (N := some 32) (fl 24 12 []) HT_ ?_
        refine pure_ (i := 12) (N := some 33) (v := undef) (a' := ?_) #[T,T,T,T,T,T,T,T,T,T,T,T,T,F,F,F,F,F,F,F,F,F,F,F] rfl rfl (any_of HT_.out (by kernel_rfl)) (fun _ _ _ h => h) (Or.inr ⟨by rfl, rfl⟩) ?_ ?_
        rotate_left
        ·simp only [Act.put, psl, i64_w, i32_w]
         rfl
        refine pure_ (i := 13) (N := some 34) (v := undef) (a' := ?_) #[T,T,T,T,T,T,T,T,T,T,T,T,T,T,F,F,F,F,F,F,F,F,F,F] rfl rfl (any_of HT_.out (by kernel_rfl)) (fun _ _ _ h => h) (Or.inr ⟨by rfl, rfl⟩) ?_ ?_
        rotate_left
        ·simp only [Act.put, psl, i64_w, i32_w]
         rfl
        refine pure_ (i := 14) (N := some 35) (v := undef) (a' := ?_) #[T,T,T,T,T,T,T,T,T,T,T,T,T,T,T,F,F,F,F,F,F,F,F,F] rfl rfl (any_of HT_.out (by kernel_rfl)) (fun _ _ _ h => h) (Or.inr ⟨by rfl, rfl⟩) ?_ ?_
        rotate_left
        ·simp only [Act.put, psl, i64_w, i32_w]
         rfl
        refine pure_ (i := 15) (N := some 36) (v := undef) (a' := ?_) #[T,T,T,T,T,T,T,T,T,T,T,T,T,T,T,T,F,F,F,F,F,F,F,F] rfl rfl (any_of HT_.out (by kernel_rfl)) (fun _ _ _ h => h) (Or.inr ⟨by rfl, rfl⟩) ?_ ?_
        rotate_left
        ·simp only [Act.put, psl, i64_w, i32_w]
         rfl
        refine pure_ (i := 16) (N := some 37) (v := undef) (a' := ?_) #[T,T,T,T,T,T,T,T,T,T,T,T,T,T,T,T,T,F,F,F,F,F,F,F] rfl rfl (any_of HT_.out (by kernel_rfl)) (fun _ _ _ h => h) (Or.inr ⟨by rfl, rfl⟩) ?_ ?_
        rotate_left
        ·simp only [Act.put, psl, i64_w, i32_w]
         rfl
        refine pure_ (i := 17) (N := some 38) (v := undef) (a' := ?_) #[T,T,T,T,T,T,T,T,T,T,T,T,T,T,T,T,T,T,F,F,F,F,F,F] rfl rfl (any_of HT_.out (by kernel_rfl)) (fun _ _ _ h => h) (Or.inr ⟨by rfl, rfl⟩) ?_ ?_
        rotate_left
        ·simp only [Act.put, psl, i64_w, i32_w]
         rfl
        refine pure_ (i := 18) (N := some 39) (v := undef) (a' := ?_) #[T,T,T,T,T,T,T,T,T,T,T,T,T,T,T,T,T,T,T,F,F,F,F,F] rfl rfl (any_of HT_.out (by kernel_rfl)) (fun _ _ _ h => h) (Or.inr ⟨by rfl, rfl⟩) ?_ ?_
        rotate_left
        ·simp only [Act.put, psl, i64_w, i32_w]
         rfl
        refine pure_ (i := 19) (N := some 40) (v := undef) (a' := ?_) #[T,T,T,T,T,T,T,T,T,T,T,T,T,T,T,T,T,T,T,T,F,F,F,F] rfl rfl (any_of HT_.out (by kernel_rfl)) (fun _ _ _ h => h) (Or.inr ⟨by rfl, rfl⟩) ?_ ?_
        rotate_left
        ·simp only [Act.put, psl, i64_w, i32_w]
         rfl
        refine pure_ (i := 20) (N := some 41) (v := undef) (a' := ?_) #[T,T,T,T,T,T,T,T,T,T,T,T,T,T,T,T,T,T,T,T,T,F,F,F] rfl rfl (any_of HT_.out (by kernel_rfl)) (fun _ _ _ h => h) (Or.inr ⟨by rfl, rfl⟩) ?_ ?_
        rotate_left
        ·simp only [Act.put, psl, i64_w, i32_w]
         rfl
        refine pure_ (i := 21) (N := some 42) (v := undef) (a' := ?_) #[T,T,T,T,T,T,T,T,T,T,T,T,T,T,T,T,T,T,T,T,T,T,F,F] rfl rfl (any_of HT_.out (by kernel_rfl)) (fun _ _ _ h => h) (Or.inr ⟨by rfl, rfl⟩) ?_ ?_
        rotate_left
        ·simp only [Act.put, psl, i64_w, i32_w]
         rfl
        refine pure_ (i := 22) (N := some 43) (v := undef) (a' := ?_) #[T,T,T,T,T,T,T,T,T,T,T,T,T,T,T,T,T,T,T,T,T,T,T,F] rfl rfl (any_of HT_.out (by kernel_rfl)) (fun _ _ _ h => h) (Or.inr ⟨by rfl, rfl⟩) ?_ ?_
        rotate_left
        ·simp only [Act.put, psl, i64_w, i32_w]
         rfl
        refine pu (i := 23) (N := some 44) (fl 24 24 []) HT_ ?_
        refine done_ (done_of HT_.out (by kernel_rfl)) ?_
        try go_wp2
        go_meet
        case rel => exact ⟨_, (x3_2), H', ⟨by have := HK1.out; have := HK2.out; first | omega | exact Nat.le_refl _⟩, ⟨fR HO_3.out⟩, ⟨fW HB.out⟩⟩
       rw [if_neg c10] at H
       have c10b0 : (((rd_T68 l0 x4_1).f2) == ((rd_T68 l0 x5_2).f2)) = false := beq_eq_false_iff_ne.mpr c10
       have c10b1 : (((rd_T68 l0 x4_1).f2) != ((rd_T68 l0 x5_2).f2)) = true := bne_iff_ne.mpr c10
       replace H := Option.bind_eq_some_iff.mp H
       obtain ⟨t538, A120, H⟩ := H
       replace H : (if t538 = true then (if x3_2.length < 8796093022208 then (r_Clashes.j2 k2 l0 (x3_2 ++ [(⟨x4_1, x5_2⟩ : S65)]) x4_1 x5_2) else (none)) else (r_Clashes.j2 k2 l0 x3_2 x4_1 x5_2)) = some r := H
       have A12 := am A120
       clear A120
       by_cases c13 : t538 = true
       ·subst c13
        have H1 : (if x3_2.length < 8796093022208 then (r_Clashes.j2 k2 l0 (x3_2 ++ [(⟨x4_1, x5_2⟩ : S65)]) x4_1 x5_2) else (none)) = some r := by rw [if_pos rfl] at H; exact H
        clear H
        have H := H1
        clear H1
        by_cases c14 : x3_2.length < 8796093022208
        rotate_left
        ·rw [if_neg c14] at H
         exact absurd H (by simp)
        rw [if_pos c14] at H
        have LMc14 := am c14
        clear c14
        obtain ⟨y539, hy539⟩ : ∃ y_ : List (S65), y_ = (x3_2 ++ [(⟨x4_1, x5_2⟩ : S65)]) := ⟨_, rfl⟩
        replace H : (r_Clashes.j2 k2 l0 y539 x4_1 x5_2) = some r := by first | (rw [hy539]; with_reducible exact H) | (have H2_ := (Option.bind_some _ _).symm.trans H; rw [hy539]; with_reducible exact H2_) | (have H2_ := (Option.bind_some _ _).symm.trans H; with_reducible exact H2_) | with_reducible exact H | (rw [hy539]; exact H) | exact H
        have Ny539 := am hy539
        clear hy539
        have H' := am H
        clear H
        try go_wp2
        have n0_ := am (Kd.R_drew HO_3.out)
        have n1_ := am (below_drew1 HB.out)
        clear HO_3 HB
        have HO_3 := n0_
        have HB := n1_
        clear n0_ n1_
        have p534 : 0 ≤ (x4_1 : Int) := of_decide_eq_true (by assumption)
        have q534 : x4_1 < (l0.length : Int) := of_decide_eq_true (by assumption)
        obtain ⟨ad534, e534, hx534_0, hx534_1, hx534_2, hx534_3, hx534_4, hx534_5, hx534_6, hx534_7⟩ := at_T68 HR0.out x4_1 p534 q534
        have hw534_7 := hx534_7
        have hw534_6 := hx534_6
        have hw534_5 := hx534_5
        have hw534_4 := hx534_4
        have hw534_3 := hx534_3
        have hw534_2 := hx534_2
        have hw534_1 := hx534_1
        have hw534_0 := hx534_0
        cases e534
        replace hx534_0 := cl HB hx534_0
        replace hx534_1 := cl HB hx534_1
        replace hx534_2 := cl HB hx534_2
        replace hx534_3 := cl HB hx534_3
        replace hx534_4 := cl HB hx534_4
        replace hx534_5 := cl HB hx534_5
        replace hx534_6 := cl HB hx534_6
        replace hx534_7 := cl HB hx534_7
        replace p534 := eq_true p534
        replace q534 := eq_true q534
        have p535 : 0 ≤ (x5_2 : Int) := of_decide_eq_true (by assumption)
        have q535 : x5_2 < (l0.length : Int) := of_decide_eq_true (by assumption)
        obtain ⟨ad535, e535, hx535_0, hx535_1, hx535_2, hx535_3, hx535_4, hx535_5, hx535_6, hx535_7⟩ := at_T68 HR0.out x5_2 p535 q535
        have hw535_7 := hx535_7
        have hw535_6 := hx535_6
        have hw535_5 := hx535_5
        have hw535_4 := hx535_4
        have hw535_3 := hx535_3
        have hw535_2 := hx535_2
        have hw535_1 := hx535_1
        have hw535_0 := hx535_0
        obtain rfl : ad534 = ad535 := (by injection e535)
        replace hx535_0 := cl HB hx535_0
        replace hx535_1 := cl HB hx535_1
        replace hx535_2 := cl HB hx535_2
        replace hx535_3 := cl HB hx535_3
        replace hx535_4 := cl HB hx535_4
        replace hx535_5 := cl HB hx535_5
        replace hx535_6 := cl HB hx535_6
        replace hx535_7 := cl HB hx535_7
        replace p535 := eq_true p535
        replace q535 := eq_true q535
        have p536 : 0 ≤ (x4_1 : Int) := of_decide_eq_true (by assumption)
        have q536 : x4_1 < (l0.length : Int) := of_decide_eq_true (by assumption)
        obtain ⟨ad536, e536, hx536_0, hx536_1, hx536_2, hx536_3, hx536_4, hx536_5, hx536_6, hx536_7⟩ := at_T68 HR0.out x4_1 p536 q536
        have hw536_7 := hx536_7
        have hw536_6 := hx536_6
        have hw536_5 := hx536_5
        have hw536_4 := hx536_4
        have hw536_3 := hx536_3
        have hw536_2 := hx536_2
        have hw536_1 := hx536_1
        have hw536_0 := hx536_0
        obtain rfl : ad534 = ad536 := (by injection e536)
        replace hx536_0 := cl HB hx536_0
        replace hx536_1 := cl HB hx536_1
        replace hx536_2 := cl HB hx536_2
        replace hx536_3 := cl HB hx536_3
        replace hx536_4 := cl HB hx536_4
        replace hx536_5 := cl HB hx536_5
        replace hx536_6 := cl HB hx536_6
        replace hx536_7 := cl HB hx536_7
        replace p536 := eq_true p536
        replace q536 := eq_true q536
        have p537 : 0 ≤ (x5_2 : Int) := of_decide_eq_true (by assumption)
        have q537 : x5_2 < (l0.length : Int) := of_decide_eq_true (by assumption)
        obtain ⟨ad537, e537, hx537_0, hx537_1, hx537_2, hx537_3, hx537_4, hx537_5, hx537_6, hx537_7⟩ := at_T68 HR0.out x5_2 p537 q537
        have hw537_7 := hx537_7
        have hw537_6 := hx537_6
        have hw537_5 := hx537_5
        have hw537_4 := hx537_4
        have hw537_3 := hx537_3
        have hw537_2 := hx537_2
        have hw537_1 := hx537_1
        have hw537_0 := hx537_0
        obtain rfl : ad534 = ad537 := (by injection e537)
        replace hx537_0 := cl HB hx537_0
        replace hx537_1 := cl HB hx537_1
        replace hx537_2 := cl HB hx537_2
        replace hx537_3 := cl HB hx537_3
        replace hx537_4 := cl HB hx537_4
        replace hx537_5 := cl HB hx537_5
        replace hx537_6 := cl HB hx537_6
        replace hx537_7 := cl HB hx537_7
        replace p537 := eq_true p537
        replace q537 := eq_true q537
        refine start_ (n := 24) (S := fun w' => w'.cell? (ad534.add ((x4_1).toNat * 8)) = some (.string ((rd_T68 l0 x4_1).f0)) ∧ w'.cell? ⟨(ad534.add ((x4_1).toNat * 8)).block, (ad534.add ((x4_1).toNat * 8)).off + 1, none⟩ = some (.int .i64 ((rd_T68 l0 x4_1).f1.f0.f0)) ∧ w'.cell? ⟨(ad534.add ((x4_1).toNat * 8)).block, (ad534.add ((x4_1).toNat * 8)).off + 2, none⟩ = some (.int .i64 ((rd_T68 l0 x4_1).f1.f0.f1)) ∧ w'.cell? ⟨(ad534.add ((x4_1).toNat * 8)).block, (ad534.add ((x4_1).toNat * 8)).off + 3, none⟩ = some (.int .i64 ((rd_T68 l0 x4_1).f1.f0.f2)) ∧ w'.cell? ⟨(ad534.add ((x4_1).toNat * 8)).block, (ad534.add ((x4_1).toNat * 8)).off + 4, none⟩ = some (.int .i64 ((rd_T68 l0 x4_1).f1.f1.f0)) ∧ w'.cell? ⟨(ad534.add ((x4_1).toNat * 8)).block, (ad534.add ((x4_1).toNat * 8)).off + 5, none⟩ = some (.int .i64 ((rd_T68 l0 x4_1).f1.f1.f1)) ∧ w'.cell? ⟨(ad534.add ((x4_1).toNat * 8)).block, (ad534.add ((x4_1).toNat * 8)).off + 6, none⟩ = some (.int .i64 ((rd_T68 l0 x4_1).f1.f1.f2)) ∧ w'.cell? ⟨(ad534.add ((x4_1).toNat * 8)).block, (ad534.add ((x4_1).toNat * 8)).off + 7, none⟩ = some (.int .i64 ((rd_T68 l0 x4_1).f2)) ∧ w'.cell? (ad534.add ((x5_2).toNat * 8)) = some (.string ((rd_T68 l0 x5_2).f0)) ∧ w'.cell? ⟨(ad534.add ((x5_2).toNat * 8)).block, (ad534.add ((x5_2).toNat * 8)).off + 1, none⟩ = some (.int .i64 ((rd_T68 l0 x5_2).f1.f0.f0)) ∧ w'.cell? ⟨(ad534.add ((x5_2).toNat * 8)).block, (ad534.add ((x5_2).toNat * 8)).off + 2, none⟩ = some (.int .i64 ((rd_T68 l0 x5_2).f1.f0.f1)) ∧ w'.cell? ⟨(ad534.add ((x5_2).toNat * 8)).block, (ad534.add ((x5_2).toNat * 8)).off + 3, none⟩ = some (.int .i64 ((rd_T68 l0 x5_2).f1.f0.f2)) ∧ w'.cell? ⟨(ad534.add ((x5_2).toNat * 8)).block, (ad534.add ((x5_2).toNat * 8)).off + 4, none⟩ = some (.int .i64 ((rd_T68 l0 x5_2).f1.f1.f0)) ∧ w'.cell? ⟨(ad534.add ((x5_2).toNat * 8)).block, (ad534.add ((x5_2).toNat * 8)).off + 5, none⟩ = some (.int .i64 ((rd_T68 l0 x5_2).f1.f1.f1)) ∧ w'.cell? ⟨(ad534.add ((x5_2).toNat * 8)).block, (ad534.add ((x5_2).toNat * 8)).off + 6, none⟩ = some (.int .i64 ((rd_T68 l0 x5_2).f1.f1.f2)) ∧ w'.cell? ⟨(ad534.add ((x5_2).toNat * 8)).block, (ad534.add ((x5_2).toNat * 8)).off + 7, none⟩ = some (.int .i64 ((rd_T68 l0 x5_2).f2)) ∧ w'.cell? (ad534.add ((x4_1).toNat * 8)) = some (.string ((rd_T68 l0 x4_1).f0)) ∧ w'.cell? ⟨(ad534.add ((x4_1).toNat * 8)).block, (ad534.add ((x4_1).toNat * 8)).off + 1, none⟩ = some (.int .i64 ((rd_T68 l0 x4_1).f1.f0.f0)) ∧ w'.cell? ⟨(ad534.add ((x4_1).toNat * 8)).block, (ad534.add ((x4_1).toNat * 8)).off + 2, none⟩ = some (.int .i64 ((rd_T68 l0 x4_1).f1.f0.f1)) ∧ w'.cell? ⟨(ad534.add ((x4_1).toNat * 8)).block, (ad534.add ((x4_1).toNat * 8)).off + 3, none⟩ = some (.int .i64 ((rd_T68 l0 x4_1).f1.f0.f2)) ∧ w'.cell? ⟨(ad534.add ((x4_1).toNat * 8)).block, (ad534.add ((x4_1).toNat * 8)).off + 4, none⟩ = some (.int .i64 ((rd_T68 l0 x4_1).f1.f1.f0)) ∧ w'.cell? ⟨(ad534.add ((x4_1).toNat * 8)).block, (ad534.add ((x4_1).toNat * 8)).off + 5, none⟩ = some (.int .i64 ((rd_T68 l0 x4_1).f1.f1.f1)) ∧ w'.cell? ⟨(ad534.add ((x4_1).toNat * 8)).block, (ad534.add ((x4_1).toNat * 8)).off + 6, none⟩ = some (.int .i64 ((rd_T68 l0 x4_1).f1.f1.f2)) ∧ w'.cell? ⟨(ad534.add ((x4_1).toNat * 8)).block, (ad534.add ((x4_1).toNat * 8)).off + 7, none⟩ = some (.int .i64 ((rd_T68 l0 x4_1).f2)) ∧ w'.cell? (ad534.add ((x5_2).toNat * 8)) = some (.string ((rd_T68 l0 x5_2).f0)) ∧ w'.cell? ⟨(ad534.add ((x5_2).toNat * 8)).block, (ad534.add ((x5_2).toNat * 8)).off + 1, none⟩ = some (.int .i64 ((rd_T68 l0 x5_2).f1.f0.f0)) ∧ w'.cell? ⟨(ad534.add ((x5_2).toNat * 8)).block, (ad534.add ((x5_2).toNat * 8)).off + 2, none⟩ = some (.int .i64 ((rd_T68 l0 x5_2).f1.f0.f1)) ∧ w'.cell? ⟨(ad534.add ((x5_2).toNat * 8)).block, (ad534.add ((x5_2).toNat * 8)).off + 3, none⟩ = some (.int .i64 ((rd_T68 l0 x5_2).f1.f0.f2)) ∧ w'.cell? ⟨(ad534.add ((x5_2).toNat * 8)).block, (ad534.add ((x5_2).toNat * 8)).off + 4, none⟩ = some (.int .i64 ((rd_T68 l0 x5_2).f1.f1.f0)) ∧ w'.cell? ⟨(ad534.add ((x5_2).toNat * 8)).block, (ad534.add ((x5_2).toNat * 8)).off + 5, none⟩ = some (.int .i64 ((rd_T68 l0 x5_2).f1.f1.f1)) ∧ w'.cell? ⟨(ad534.add ((x5_2).toNat * 8)).block, (ad534.add ((x5_2).toNat * 8)).off + 6, none⟩ = some (.int .i64 ((rd_T68 l0 x5_2).f1.f1.f2)) ∧ w'.cell? ⟨(ad534.add ((x5_2).toNat * 8)).block, (ad534.add ((x5_2).toNat * 8)).off + 7, none⟩ = some (.int .i64 ((rd_T68 l0 x5_2).f2))) (ds := []) #[F,F,F,F,F,F,F,F,F,F,F,F,F,F,F,F,F,F,F,F,F,F,F,F] (by kernel_rfl) rfl rfl ⟨((HB.out.cell (bq w _ hw534_0)).trans hw534_0), ((HB.out.cell (bq w _ hw534_1)).trans hw534_1), ((HB.out.cell (bq w _ hw534_2)).trans hw534_2), ((HB.out.cell (bq w _ hw534_3)).trans hw534_3), ((HB.out.cell (bq w _ hw534_4)).trans hw534_4), ((HB.out.cell (bq w _ hw534_5)).trans hw534_5), ((HB.out.cell (bq w _ hw534_6)).trans hw534_6), ((HB.out.cell (bq w _ hw534_7)).trans hw534_7), ((HB.out.cell (bq w _ hw535_0)).trans hw535_0), ((HB.out.cell (bq w _ hw535_1)).trans hw535_1), ((HB.out.cell (bq w _ hw535_2)).trans hw535_2), ((HB.out.cell (bq w _ hw535_3)).trans hw535_3), ((HB.out.cell (bq w _ hw535_4)).trans hw535_4), ((HB.out.cell (bq w _ hw535_5)).trans hw535_5), ((HB.out.cell (bq w _ hw535_6)).trans hw535_6), ((HB.out.cell (bq w _ hw535_7)).trans hw535_7), ((HB.out.cell (bq w _ hw536_0)).trans hw536_0), ((HB.out.cell (bq w _ hw536_1)).trans hw536_1), ((HB.out.cell (bq w _ hw536_2)).trans hw536_2), ((HB.out.cell (bq w _ hw536_3)).trans hw536_3), ((HB.out.cell (bq w _ hw536_4)).trans hw536_4), ((HB.out.cell (bq w _ hw536_5)).trans hw536_5), ((HB.out.cell (bq w _ hw536_6)).trans hw536_6), ((HB.out.cell (bq w _ hw536_7)).trans hw536_7), ((HB.out.cell (bq w _ hw537_0)).trans hw537_0), ((HB.out.cell (bq w _ hw537_1)).trans hw537_1), ((HB.out.cell (bq w _ hw537_2)).trans hw537_2), ((HB.out.cell (bq w _ hw537_3)).trans hw537_3), ((HB.out.cell (bq w _ hw537_4)).trans hw537_4), ((HB.out.cell (bq w _ hw537_5)).trans hw537_5), ((HB.out.cell (bq w _ hw537_6)).trans hw537_6), ((HB.out.cell (bq w _ hw537_7)).trans hw537_7)⟩ (fun hHeld => ?_); refine with_tabW r_Clashes.tab8 r_Clashes.bits8 (fun HT_ HW_ => ?_)
        generalize wr.drew = w15 at HO_3 HB hx534_0 hx534_1 hx534_2 hx534_3 hx534_4 hx534_5 hx534_6 hx534_7 hx535_0 hx535_1 hx535_2 hx535_3 hx535_4 hx535_5 hx535_6 hx535_7 hx536_0 hx536_1 hx536_2 hx536_3 hx536_4 hx536_5 hx536_6 hx536_7 hx537_0 hx537_1 hx537_2 hx537_3 hx537_4 hx537_5 hx537_6 hx537_7 hHeld ⊢
        refine pu (i := 0) (N := some 21) (fl 24 1 []) HT_ ?_
        refine pu (i := 1) (N := some 22) (fl 24 2 []) HT_ ?_
        refine pu (i := 2) (N := some 23) (fl 24 3 []) HT_ ?_
        refine pu (i := 3) (N := some 24) (fl 24 4 []) HT_ ?_
        refine pu (i := 5) (N := some 26) (fl 24 4 [5]) HT_ ?_
        refine pu (i := 6) (N := some 27) (fl 24 4 [5, 6]) HT_ ?_
        refine pu (i := 7) (N := some 28) (fl 24 4 [5, 6, 7]) HT_ ?_
        refine pu (i := 8) (N := some 29) (fl 24 4 [5, 6, 7, 8]) HT_ ?_
        refine tk (i := 4) (N := some 25) (fl 24 9 []) HT_ HW_ hHeld ?_
        refine tk (i := 9) (N := some 30) (fl 24 10 []) HT_ HW_ hHeld ?_
        refine pu (i := 10) (N := some 31) (fl 24 11 []) HT_ ?_
        refine pu (i := 11) (N := some 32) (fl 24 12 []) HT_ ?_
        refine pu (i := 12) (N := some 33) (fl 24 13 []) HT_ ?_
        refine pu (i := 13) (N := some 34) (fl 24 14 []) HT_ ?_
        refine pu (i := 14) (N := some 35) (fl 24 15 []) HT_ ?_
        refine pu (i := 15) (N := some 36) (fl 24 16 []) HT_ ?_
        refine pu (i := 17) (N := some 38) (fl 24 16 [17]) HT_ ?_
        refine pu (i := 18) (N := some 39) (fl 24 16 [17, 18]) HT_ ?_
        refine pu (i := 19) (N := some 40) (fl 24 16 [17, 18, 19]) HT_ ?_
        refine pu (i := 20) (N := some 41) (fl 24 16 [17, 18, 19, 20]) HT_ ?_
        refine tk (i := 16) (N := some 37) (fl 24 21 []) HT_ HW_ hHeld ?_
        refine tk (i := 21) (N := some 42) (fl 24 22 []) HT_ HW_ hHeld ?_
        refine one_ (i := 22) (N := some 43) (fl 24 23 []) rfl rfl (one_of HT_.out (by kernel_rfl)) (by decide) (fun K hK => ?_)
        refine goes_ Try.func66 (by kernel_rfl) rfl #[.agg #[.int .i64 ((rd_T68 l0 x4_1).f1.f0.f0), .int .i64 ((rd_T68 l0 x4_1).f1.f0.f1), .int .i64 ((rd_T68 l0 x4_1).f1.f0.f2), .int .i64 ((rd_T68 l0 x4_1).f1.f1.f0), .int .i64 ((rd_T68 l0 x4_1).f1.f1.f1), .int .i64 ((rd_T68 l0 x4_1).f1.f1.f2)], .agg #[.int .i64 ((rd_T68 l0 x5_2).f1.f0.f0), .int .i64 ((rd_T68 l0 x5_2).f1.f0.f1), .int .i64 ((rd_T68 l0 x5_2).f1.f0.f2), .int .i64 ((rd_T68 l0 x5_2).f1.f1.f0), .int .i64 ((rd_T68 l0 x5_2).f1.f1.f1), .int .i64 ((rd_T68 l0 x5_2).f1.f1.f2)]] (by rfl) rfl rfl (by (try simp only [pml]); first | done | rfl | (simp only [pdt]; rfl)) ?_
        with_reducible refine (r_overlap.calls k2 ((rd_T68 l0 x4_1).f1.f0.f0) ((rd_T68 l0 x4_1).f1.f0.f1) ((rd_T68 l0 x4_1).f1.f0.f2) ((rd_T68 l0 x4_1).f1.f1.f0) ((rd_T68 l0 x4_1).f1.f1.f1) ((rd_T68 l0 x4_1).f1.f1.f2) ((rd_T68 l0 x5_2).f1.f0.f0) ((rd_T68 l0 x5_2).f1.f0.f1) ((rd_T68 l0 x5_2).f1.f0.f2) ((rd_T68 l0 x5_2).f1.f1.f0) ((rd_T68 l0 x5_2).f1.f1.f1) ((rd_T68 l0 x5_2).f1.f1.f2) true _ A12.out).mono ?_
        rintro e w16 ⟨rfl, hb⟩
        refine ⟨_, rfl, ?_⟩
        have n0_ := dR HO_3 hb
        have n1_ := bS HB hb
        clear HO_3 HB
        have HO_3 := n0_
        have HB := n1_
        clear n0_ n1_
        (try clear hb)
        (try clear hb2)
        (try clear hk)
        (try clear hi)
        refine hK.out _ _ ⟨((HB.out.cell (bq w _ hw534_0)).trans hw534_0), ((HB.out.cell (bq w _ hw534_1)).trans hw534_1), ((HB.out.cell (bq w _ hw534_2)).trans hw534_2), ((HB.out.cell (bq w _ hw534_3)).trans hw534_3), ((HB.out.cell (bq w _ hw534_4)).trans hw534_4), ((HB.out.cell (bq w _ hw534_5)).trans hw534_5), ((HB.out.cell (bq w _ hw534_6)).trans hw534_6), ((HB.out.cell (bq w _ hw534_7)).trans hw534_7), ((HB.out.cell (bq w _ hw535_0)).trans hw535_0), ((HB.out.cell (bq w _ hw535_1)).trans hw535_1), ((HB.out.cell (bq w _ hw535_2)).trans hw535_2), ((HB.out.cell (bq w _ hw535_3)).trans hw535_3), ((HB.out.cell (bq w _ hw535_4)).trans hw535_4), ((HB.out.cell (bq w _ hw535_5)).trans hw535_5), ((HB.out.cell (bq w _ hw535_6)).trans hw535_6), ((HB.out.cell (bq w _ hw535_7)).trans hw535_7), ((HB.out.cell (bq w _ hw536_0)).trans hw536_0), ((HB.out.cell (bq w _ hw536_1)).trans hw536_1), ((HB.out.cell (bq w _ hw536_2)).trans hw536_2), ((HB.out.cell (bq w _ hw536_3)).trans hw536_3), ((HB.out.cell (bq w _ hw536_4)).trans hw536_4), ((HB.out.cell (bq w _ hw536_5)).trans hw536_5), ((HB.out.cell (bq w _ hw536_6)).trans hw536_6), ((HB.out.cell (bq w _ hw536_7)).trans hw536_7), ((HB.out.cell (bq w _ hw537_0)).trans hw537_0), ((HB.out.cell (bq w _ hw537_1)).trans hw537_1), ((HB.out.cell (bq w _ hw537_2)).trans hw537_2), ((HB.out.cell (bq w _ hw537_3)).trans hw537_3), ((HB.out.cell (bq w _ hw537_4)).trans hw537_4), ((HB.out.cell (bq w _ hw537_5)).trans hw537_5), ((HB.out.cell (bq w _ hw537_6)).trans hw537_6), ((HB.out.cell (bq w _ hw537_7)).trans hw537_7)⟩ (fun hHeld => ?_)
        clear hK K
        refine norm_ (a' := ?_) ?_ ?_
        rotate_left
        ·show Act.put _ (some 43) _ = _
         simp only [Act.put, psl, i64_w, i32_w]
         rfl
        refine pu (i := 23) (N := some 44) (fl 24 24 []) HT_ ?_
        refine done_ (done_of HT_.out (by kernel_rfl)) ?_
        try go_wp2_with (first | ((with_reducible refine gate_builtin (b := .append) (xs := #[.tmp 45, .tmp 49]) rfl ?_); at_builtin; refine Kd.R_append k65 (w0 := w) w.heap.size rfl (.tmp 45) (.tmp 49) 56 65 (.agg #[(.int .i64 0), (.int .i64 0)]) 16 rfl Try.underlying56 info65 rfl (by decide) (by omega) u3 x3_2 (⟨x4_1, x5_2⟩ : S65) [.int .i64 x4_1, .int .i64 x5_2] (fun _ => True) (fun _ => False) rfl rfl ?aP (fun _ hk => hk.elim) ?aF ?aO ?aB ?aS ?aL ?_; (case aP => exact k65_mkM _ _ _ (⟨x4_1, x5_2⟩ : S65)); (case aB => exact (fW HB.out)); (case aF => exact (fun _ _ => trivial)); (case aO => exact (fR HO_3.out)); (case aS => exact (below_size (fW HB.out))); (case aL => have := LMc14.out; omega); intro v540 w17 ho hb hg hat; rw [← Ny539.out] at ho; replace HB := am (hb); have HO541 := am (ho); clear HO_3 ho hb hg hat))
        go_meet
        case rel => exact ⟨_, (y539), H', ⟨by have := HK1.out; have := HK2.out; first | omega | exact Nat.le_refl _⟩, ⟨fR HO541.out⟩, ⟨fW HB.out⟩⟩
       replace c13 := Bool.eq_false_iff.mpr c13
       subst c13
       have H1 : (r_Clashes.j2 k2 l0 x3_2 x4_1 x5_2) = some r := by rw [if_neg (show ¬ (false = true) by decide)] at H; exact H
       clear H
       have H := H1
       clear H1
       have H' := am H
       clear H
       try go_wp2
       have n0_ := am (Kd.R_drew HO_3.out)
       have n1_ := am (below_drew1 HB.out)
       clear HO_3 HB
       have HO_3 := n0_
       have HB := n1_
       clear n0_ n1_
       have p534 : 0 ≤ (x4_1 : Int) := of_decide_eq_true (by assumption)
       have q534 : x4_1 < (l0.length : Int) := of_decide_eq_true (by assumption)
       obtain ⟨ad534, e534, hx534_0, hx534_1, hx534_2, hx534_3, hx534_4, hx534_5, hx534_6, hx534_7⟩ := at_T68 HR0.out x4_1 p534 q534
       have hw534_7 := hx534_7
       have hw534_6 := hx534_6
       have hw534_5 := hx534_5
       have hw534_4 := hx534_4
       have hw534_3 := hx534_3
       have hw534_2 := hx534_2
       have hw534_1 := hx534_1
       have hw534_0 := hx534_0
       cases e534
       replace hx534_0 := cl HB hx534_0
       replace hx534_1 := cl HB hx534_1
       replace hx534_2 := cl HB hx534_2
       replace hx534_3 := cl HB hx534_3
       replace hx534_4 := cl HB hx534_4
       replace hx534_5 := cl HB hx534_5
       replace hx534_6 := cl HB hx534_6
       replace hx534_7 := cl HB hx534_7
       replace p534 := eq_true p534
       replace q534 := eq_true q534
       have p535 : 0 ≤ (x5_2 : Int) := of_decide_eq_true (by assumption)
       have q535 : x5_2 < (l0.length : Int) := of_decide_eq_true (by assumption)
       obtain ⟨ad535, e535, hx535_0, hx535_1, hx535_2, hx535_3, hx535_4, hx535_5, hx535_6, hx535_7⟩ := at_T68 HR0.out x5_2 p535 q535
       have hw535_7 := hx535_7
       have hw535_6 := hx535_6
       have hw535_5 := hx535_5
       have hw535_4 := hx535_4
       have hw535_3 := hx535_3
       have hw535_2 := hx535_2
       have hw535_1 := hx535_1
       have hw535_0 := hx535_0
       obtain rfl : ad534 = ad535 := (by injection e535)
       replace hx535_0 := cl HB hx535_0
       replace hx535_1 := cl HB hx535_1
       replace hx535_2 := cl HB hx535_2
       replace hx535_3 := cl HB hx535_3
       replace hx535_4 := cl HB hx535_4
       replace hx535_5 := cl HB hx535_5
       replace hx535_6 := cl HB hx535_6
       replace hx535_7 := cl HB hx535_7
       replace p535 := eq_true p535
       replace q535 := eq_true q535
       have p536 : 0 ≤ (x4_1 : Int) := of_decide_eq_true (by assumption)
       have q536 : x4_1 < (l0.length : Int) := of_decide_eq_true (by assumption)
       obtain ⟨ad536, e536, hx536_0, hx536_1, hx536_2, hx536_3, hx536_4, hx536_5, hx536_6, hx536_7⟩ := at_T68 HR0.out x4_1 p536 q536
       have hw536_7 := hx536_7
       have hw536_6 := hx536_6
       have hw536_5 := hx536_5
       have hw536_4 := hx536_4
       have hw536_3 := hx536_3
       have hw536_2 := hx536_2
       have hw536_1 := hx536_1
       have hw536_0 := hx536_0
       obtain rfl : ad534 = ad536 := (by injection e536)
       replace hx536_0 := cl HB hx536_0
       replace hx536_1 := cl HB hx536_1
       replace hx536_2 := cl HB hx536_2
       replace hx536_3 := cl HB hx536_3
       replace hx536_4 := cl HB hx536_4
       replace hx536_5 := cl HB hx536_5
       replace hx536_6 := cl HB hx536_6
       replace hx536_7 := cl HB hx536_7
       replace p536 := eq_true p536
       replace q536 := eq_true q536
       have p537 : 0 ≤ (x5_2 : Int) := of_decide_eq_true (by assumption)
       have q537 : x5_2 < (l0.length : Int) := of_decide_eq_true (by assumption)
       obtain ⟨ad537, e537, hx537_0, hx537_1, hx537_2, hx537_3, hx537_4, hx537_5, hx537_6, hx537_7⟩ := at_T68 HR0.out x5_2 p537 q537
       have hw537_7 := hx537_7
       have hw537_6 := hx537_6
       have hw537_5 := hx537_5
       have hw537_4 := hx537_4
       have hw537_3 := hx537_3
       have hw537_2 := hx537_2
       have hw537_1 := hx537_1
       have hw537_0 := hx537_0
       obtain rfl : ad534 = ad537 := (by injection e537)
       replace hx537_0 := cl HB hx537_0
       replace hx537_1 := cl HB hx537_1
       replace hx537_2 := cl HB hx537_2
       replace hx537_3 := cl HB hx537_3
       replace hx537_4 := cl HB hx537_4
       replace hx537_5 := cl HB hx537_5
       replace hx537_6 := cl HB hx537_6
       replace hx537_7 := cl HB hx537_7
       replace p537 := eq_true p537
       replace q537 := eq_true q537
       refine start_ (n := 24) (S := fun w' => w'.cell? (ad534.add ((x4_1).toNat * 8)) = some (.string ((rd_T68 l0 x4_1).f0)) ∧ w'.cell? ⟨(ad534.add ((x4_1).toNat * 8)).block, (ad534.add ((x4_1).toNat * 8)).off + 1, none⟩ = some (.int .i64 ((rd_T68 l0 x4_1).f1.f0.f0)) ∧ w'.cell? ⟨(ad534.add ((x4_1).toNat * 8)).block, (ad534.add ((x4_1).toNat * 8)).off + 2, none⟩ = some (.int .i64 ((rd_T68 l0 x4_1).f1.f0.f1)) ∧ w'.cell? ⟨(ad534.add ((x4_1).toNat * 8)).block, (ad534.add ((x4_1).toNat * 8)).off + 3, none⟩ = some (.int .i64 ((rd_T68 l0 x4_1).f1.f0.f2)) ∧ w'.cell? ⟨(ad534.add ((x4_1).toNat * 8)).block, (ad534.add ((x4_1).toNat * 8)).off + 4, none⟩ = some (.int .i64 ((rd_T68 l0 x4_1).f1.f1.f0)) ∧ w'.cell? ⟨(ad534.add ((x4_1).toNat * 8)).block, (ad534.add ((x4_1).toNat * 8)).off + 5, none⟩ = some (.int .i64 ((rd_T68 l0 x4_1).f1.f1.f1)) ∧ w'.cell? ⟨(ad534.add ((x4_1).toNat * 8)).block, (ad534.add ((x4_1).toNat * 8)).off + 6, none⟩ = some (.int .i64 ((rd_T68 l0 x4_1).f1.f1.f2)) ∧ w'.cell? ⟨(ad534.add ((x4_1).toNat * 8)).block, (ad534.add ((x4_1).toNat * 8)).off + 7, none⟩ = some (.int .i64 ((rd_T68 l0 x4_1).f2)) ∧ w'.cell? (ad534.add ((x5_2).toNat * 8)) = some (.string ((rd_T68 l0 x5_2).f0)) ∧ w'.cell? ⟨(ad534.add ((x5_2).toNat * 8)).block, (ad534.add ((x5_2).toNat * 8)).off + 1, none⟩ = some (.int .i64 ((rd_T68 l0 x5_2).f1.f0.f0)) ∧ w'.cell? ⟨(ad534.add ((x5_2).toNat * 8)).block, (ad534.add ((x5_2).toNat * 8)).off + 2, none⟩ = some (.int .i64 ((rd_T68 l0 x5_2).f1.f0.f1)) ∧ w'.cell? ⟨(ad534.add ((x5_2).toNat * 8)).block, (ad534.add ((x5_2).toNat * 8)).off + 3, none⟩ = some (.int .i64 ((rd_T68 l0 x5_2).f1.f0.f2)) ∧ w'.cell? ⟨(ad534.add ((x5_2).toNat * 8)).block, (ad534.add ((x5_2).toNat * 8)).off + 4, none⟩ = some (.int .i64 ((rd_T68 l0 x5_2).f1.f1.f0)) ∧ w'.cell? ⟨(ad534.add ((x5_2).toNat * 8)).block, (ad534.add ((x5_2).toNat * 8)).off + 5, none⟩ = some (.int .i64 ((rd_T68 l0 x5_2).f1.f1.f1)) ∧ w'.cell? ⟨(ad534.add ((x5_2).toNat * 8)).block, (ad534.add ((x5_2).toNat * 8)).off + 6, none⟩ = some (.int .i64 ((rd_T68 l0 x5_2).f1.f1.f2)) ∧ w'.cell? ⟨(ad534.add ((x5_2).toNat * 8)).block, (ad534.add ((x5_2).toNat * 8)).off + 7, none⟩ = some (.int .i64 ((rd_T68 l0 x5_2).f2)) ∧ w'.cell? (ad534.add ((x4_1).toNat * 8)) = some (.string ((rd_T68 l0 x4_1).f0)) ∧ w'.cell? ⟨(ad534.add ((x4_1).toNat * 8)).block, (ad534.add ((x4_1).toNat * 8)).off + 1, none⟩ = some (.int .i64 ((rd_T68 l0 x4_1).f1.f0.f0)) ∧ w'.cell? ⟨(ad534.add ((x4_1).toNat * 8)).block, (ad534.add ((x4_1).toNat * 8)).off + 2, none⟩ = some (.int .i64 ((rd_T68 l0 x4_1).f1.f0.f1)) ∧ w'.cell? ⟨(ad534.add ((x4_1).toNat * 8)).block, (ad534.add ((x4_1).toNat * 8)).off + 3, none⟩ = some (.int .i64 ((rd_T68 l0 x4_1).f1.f0.f2)) ∧ w'.cell? ⟨(ad534.add ((x4_1).toNat * 8)).block, (ad534.add ((x4_1).toNat * 8)).off + 4, none⟩ = some (.int .i64 ((rd_T68 l0 x4_1).f1.f1.f0)) ∧ w'.cell? ⟨(ad534.add ((x4_1).toNat * 8)).block, (ad534.add ((x4_1).toNat * 8)).off + 5, none⟩ = some (.int .i64 ((rd_T68 l0 x4_1).f1.f1.f1)) ∧ w'.cell? ⟨(ad534.add ((x4_1).toNat * 8)).block, (ad534.add ((x4_1).toNat * 8)).off + 6, none⟩ = some (.int .i64 ((rd_T68 l0 x4_1).f1.f1.f2)) ∧ w'.cell? ⟨(ad534.add ((x4_1).toNat * 8)).block, (ad534.add ((x4_1).toNat * 8)).off + 7, none⟩ = some (.int .i64 ((rd_T68 l0 x4_1).f2)) ∧ w'.cell? (ad534.add ((x5_2).toNat * 8)) = some (.string ((rd_T68 l0 x5_2).f0)) ∧ w'.cell? ⟨(ad534.add ((x5_2).toNat * 8)).block, (ad534.add ((x5_2).toNat * 8)).off + 1, none⟩ = some (.int .i64 ((rd_T68 l0 x5_2).f1.f0.f0)) ∧ w'.cell? ⟨(ad534.add ((x5_2).toNat * 8)).block, (ad534.add ((x5_2).toNat * 8)).off + 2, none⟩ = some (.int .i64 ((rd_T68 l0 x5_2).f1.f0.f1)) ∧ w'.cell? ⟨(ad534.add ((x5_2).toNat * 8)).block, (ad534.add ((x5_2).toNat * 8)).off + 3, none⟩ = some (.int .i64 ((rd_T68 l0 x5_2).f1.f0.f2)) ∧ w'.cell? ⟨(ad534.add ((x5_2).toNat * 8)).block, (ad534.add ((x5_2).toNat * 8)).off + 4, none⟩ = some (.int .i64 ((rd_T68 l0 x5_2).f1.f1.f0)) ∧ w'.cell? ⟨(ad534.add ((x5_2).toNat * 8)).block, (ad534.add ((x5_2).toNat * 8)).off + 5, none⟩ = some (.int .i64 ((rd_T68 l0 x5_2).f1.f1.f1)) ∧ w'.cell? ⟨(ad534.add ((x5_2).toNat * 8)).block, (ad534.add ((x5_2).toNat * 8)).off + 6, none⟩ = some (.int .i64 ((rd_T68 l0 x5_2).f1.f1.f2)) ∧ w'.cell? ⟨(ad534.add ((x5_2).toNat * 8)).block, (ad534.add ((x5_2).toNat * 8)).off + 7, none⟩ = some (.int .i64 ((rd_T68 l0 x5_2).f2))) (ds := []) #[F,F,F,F,F,F,F,F,F,F,F,F,F,F,F,F,F,F,F,F,F,F,F,F] (by kernel_rfl) rfl rfl ⟨((HB.out.cell (bq w _ hw534_0)).trans hw534_0), ((HB.out.cell (bq w _ hw534_1)).trans hw534_1), ((HB.out.cell (bq w _ hw534_2)).trans hw534_2), ((HB.out.cell (bq w _ hw534_3)).trans hw534_3), ((HB.out.cell (bq w _ hw534_4)).trans hw534_4), ((HB.out.cell (bq w _ hw534_5)).trans hw534_5), ((HB.out.cell (bq w _ hw534_6)).trans hw534_6), ((HB.out.cell (bq w _ hw534_7)).trans hw534_7), ((HB.out.cell (bq w _ hw535_0)).trans hw535_0), ((HB.out.cell (bq w _ hw535_1)).trans hw535_1), ((HB.out.cell (bq w _ hw535_2)).trans hw535_2), ((HB.out.cell (bq w _ hw535_3)).trans hw535_3), ((HB.out.cell (bq w _ hw535_4)).trans hw535_4), ((HB.out.cell (bq w _ hw535_5)).trans hw535_5), ((HB.out.cell (bq w _ hw535_6)).trans hw535_6), ((HB.out.cell (bq w _ hw535_7)).trans hw535_7), ((HB.out.cell (bq w _ hw536_0)).trans hw536_0), ((HB.out.cell (bq w _ hw536_1)).trans hw536_1), ((HB.out.cell (bq w _ hw536_2)).trans hw536_2), ((HB.out.cell (bq w _ hw536_3)).trans hw536_3), ((HB.out.cell (bq w _ hw536_4)).trans hw536_4), ((HB.out.cell (bq w _ hw536_5)).trans hw536_5), ((HB.out.cell (bq w _ hw536_6)).trans hw536_6), ((HB.out.cell (bq w _ hw536_7)).trans hw536_7), ((HB.out.cell (bq w _ hw537_0)).trans hw537_0), ((HB.out.cell (bq w _ hw537_1)).trans hw537_1), ((HB.out.cell (bq w _ hw537_2)).trans hw537_2), ((HB.out.cell (bq w _ hw537_3)).trans hw537_3), ((HB.out.cell (bq w _ hw537_4)).trans hw537_4), ((HB.out.cell (bq w _ hw537_5)).trans hw537_5), ((HB.out.cell (bq w _ hw537_6)).trans hw537_6), ((HB.out.cell (bq w _ hw537_7)).trans hw537_7)⟩ (fun hHeld => ?_); refine with_tabW r_Clashes.tab8 r_Clashes.bits8 (fun HT_ HW_ => ?_)
       generalize wr.drew = w18 at HO_3 HB hx534_0 hx534_1 hx534_2 hx534_3 hx534_4 hx534_5 hx534_6 hx534_7 hx535_0 hx535_1 hx535_2 hx535_3 hx535_4 hx535_5 hx535_6 hx535_7 hx536_0 hx536_1 hx536_2 hx536_3 hx536_4 hx536_5 hx536_6 hx536_7 hx537_0 hx537_1 hx537_2 hx537_3 hx537_4 hx537_5 hx537_6 hx537_7 hHeld ⊢
       refine pu (i := 0) (N := some 21) (fl 24 1 []) HT_ ?_
       refine pu (i := 1) (N := some 22) (fl 24 2 []) HT_ ?_
       refine pu (i := 2) (N := some 23) (fl 24 3 []) HT_ ?_
       refine pu (i := 3) (N := some 24) (fl 24 4 []) HT_ ?_
       refine pu (i := 5) (N := some 26) (fl 24 4 [5]) HT_ ?_
       refine pu (i := 6) (N := some 27) (fl 24 4 [5, 6]) HT_ ?_
       refine pu (i := 7) (N := some 28) (fl 24 4 [5, 6, 7]) HT_ ?_
       refine pu (i := 8) (N := some 29) (fl 24 4 [5, 6, 7, 8]) HT_ ?_
       refine tk (i := 4) (N := some 25) (fl 24 9 []) HT_ HW_ hHeld ?_
       refine tk (i := 9) (N := some 30) (fl 24 10 []) HT_ HW_ hHeld ?_
       refine pu (i := 10) (N := some 31) (fl 24 11 []) HT_ ?_
       refine pu (i := 11) (N := some 32) (fl 24 12 []) HT_ ?_
       refine pu (i := 12) (N := some 33) (fl 24 13 []) HT_ ?_
       refine pu (i := 13) (N := some 34) (fl 24 14 []) HT_ ?_
       refine pu (i := 14) (N := some 35) (fl 24 15 []) HT_ ?_
       refine pu (i := 15) (N := some 36) (fl 24 16 []) HT_ ?_
       refine pu (i := 17) (N := some 38) (fl 24 16 [17]) HT_ ?_
       refine pu (i := 18) (N := some 39) (fl 24 16 [17, 18]) HT_ ?_
       refine pu (i := 19) (N := some 40) (fl 24 16 [17, 18, 19]) HT_ ?_
       refine pu (i := 20) (N := some 41) (fl 24 16 [17, 18, 19, 20]) HT_ ?_
       refine tk (i := 16) (N := some 37) (fl 24 21 []) HT_ HW_ hHeld ?_
       refine tk (i := 21) (N := some 42) (fl 24 22 []) HT_ HW_ hHeld ?_
       refine one_ (i := 22) (N := some 43) (fl 24 23 []) rfl rfl (one_of HT_.out (by kernel_rfl)) (by decide) (fun K hK => ?_)
       refine goes_ Try.func66 (by kernel_rfl) rfl #[.agg #[.int .i64 ((rd_T68 l0 x4_1).f1.f0.f0), .int .i64 ((rd_T68 l0 x4_1).f1.f0.f1), .int .i64 ((rd_T68 l0 x4_1).f1.f0.f2), .int .i64 ((rd_T68 l0 x4_1).f1.f1.f0), .int .i64 ((rd_T68 l0 x4_1).f1.f1.f1), .int .i64 ((rd_T68 l0 x4_1).f1.f1.f2)], .agg #[.int .i64 ((rd_T68 l0 x5_2).f1.f0.f0), .int .i64 ((rd_T68 l0 x5_2).f1.f0.f1), .int .i64 ((rd_T68 l0 x5_2).f1.f0.f2), .int .i64 ((rd_T68 l0 x5_2).f1.f1.f0), .int .i64 ((rd_T68 l0 x5_2).f1.f1.f1), .int .i64 ((rd_T68 l0 x5_2).f1.f1.f2)]] (by rfl) rfl rfl (by (try simp only [pml]); first | done | rfl | (simp only [pdt]; rfl)) ?_
       with_reducible refine (r_overlap.calls k2 ((rd_T68 l0 x4_1).f1.f0.f0) ((rd_T68 l0 x4_1).f1.f0.f1) ((rd_T68 l0 x4_1).f1.f0.f2) ((rd_T68 l0 x4_1).f1.f1.f0) ((rd_T68 l0 x4_1).f1.f1.f1) ((rd_T68 l0 x4_1).f1.f1.f2) ((rd_T68 l0 x5_2).f1.f0.f0) ((rd_T68 l0 x5_2).f1.f0.f1) ((rd_T68 l0 x5_2).f1.f0.f2) ((rd_T68 l0 x5_2).f1.f1.f0) ((rd_T68 l0 x5_2).f1.f1.f1) ((rd_T68 l0 x5_2).f1.f1.f2) false _ A12.out).mono ?_
       rintro e w19 ⟨rfl, hb⟩
       refine ⟨_, rfl, ?_⟩
       have n0_ := dR HO_3 hb
       have n1_ := bS HB hb
       clear HO_3 HB
       have HO_3 := n0_
       have HB := n1_
       clear n0_ n1_
       (try clear hb)
       (try clear hb2)
       (try clear hk)
       (try clear hi)
       refine hK.out _ _ ⟨((HB.out.cell (bq w _ hw534_0)).trans hw534_0), ((HB.out.cell (bq w _ hw534_1)).trans hw534_1), ((HB.out.cell (bq w _ hw534_2)).trans hw534_2), ((HB.out.cell (bq w _ hw534_3)).trans hw534_3), ((HB.out.cell (bq w _ hw534_4)).trans hw534_4), ((HB.out.cell (bq w _ hw534_5)).trans hw534_5), ((HB.out.cell (bq w _ hw534_6)).trans hw534_6), ((HB.out.cell (bq w _ hw534_7)).trans hw534_7), ((HB.out.cell (bq w _ hw535_0)).trans hw535_0), ((HB.out.cell (bq w _ hw535_1)).trans hw535_1), ((HB.out.cell (bq w _ hw535_2)).trans hw535_2), ((HB.out.cell (bq w _ hw535_3)).trans hw535_3), ((HB.out.cell (bq w _ hw535_4)).trans hw535_4), ((HB.out.cell (bq w _ hw535_5)).trans hw535_5), ((HB.out.cell (bq w _ hw535_6)).trans hw535_6), ((HB.out.cell (bq w _ hw535_7)).trans hw535_7), ((HB.out.cell (bq w _ hw536_0)).trans hw536_0), ((HB.out.cell (bq w _ hw536_1)).trans hw536_1), ((HB.out.cell (bq w _ hw536_2)).trans hw536_2), ((HB.out.cell (bq w _ hw536_3)).trans hw536_3), ((HB.out.cell (bq w _ hw536_4)).trans hw536_4), ((HB.out.cell (bq w _ hw536_5)).trans hw536_5), ((HB.out.cell (bq w _ hw536_6)).trans hw536_6), ((HB.out.cell (bq w _ hw536_7)).trans hw536_7), ((HB.out.cell (bq w _ hw537_0)).trans hw537_0), ((HB.out.cell (bq w _ hw537_1)).trans hw537_1), ((HB.out.cell (bq w _ hw537_2)).trans hw537_2), ((HB.out.cell (bq w _ hw537_3)).trans hw537_3), ((HB.out.cell (bq w _ hw537_4)).trans hw537_4), ((HB.out.cell (bq w _ hw537_5)).trans hw537_5), ((HB.out.cell (bq w _ hw537_6)).trans hw537_6), ((HB.out.cell (bq w _ hw537_7)).trans hw537_7)⟩ (fun hHeld => ?_)
       clear hK K
       refine norm_ (a' := ?_) ?_ ?_
       rotate_left
       ·show Act.put _ (some 43) _ = _
        simp only [Act.put, psl, i64_w, i32_w]
        rfl
       refine pu (i := 23) (N := some 44) (fl 24 24 []) HT_ ?_
       refine done_ (done_of HT_.out (by kernel_rfl)) ?_
       try go_wp2
       go_meet
       case rel => exact ⟨_, (x3_2), H', ⟨by have := HK1.out; have := HK2.out; first | omega | exact Nat.le_refl _⟩, ⟨fR HO_3.out⟩, ⟨fW HB.out⟩⟩
      case rest =>
       clear HC6
       try clear c1;try clear p2;try clear p5;try clear q5;try clear hx5;try clear c6;try clear c7;try clear c8;try clear c9;try clear c13;try clear c14;try clear hx534_0;try clear hx534_1;try clear hx534_2;try clear hx534_3;try clear hx534_4;try clear hx534_5;try clear hx534_6;try clear hx534_7;try clear hx535_0;try clear hx535_1;try clear hx535_2;try clear hx535_3;try clear hx535_4;try clear hx535_5;try clear hx535_6;try clear hx535_7;try clear hx536_0;try clear hx536_1;try clear hx536_2;try clear hx536_3;try clear hx536_4;try clear hx536_5;try clear hx536_6;try clear hx536_7;try clear hx537_0;try clear hx537_1;try clear hx537_2;try clear hx537_3;try clear hx537_4;try clear hx537_5;try clear hx537_6;try clear hx537_7;try clear p534;try clear p535;try clear p536;try clear p537;try clear q534;try clear q535;try clear q536;try clear q537
       obtain ⟨kq, x3_5, HA, HJ5, HO_3, HB⟩ := hcut
       cases kq with
       | zero => exact absurd HA.out (by simp [r_Clashes.j2])
       | succ kj5 =>
        have H := HA.out
        clear HA
        simp only [r_Clashes.j2] at H
        have H' := am H
        clear H
        go_wp2
        go_roundg kj5
        case measure => have := HK1.out; have := HK2.out; have := HJ5.out; omega
        case rel => exact ⟨(x3_5), (wrap64 (x5_2 + 1)), sqD, H', ⟨by have := HK1.out; have := HK2.out; have := HJ5.out; omega⟩, ⟨fR HO_3.out⟩, ⟨fW HB.out⟩⟩
   ·rw [if_neg c4] at H
    have c4b0 : decide (x4_1 < (l0.length : Int)) = false := decide_eq_false c4
    clear c4
    obtain rfl := Option.some.inj H
    go_wp2
    go_ret
    exact ⟨_, sqE, fR HO_3.out, fW HB.out⟩

end Go.Proofs.Ytcofgnbopodahaa.QA
