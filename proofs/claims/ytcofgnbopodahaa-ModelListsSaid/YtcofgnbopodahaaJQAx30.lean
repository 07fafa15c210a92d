import Derived.Test.YtcofgnbopodahaaJQAx0
import Derived.Test.YtcofgnbopodahaaJQAx16
import Derived.Test.YtcofgnbopodahaaJQAx22
namespace Go.Proofs.Ytcofgnbopodahaa.QA
open Go.RowKit Go.Proofs.YtcofgnbopodahaaW.PrintWords Go.Proofs.YtcofgnbopodahaaW.PrintLast Go.Proofs.YtcofgnbopodahaaW.PrintMore
open Aside0 renaming mk → am
open World renaming block_lt_of_cell? → bq
attribute [local go_sem] max2_int min2_int max_two min_two max_three min_three max_four min_four
set_option linter.unusedVariables false
set_option linter.unusedSimpArgs false

def r_Useless.l0 : Nat → List (S68) → List (S68) → List (S43) → Int → Option (Bool)
 | 0, _, _, _, _ => none
 | k + 1, x0, x5, x6, x7 => if x7 < (x6.length : Int) then (if 0 ≤ x7 then ((r_State.f k x0 ((rd_T43 x6 x7).f0.f0) ((rd_T43 x6 x7).f0.f1) ((rd_T43 x6 x7).f0.f2)).bind fun t574 => ((r_State.f k x5 ((rd_T43 x6 x7).f0.f0) ((rd_T43 x6 x7).f0.f1) ((rd_T43 x6 x7).f0.f2)).bind fun t576 => (if t574 = t576 then (r_Useless.l0 k x0 x5 x6 (wrap64 (x7 + 1))) else (some false)))) else (none)) else (some true)
def r_Useless.f (k : Nat) (l0 : List (S68)) (a1 : Int) : Option (Bool) := (some (([] : List (S68)) : List (S68))).bind fun y552 => (if 0 ≤ a1 then (if a1 ≤ (l0.length : Int) then ((some (l0.take (a1 : Int).toNat : List (S68))).bind fun y555 => (if y552.length + y555.length < 1954687338268 then ((some (y552 ++ y555 : List (S68))).bind fun y559 => (if 0 ≤ (wrap64 (a1 + 1)) then (if (wrap64 (a1 + 1)) ≤ (l0.length : Int) then ((some (l0.drop ((wrap64 (a1 + 1)) : Int).toNat : List (S68))).bind fun y562 => (if y559.length + y562.length < 1954687338268 then (if a1 < (l0.length : Int) then ((r_Parts.f k l0 ((rd_T68 l0 a1).f1.f0.f0) ((rd_T68 l0 a1).f1.f0.f1) ((rd_T68 l0 a1).f1.f0.f2) ((rd_T68 l0 a1).f1.f1.f0) ((rd_T68 l0 a1).f1.f1.f1) ((rd_T68 l0 a1).f1.f1.f2)).bind fun t570 => (r_Useless.l0 k l0 (y559 ++ y562) t570 0)) else (none)) else (none))) else (none)) else (none))) else (none))) else (none)) else (none))
def r_Useless.T1 : Bool × List (List Nat × List Nat) := (true, [([], []), ([], []), ([], []), ([1, 2], [1, 2]), ([0, 3], [0, 3]), ([], []), ([], []), ([6], [6]), ([5, 7], [5, 7]), ([4, 8, 4], [4, 8]), ([9, 9, 0, 1, 2, 3, 4, 5, 6, 7, 8, 9], [9])])
def r_Useless.B1 : List Nat := [0, 0, 0, 6, 15, 0, 0, 64, 224, 511, 1023]
theorem r_Useless.tab1 : rtab .any (opsOf Try.f33 1) = r_Useless.T1 := by kernel_rfl
theorem r_Useless.bits1 : waitsOk r_Useless.T1.2 r_Useless.B1 = true := by kernel_rfl
def r_Useless.T6 : Bool × List (List Nat × List Nat) := (true, [([], []), ([], []), ([], []), ([1, 2], [1, 2]), ([3], [3]), ([4], [4]), ([0, 5], [0, 5]), ([], []), ([], []), ([], []), ([8, 9], [8, 9]), ([10], [10]), ([11], [11]), ([7, 12, 6], [7, 12]), ([6, 13], [6, 13])])
def r_Useless.B6 : List Nat := [0, 0, 0, 6, 14, 30, 63, 0, 0, 0, 768, 1792, 3840, 8191, 16383]
theorem r_Useless.tab6 : rtab .any (opsOf Try.f33 6) = r_Useless.T6 := by kernel_rfl
theorem r_Useless.bits6 : waitsOk r_Useless.T6.2 r_Useless.B6 = true := by kernel_rfl
set_option maxHeartbeats 8000000 in
set_option maxRecDepth 100000 in
theorem r_Useless.calls (k : Nat) (A0 : Option Addr) (c0 : Nat) (l0 : List (S68)) (a1 : Int) (r : Bool) (w : World) (hr0 : Kd.C k68 w A0 l0.length l0) (hc0 : l0.length ≤ c0) (h : r_Useless.f k l0 a1 = some r) :
  Calls Try.prog 33 #[.slice A0 l0.length c0, .int .i64 a1] w fun e w' => e = .returned (.bool r) ∧ Below w.heap.size w w' := by
 have hu43 := Try.underlying43
 have hu24 := Try.underlying24
 have HR0 := am hr0
 have HC0 := am hc0
 clear hr0 hc0
 have HB := am (Below.refl w.heap.size w)
 have H : ((some (([] : List (S68)) : List (S68))).bind fun y552 => (if 0 ≤ a1 then (if a1 ≤ (l0.length : Int) then ((some (l0.take (a1 : Int).toNat : List (S68))).bind fun y555 => (if y552.length + y555.length < 1954687338268 then ((some (y552 ++ y555 : List (S68))).bind fun y559 => (if 0 ≤ (wrap64 (a1 + 1)) then (if (wrap64 (a1 + 1)) ≤ (l0.length : Int) then ((some (l0.drop ((wrap64 (a1 + 1)) : Int).toNat : List (S68))).bind fun y562 => (if y559.length + y562.length < 1954687338268 then (if a1 < (l0.length : Int) then ((r_Parts.f k l0 ((rd_T68 l0 a1).f1.f0.f0) ((rd_T68 l0 a1).f1.f0.f1) ((rd_T68 l0 a1).f1.f0.f2) ((rd_T68 l0 a1).f1.f1.f0) ((rd_T68 l0 a1).f1.f1.f1) ((rd_T68 l0 a1).f1.f1.f2)).bind fun t570 => (r_Useless.l0 k l0 (y559 ++ y562) t570 0)) else (none)) else (none))) else (none)) else (none))) else (none))) else (none)) else (none))) = some r := h
 clear h
 obtain ⟨y552, hy552⟩ : ∃ y_ : List (S68), y_ = (([] : List (S68))) := ⟨_, rfl⟩
 replace H : (if 0 ≤ a1 then (if a1 ≤ (l0.length : Int) then ((some (l0.take (a1 : Int).toNat : List (S68))).bind fun y555 => (if y552.length + y555.length < 1954687338268 then ((some (y552 ++ y555 : List (S68))).bind fun y559 => (if 0 ≤ (wrap64 (a1 + 1)) then (if (wrap64 (a1 + 1)) ≤ (l0.length : Int) then ((some (l0.drop ((wrap64 (a1 + 1)) : Int).toNat : List (S68))).bind fun y562 => (if y559.length + y562.length < 1954687338268 then (if a1 < (l0.length : Int) then ((r_Parts.f k l0 ((rd_T68 l0 a1).f1.f0.f0) ((rd_T68 l0 a1).f1.f0.f1) ((rd_T68 l0 a1).f1.f0.f2) ((rd_T68 l0 a1).f1.f1.f0) ((rd_T68 l0 a1).f1.f1.f1) ((rd_T68 l0 a1).f1.f1.f2)).bind fun t570 => (r_Useless.l0 k l0 (y559 ++ y562) t570 0)) else (none)) else (none))) else (none)) else (none))) else (none))) else (none)) else (none)) = some r := by first | (rw [hy552]; with_reducible exact H) | (have H2_ := (Option.bind_some _ _).symm.trans H; rw [hy552]; with_reducible exact H2_) | (have H2_ := (Option.bind_some _ _).symm.trans H; with_reducible exact H2_) | with_reducible exact H | (rw [hy552]; exact H) | exact H
 have Ny552 := am hy552
 clear hy552
 by_cases c3 : 0 ≤ a1
 ·rw [if_pos c3] at H
  have c3b0 := eq_true c3
  have c3b1 : decide (0 ≤ a1) = true := decide_eq_true c3
  clear c3
  by_cases c4 : a1 ≤ (l0.length : Int)
  rotate_left
  ·rw [if_neg c4] at H
   exact absurd H (by simp)
  rw [if_pos c4] at H
  have c4b0 := eq_true c4
  have c4b1 : decide (a1 ≤ (l0.length : Int)) = true := decide_eq_true c4
  clear c4
  obtain ⟨y555, hy555⟩ : ∃ y_ : List (S68), y_ = (l0.take (a1 : Int).toNat) := ⟨_, rfl⟩
  replace H : (if y552.length + y555.length < 1954687338268 then ((some (y552 ++ y555 : List (S68))).bind fun y559 => (if 0 ≤ (wrap64 (a1 + 1)) then (if (wrap64 (a1 + 1)) ≤ (l0.length : Int) then ((some (l0.drop ((wrap64 (a1 + 1)) : Int).toNat : List (S68))).bind fun y562 => (if y559.length + y562.length < 1954687338268 then (if a1 < (l0.length : Int) then ((r_Parts.f k l0 ((rd_T68 l0 a1).f1.f0.f0) ((rd_T68 l0 a1).f1.f0.f1) ((rd_T68 l0 a1).f1.f0.f2) ((rd_T68 l0 a1).f1.f1.f0) ((rd_T68 l0 a1).f1.f1.f1) ((rd_T68 l0 a1).f1.f1.f2)).bind fun t570 => (r_Useless.l0 k l0 (y559 ++ y562) t570 0)) else (none)) else (none))) else (none)) else (none))) else (none)) = some r := by first | (rw [hy555]; with_reducible exact H) | (have H2_ := (Option.bind_some _ _).symm.trans H; rw [hy555]; with_reducible exact H2_) | (have H2_ := (Option.bind_some _ _).symm.trans H; with_reducible exact H2_) | with_reducible exact H | (rw [hy555]; exact H) | exact H
  have Ny555 := am hy555
  clear hy555
  by_cases c5 : y552.length + y555.length < 1954687338268
  rotate_left
  ·rw [if_neg c5] at H
   exact absurd H (by simp)
  rw [if_pos c5] at H
  have LMc5 := am c5
  clear c5
  obtain ⟨y559, hy559⟩ : ∃ y_ : List (S68), y_ = (y552 ++ y555) := ⟨_, rfl⟩
  replace H : (if 0 ≤ (wrap64 (a1 + 1)) then (if (wrap64 (a1 + 1)) ≤ (l0.length : Int) then ((some (l0.drop ((wrap64 (a1 + 1)) : Int).toNat : List (S68))).bind fun y562 => (if y559.length + y562.length < 1954687338268 then (if a1 < (l0.length : Int) then ((r_Parts.f k l0 ((rd_T68 l0 a1).f1.f0.f0) ((rd_T68 l0 a1).f1.f0.f1) ((rd_T68 l0 a1).f1.f0.f2) ((rd_T68 l0 a1).f1.f1.f0) ((rd_T68 l0 a1).f1.f1.f1) ((rd_T68 l0 a1).f1.f1.f2)).bind fun t570 => (r_Useless.l0 k l0 (y559 ++ y562) t570 0)) else (none)) else (none))) else (none)) else (none)) = some r := by first | (rw [hy559]; with_reducible exact H) | (have H2_ := (Option.bind_some _ _).symm.trans H; rw [hy559]; with_reducible exact H2_) | (have H2_ := (Option.bind_some _ _).symm.trans H; with_reducible exact H2_) | with_reducible exact H | (rw [hy559]; exact H) | exact H
  have Ny559 := am hy559
  clear hy559
  obtain ⟨ji6, hji6⟩ : ∃ j_ : Int, (wrap64 (a1 + 1)) = j_ := ⟨_, rfl⟩
  replace H : (if 0 ≤ (ji6) then (if (ji6) ≤ (l0.length : Int) then ((some (l0.drop ((ji6) : Int).toNat : List (S68))).bind fun y562 => (if y559.length + y562.length < 1954687338268 then (if a1 < (l0.length : Int) then ((r_Parts.f k l0 ((rd_T68 l0 a1).f1.f0.f0) ((rd_T68 l0 a1).f1.f0.f1) ((rd_T68 l0 a1).f1.f0.f2) ((rd_T68 l0 a1).f1.f1.f0) ((rd_T68 l0 a1).f1.f1.f1) ((rd_T68 l0 a1).f1.f1.f2)).bind fun t570 => (r_Useless.l0 k l0 (y559 ++ y562) t570 0)) else (none)) else (none))) else (none)) else (none)) = some r := by first | (rw [hji6] at H; exact H) | (simp only [hji6] at H ⊢; exact H)
  have hji6w : (IntKind.i64.wrap (a1 + 1)) = ji6 := (i64_w _).trans hji6
  by_cases c7 : 0 ≤ (ji6)
  rotate_left
  ·rw [if_neg c7] at H
   exact absurd H (by simp)
  rw [if_pos c7] at H
  have c7b0 := eq_true c7
  have c7b1 : decide (0 ≤ (ji6)) = true := decide_eq_true c7
  clear c7
  by_cases c8 : (ji6) ≤ (l0.length : Int)
  rotate_left
  ·rw [if_neg c8] at H
   exact absurd H (by simp)
  rw [if_pos c8] at H
  have c8b0 := eq_true c8
  have c8b1 : decide ((ji6) ≤ (l0.length : Int)) = true := decide_eq_true c8
  clear c8
  obtain ⟨y562, hy562⟩ : ∃ y_ : List (S68), y_ = (l0.drop ((ji6) : Int).toNat) := ⟨_, rfl⟩
  replace H : (if y559.length + y562.length < 1954687338268 then (if a1 < (l0.length : Int) then ((r_Parts.f k l0 ((rd_T68 l0 a1).f1.f0.f0) ((rd_T68 l0 a1).f1.f0.f1) ((rd_T68 l0 a1).f1.f0.f2) ((rd_T68 l0 a1).f1.f1.f0) ((rd_T68 l0 a1).f1.f1.f1) ((rd_T68 l0 a1).f1.f1.f2)).bind fun t570 => (r_Useless.l0 k l0 (y559 ++ y562) t570 0)) else (none)) else (none)) = some r := by first | (rw [hy562]; with_reducible exact H) | (have H2_ := (Option.bind_some _ _).symm.trans H; rw [hy562]; with_reducible exact H2_) | (have H2_ := (Option.bind_some _ _).symm.trans H; with_reducible exact H2_) | with_reducible exact H | (rw [hy562]; exact H) | exact H
  have Ny562 := am hy562
  clear hy562
  by_cases c9 : y559.length + y562.length < 1954687338268
  rotate_left
  ·rw [if_neg c9] at H
   exact absurd H (by simp)
  rw [if_pos c9] at H
  have LMc9 := am c9
  clear c9
  obtain ⟨y566, hy566⟩ : ∃ y_ : List (S68), y_ = (y559 ++ y562) := ⟨_, rfl⟩
  replace H : (if a1 < (l0.length : Int) then ((r_Parts.f k l0 ((rd_T68 l0 a1).f1.f0.f0) ((rd_T68 l0 a1).f1.f0.f1) ((rd_T68 l0 a1).f1.f0.f2) ((rd_T68 l0 a1).f1.f1.f0) ((rd_T68 l0 a1).f1.f1.f1) ((rd_T68 l0 a1).f1.f1.f2)).bind fun t570 => (r_Useless.l0 k l0 y566 t570 0)) else (none)) = some r := by first | (rw [hy566]; with_reducible exact H) | (have H2_ := (Option.bind_some _ _).symm.trans H; rw [hy566]; with_reducible exact H2_) | (have H2_ := (Option.bind_some _ _).symm.trans H; with_reducible exact H2_) | with_reducible exact H | (rw [hy566]; exact H) | exact H
  have Ny566 := am hy566
  clear hy566
  by_cases c10 : a1 < (l0.length : Int)
  rotate_left
  ·rw [if_neg c10] at H
   exact absurd H (by simp)
  rw [if_pos c10] at H
  have c10b0 : decide (a1 < (l0.length : Int)) = true := decide_eq_true c10
  clear c10
  replace H := Option.bind_eq_some_iff.mp H
  obtain ⟨t570, A110, H⟩ := H
  replace H : (r_Useless.l0 k l0 y566 t570 0) = some r := H
  have A11 := am A110
  clear A110
  have H' := am H
  clear H
  go_enter Try.func33, Try.ntmps33
  try go_wp2
  have n0_ := am (below_drew1 HB.out)
  clear HB
  have HB := n0_
  clear n0_
  have q13 : (a1 : Int) ≤ ((l0.length : Int) : Int) := of_decide_eq_true (by assumption)
  obtain ⟨i013, hi013, _, hsz13, _⟩ := info_parts info68
  have hroom13 : l0.length ≤ c0 := HC0.out
  have hC13 : Kd.C k68 _ A0 l0.length l0 := HR0.out
  have hcut13 := cut_to (P := Try.prog) 22 68 .i64 Try.underlying22 hi013 A0 l0.length c0 a1 (of_decide_eq_true (by assumption)) q13 hroom13
  have hr13 := Kd.C_take (m := (a1 : Int).toNat) hC13 (by omega)
  have hy13 : y555.length = (a1 : Int).toNat := (by rw [Ny555.out, List.length_take]; omega)
  rw [← Ny555.out] at hr13
  rw [← hy13] at hcut13
  have HR558 := am hr13
  have HC558 := am (show y555.length ≤ c0 from by omega)
  clear hr13 hC13 hroom13 hi013 hsz13
  have KY13 := am hy13
  clear hy13
  replace q13 := eq_true q13
  have q14 : ((ji6) : Int) ≤ ((l0.length : Int) : Int) := of_decide_eq_true (by assumption)
  obtain ⟨i014, hi014, _, hsz14, _⟩ := info_parts info68
  have hroom14 : l0.length ≤ c0 := HC0.out
  have hC14 : Kd.C k68 _ A0 l0.length l0 := HR0.out
  have q014 : (0 : Int) ≤ ((ji6) : Int) := of_decide_eq_true (by assumption)
  have hcut14 := cut_from (P := Try.prog) 22 68 .i64 Try.underlying22 hi014 8 hsz14 A0 l0.length c0 (ji6) q014 q14
  have hr14 := Kd.C_drop (m := ((ji6) : Int).toNat) (c := c0) hC14 (by omega) hroom14
  obtain ⟨A14, hA14⟩ : ∃ A1, A1 = (if c0 = ((ji6) : Int).toNat then A0 else (A0 : Option Addr).map (·.add (((ji6) : Int).toNat * 8))) := ⟨_, rfl⟩
  obtain ⟨c14, hc14⟩ : ∃ c1, c1 = c0 - ((ji6) : Int).toNat := ⟨_, rfl⟩
  have hy14 : y562.length = l0.length - ((ji6) : Int).toNat := (by rw [Ny562.out, List.length_drop] <;> omega)
  rw [show (l0).drop ((ji6) : Int).toNat = y562 from Ny562.out.symm] at hr14
  replace hr14 : Kd.C k68 _ A14 y562.length y562 := (by rw [hA14]; exact hr14)
  rw [← hy14, ← hA14, ← hc14] at hcut14
  have HR565 := am hr14
  have HC565 := am (show y562.length ≤ c14 from by rw [hy14, hc14]; exact Nat.sub_le_sub_right hroom14 _)
  clear hr14 hC14 hroom14 hi014 hsz14 hc14
  have KY14 := am hy14
  have KA14 := am hA14
  clear hy14 hA14
  replace q14 := eq_true q14
  refine start_ (n := 11) (S := fun w' => True) (ds := []) #[F,F,F,F,F,F,F,F,F,F,F] (by kernel_rfl) rfl rfl trivial (fun hHeld => ?_); refine with_tabW r_Useless.tab1 r_Useless.bits1 (fun HT_ HW_ => ?_)
  generalize w.drew = w12 at HB HR558 HR565 hHeld ⊢
  refine pu (i := 1) (N := some 9) (fl 11 0 [1]) HT_ ?_
  refine pu (i := 2) (N := some 10) (fl 11 0 [1, 2]) HT_ ?_
  refine pu (i := 3) (N := some 11) (fl 11 0 [1, 2, 3]) HT_ ?_
  refine pu (i := 5) (N := some 13) (fl 11 0 [1, 2, 3, 5]) HT_ ?_
  refine pu (i := 6) (N := some 14) (fl 11 0 [1, 2, 3, 5, 6]) HT_ ?_
  refine pu (i := 7) (N := some 15) (fl 11 0 [1, 2, 3, 5, 6, 7]) HT_ ?_
  refine pu (i := 8) (N := some 16) (fl 11 0 [1, 2, 3, 5, 6, 7, 8]) HT_ ?_
  refine one_ (i := 0) (N := some 8) (fl 11 4 [5, 6, 7, 8]) rfl rfl (one_of HT_.out (by kernel_rfl)) (by decide) (fun K hK => ?_)
  refine Kd.R_lit_step k68 _ 68 ?hg (N := 8) ?hd (xs := ([] : List (S68))) (inner := []) (ok := fun _ => True) (okp := fun _ => True) ?hr ?hp (fun _ hk => hk) trivial (Below.refl _ _) (Nat.le_refl _) (by simp) ?_; (case hd | hg => rfl); (case hr => first | (go_simp; done) | (go_simp; rfl)); (case hp => exact (Reps.none _ _))
  intro v553 w15 ho16 hb hg_ hnew_
  clear hg_ hnew_
  (first | rw [← Ny552.out] at ho16 | (simp only [Int.reduceToNat] at ho16; rw [← Ny552.out] at ho16))
  have n0_ := am (Kd.R_lower ho16 (below_size (fW HB.out)))
  have n1_ := bS HB hb
  clear HB
  have HO554 := n0_
  have HB := n1_
  clear n0_ n1_ hb ho16
  refine hK.out _ _ trivial (fun hHeld => ?_)
  clear hK K
  refine norm_ (a' := ?_) ?_ ?_
  rotate_left
  ·show Act.put _ (some 8) _ = _
   simp only [Act.put, psl, i64_w, i32_w]
   rfl
  refine one_ (i := 4) (N := some 12) (fl 11 9 []) rfl rfl (one_of HT_.out (by kernel_rfl)) (by decide) (fun K hK => ?_)
  refine Kd.R_append_rows_step k68 (w0 := w) w.heap.size (by rfl) (.tmp 8) (.tmp 11) 22 68 (.agg #[(.string ⟨#[]⟩), (.int .i64 0), (.int .i64 0), (.int .i64 0), (.int .i64 0), (.int .i64 0), (.int .i64 0), (.int .i64 0)]) 72 rfl Try.underlying22 info68 rfl (by decide) (by omega) v553 y552 y555 _ _ _ (fun _ => True) (fun _ => False) rfl rfl ?aO ?aR (fun _ _ h => h) (fun _ h => h.elim) ?aF ?aB ?aS ?aL ?_
  (case aR => repeat (first | exact (Kd.C_below HR558.out HB.out) | (with_reducible refine Kd.C_alloc ?_ _) | (with_reducible refine Kd.C_drewN ?_ _) | (with_reducible refine Kd.C_drew ?_)))
  (case aB => exact (fW HB.out))
  (case aF => exact (fun _ _ => trivial))
  (case aO => exact (fR HO554.out))
  (case aS => exact (below_size (fW HB.out)))
  (case aL => have := LMc5.out; omega)
  intro v560 w17 ho hb hg hat
  rw [← Ny559.out] at ho
  have n0_ := am (hb)
  have n1_ := am (ho)
  clear HB HO554
  have HB := n0_
  have HO561 := n1_
  clear n0_ n1_ ho hb hg hat
  refine hK.out _ _ trivial (fun hHeld => ?_)
  clear hK K
  refine norm_ (a' := ?_) ?_ ?_
  rotate_left
  ·show Act.put _ (some 12) _ = _
   simp only [Act.put, psl, i64_w, i32_w]
   rfl
  refine one_ (i := 9) (N := some 17) (fl 11 10 []) rfl rfl (one_of HT_.out (by kernel_rfl)) (by decide) (fun K hK => ?_)
  refine Kd.R_append_rows_step k68 (w0 := w) w.heap.size (by rfl) (.tmp 12) (.tmp 16) 22 68 (.agg #[(.string ⟨#[]⟩), (.int .i64 0), (.int .i64 0), (.int .i64 0), (.int .i64 0), (.int .i64 0), (.int .i64 0), (.int .i64 0)]) 72 rfl Try.underlying22 info68 rfl (by decide) (by omega) v560 y559 y562 _ _ _ (fun _ => True) (fun _ => False) rfl rfl ?aO ?aR (fun _ _ h => h) (fun _ h => h.elim) ?aF ?aB ?aS ?aL ?_
  (case aR => repeat (first | exact (Kd.C_below HR565.out HB.out) | (with_reducible refine Kd.C_alloc ?_ _) | (with_reducible refine Kd.C_drewN ?_ _) | (with_reducible refine Kd.C_drew ?_)))
  (case aB => exact (fW HB.out))
  (case aF => exact (fun _ _ => trivial))
  (case aO => exact (fR HO561.out))
  (case aS => exact (below_size (fW HB.out)))
  (case aL => have := LMc9.out; omega)
  intro v567 w18 ho hb hg hat
  rw [← Ny566.out] at ho
  have n0_ := am (hb)
  have n1_ := am (ho)
  clear HB HO561
  have HB := n0_
  have HO568 := n1_
  clear n0_ n1_ ho hb hg hat
  refine hK.out _ _ trivial (fun hHeld => ?_)
  clear hK K
  refine norm_ (a' := ?_) ?_ ?_
  rotate_left
  ·show Act.put _ (some 17) _ = _
   simp only [Act.put, psl, i64_w, i32_w]
   rfl
  refine pu (i := 10) (N := some 5) (fl 11 11 []) HT_ ?_
  refine done_ (done_of HT_.out (by kernel_rfl)) ?_
  have p569 : 0 ≤ (a1 : Int) := of_decide_eq_true (by assumption)
  have q569 : a1 < (l0.length : Int) := of_decide_eq_true (by assumption)
  obtain ⟨ad569, e569, hx569_0, hx569_1, hx569_2, hx569_3, hx569_4, hx569_5, hx569_6, hx569_7⟩ := at_T68 HR0.out a1 p569 q569
  cases e569
  replace hx569_0 := cl HB hx569_0
  replace hx569_1 := cl HB hx569_1
  replace hx569_2 := cl HB hx569_2
  replace hx569_3 := cl HB hx569_3
  replace hx569_4 := cl HB hx569_4
  replace hx569_5 := cl HB hx569_5
  replace hx569_6 := cl HB hx569_6
  replace hx569_7 := cl HB hx569_7
  replace p569 := eq_true p569
  replace q569 := eq_true q569
  try go_wp2_with (first | ((with_reducible refine gate_callee (f := 57) rfl ?_); refine goesL_ (some 24) rfl rfl Try.func57 (by kernel_rfl) rfl #[.slice (some ad569) l0.length c0, .agg #[.int .i64 ((rd_T68 l0 a1).f1.f0.f0), .int .i64 ((rd_T68 l0 a1).f1.f0.f1), .int .i64 ((rd_T68 l0 a1).f1.f0.f2), .int .i64 ((rd_T68 l0 a1).f1.f1.f0), .int .i64 ((rd_T68 l0 a1).f1.f1.f1), .int .i64 ((rd_T68 l0 a1).f1.f1.f2)]] rfl (by (try simp only [pml]); first | done | rfl | (simp only [pdt]; rfl)) ?_; (with_reducible refine (r_Parts.calls k _ _ l0 ((rd_T68 l0 a1).f1.f0.f0) ((rd_T68 l0 a1).f1.f0.f1) ((rd_T68 l0 a1).f1.f0.f2) ((rd_T68 l0 a1).f1.f1.f0) ((rd_T68 l0 a1).f1.f1.f1) ((rd_T68 l0 a1).f1.f1.f2) t570 _ ?side1 ?side2 A11.out).mono ?_); (case side1 => repeat (first | exact (Kd.C_below HR0.out HB.out) | (with_reducible refine Kd.C_alloc ?_ _) | (with_reducible refine Kd.C_drewN ?_ _) | (with_reducible refine Kd.C_drew ?_))); (case side2 => exact HC0.out); rintro e w19 ⟨v571, rfl, ho0, hb⟩; refine ⟨_, rfl, ?_⟩; replace HO568 := dR HO568 hb; have HO572 := am (Kd.R_lower ho0 (below_size (fW HB.out))); replace HB := bS HB hb; (try clear hb); (try clear hb2); (try clear hk); (try clear hi); (try clear ho0)))
  go_loopg [7] k (fun kq v7 w' => ∃ (x7_1 : Int), v7 = .int .i64 x7_1 ∧ Aside0 (r_Useless.l0 kq l0 y566 t570 x7_1 = some r) ∧ Aside0 (kq ≤ k) ∧ Aside0 (Kd.R k68 68 w' w.heap.size (fun _ => True) v567 y566) ∧ Aside0 (Kd.R k43 43 w' w.heap.size (fun _ => True) v571 t570) ∧ Aside0 (Below w.heap.size w w'))
  case atStart => exact ⟨(0), sqD, H', ⟨Nat.le_refl _⟩, ⟨fR HO568.out⟩, ⟨fR HO572.out⟩, ⟨fW HB.out⟩⟩
  case round =>
   clear H'
   try clear c1;try clear q1;try clear p2;try clear c3;try clear c3b0;try clear c3b1;try clear c4;try clear c4b0;try clear c4b1;try clear c5;try clear p5;try clear q5;try clear hx5;try clear p6;try clear c7;try clear c7b0;try clear c7b1;try clear c8;try clear c8b0;try clear c8b1;try clear c9;try clear c10;try clear c10b0;try clear q13;try clear c14;try clear q14;try clear hx569_0;try clear hx569_1;try clear hx569_2;try clear hx569_3;try clear hx569_4;try clear hx569_5;try clear hx569_6;try clear hx569_7;try clear p569;try clear q014;try clear q13;try clear q14;try clear q569
   obtain ⟨x7_1, rfl, HA, HK1, HO_5, HO_6, HB⟩ := hrel
   cases gk with
   | zero => exact absurd HA.out (by simp [r_Useless.l0])
   | succ k1 =>
    have H := HA.out
    clear HA
    simp only [r_Useless.l0] at H
    by_cases c20 : x7_1 < (t570.length : Int)
    rotate_left
    ·rw [if_neg c20] at H
     have c20b0 : decide (x7_1 < (t570.length : Int)) = false := decide_eq_false c20
     clear c20
     obtain rfl := Option.some.inj H
     obtain ⟨Ao35, co35, eo35⟩ := Kd.R_slice HO_6.out
     subst eo35
     go_wp2
     go_ret
     exact ⟨by first | rfl | (simp [errW_none, errW_some] <;> rfl) | (simp only [← hji6]; first | rfl | (simp [errW_none, errW_some] <;> rfl)) | (simp [*, errW_none, errW_some] <;> rfl), fW HB.out⟩
    rw [if_pos c20] at H
    have c20b0 : decide (x7_1 < (t570.length : Int)) = true := decide_eq_true c20
    clear c20
    by_cases c21 : 0 ≤ x7_1
    rotate_left
    ·rw [if_neg c21] at H
     exact absurd H (by simp)
    rw [if_pos c21] at H
    have c21b0 : decide (0 ≤ x7_1) = true := decide_eq_true c21
    clear c21
    replace H := Option.bind_eq_some_iff.mp H
    obtain ⟨t574, A220, H⟩ := H
    replace H : ((r_State.f k1 y566 ((rd_T43 t570 x7_1).f0.f0) ((rd_T43 t570 x7_1).f0.f1) ((rd_T43 t570 x7_1).f0.f2)).bind fun t576 => (if t574 = t576 then (r_Useless.l0 k1 l0 y566 t570 (wrap64 (x7_1 + 1))) else (some false))) = some r := H
    have A22 := am A220
    clear A220
    replace H := Option.bind_eq_some_iff.mp H
    obtain ⟨t576, A230, H⟩ := H
    replace H : (if t574 = t576 then (r_Useless.l0 k1 l0 y566 t570 (wrap64 (x7_1 + 1))) else (some false)) = some r := H
    have A23 := am A230
    clear A230
    by_cases c24 : t574 = t576
    ·rw [if_pos c24] at H
     have c24b0 : (t574 == t576) = true := beq_iff_eq.mpr c24
     have c24b1 : (t574 != t576) = false := bne_eq_false_iff_eq.mpr c24
     clear c24
     have H' := am H
     clear H
     obtain ⟨Ao25, co25, eo25⟩ := Kd.R_slice HO_6.out
     subst eo25
     try go_wp2
     have n0_ := am (Kd.R_drew HO_5.out)
     have n1_ := am (Kd.R_drew HO_6.out)
     have n2_ := am (below_drew1 HB.out)
     clear HO_5 HO_6 HB
     have HO_5 := n0_
     have HO_6 := n1_
     have HB := n2_
     clear n0_ n1_ n2_
     have p573 : 0 ≤ (x7_1 : Int) := of_decide_eq_true (by assumption)
     have q573 : x7_1 < (t570.length : Int) := of_decide_eq_true (by assumption)
     obtain ⟨ad573, e573, hx573_0, hx573_1, hx573_2, hx573_3, hx573_4, hx573_5⟩ := at_T43 (Kd.R_reads' HO_6.out).2.2 x7_1 p573 q573
     cases e573
     replace p573 := eq_true p573
     replace q573 := eq_true q573
     have p575 : 0 ≤ (x7_1 : Int) := of_decide_eq_true (by assumption)
     have q575 : x7_1 < (t570.length : Int) := of_decide_eq_true (by assumption)
     obtain ⟨ad575, e575, hx575_0, hx575_1, hx575_2, hx575_3, hx575_4, hx575_5⟩ := at_T43 (Kd.R_reads' HO_6.out).2.2 x7_1 p575 q575
     obtain rfl : ad573 = ad575 := (by injection e575)
     replace p575 := eq_true p575
     replace q575 := eq_true q575
     refine start_ (n := 15) (S := fun w' => w'.cell? (ad573.add ((x7_1).toNat * 6)) = some (.int .i64 ((rd_T43 t570 x7_1).f0.f0)) ∧ w'.cell? ⟨(ad573.add ((x7_1).toNat * 6)).block, (ad573.add ((x7_1).toNat * 6)).off + 1, none⟩ = some (.int .i64 ((rd_T43 t570 x7_1).f0.f1)) ∧ w'.cell? ⟨(ad573.add ((x7_1).toNat * 6)).block, (ad573.add ((x7_1).toNat * 6)).off + 2, none⟩ = some (.int .i64 ((rd_T43 t570 x7_1).f0.f2)) ∧ w'.cell? ⟨(ad573.add ((x7_1).toNat * 6)).block, (ad573.add ((x7_1).toNat * 6)).off + 3, none⟩ = some (.int .i64 ((rd_T43 t570 x7_1).f1.f0)) ∧ w'.cell? ⟨(ad573.add ((x7_1).toNat * 6)).block, (ad573.add ((x7_1).toNat * 6)).off + 4, none⟩ = some (.int .i64 ((rd_T43 t570 x7_1).f1.f1)) ∧ w'.cell? ⟨(ad573.add ((x7_1).toNat * 6)).block, (ad573.add ((x7_1).toNat * 6)).off + 5, none⟩ = some (.int .i64 ((rd_T43 t570 x7_1).f1.f2)) ∧ w'.cell? (ad573.add ((x7_1).toNat * 6)) = some (.int .i64 ((rd_T43 t570 x7_1).f0.f0)) ∧ w'.cell? ⟨(ad573.add ((x7_1).toNat * 6)).block, (ad573.add ((x7_1).toNat * 6)).off + 1, none⟩ = some (.int .i64 ((rd_T43 t570 x7_1).f0.f1)) ∧ w'.cell? ⟨(ad573.add ((x7_1).toNat * 6)).block, (ad573.add ((x7_1).toNat * 6)).off + 2, none⟩ = some (.int .i64 ((rd_T43 t570 x7_1).f0.f2)) ∧ w'.cell? ⟨(ad573.add ((x7_1).toNat * 6)).block, (ad573.add ((x7_1).toNat * 6)).off + 3, none⟩ = some (.int .i64 ((rd_T43 t570 x7_1).f1.f0)) ∧ w'.cell? ⟨(ad573.add ((x7_1).toNat * 6)).block, (ad573.add ((x7_1).toNat * 6)).off + 4, none⟩ = some (.int .i64 ((rd_T43 t570 x7_1).f1.f1)) ∧ w'.cell? ⟨(ad573.add ((x7_1).toNat * 6)).block, (ad573.add ((x7_1).toNat * 6)).off + 5, none⟩ = some (.int .i64 ((rd_T43 t570 x7_1).f1.f2))) (ds := []) #[F,F,F,F,F,F,F,F,F,F,F,F,F,F,F] (by kernel_rfl) rfl rfl ⟨hx573_0, hx573_1, hx573_2, hx573_3, hx573_4, hx573_5, hx575_0, hx575_1, hx575_2, hx575_3, hx575_4, hx575_5⟩ (fun hHeld => ?_); refine with_tabW r_Useless.tab6 r_Useless.bits6 (fun HT_ HW_ => ?_)
     generalize wr.drew = w26 at HO_5 HO_6 HB hx573_0 hx573_1 hx573_2 hx573_3 hx573_4 hx573_5 hx575_0 hx575_1 hx575_2 hx575_3 hx575_4 hx575_5 hHeld ⊢
     refine pu (i := 0) (N := some 31) (fl 15 1 []) HT_ ?_
     refine pu (i := 1) (N := some 32) (fl 15 2 []) HT_ ?_
     refine pu (i := 2) (N := some 33) (fl 15 3 []) HT_ ?_
     refine pu (i := 3) (N := some 34) (fl 15 4 []) HT_ ?_
     refine pu (i := 4) (N := some 35) (fl 15 5 []) HT_ ?_
     refine pu (i := 7) (N := some 38) (fl 15 5 [7]) HT_ ?_
     refine pu (i := 8) (N := some 39) (fl 15 5 [7, 8]) HT_ ?_
     refine pu (i := 9) (N := some 40) (fl 15 5 [7, 8, 9]) HT_ ?_
     refine pu (i := 10) (N := some 41) (fl 15 5 [7, 8, 9, 10]) HT_ ?_
     refine pu (i := 11) (N := some 42) (fl 15 5 [7, 8, 9, 10, 11]) HT_ ?_
     refine tk (i := 5) (N := some 36) (fl 15 6 [7, 8, 9, 10, 11]) HT_ HW_ hHeld ?_
     refine tk (i := 12) (N := some 43) (fl 15 6 [7, 8, 9, 10, 11, 12]) HT_ HW_ hHeld ?_
     refine one_ (i := 6) (N := some 37) (fl 15 13 []) rfl rfl (one_of HT_.out (by kernel_rfl)) (by decide) (fun K hK => ?_)
     refine goes_ Try.func18 (by kernel_rfl) rfl #[.slice (some ad569) l0.length c0, .agg #[.int .i64 ((rd_T43 t570 x7_1).f0.f0), .int .i64 ((rd_T43 t570 x7_1).f0.f1), .int .i64 ((rd_T43 t570 x7_1).f0.f2)]] (by rfl) rfl rfl (by (try simp only [pml]); first | done | rfl | (simp only [pdt]; rfl)) ?_
     with_reducible refine (r_State.calls k1 _ _ l0 ((rd_T43 t570 x7_1).f0.f0) ((rd_T43 t570 x7_1).f0.f1) ((rd_T43 t570 x7_1).f0.f2) t574 _ ?side1 ?side2 A22.out).mono ?_
     (case side1 => repeat (first | exact (Kd.C_below HR0.out HB.out) | (with_reducible refine Kd.C_alloc ?_ _) | (with_reducible refine Kd.C_drewN ?_ _) | (with_reducible refine Kd.C_drew ?_)))
     (case side2 => exact HC0.out)
     rintro e w27 ⟨rfl, hb⟩
     have HS0_ := (hb.cell (bq _ _ (hHeld.1))).trans (hHeld.1)
     have HS1_ := (hb.cell (bq _ _ (hHeld.2.1))).trans (hHeld.2.1)
     have HS2_ := (hb.cell (bq _ _ (hHeld.2.2.1))).trans (hHeld.2.2.1)
     have HS3_ := (hb.cell (bq _ _ (hHeld.2.2.2.1))).trans (hHeld.2.2.2.1)
     have HS4_ := (hb.cell (bq _ _ (hHeld.2.2.2.2.1))).trans (hHeld.2.2.2.2.1)
     have HS5_ := (hb.cell (bq _ _ (hHeld.2.2.2.2.2.1))).trans (hHeld.2.2.2.2.2.1)
     have HS6_ := (hb.cell (bq _ _ (hHeld.2.2.2.2.2.2.1))).trans (hHeld.2.2.2.2.2.2.1)
     have HS7_ := (hb.cell (bq _ _ (hHeld.2.2.2.2.2.2.2.1))).trans (hHeld.2.2.2.2.2.2.2.1)
     have HS8_ := (hb.cell (bq _ _ (hHeld.2.2.2.2.2.2.2.2.1))).trans (hHeld.2.2.2.2.2.2.2.2.1)
     have HS9_ := (hb.cell (bq _ _ (hHeld.2.2.2.2.2.2.2.2.2.1))).trans (hHeld.2.2.2.2.2.2.2.2.2.1)
     have HS10_ := (hb.cell (bq _ _ (hHeld.2.2.2.2.2.2.2.2.2.2.1))).trans (hHeld.2.2.2.2.2.2.2.2.2.2.1)
     have HS11_ := (hb.cell (bq _ _ (hHeld.2.2.2.2.2.2.2.2.2.2.2))).trans (hHeld.2.2.2.2.2.2.2.2.2.2.2)
     refine ⟨_, rfl, ?_⟩
     have n0_ := dR HO_5 hb
     have n1_ := dR HO_6 hb
     have n2_ := bS HB hb
     clear HO_5 HO_6 HB
     have HO_5 := n0_
     have HO_6 := n1_
     have HB := n2_
     clear n0_ n1_ n2_
     (try clear hb)
     (try clear hb2)
     (try clear hk)
     (try clear hi)
     obtain ⟨Ao28, co28, eo28⟩ := Kd.R_slice HO_5.out
     (first | subst eo28 | (injection eo28 with f1_ f2_ f3_; have f4_ := f1_.symm; have f5_ := f3_.symm; clear f1_ f2_ f3_; subst f4_; subst f5_))
     refine hK.out _ _ ⟨HS0_, HS1_, HS2_, HS3_, HS4_, HS5_, HS6_, HS7_, HS8_, HS9_, HS10_, HS11_⟩ (fun hHeld => ?_)
     clear hK K
     refine norm_ (a' := ?_) ?_ ?_
     rotate_left
     ·show Act.put _ (some 37) _ = _
      simp only [Act.put, psl, i64_w, i32_w]
      rfl
     refine one_ (i := 13) (N := some 44) (fl 15 14 []) rfl rfl (one_of HT_.out (by kernel_rfl)) (by decide) (fun K hK => ?_)
     refine goes_ Try.func18 (by kernel_rfl) rfl #[.slice Ao28 y566.length co28, .agg #[.int .i64 ((rd_T43 t570 x7_1).f0.f0), .int .i64 ((rd_T43 t570 x7_1).f0.f1), .int .i64 ((rd_T43 t570 x7_1).f0.f2)]] (by rfl) rfl rfl (by (try simp only [pml]); first | done | rfl | (simp only [pdt]; rfl)) ?_
     with_reducible refine (r_State.calls k1 _ _ y566 ((rd_T43 t570 x7_1).f0.f0) ((rd_T43 t570 x7_1).f0.f1) ((rd_T43 t570 x7_1).f0.f2) t576 _ ?side1 ?side2 A23.out).mono ?_
     (case side1 => repeat (first | exact (Kd.R_reads' HO_5.out).2.2 | (with_reducible refine Kd.C_alloc ?_ _) | (with_reducible refine Kd.C_drewN ?_ _) | (with_reducible refine Kd.C_drew ?_)))
     (case side2 => exact (Kd.R_reads' HO_5.out).2.1)
     rintro e w29 ⟨rfl, hb⟩
     have HS0_ := (hb.cell (bq _ _ (hHeld.1))).trans (hHeld.1)
     have HS1_ := (hb.cell (bq _ _ (hHeld.2.1))).trans (hHeld.2.1)
     have HS2_ := (hb.cell (bq _ _ (hHeld.2.2.1))).trans (hHeld.2.2.1)
     have HS3_ := (hb.cell (bq _ _ (hHeld.2.2.2.1))).trans (hHeld.2.2.2.1)
     have HS4_ := (hb.cell (bq _ _ (hHeld.2.2.2.2.1))).trans (hHeld.2.2.2.2.1)
     have HS5_ := (hb.cell (bq _ _ (hHeld.2.2.2.2.2.1))).trans (hHeld.2.2.2.2.2.1)
     have HS6_ := (hb.cell (bq _ _ (hHeld.2.2.2.2.2.2.1))).trans (hHeld.2.2.2.2.2.2.1)
     have HS7_ := (hb.cell (bq _ _ (hHeld.2.2.2.2.2.2.2.1))).trans (hHeld.2.2.2.2.2.2.2.1)
     have HS8_ := (hb.cell (bq _ _ (hHeld.2.2.2.2.2.2.2.2.1))).trans (hHeld.2.2.2.2.2.2.2.2.1)
     have HS9_ := (hb.cell (bq _ _ (hHeld.2.2.2.2.2.2.2.2.2.1))).trans (hHeld.2.2.2.2.2.2.2.2.2.1)
     have HS10_ := (hb.cell (bq _ _ (hHeld.2.2.2.2.2.2.2.2.2.2.1))).trans (hHeld.2.2.2.2.2.2.2.2.2.2.1)
     have HS11_ := (hb.cell (bq _ _ (hHeld.2.2.2.2.2.2.2.2.2.2.2))).trans (hHeld.2.2.2.2.2.2.2.2.2.2.2)
     refine ⟨_, rfl, ?_⟩
     have n0_ := dR HO_5 hb
     have n1_ := dR HO_6 hb
     have n2_ := bS HB hb
     clear HO_5 HO_6 HB
     have HO_5 := n0_
     have HO_6 := n1_
     have HB := n2_
     clear n0_ n1_ n2_
     (try clear hb)
     (try clear hb2)
     (try clear hk)
     (try clear hi)
     refine hK.out _ _ ⟨HS0_, HS1_, HS2_, HS3_, HS4_, HS5_, HS6_, HS7_, HS8_, HS9_, HS10_, HS11_⟩ (fun hHeld => ?_)
     clear hK K
     refine norm_ (a' := ?_) ?_ ?_
     rotate_left
     ·show Act.put _ (some 44) _ = _
      simp only [Act.put, psl, i64_w, i32_w]
      rfl
     refine pu (i := 14) (N := some 45) (fl 15 15 []) HT_ ?_
     refine done_ (done_of HT_.out (by kernel_rfl)) ?_
     try go_wp2
     go_roundg k1
     case measure => have := HK1.out; omega
     case rel => exact ⟨(wrap64 (x7_1 + 1)), sqD, H', ⟨by have := HK1.out; omega⟩, ⟨fR HO_5.out⟩, ⟨fR HO_6.out⟩, ⟨fW HB.out⟩⟩
    rw [if_neg c24] at H
    have c24b0 : (t574 == t576) = false := beq_eq_false_iff_ne.mpr c24
    have c24b1 : (t574 != t576) = true := bne_iff_ne.mpr c24
    obtain rfl := Option.some.inj H
    obtain ⟨Ao30, co30, eo30⟩ := Kd.R_slice HO_6.out
    subst eo30
    try go_wp2
    have n0_ := am (Kd.R_drew HO_5.out)
    have n1_ := am (Kd.R_drew HO_6.out)
    have n2_ := am (below_drew1 HB.out)
    clear HO_5 HO_6 HB
    have HO_5 := n0_
    have HO_6 := n1_
    have HB := n2_
    clear n0_ n1_ n2_
    have p573 : 0 ≤ (x7_1 : Int) := of_decide_eq_true (by assumption)
    have q573 : x7_1 < (t570.length : Int) := of_decide_eq_true (by assumption)
    obtain ⟨ad573, e573, hx573_0, hx573_1, hx573_2, hx573_3, hx573_4, hx573_5⟩ := at_T43 (Kd.R_reads' HO_6.out).2.2 x7_1 p573 q573
    cases e573
    replace p573 := eq_true p573
    replace q573 := eq_true q573
    have p575 : 0 ≤ (x7_1 : Int) := of_decide_eq_true (by assumption)
    have q575 : x7_1 < (t570.length : Int) := of_decide_eq_true (by assumption)
    obtain ⟨ad575, e575, hx575_0, hx575_1, hx575_2, hx575_3, hx575_4, hx575_5⟩ := at_T43 (Kd.R_reads' HO_6.out).2.2 x7_1 p575 q575
    obtain rfl : ad573 = ad575 := (by injection e575)
    replace p575 := eq_true p575
    replace q575 := eq_true q575
    refine start_ (n := 15) (S := fun w' => w'.cell? (ad573.add ((x7_1).toNat * 6)) = some (.int .i64 ((rd_T43 t570 x7_1).f0.f0)) ∧ w'.cell? ⟨(ad573.add ((x7_1).toNat * 6)).block, (ad573.add ((x7_1).toNat * 6)).off + 1, none⟩ = some (.int .i64 ((rd_T43 t570 x7_1).f0.f1)) ∧ w'.cell? ⟨(ad573.add ((x7_1).toNat * 6)).block, (ad573.add ((x7_1).toNat * 6)).off + 2, none⟩ = some (.int .i64 ((rd_T43 t570 x7_1).f0.f2)) ∧ w'.cell? ⟨(ad573.add ((x7_1).toNat * 6)).block, (ad573.add ((x7_1).toNat * 6)).off + 3, none⟩ = some (.int .i64 ((rd_T43 t570 x7_1).f1.f0)) ∧ w'.cell? ⟨(ad573.add ((x7_1).toNat * 6)).block, (ad573.add ((x7_1).toNat * 6)).off + 4, none⟩ = some (.int .i64 ((rd_T43 t570 x7_1).f1.f1)) ∧ w'.cell? ⟨(ad573.add ((x7_1).toNat * 6)).block, (ad573.add ((x7_1).toNat * 6)).off + 5, none⟩ = some (.int .i64 ((rd_T43 t570 x7_1).f1.f2)) ∧ w'.cell? (ad573.add ((x7_1).toNat * 6)) = some (.int .i64 ((rd_T43 t570 x7_1).f0.f0)) ∧ w'.cell? ⟨(ad573.add ((x7_1).toNat * 6)).block, (ad573.add ((x7_1).toNat * 6)).off + 1, none⟩ = some (.int .i64 ((rd_T43 t570 x7_1).f0.f1)) ∧ w'.cell? ⟨(ad573.add ((x7_1).toNat * 6)).block, (ad573.add ((x7_1).toNat * 6)).off + 2, none⟩ = some (.int .i64 ((rd_T43 t570 x7_1).f0.f2)) ∧ w'.cell? ⟨(ad573.add ((x7_1).toNat * 6)).block, (ad573.add ((x7_1).toNat * 6)).off + 3, none⟩ = some (.int .i64 ((rd_T43 t570 x7_1).f1.f0)) ∧ w'.cell? ⟨(ad573.add ((x7_1).toNat * 6)).block, (ad573.add ((x7_1).toNat * 6)).off + 4, none⟩ = some (.int .i64 ((rd_T43 t570 x7_1).f1.f1)) ∧ w'.cell? ⟨(ad573.add ((x7_1).toNat * 6)).block, (ad573.add ((x7_1).toNat * 6)).off + 5, none⟩ = some (.int .i64 ((rd_T43 t570 x7_1).f1.f2))) (ds := []) #[F,F,F,F,F,F,F,F,F,F,F,F,F,F,F] (by kernel_rfl) rfl rfl ⟨hx573_0, hx573_1, hx573_2, hx573_3, hx573_4, hx573_5, hx575_0, hx575_1, hx575_2, hx575_3, hx575_4, hx575_5⟩ (fun hHeld => ?_); refine with_tabW r_Useless.tab6 r_Useless.bits6 (fun HT_ HW_ => ?_)
    generalize wr.drew = w31 at HO_5 HO_6 HB hx573_0 hx573_1 hx573_2 hx573_3 hx573_4 hx573_5 hx575_0 hx575_1 hx575_2 hx575_3 hx575_4 hx575_5 hHeld ⊢
    refine pu (i := 0) (N := some 31) (fl 15 1 []) HT_ ?_
    refine pu (i := 1) (N := some 32) (fl 15 2 []) HT_ ?_
    refine pu (i := 2) (N := some 33) (fl 15 3 []) HT_ ?_
    refine pu (i := 3) (N := some 34) (fl 15 4 []) HT_ ?_
    refine pu (i := 4) (N := some 35) (fl 15 5 []) HT_ ?_
    refine pu (i := 7) (N := some 38) (fl 15 5 [7]) HT_ ?_
    refine pu (i := 8) (N := some 39) (fl 15 5 [7, 8]) HT_ ?_
    refine pu (i := 9) (N := some 40) (fl 15 5 [7, 8, 9]) HT_ ?_
    refine pu (i := 10) (N := some 41) (fl 15 5 [7, 8, 9, 10]) HT_ ?_
    refine pu (i := 11) (N := some 42) (fl 15 5 [7, 8, 9, 10, 11]) HT_ ?_
    refine tk (i := 5) (N := some 36) (fl 15 6 [7, 8, 9, 10, 11]) HT_ HW_ hHeld ?_
    refine tk (i := 12) (N := some 43) (fl 15 6 [7, 8, 9, 10, 11, 12]) HT_ HW_ hHeld ?_
    refine one_ (i := 6) (N := some 37) (fl 15 13 []) rfl rfl (one_of HT_.out (by kernel_rfl)) (by decide) (fun K hK => ?_)
    refine goes_ Try.func18 (by kernel_rfl) rfl #[.slice (some ad569) l0.length c0, .agg #[.int .i64 ((rd_T43 t570 x7_1).f0.f0), .int .i64 ((rd_T43 t570 x7_1).f0.f1), .int .i64 ((rd_T43 t570 x7_1).f0.f2)]] (by rfl) rfl rfl (by (try simp only [pml]); first | done | rfl | (simp only [pdt]; rfl)) ?_
    with_reducible refine (r_State.calls k1 _ _ l0 ((rd_T43 t570 x7_1).f0.f0) ((rd_T43 t570 x7_1).f0.f1) ((rd_T43 t570 x7_1).f0.f2) t574 _ ?side1 ?side2 A22.out).mono ?_
    (case side1 => repeat (first | exact (Kd.C_below HR0.out HB.out) | (with_reducible refine Kd.C_alloc ?_ _) | (with_reducible refine Kd.C_drewN ?_ _) | (with_reducible refine Kd.C_drew ?_)))
    (case side2 => exact HC0.out)
    rintro e w32 ⟨rfl, hb⟩
    have HS0_ := (hb.cell (bq _ _ (hHeld.1))).trans (hHeld.1)
    have HS1_ := (hb.cell (bq _ _ (hHeld.2.1))).trans (hHeld.2.1)
    have HS2_ := (hb.cell (bq _ _ (hHeld.2.2.1))).trans (hHeld.2.2.1)
    have HS3_ := (hb.cell (bq _ _ (hHeld.2.2.2.1))).trans (hHeld.2.2.2.1)
    have HS4_ := (hb.cell (bq _ _ (hHeld.2.2.2.2.1))).trans (hHeld.2.2.2.2.1)
    have HS5_ := (hb.cell (bq _ _ (hHeld.2.2.2.2.2.1))).trans (hHeld.2.2.2.2.2.1)
    have HS6_ := (hb.cell (bq _ _ (hHeld.2.2.2.2.2.2.1))).trans (hHeld.2.2.2.2.2.2.1)
    have HS7_ := (hb.cell (bq _ _ (hHeld.2.2.2.2.2.2.2.1))).trans (hHeld.2.2.2.2.2.2.2.1)
    have HS8_ := (hb.cell (bq _ _ (hHeld.2.2.2.2.2.2.2.2.1))).trans (hHeld.2.2.2.2.2.2.2.2.1)
    have HS9_ := (hb.cell (bq _ _ (hHeld.2.2.2.2.2.2.2.2.2.1))).trans (hHeld.2.2.2.2.2.2.2.2.2.1)
    have HS10_ := (hb.cell (bq _ _ (hHeld.2.2.2.2.2.2.2.2.2.2.1))).trans (hHeld.2.2.2.2.2.2.2.2.2.2.1)
    have HS11_ := (hb.cell (bq _ _ (hHeld.2.2.2.2.2.2.2.2.2.2.2))).trans (hHeld.2.2.2.2.2.2.2.2.2.2.2)
    refine ⟨_, rfl, ?_⟩
    have n0_ := dR HO_5 hb
    have n1_ := dR HO_6 hb
    have n2_ := bS HB hb
    clear HO_5 HO_6 HB
    have HO_5 := n0_
    have HO_6 := n1_
    have HB := n2_
    clear n0_ n1_ n2_
    (try clear hb)
    (try clear hb2)
    (try clear hk)
    (try clear hi)
    obtain ⟨Ao33, co33, eo33⟩ := Kd.R_slice HO_5.out
    (first | subst eo33 | (injection eo33 with f1_ f2_ f3_; have f4_ := f1_.symm; have f5_ := f3_.symm; clear f1_ f2_ f3_; subst f4_; subst f5_))
    refine hK.out _ _ ⟨HS0_, HS1_, HS2_, HS3_, HS4_, HS5_, HS6_, HS7_, HS8_, HS9_, HS10_, HS11_⟩ (fun hHeld => ?_)
    clear hK K
    refine norm_ (a' := ?_) ?_ ?_
    rotate_left
    ·show Act.put _ (some 37) _ = _
     simp only [Act.put, psl, i64_w, i32_w]
     rfl
    refine one_ (i := 13) (N := some 44) (fl 15 14 []) rfl rfl (one_of HT_.out (by kernel_rfl)) (by decide) (fun K hK => ?_)
    refine goes_ Try.func18 (by kernel_rfl) rfl #[.slice Ao33 y566.length co33, .agg #[.int .i64 ((rd_T43 t570 x7_1).f0.f0), .int .i64 ((rd_T43 t570 x7_1).f0.f1), .int .i64 ((rd_T43 t570 x7_1).f0.f2)]] (by rfl) rfl rfl (by (try simp only [pml]); first | done | rfl | (simp only [pdt]; rfl)) ?_
    with_reducible refine (r_State.calls k1 _ _ y566 ((rd_T43 t570 x7_1).f0.f0) ((rd_T43 t570 x7_1).f0.f1) ((rd_T43 t570 x7_1).f0.f2) t576 _ ?side1 ?side2 A23.out).mono ?_
    (case side1 => repeat (first | exact (Kd.R_reads' HO_5.out).2.2 | (with_reducible refine Kd.C_alloc ?_ _) | (with_reducible refine Kd.C_drewN ?_ _) | (with_reducible refine Kd.C_drew ?_)))
    (case side2 => exact (Kd.R_reads' HO_5.out).2.1)
    rintro e w34 ⟨rfl, hb⟩
    have HS0_ := (hb.cell (bq _ _ (hHeld.1))).trans (hHeld.1)
    have HS1_ := (hb.cell (bq _ _ (hHeld.2.1))).trans (hHeld.2.1)
    have HS2_ := (hb.cell (bq _ _ (hHeld.2.2.1))).trans (hHeld.2.2.1)
    have HS3_ := (hb.cell (bq _ _ (hHeld.2.2.2.1))).trans (hHeld.2.2.2.1)
    have HS4_ := (hb.cell (bq _ _ (hHeld.2.2.2.2.1))).trans (hHeld.2.2.2.2.1)
    have HS5_ := (hb.cell (bq _ _ (hHeld.2.2.2.2.2.1))).trans (hHeld.2.2.2.2.2.1)
    have HS6_ := (hb.cell (bq _ _ (hHeld.2.2.2.2.2.2.1))).trans (hHeld.2.2.2.2.2.2.1)
    have HS7_ := (hb.cell (bq _ _ (hHeld.2.2.2.2.2.2.2.1))).trans (hHeld.2.2.2.2.2.2.2.1)
    have HS8_ := (hb.cell (bq _ _ (hHeld.2.2.2.2.2.2.2.2.1))).trans (hHeld.2.2.2.2.2.2.2.2.1)
    have HS9_ := (hb.cell (bq _ _ (hHeld.2.2.2.2.2.2.2.2.2.1))).trans (hHeld.2.2.2.2.2.2.2.2.2.1)
    have HS10_ := (hb.cell (bq _ _ (hHeld.2.2.2.2.2.2.2.2.2.2.1))).trans (hHeld.2.2.2.2.2.2.2.2.2.2.1)
    have HS11_ := (hb.cell (bq _ _ (hHeld.2.2.2.2.2.2.2.2.2.2.2))).trans (hHeld.2.2.2.2.2.2.2.2.2.2.2)
    refine ⟨_, rfl, ?_⟩
    have n0_ := dR HO_5 hb
    have n1_ := dR HO_6 hb
    have n2_ := bS HB hb
    clear HO_5 HO_6 HB
    have HO_5 := n0_
    have HO_6 := n1_
    have HB := n2_
    clear n0_ n1_ n2_
    (try clear hb)
    (try clear hb2)
    (try clear hk)
    (try clear hi)
    refine hK.out _ _ ⟨HS0_, HS1_, HS2_, HS3_, HS4_, HS5_, HS6_, HS7_, HS8_, HS9_, HS10_, HS11_⟩ (fun hHeld => ?_)
    clear hK K
    refine norm_ (a' := ?_) ?_ ?_
    rotate_left
    ·show Act.put _ (some 44) _ = _
     simp only [Act.put, psl, i64_w, i32_w]
     rfl
    refine pu (i := 14) (N := some 45) (fl 15 15 []) HT_ ?_
    refine done_ (done_of HT_.out (by kernel_rfl)) ?_
    try go_wp2
    go_ret
    exact ⟨by first | rfl | (simp [errW_none, errW_some] <;> rfl) | (simp only [← hji6]; first | rfl | (simp [errW_none, errW_some] <;> rfl)) | (simp [*, errW_none, errW_some] <;> rfl), fW HB.out⟩
 ·rw [if_neg c3] at H
  exact absurd H (by simp)

end Go.Proofs.Ytcofgnbopodahaa.QA
