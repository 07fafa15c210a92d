import Derived.Test.YtcofgnbopodahaaKQAx0
import Derived.Test.YtcofgnbopodahaaKQAx14
namespace Go.Proofs.Ytcofgnbopodahaa.QA
open Go.RowKit Go.Proofs.YtcofgnbopodahaaW.PrintWords Go.Proofs.YtcofgnbopodahaaW.PrintLast Go.Proofs.YtcofgnbopodahaaW.PrintMore
open Go.Proofs.YtcofgnbopodahaaW.PrintWords renaming below_drew1 → wd, blk_cell → bc, below_size → wz
open Aside0 renaming mk → am
open World renaming block_lt_of_cell? → bq
attribute [local go_sem] max2_int min2_int max_two min_two max_three min_three max_four min_four
set_option linter.unusedVariables false
set_option linter.unusedSimpArgs false

mutual
def r_Sources.l0 : Nat → List (S68) → List ByteArray → Int → Int → Int → Int → Option (List ByteArray)
 | 0, _, _, _, _, _, _ => none
 | k + 1, x0, x5, x6, x196000, x196001, x196002 => if x6 < (x0.length : Int) then (if 0 ≤ x6 then ((r_has.f k ((rd_T68 x0 x6).f1.f0.f0) ((rd_T68 x0 x6).f1.f0.f1) ((rd_T68 x0 x6).f1.f0.f2) ((rd_T68 x0 x6).f1.f1.f0) ((rd_T68 x0 x6).f1.f1.f1) ((rd_T68 x0 x6).f1.f1.f2) x196000 x196001 x196002).bind fun t200 => (if t200 = true then (r_Sources.l1 k x0 x5 x6 0 x196000 x196001 x196002) else (r_Sources.j3 k x0 x5 x6 x196000 x196001 x196002))) else (none)) else (some x5)
def r_Sources.j3 : Nat → List (S68) → List ByteArray → Int → Int → Int → Int → Option (List ByteArray)
 | 0, _, _, _, _, _, _ => none
 | k + 1, x0, x5, x6, x196000, x196001, x196002 => r_Sources.l0 k x0 x5 (wrap64 (x6 + 1)) x196000 x196001 x196002
def r_Sources.j2 : Nat → List (S68) → List ByteArray → Int → Int → Int → Int → Int → Option (List ByteArray)
 | 0, _, _, _, _, _, _, _ => none
 | k + 1, x0, x5, x6, x7, x196000, x196001, x196002 => if x7 = (x5.length : Int) then ((some (([] : List ByteArray) : List ByteArray)).bind fun y205 => (if 0 ≤ x7 then (if x7 ≤ (x5.length : Int) then ((some (x5.take (x7 : Int).toNat : List ByteArray)).bind fun y208 => (if y205.length + y208.length < 8796093022208 then ((some (y205 ++ y208 : List ByteArray)).bind fun y213 => (if 0 ≤ x6 then (if x6 < (x0.length : Int) then ((some (([(rd_T68 x0 x6).f0] : List ByteArray) : List ByteArray)).bind fun y217 => (if y213.length + y217.length < 8796093022208 then ((some (y213 ++ y217 : List ByteArray)).bind fun y220 => ((some (x5.drop (x7 : Int).toNat : List ByteArray)).bind fun y223 => (if y220.length + y223.length < 8796093022208 then (r_Sources.j3 k x0 (y220 ++ y223) x6 x196000 x196001 x196002) else (none)))) else (none))) else (none)) else (none))) else (none))) else (none)) else (none))) else (if 0 ≤ x7 then (if x7 < (x5.length : Int) then (if 0 ≤ x6 then (if x6 < (x0.length : Int) then (if (rdOf ByteArray.empty x5 x7).toList = ((rd_T68 x0 x6).f0).toList then (r_Sources.j3 k x0 x5 x6 x196000 x196001 x196002) else ((some (([] : List ByteArray) : List ByteArray)).bind fun y231 => (if x7 ≤ (x5.length : Int) then ((some (x5.take (x7 : Int).toNat : List ByteArray)).bind fun y234 => (if y231.length + y234.length < 8796093022208 then ((some (y231 ++ y234 : List ByteArray)).bind fun y239 => ((some (([(rd_T68 x0 x6).f0] : List ByteArray) : List ByteArray)).bind fun y243 => (if y239.length + y243.length < 8796093022208 then ((some (y239 ++ y243 : List ByteArray)).bind fun y246 => ((some (x5.drop (x7 : Int).toNat : List ByteArray)).bind fun y249 => (if y246.length + y249.length < 8796093022208 then (r_Sources.j3 k x0 (y246 ++ y249) x6 x196000 x196001 x196002) else (none)))) else (none)))) else (none))) else (none)))) else (none)) else (none)) else (none)) else (none))
def r_Sources.l1 : Nat → List (S68) → List ByteArray → Int → Int → Int → Int → Int → Option (List ByteArray)
 | 0, _, _, _, _, _, _, _ => none
 | k + 1, x0, x5, x6, x7, x196000, x196001, x196002 => if x7 < (x5.length : Int) then (if 0 ≤ x7 then (if 0 ≤ x6 then (if x6 < (x0.length : Int) then (if (Op.bytesLess ((rdOf ByteArray.empty x5 x7).toList) (((rd_T68 x0 x6).f0).toList)) = true then (r_Sources.l1 k x0 x5 x6 (wrap64 (x7 + 1)) x196000 x196001 x196002) else (r_Sources.j2 k x0 x5 x6 x7 x196000 x196001 x196002)) else (none)) else (none)) else (none)) else (r_Sources.j2 k x0 x5 x6 x7 x196000 x196001 x196002)
end
def r_Sources.f (k : Nat) (l0 : List (S68)) (a1_0 : Int) (a1_1 : Int) (a1_2 : Int) : Option (List ByteArray) := r_Sources.l0 k l0 (([] : List ByteArray)) 0 a1_0 a1_1 a1_2
def r_Sources.T5 : Bool × List (List Nat × List Nat) := (true, [([], []), ([], []), ([0, 1], [0, 1]), ([2], [2]), ([3], [3]), ([], []), ([4, 5], [4, 5]), ([6], [6])])
def r_Sources.B5 : List Nat := [0, 0, 3, 7, 15, 0, 63, 127]
theorem r_Sources.tab5 : rtab .any (opsOf Try.f17 5) = r_Sources.T5 := by kernel_rfl
theorem r_Sources.bits5 : waitsOk r_Sources.T5.2 r_Sources.B5 = true := by kernel_rfl
def r_Sources.T7 : Bool × List (List Nat × List Nat) := (true, [([], []), ([], []), ([1], [1]), ([0, 2], [0, 2]), ([3], [3]), ([4], [4]), ([4], [4]), ([5, 6, 4], [4, 5, 6]), ([7, 4], [4, 7]), ([4], [4]), ([4], [4]), ([9, 10, 4], [4, 9, 10]), ([11, 4], [4, 11]), ([12, 4], [4, 12]), ([8, 13, 4], [4, 8, 13]), ([4, 14], [4, 14])])
def r_Sources.B7 : List Nat := [0, 0, 2, 7, 15, 31, 31, 127, 255, 31, 31, 1567, 3615, 7711, 16383, 32767]
theorem r_Sources.tab7 : rtab .any (opsOf Try.f17 7) = r_Sources.T7 := by kernel_rfl
theorem r_Sources.bits7 : waitsOk r_Sources.T7.2 r_Sources.B7 = true := by kernel_rfl
def r_Sources.T9 : Bool × List (List Nat × List Nat) := (true, [([], []), ([], []), ([1], [1]), ([0, 2], [0, 2]), ([3], [3]), ([4], [4]), ([4], [4]), ([5, 6, 4], [4, 5, 6]), ([7, 4], [4, 7]), ([4], [4]), ([4], [4]), ([9, 10, 4], [4, 9, 10]), ([11, 4], [4, 11]), ([12, 4], [4, 12]), ([8, 13, 4], [4, 8, 13]), ([4, 14], [4, 14])])
def r_Sources.B9 : List Nat := [0, 0, 2, 7, 15, 31, 31, 127, 255, 31, 31, 1567, 3615, 7711, 16383, 32767]
theorem r_Sources.tab9 : rtab .any (opsOf Try.f17 9) = r_Sources.T9 := by kernel_rfl
theorem r_Sources.bits9 : waitsOk r_Sources.T9.2 r_Sources.B9 = true := by kernel_rfl
def r_Sources.T10 : Bool × List (List Nat × List Nat) := (true, [([], []), ([], []), ([], []), ([1, 2], [1, 2]), ([0, 3], [0, 3]), ([], []), ([], []), ([5, 6], [5, 6]), ([7], [7]), ([8], [8]), ([9], [9]), ([4, 10, 4], [4, 10]), ([], []), ([], []), ([12, 13], [12, 13]), ([11, 14, 11], [11, 14]), ([15, 15, 0, 1, 2, 3, 4, 5, 6, 7, 8, 9, 10, 11, 12, 13, 14, 15], [1, 12, 15])])
def r_Sources.B10 : List Nat := [0, 0, 0, 6, 15, 0, 0, 96, 224, 480, 992, 2047, 0, 0, 12288, 32767, 65535]
theorem r_Sources.tab10 : rtab .any (opsOf Try.f17 10) = r_Sources.T10 := by kernel_rfl
theorem r_Sources.bits10 : waitsOk r_Sources.T10.2 r_Sources.B10 = true := by kernel_rfl
set_option maxHeartbeats 8000000 in
set_option maxRecDepth 100000 in
theorem r_Sources.calls (k : Nat) (A0 : Option Addr) (c0 : Nat) (l0 : List (S68)) (a1_0 : Int) (a1_1 : Int) (a1_2 : Int) (r : List ByteArray) (w : World) (hr0 : Kd.C k68 w A0 l0.length l0) (hc0 : l0.length ≤ c0) (h : r_Sources.f k l0 a1_0 a1_1 a1_2 = some r) :
  Calls Try.prog 17 #[.slice A0 l0.length c0, .agg #[.int .i64 a1_0, .int .i64 a1_1, .int .i64 a1_2]] w fun e w' => ∃ v0_ : Value, e = .returned (v0_) ∧ Kd.V Kd.string 9 w' w.heap.size (fun k_ => (w.heap.size ≤ k_)) v0_ r ∧ Below w.heap.size w w' := by
 have hu24 := Try.underlying24
 have hu43 := Try.underlying43
 have HR0 := am hr0
 have HC0 := am hc0
 clear hr0 hc0
 have HB := am (Below.refl w.heap.size w)
 have H : (r_Sources.l0 k l0 (([] : List ByteArray)) 0 a1_0 a1_1 a1_2) = some r := h
 clear h
 obtain ⟨y196, hy196⟩ : ∃ y_ : List ByteArray, y_ = (([] : List ByteArray)) := ⟨_, rfl⟩
 replace H : (r_Sources.l0 k l0 y196 0 a1_0 a1_1 a1_2) = some r := by first | (rw [hy196]; with_reducible exact H) | (have H2_ := (Option.bind_some _ _).symm.trans H; rw [hy196]; with_reducible exact H2_) | (have H2_ := (Option.bind_some _ _).symm.trans H; with_reducible exact H2_) | with_reducible exact H | (rw [hy196]; exact H) | exact H
 have Ny196 := am hy196
 clear hy196
 have H' := am H
 clear H
 go_enter Try.func17, Try.ntmps17
 go_wp2_with (first | ((with_reducible refine gate_dst (N := 3) rfl ?_); refine box_event ?hg (N := 3) ?hd (cs := #[.int .i64 a1_0, .int .i64 a1_1, .int .i64 a1_2]) (t := 24) ?hr ?_; (case hd | hg => rfl); (case hr => first | (go_simp; done) | (go_simp; rfl)); intro gb195 hg w3 hbox hb; have BK195 := am hbox; have GW195 := sG HB hg; have GE195 := sG HB hg; replace HB := bS HB hb; clear hb hbox hg) | ((with_reducible refine gate_dst (N := 8) rfl ?_); refine Kd.R_lit Kd.string _ 9 ?hg (N := 8) ?hd (xs := ([] : List ByteArray)) (inner := []) (ok := fun _ => True) (okp := fun _ => True) ?hr ?hp (fun _ hk => hk) trivial (Below.refl _ _) (Nat.le_refl _) (by simp) ?_; (case hd | hg => rfl); (case hr => first | (go_simp; done) | (go_simp; rfl)); (case hp => exact (Reps.none _ _)); intro v197 w4 ho5 hb hg_ hnew_; clear hg_ hnew_; (first | rw [← Ny196.out] at ho5 | (simp only [Int.reduceToNat] at ho5; rw [← Ny196.out] at ho5)); have HO198 := am (Kd.R_lower (Kd.R_newM (M := fun k_ => (w.heap.size ≤ k_)) ho5 (wz (fW HB.out)) (fun k_ h_ => h_)) (wz (fW HB.out))); replace BK195 := bB BK195 hb; replace HB := bS HB hb; clear hb ho5))
 go_loopg [5, 6] k (fun kq v5 v6 w' => ∃ (x5_1 : List ByteArray) (x6_1 : Int), v6 = .int .i64 x6_1 ∧ Aside0 (r_Sources.l0 kq l0 x5_1 x6_1 a1_0 a1_1 a1_2 = some r) ∧ Aside0 (kq ≤ k) ∧ Aside0 (Kd.V Kd.string 9 w' w.heap.size (fun k_ => (w.heap.size ≤ k_) ∧ k_ ≠ gb195) v5 x5_1) ∧ Aside0 (w'.heap[gb195]? = some (.cells #[.int .i64 a1_0, .int .i64 a1_1, .int .i64 a1_2] 24 (0, 0))) ∧ Aside0 (Below w.heap.size w w'))
 case atStart => exact ⟨(y196), (0), sqD, H', ⟨Nat.le_refl _⟩, ⟨Kd.R_V (by (with_reducible repeat (first | apply Kd.R_alloc | apply Kd.R_drewN | apply Kd.R_drew)); exact Kd.R_mono (Kd.R_types HO198.out BK195.out (by decide)) (fun _ hk => ⟨hk.1.1, hk.2⟩))⟩, ⟨fb BK195.out⟩, ⟨fW HB.out⟩⟩
 case round =>
  clear H'
  try clear c1;try clear p2
  obtain ⟨x5_1, x6_1, rfl, HA, HK1, HO_5, BK195, HB⟩ := hrel
  cases gk with
  | zero => exact absurd HA.out (by simp [r_Sources.l0])
  | succ k1 =>
   have H := HA.out
   clear HA
   simp only [r_Sources.l0] at H
   by_cases c6 : x6_1 < (l0.length : Int)
   ·rw [if_pos c6] at H
    have c6b0 : decide (x6_1 < (l0.length : Int)) = true := decide_eq_true c6
    clear c6
    have HC7 := am H
    clear H
    go_upto_block 1 with (fail)
    go_cut [5] (fun v5 wc => ∃ (kq : Nat) (x5_6 : List ByteArray), Aside0 (r_Sources.j3 kq l0 x5_6 x6_1 a1_0 a1_1 a1_2 = some r) ∧ Aside0 (kq ≤ k1) ∧ Aside0 (Kd.V Kd.string 9 wc w.heap.size (fun k_ => (w.heap.size ≤ k_) ∧ k_ ≠ gb195) v5 x5_6) ∧ Aside0 (wc.heap[gb195]? = some (.cells #[.int .i64 a1_0, .int .i64 a1_1, .int .i64 a1_2] 24 (0, 0))) ∧ Aside0 (Below w.heap.size w wc))
    case first =>
     have H := HC7.out
     clear HC7
     by_cases c8 : 0 ≤ x6_1
     rotate_left
     ·rw [if_neg c8] at H
      exact absurd H (by simp)
     rw [if_pos c8] at H
     have c8b0 : decide (0 ≤ x6_1) = true := decide_eq_true c8
     clear c8
     (first | rw [c8b0] | (simp only [i64_w, i32_w]; rw [c8b0]) | skip)
     replace H := Option.bind_eq_some_iff.mp H
     obtain ⟨t200, A90, H⟩ := H
     replace H : (if t200 = true then (r_Sources.l1 k1 l0 x5_1 x6_1 0 a1_0 a1_1 a1_2) else (r_Sources.j3 k1 l0 x5_1 x6_1 a1_0 a1_1 a1_2)) = some r := H
     have A9 := am A90
     clear A90
     by_cases c10 : t200 = true
     rotate_left
     ·replace c10 := Bool.eq_false_iff.mpr c10
      subst c10
      have H1 : (r_Sources.j3 k1 l0 x5_1 x6_1 a1_0 a1_1 a1_2) = some r := by rw [if_neg (show ¬ (false = true) by decide)] at H; exact H
      clear H
      have H := H1
      clear H1
      have H' := am H
      clear H
      try go_wp2
      have n0_ := am (Kd.V_drew HO_5.out)
      have n1_ := am (blk_drew BK195.out)
      have n2_ := am (wd HB.out)
      clear HO_5 BK195 HB
      have HO_5 := n0_
      have BK195 := n1_
      have HB := n2_
      clear n0_ n1_ n2_
      have p199 : 0 ≤ (x6_1 : Int) := of_decide_eq_true (by assumption)
      have q199 : x6_1 < (l0.length : Int) := of_decide_eq_true (by assumption)
      obtain ⟨ad199, e199, hx199_0, hx199_1, hx199_2, hx199_3, hx199_4, hx199_5, hx199_6, hx199_7⟩ := at_T68 HR0.out x6_1 p199 q199
      have hw199_7 := hx199_7
      have hw199_6 := hx199_6
      have hw199_5 := hx199_5
      have hw199_4 := hx199_4
      have hw199_3 := hx199_3
      have hw199_2 := hx199_2
      have hw199_1 := hx199_1
      have hw199_0 := hx199_0
      cases e199
      replace hx199_0 := cl HB hx199_0
      replace hx199_1 := cl HB hx199_1
      replace hx199_2 := cl HB hx199_2
      replace hx199_3 := cl HB hx199_3
      replace hx199_4 := cl HB hx199_4
      replace hx199_5 := cl HB hx199_5
      replace hx199_6 := cl HB hx199_6
      replace hx199_7 := cl HB hx199_7
      replace p199 := eq_true p199
      replace q199 := eq_true q199
      refine start_ (n := 8) (S := fun w' => w'.cell? ⟨gb195, 0, none⟩ = some (.int .i64 a1_0) ∧ w'.cell? ⟨gb195, 1, none⟩ = some (.int .i64 a1_1) ∧ w'.cell? ⟨gb195, 2, none⟩ = some (.int .i64 a1_2) ∧ w'.cell? (ad199.add ((x6_1).toNat * 8)) = some (.string ((rd_T68 l0 x6_1).f0)) ∧ w'.cell? ⟨(ad199.add ((x6_1).toNat * 8)).block, (ad199.add ((x6_1).toNat * 8)).off + 1, none⟩ = some (.int .i64 ((rd_T68 l0 x6_1).f1.f0.f0)) ∧ w'.cell? ⟨(ad199.add ((x6_1).toNat * 8)).block, (ad199.add ((x6_1).toNat * 8)).off + 2, none⟩ = some (.int .i64 ((rd_T68 l0 x6_1).f1.f0.f1)) ∧ w'.cell? ⟨(ad199.add ((x6_1).toNat * 8)).block, (ad199.add ((x6_1).toNat * 8)).off + 3, none⟩ = some (.int .i64 ((rd_T68 l0 x6_1).f1.f0.f2)) ∧ w'.cell? ⟨(ad199.add ((x6_1).toNat * 8)).block, (ad199.add ((x6_1).toNat * 8)).off + 4, none⟩ = some (.int .i64 ((rd_T68 l0 x6_1).f1.f1.f0)) ∧ w'.cell? ⟨(ad199.add ((x6_1).toNat * 8)).block, (ad199.add ((x6_1).toNat * 8)).off + 5, none⟩ = some (.int .i64 ((rd_T68 l0 x6_1).f1.f1.f1)) ∧ w'.cell? ⟨(ad199.add ((x6_1).toNat * 8)).block, (ad199.add ((x6_1).toNat * 8)).off + 6, none⟩ = some (.int .i64 ((rd_T68 l0 x6_1).f1.f1.f2)) ∧ w'.cell? ⟨(ad199.add ((x6_1).toNat * 8)).block, (ad199.add ((x6_1).toNat * 8)).off + 7, none⟩ = some (.int .i64 ((rd_T68 l0 x6_1).f2))) (ds := []) #[F,F,F,F,F,F,F,F] (by kernel_rfl) rfl rfl ⟨(bc BK195.out 0).trans rfl, (bc BK195.out 1).trans rfl, (bc BK195.out 2).trans rfl, ((HB.out.cell (bq w _ hw199_0)).trans hw199_0), ((HB.out.cell (bq w _ hw199_1)).trans hw199_1), ((HB.out.cell (bq w _ hw199_2)).trans hw199_2), ((HB.out.cell (bq w _ hw199_3)).trans hw199_3), ((HB.out.cell (bq w _ hw199_4)).trans hw199_4), ((HB.out.cell (bq w _ hw199_5)).trans hw199_5), ((HB.out.cell (bq w _ hw199_6)).trans hw199_6), ((HB.out.cell (bq w _ hw199_7)).trans hw199_7)⟩ (fun hHeld => ?_); refine with_tabW r_Sources.tab5 r_Sources.bits5 (fun HT_ HW_ => ?_)
      generalize wr.drew = w77 at HO_5 BK195 HB hx199_0 hx199_1 hx199_2 hx199_3 hx199_4 hx199_5 hx199_6 hx199_7 hHeld ⊢
      refine pu (i := 0) (N := some 15) (fl 8 1 []) HT_ ?_
      refine pu (i := 1) (N := some 16) (fl 8 2 []) HT_ ?_
      refine pu (i := 2) (N := some 17) (fl 8 3 []) HT_ ?_
      refine pu (i := 3) (N := some 18) (fl 8 4 []) HT_ ?_
      refine tk (i := 4) (N := some 19) (fl 8 5 []) HT_ HW_ hHeld ?_
      refine tk (i := 5) (N := some 20) (fl 8 6 []) HT_ HW_ hHeld ?_
      refine one_ (i := 6) (N := some 21) (fl 8 7 []) rfl rfl (one_of HT_.out (by kernel_rfl)) (by decide) (fun K hK => ?_)
      refine goes_ Try.func45 (by kernel_rfl) rfl #[.agg #[.int .i64 ((rd_T68 l0 x6_1).f1.f0.f0), .int .i64 ((rd_T68 l0 x6_1).f1.f0.f1), .int .i64 ((rd_T68 l0 x6_1).f1.f0.f2), .int .i64 ((rd_T68 l0 x6_1).f1.f1.f0), .int .i64 ((rd_T68 l0 x6_1).f1.f1.f1), .int .i64 ((rd_T68 l0 x6_1).f1.f1.f2)], .agg #[.int .i64 a1_0, .int .i64 a1_1, .int .i64 a1_2]] (by rfl) rfl rfl (by (try simp only [pml]); first | done | rfl | (simp only [pdt]; rfl)) ?_
      with_reducible refine (r_has.calls k1 ((rd_T68 l0 x6_1).f1.f0.f0) ((rd_T68 l0 x6_1).f1.f0.f1) ((rd_T68 l0 x6_1).f1.f0.f2) ((rd_T68 l0 x6_1).f1.f1.f0) ((rd_T68 l0 x6_1).f1.f1.f1) ((rd_T68 l0 x6_1).f1.f1.f2) a1_0 a1_1 a1_2 false _ A9.out).mono ?_
      rintro e w78 ⟨rfl, hb⟩
      refine ⟨_, rfl, ?_⟩
      have n0_ := dV HO_5 hb
      have n1_ := bB BK195 hb
      have n2_ := bS HB hb
      clear HO_5 BK195 HB
      have HO_5 := n0_
      have BK195 := n1_
      have HB := n2_
      clear n0_ n1_ n2_
      (try clear hb)
      (try clear hb2)
      (try clear hk)
      (try clear hi)
      refine hK.out _ _ ⟨(bc BK195.out 0).trans rfl, (bc BK195.out 1).trans rfl, (bc BK195.out 2).trans rfl, ((HB.out.cell (bq w _ hw199_0)).trans hw199_0), ((HB.out.cell (bq w _ hw199_1)).trans hw199_1), ((HB.out.cell (bq w _ hw199_2)).trans hw199_2), ((HB.out.cell (bq w _ hw199_3)).trans hw199_3), ((HB.out.cell (bq w _ hw199_4)).trans hw199_4), ((HB.out.cell (bq w _ hw199_5)).trans hw199_5), ((HB.out.cell (bq w _ hw199_6)).trans hw199_6), ((HB.out.cell (bq w _ hw199_7)).trans hw199_7)⟩ (fun hHeld => ?_)
      clear hK K
      refine norm_ (a' := ?_) ?_ ?_
      rotate_left
      ·show Act.put _ (some 21) _ = _
       simp only [Act.put, psl, i64_w, i32_w]
       rfl
      refine pu (i := 7) (N := some 22) (fl 8 8 []) HT_ ?_
      refine done_ (done_of HT_.out (by kernel_rfl)) ?_
      try go_wp2
      go_meet
      case rel => exact ⟨_, (x5_1), H', ⟨by have := HK1.out; first | omega | exact Nat.le_refl _⟩, ⟨by (with_reducible repeat (first | apply Kd.V_alloc | apply Kd.V_drewN | apply Kd.V_drew)); exact HO_5.out⟩, ⟨fb BK195.out⟩, ⟨fW HB.out⟩⟩
     subst c10
     have H1 : (r_Sources.l1 k1 l0 x5_1 x6_1 0 a1_0 a1_1 a1_2) = some r := by rw [if_pos rfl] at H; exact H
     clear H
     have H := H1
     clear H1
     have HC11 := am H
     clear H
     try go_wp2
     have n0_ := am (Kd.V_drew HO_5.out)
     have n1_ := am (blk_drew BK195.out)
     have n2_ := am (wd HB.out)
     clear HO_5 BK195 HB
     have HO_5 := n0_
     have BK195 := n1_
     have HB := n2_
     clear n0_ n1_ n2_
     have p199 : 0 ≤ (x6_1 : Int) := of_decide_eq_true (by assumption)
     have q199 : x6_1 < (l0.length : Int) := of_decide_eq_true (by assumption)
     obtain ⟨ad199, e199, hx199_0, hx199_1, hx199_2, hx199_3, hx199_4, hx199_5, hx199_6, hx199_7⟩ := at_T68 HR0.out x6_1 p199 q199
     have hw199_7 := hx199_7
     have hw199_6 := hx199_6
     have hw199_5 := hx199_5
     have hw199_4 := hx199_4
     have hw199_3 := hx199_3
     have hw199_2 := hx199_2
     have hw199_1 := hx199_1
     have hw199_0 := hx199_0
     cases e199
     replace hx199_0 := cl HB hx199_0
     replace hx199_1 := cl HB hx199_1
     replace hx199_2 := cl HB hx199_2
     replace hx199_3 := cl HB hx199_3
     replace hx199_4 := cl HB hx199_4
     replace hx199_5 := cl HB hx199_5
     replace hx199_6 := cl HB hx199_6
     replace hx199_7 := cl HB hx199_7
     replace p199 := eq_true p199
     replace q199 := eq_true q199
     refine start_ (n := 8) (S := fun w' => w'.cell? ⟨gb195, 0, none⟩ = some (.int .i64 a1_0) ∧ w'.cell? ⟨gb195, 1, none⟩ = some (.int .i64 a1_1) ∧ w'.cell? ⟨gb195, 2, none⟩ = some (.int .i64 a1_2) ∧ w'.cell? (ad199.add ((x6_1).toNat * 8)) = some (.string ((rd_T68 l0 x6_1).f0)) ∧ w'.cell? ⟨(ad199.add ((x6_1).toNat * 8)).block, (ad199.add ((x6_1).toNat * 8)).off + 1, none⟩ = some (.int .i64 ((rd_T68 l0 x6_1).f1.f0.f0)) ∧ w'.cell? ⟨(ad199.add ((x6_1).toNat * 8)).block, (ad199.add ((x6_1).toNat * 8)).off + 2, none⟩ = some (.int .i64 ((rd_T68 l0 x6_1).f1.f0.f1)) ∧ w'.cell? ⟨(ad199.add ((x6_1).toNat * 8)).block, (ad199.add ((x6_1).toNat * 8)).off + 3, none⟩ = some (.int .i64 ((rd_T68 l0 x6_1).f1.f0.f2)) ∧ w'.cell? ⟨(ad199.add ((x6_1).toNat * 8)).block, (ad199.add ((x6_1).toNat * 8)).off + 4, none⟩ = some (.int .i64 ((rd_T68 l0 x6_1).f1.f1.f0)) ∧ w'.cell? ⟨(ad199.add ((x6_1).toNat * 8)).block, (ad199.add ((x6_1).toNat * 8)).off + 5, none⟩ = some (.int .i64 ((rd_T68 l0 x6_1).f1.f1.f1)) ∧ w'.cell? ⟨(ad199.add ((x6_1).toNat * 8)).block, (ad199.add ((x6_1).toNat * 8)).off + 6, none⟩ = some (.int .i64 ((rd_T68 l0 x6_1).f1.f1.f2)) ∧ w'.cell? ⟨(ad199.add ((x6_1).toNat * 8)).block, (ad199.add ((x6_1).toNat * 8)).off + 7, none⟩ = some (.int .i64 ((rd_T68 l0 x6_1).f2))) (ds := []) #[F,F,F,F,F,F,F,F] (by kernel_rfl) rfl rfl ⟨(bc BK195.out 0).trans rfl, (bc BK195.out 1).trans rfl, (bc BK195.out 2).trans rfl, ((HB.out.cell (bq w _ hw199_0)).trans hw199_0), ((HB.out.cell (bq w _ hw199_1)).trans hw199_1), ((HB.out.cell (bq w _ hw199_2)).trans hw199_2), ((HB.out.cell (bq w _ hw199_3)).trans hw199_3), ((HB.out.cell (bq w _ hw199_4)).trans hw199_4), ((HB.out.cell (bq w _ hw199_5)).trans hw199_5), ((HB.out.cell (bq w _ hw199_6)).trans hw199_6), ((HB.out.cell (bq w _ hw199_7)).trans hw199_7)⟩ (fun hHeld => ?_); refine with_tabW r_Sources.tab5 r_Sources.bits5 (fun HT_ HW_ => ?_)
     generalize wr.drew = w12 at HO_5 BK195 HB hx199_0 hx199_1 hx199_2 hx199_3 hx199_4 hx199_5 hx199_6 hx199_7 hHeld ⊢
     refine pu (i := 0) (N := some 15) (fl 8 1 []) HT_ ?_
     refine pu (i := 1) (N := some 16) (fl 8 2 []) HT_ ?_
     refine pu (i := 2) (N := some 17) (fl 8 3 []) HT_ ?_
     refine pu (i := 3) (N := some 18) (fl 8 4 []) HT_ ?_
     refine tk (i := 4) (N := some 19) (fl 8 5 []) HT_ HW_ hHeld ?_
     refine tk (i := 5) (N := some 20) (fl 8 6 []) HT_ HW_ hHeld ?_
     refine one_ (i := 6) (N := some 21) (fl 8 7 []) rfl rfl (one_of HT_.out (by kernel_rfl)) (by decide) (fun K hK => ?_)
     refine goes_ Try.func45 (by kernel_rfl) rfl #[.agg #[.int .i64 ((rd_T68 l0 x6_1).f1.f0.f0), .int .i64 ((rd_T68 l0 x6_1).f1.f0.f1), .int .i64 ((rd_T68 l0 x6_1).f1.f0.f2), .int .i64 ((rd_T68 l0 x6_1).f1.f1.f0), .int .i64 ((rd_T68 l0 x6_1).f1.f1.f1), .int .i64 ((rd_T68 l0 x6_1).f1.f1.f2)], .agg #[.int .i64 a1_0, .int .i64 a1_1, .int .i64 a1_2]] (by rfl) rfl rfl (by (try simp only [pml]); first | done | rfl | (simp only [pdt]; rfl)) ?_
     with_reducible refine (r_has.calls k1 ((rd_T68 l0 x6_1).f1.f0.f0) ((rd_T68 l0 x6_1).f1.f0.f1) ((rd_T68 l0 x6_1).f1.f0.f2) ((rd_T68 l0 x6_1).f1.f1.f0) ((rd_T68 l0 x6_1).f1.f1.f1) ((rd_T68 l0 x6_1).f1.f1.f2) a1_0 a1_1 a1_2 true _ A9.out).mono ?_
     rintro e w13 ⟨rfl, hb⟩
     refine ⟨_, rfl, ?_⟩
     have n0_ := dV HO_5 hb
     have n1_ := bB BK195 hb
     have n2_ := bS HB hb
     clear HO_5 BK195 HB
     have HO_5 := n0_
     have BK195 := n1_
     have HB := n2_
     clear n0_ n1_ n2_
     (try clear hb)
     (try clear hb2)
     (try clear hk)
     (try clear hi)
     refine hK.out _ _ ⟨(bc BK195.out 0).trans rfl, (bc BK195.out 1).trans rfl, (bc BK195.out 2).trans rfl, ((HB.out.cell (bq w _ hw199_0)).trans hw199_0), ((HB.out.cell (bq w _ hw199_1)).trans hw199_1), ((HB.out.cell (bq w _ hw199_2)).trans hw199_2), ((HB.out.cell (bq w _ hw199_3)).trans hw199_3), ((HB.out.cell (bq w _ hw199_4)).trans hw199_4), ((HB.out.cell (bq w _ hw199_5)).trans hw199_5), ((HB.out.cell (bq w _ hw199_6)).trans hw199_6), ((HB.out.cell (bq w _ hw199_7)).trans hw199_7)⟩ (fun hHeld => ?_)
     clear hK K
     refine norm_ (a' := ?_) ?_ ?_
     rotate_left
     ·show Act.put _ (some 21) _ = _
      simp only [Act.put, psl, i64_w, i32_w]
      rfl
     refine pu (i := 7) (N := some 22) (fl 8 8 []) HT_ ?_
     refine done_ (done_of HT_.out (by kernel_rfl)) ?_
     go_upto_block 2 with (fail)
     go_cut [7] (fun v7 wc => ∃ (kq : Nat) (x7_10 : Int), v7 = .int .i64 x7_10 ∧ Aside0 (r_Sources.j2 kq l0 x5_1 x6_1 x7_10 a1_0 a1_1 a1_2 = some r) ∧ Aside0 (kq ≤ k1) ∧ Aside0 (Kd.V Kd.string 9 wc w.heap.size (fun k_ => (w.heap.size ≤ k_) ∧ k_ ≠ gb195) u5 x5_1) ∧ Aside0 (wc.heap[gb195]? = some (.cells #[.int .i64 a1_0, .int .i64 a1_1, .int .i64 a1_2] 24 (0, 0))) ∧ Aside0 (Below w.heap.size w wc))
     case first =>
      have H := HC11.out
      clear HC11
      have H' := am H
      clear H
      go_wp2
      go_loopg [7] k1 (fun kq v7 w' => ∃ (x7_2 : Int), v7 = .int .i64 x7_2 ∧ Aside0 (r_Sources.l1 kq l0 x5_1 x6_1 x7_2 a1_0 a1_1 a1_2 = some r) ∧ Aside0 (kq ≤ k1) ∧ Aside0 (Kd.V Kd.string 9 w' w.heap.size (fun k_ => (w.heap.size ≤ k_) ∧ k_ ≠ gb195) u5 x5_1) ∧ Aside0 (w'.heap[gb195]? = some (.cells #[.int .i64 a1_0, .int .i64 a1_1, .int .i64 a1_2] 24 (0, 0))) ∧ Aside0 (Below w.heap.size w w'))
      case atStart => exact ⟨(0), sqD, H', ⟨Nat.le_refl _⟩, ⟨by (with_reducible repeat (first | apply Kd.V_alloc | apply Kd.V_drewN | apply Kd.V_drew)); exact HO_5.out⟩, ⟨fb BK195.out⟩, ⟨fW HB.out⟩⟩
      case round =>
       clear H'
       try clear c1;try clear p1;try clear q1;try clear hx1;try clear p2;try clear c4;try clear c6;try clear c6b0;try clear c8;try clear c8b0;try clear c10;try clear hx199_0;try clear hx199_1;try clear hx199_2;try clear hx199_3;try clear hx199_4;try clear hx199_5;try clear hx199_6;try clear hx199_7;try clear p199;try clear p2;try clear q199
       obtain ⟨x7_2, rfl, HA, HK2, HO_5, BK195, HB⟩ := hrel
       cases gk with
       | zero => exact absurd HA.out (by simp [r_Sources.l1])
       | succ k2 =>
        have H := HA.out
        clear HA
        simp only [r_Sources.l1] at H
        by_cases c14 : x7_2 < (x5_1.length : Int)
        rotate_left
        ·rw [if_neg c14] at H
         have c14b0 : decide (x7_2 < (x5_1.length : Int)) = false := decide_eq_false c14
         clear c14
         (first | rw [c14b0] | (simp only [i64_w, i32_w]; rw [c14b0]) | skip)
         have H' := am H
         clear H
         try go_wp2
         have n0_ := am (Kd.V_drew HO_5.out)
         have n1_ := am (blk_drew BK195.out)
         have n2_ := am (wd HB.out)
         clear HO_5 BK195 HB
         have HO_5 := n0_
         have BK195 := n1_
         have HB := n2_
         clear n0_ n1_ n2_
         obtain ⟨Ao24, co24, eo24⟩ := Kd.V_slice HO_5.out
         (first | subst eo24 | (injection eo24 with f1_ f2_ f3_; have f4_ := f1_.symm; have f5_ := f3_.symm; clear f1_ f2_ f3_; subst f4_; subst f5_))
         refine start_ (n := 16) (S := fun w' => True) (ds := []) #[F,F,F,F,F,F,F,F,F,F,F,F,F,F,F,F] (by kernel_rfl) rfl rfl trivial (fun hHeld => ?_); refine with_tabW r_Sources.tab7 r_Sources.bits7 (fun HT_ HW_ => ?_)
         generalize wr.drew = w23 at HO_5 BK195 HB hHeld ⊢
         refine pu (i := 0) (N := some 23) (fl 16 1 []) HT_ ?_
         refine pu (i := 1) (N := some 24) (fl 16 2 []) HT_ ?_
         refine pu (i := 2) (N := some 25) (fl 16 3 []) HT_ ?_
         refine pu (i := 3) (N := some 26) (fl 16 4 []) HT_ ?_
         refine pu (i := 4) (N := some 27) (fl 16 5 []) HT_ ?_
         refine pure_ (i := 5) (N := some 28) (v := undef) (a' := ?_) #[T,T,T,T,T,T,F,F,F,F,F,F,F,F,F,F] rfl rfl (any_of HT_.out (by kernel_rfl)) (fun _ _ _ h => h) (Or.inr ⟨by rfl, rfl⟩) ?_ ?_
         rotate_left
         ·simp only [Act.put, psl, i64_w, i32_w]
          rfl
         refine pure_ (i := 6) (N := some 29) (v := undef) (a' := ?_) #[T,T,T,T,T,T,T,F,F,F,F,F,F,F,F,F] rfl rfl (any_of HT_.out (by kernel_rfl)) (fun _ _ _ h => h) (Or.inr ⟨by rfl, rfl⟩) ?_ ?_
         rotate_left
         ·simp only [Act.put, psl, i64_w, i32_w]
          rfl
         refine pure_ (i := 7) (N := some 30) (v := undef) (a' := ?_) #[T,T,T,T,T,T,T,T,F,F,F,F,F,F,F,F] rfl rfl (any_of HT_.out (by kernel_rfl)) (fun _ _ _ h => h) (Or.inr ⟨by rfl, rfl⟩) ?_ ?_
         rotate_left
         ·simp only [Act.put, psl, i64_w, i32_w]
          rfl
         refine pure_ (i := 8) (N := some 31) (v := undef) (a' := ?_) #[T,T,T,T,T,T,T,T,T,F,F,F,F,F,F,F] rfl rfl (any_of HT_.out (by kernel_rfl)) (fun _ _ _ h => h) (Or.inr ⟨by rfl, rfl⟩) ?_ ?_
         rotate_left
         ·simp only [Act.put, psl, i64_w, i32_w]
          rfl
         refine pure_ (i := 9) (N := some 32) (v := undef) (a' := ?_) #[T,T,T,T,T,T,T,T,T,T,F,F,F,F,F,F] rfl rfl (any_of HT_.out (by kernel_rfl)) (fun _ _ _ h => h) (Or.inr ⟨by rfl, rfl⟩) ?_ ?_
         rotate_left
         ·simp only [Act.put, psl, i64_w, i32_w]
          rfl
         refine pure_ (i := 10) (N := some 33) (v := undef) (a' := ?_) #[T,T,T,T,T,T,T,T,T,T,T,F,F,F,F,F] rfl rfl (any_of HT_.out (by kernel_rfl)) (fun _ _ _ h => h) (Or.inr ⟨by rfl, rfl⟩) ?_ ?_
         rotate_left
         ·simp only [Act.put, psl, i64_w, i32_w]
          rfl
         refine pure_ (i := 11) (N := some 34) (v := undef) (a' := ?_) #[T,T,T,T,T,T,T,T,T,T,T,T,F,F,F,F] rfl rfl (any_of HT_.out (by kernel_rfl)) (fun _ _ _ h => h) (Or.inr ⟨by rfl, rfl⟩) ?_ ?_
         rotate_left
         ·simp only [Act.put, psl, i64_w, i32_w]
          rfl
         refine pure_ (i := 12) (N := some 35) (v := undef) (a' := ?_) #[T,T,T,T,T,T,T,T,T,T,T,T,T,F,F,F] rfl rfl (any_of HT_.out (by kernel_rfl)) (fun _ _ _ h => h) (Or.inr ⟨by rfl, rfl⟩) ?_ ?_
         rotate_left
         ·simp only [Act.put, psl, i64_w, i32_w]
          rfl
         refine pure_ (i := 13) (N := some 36) (v := undef) (a' := ?_) #[T,T,T,T,T,T,T,T,T,T,T,T,T,T,F,F] rfl rfl (any_of HT_.out (by kernel_rfl)) (fun _ _ _ h => h) (Or.inr ⟨by rfl, rfl⟩) ?_ ?_
         rotate_left
         ·simp only [Act.put, psl, i64_w, i32_w]
          rfl
         refine pure_ (i := 14) (N := some 37) (v := undef) (a' := ?_) #[T,T,T,T,T,T,T,T,T,T,T,T,T,T,T,F] rfl rfl (any_of HT_.out (by kernel_rfl)) (fun _ _ _ h => h) (Or.inr ⟨by rfl, rfl⟩) ?_ ?_
         rotate_left
         ·simp only [Act.put, psl, i64_w, i32_w]
          rfl
         refine pu (i := 15) (N := some 38) (fl 16 16 []) HT_ ?_
         refine done_ (done_of HT_.out (by kernel_rfl)) ?_
         try go_wp2
         go_meet
         case rel => exact ⟨_, (x7_2), sqD, H', ⟨by have := HK1.out; have := HK2.out; first | omega | exact Nat.le_refl _⟩, ⟨by (with_reducible repeat (first | apply Kd.V_alloc | apply Kd.V_drewN | apply Kd.V_drew)); exact HO_5.out⟩, ⟨fb BK195.out⟩, ⟨fW HB.out⟩⟩
        rw [if_pos c14] at H
        have c14b0 : decide (x7_2 < (x5_1.length : Int)) = true := decide_eq_true c14
        clear c14
        (first | rw [c14b0] | (simp only [i64_w, i32_w]; rw [c14b0]) | skip)
        by_cases c15 : 0 ≤ x7_2
        rotate_left
        ·rw [if_neg c15] at H
         exact absurd H (by simp)
        rw [if_pos c15] at H
        have c15b0 : decide (0 ≤ x7_2) = true := decide_eq_true c15
        clear c15
        by_cases c16 : 0 ≤ x6_1
        rotate_left
        ·rw [if_neg c16] at H
         exact absurd H (by simp)
        rw [if_pos c16] at H
        have c16b0 : decide (0 ≤ x6_1) = true := decide_eq_true c16
        clear c16
        by_cases c17 : x6_1 < (l0.length : Int)
        rotate_left
        ·rw [if_neg c17] at H
         exact absurd H (by simp)
        rw [if_pos c17] at H
        have c17b0 : decide (x6_1 < (l0.length : Int)) = true := decide_eq_true c17
        clear c17
        by_cases c18 : (Op.bytesLess ((rdOf ByteArray.empty x5_1 x7_2).toList) (((rd_T68 l0 x6_1).f0).toList)) = true
        ·rw [if_pos c18] at H
         have c18b0 : (Op.bytesLess ((rdOf ByteArray.empty x5_1 x7_2).toList) (((rd_T68 l0 x6_1).f0).toList)) = true := c18
         clear c18
         have H' := am H
         clear H
         try go_wp2
         have n0_ := am (Kd.V_drew HO_5.out)
         have n1_ := am (blk_drew BK195.out)
         have n2_ := am (wd HB.out)
         clear HO_5 BK195 HB
         have HO_5 := n0_
         have BK195 := n1_
         have HB := n2_
         clear n0_ n1_ n2_
         obtain ⟨Ao20, co20, eo20⟩ := Kd.V_slice HO_5.out
         (first | subst eo20 | (injection eo20 with f1_ f2_ f3_; have f4_ := f1_.symm; have f5_ := f3_.symm; clear f1_ f2_ f3_; subst f4_; subst f5_))
         have p201 : 0 ≤ (x7_2 : Int) := of_decide_eq_true (by assumption)
         have q201 : x7_2 < (x5_1.length : Int) := of_decide_eq_true (by assumption)
         obtain ⟨ad201, e201, hx201_0⟩ := Kd.at_string (Kd.V_reads' HO_5.out).2.2 x7_2 p201 q201
         cases e201
         replace p201 := eq_true p201
         replace q201 := eq_true q201
         have p202 : 0 ≤ (x6_1 : Int) := of_decide_eq_true (by assumption)
         have q202 : x6_1 < (l0.length : Int) := of_decide_eq_true (by assumption)
         obtain ⟨ad202, e202, hx202_0, hx202_1, hx202_2, hx202_3, hx202_4, hx202_5, hx202_6, hx202_7⟩ := at_T68 HR0.out x6_1 p202 q202
         have hw202_7 := hx202_7
         have hw202_6 := hx202_6
         have hw202_5 := hx202_5
         have hw202_4 := hx202_4
         have hw202_3 := hx202_3
         have hw202_2 := hx202_2
         have hw202_1 := hx202_1
         have hw202_0 := hx202_0
         obtain rfl : ad199 = ad202 := (by injection e202)
         replace hx202_0 := cl HB hx202_0
         replace hx202_1 := cl HB hx202_1
         replace hx202_2 := cl HB hx202_2
         replace hx202_3 := cl HB hx202_3
         replace hx202_4 := cl HB hx202_4
         replace hx202_5 := cl HB hx202_5
         replace hx202_6 := cl HB hx202_6
         replace hx202_7 := cl HB hx202_7
         replace p202 := eq_true p202
         replace q202 := eq_true q202
         refine start_ (n := 16) (S := fun w' => w'.cell? (ad201.add (x7_2).toNat) = some (.string (rdOf ByteArray.empty x5_1 x7_2)) ∧ w'.cell? (ad199.add ((x6_1).toNat * 8)) = some (.string ((rd_T68 l0 x6_1).f0)) ∧ w'.cell? ⟨(ad199.add ((x6_1).toNat * 8)).block, (ad199.add ((x6_1).toNat * 8)).off + 1, none⟩ = some (.int .i64 ((rd_T68 l0 x6_1).f1.f0.f0)) ∧ w'.cell? ⟨(ad199.add ((x6_1).toNat * 8)).block, (ad199.add ((x6_1).toNat * 8)).off + 2, none⟩ = some (.int .i64 ((rd_T68 l0 x6_1).f1.f0.f1)) ∧ w'.cell? ⟨(ad199.add ((x6_1).toNat * 8)).block, (ad199.add ((x6_1).toNat * 8)).off + 3, none⟩ = some (.int .i64 ((rd_T68 l0 x6_1).f1.f0.f2)) ∧ w'.cell? ⟨(ad199.add ((x6_1).toNat * 8)).block, (ad199.add ((x6_1).toNat * 8)).off + 4, none⟩ = some (.int .i64 ((rd_T68 l0 x6_1).f1.f1.f0)) ∧ w'.cell? ⟨(ad199.add ((x6_1).toNat * 8)).block, (ad199.add ((x6_1).toNat * 8)).off + 5, none⟩ = some (.int .i64 ((rd_T68 l0 x6_1).f1.f1.f1)) ∧ w'.cell? ⟨(ad199.add ((x6_1).toNat * 8)).block, (ad199.add ((x6_1).toNat * 8)).off + 6, none⟩ = some (.int .i64 ((rd_T68 l0 x6_1).f1.f1.f2)) ∧ w'.cell? ⟨(ad199.add ((x6_1).toNat * 8)).block, (ad199.add ((x6_1).toNat * 8)).off + 7, none⟩ = some (.int .i64 ((rd_T68 l0 x6_1).f2))) (ds := []) #[F,F,F,F,F,F,F,F,F,F,F,F,F,F,F,F] (by kernel_rfl) rfl rfl ⟨hx201_0, ((HB.out.cell (bq w _ hw202_0)).trans hw202_0), ((HB.out.cell (bq w _ hw202_1)).trans hw202_1), ((HB.out.cell (bq w _ hw202_2)).trans hw202_2), ((HB.out.cell (bq w _ hw202_3)).trans hw202_3), ((HB.out.cell (bq w _ hw202_4)).trans hw202_4), ((HB.out.cell (bq w _ hw202_5)).trans hw202_5), ((HB.out.cell (bq w _ hw202_6)).trans hw202_6), ((HB.out.cell (bq w _ hw202_7)).trans hw202_7)⟩ (fun hHeld => ?_); refine with_tabW r_Sources.tab7 r_Sources.bits7 (fun HT_ HW_ => ?_)
         generalize wr.drew = w19 at HO_5 BK195 HB hx201_0 hx202_0 hx202_1 hx202_2 hx202_3 hx202_4 hx202_5 hx202_6 hx202_7 hHeld ⊢
         refine pu (i := 0) (N := some 23) (fl 16 1 []) HT_ ?_
         refine pu (i := 1) (N := some 24) (fl 16 2 []) HT_ ?_
         refine pu (i := 2) (N := some 25) (fl 16 3 []) HT_ ?_
         refine pu (i := 3) (N := some 26) (fl 16 4 []) HT_ ?_
         refine pu (i := 4) (N := some 27) (fl 16 5 []) HT_ ?_
         refine pu (i := 5) (N := some 28) (fl 16 6 []) HT_ ?_
         refine pu (i := 6) (N := some 29) (fl 16 7 []) HT_ ?_
         refine pu (i := 7) (N := some 30) (fl 16 8 []) HT_ ?_
         refine pu (i := 9) (N := some 32) (fl 16 8 [9]) HT_ ?_
         refine pu (i := 10) (N := some 33) (fl 16 8 [9, 10]) HT_ ?_
         refine pu (i := 11) (N := some 34) (fl 16 8 [9, 10, 11]) HT_ ?_
         refine pu (i := 12) (N := some 35) (fl 16 8 [9, 10, 11, 12]) HT_ ?_
         refine tk (i := 8) (N := some 31) (fl 16 13 []) HT_ HW_ hHeld ?_
         refine tk (i := 13) (N := some 36) (fl 16 14 []) HT_ HW_ hHeld ?_
         refine pu (i := 14) (N := some 37) (fl 16 15 []) HT_ ?_
         refine pu (i := 15) (N := some 38) (fl 16 16 []) HT_ ?_
         refine done_ (done_of HT_.out (by kernel_rfl)) ?_
         try go_wp2
         go_roundg k2
         case measure => have := HK1.out; have := HK2.out; omega
         case rel => exact ⟨(wrap64 (x7_2 + 1)), sqD, H', ⟨by have := HK1.out; have := HK2.out; omega⟩, ⟨by (with_reducible repeat (first | apply Kd.V_alloc | apply Kd.V_drewN | apply Kd.V_drew)); exact HO_5.out⟩, ⟨fb BK195.out⟩, ⟨fW HB.out⟩⟩
        rw [if_neg c18] at H
        have c18b0 : (Op.bytesLess ((rdOf ByteArray.empty x5_1 x7_2).toList) (((rd_T68 l0 x6_1).f0).toList)) = false := by simpa using c18
        clear c18
        have H' := am H
        clear H
        try go_wp2
        have n0_ := am (Kd.V_drew HO_5.out)
        have n1_ := am (blk_drew BK195.out)
        have n2_ := am (wd HB.out)
        clear HO_5 BK195 HB
        have HO_5 := n0_
        have BK195 := n1_
        have HB := n2_
        clear n0_ n1_ n2_
        obtain ⟨Ao22, co22, eo22⟩ := Kd.V_slice HO_5.out
        (first | subst eo22 | (injection eo22 with f1_ f2_ f3_; have f4_ := f1_.symm; have f5_ := f3_.symm; clear f1_ f2_ f3_; subst f4_; subst f5_))
        have p201 : 0 ≤ (x7_2 : Int) := of_decide_eq_true (by assumption)
        have q201 : x7_2 < (x5_1.length : Int) := of_decide_eq_true (by assumption)
        obtain ⟨ad201, e201, hx201_0⟩ := Kd.at_string (Kd.V_reads' HO_5.out).2.2 x7_2 p201 q201
        cases e201
        replace p201 := eq_true p201
        replace q201 := eq_true q201
        have p202 : 0 ≤ (x6_1 : Int) := of_decide_eq_true (by assumption)
        have q202 : x6_1 < (l0.length : Int) := of_decide_eq_true (by assumption)
        obtain ⟨ad202, e202, hx202_0, hx202_1, hx202_2, hx202_3, hx202_4, hx202_5, hx202_6, hx202_7⟩ := at_T68 HR0.out x6_1 p202 q202
        have hw202_7 := hx202_7
        have hw202_6 := hx202_6
        have hw202_5 := hx202_5
        have hw202_4 := hx202_4
        have hw202_3 := hx202_3
        have hw202_2 := hx202_2
        have hw202_1 := hx202_1
        have hw202_0 := hx202_0
        obtain rfl : ad199 = ad202 := (by injection e202)
        replace hx202_0 := cl HB hx202_0
        replace hx202_1 := cl HB hx202_1
        replace hx202_2 := cl HB hx202_2
        replace hx202_3 := cl HB hx202_3
        replace hx202_4 := cl HB hx202_4
        replace hx202_5 := cl HB hx202_5
        replace hx202_6 := cl HB hx202_6
        replace hx202_7 := cl HB hx202_7
        replace p202 := eq_true p202
        replace q202 := eq_true q202
        refine start_ (n := 16) (S := fun w' => w'.cell? (ad201.add (x7_2).toNat) = some (.string (rdOf ByteArray.empty x5_1 x7_2)) ∧ w'.cell? (ad199.add ((x6_1).toNat * 8)) = some (.string ((rd_T68 l0 x6_1).f0)) ∧ w'.cell? ⟨(ad199.add ((x6_1).toNat * 8)).block, (ad199.add ((x6_1).toNat * 8)).off + 1, none⟩ = some (.int .i64 ((rd_T68 l0 x6_1).f1.f0.f0)) ∧ w'.cell? ⟨(ad199.add ((x6_1).toNat * 8)).block, (ad199.add ((x6_1).toNat * 8)).off + 2, none⟩ = some (.int .i64 ((rd_T68 l0 x6_1).f1.f0.f1)) ∧ w'.cell? ⟨(ad199.add ((x6_1).toNat * 8)).block, (ad199.add ((x6_1).toNat * 8)).off + 3, none⟩ = some (.int .i64 ((rd_T68 l0 x6_1).f1.f0.f2)) ∧ w'.cell? ⟨(ad199.add ((x6_1).toNat * 8)).block, (ad199.add ((x6_1).toNat * 8)).off + 4, none⟩ = some (.int .i64 ((rd_T68 l0 x6_1).f1.f1.f0)) ∧ w'.cell? ⟨(ad199.add ((x6_1).toNat * 8)).block, (ad199.add ((x6_1).toNat * 8)).off + 5, none⟩ = some (.int .i64 ((rd_T68 l0 x6_1).f1.f1.f1)) ∧ w'.cell? ⟨(ad199.add ((x6_1).toNat * 8)).block, (ad199.add ((x6_1).toNat * 8)).off + 6, none⟩ = some (.int .i64 ((rd_T68 l0 x6_1).f1.f1.f2)) ∧ w'.cell? ⟨(ad199.add ((x6_1).toNat * 8)).block, (ad199.add ((x6_1).toNat * 8)).off + 7, none⟩ = some (.int .i64 ((rd_T68 l0 x6_1).f2))) (ds := []) #[F,F,F,F,F,F,F,F,F,F,F,F,F,F,F,F] (by kernel_rfl) rfl rfl ⟨hx201_0, ((HB.out.cell (bq w _ hw202_0)).trans hw202_0), ((HB.out.cell (bq w _ hw202_1)).trans hw202_1), ((HB.out.cell (bq w _ hw202_2)).trans hw202_2), ((HB.out.cell (bq w _ hw202_3)).trans hw202_3), ((HB.out.cell (bq w _ hw202_4)).trans hw202_4), ((HB.out.cell (bq w _ hw202_5)).trans hw202_5), ((HB.out.cell (bq w _ hw202_6)).trans hw202_6), ((HB.out.cell (bq w _ hw202_7)).trans hw202_7)⟩ (fun hHeld => ?_); refine with_tabW r_Sources.tab7 r_Sources.bits7 (fun HT_ HW_ => ?_)
        generalize wr.drew = w21 at HO_5 BK195 HB hx201_0 hx202_0 hx202_1 hx202_2 hx202_3 hx202_4 hx202_5 hx202_6 hx202_7 hHeld ⊢
        refine pu (i := 0) (N := some 23) (fl 16 1 []) HT_ ?_
        refine pu (i := 1) (N := some 24) (fl 16 2 []) HT_ ?_
        refine pu (i := 2) (N := some 25) (fl 16 3 []) HT_ ?_
        refine pu (i := 3) (N := some 26) (fl 16 4 []) HT_ ?_
        refine pu (i := 4) (N := some 27) (fl 16 5 []) HT_ ?_
        refine pu (i := 5) (N := some 28) (fl 16 6 []) HT_ ?_
        refine pu (i := 6) (N := some 29) (fl 16 7 []) HT_ ?_
        refine pu (i := 7) (N := some 30) (fl 16 8 []) HT_ ?_
        refine pu (i := 9) (N := some 32) (fl 16 8 [9]) HT_ ?_
        refine pu (i := 10) (N := some 33) (fl 16 8 [9, 10]) HT_ ?_
        refine pu (i := 11) (N := some 34) (fl 16 8 [9, 10, 11]) HT_ ?_
        refine pu (i := 12) (N := some 35) (fl 16 8 [9, 10, 11, 12]) HT_ ?_
        refine tk (i := 8) (N := some 31) (fl 16 13 []) HT_ HW_ hHeld ?_
        refine tk (i := 13) (N := some 36) (fl 16 14 []) HT_ HW_ hHeld ?_
        refine pu (i := 14) (N := some 37) (fl 16 15 []) HT_ ?_
        refine pu (i := 15) (N := some 38) (fl 16 16 []) HT_ ?_
        refine done_ (done_of HT_.out (by kernel_rfl)) ?_
        try go_wp2
        go_meet
        case rel => exact ⟨_, (x7_2), sqD, H', ⟨by have := HK1.out; have := HK2.out; first | omega | exact Nat.le_refl _⟩, ⟨by (with_reducible repeat (first | apply Kd.V_alloc | apply Kd.V_drewN | apply Kd.V_drew)); exact HO_5.out⟩, ⟨fb BK195.out⟩, ⟨fW HB.out⟩⟩
     case rest =>
      clear HC11
      try clear c1;try clear p1;try clear q1;try clear hx1;try clear p2;try clear q2;try clear hx2;try clear c4;try clear c6;try clear c6b0;try clear p6;try clear c8;try clear c8b0;try clear c10;try clear c14;try clear c14b0;try clear c15;try clear c15b0;try clear c16;try clear c16b0;try clear c17;try clear c17b0;try clear c18;try clear c18b0;try clear p19;try clear q19;try clear hx19;try clear p20;try clear q20;try clear hx20;try clear hx199_0;try clear hx199_1;try clear hx199_2;try clear hx199_3;try clear hx199_4;try clear hx199_5;try clear hx199_6;try clear hx199_7;try clear hx201_0;try clear hx202_0;try clear hx202_1;try clear hx202_2;try clear hx202_3;try clear hx202_4;try clear hx202_5;try clear hx202_6;try clear hx202_7;try clear p1;try clear p199;try clear p2;try clear p201;try clear p202;try clear q1;try clear q199;try clear q201;try clear q202
      obtain ⟨kq, x7_10, rfl, HA, HJ10, HO_5, BK195, HB⟩ := hcut
      cases kq with
      | zero => exact absurd HA.out (by simp [r_Sources.j2])
      | succ kj10 =>
       have H := HA.out
       clear HA
       simp only [r_Sources.j2] at H
       by_cases c25 : x7_10 = (x5_1.length : Int)
       ·rw [if_pos c25] at H
        have c25b0 : (x7_10 == (x5_1.length : Int)) = true := beq_iff_eq.mpr c25
        have c25b1 : (x7_10 != (x5_1.length : Int)) = false := bne_eq_false_iff_eq.mpr c25
        clear c25
        obtain ⟨y205, hy205⟩ : ∃ y_ : List ByteArray, y_ = (([] : List ByteArray)) := ⟨_, rfl⟩
        replace H : (if 0 ≤ x7_10 then (if x7_10 ≤ (x5_1.length : Int) then ((some (x5_1.take (x7_10 : Int).toNat : List ByteArray)).bind fun y208 => (if y205.length + y208.length < 8796093022208 then ((some (y205 ++ y208 : List ByteArray)).bind fun y213 => (if 0 ≤ x6_1 then (if x6_1 < (l0.length : Int) then ((some (([(rd_T68 l0 x6_1).f0] : List ByteArray) : List ByteArray)).bind fun y217 => (if y213.length + y217.length < 8796093022208 then ((some (y213 ++ y217 : List ByteArray)).bind fun y220 => ((some (x5_1.drop (x7_10 : Int).toNat : List ByteArray)).bind fun y223 => (if y220.length + y223.length < 8796093022208 then (r_Sources.j3 kj10 l0 (y220 ++ y223) x6_1 a1_0 a1_1 a1_2) else (none)))) else (none))) else (none)) else (none))) else (none))) else (none)) else (none)) = some r := by first | (rw [hy205]; with_reducible exact H) | (have H2_ := (Option.bind_some _ _).symm.trans H; rw [hy205]; with_reducible exact H2_) | (have H2_ := (Option.bind_some _ _).symm.trans H; with_reducible exact H2_) | with_reducible exact H | (rw [hy205]; exact H) | exact H
        have Ny205 := am hy205
        clear hy205
        by_cases c26 : 0 ≤ x7_10
        rotate_left
        ·rw [if_neg c26] at H
         exact absurd H (by simp)
        rw [if_pos c26] at H
        have c26b0 := eq_true c26
        have c26b1 : decide (0 ≤ x7_10) = true := decide_eq_true c26
        clear c26
        by_cases c27 : x7_10 ≤ (x5_1.length : Int)
        rotate_left
        ·rw [if_neg c27] at H
         exact absurd H (by simp)
        rw [if_pos c27] at H
        have c27b0 := eq_true c27
        have c27b1 : decide (x7_10 ≤ (x5_1.length : Int)) = true := decide_eq_true c27
        clear c27
        obtain ⟨y208, hy208⟩ : ∃ y_ : List ByteArray, y_ = (x5_1.take (x7_10 : Int).toNat) := ⟨_, rfl⟩
        replace H : (if y205.length + y208.length < 8796093022208 then ((some (y205 ++ y208 : List ByteArray)).bind fun y213 => (if 0 ≤ x6_1 then (if x6_1 < (l0.length : Int) then ((some (([(rd_T68 l0 x6_1).f0] : List ByteArray) : List ByteArray)).bind fun y217 => (if y213.length + y217.length < 8796093022208 then ((some (y213 ++ y217 : List ByteArray)).bind fun y220 => ((some (x5_1.drop (x7_10 : Int).toNat : List ByteArray)).bind fun y223 => (if y220.length + y223.length < 8796093022208 then (r_Sources.j3 kj10 l0 (y220 ++ y223) x6_1 a1_0 a1_1 a1_2) else (none)))) else (none))) else (none)) else (none))) else (none)) = some r := by first | (rw [hy208]; with_reducible exact H) | (have H2_ := (Option.bind_some _ _).symm.trans H; rw [hy208]; with_reducible exact H2_) | (have H2_ := (Option.bind_some _ _).symm.trans H; with_reducible exact H2_) | with_reducible exact H | (rw [hy208]; exact H) | exact H
        have Ny208 := am hy208
        clear hy208
        by_cases c28 : y205.length + y208.length < 8796093022208
        rotate_left
        ·rw [if_neg c28] at H
         exact absurd H (by simp)
        rw [if_pos c28] at H
        have LMc28 := am c28
        clear c28
        obtain ⟨y213, hy213⟩ : ∃ y_ : List ByteArray, y_ = (y205 ++ y208) := ⟨_, rfl⟩
        replace H : (if 0 ≤ x6_1 then (if x6_1 < (l0.length : Int) then ((some (([(rd_T68 l0 x6_1).f0] : List ByteArray) : List ByteArray)).bind fun y217 => (if y213.length + y217.length < 8796093022208 then ((some (y213 ++ y217 : List ByteArray)).bind fun y220 => ((some (x5_1.drop (x7_10 : Int).toNat : List ByteArray)).bind fun y223 => (if y220.length + y223.length < 8796093022208 then (r_Sources.j3 kj10 l0 (y220 ++ y223) x6_1 a1_0 a1_1 a1_2) else (none)))) else (none))) else (none)) else (none)) = some r := by first | (rw [hy213]; with_reducible exact H) | (have H2_ := (Option.bind_some _ _).symm.trans H; rw [hy213]; with_reducible exact H2_) | (have H2_ := (Option.bind_some _ _).symm.trans H; with_reducible exact H2_) | with_reducible exact H | (rw [hy213]; exact H) | exact H
        have Ny213 := am hy213
        clear hy213
        by_cases c29 : 0 ≤ x6_1
        rotate_left
        ·rw [if_neg c29] at H
         exact absurd H (by simp)
        rw [if_pos c29] at H
        have c29b0 : decide (0 ≤ x6_1) = true := decide_eq_true c29
        clear c29
        by_cases c30 : x6_1 < (l0.length : Int)
        rotate_left
        ·rw [if_neg c30] at H
         exact absurd H (by simp)
        rw [if_pos c30] at H
        have c30b0 : decide (x6_1 < (l0.length : Int)) = true := decide_eq_true c30
        clear c30
        obtain ⟨y217, hy217⟩ : ∃ y_ : List ByteArray, y_ = (([(rd_T68 l0 x6_1).f0] : List ByteArray)) := ⟨_, rfl⟩
        replace H : (if y213.length + y217.length < 8796093022208 then ((some (y213 ++ y217 : List ByteArray)).bind fun y220 => ((some (x5_1.drop (x7_10 : Int).toNat : List ByteArray)).bind fun y223 => (if y220.length + y223.length < 8796093022208 then (r_Sources.j3 kj10 l0 (y220 ++ y223) x6_1 a1_0 a1_1 a1_2) else (none)))) else (none)) = some r := by first | (rw [hy217]; with_reducible exact H) | (have H2_ := (Option.bind_some _ _).symm.trans H; rw [hy217]; with_reducible exact H2_) | (have H2_ := (Option.bind_some _ _).symm.trans H; with_reducible exact H2_) | with_reducible exact H | (rw [hy217]; exact H) | exact H
        have Ny217 := am hy217
        clear hy217
        by_cases c31 : y213.length + y217.length < 8796093022208
        rotate_left
        ·rw [if_neg c31] at H
         exact absurd H (by simp)
        rw [if_pos c31] at H
        have LMc31 := am c31
        clear c31
        obtain ⟨y220, hy220⟩ : ∃ y_ : List ByteArray, y_ = (y213 ++ y217) := ⟨_, rfl⟩
        replace H : ((some (x5_1.drop (x7_10 : Int).toNat : List ByteArray)).bind fun y223 => (if y220.length + y223.length < 8796093022208 then (r_Sources.j3 kj10 l0 (y220 ++ y223) x6_1 a1_0 a1_1 a1_2) else (none))) = some r := by first | (rw [hy220]; with_reducible exact H) | (have H2_ := (Option.bind_some _ _).symm.trans H; rw [hy220]; with_reducible exact H2_) | (have H2_ := (Option.bind_some _ _).symm.trans H; with_reducible exact H2_) | with_reducible exact H | (rw [hy220]; exact H) | exact H
        have Ny220 := am hy220
        clear hy220
        have c32b0 := eq_true (of_decide_eq_true (by assumption) : 0 ≤ x7_10)
        have c33b0 := eq_true (of_decide_eq_true (by assumption) : x7_10 ≤ (x5_1.length : Int))
        obtain ⟨y223, hy223⟩ : ∃ y_ : List ByteArray, y_ = (x5_1.drop (x7_10 : Int).toNat) := ⟨_, rfl⟩
        replace H : (if y220.length + y223.length < 8796093022208 then (r_Sources.j3 kj10 l0 (y220 ++ y223) x6_1 a1_0 a1_1 a1_2) else (none)) = some r := by first | (rw [hy223]; with_reducible exact H) | (have H2_ := (Option.bind_some _ _).symm.trans H; rw [hy223]; with_reducible exact H2_) | (have H2_ := (Option.bind_some _ _).symm.trans H; with_reducible exact H2_) | with_reducible exact H | (rw [hy223]; exact H) | exact H
        have Ny223 := am hy223
        clear hy223
        by_cases c34 : y220.length + y223.length < 8796093022208
        rotate_left
        ·rw [if_neg c34] at H
         exact absurd H (by simp)
        rw [if_pos c34] at H
        have LMc34 := am c34
        clear c34
        obtain ⟨y228, hy228⟩ : ∃ y_ : List ByteArray, y_ = (y220 ++ y223) := ⟨_, rfl⟩
        replace H : (r_Sources.j3 kj10 l0 y228 x6_1 a1_0 a1_1 a1_2) = some r := by first | (rw [hy228]; with_reducible exact H) | (have H2_ := (Option.bind_some _ _).symm.trans H; rw [hy228]; with_reducible exact H2_) | (have H2_ := (Option.bind_some _ _).symm.trans H; with_reducible exact H2_) | with_reducible exact H | (rw [hy228]; exact H) | exact H
        have Ny228 := am hy228
        clear hy228
        have H' := am H
        clear H
        try go_wp2
        have n0_ := am (Kd.V_drew HO_5.out)
        have n1_ := am (blk_drew BK195.out)
        have n2_ := am (wd HB.out)
        clear HO_5 BK195 HB
        have HO_5 := n0_
        have BK195 := n1_
        have HB := n2_
        clear n0_ n1_ n2_
        obtain ⟨Ao36, co36, eo36⟩ := Kd.V_slice HO_5.out
        (first | subst eo36 | (injection eo36 with f1_ f2_ f3_; have f4_ := f1_.symm; have f5_ := f3_.symm; clear f1_ f2_ f3_; subst f4_; subst f5_))
        refine start_ (n := 16) (S := fun w' => True) (ds := []) #[F,F,F,F,F,F,F,F,F,F,F,F,F,F,F,F] (by kernel_rfl) rfl rfl trivial (fun hHeld => ?_); refine with_tabW r_Sources.tab9 r_Sources.bits9 (fun HT_ HW_ => ?_)
        generalize wc.drew = w35 at HO_5 BK195 HB hHeld ⊢
        refine pu (i := 0) (N := some 41) (fl 16 1 []) HT_ ?_
        refine pu (i := 1) (N := some 42) (fl 16 2 []) HT_ ?_
        refine pu (i := 2) (N := some 43) (fl 16 3 []) HT_ ?_
        refine pu (i := 3) (N := some 44) (fl 16 4 []) HT_ ?_
        refine pu (i := 4) (N := some 45) (fl 16 5 []) HT_ ?_
        refine pure_ (i := 5) (N := some 46) (v := undef) (a' := ?_) #[T,T,T,T,T,T,F,F,F,F,F,F,F,F,F,F] rfl rfl (any_of HT_.out (by kernel_rfl)) (fun _ _ _ h => h) (Or.inr ⟨by rfl, rfl⟩) ?_ ?_
        rotate_left
        ·simp only [Act.put, psl, i64_w, i32_w]
         rfl
        refine pure_ (i := 6) (N := some 47) (v := undef) (a' := ?_) #[T,T,T,T,T,T,T,F,F,F,F,F,F,F,F,F] rfl rfl (any_of HT_.out (by kernel_rfl)) (fun _ _ _ h => h) (Or.inr ⟨by rfl, rfl⟩) ?_ ?_
        rotate_left
        ·simp only [Act.put, psl, i64_w, i32_w]
         rfl
        refine pure_ (i := 7) (N := some 48) (v := undef) (a' := ?_) #[T,T,T,T,T,T,T,T,F,F,F,F,F,F,F,F] rfl rfl (any_of HT_.out (by kernel_rfl)) (fun _ _ _ h => h) (Or.inr ⟨by rfl, rfl⟩) ?_ ?_
        rotate_left
        ·simp only [Act.put, psl, i64_w, i32_w]
         rfl
        refine pure_ (i := 8) (N := some 49) (v := undef) (a' := ?_) #[T,T,T,T,T,T,T,T,T,F,F,F,F,F,F,F] rfl rfl (any_of HT_.out (by kernel_rfl)) (fun _ _ _ h => h) (Or.inr ⟨by rfl, rfl⟩) ?_ ?_
        rotate_left
        ·simp only [Act.put, psl, i64_w, i32_w]
         rfl
        refine pure_ (i := 9) (N := some 50) (v := undef) (a' := ?_) #[T,T,T,T,T,T,T,T,T,T,F,F,F,F,F,F] rfl rfl (any_of HT_.out (by kernel_rfl)) (fun _ _ _ h => h) (Or.inr ⟨by rfl, rfl⟩) ?_ ?_
        rotate_left
        ·simp only [Act.put, psl, i64_w, i32_w]
         rfl
        refine pure_ (i := 10) (N := some 51) (v := undef) (a' := ?_) #[T,T,T,T,T,T,T,T,T,T,T,F,F,F,F,F] rfl rfl (any_of HT_.out (by kernel_rfl)) (fun _ _ _ h => h) (Or.inr ⟨by rfl, rfl⟩) ?_ ?_
        rotate_left
        ·simp only [Act.put, psl, i64_w, i32_w]
         rfl
        refine pure_ (i := 11) (N := some 52) (v := undef) (a' := ?_) #[T,T,T,T,T,T,T,T,T,T,T,T,F,F,F,F] rfl rfl (any_of HT_.out (by kernel_rfl)) (fun _ _ _ h => h) (Or.inr ⟨by rfl, rfl⟩) ?_ ?_
        rotate_left
        ·simp only [Act.put, psl, i64_w, i32_w]
         rfl
        refine pure_ (i := 12) (N := some 53) (v := undef) (a' := ?_) #[T,T,T,T,T,T,T,T,T,T,T,T,T,F,F,F] rfl rfl (any_of HT_.out (by kernel_rfl)) (fun _ _ _ h => h) (Or.inr ⟨by rfl, rfl⟩) ?_ ?_
        rotate_left
        ·simp only [Act.put, psl, i64_w, i32_w]
         rfl
        refine pure_ (i := 13) (N := some 54) (v := undef) (a' := ?_) #[T,T,T,T,T,T,T,T,T,T,T,T,T,T,F,F] rfl rfl (any_of HT_.out (by kernel_rfl)) (fun _ _ _ h => h) (Or.inr ⟨by rfl, rfl⟩) ?_ ?_
        rotate_left
        ·simp only [Act.put, psl, i64_w, i32_w]
         rfl
        refine pure_ (i := 14) (N := some 55) (v := undef) (a' := ?_) #[T,T,T,T,T,T,T,T,T,T,T,T,T,T,T,F] rfl rfl (any_of HT_.out (by kernel_rfl)) (fun _ _ _ h => h) (Or.inr ⟨by rfl, rfl⟩) ?_ ?_
        rotate_left
        ·simp only [Act.put, psl, i64_w, i32_w]
         rfl
        refine pu (i := 15) (N := some 56) (fl 16 16 []) HT_ ?_
        refine done_ (done_of HT_.out (by kernel_rfl)) ?_
        try go_wp2
        have n0_ := am (Kd.V_drew HO_5.out)
        have n1_ := am (blk_drew BK195.out)
        have n2_ := am (wd HB.out)
        clear HO_5 BK195 HB
        have HO_5 := n0_
        have BK195 := n1_
        have HB := n2_
        clear n0_ n1_ n2_
        have q38 : (x7_10 : Int) ≤ ((x5_1.length : Int) : Int) := of_decide_eq_true (by assumption)
        obtain ⟨i038, hi038, _, hsz38, _⟩ := info_parts info9
        have hroom38 : x5_1.length ≤ co36 := (Kd.V_reads' HO_5.out).2.1
        have hC38 : Kd.F Kd.string _ _ Ao36 x5_1.length x5_1 := (Kd.V_at (base := w.heap.size) HO_5.out).2.2
        have hcut38 := cut_to (P := Try.prog) 31 9 .i64 Try.underlying31 hi038 Ao36 x5_1.length co36 x7_10 (of_decide_eq_true (by assumption)) q38 hroom38
        have hr38 := Kd.F_take (m := (x7_10 : Int).toNat) hC38 (by omega)
        have hy38 : y208.length = (x7_10 : Int).toNat := (by rw [Ny208.out, List.length_take]; omega)
        rw [← Ny208.out] at hr38
        rw [← hy38] at hcut38
        have HO212 := am (show Kd.V Kd.string 9 _ w.heap.size _ (.slice Ao36 y208.length co36) y208 from Kd.V_mk (by omega) hr38)
        have HC212 := am (show y208.length ≤ co36 from by omega)
        clear hr38 hC38 hroom38 hi038 hsz38
        have KY38 := am hy38
        clear hy38
        replace q38 := eq_true q38
        have p216 : 0 ≤ (x6_1 : Int) := of_decide_eq_true (by assumption)
        have q216 : x6_1 < (l0.length : Int) := of_decide_eq_true (by assumption)
        obtain ⟨ad216, e216, hx216_0, hx216_1, hx216_2, hx216_3, hx216_4, hx216_5, hx216_6, hx216_7⟩ := at_T68 HR0.out x6_1 p216 q216
        have hw216_7 := hx216_7
        have hw216_6 := hx216_6
        have hw216_5 := hx216_5
        have hw216_4 := hx216_4
        have hw216_3 := hx216_3
        have hw216_2 := hx216_2
        have hw216_1 := hx216_1
        have hw216_0 := hx216_0
        obtain rfl : ad199 = ad216 := (by injection e216)
        replace hx216_0 := cl HB hx216_0
        replace hx216_1 := cl HB hx216_1
        replace hx216_2 := cl HB hx216_2
        replace hx216_3 := cl HB hx216_3
        replace hx216_4 := cl HB hx216_4
        replace hx216_5 := cl HB hx216_5
        replace hx216_6 := cl HB hx216_6
        replace hx216_7 := cl HB hx216_7
        replace p216 := eq_true p216
        replace q216 := eq_true q216
        have q39 : (x7_10 : Int) ≤ ((x5_1.length : Int) : Int) := of_decide_eq_true (by assumption)
        obtain ⟨i039, hi039, _, hsz39, _⟩ := info_parts info9
        have hroom39 : x5_1.length ≤ co36 := (Kd.V_reads' HO_5.out).2.1
        have hC39 : Kd.F Kd.string _ _ Ao36 x5_1.length x5_1 := (Kd.V_at (base := w.heap.size) HO_5.out).2.2
        have q039 : (0 : Int) ≤ (x7_10 : Int) := of_decide_eq_true (by assumption)
        have hcut39 := cut_from (P := Try.prog) 31 9 .i64 Try.underlying31 hi039 1 hsz39 Ao36 x5_1.length co36 x7_10 q039 q39
        have hr39 := Kd.F_cut (m := (x7_10 : Int).toNat) (c := co36) hC39 (by omega) hroom39
        obtain ⟨A39, hA39⟩ : ∃ A1, A1 = (if co36 = (x7_10 : Int).toNat then Ao36 else (Ao36 : Option Addr).map (·.add ((x7_10 : Int).toNat * 1))) := ⟨_, rfl⟩
        obtain ⟨c39, hc39⟩ : ∃ c1, c1 = co36 - (x7_10 : Int).toNat := ⟨_, rfl⟩
        have hy39 : y223.length = x5_1.length - (x7_10 : Int).toNat := (by rw [Ny223.out, List.length_drop] <;> omega)
        rw [show (x5_1).drop (x7_10 : Int).toNat = y223 from Ny223.out.symm] at hr39
        replace hr39 : Kd.F Kd.string _ _ A39 y223.length y223 := (by rw [hA39]; exact hr39)
        rw [← hy39, ← hA39, ← hc39] at hcut39
        have HO227 := am (show Kd.V Kd.string 9 _ w.heap.size _ (.slice A39 y223.length c39) y223 from Kd.V_mk (by rw [hy39, hc39]; exact Nat.sub_le_sub_right hroom39 _) hr39)
        have HC227 := am (show y223.length ≤ c39 from by rw [hy39, hc39]; exact Nat.sub_le_sub_right hroom39 _)
        clear hr39 hC39 hroom39 hi039 hsz39 hc39
        have KY39 := am hy39
        have KA39 := am hA39
        clear hy39 hA39
        replace q39 := eq_true q39
        refine start_ (n := 17) (S := fun w' => w'.cell? (ad199.add ((x6_1).toNat * 8)) = some (.string ((rd_T68 l0 x6_1).f0)) ∧ w'.cell? ⟨(ad199.add ((x6_1).toNat * 8)).block, (ad199.add ((x6_1).toNat * 8)).off + 1, none⟩ = some (.int .i64 ((rd_T68 l0 x6_1).f1.f0.f0)) ∧ w'.cell? ⟨(ad199.add ((x6_1).toNat * 8)).block, (ad199.add ((x6_1).toNat * 8)).off + 2, none⟩ = some (.int .i64 ((rd_T68 l0 x6_1).f1.f0.f1)) ∧ w'.cell? ⟨(ad199.add ((x6_1).toNat * 8)).block, (ad199.add ((x6_1).toNat * 8)).off + 3, none⟩ = some (.int .i64 ((rd_T68 l0 x6_1).f1.f0.f2)) ∧ w'.cell? ⟨(ad199.add ((x6_1).toNat * 8)).block, (ad199.add ((x6_1).toNat * 8)).off + 4, none⟩ = some (.int .i64 ((rd_T68 l0 x6_1).f1.f1.f0)) ∧ w'.cell? ⟨(ad199.add ((x6_1).toNat * 8)).block, (ad199.add ((x6_1).toNat * 8)).off + 5, none⟩ = some (.int .i64 ((rd_T68 l0 x6_1).f1.f1.f1)) ∧ w'.cell? ⟨(ad199.add ((x6_1).toNat * 8)).block, (ad199.add ((x6_1).toNat * 8)).off + 6, none⟩ = some (.int .i64 ((rd_T68 l0 x6_1).f1.f1.f2)) ∧ w'.cell? ⟨(ad199.add ((x6_1).toNat * 8)).block, (ad199.add ((x6_1).toNat * 8)).off + 7, none⟩ = some (.int .i64 ((rd_T68 l0 x6_1).f2))) (ds := []) #[F,F,F,F,F,F,F,F,F,F,F,F,F,F,F,F,F] (by kernel_rfl) rfl rfl ⟨((HB.out.cell (bq w _ hw216_0)).trans hw216_0), ((HB.out.cell (bq w _ hw216_1)).trans hw216_1), ((HB.out.cell (bq w _ hw216_2)).trans hw216_2), ((HB.out.cell (bq w _ hw216_3)).trans hw216_3), ((HB.out.cell (bq w _ hw216_4)).trans hw216_4), ((HB.out.cell (bq w _ hw216_5)).trans hw216_5), ((HB.out.cell (bq w _ hw216_6)).trans hw216_6), ((HB.out.cell (bq w _ hw216_7)).trans hw216_7)⟩ (fun hHeld => ?_); refine with_tabW r_Sources.tab10 r_Sources.bits10 (fun HT_ HW_ => ?_)
        generalize w35.drew = w37 at HO_5 BK195 HB HO212 HO227 hx216_0 hx216_1 hx216_2 hx216_3 hx216_4 hx216_5 hx216_6 hx216_7 hHeld ⊢
        refine pu (i := 1) (N := some 58) (fl 17 0 [1]) HT_ ?_
        refine pu (i := 2) (N := some 59) (fl 17 0 [1, 2]) HT_ ?_
        refine pu (i := 3) (N := some 60) (fl 17 0 [1, 2, 3]) HT_ ?_
        refine pu (i := 5) (N := some 62) (fl 17 0 [1, 2, 3, 5]) HT_ ?_
        refine pu (i := 6) (N := some 63) (fl 17 0 [1, 2, 3, 5, 6]) HT_ ?_
        refine pu (i := 7) (N := some 64) (fl 17 0 [1, 2, 3, 5, 6, 7]) HT_ ?_
        refine pu (i := 8) (N := some 65) (fl 17 0 [1, 2, 3, 5, 6, 7, 8]) HT_ ?_
        refine pu (i := 12) (N := some 69) (fl 17 0 [1, 2, 3, 5, 6, 7, 8, 12]) HT_ ?_
        refine pu (i := 13) (N := some 70) (fl 17 0 [1, 2, 3, 5, 6, 7, 8, 12, 13]) HT_ ?_
        refine pu (i := 14) (N := some 71) (fl 17 0 [1, 2, 3, 5, 6, 7, 8, 12, 13, 14]) HT_ ?_
        refine tk (i := 9) (N := some 66) (fl 17 0 [1, 2, 3, 5, 6, 7, 8, 9, 12, 13, 14]) HT_ HW_ hHeld ?_
        refine join_ (σ := Value × Value × Value) 3 #[T,T,T,T,T,T,T,T,T,T,T,F,T,T,T,F,F] (fun s_ => [(57, s_.1), (61, s_.2.1), (67, s_.2.2)]) (fun s_ w' => (w'.cell? (ad199.add ((x6_1).toNat * 8)) = some (.string ((rd_T68 l0 x6_1).f0)) ∧ w'.cell? ⟨(ad199.add ((x6_1).toNat * 8)).block, (ad199.add ((x6_1).toNat * 8)).off + 1, none⟩ = some (.int .i64 ((rd_T68 l0 x6_1).f1.f0.f0)) ∧ w'.cell? ⟨(ad199.add ((x6_1).toNat * 8)).block, (ad199.add ((x6_1).toNat * 8)).off + 2, none⟩ = some (.int .i64 ((rd_T68 l0 x6_1).f1.f0.f1)) ∧ w'.cell? ⟨(ad199.add ((x6_1).toNat * 8)).block, (ad199.add ((x6_1).toNat * 8)).off + 3, none⟩ = some (.int .i64 ((rd_T68 l0 x6_1).f1.f0.f2)) ∧ w'.cell? ⟨(ad199.add ((x6_1).toNat * 8)).block, (ad199.add ((x6_1).toNat * 8)).off + 4, none⟩ = some (.int .i64 ((rd_T68 l0 x6_1).f1.f1.f0)) ∧ w'.cell? ⟨(ad199.add ((x6_1).toNat * 8)).block, (ad199.add ((x6_1).toNat * 8)).off + 5, none⟩ = some (.int .i64 ((rd_T68 l0 x6_1).f1.f1.f1)) ∧ w'.cell? ⟨(ad199.add ((x6_1).toNat * 8)).block, (ad199.add ((x6_1).toNat * 8)).off + 6, none⟩ = some (.int .i64 ((rd_T68 l0 x6_1).f1.f1.f2)) ∧ w'.cell? ⟨(ad199.add ((x6_1).toNat * 8)).block, (ad199.add ((x6_1).toNat * 8)).off + 7, none⟩ = some (.int .i64 ((rd_T68 l0 x6_1).f2))) ∧ (Kd.V Kd.string 9 w' w.heap.size (fun k_ => (w.heap.size ≤ k_) ∧ some k_ ≠ (s_.2.1 : Value).ownBlock ∧ some k_ ≠ (s_.2.2 : Value).ownBlock ∧ k_ ≠ gb195) (.slice Ao36 y208.length co36) y208) ∧ (Kd.R Kd.string 9 w' w.heap.size (fun k_ => (w.heap.size ≤ k_) ∧ some k_ ≠ (s_.2.2 : Value).ownBlock) s_.2.1 y213) ∧ (Kd.R Kd.string 9 w' w.heap.size (fun k_ => (w.heap.size ≤ k_) ∧ some k_ ≠ (s_.2.1 : Value).ownBlock) s_.2.2 y217) ∧ (Kd.V Kd.string 9 w' w.heap.size (fun k_ => (w.heap.size ≤ k_) ∧ some k_ ≠ (s_.2.1 : Value).ownBlock ∧ some k_ ≠ (s_.2.2 : Value).ownBlock ∧ k_ ≠ gb195) (.slice A39 y223.length c39) y223) ∧ (Kd.V Kd.string 9 w' w.heap.size (fun k_ => (w.heap.size ≤ k_) ∧ some k_ ≠ (s_.2.1 : Value).ownBlock ∧ some k_ ≠ (s_.2.2 : Value).ownBlock ∧ k_ ≠ gb195) (.slice Ao36 x5_1.length co36) x5_1) ∧ (w'.heap[gb195]? = some (.cells #[.int .i64 a1_0, .int .i64 a1_1, .int .i64 a1_2] 24 (0, 0))) ∧ (Below w.heap.size w w')) ?_ ?_
        rotate_left
        ·intro hCont
         refine two_ (i := 0) (j := 10) (Ni := some 57) (Nj := some 67) #[T,T,T,T,F,T,T,T,T,T,F,F,T,T,T,F,F] (fl 17 0 [1, 2, 3, 5, 6, 7, 8, 9, 10, 12, 13, 14]) rfl rfl rfl rfl (two_of HT_.out (by kernel_rfl)) (by decide) (by decide) (fun K hK => ?_) (fun K hK => ?_)
         ·skip
          refine Kd.R_lit_step Kd.string _ 9 ?hg (N := 57) ?hd (xs := ([] : List ByteArray)) (inner := []) (ok := fun _ => True) (okp := fun _ => True) ?hr ?hp (fun _ hk => hk) trivial (Below.refl _ _) (Nat.le_refl _) (by simp) ?_; (case hd | hg => rfl); (case hr => first | (go_simp; done) | (go_simp; rfl)); (case hp => exact (Reps.none _ _))
          intro v206 w40 ho41 hb hg_ hnew_
          clear hg_ hnew_
          (first | rw [← Ny205.out] at ho41 | (simp only [Int.reduceToNat] at ho41; rw [← Ny205.out] at ho41))
          have n0_ := am (Kd.V_elder' (fV HO_5.out) (Kd.R_base ho41) hb)
          have n1_ := am (Kd.V_elder' (fV HO212.out) (Kd.R_base ho41) hb)
          have n2_ := am (Kd.V_elder' (fV HO227.out) (Kd.R_base ho41) hb)
          have n3_ := am (Kd.R_lower (Kd.R_newM (M := fun k_ => (w.heap.size ≤ k_)) ho41 (wz (fW HB.out)) (fun k_ h_ => h_)) (wz (fW HB.out)))
          have n4_ := bB BK195 hb
          have n5_ := bS HB hb
          clear HO_5 HO212 HO227 BK195 HB
          have HO_5 := n0_
          have HO212 := n1_
          have HO227 := n2_
          have HO207 := n3_
          have BK195 := n4_
          have HB := n5_
          clear n0_ n1_ n2_ n3_ n4_ n5_ hb ho41
          refine hK.out _ _ ⟨((HB.out.cell (bq w _ hw216_0)).trans hw216_0), ((HB.out.cell (bq w _ hw216_1)).trans hw216_1), ((HB.out.cell (bq w _ hw216_2)).trans hw216_2), ((HB.out.cell (bq w _ hw216_3)).trans hw216_3), ((HB.out.cell (bq w _ hw216_4)).trans hw216_4), ((HB.out.cell (bq w _ hw216_5)).trans hw216_5), ((HB.out.cell (bq w _ hw216_6)).trans hw216_6), ((HB.out.cell (bq w _ hw216_7)).trans hw216_7)⟩ (fun hHeld => ?_)
          clear hK K
          refine norm_ (a' := ?_) ?_ ?_
          rotate_left
          ·show Act.put _ (some 57) _ = _
           simp only [Act.put, psl, i64_w, i32_w]
           rfl
          refine two_ (i := 4) (j := 10) (Ni := some 61) (Nj := some 67) #[T,T,T,T,T,T,T,T,T,T,F,F,T,T,T,F,F] (fl 17 4 [5, 6, 7, 8, 9, 10, 12, 13, 14]) rfl rfl rfl rfl (two_of HT_.out (by kernel_rfl)) (by decide) (by decide) (fun K hK => ?_) (fun K hK => ?_)
          ·skip
           refine Kd.R_append_rows_step Kd.string (w0 := w) w.heap.size (by rfl) (.tmp 57) (.tmp 60) 31 9 (.string ⟨#[]⟩) 16 rfl Try.underlying31 info9 rfl (by decide) (by omega) v206 y205 y208 _ _ _ (fun k_ => (w.heap.size ≤ k_)) (fun _ => False) rfl rfl ?aO ?aR (fun _ _ h => h) (fun _ h => h.elim) ?aF ?aB ?aS ?aL ?_
           (case aR => repeat (first | exact (Kd.V_reads' HO212.out).2.2 | (with_reducible refine Kd.C_alloc ?_ _) | (with_reducible refine Kd.C_drewN ?_ _) | (with_reducible refine Kd.C_drew ?_)))
           (case aB => exact (fW HB.out))
           (case aF => exact (fun k_ hk => (Nat.le_trans (wz (fW HB.out)) hk)))
           (case aO => exact (by (with_reducible repeat (first | apply Kd.R_alloc | apply Kd.R_drewN | apply Kd.R_drew)); exact Kd.R_mono HO207.out (fun _ hk => hk.1)))
           (case aS => exact (wz (fW HB.out)))
           (case aL => have := LMc28.out; omega)
           intro v214 w42 ho hb hg hat
           rw [← Ny213.out] at ho
           have n0_ := am (Kd.V_afterv (ok := (fun k_ => (w.heap.size ≤ k_) ∧ k_ ≠ gb195)) (fV HO_5.out) hg hat)
           have n1_ := am (blk_grown (g := gb195) (o := .cells #[.int .i64 a1_0, .int .i64 a1_1, .int .i64 a1_2] 24 (0, 0)) (fb BK195.out) hg (Kd.R_ne HO207.out BK195.out (by decide)))
           have n2_ := am (Kd.V_afterv (ok := (fun k_ => (w.heap.size ≤ k_) ∧ k_ ≠ gb195)) (fV HO212.out) hg hat)
           have n3_ := am (Kd.V_afterv (ok := (fun k_ => (w.heap.size ≤ k_) ∧ k_ ≠ gb195)) (fV HO227.out) hg hat)
           have n4_ := am (hb)
           have n5_ := am (ho)
           clear HO_5 BK195 HO212 HO227 HB HO207
           have HO_5 := n0_
           have BK195 := n1_
           have HO212 := n2_
           have HO227 := n3_
           have HB := n4_
           have HO215 := n5_
           clear n0_ n1_ n2_ n3_ n4_ n5_ ho hb hg hat
           refine hK.out _ _ ⟨((HB.out.cell (bq w _ hw216_0)).trans hw216_0), ((HB.out.cell (bq w _ hw216_1)).trans hw216_1), ((HB.out.cell (bq w _ hw216_2)).trans hw216_2), ((HB.out.cell (bq w _ hw216_3)).trans hw216_3), ((HB.out.cell (bq w _ hw216_4)).trans hw216_4), ((HB.out.cell (bq w _ hw216_5)).trans hw216_5), ((HB.out.cell (bq w _ hw216_6)).trans hw216_6), ((HB.out.cell (bq w _ hw216_7)).trans hw216_7)⟩ (fun hHeld => ?_)
           clear hK K
           refine norm_ (a' := ?_) ?_ ?_
           rotate_left
           ·show Act.put _ (some 61) _ = _
            simp only [Act.put, psl, i64_w, i32_w]
            rfl
           refine one_ (i := 10) (N := some 67) (fl 17 11 [12, 13, 14]) rfl rfl (one_of HT_.out (by kernel_rfl)) (by decide) (fun K hK => ?_)
           refine Kd.R_lit_step Kd.string _ 9 ?hg (N := 67) ?hd (xs := ([(rd_T68 l0 x6_1).f0] : List ByteArray)) (inner := [.string ((rd_T68 l0 x6_1).f0)]) (ok := fun _ => True) (okp := fun _ => True) ?hr ?hp (fun _ hk => hk) trivial (Below.refl _ _) (Nat.le_refl _) (by simp) ?_; (case hd | hg => rfl); (case hr => first | (go_simp; done) | (go_simp; rfl)); (case hp => exact (Reps.one (show Kd.M Kd.string _ _ _ ((rd_T68 l0 x6_1).f0) [.string ((rd_T68 l0 x6_1).f0)] from rfl) (Reps.none _ _)))
           intro v218 w43 ho44 hb hg_ hnew_
           clear hg_ hnew_
           (first | rw [← Ny217.out] at ho44 | (simp only [Int.reduceToNat] at ho44; rw [← Ny217.out] at ho44))
           have n0_ := am (Kd.V_elder' (fV HO_5.out) (Kd.R_base ho44) hb)
           have n1_ := am (Kd.V_elder' (fV HO212.out) (Kd.R_base ho44) hb)
           have n2_ := am (Kd.V_elder' (fV HO227.out) (Kd.R_base ho44) hb)
           have n3_ := am (Kd.R_elder' (fR HO215.out) (Kd.R_base ho44) hb)
           have n4_ := am (Kd.R_lower (Kd.R_new' (Kd.R_newM (M := fun k_ => (w.heap.size ≤ k_)) ho44 (wz (fW HB.out)) (fun k_ h_ => h_)) (Kd.R_lt (fR HO215.out))) (wz (fW HB.out)))
           have n5_ := bB BK195 hb
           have n6_ := bS HB hb
           clear HO_5 HO212 HO227 HO215 BK195 HB
           have HO_5 := n0_
           have HO212 := n1_
           have HO227 := n2_
           have HO215 := n3_
           have HO219 := n4_
           have BK195 := n5_
           have HB := n6_
           clear n0_ n1_ n2_ n3_ n4_ n5_ n6_ hb ho44
           refine hK.out _ _ ⟨((HB.out.cell (bq w _ hw216_0)).trans hw216_0), ((HB.out.cell (bq w _ hw216_1)).trans hw216_1), ((HB.out.cell (bq w _ hw216_2)).trans hw216_2), ((HB.out.cell (bq w _ hw216_3)).trans hw216_3), ((HB.out.cell (bq w _ hw216_4)).trans hw216_4), ((HB.out.cell (bq w _ hw216_5)).trans hw216_5), ((HB.out.cell (bq w _ hw216_6)).trans hw216_6), ((HB.out.cell (bq w _ hw216_7)).trans hw216_7)⟩ (fun hHeld => ?_)
           clear hK K
           refine norm_ (a' := ?_) ?_ ?_
           rotate_left
           ·show Act.put _ (some 67) _ = _
            simp only [Act.put, psl, i64_w, i32_w]
            rfl
           exact norm_ (by simp only [putAll, Act.put, psl]) (hCont (v206, v214, v218) _ ⟨hHeld, (by (with_reducible repeat (first | apply Kd.V_alloc | apply Kd.V_drewN | apply Kd.V_drew)); exact Kd.V_mono HO212.out (fun _ hk => ⟨hk.1.1.1, ⟨hk.1.2, ⟨hk.2, hk.1.1.2⟩⟩⟩)), (fR HO215.out), (by (with_reducible repeat (first | apply Kd.R_alloc | apply Kd.R_drewN | apply Kd.R_drew)); exact Kd.R_mono HO219.out (fun _ hk => ⟨hk.1.1, hk.2⟩)), (by (with_reducible repeat (first | apply Kd.V_alloc | apply Kd.V_drewN | apply Kd.V_drew)); exact Kd.V_mono HO227.out (fun _ hk => ⟨hk.1.1.1, ⟨hk.1.2, ⟨hk.2, hk.1.1.2⟩⟩⟩)), (by (with_reducible repeat (first | apply Kd.V_alloc | apply Kd.V_drewN | apply Kd.V_drew)); exact Kd.V_mono HO_5.out (fun _ hk => ⟨hk.1.1.1, ⟨hk.1.2, ⟨hk.2, hk.1.1.2⟩⟩⟩)), (fb BK195.out), (fW HB.out)⟩)
          skip
          refine Kd.R_lit_step Kd.string _ 9 ?hg (N := 67) ?hd (xs := ([(rd_T68 l0 x6_1).f0] : List ByteArray)) (inner := [.string ((rd_T68 l0 x6_1).f0)]) (ok := fun _ => True) (okp := fun _ => True) ?hr ?hp (fun _ hk => hk) trivial (Below.refl _ _) (Nat.le_refl _) (by simp) ?_; (case hd | hg => rfl); (case hr => first | (go_simp; done) | (go_simp; rfl)); (case hp => exact (Reps.one (show Kd.M Kd.string _ _ _ ((rd_T68 l0 x6_1).f0) [.string ((rd_T68 l0 x6_1).f0)] from rfl) (Reps.none _ _)))
          intro v218 w42 ho43 hb hg_ hnew_
          clear hg_ hnew_
          (first | rw [← Ny217.out] at ho43 | (simp only [Int.reduceToNat] at ho43; rw [← Ny217.out] at ho43))
          have n0_ := am (Kd.V_elder' (fV HO_5.out) (Kd.R_base ho43) hb)
          have n1_ := am (Kd.V_elder' (fV HO212.out) (Kd.R_base ho43) hb)
          have n2_ := am (Kd.V_elder' (fV HO227.out) (Kd.R_base ho43) hb)
          have n3_ := am (Kd.R_elder' (fR HO207.out) (Kd.R_base ho43) hb)
          have n4_ := am (Kd.R_lower (Kd.R_new' (Kd.R_newM (M := fun k_ => (w.heap.size ≤ k_)) ho43 (wz (fW HB.out)) (fun k_ h_ => h_)) (Kd.R_lt (fR HO207.out))) (wz (fW HB.out)))
          have n5_ := bB BK195 hb
          have n6_ := bS HB hb
          clear HO_5 HO212 HO227 HO207 BK195 HB
          have HO_5 := n0_
          have HO212 := n1_
          have HO227 := n2_
          have HO207 := n3_
          have HO219 := n4_
          have BK195 := n5_
          have HB := n6_
          clear n0_ n1_ n2_ n3_ n4_ n5_ n6_ hb ho43
          refine hK.out _ _ ⟨((HB.out.cell (bq w _ hw216_0)).trans hw216_0), ((HB.out.cell (bq w _ hw216_1)).trans hw216_1), ((HB.out.cell (bq w _ hw216_2)).trans hw216_2), ((HB.out.cell (bq w _ hw216_3)).trans hw216_3), ((HB.out.cell (bq w _ hw216_4)).trans hw216_4), ((HB.out.cell (bq w _ hw216_5)).trans hw216_5), ((HB.out.cell (bq w _ hw216_6)).trans hw216_6), ((HB.out.cell (bq w _ hw216_7)).trans hw216_7)⟩ (fun hHeld => ?_)
          clear hK K
          refine norm_ (a' := ?_) ?_ ?_
          rotate_left
          ·show Act.put _ (some 67) _ = _
           simp only [Act.put, psl, i64_w, i32_w]
           rfl
          refine one_ (i := 4) (N := some 61) (fl 17 11 [12, 13, 14]) rfl rfl (one_of HT_.out (by kernel_rfl)) (by decide) (fun K hK => ?_)
          refine Kd.R_append_rows_step Kd.string (w0 := w) w.heap.size (by rfl) (.tmp 57) (.tmp 60) 31 9 (.string ⟨#[]⟩) 16 rfl Try.underlying31 info9 rfl (by decide) (by omega) v206 y205 y208 _ _ _ (fun k_ => (w.heap.size ≤ k_) ∧ some k_ ≠ (v218 : Value).ownBlock) (fun _ => False) rfl rfl ?aO ?aR (fun _ _ h => h) (fun _ h => h.elim) ?aF ?aB ?aS ?aL ?_
          (case aR => repeat (first | exact (Kd.V_reads' HO212.out).2.2 | (with_reducible refine Kd.C_alloc ?_ _) | (with_reducible refine Kd.C_drewN ?_ _) | (with_reducible refine Kd.C_drew ?_)))
          (case aB => exact (fW HB.out))
          (case aF => exact (fun k_ hk => ⟨(Nat.le_trans (wz (fW HB.out)) hk), Kd.fresh' (Kd.R_lt (fR HO219.out)) k_ hk⟩))
          (case aO => exact (by (with_reducible repeat (first | apply Kd.R_alloc | apply Kd.R_drewN | apply Kd.R_drew)); exact Kd.R_mono HO207.out (fun _ hk => ⟨hk.1.1, hk.2⟩)))
          (case aS => exact (wz (fW HB.out)))
          (case aL => have := LMc28.out; omega)
          intro v214 w44 ho hb hg hat
          rw [← Ny213.out] at ho
          have n0_ := am (Kd.V_afterv (ok := (fun k_ => (w.heap.size ≤ k_) ∧ some k_ ≠ (v218 : Value).ownBlock ∧ k_ ≠ gb195)) (by (with_reducible repeat (first | apply Kd.V_alloc | apply Kd.V_drewN | apply Kd.V_drew)); exact Kd.V_mono HO_5.out (fun _ hk => ⟨⟨hk.1.1.1, ⟨hk.2, hk.1.1.2⟩⟩, hk.1.2⟩)) hg hat)
          have n1_ := am (blk_grown (g := gb195) (o := .cells #[.int .i64 a1_0, .int .i64 a1_1, .int .i64 a1_2] 24 (0, 0)) (fb BK195.out) hg (Kd.R_ne HO207.out BK195.out (by decide)))
          have n2_ := am (Kd.V_afterv (ok := (fun k_ => (w.heap.size ≤ k_) ∧ some k_ ≠ (v218 : Value).ownBlock ∧ k_ ≠ gb195)) (by (with_reducible repeat (first | apply Kd.V_alloc | apply Kd.V_drewN | apply Kd.V_drew)); exact Kd.V_mono HO212.out (fun _ hk => ⟨⟨hk.1.1.1, ⟨hk.2, hk.1.1.2⟩⟩, hk.1.2⟩)) hg hat)
          have n3_ := am (Kd.V_afterv (ok := (fun k_ => (w.heap.size ≤ k_) ∧ some k_ ≠ (v218 : Value).ownBlock ∧ k_ ≠ gb195)) (by (with_reducible repeat (first | apply Kd.V_alloc | apply Kd.V_drewN | apply Kd.V_drew)); exact Kd.V_mono HO227.out (fun _ hk => ⟨⟨hk.1.1.1, ⟨hk.2, hk.1.1.2⟩⟩, hk.1.2⟩)) hg hat)
          have n4_ := am (Kd.R_after (ok := (fun k_ => (w.heap.size ≤ k_))) (by (with_reducible repeat (first | apply Kd.R_alloc | apply Kd.R_drewN | apply Kd.R_drew)); exact Kd.R_mono HO219.out (fun _ hk => ⟨hk.1.1, hk.2⟩)) hg hat)
          have n5_ := am (hb)
          have n6_ := am (ho)
          clear HO_5 BK195 HO212 HO227 HO219 HB HO207
          have HO_5 := n0_
          have BK195 := n1_
          have HO212 := n2_
          have HO227 := n3_
          have HO219 := n4_
          have HB := n5_
          have HO215 := n6_
          clear n0_ n1_ n2_ n3_ n4_ n5_ n6_ ho hb hg hat
          refine hK.out _ _ ⟨((HB.out.cell (bq w _ hw216_0)).trans hw216_0), ((HB.out.cell (bq w _ hw216_1)).trans hw216_1), ((HB.out.cell (bq w _ hw216_2)).trans hw216_2), ((HB.out.cell (bq w _ hw216_3)).trans hw216_3), ((HB.out.cell (bq w _ hw216_4)).trans hw216_4), ((HB.out.cell (bq w _ hw216_5)).trans hw216_5), ((HB.out.cell (bq w _ hw216_6)).trans hw216_6), ((HB.out.cell (bq w _ hw216_7)).trans hw216_7)⟩ (fun hHeld => ?_)
          clear hK K
          refine norm_ (a' := ?_) ?_ ?_
          rotate_left
          ·show Act.put _ (some 61) _ = _
           simp only [Act.put, psl, i64_w, i32_w]
           rfl
          exact norm_ (by simp only [putAll, Act.put, psl]) (hCont (v206, v214, v218) _ ⟨hHeld, (by (with_reducible repeat (first | apply Kd.V_alloc | apply Kd.V_drewN | apply Kd.V_drew)); exact Kd.V_mono HO212.out (fun _ hk => ⟨hk.1.1, ⟨hk.2, ⟨hk.1.2.1, hk.1.2.2⟩⟩⟩)), (fR HO215.out), (fR HO219.out), (by (with_reducible repeat (first | apply Kd.V_alloc | apply Kd.V_drewN | apply Kd.V_drew)); exact Kd.V_mono HO227.out (fun _ hk => ⟨hk.1.1, ⟨hk.2, ⟨hk.1.2.1, hk.1.2.2⟩⟩⟩)), (by (with_reducible repeat (first | apply Kd.V_alloc | apply Kd.V_drewN | apply Kd.V_drew)); exact Kd.V_mono HO_5.out (fun _ hk => ⟨hk.1.1, ⟨hk.2, ⟨hk.1.2.1, hk.1.2.2⟩⟩⟩)), (fb BK195.out), (fW HB.out)⟩)
         skip
         refine Kd.R_lit_step Kd.string _ 9 ?hg (N := 67) ?hd (xs := ([(rd_T68 l0 x6_1).f0] : List ByteArray)) (inner := [.string ((rd_T68 l0 x6_1).f0)]) (ok := fun _ => True) (okp := fun _ => True) ?hr ?hp (fun _ hk => hk) trivial (Below.refl _ _) (Nat.le_refl _) (by simp) ?_; (case hd | hg => rfl); (case hr => first | (go_simp; done) | (go_simp; rfl)); (case hp => exact (Reps.one (show Kd.M Kd.string _ _ _ ((rd_T68 l0 x6_1).f0) [.string ((rd_T68 l0 x6_1).f0)] from rfl) (Reps.none _ _)))
         intro v218 w40 ho41 hb hg_ hnew_
         clear hg_ hnew_
         (first | rw [← Ny217.out] at ho41 | (simp only [Int.reduceToNat] at ho41; rw [← Ny217.out] at ho41))
         have n0_ := am (Kd.V_elder' (fV HO_5.out) (Kd.R_base ho41) hb)
         have n1_ := am (Kd.V_elder' (fV HO212.out) (Kd.R_base ho41) hb)
         have n2_ := am (Kd.V_elder' (fV HO227.out) (Kd.R_base ho41) hb)
         have n3_ := am (Kd.R_lower (Kd.R_newM (M := fun k_ => (w.heap.size ≤ k_)) ho41 (wz (fW HB.out)) (fun k_ h_ => h_)) (wz (fW HB.out)))
         have n4_ := bB BK195 hb
         have n5_ := bS HB hb
         clear HO_5 HO212 HO227 BK195 HB
         have HO_5 := n0_
         have HO212 := n1_
         have HO227 := n2_
         have HO219 := n3_
         have BK195 := n4_
         have HB := n5_
         clear n0_ n1_ n2_ n3_ n4_ n5_ hb ho41
         refine hK.out _ _ ⟨((HB.out.cell (bq w _ hw216_0)).trans hw216_0), ((HB.out.cell (bq w _ hw216_1)).trans hw216_1), ((HB.out.cell (bq w _ hw216_2)).trans hw216_2), ((HB.out.cell (bq w _ hw216_3)).trans hw216_3), ((HB.out.cell (bq w _ hw216_4)).trans hw216_4), ((HB.out.cell (bq w _ hw216_5)).trans hw216_5), ((HB.out.cell (bq w _ hw216_6)).trans hw216_6), ((HB.out.cell (bq w _ hw216_7)).trans hw216_7)⟩ (fun hHeld => ?_)
         clear hK K
         refine norm_ (a' := ?_) ?_ ?_
         rotate_left
         ·show Act.put _ (some 67) _ = _
          simp only [Act.put, psl, i64_w, i32_w]
          rfl
         refine one_ (i := 0) (N := some 57) (fl 17 4 [5, 6, 7, 8, 9, 10, 12, 13, 14]) rfl rfl (one_of HT_.out (by kernel_rfl)) (by decide) (fun K hK => ?_)
         refine Kd.R_lit_step Kd.string _ 9 ?hg (N := 57) ?hd (xs := ([] : List ByteArray)) (inner := []) (ok := fun _ => True) (okp := fun _ => True) ?hr ?hp (fun _ hk => hk) trivial (Below.refl _ _) (Nat.le_refl _) (by simp) ?_; (case hd | hg => rfl); (case hr => first | (go_simp; done) | (go_simp; rfl)); (case hp => exact (Reps.none _ _))
         intro v206 w42 ho43 hb hg_ hnew_
         clear hg_ hnew_
         (first | rw [← Ny205.out] at ho43 | (simp only [Int.reduceToNat] at ho43; rw [← Ny205.out] at ho43))
         have n0_ := am (Kd.V_elder' (fV HO_5.out) (Kd.R_base ho43) hb)
         have n1_ := am (Kd.V_elder' (fV HO212.out) (Kd.R_base ho43) hb)
         have n2_ := am (Kd.V_elder' (fV HO227.out) (Kd.R_base ho43) hb)
         have n3_ := am (Kd.R_elder' (fR HO219.out) (Kd.R_base ho43) hb)
         have n4_ := am (Kd.R_lower (Kd.R_new' (Kd.R_newM (M := fun k_ => (w.heap.size ≤ k_)) ho43 (wz (fW HB.out)) (fun k_ h_ => h_)) (Kd.R_lt (fR HO219.out))) (wz (fW HB.out)))
         have n5_ := bB BK195 hb
         have n6_ := bS HB hb
         clear HO_5 HO212 HO227 HO219 BK195 HB
         have HO_5 := n0_
         have HO212 := n1_
         have HO227 := n2_
         have HO219 := n3_
         have HO207 := n4_
         have BK195 := n5_
         have HB := n6_
         clear n0_ n1_ n2_ n3_ n4_ n5_ n6_ hb ho43
         refine hK.out _ _ ⟨((HB.out.cell (bq w _ hw216_0)).trans hw216_0), ((HB.out.cell (bq w _ hw216_1)).trans hw216_1), ((HB.out.cell (bq w _ hw216_2)).trans hw216_2), ((HB.out.cell (bq w _ hw216_3)).trans hw216_3), ((HB.out.cell (bq w _ hw216_4)).trans hw216_4), ((HB.out.cell (bq w _ hw216_5)).trans hw216_5), ((HB.out.cell (bq w _ hw216_6)).trans hw216_6), ((HB.out.cell (bq w _ hw216_7)).trans hw216_7)⟩ (fun hHeld => ?_)
         clear hK K
         refine norm_ (a' := ?_) ?_ ?_
         rotate_left
         ·show Act.put _ (some 57) _ = _
          simp only [Act.put, psl, i64_w, i32_w]
          rfl
         refine one_ (i := 4) (N := some 61) (fl 17 11 [12, 13, 14]) rfl rfl (one_of HT_.out (by kernel_rfl)) (by decide) (fun K hK => ?_)
         refine Kd.R_append_rows_step Kd.string (w0 := w) w.heap.size (by rfl) (.tmp 57) (.tmp 60) 31 9 (.string ⟨#[]⟩) 16 rfl Try.underlying31 info9 rfl (by decide) (by omega) v206 y205 y208 _ _ _ (fun k_ => (w.heap.size ≤ k_) ∧ some k_ ≠ (v218 : Value).ownBlock) (fun _ => False) rfl rfl ?aO ?aR (fun _ _ h => h) (fun _ h => h.elim) ?aF ?aB ?aS ?aL ?_
         (case aR => repeat (first | exact (Kd.V_reads' HO212.out).2.2 | (with_reducible refine Kd.C_alloc ?_ _) | (with_reducible refine Kd.C_drewN ?_ _) | (with_reducible refine Kd.C_drew ?_)))
         (case aB => exact (fW HB.out))
         (case aF => exact (fun k_ hk => ⟨(Nat.le_trans (wz (fW HB.out)) hk), Kd.fresh' (Kd.R_lt (fR HO219.out)) k_ hk⟩))
         (case aO => exact (by (with_reducible repeat (first | apply Kd.R_alloc | apply Kd.R_drewN | apply Kd.R_drew)); exact Kd.R_mono HO207.out (fun _ hk => ⟨hk.1.1, hk.2⟩)))
         (case aS => exact (wz (fW HB.out)))
         (case aL => have := LMc28.out; omega)
         intro v214 w44 ho hb hg hat
         rw [← Ny213.out] at ho
         have n0_ := am (Kd.V_afterv (ok := (fun k_ => (w.heap.size ≤ k_) ∧ some k_ ≠ (v218 : Value).ownBlock ∧ k_ ≠ gb195)) (by (with_reducible repeat (first | apply Kd.V_alloc | apply Kd.V_drewN | apply Kd.V_drew)); exact Kd.V_mono HO_5.out (fun _ hk => ⟨⟨hk.1.1.1, ⟨hk.1.2, hk.1.1.2⟩⟩, hk.2⟩)) hg hat)
         have n1_ := am (blk_grown (g := gb195) (o := .cells #[.int .i64 a1_0, .int .i64 a1_1, .int .i64 a1_2] 24 (0, 0)) (fb BK195.out) hg (Kd.R_ne HO207.out BK195.out (by decide)))
         have n2_ := am (Kd.V_afterv (ok := (fun k_ => (w.heap.size ≤ k_) ∧ some k_ ≠ (v218 : Value).ownBlock ∧ k_ ≠ gb195)) (by (with_reducible repeat (first | apply Kd.V_alloc | apply Kd.V_drewN | apply Kd.V_drew)); exact Kd.V_mono HO212.out (fun _ hk => ⟨⟨hk.1.1.1, ⟨hk.1.2, hk.1.1.2⟩⟩, hk.2⟩)) hg hat)
         have n3_ := am (Kd.V_afterv (ok := (fun k_ => (w.heap.size ≤ k_) ∧ some k_ ≠ (v218 : Value).ownBlock ∧ k_ ≠ gb195)) (by (with_reducible repeat (first | apply Kd.V_alloc | apply Kd.V_drewN | apply Kd.V_drew)); exact Kd.V_mono HO227.out (fun _ hk => ⟨⟨hk.1.1.1, ⟨hk.1.2, hk.1.1.2⟩⟩, hk.2⟩)) hg hat)
         have n4_ := am (Kd.R_after (ok := (fun k_ => (w.heap.size ≤ k_))) (by (with_reducible repeat (first | apply Kd.R_alloc | apply Kd.R_drewN | apply Kd.R_drew)); exact Kd.R_mono HO219.out (fun _ hk => ⟨hk.1.1, hk.2⟩)) hg hat)
         have n5_ := am (hb)
         have n6_ := am (ho)
         clear HO_5 BK195 HO212 HO227 HO219 HB HO207
         have HO_5 := n0_
         have BK195 := n1_
         have HO212 := n2_
         have HO227 := n3_
         have HO219 := n4_
         have HB := n5_
         have HO215 := n6_
         clear n0_ n1_ n2_ n3_ n4_ n5_ n6_ ho hb hg hat
         refine hK.out _ _ ⟨((HB.out.cell (bq w _ hw216_0)).trans hw216_0), ((HB.out.cell (bq w _ hw216_1)).trans hw216_1), ((HB.out.cell (bq w _ hw216_2)).trans hw216_2), ((HB.out.cell (bq w _ hw216_3)).trans hw216_3), ((HB.out.cell (bq w _ hw216_4)).trans hw216_4), ((HB.out.cell (bq w _ hw216_5)).trans hw216_5), ((HB.out.cell (bq w _ hw216_6)).trans hw216_6), ((HB.out.cell (bq w _ hw216_7)).trans hw216_7)⟩ (fun hHeld => ?_)
         clear hK K
         refine norm_ (a' := ?_) ?_ ?_
         rotate_left
         ·show Act.put _ (some 61) _ = _
          simp only [Act.put, psl, i64_w, i32_w]
          rfl
         exact norm_ (by simp only [putAll, Act.put, psl]) (hCont (v206, v214, v218) _ ⟨hHeld, (by (with_reducible repeat (first | apply Kd.V_alloc | apply Kd.V_drewN | apply Kd.V_drew)); exact Kd.V_mono HO212.out (fun _ hk => ⟨hk.1.1, ⟨hk.2, ⟨hk.1.2.1, hk.1.2.2⟩⟩⟩)), (fR HO215.out), (fR HO219.out), (by (with_reducible repeat (first | apply Kd.V_alloc | apply Kd.V_drewN | apply Kd.V_drew)); exact Kd.V_mono HO227.out (fun _ hk => ⟨hk.1.1, ⟨hk.2, ⟨hk.1.2.1, hk.1.2.2⟩⟩⟩)), (by (with_reducible repeat (first | apply Kd.V_alloc | apply Kd.V_drewN | apply Kd.V_drew)); exact Kd.V_mono HO_5.out (fun _ hk => ⟨hk.1.1, ⟨hk.2, ⟨hk.1.2.1, hk.1.2.2⟩⟩⟩)), (fb BK195.out), (fW HB.out)⟩)
        rintro ⟨v206, v214, v218⟩ w45 ⟨hS_, h0_, h1_, h2_, h3_, h4_, h5_, h6_⟩
        have n0_ : Aside0 (Kd.V Kd.string 9 w45 w.heap.size (fun k_ => (w.heap.size ≤ k_) ∧ some k_ ≠ (v214 : Value).ownBlock ∧ some k_ ≠ (v218 : Value).ownBlock ∧ k_ ≠ gb195) (.slice Ao36 y208.length co36) y208) := ⟨h0_⟩
        have n1_ : Aside0 (Kd.R Kd.string 9 w45 w.heap.size (fun k_ => (w.heap.size ≤ k_) ∧ some k_ ≠ (v218 : Value).ownBlock) v214 y213) := ⟨h1_⟩
        have n2_ : Aside0 (Kd.R Kd.string 9 w45 w.heap.size (fun k_ => (w.heap.size ≤ k_) ∧ some k_ ≠ (v214 : Value).ownBlock) v218 y217) := ⟨h2_⟩
        have n3_ : Aside0 (Kd.V Kd.string 9 w45 w.heap.size (fun k_ => (w.heap.size ≤ k_) ∧ some k_ ≠ (v214 : Value).ownBlock ∧ some k_ ≠ (v218 : Value).ownBlock ∧ k_ ≠ gb195) (.slice A39 y223.length c39) y223) := ⟨h3_⟩
        have n4_ : Aside0 (Kd.V Kd.string 9 w45 w.heap.size (fun k_ => (w.heap.size ≤ k_) ∧ some k_ ≠ (v214 : Value).ownBlock ∧ some k_ ≠ (v218 : Value).ownBlock ∧ k_ ≠ gb195) (.slice Ao36 x5_1.length co36) x5_1) := ⟨h4_⟩
        have n5_ : Aside0 (w45.heap[gb195]? = some (.cells #[.int .i64 a1_0, .int .i64 a1_1, .int .i64 a1_2] 24 (0, 0))) := ⟨h5_⟩
        have n6_ : Aside0 (Below w.heap.size w w45) := ⟨h6_⟩
        clear HO_5 BK195 HB h0_ h1_ h2_ h3_ h4_ h5_ h6_
        have HO212 := n0_
        have HO215 := n1_
        have HO219 := n2_
        have HO227 := n3_
        have HO_5 := n4_
        have BK195 := n5_
        have HB := n6_
        clear n0_ n1_ n2_ n3_ n4_ n5_ n6_
        have hHeld : w45.cell? (ad199.add ((x6_1).toNat * 8)) = some (.string ((rd_T68 l0 x6_1).f0)) ∧ w45.cell? ⟨(ad199.add ((x6_1).toNat * 8)).block, (ad199.add ((x6_1).toNat * 8)).off + 1, none⟩ = some (.int .i64 ((rd_T68 l0 x6_1).f1.f0.f0)) ∧ w45.cell? ⟨(ad199.add ((x6_1).toNat * 8)).block, (ad199.add ((x6_1).toNat * 8)).off + 2, none⟩ = some (.int .i64 ((rd_T68 l0 x6_1).f1.f0.f1)) ∧ w45.cell? ⟨(ad199.add ((x6_1).toNat * 8)).block, (ad199.add ((x6_1).toNat * 8)).off + 3, none⟩ = some (.int .i64 ((rd_T68 l0 x6_1).f1.f0.f2)) ∧ w45.cell? ⟨(ad199.add ((x6_1).toNat * 8)).block, (ad199.add ((x6_1).toNat * 8)).off + 4, none⟩ = some (.int .i64 ((rd_T68 l0 x6_1).f1.f1.f0)) ∧ w45.cell? ⟨(ad199.add ((x6_1).toNat * 8)).block, (ad199.add ((x6_1).toNat * 8)).off + 5, none⟩ = some (.int .i64 ((rd_T68 l0 x6_1).f1.f1.f1)) ∧ w45.cell? ⟨(ad199.add ((x6_1).toNat * 8)).block, (ad199.add ((x6_1).toNat * 8)).off + 6, none⟩ = some (.int .i64 ((rd_T68 l0 x6_1).f1.f1.f2)) ∧ w45.cell? ⟨(ad199.add ((x6_1).toNat * 8)).block, (ad199.add ((x6_1).toNat * 8)).off + 7, none⟩ = some (.int .i64 ((rd_T68 l0 x6_1).f2)) := hS_
        obtain ⟨Ao47, co47, eo47⟩ := Kd.R_slice HO219.out
        (first | subst eo47 | (injection eo47 with f1_ f2_ f3_; have f4_ := f1_.symm; have f5_ := f3_.symm; clear f1_ f2_ f3_; subst f4_; subst f5_))
        refine norm_ (a' := ?_) ?_ ?_
        rotate_left
        ·simp only [putAll, Act.put, psl]
         rfl
        refine one_ (i := 11) (N := some 68) (fl 17 15 []) rfl rfl (one_of HT_.out (by kernel_rfl)) (by decide) (fun K hK => ?_)
        refine Kd.R_append_rows_step Kd.string (w0 := w) w.heap.size (by rfl) (.tmp 61) (.tmp 67) 31 9 (.string ⟨#[]⟩) 16 rfl Try.underlying31 info9 rfl (by decide) (by omega) v214 y213 y217 _ _ _ (fun k_ => (w.heap.size ≤ k_) ∧ some k_ ≠ (.slice Ao47 y217.length co47 : Value).ownBlock) (fun _ => False) rfl rfl ?aO ?aR (fun _ _ h => h) (fun _ h => h.elim) ?aF ?aB ?aS ?aL ?_
        (case aR => repeat (first | exact (Kd.R_reads' HO219.out).2.2 | (with_reducible refine Kd.C_alloc ?_ _) | (with_reducible refine Kd.C_drewN ?_ _) | (with_reducible refine Kd.C_drew ?_)))
        (case aB => exact (fW HB.out))
        (case aF => exact (fun k_ hk => ⟨(Nat.le_trans (wz (fW HB.out)) hk), Kd.fresh' (Kd.R_lt (fR HO219.out)) k_ hk⟩))
        (case aO => exact (fR HO215.out))
        (case aS => exact (wz (fW HB.out)))
        (case aL => have := LMc31.out; omega)
        intro v221 w46 ho hb hg hat
        rw [← Ny220.out] at ho
        have n0_ := am (Kd.V_afterv (ok := (fun k_ => (w.heap.size ≤ k_) ∧ some k_ ≠ (.slice Ao47 y217.length co47 : Value).ownBlock ∧ k_ ≠ gb195)) (by (with_reducible repeat (first | apply Kd.V_alloc | apply Kd.V_drewN | apply Kd.V_drew)); exact Kd.V_mono HO_5.out (fun _ hk => ⟨⟨hk.1, ⟨hk.2.2.1, hk.2.2.2⟩⟩, hk.2.1⟩)) hg hat)
        have n1_ := am (blk_grown (g := gb195) (o := .cells #[.int .i64 a1_0, .int .i64 a1_1, .int .i64 a1_2] 24 (0, 0)) (fb BK195.out) hg (Kd.R_ne HO215.out BK195.out (by decide)))
        have n2_ := am (Kd.V_afterv (ok := (fun k_ => (w.heap.size ≤ k_) ∧ some k_ ≠ (.slice Ao47 y217.length co47 : Value).ownBlock ∧ k_ ≠ gb195)) (by (with_reducible repeat (first | apply Kd.V_alloc | apply Kd.V_drewN | apply Kd.V_drew)); exact Kd.V_mono HO212.out (fun _ hk => ⟨⟨hk.1, ⟨hk.2.2.1, hk.2.2.2⟩⟩, hk.2.1⟩)) hg hat)
        have n3_ := am (Kd.V_afterv (ok := (fun k_ => (w.heap.size ≤ k_) ∧ some k_ ≠ (.slice Ao47 y217.length co47 : Value).ownBlock ∧ k_ ≠ gb195)) (by (with_reducible repeat (first | apply Kd.V_alloc | apply Kd.V_drewN | apply Kd.V_drew)); exact Kd.V_mono HO227.out (fun _ hk => ⟨⟨hk.1, ⟨hk.2.2.1, hk.2.2.2⟩⟩, hk.2.1⟩)) hg hat)
        have n4_ := am (Kd.R_after (ok := (fun k_ => (w.heap.size ≤ k_))) (fR HO219.out) hg hat)
        have n5_ := am (hb)
        have n6_ := am (ho)
        clear HO_5 BK195 HO212 HO227 HO219 HB HO215
        have HO_5 := n0_
        have BK195 := n1_
        have HO212 := n2_
        have HO227 := n3_
        have HO219 := n4_
        have HB := n5_
        have HO222 := n6_
        clear n0_ n1_ n2_ n3_ n4_ n5_ n6_ ho hb hg hat
        refine hK.out _ _ ⟨((HB.out.cell (bq w _ hw216_0)).trans hw216_0), ((HB.out.cell (bq w _ hw216_1)).trans hw216_1), ((HB.out.cell (bq w _ hw216_2)).trans hw216_2), ((HB.out.cell (bq w _ hw216_3)).trans hw216_3), ((HB.out.cell (bq w _ hw216_4)).trans hw216_4), ((HB.out.cell (bq w _ hw216_5)).trans hw216_5), ((HB.out.cell (bq w _ hw216_6)).trans hw216_6), ((HB.out.cell (bq w _ hw216_7)).trans hw216_7)⟩ (fun hHeld => ?_)
        clear hK K
        refine norm_ (a' := ?_) ?_ ?_
        rotate_left
        ·show Act.put _ (some 68) _ = _
         simp only [Act.put, psl, i64_w, i32_w]
         rfl
        refine one_ (i := 15) (N := some 72) (fl 17 16 []) rfl rfl (one_of HT_.out (by kernel_rfl)) (by decide) (fun K hK => ?_)
        refine Kd.R_append_rows_step Kd.string (w0 := w) w.heap.size (by rfl) (.tmp 68) (.tmp 71) 31 9 (.string ⟨#[]⟩) 16 rfl Try.underlying31 info9 rfl (by decide) (by omega) v221 y220 y223 _ _ _ (fun k_ => (w.heap.size ≤ k_) ∧ some k_ ≠ (.slice Ao47 y217.length co47 : Value).ownBlock) (fun _ => False) rfl rfl ?aO ?aR (fun _ _ h => h) (fun _ h => h.elim) ?aF ?aB ?aS ?aL ?_
        (case aR => repeat (first | exact (Kd.V_reads' HO227.out).2.2 | (with_reducible refine Kd.C_alloc ?_ _) | (with_reducible refine Kd.C_drewN ?_ _) | (with_reducible refine Kd.C_drew ?_)))
        (case aB => exact (fW HB.out))
        (case aF => exact (fun k_ hk => ⟨(Nat.le_trans (wz (fW HB.out)) hk), Kd.fresh' (Kd.R_lt (fR HO219.out)) k_ hk⟩))
        (case aO => exact (fR HO222.out))
        (case aS => exact (wz (fW HB.out)))
        (case aL => have := LMc34.out; omega)
        intro v229 w48 ho hb hg hat
        rw [← Ny228.out] at ho
        have n0_ := am (Kd.V_afterv (ok := (fun k_ => (w.heap.size ≤ k_) ∧ some k_ ≠ (.slice Ao47 y217.length co47 : Value).ownBlock ∧ k_ ≠ gb195)) (fV HO_5.out) hg hat)
        have n1_ := am (blk_grown (g := gb195) (o := .cells #[.int .i64 a1_0, .int .i64 a1_1, .int .i64 a1_2] 24 (0, 0)) (fb BK195.out) hg (Kd.R_ne HO222.out BK195.out (by decide)))
        have n2_ := am (Kd.V_afterv (ok := (fun k_ => (w.heap.size ≤ k_) ∧ some k_ ≠ (.slice Ao47 y217.length co47 : Value).ownBlock ∧ k_ ≠ gb195)) (fV HO212.out) hg hat)
        have n3_ := am (Kd.V_afterv (ok := (fun k_ => (w.heap.size ≤ k_) ∧ some k_ ≠ (.slice Ao47 y217.length co47 : Value).ownBlock ∧ k_ ≠ gb195)) (fV HO227.out) hg hat)
        have n4_ := am (Kd.R_after (ok := (fun k_ => (w.heap.size ≤ k_))) (fR HO219.out) hg hat)
        have n5_ := am (hb)
        have n6_ := am (ho)
        clear HO_5 BK195 HO212 HO227 HO219 HB HO222
        have HO_5 := n0_
        have BK195 := n1_
        have HO212 := n2_
        have HO227 := n3_
        have HO219 := n4_
        have HB := n5_
        have HO230 := n6_
        clear n0_ n1_ n2_ n3_ n4_ n5_ n6_ ho hb hg hat
        refine hK.out _ _ ⟨((HB.out.cell (bq w _ hw216_0)).trans hw216_0), ((HB.out.cell (bq w _ hw216_1)).trans hw216_1), ((HB.out.cell (bq w _ hw216_2)).trans hw216_2), ((HB.out.cell (bq w _ hw216_3)).trans hw216_3), ((HB.out.cell (bq w _ hw216_4)).trans hw216_4), ((HB.out.cell (bq w _ hw216_5)).trans hw216_5), ((HB.out.cell (bq w _ hw216_6)).trans hw216_6), ((HB.out.cell (bq w _ hw216_7)).trans hw216_7)⟩ (fun hHeld => ?_)
        clear hK K
        refine norm_ (a' := ?_) ?_ ?_
        rotate_left
        ·show Act.put _ (some 72) _ = _
         simp only [Act.put, psl, i64_w, i32_w]
         rfl
        refine pu (i := 16) (N := some 5) (fl 17 17 []) HT_ ?_
        refine done_ (done_of HT_.out (by kernel_rfl)) ?_
        try go_wp2
        go_meet
        case rel => exact ⟨_, (y228), H', ⟨by have := HK1.out; have := HJ10.out; first | omega | exact Nat.le_refl _⟩, ⟨Kd.R_V (by (with_reducible repeat (first | apply Kd.R_alloc | apply Kd.R_drewN | apply Kd.R_drew)); exact Kd.R_mono (Kd.R_types HO230.out BK195.out (by decide)) (fun _ hk => ⟨hk.1.1, hk.2⟩))⟩, ⟨fb BK195.out⟩, ⟨fW HB.out⟩⟩
       rw [if_neg c25] at H
       have c25b0 : (x7_10 == (x5_1.length : Int)) = false := beq_eq_false_iff_ne.mpr c25
       have c25b1 : (x7_10 != (x5_1.length : Int)) = true := bne_iff_ne.mpr c25
       by_cases c49 : 0 ≤ x7_10
       rotate_left
       ·rw [if_neg c49] at H
        exact absurd H (by simp)
       rw [if_pos c49] at H
       have c49b0 : decide (0 ≤ x7_10) = true := decide_eq_true c49
       clear c49
       by_cases c50 : x7_10 < (x5_1.length : Int)
       rotate_left
       ·rw [if_neg c50] at H
        exact absurd H (by simp)
       rw [if_pos c50] at H
       have c50b0 : decide (x7_10 < (x5_1.length : Int)) = true := decide_eq_true c50
       clear c50
       by_cases c51 : 0 ≤ x6_1
       rotate_left
       ·rw [if_neg c51] at H
        exact absurd H (by simp)
       rw [if_pos c51] at H
       have c51b0 : decide (0 ≤ x6_1) = true := decide_eq_true c51
       clear c51
       by_cases c52 : x6_1 < (l0.length : Int)
       rotate_left
       ·rw [if_neg c52] at H
        exact absurd H (by simp)
       rw [if_pos c52] at H
       have c52b0 : decide (x6_1 < (l0.length : Int)) = true := decide_eq_true c52
       clear c52
       by_cases c53 : (rdOf ByteArray.empty x5_1 x7_10).toList = ((rd_T68 l0 x6_1).f0).toList
       ·rw [if_pos c53] at H
        have c53b0 : ((rdOf ByteArray.empty x5_1 x7_10).toList == ((rd_T68 l0 x6_1).f0).toList) = true := beq_iff_eq.mpr c53
        have c53b1 : ((rdOf ByteArray.empty x5_1 x7_10).toList != ((rd_T68 l0 x6_1).f0).toList) = false := bne_eq_false_iff_eq.mpr c53
        clear c53
        have H' := am H
        clear H
        try go_wp2
        have n0_ := am (Kd.V_drew HO_5.out)
        have n1_ := am (blk_drew BK195.out)
        have n2_ := am (wd HB.out)
        clear HO_5 BK195 HB
        have HO_5 := n0_
        have BK195 := n1_
        have HB := n2_
        clear n0_ n1_ n2_
        obtain ⟨Ao55, co55, eo55⟩ := Kd.V_slice HO_5.out
        (first | subst eo55 | (injection eo55 with f1_ f2_ f3_; have f4_ := f1_.symm; have f5_ := f3_.symm; clear f1_ f2_ f3_; subst f4_; subst f5_))
        have p203 : 0 ≤ (x7_10 : Int) := of_decide_eq_true (by assumption)
        have q203 : x7_10 < (x5_1.length : Int) := of_decide_eq_true (by assumption)
        obtain ⟨ad203, e203, hx203_0⟩ := Kd.at_string (Kd.V_reads' HO_5.out).2.2 x7_10 p203 q203
        cases e203
        replace p203 := eq_true p203
        replace q203 := eq_true q203
        have p204 : 0 ≤ (x6_1 : Int) := of_decide_eq_true (by assumption)
        have q204 : x6_1 < (l0.length : Int) := of_decide_eq_true (by assumption)
        obtain ⟨ad204, e204, hx204_0, hx204_1, hx204_2, hx204_3, hx204_4, hx204_5, hx204_6, hx204_7⟩ := at_T68 HR0.out x6_1 p204 q204
        have hw204_7 := hx204_7
        have hw204_6 := hx204_6
        have hw204_5 := hx204_5
        have hw204_4 := hx204_4
        have hw204_3 := hx204_3
        have hw204_2 := hx204_2
        have hw204_1 := hx204_1
        have hw204_0 := hx204_0
        obtain rfl : ad199 = ad204 := (by injection e204)
        replace hx204_0 := cl HB hx204_0
        replace hx204_1 := cl HB hx204_1
        replace hx204_2 := cl HB hx204_2
        replace hx204_3 := cl HB hx204_3
        replace hx204_4 := cl HB hx204_4
        replace hx204_5 := cl HB hx204_5
        replace hx204_6 := cl HB hx204_6
        replace hx204_7 := cl HB hx204_7
        replace p204 := eq_true p204
        replace q204 := eq_true q204
        refine start_ (n := 16) (S := fun w' => w'.cell? (ad203.add (x7_10).toNat) = some (.string (rdOf ByteArray.empty x5_1 x7_10)) ∧ w'.cell? (ad199.add ((x6_1).toNat * 8)) = some (.string ((rd_T68 l0 x6_1).f0)) ∧ w'.cell? ⟨(ad199.add ((x6_1).toNat * 8)).block, (ad199.add ((x6_1).toNat * 8)).off + 1, none⟩ = some (.int .i64 ((rd_T68 l0 x6_1).f1.f0.f0)) ∧ w'.cell? ⟨(ad199.add ((x6_1).toNat * 8)).block, (ad199.add ((x6_1).toNat * 8)).off + 2, none⟩ = some (.int .i64 ((rd_T68 l0 x6_1).f1.f0.f1)) ∧ w'.cell? ⟨(ad199.add ((x6_1).toNat * 8)).block, (ad199.add ((x6_1).toNat * 8)).off + 3, none⟩ = some (.int .i64 ((rd_T68 l0 x6_1).f1.f0.f2)) ∧ w'.cell? ⟨(ad199.add ((x6_1).toNat * 8)).block, (ad199.add ((x6_1).toNat * 8)).off + 4, none⟩ = some (.int .i64 ((rd_T68 l0 x6_1).f1.f1.f0)) ∧ w'.cell? ⟨(ad199.add ((x6_1).toNat * 8)).block, (ad199.add ((x6_1).toNat * 8)).off + 5, none⟩ = some (.int .i64 ((rd_T68 l0 x6_1).f1.f1.f1)) ∧ w'.cell? ⟨(ad199.add ((x6_1).toNat * 8)).block, (ad199.add ((x6_1).toNat * 8)).off + 6, none⟩ = some (.int .i64 ((rd_T68 l0 x6_1).f1.f1.f2)) ∧ w'.cell? ⟨(ad199.add ((x6_1).toNat * 8)).block, (ad199.add ((x6_1).toNat * 8)).off + 7, none⟩ = some (.int .i64 ((rd_T68 l0 x6_1).f2))) (ds := []) #[F,F,F,F,F,F,F,F,F,F,F,F,F,F,F,F] (by kernel_rfl) rfl rfl ⟨hx203_0, ((HB.out.cell (bq w _ hw204_0)).trans hw204_0), ((HB.out.cell (bq w _ hw204_1)).trans hw204_1), ((HB.out.cell (bq w _ hw204_2)).trans hw204_2), ((HB.out.cell (bq w _ hw204_3)).trans hw204_3), ((HB.out.cell (bq w _ hw204_4)).trans hw204_4), ((HB.out.cell (bq w _ hw204_5)).trans hw204_5), ((HB.out.cell (bq w _ hw204_6)).trans hw204_6), ((HB.out.cell (bq w _ hw204_7)).trans hw204_7)⟩ (fun hHeld => ?_); refine with_tabW r_Sources.tab9 r_Sources.bits9 (fun HT_ HW_ => ?_)
        generalize wc.drew = w54 at HO_5 BK195 HB hx203_0 hx204_0 hx204_1 hx204_2 hx204_3 hx204_4 hx204_5 hx204_6 hx204_7 hHeld ⊢
        refine pu (i := 0) (N := some 41) (fl 16 1 []) HT_ ?_
        refine pu (i := 1) (N := some 42) (fl 16 2 []) HT_ ?_
        refine pu (i := 2) (N := some 43) (fl 16 3 []) HT_ ?_
        refine pu (i := 3) (N := some 44) (fl 16 4 []) HT_ ?_
        refine pu (i := 4) (N := some 45) (fl 16 5 []) HT_ ?_
        refine pu (i := 5) (N := some 46) (fl 16 6 []) HT_ ?_
        refine pu (i := 6) (N := some 47) (fl 16 7 []) HT_ ?_
        refine pu (i := 7) (N := some 48) (fl 16 8 []) HT_ ?_
        refine pu (i := 9) (N := some 50) (fl 16 8 [9]) HT_ ?_
        refine pu (i := 10) (N := some 51) (fl 16 8 [9, 10]) HT_ ?_
        refine pu (i := 11) (N := some 52) (fl 16 8 [9, 10, 11]) HT_ ?_
        refine pu (i := 12) (N := some 53) (fl 16 8 [9, 10, 11, 12]) HT_ ?_
        refine tk (i := 8) (N := some 49) (fl 16 13 []) HT_ HW_ hHeld ?_
        refine tk (i := 13) (N := some 54) (fl 16 14 []) HT_ HW_ hHeld ?_
        refine pu (i := 14) (N := some 55) (fl 16 15 []) HT_ ?_
        refine pu (i := 15) (N := some 56) (fl 16 16 []) HT_ ?_
        refine done_ (done_of HT_.out (by kernel_rfl)) ?_
        try go_wp2
        go_meet
        case rel => exact ⟨_, (x5_1), H', ⟨by have := HK1.out; have := HJ10.out; first | omega | exact Nat.le_refl _⟩, ⟨by (with_reducible repeat (first | apply Kd.V_alloc | apply Kd.V_drewN | apply Kd.V_drew)); exact HO_5.out⟩, ⟨fb BK195.out⟩, ⟨fW HB.out⟩⟩
       rw [if_neg c53] at H
       have c53b0 : ((rdOf ByteArray.empty x5_1 x7_10).toList == ((rd_T68 l0 x6_1).f0).toList) = false := beq_eq_false_iff_ne.mpr c53
       have c53b1 : ((rdOf ByteArray.empty x5_1 x7_10).toList != ((rd_T68 l0 x6_1).f0).toList) = true := bne_iff_ne.mpr c53
       obtain ⟨y231, hy231⟩ : ∃ y_ : List ByteArray, y_ = (([] : List ByteArray)) := ⟨_, rfl⟩
       replace H : (if x7_10 ≤ (x5_1.length : Int) then ((some (x5_1.take (x7_10 : Int).toNat : List ByteArray)).bind fun y234 => (if y231.length + y234.length < 8796093022208 then ((some (y231 ++ y234 : List ByteArray)).bind fun y239 => ((some (([(rd_T68 l0 x6_1).f0] : List ByteArray) : List ByteArray)).bind fun y243 => (if y239.length + y243.length < 8796093022208 then ((some (y239 ++ y243 : List ByteArray)).bind fun y246 => ((some (x5_1.drop (x7_10 : Int).toNat : List ByteArray)).bind fun y249 => (if y246.length + y249.length < 8796093022208 then (r_Sources.j3 kj10 l0 (y246 ++ y249) x6_1 a1_0 a1_1 a1_2) else (none)))) else (none)))) else (none))) else (none)) = some r := by first | (rw [hy231]; with_reducible exact H) | (have H2_ := (Option.bind_some _ _).symm.trans H; rw [hy231]; with_reducible exact H2_) | (have H2_ := (Option.bind_some _ _).symm.trans H; with_reducible exact H2_) | with_reducible exact H | (rw [hy231]; exact H) | exact H
       have Ny231 := am hy231
       clear hy231
       have c56b0 := eq_true (of_decide_eq_true (by assumption) : 0 ≤ x7_10)
       by_cases c57 : x7_10 ≤ (x5_1.length : Int)
       rotate_left
       ·rw [if_neg c57] at H
        exact absurd H (by simp)
       rw [if_pos c57] at H
       have c57b0 := eq_true c57
       have c57b1 : decide (x7_10 ≤ (x5_1.length : Int)) = true := decide_eq_true c57
       clear c57
       obtain ⟨y234, hy234⟩ : ∃ y_ : List ByteArray, y_ = (x5_1.take (x7_10 : Int).toNat) := ⟨_, rfl⟩
       replace H : (if y231.length + y234.length < 8796093022208 then ((some (y231 ++ y234 : List ByteArray)).bind fun y239 => ((some (([(rd_T68 l0 x6_1).f0] : List ByteArray) : List ByteArray)).bind fun y243 => (if y239.length + y243.length < 8796093022208 then ((some (y239 ++ y243 : List ByteArray)).bind fun y246 => ((some (x5_1.drop (x7_10 : Int).toNat : List ByteArray)).bind fun y249 => (if y246.length + y249.length < 8796093022208 then (r_Sources.j3 kj10 l0 (y246 ++ y249) x6_1 a1_0 a1_1 a1_2) else (none)))) else (none)))) else (none)) = some r := by first | (rw [hy234]; with_reducible exact H) | (have H2_ := (Option.bind_some _ _).symm.trans H; rw [hy234]; with_reducible exact H2_) | (have H2_ := (Option.bind_some _ _).symm.trans H; with_reducible exact H2_) | with_reducible exact H | (rw [hy234]; exact H) | exact H
       have Ny234 := am hy234
       clear hy234
       by_cases c58 : y231.length + y234.length < 8796093022208
       rotate_left
       ·rw [if_neg c58] at H
        exact absurd H (by simp)
       rw [if_pos c58] at H
       have LMc58 := am c58
       clear c58
       obtain ⟨y239, hy239⟩ : ∃ y_ : List ByteArray, y_ = (y231 ++ y234) := ⟨_, rfl⟩
       replace H : ((some (([(rd_T68 l0 x6_1).f0] : List ByteArray) : List ByteArray)).bind fun y243 => (if y239.length + y243.length < 8796093022208 then ((some (y239 ++ y243 : List ByteArray)).bind fun y246 => ((some (x5_1.drop (x7_10 : Int).toNat : List ByteArray)).bind fun y249 => (if y246.length + y249.length < 8796093022208 then (r_Sources.j3 kj10 l0 (y246 ++ y249) x6_1 a1_0 a1_1 a1_2) else (none)))) else (none))) = some r := by first | (rw [hy239]; with_reducible exact H) | (have H2_ := (Option.bind_some _ _).symm.trans H; rw [hy239]; with_reducible exact H2_) | (have H2_ := (Option.bind_some _ _).symm.trans H; with_reducible exact H2_) | with_reducible exact H | (rw [hy239]; exact H) | exact H
       have Ny239 := am hy239
       clear hy239
       obtain ⟨y243, hy243⟩ : ∃ y_ : List ByteArray, y_ = (([(rd_T68 l0 x6_1).f0] : List ByteArray)) := ⟨_, rfl⟩
       replace H : (if y239.length + y243.length < 8796093022208 then ((some (y239 ++ y243 : List ByteArray)).bind fun y246 => ((some (x5_1.drop (x7_10 : Int).toNat : List ByteArray)).bind fun y249 => (if y246.length + y249.length < 8796093022208 then (r_Sources.j3 kj10 l0 (y246 ++ y249) x6_1 a1_0 a1_1 a1_2) else (none)))) else (none)) = some r := by first | (rw [hy243]; with_reducible exact H) | (have H2_ := (Option.bind_some _ _).symm.trans H; rw [hy243]; with_reducible exact H2_) | (have H2_ := (Option.bind_some _ _).symm.trans H; with_reducible exact H2_) | with_reducible exact H | (rw [hy243]; exact H) | exact H
       have Ny243 := am hy243
       clear hy243
       by_cases c59 : y239.length + y243.length < 8796093022208
       rotate_left
       ·rw [if_neg c59] at H
        exact absurd H (by simp)
       rw [if_pos c59] at H
       have LMc59 := am c59
       clear c59
       obtain ⟨y246, hy246⟩ : ∃ y_ : List ByteArray, y_ = (y239 ++ y243) := ⟨_, rfl⟩
       replace H : ((some (x5_1.drop (x7_10 : Int).toNat : List ByteArray)).bind fun y249 => (if y246.length + y249.length < 8796093022208 then (r_Sources.j3 kj10 l0 (y246 ++ y249) x6_1 a1_0 a1_1 a1_2) else (none))) = some r := by first | (rw [hy246]; with_reducible exact H) | (have H2_ := (Option.bind_some _ _).symm.trans H; rw [hy246]; with_reducible exact H2_) | (have H2_ := (Option.bind_some _ _).symm.trans H; with_reducible exact H2_) | with_reducible exact H | (rw [hy246]; exact H) | exact H
       have Ny246 := am hy246
       clear hy246
       have c60b0 := eq_true (of_decide_eq_true (by assumption) : 0 ≤ x7_10)
       have c61b0 := eq_true (of_decide_eq_true (by assumption) : x7_10 ≤ (x5_1.length : Int))
       obtain ⟨y249, hy249⟩ : ∃ y_ : List ByteArray, y_ = (x5_1.drop (x7_10 : Int).toNat) := ⟨_, rfl⟩
       replace H : (if y246.length + y249.length < 8796093022208 then (r_Sources.j3 kj10 l0 (y246 ++ y249) x6_1 a1_0 a1_1 a1_2) else (none)) = some r := by first | (rw [hy249]; with_reducible exact H) | (have H2_ := (Option.bind_some _ _).symm.trans H; rw [hy249]; with_reducible exact H2_) | (have H2_ := (Option.bind_some _ _).symm.trans H; with_reducible exact H2_) | with_reducible exact H | (rw [hy249]; exact H) | exact H
       have Ny249 := am hy249
       clear hy249
       by_cases c62 : y246.length + y249.length < 8796093022208
       rotate_left
       ·rw [if_neg c62] at H
        exact absurd H (by simp)
       rw [if_pos c62] at H
       have LMc62 := am c62
       clear c62
       obtain ⟨y254, hy254⟩ : ∃ y_ : List ByteArray, y_ = (y246 ++ y249) := ⟨_, rfl⟩
       replace H : (r_Sources.j3 kj10 l0 y254 x6_1 a1_0 a1_1 a1_2) = some r := by first | (rw [hy254]; with_reducible exact H) | (have H2_ := (Option.bind_some _ _).symm.trans H; rw [hy254]; with_reducible exact H2_) | (have H2_ := (Option.bind_some _ _).symm.trans H; with_reducible exact H2_) | with_reducible exact H | (rw [hy254]; exact H) | exact H
       have Ny254 := am hy254
       clear hy254
       have H' := am H
       clear H
       try go_wp2
       have n0_ := am (Kd.V_drew HO_5.out)
       have n1_ := am (blk_drew BK195.out)
       have n2_ := am (wd HB.out)
       clear HO_5 BK195 HB
       have HO_5 := n0_
       have BK195 := n1_
       have HB := n2_
       clear n0_ n1_ n2_
       obtain ⟨Ao64, co64, eo64⟩ := Kd.V_slice HO_5.out
       (first | subst eo64 | (injection eo64 with f1_ f2_ f3_; have f4_ := f1_.symm; have f5_ := f3_.symm; clear f1_ f2_ f3_; subst f4_; subst f5_))
       have p203 : 0 ≤ (x7_10 : Int) := of_decide_eq_true (by assumption)
       have q203 : x7_10 < (x5_1.length : Int) := of_decide_eq_true (by assumption)
       obtain ⟨ad203, e203, hx203_0⟩ := Kd.at_string (Kd.V_reads' HO_5.out).2.2 x7_10 p203 q203
       cases e203
       replace p203 := eq_true p203
       replace q203 := eq_true q203
       have p204 : 0 ≤ (x6_1 : Int) := of_decide_eq_true (by assumption)
       have q204 : x6_1 < (l0.length : Int) := of_decide_eq_true (by assumption)
       obtain ⟨ad204, e204, hx204_0, hx204_1, hx204_2, hx204_3, hx204_4, hx204_5, hx204_6, hx204_7⟩ := at_T68 HR0.out x6_1 p204 q204
       have hw204_7 := hx204_7
       have hw204_6 := hx204_6
       have hw204_5 := hx204_5
       have hw204_4 := hx204_4
       have hw204_3 := hx204_3
       have hw204_2 := hx204_2
       have hw204_1 := hx204_1
       have hw204_0 := hx204_0
       obtain rfl : ad199 = ad204 := (by injection e204)
       replace hx204_0 := cl HB hx204_0
       replace hx204_1 := cl HB hx204_1
       replace hx204_2 := cl HB hx204_2
       replace hx204_3 := cl HB hx204_3
       replace hx204_4 := cl HB hx204_4
       replace hx204_5 := cl HB hx204_5
       replace hx204_6 := cl HB hx204_6
       replace hx204_7 := cl HB hx204_7
       replace p204 := eq_true p204
       replace q204 := eq_true q204
       refine start_ (n := 16) (S := fun w' => w'.cell? (ad203.add (x7_10).toNat) = some (.string (rdOf ByteArray.empty x5_1 x7_10)) ∧ w'.cell? (ad199.add ((x6_1).toNat * 8)) = some (.string ((rd_T68 l0 x6_1).f0)) ∧ w'.cell? ⟨(ad199.add ((x6_1).toNat * 8)).block, (ad199.add ((x6_1).toNat * 8)).off + 1, none⟩ = some (.int .i64 ((rd_T68 l0 x6_1).f1.f0.f0)) ∧ w'.cell? ⟨(ad199.add ((x6_1).toNat * 8)).block, (ad199.add ((x6_1).toNat * 8)).off + 2, none⟩ = some (.int .i64 ((rd_T68 l0 x6_1).f1.f0.f1)) ∧ w'.cell? ⟨(ad199.add ((x6_1).toNat * 8)).block, (ad199.add ((x6_1).toNat * 8)).off + 3, none⟩ = some (.int .i64 ((rd_T68 l0 x6_1).f1.f0.f2)) ∧ w'.cell? ⟨(ad199.add ((x6_1).toNat * 8)).block, (ad199.add ((x6_1).toNat * 8)).off + 4, none⟩ = some (.int .i64 ((rd_T68 l0 x6_1).f1.f1.f0)) ∧ w'.cell? ⟨(ad199.add ((x6_1).toNat * 8)).block, (ad199.add ((x6_1).toNat * 8)).off + 5, none⟩ = some (.int .i64 ((rd_T68 l0 x6_1).f1.f1.f1)) ∧ w'.cell? ⟨(ad199.add ((x6_1).toNat * 8)).block, (ad199.add ((x6_1).toNat * 8)).off + 6, none⟩ = some (.int .i64 ((rd_T68 l0 x6_1).f1.f1.f2)) ∧ w'.cell? ⟨(ad199.add ((x6_1).toNat * 8)).block, (ad199.add ((x6_1).toNat * 8)).off + 7, none⟩ = some (.int .i64 ((rd_T68 l0 x6_1).f2))) (ds := []) #[F,F,F,F,F,F,F,F,F,F,F,F,F,F,F,F] (by kernel_rfl) rfl rfl ⟨hx203_0, ((HB.out.cell (bq w _ hw204_0)).trans hw204_0), ((HB.out.cell (bq w _ hw204_1)).trans hw204_1), ((HB.out.cell (bq w _ hw204_2)).trans hw204_2), ((HB.out.cell (bq w _ hw204_3)).trans hw204_3), ((HB.out.cell (bq w _ hw204_4)).trans hw204_4), ((HB.out.cell (bq w _ hw204_5)).trans hw204_5), ((HB.out.cell (bq w _ hw204_6)).trans hw204_6), ((HB.out.cell (bq w _ hw204_7)).trans hw204_7)⟩ (fun hHeld => ?_); refine with_tabW r_Sources.tab9 r_Sources.bits9 (fun HT_ HW_ => ?_)
       generalize wc.drew = w63 at HO_5 BK195 HB hx203_0 hx204_0 hx204_1 hx204_2 hx204_3 hx204_4 hx204_5 hx204_6 hx204_7 hHeld ⊢
       refine pu (i := 0) (N := some 41) (fl 16 1 []) HT_ ?_
       refine pu (i := 1) (N := some 42) (fl 16 2 []) HT_ ?_
       refine pu (i := 2) (N := some 43) (fl 16 3 []) HT_ ?_
       refine pu (i := 3) (N := some 44) (fl 16 4 []) HT_ ?_
       refine pu (i := 4) (N := some 45) (fl 16 5 []) HT_ ?_
       refine pu (i := 5) (N := some 46) (fl 16 6 []) HT_ ?_
       refine pu (i := 6) (N := some 47) (fl 16 7 []) HT_ ?_
       refine pu (i := 7) (N := some 48) (fl 16 8 []) HT_ ?_
       refine pu (i := 9) (N := some 50) (fl 16 8 [9]) HT_ ?_
       refine pu (i := 10) (N := some 51) (fl 16 8 [9, 10]) HT_ ?_
       refine pu (i := 11) (N := some 52) (fl 16 8 [9, 10, 11]) HT_ ?_
       refine pu (i := 12) (N := some 53) (fl 16 8 [9, 10, 11, 12]) HT_ ?_
       refine tk (i := 8) (N := some 49) (fl 16 13 []) HT_ HW_ hHeld ?_
       refine tk (i := 13) (N := some 54) (fl 16 14 []) HT_ HW_ hHeld ?_
       refine pu (i := 14) (N := some 55) (fl 16 15 []) HT_ ?_
       refine pu (i := 15) (N := some 56) (fl 16 16 []) HT_ ?_
       refine done_ (done_of HT_.out (by kernel_rfl)) ?_
       try go_wp2
       have n0_ := am (Kd.V_drew HO_5.out)
       have n1_ := am (blk_drew BK195.out)
       have n2_ := am (wd HB.out)
       clear HO_5 BK195 HB
       have HO_5 := n0_
       have BK195 := n1_
       have HB := n2_
       clear n0_ n1_ n2_
       have q66 : (x7_10 : Int) ≤ ((x5_1.length : Int) : Int) := of_decide_eq_true (by assumption)
       obtain ⟨i066, hi066, _, hsz66, _⟩ := info_parts info9
       have hroom66 : x5_1.length ≤ co64 := (Kd.V_reads' HO_5.out).2.1
       have hC66 : Kd.F Kd.string _ _ (some ad203) x5_1.length x5_1 := (Kd.V_at (base := w.heap.size) HO_5.out).2.2
       have hcut66 := cut_to (P := Try.prog) 31 9 .i64 Try.underlying31 hi066 (some ad203) x5_1.length co64 x7_10 (of_decide_eq_true (by assumption)) q66 hroom66
       have hr66 := Kd.F_take (m := (x7_10 : Int).toNat) hC66 (by omega)
       have hy66 : y234.length = (x7_10 : Int).toNat := (by rw [Ny234.out, List.length_take]; omega)
       rw [← Ny234.out] at hr66
       rw [← hy66] at hcut66
       have HO238 := am (show Kd.V Kd.string 9 _ w.heap.size _ (.slice (some ad203) y234.length co64) y234 from Kd.V_mk (by omega) hr66)
       have HC238 := am (show y234.length ≤ co64 from by omega)
       clear hr66 hC66 hroom66 hi066 hsz66
       have KY66 := am hy66
       clear hy66
       replace q66 := eq_true q66
       have p242 : 0 ≤ (x6_1 : Int) := of_decide_eq_true (by assumption)
       have q242 : x6_1 < (l0.length : Int) := of_decide_eq_true (by assumption)
       obtain ⟨ad242, e242, hx242_0, hx242_1, hx242_2, hx242_3, hx242_4, hx242_5, hx242_6, hx242_7⟩ := at_T68 HR0.out x6_1 p242 q242
       have hw242_7 := hx242_7
       have hw242_6 := hx242_6
       have hw242_5 := hx242_5
       have hw242_4 := hx242_4
       have hw242_3 := hx242_3
       have hw242_2 := hx242_2
       have hw242_1 := hx242_1
       have hw242_0 := hx242_0
       obtain rfl : ad199 = ad242 := (by injection e242)
       replace hx242_0 := cl HB hx242_0
       replace hx242_1 := cl HB hx242_1
       replace hx242_2 := cl HB hx242_2
       replace hx242_3 := cl HB hx242_3
       replace hx242_4 := cl HB hx242_4
       replace hx242_5 := cl HB hx242_5
       replace hx242_6 := cl HB hx242_6
       replace hx242_7 := cl HB hx242_7
       replace p242 := eq_true p242
       replace q242 := eq_true q242
       have q67 : (x7_10 : Int) ≤ ((x5_1.length : Int) : Int) := of_decide_eq_true (by assumption)
       obtain ⟨i067, hi067, _, hsz67, _⟩ := info_parts info9
       have hroom67 : x5_1.length ≤ co64 := (Kd.V_reads' HO_5.out).2.1
       have hC67 : Kd.F Kd.string _ _ (some ad203) x5_1.length x5_1 := (Kd.V_at (base := w.heap.size) HO_5.out).2.2
       have q067 : (0 : Int) ≤ (x7_10 : Int) := of_decide_eq_true (by assumption)
       have hcut67 := cut_from (P := Try.prog) 31 9 .i64 Try.underlying31 hi067 1 hsz67 (some ad203) x5_1.length co64 x7_10 q067 q67
       have hr67 := Kd.F_cut (m := (x7_10 : Int).toNat) (c := co64) hC67 (by omega) hroom67
       obtain ⟨A67, hA67⟩ : ∃ A1, A1 = (if co64 = (x7_10 : Int).toNat then (some ad203) else ((some ad203) : Option Addr).map (·.add ((x7_10 : Int).toNat * 1))) := ⟨_, rfl⟩
       obtain ⟨c67, hc67⟩ : ∃ c1, c1 = co64 - (x7_10 : Int).toNat := ⟨_, rfl⟩
       have hy67 : y249.length = x5_1.length - (x7_10 : Int).toNat := (by rw [Ny249.out, List.length_drop] <;> omega)
       rw [show (x5_1).drop (x7_10 : Int).toNat = y249 from Ny249.out.symm] at hr67
       replace hr67 : Kd.F Kd.string _ _ A67 y249.length y249 := (by rw [hA67]; exact hr67)
       rw [← hy67, ← hA67, ← hc67] at hcut67
       have HO253 := am (show Kd.V Kd.string 9 _ w.heap.size _ (.slice A67 y249.length c67) y249 from Kd.V_mk (by rw [hy67, hc67]; exact Nat.sub_le_sub_right hroom67 _) hr67)
       have HC253 := am (show y249.length ≤ c67 from by rw [hy67, hc67]; exact Nat.sub_le_sub_right hroom67 _)
       clear hr67 hC67 hroom67 hi067 hsz67 hc67
       have KY67 := am hy67
       have KA67 := am hA67
       clear hy67 hA67
       replace q67 := eq_true q67
       refine start_ (n := 17) (S := fun w' => w'.cell? (ad199.add ((x6_1).toNat * 8)) = some (.string ((rd_T68 l0 x6_1).f0)) ∧ w'.cell? ⟨(ad199.add ((x6_1).toNat * 8)).block, (ad199.add ((x6_1).toNat * 8)).off + 1, none⟩ = some (.int .i64 ((rd_T68 l0 x6_1).f1.f0.f0)) ∧ w'.cell? ⟨(ad199.add ((x6_1).toNat * 8)).block, (ad199.add ((x6_1).toNat * 8)).off + 2, none⟩ = some (.int .i64 ((rd_T68 l0 x6_1).f1.f0.f1)) ∧ w'.cell? ⟨(ad199.add ((x6_1).toNat * 8)).block, (ad199.add ((x6_1).toNat * 8)).off + 3, none⟩ = some (.int .i64 ((rd_T68 l0 x6_1).f1.f0.f2)) ∧ w'.cell? ⟨(ad199.add ((x6_1).toNat * 8)).block, (ad199.add ((x6_1).toNat * 8)).off + 4, none⟩ = some (.int .i64 ((rd_T68 l0 x6_1).f1.f1.f0)) ∧ w'.cell? ⟨(ad199.add ((x6_1).toNat * 8)).block, (ad199.add ((x6_1).toNat * 8)).off + 5, none⟩ = some (.int .i64 ((rd_T68 l0 x6_1).f1.f1.f1)) ∧ w'.cell? ⟨(ad199.add ((x6_1).toNat * 8)).block, (ad199.add ((x6_1).toNat * 8)).off + 6, none⟩ = some (.int .i64 ((rd_T68 l0 x6_1).f1.f1.f2)) ∧ w'.cell? ⟨(ad199.add ((x6_1).toNat * 8)).block, (ad199.add ((x6_1).toNat * 8)).off + 7, none⟩ = some (.int .i64 ((rd_T68 l0 x6_1).f2))) (ds := []) #[F,F,F,F,F,F,F,F,F,F,F,F,F,F,F,F,F] (by kernel_rfl) rfl rfl ⟨((HB.out.cell (bq w _ hw242_0)).trans hw242_0), ((HB.out.cell (bq w _ hw242_1)).trans hw242_1), ((HB.out.cell (bq w _ hw242_2)).trans hw242_2), ((HB.out.cell (bq w _ hw242_3)).trans hw242_3), ((HB.out.cell (bq w _ hw242_4)).trans hw242_4), ((HB.out.cell (bq w _ hw242_5)).trans hw242_5), ((HB.out.cell (bq w _ hw242_6)).trans hw242_6), ((HB.out.cell (bq w _ hw242_7)).trans hw242_7)⟩ (fun hHeld => ?_); refine with_tabW r_Sources.tab10 r_Sources.bits10 (fun HT_ HW_ => ?_)
       generalize w63.drew = w65 at HO_5 BK195 HB HO238 HO253 hx242_0 hx242_1 hx242_2 hx242_3 hx242_4 hx242_5 hx242_6 hx242_7 hHeld ⊢
       refine pu (i := 1) (N := some 58) (fl 17 0 [1]) HT_ ?_
       refine pu (i := 2) (N := some 59) (fl 17 0 [1, 2]) HT_ ?_
       refine pu (i := 3) (N := some 60) (fl 17 0 [1, 2, 3]) HT_ ?_
       refine pu (i := 5) (N := some 62) (fl 17 0 [1, 2, 3, 5]) HT_ ?_
       refine pu (i := 6) (N := some 63) (fl 17 0 [1, 2, 3, 5, 6]) HT_ ?_
       refine pu (i := 7) (N := some 64) (fl 17 0 [1, 2, 3, 5, 6, 7]) HT_ ?_
       refine pu (i := 8) (N := some 65) (fl 17 0 [1, 2, 3, 5, 6, 7, 8]) HT_ ?_
       refine pu (i := 12) (N := some 69) (fl 17 0 [1, 2, 3, 5, 6, 7, 8, 12]) HT_ ?_
       refine pu (i := 13) (N := some 70) (fl 17 0 [1, 2, 3, 5, 6, 7, 8, 12, 13]) HT_ ?_
       refine pu (i := 14) (N := some 71) (fl 17 0 [1, 2, 3, 5, 6, 7, 8, 12, 13, 14]) HT_ ?_
       refine tk (i := 9) (N := some 66) (fl 17 0 [1, 2, 3, 5, 6, 7, 8, 9, 12, 13, 14]) HT_ HW_ hHeld ?_
       refine join_ (σ := Value × Value × Value) 3 #[T,T,T,T,T,T,T,T,T,T,T,F,T,T,T,F,F] (fun s_ => [(57, s_.1), (61, s_.2.1), (67, s_.2.2)]) (fun s_ w' => (w'.cell? (ad199.add ((x6_1).toNat * 8)) = some (.string ((rd_T68 l0 x6_1).f0)) ∧ w'.cell? ⟨(ad199.add ((x6_1).toNat * 8)).block, (ad199.add ((x6_1).toNat * 8)).off + 1, none⟩ = some (.int .i64 ((rd_T68 l0 x6_1).f1.f0.f0)) ∧ w'.cell? ⟨(ad199.add ((x6_1).toNat * 8)).block, (ad199.add ((x6_1).toNat * 8)).off + 2, none⟩ = some (.int .i64 ((rd_T68 l0 x6_1).f1.f0.f1)) ∧ w'.cell? ⟨(ad199.add ((x6_1).toNat * 8)).block, (ad199.add ((x6_1).toNat * 8)).off + 3, none⟩ = some (.int .i64 ((rd_T68 l0 x6_1).f1.f0.f2)) ∧ w'.cell? ⟨(ad199.add ((x6_1).toNat * 8)).block, (ad199.add ((x6_1).toNat * 8)).off + 4, none⟩ = some (.int .i64 ((rd_T68 l0 x6_1).f1.f1.f0)) ∧ w'.cell? ⟨(ad199.add ((x6_1).toNat * 8)).block, (ad199.add ((x6_1).toNat * 8)).off + 5, none⟩ = some (.int .i64 ((rd_T68 l0 x6_1).f1.f1.f1)) ∧ w'.cell? ⟨(ad199.add ((x6_1).toNat * 8)).block, (ad199.add ((x6_1).toNat * 8)).off + 6, none⟩ = some (.int .i64 ((rd_T68 l0 x6_1).f1.f1.f2)) ∧ w'.cell? ⟨(ad199.add ((x6_1).toNat * 8)).block, (ad199.add ((x6_1).toNat * 8)).off + 7, none⟩ = some (.int .i64 ((rd_T68 l0 x6_1).f2))) ∧ (Kd.V Kd.string 9 w' w.heap.size (fun k_ => (w.heap.size ≤ k_) ∧ some k_ ≠ (s_.2.1 : Value).ownBlock ∧ some k_ ≠ (s_.2.2 : Value).ownBlock ∧ k_ ≠ gb195) (.slice (some ad203) y234.length co64) y234) ∧ (Kd.R Kd.string 9 w' w.heap.size (fun k_ => (w.heap.size ≤ k_) ∧ some k_ ≠ (s_.2.2 : Value).ownBlock) s_.2.1 y239) ∧ (Kd.R Kd.string 9 w' w.heap.size (fun k_ => (w.heap.size ≤ k_) ∧ some k_ ≠ (s_.2.1 : Value).ownBlock) s_.2.2 y243) ∧ (Kd.V Kd.string 9 w' w.heap.size (fun k_ => (w.heap.size ≤ k_) ∧ some k_ ≠ (s_.2.1 : Value).ownBlock ∧ some k_ ≠ (s_.2.2 : Value).ownBlock ∧ k_ ≠ gb195) (.slice A67 y249.length c67) y249) ∧ (Kd.V Kd.string 9 w' w.heap.size (fun k_ => (w.heap.size ≤ k_) ∧ some k_ ≠ (s_.2.1 : Value).ownBlock ∧ some k_ ≠ (s_.2.2 : Value).ownBlock ∧ k_ ≠ gb195) (.slice (some ad203) x5_1.length co64) x5_1) ∧ (w'.heap[gb195]? = some (.cells #[.int .i64 a1_0, .int .i64 a1_1, .int .i64 a1_2] 24 (0, 0))) ∧ (Below w.heap.size w w')) ?_ ?_
       rotate_left
       ·intro hCont
        refine two_ (i := 0) (j := 10) (Ni := some 57) (Nj := some 67) #[T,T,T,T,F,T,T,T,T,T,F,F,T,T,T,F,F] (fl 17 0 [1, 2, 3, 5, 6, 7, 8, 9, 10, 12, 13, 14]) rfl rfl rfl rfl (two_of HT_.out (by kernel_rfl)) (by decide) (by decide) (fun K hK => ?_) (fun K hK => ?_)
        ·skip
         refine Kd.R_lit_step Kd.string _ 9 ?hg (N := 57) ?hd (xs := ([] : List ByteArray)) (inner := []) (ok := fun _ => True) (okp := fun _ => True) ?hr ?hp (fun _ hk => hk) trivial (Below.refl _ _) (Nat.le_refl _) (by simp) ?_; (case hd | hg => rfl); (case hr => first | (go_simp; done) | (go_simp; rfl)); (case hp => exact (Reps.none _ _))
         intro v232 w68 ho69 hb hg_ hnew_
         clear hg_ hnew_
         (first | rw [← Ny231.out] at ho69 | (simp only [Int.reduceToNat] at ho69; rw [← Ny231.out] at ho69))
         have n0_ := am (Kd.V_elder' (fV HO_5.out) (Kd.R_base ho69) hb)
         have n1_ := am (Kd.V_elder' (fV HO238.out) (Kd.R_base ho69) hb)
         have n2_ := am (Kd.V_elder' (fV HO253.out) (Kd.R_base ho69) hb)
         have n3_ := am (Kd.R_lower (Kd.R_newM (M := fun k_ => (w.heap.size ≤ k_)) ho69 (wz (fW HB.out)) (fun k_ h_ => h_)) (wz (fW HB.out)))
         have n4_ := bB BK195 hb
         have n5_ := bS HB hb
         clear HO_5 HO238 HO253 BK195 HB
         have HO_5 := n0_
         have HO238 := n1_
         have HO253 := n2_
         have HO233 := n3_
         have BK195 := n4_
         have HB := n5_
         clear n0_ n1_ n2_ n3_ n4_ n5_ hb ho69
         refine hK.out _ _ ⟨((HB.out.cell (bq w _ hw242_0)).trans hw242_0), ((HB.out.cell (bq w _ hw242_1)).trans hw242_1), ((HB.out.cell (bq w _ hw242_2)).trans hw242_2), ((HB.out.cell (bq w _ hw242_3)).trans hw242_3), ((HB.out.cell (bq w _ hw242_4)).trans hw242_4), ((HB.out.cell (bq w _ hw242_5)).trans hw242_5), ((HB.out.cell (bq w _ hw242_6)).trans hw242_6), ((HB.out.cell (bq w _ hw242_7)).trans hw242_7)⟩ (fun hHeld => ?_)
         clear hK K
         refine norm_ (a' := ?_) ?_ ?_
         rotate_left
         ·show Act.put _ (some 57) _ = _
          simp only [Act.put, psl, i64_w, i32_w]
          rfl
         refine two_ (i := 4) (j := 10) (Ni := some 61) (Nj := some 67) #[T,T,T,T,T,T,T,T,T,T,F,F,T,T,T,F,F] (fl 17 4 [5, 6, 7, 8, 9, 10, 12, 13, 14]) rfl rfl rfl rfl (two_of HT_.out (by kernel_rfl)) (by decide) (by decide) (fun K hK => ?_) (fun K hK => ?_)
         ·skip
          refine Kd.R_append_rows_step Kd.string (w0 := w) w.heap.size (by rfl) (.tmp 57) (.tmp 60) 31 9 (.string ⟨#[]⟩) 16 rfl Try.underlying31 info9 rfl (by decide) (by omega) v232 y231 y234 _ _ _ (fun k_ => (w.heap.size ≤ k_)) (fun _ => False) rfl rfl ?aO ?aR (fun _ _ h => h) (fun _ h => h.elim) ?aF ?aB ?aS ?aL ?_
          (case aR => repeat (first | exact (Kd.V_reads' HO238.out).2.2 | (with_reducible refine Kd.C_alloc ?_ _) | (with_reducible refine Kd.C_drewN ?_ _) | (with_reducible refine Kd.C_drew ?_)))
          (case aB => exact (fW HB.out))
          (case aF => exact (fun k_ hk => (Nat.le_trans (wz (fW HB.out)) hk)))
          (case aO => exact (by (with_reducible repeat (first | apply Kd.R_alloc | apply Kd.R_drewN | apply Kd.R_drew)); exact Kd.R_mono HO233.out (fun _ hk => hk.1)))
          (case aS => exact (wz (fW HB.out)))
          (case aL => have := LMc58.out; omega)
          intro v240 w70 ho hb hg hat
          rw [← Ny239.out] at ho
          have n0_ := am (Kd.V_afterv (ok := (fun k_ => (w.heap.size ≤ k_) ∧ k_ ≠ gb195)) (fV HO_5.out) hg hat)
          have n1_ := am (blk_grown (g := gb195) (o := .cells #[.int .i64 a1_0, .int .i64 a1_1, .int .i64 a1_2] 24 (0, 0)) (fb BK195.out) hg (Kd.R_ne HO233.out BK195.out (by decide)))
          have n2_ := am (Kd.V_afterv (ok := (fun k_ => (w.heap.size ≤ k_) ∧ k_ ≠ gb195)) (fV HO238.out) hg hat)
          have n3_ := am (Kd.V_afterv (ok := (fun k_ => (w.heap.size ≤ k_) ∧ k_ ≠ gb195)) (fV HO253.out) hg hat)
          have n4_ := am (hb)
          have n5_ := am (ho)
          clear HO_5 BK195 HO238 HO253 HB HO233
          have HO_5 := n0_
          have BK195 := n1_
          have HO238 := n2_
          have HO253 := n3_
          have HB := n4_
          have HO241 := n5_
          clear n0_ n1_ n2_ n3_ n4_ n5_ ho hb hg hat
          refine hK.out _ _ ⟨((HB.out.cell (bq w _ hw242_0)).trans hw242_0), ((HB.out.cell (bq w _ hw242_1)).trans hw242_1), ((HB.out.cell (bq w _ hw242_2)).trans hw242_2), ((HB.out.cell (bq w _ hw242_3)).trans hw242_3), ((HB.out.cell (bq w _ hw242_4)).trans hw242_4), ((HB.out.cell (bq w _ hw242_5)).trans hw242_5), ((HB.out.cell (bq w _ hw242_6)).trans hw242_6), ((HB.out.cell (bq w _ hw242_7)).trans hw242_7)⟩ (fun hHeld => ?_)
          clear hK K
          refine norm_ (a' := ?_) ?_ ?_
          rotate_left
          ·show Act.put _ (some 61) _ = _
           simp only [Act.put, psl, i64_w, i32_w]
           rfl
          refine one_ (i := 10) (N := some 67) (fl 17 11 [12, 13, 14]) rfl rfl (one_of HT_.out (by kernel_rfl)) (by decide) (fun K hK => ?_)
          refine Kd.R_lit_step Kd.string _ 9 ?hg (N := 67) ?hd (xs := ([(rd_T68 l0 x6_1).f0] : List ByteArray)) (inner := [.string ((rd_T68 l0 x6_1).f0)]) (ok := fun _ => True) (okp := fun _ => True) ?hr ?hp (fun _ hk => hk) trivial (Below.refl _ _) (Nat.le_refl _) (by simp) ?_; (case hd | hg => rfl); (case hr => first | (go_simp; done) | (go_simp; rfl)); (case hp => exact (Reps.one (show Kd.M Kd.string _ _ _ ((rd_T68 l0 x6_1).f0) [.string ((rd_T68 l0 x6_1).f0)] from rfl) (Reps.none _ _)))
          intro v244 w71 ho72 hb hg_ hnew_
          clear hg_ hnew_
          (first | rw [← Ny243.out] at ho72 | (simp only [Int.reduceToNat] at ho72; rw [← Ny243.out] at ho72))
          have n0_ := am (Kd.V_elder' (fV HO_5.out) (Kd.R_base ho72) hb)
          have n1_ := am (Kd.V_elder' (fV HO238.out) (Kd.R_base ho72) hb)
          have n2_ := am (Kd.V_elder' (fV HO253.out) (Kd.R_base ho72) hb)
          have n3_ := am (Kd.R_elder' (fR HO241.out) (Kd.R_base ho72) hb)
          have n4_ := am (Kd.R_lower (Kd.R_new' (Kd.R_newM (M := fun k_ => (w.heap.size ≤ k_)) ho72 (wz (fW HB.out)) (fun k_ h_ => h_)) (Kd.R_lt (fR HO241.out))) (wz (fW HB.out)))
          have n5_ := bB BK195 hb
          have n6_ := bS HB hb
          clear HO_5 HO238 HO253 HO241 BK195 HB
          have HO_5 := n0_
          have HO238 := n1_
          have HO253 := n2_
          have HO241 := n3_
          have HO245 := n4_
          have BK195 := n5_
          have HB := n6_
          clear n0_ n1_ n2_ n3_ n4_ n5_ n6_ hb ho72
          refine hK.out _ _ ⟨((HB.out.cell (bq w _ hw242_0)).trans hw242_0), ((HB.out.cell (bq w _ hw242_1)).trans hw242_1), ((HB.out.cell (bq w _ hw242_2)).trans hw242_2), ((HB.out.cell (bq w _ hw242_3)).trans hw242_3), ((HB.out.cell (bq w _ hw242_4)).trans hw242_4), ((HB.out.cell (bq w _ hw242_5)).trans hw242_5), ((HB.out.cell (bq w _ hw242_6)).trans hw242_6), ((HB.out.cell (bq w _ hw242_7)).trans hw242_7)⟩ (fun hHeld => ?_)
          clear hK K
          refine norm_ (a' := ?_) ?_ ?_
          rotate_left
          ·show Act.put _ (some 67) _ = _
           simp only [Act.put, psl, i64_w, i32_w]
           rfl
          exact norm_ (by simp only [putAll, Act.put, psl]) (hCont (v232, v240, v244) _ ⟨hHeld, (by (with_reducible repeat (first | apply Kd.V_alloc | apply Kd.V_drewN | apply Kd.V_drew)); exact Kd.V_mono HO238.out (fun _ hk => ⟨hk.1.1.1, ⟨hk.1.2, ⟨hk.2, hk.1.1.2⟩⟩⟩)), (fR HO241.out), (by (with_reducible repeat (first | apply Kd.R_alloc | apply Kd.R_drewN | apply Kd.R_drew)); exact Kd.R_mono HO245.out (fun _ hk => ⟨hk.1.1, hk.2⟩)), (by (with_reducible repeat (first | apply Kd.V_alloc | apply Kd.V_drewN | apply Kd.V_drew)); exact Kd.V_mono HO253.out (fun _ hk => ⟨hk.1.1.1, ⟨hk.1.2, ⟨hk.2, hk.1.1.2⟩⟩⟩)), (by (with_reducible repeat (first | apply Kd.V_alloc | apply Kd.V_drewN | apply Kd.V_drew)); exact Kd.V_mono HO_5.out (fun _ hk => ⟨hk.1.1.1, ⟨hk.1.2, ⟨hk.2, hk.1.1.2⟩⟩⟩)), (fb BK195.out), (fW HB.out)⟩)
         skip
         refine Kd.R_lit_step Kd.string _ 9 ?hg (N := 67) ?hd (xs := ([(rd_T68 l0 x6_1).f0] : List ByteArray)) (inner := [.string ((rd_T68 l0 x6_1).f0)]) (ok := fun _ => True) (okp := fun _ => True) ?hr ?hp (fun _ hk => hk) trivial (Below.refl _ _) (Nat.le_refl _) (by simp) ?_; (case hd | hg => rfl); (case hr => first | (go_simp; done) | (go_simp; rfl)); (case hp => exact (Reps.one (show Kd.M Kd.string _ _ _ ((rd_T68 l0 x6_1).f0) [.string ((rd_T68 l0 x6_1).f0)] from rfl) (Reps.none _ _)))
         intro v244 w70 ho71 hb hg_ hnew_
         clear hg_ hnew_
         (first | rw [← Ny243.out] at ho71 | (simp only [Int.reduceToNat] at ho71; rw [← Ny243.out] at ho71))
         have n0_ := am (Kd.V_elder' (fV HO_5.out) (Kd.R_base ho71) hb)
         have n1_ := am (Kd.V_elder' (fV HO238.out) (Kd.R_base ho71) hb)
         have n2_ := am (Kd.V_elder' (fV HO253.out) (Kd.R_base ho71) hb)
         have n3_ := am (Kd.R_elder' (fR HO233.out) (Kd.R_base ho71) hb)
         have n4_ := am (Kd.R_lower (Kd.R_new' (Kd.R_newM (M := fun k_ => (w.heap.size ≤ k_)) ho71 (wz (fW HB.out)) (fun k_ h_ => h_)) (Kd.R_lt (fR HO233.out))) (wz (fW HB.out)))
         have n5_ := bB BK195 hb
         have n6_ := bS HB hb
         clear HO_5 HO238 HO253 HO233 BK195 HB
         have HO_5 := n0_
         have HO238 := n1_
         have HO253 := n2_
         have HO233 := n3_
         have HO245 := n4_
         have BK195 := n5_
         have HB := n6_
         clear n0_ n1_ n2_ n3_ n4_ n5_ n6_ hb ho71
         refine hK.out _ _ ⟨((HB.out.cell (bq w _ hw242_0)).trans hw242_0), ((HB.out.cell (bq w _ hw242_1)).trans hw242_1), ((HB.out.cell (bq w _ hw242_2)).trans hw242_2), ((HB.out.cell (bq w _ hw242_3)).trans hw242_3), ((HB.out.cell (bq w _ hw242_4)).trans hw242_4), ((HB.out.cell (bq w _ hw242_5)).trans hw242_5), ((HB.out.cell (bq w _ hw242_6)).trans hw242_6), ((HB.out.cell (bq w _ hw242_7)).trans hw242_7)⟩ (fun hHeld => ?_)
         clear hK K
         refine norm_ (a' := ?_) ?_ ?_
         rotate_left
         ·show Act.put _ (some 67) _ = _
          simp only [Act.put, psl, i64_w, i32_w]
          rfl
         refine one_ (i := 4) (N := some 61) (fl 17 11 [12, 13, 14]) rfl rfl (one_of HT_.out (by kernel_rfl)) (by decide) (fun K hK => ?_)
         refine Kd.R_append_rows_step Kd.string (w0 := w) w.heap.size (by rfl) (.tmp 57) (.tmp 60) 31 9 (.string ⟨#[]⟩) 16 rfl Try.underlying31 info9 rfl (by decide) (by omega) v232 y231 y234 _ _ _ (fun k_ => (w.heap.size ≤ k_) ∧ some k_ ≠ (v244 : Value).ownBlock) (fun _ => False) rfl rfl ?aO ?aR (fun _ _ h => h) (fun _ h => h.elim) ?aF ?aB ?aS ?aL ?_
         (case aR => repeat (first | exact (Kd.V_reads' HO238.out).2.2 | (with_reducible refine Kd.C_alloc ?_ _) | (with_reducible refine Kd.C_drewN ?_ _) | (with_reducible refine Kd.C_drew ?_)))
         (case aB => exact (fW HB.out))
         (case aF => exact (fun k_ hk => ⟨(Nat.le_trans (wz (fW HB.out)) hk), Kd.fresh' (Kd.R_lt (fR HO245.out)) k_ hk⟩))
         (case aO => exact (by (with_reducible repeat (first | apply Kd.R_alloc | apply Kd.R_drewN | apply Kd.R_drew)); exact Kd.R_mono HO233.out (fun _ hk => ⟨hk.1.1, hk.2⟩)))
         (case aS => exact (wz (fW HB.out)))
         (case aL => have := LMc58.out; omega)
         intro v240 w72 ho hb hg hat
         rw [← Ny239.out] at ho
         have n0_ := am (Kd.V_afterv (ok := (fun k_ => (w.heap.size ≤ k_) ∧ some k_ ≠ (v244 : Value).ownBlock ∧ k_ ≠ gb195)) (by (with_reducible repeat (first | apply Kd.V_alloc | apply Kd.V_drewN | apply Kd.V_drew)); exact Kd.V_mono HO_5.out (fun _ hk => ⟨⟨hk.1.1.1, ⟨hk.2, hk.1.1.2⟩⟩, hk.1.2⟩)) hg hat)
         have n1_ := am (blk_grown (g := gb195) (o := .cells #[.int .i64 a1_0, .int .i64 a1_1, .int .i64 a1_2] 24 (0, 0)) (fb BK195.out) hg (Kd.R_ne HO233.out BK195.out (by decide)))
         have n2_ := am (Kd.V_afterv (ok := (fun k_ => (w.heap.size ≤ k_) ∧ some k_ ≠ (v244 : Value).ownBlock ∧ k_ ≠ gb195)) (by (with_reducible repeat (first | apply Kd.V_alloc | apply Kd.V_drewN | apply Kd.V_drew)); exact Kd.V_mono HO238.out (fun _ hk => ⟨⟨hk.1.1.1, ⟨hk.2, hk.1.1.2⟩⟩, hk.1.2⟩)) hg hat)
         have n3_ := am (Kd.V_afterv (ok := (fun k_ => (w.heap.size ≤ k_) ∧ some k_ ≠ (v244 : Value).ownBlock ∧ k_ ≠ gb195)) (by (with_reducible repeat (first | apply Kd.V_alloc | apply Kd.V_drewN | apply Kd.V_drew)); exact Kd.V_mono HO253.out (fun _ hk => ⟨⟨hk.1.1.1, ⟨hk.2, hk.1.1.2⟩⟩, hk.1.2⟩)) hg hat)
         have n4_ := am (Kd.R_after (ok := (fun k_ => (w.heap.size ≤ k_))) (by (with_reducible repeat (first | apply Kd.R_alloc | apply Kd.R_drewN | apply Kd.R_drew)); exact Kd.R_mono HO245.out (fun _ hk => ⟨hk.1.1, hk.2⟩)) hg hat)
         have n5_ := am (hb)
         have n6_ := am (ho)
         clear HO_5 BK195 HO238 HO253 HO245 HB HO233
         have HO_5 := n0_
         have BK195 := n1_
         have HO238 := n2_
         have HO253 := n3_
         have HO245 := n4_
         have HB := n5_
         have HO241 := n6_
         clear n0_ n1_ n2_ n3_ n4_ n5_ n6_ ho hb hg hat
         refine hK.out _ _ ⟨((HB.out.cell (bq w _ hw242_0)).trans hw242_0), ((HB.out.cell (bq w _ hw242_1)).trans hw242_1), ((HB.out.cell (bq w _ hw242_2)).trans hw242_2), ((HB.out.cell (bq w _ hw242_3)).trans hw242_3), ((HB.out.cell (bq w _ hw242_4)).trans hw242_4), ((HB.out.cell (bq w _ hw242_5)).trans hw242_5), ((HB.out.cell (bq w _ hw242_6)).trans hw242_6), ((HB.out.cell (bq w _ hw242_7)).trans hw242_7)⟩ (fun hHeld => ?_)
         clear hK K
         refine norm_ (a' := ?_) ?_ ?_
         rotate_left
         ·show Act.put _ (some 61) _ = _
          simp only [Act.put, psl, i64_w, i32_w]
          rfl
         exact norm_ (by simp only [putAll, Act.put, psl]) (hCont (v232, v240, v244) _ ⟨hHeld, (by (with_reducible repeat (first | apply Kd.V_alloc | apply Kd.V_drewN | apply Kd.V_drew)); exact Kd.V_mono HO238.out (fun _ hk => ⟨hk.1.1, ⟨hk.2, ⟨hk.1.2.1, hk.1.2.2⟩⟩⟩)), (fR HO241.out), (fR HO245.out), (by (with_reducible repeat (first | apply Kd.V_alloc | apply Kd.V_drewN | apply Kd.V_drew)); exact Kd.V_mono HO253.out (fun _ hk => ⟨hk.1.1, ⟨hk.2, ⟨hk.1.2.1, hk.1.2.2⟩⟩⟩)), (by (with_reducible repeat (first | apply Kd.V_alloc | apply Kd.V_drewN | apply Kd.V_drew)); exact Kd.V_mono HO_5.out (fun _ hk => ⟨hk.1.1, ⟨hk.2, ⟨hk.1.2.1, hk.1.2.2⟩⟩⟩)), (fb BK195.out), (fW HB.out)⟩)
        skip
        refine Kd.R_lit_step Kd.string _ 9 ?hg (N := 67) ?hd (xs := ([(rd_T68 l0 x6_1).f0] : List ByteArray)) (inner := [.string ((rd_T68 l0 x6_1).f0)]) (ok := fun _ => True) (okp := fun _ => True) ?hr ?hp (fun _ hk => hk) trivial (Below.refl _ _) (Nat.le_refl _) (by simp) ?_; (case hd | hg => rfl); (case hr => first | (go_simp; done) | (go_simp; rfl)); (case hp => exact (Reps.one (show Kd.M Kd.string _ _ _ ((rd_T68 l0 x6_1).f0) [.string ((rd_T68 l0 x6_1).f0)] from rfl) (Reps.none _ _)))
        intro v244 w68 ho69 hb hg_ hnew_
        clear hg_ hnew_
        (first | rw [← Ny243.out] at ho69 | (simp only [Int.reduceToNat] at ho69; rw [← Ny243.out] at ho69))
        have n0_ := am (Kd.V_elder' (fV HO_5.out) (Kd.R_base ho69) hb)
        have n1_ := am (Kd.V_elder' (fV HO238.out) (Kd.R_base ho69) hb)
        have n2_ := am (Kd.V_elder' (fV HO253.out) (Kd.R_base ho69) hb)
        have n3_ := am (Kd.R_lower (Kd.R_newM (M := fun k_ => (w.heap.size ≤ k_)) ho69 (wz (fW HB.out)) (fun k_ h_ => h_)) (wz (fW HB.out)))
        have n4_ := bB BK195 hb
        have n5_ := bS HB hb
        clear HO_5 HO238 HO253 BK195 HB
        have HO_5 := n0_
        have HO238 := n1_
        have HO253 := n2_
        have HO245 := n3_
        have BK195 := n4_
        have HB := n5_
        clear n0_ n1_ n2_ n3_ n4_ n5_ hb ho69
        refine hK.out _ _ ⟨((HB.out.cell (bq w _ hw242_0)).trans hw242_0), ((HB.out.cell (bq w _ hw242_1)).trans hw242_1), ((HB.out.cell (bq w _ hw242_2)).trans hw242_2), ((HB.out.cell (bq w _ hw242_3)).trans hw242_3), ((HB.out.cell (bq w _ hw242_4)).trans hw242_4), ((HB.out.cell (bq w _ hw242_5)).trans hw242_5), ((HB.out.cell (bq w _ hw242_6)).trans hw242_6), ((HB.out.cell (bq w _ hw242_7)).trans hw242_7)⟩ (fun hHeld => ?_)
        clear hK K
        refine norm_ (a' := ?_) ?_ ?_
        rotate_left
        ·show Act.put _ (some 67) _ = _
         simp only [Act.put, psl, i64_w, i32_w]
         rfl
        refine one_ (i := 0) (N := some 57) (fl 17 4 [5, 6, 7, 8, 9, 10, 12, 13, 14]) rfl rfl (one_of HT_.out (by kernel_rfl)) (by decide) (fun K hK => ?_)
        refine Kd.R_lit_step Kd.string _ 9 ?hg (N := 57) ?hd (xs := ([] : List ByteArray)) (inner := []) (ok := fun _ => True) (okp := fun _ => True) ?hr ?hp (fun _ hk => hk) trivial (Below.refl _ _) (Nat.le_refl _) (by simp) ?_; (case hd | hg => rfl); (case hr => first | (go_simp; done) | (go_simp; rfl)); (case hp => exact (Reps.none _ _))
        intro v232 w70 ho71 hb hg_ hnew_
        clear hg_ hnew_
        (first | rw [← Ny231.out] at ho71 | (simp only [Int.reduceToNat] at ho71; rw [← Ny231.out] at ho71))
        have n0_ := am (Kd.V_elder' (fV HO_5.out) (Kd.R_base ho71) hb)
        have n1_ := am (Kd.V_elder' (fV HO238.out) (Kd.R_base ho71) hb)
        have n2_ := am (Kd.V_elder' (fV HO253.out) (Kd.R_base ho71) hb)
        have n3_ := am (Kd.R_elder' (fR HO245.out) (Kd.R_base ho71) hb)
        have n4_ := am (Kd.R_lower (Kd.R_new' (Kd.R_newM (M := fun k_ => (w.heap.size ≤ k_)) ho71 (wz (fW HB.out)) (fun k_ h_ => h_)) (Kd.R_lt (fR HO245.out))) (wz (fW HB.out)))
        have n5_ := bB BK195 hb
        have n6_ := bS HB hb
        clear HO_5 HO238 HO253 HO245 BK195 HB
        have HO_5 := n0_
        have HO238 := n1_
        have HO253 := n2_
        have HO245 := n3_
        have HO233 := n4_
        have BK195 := n5_
        have HB := n6_
        clear n0_ n1_ n2_ n3_ n4_ n5_ n6_ hb ho71
        refine hK.out _ _ ⟨((HB.out.cell (bq w _ hw242_0)).trans hw242_0), ((HB.out.cell (bq w _ hw242_1)).trans hw242_1), ((HB.out.cell (bq w _ hw242_2)).trans hw242_2), ((HB.out.cell (bq w _ hw242_3)).trans hw242_3), ((HB.out.cell (bq w _ hw242_4)).trans hw242_4), ((HB.out.cell (bq w _ hw242_5)).trans hw242_5), ((HB.out.cell (bq w _ hw242_6)).trans hw242_6), ((HB.out.cell (bq w _ hw242_7)).trans hw242_7)⟩ (fun hHeld => ?_)
        clear hK K
        refine norm_ (a' := ?_) ?_ ?_
        rotate_left
        ·show Act.put _ (some 57) _ = _
         simp only [Act.put, psl, i64_w, i32_w]
         rfl
        refine one_ (i := 4) (N := some 61) (fl 17 11 [12, 13, 14]) rfl rfl (one_of HT_.out (by kernel_rfl)) (by decide) (fun K hK => ?_)
        refine Kd.R_append_rows_step Kd.string (w0 := w) w.heap.size (by rfl) (.tmp 57) (.tmp 60) 31 9 (.string ⟨#[]⟩) 16 rfl Try.underlying31 info9 rfl (by decide) (by omega) v232 y231 y234 _ _ _ (fun k_ => (w.heap.size ≤ k_) ∧ some k_ ≠ (v244 : Value).ownBlock) (fun _ => False) rfl rfl ?aO ?aR (fun _ _ h => h) (fun _ h => h.elim) ?aF ?aB ?aS ?aL ?_
        (case aR => repeat (first | exact (Kd.V_reads' HO238.out).2.2 | (with_reducible refine Kd.C_alloc ?_ _) | (with_reducible refine Kd.C_drewN ?_ _) | (with_reducible refine Kd.C_drew ?_)))
        (case aB => exact (fW HB.out))
        (case aF => exact (fun k_ hk => ⟨(Nat.le_trans (wz (fW HB.out)) hk), Kd.fresh' (Kd.R_lt (fR HO245.out)) k_ hk⟩))
        (case aO => exact (by (with_reducible repeat (first | apply Kd.R_alloc | apply Kd.R_drewN | apply Kd.R_drew)); exact Kd.R_mono HO233.out (fun _ hk => ⟨hk.1.1, hk.2⟩)))
        (case aS => exact (wz (fW HB.out)))
        (case aL => have := LMc58.out; omega)
        intro v240 w72 ho hb hg hat
        rw [← Ny239.out] at ho
        have n0_ := am (Kd.V_afterv (ok := (fun k_ => (w.heap.size ≤ k_) ∧ some k_ ≠ (v244 : Value).ownBlock ∧ k_ ≠ gb195)) (by (with_reducible repeat (first | apply Kd.V_alloc | apply Kd.V_drewN | apply Kd.V_drew)); exact Kd.V_mono HO_5.out (fun _ hk => ⟨⟨hk.1.1.1, ⟨hk.1.2, hk.1.1.2⟩⟩, hk.2⟩)) hg hat)
        have n1_ := am (blk_grown (g := gb195) (o := .cells #[.int .i64 a1_0, .int .i64 a1_1, .int .i64 a1_2] 24 (0, 0)) (fb BK195.out) hg (Kd.R_ne HO233.out BK195.out (by decide)))
        have n2_ := am (Kd.V_afterv (ok := (fun k_ => (w.heap.size ≤ k_) ∧ some k_ ≠ (v244 : Value).ownBlock ∧ k_ ≠ gb195)) (by (with_reducible repeat (first | apply Kd.V_alloc | apply Kd.V_drewN | apply Kd.V_drew)); exact Kd.V_mono HO238.out (fun _ hk => ⟨⟨hk.1.1.1, ⟨hk.1.2, hk.1.1.2⟩⟩, hk.2⟩)) hg hat)
        have n3_ := am (Kd.V_afterv (ok := (fun k_ => (w.heap.size ≤ k_) ∧ some k_ ≠ (v244 : Value).ownBlock ∧ k_ ≠ gb195)) (by (with_reducible repeat (first | apply Kd.V_alloc | apply Kd.V_drewN | apply Kd.V_drew)); exact Kd.V_mono HO253.out (fun _ hk => ⟨⟨hk.1.1.1, ⟨hk.1.2, hk.1.1.2⟩⟩, hk.2⟩)) hg hat)
        have n4_ := am (Kd.R_after (ok := (fun k_ => (w.heap.size ≤ k_))) (by (with_reducible repeat (first | apply Kd.R_alloc | apply Kd.R_drewN | apply Kd.R_drew)); exact Kd.R_mono HO245.out (fun _ hk => ⟨hk.1.1, hk.2⟩)) hg hat)
        have n5_ := am (hb)
        have n6_ := am (ho)
        clear HO_5 BK195 HO238 HO253 HO245 HB HO233
        have HO_5 := n0_
        have BK195 := n1_
        have HO238 := n2_
        have HO253 := n3_
        have HO245 := n4_
        have HB := n5_
        have HO241 := n6_
        clear n0_ n1_ n2_ n3_ n4_ n5_ n6_ ho hb hg hat
        refine hK.out _ _ ⟨((HB.out.cell (bq w _ hw242_0)).trans hw242_0), ((HB.out.cell (bq w _ hw242_1)).trans hw242_1), ((HB.out.cell (bq w _ hw242_2)).trans hw242_2), ((HB.out.cell (bq w _ hw242_3)).trans hw242_3), ((HB.out.cell (bq w _ hw242_4)).trans hw242_4), ((HB.out.cell (bq w _ hw242_5)).trans hw242_5), ((HB.out.cell (bq w _ hw242_6)).trans hw242_6), ((HB.out.cell (bq w _ hw242_7)).trans hw242_7)⟩ (fun hHeld => ?_)
        clear hK K
        refine norm_ (a' := ?_) ?_ ?_
        rotate_left
        ·show Act.put _ (some 61) _ = _
         simp only [Act.put, psl, i64_w, i32_w]
         rfl
        exact norm_ (by simp only [putAll, Act.put, psl]) (hCont (v232, v240, v244) _ ⟨hHeld, (by (with_reducible repeat (first | apply Kd.V_alloc | apply Kd.V_drewN | apply Kd.V_drew)); exact Kd.V_mono HO238.out (fun _ hk => ⟨hk.1.1, ⟨hk.2, ⟨hk.1.2.1, hk.1.2.2⟩⟩⟩)), (fR HO241.out), (fR HO245.out), (by (with_reducible repeat (first | apply Kd.V_alloc | apply Kd.V_drewN | apply Kd.V_drew)); exact Kd.V_mono HO253.out (fun _ hk => ⟨hk.1.1, ⟨hk.2, ⟨hk.1.2.1, hk.1.2.2⟩⟩⟩)), (by (with_reducible repeat (first | apply Kd.V_alloc | apply Kd.V_drewN | apply Kd.V_drew)); exact Kd.V_mono HO_5.out (fun _ hk => ⟨hk.1.1, ⟨hk.2, ⟨hk.1.2.1, hk.1.2.2⟩⟩⟩)), (fb BK195.out), (fW HB.out)⟩)
       rintro ⟨v232, v240, v244⟩ w73 ⟨hS_, h0_, h1_, h2_, h3_, h4_, h5_, h6_⟩
       have n0_ : Aside0 (Kd.V Kd.string 9 w73 w.heap.size (fun k_ => (w.heap.size ≤ k_) ∧ some k_ ≠ (v240 : Value).ownBlock ∧ some k_ ≠ (v244 : Value).ownBlock ∧ k_ ≠ gb195) (.slice (some ad203) y234.length co64) y234) := ⟨h0_⟩
       have n1_ : Aside0 (Kd.R Kd.string 9 w73 w.heap.size (fun k_ => (w.heap.size ≤ k_) ∧ some k_ ≠ (v244 : Value).ownBlock) v240 y239) := ⟨h1_⟩
       have n2_ : Aside0 (Kd.R Kd.string 9 w73 w.heap.size (fun k_ => (w.heap.size ≤ k_) ∧ some k_ ≠ (v240 : Value).ownBlock) v244 y243) := ⟨h2_⟩
       have n3_ : Aside0 (Kd.V Kd.string 9 w73 w.heap.size (fun k_ => (w.heap.size ≤ k_) ∧ some k_ ≠ (v240 : Value).ownBlock ∧ some k_ ≠ (v244 : Value).ownBlock ∧ k_ ≠ gb195) (.slice A67 y249.length c67) y249) := ⟨h3_⟩
       have n4_ : Aside0 (Kd.V Kd.string 9 w73 w.heap.size (fun k_ => (w.heap.size ≤ k_) ∧ some k_ ≠ (v240 : Value).ownBlock ∧ some k_ ≠ (v244 : Value).ownBlock ∧ k_ ≠ gb195) (.slice (some ad203) x5_1.length co64) x5_1) := ⟨h4_⟩
       have n5_ : Aside0 (w73.heap[gb195]? = some (.cells #[.int .i64 a1_0, .int .i64 a1_1, .int .i64 a1_2] 24 (0, 0))) := ⟨h5_⟩
       have n6_ : Aside0 (Below w.heap.size w w73) := ⟨h6_⟩
       clear HO_5 BK195 HB h0_ h1_ h2_ h3_ h4_ h5_ h6_
       have HO238 := n0_
       have HO241 := n1_
       have HO245 := n2_
       have HO253 := n3_
       have HO_5 := n4_
       have BK195 := n5_
       have HB := n6_
       clear n0_ n1_ n2_ n3_ n4_ n5_ n6_
       have hHeld : w73.cell? (ad199.add ((x6_1).toNat * 8)) = some (.string ((rd_T68 l0 x6_1).f0)) ∧ w73.cell? ⟨(ad199.add ((x6_1).toNat * 8)).block, (ad199.add ((x6_1).toNat * 8)).off + 1, none⟩ = some (.int .i64 ((rd_T68 l0 x6_1).f1.f0.f0)) ∧ w73.cell? ⟨(ad199.add ((x6_1).toNat * 8)).block, (ad199.add ((x6_1).toNat * 8)).off + 2, none⟩ = some (.int .i64 ((rd_T68 l0 x6_1).f1.f0.f1)) ∧ w73.cell? ⟨(ad199.add ((x6_1).toNat * 8)).block, (ad199.add ((x6_1).toNat * 8)).off + 3, none⟩ = some (.int .i64 ((rd_T68 l0 x6_1).f1.f0.f2)) ∧ w73.cell? ⟨(ad199.add ((x6_1).toNat * 8)).block, (ad199.add ((x6_1).toNat * 8)).off + 4, none⟩ = some (.int .i64 ((rd_T68 l0 x6_1).f1.f1.f0)) ∧ w73.cell? ⟨(ad199.add ((x6_1).toNat * 8)).block, (ad199.add ((x6_1).toNat * 8)).off + 5, none⟩ = some (.int .i64 ((rd_T68 l0 x6_1).f1.f1.f1)) ∧ w73.cell? ⟨(ad199.add ((x6_1).toNat * 8)).block, (ad199.add ((x6_1).toNat * 8)).off + 6, none⟩ = some (.int .i64 ((rd_T68 l0 x6_1).f1.f1.f2)) ∧ w73.cell? ⟨(ad199.add ((x6_1).toNat * 8)).block, (ad199.add ((x6_1).toNat * 8)).off + 7, none⟩ = some (.int .i64 ((rd_T68 l0 x6_1).f2)) := hS_
       obtain ⟨Ao75, co75, eo75⟩ := Kd.R_slice HO245.out
       (first | subst eo75 | (injection eo75 with f1_ f2_ f3_; have f4_ := f1_.symm; have f5_ := f3_.symm; clear f1_ f2_ f3_; subst f4_; subst f5_))
       refine norm_ (a' := ?_) ?_ ?_
       rotate_left
       ·simp only [putAll, Act.put, psl]
        rfl
       refine one_ (i := 11) (N := some 68) (fl 17 15 []) rfl rfl (one_of HT_.out (by kernel_rfl)) (by decide) (fun K hK => ?_)
       refine Kd.R_append_rows_step Kd.string (w0 := w) w.heap.size (by rfl) (.tmp 61) (.tmp 67) 31 9 (.string ⟨#[]⟩) 16 rfl Try.underlying31 info9 rfl (by decide) (by omega) v240 y239 y243 _ _ _ (fun k_ => (w.heap.size ≤ k_) ∧ some k_ ≠ (.slice Ao75 y243.length co75 : Value).ownBlock) (fun _ => False) rfl rfl ?aO ?aR (fun _ _ h => h) (fun _ h => h.elim) ?aF ?aB ?aS ?aL ?_
       (case aR => repeat (first | exact (Kd.R_reads' HO245.out).2.2 | (with_reducible refine Kd.C_alloc ?_ _) | (with_reducible refine Kd.C_drewN ?_ _) | (with_reducible refine Kd.C_drew ?_)))
       (case aB => exact (fW HB.out))
       (case aF => exact (fun k_ hk => ⟨(Nat.le_trans (wz (fW HB.out)) hk), Kd.fresh' (Kd.R_lt (fR HO245.out)) k_ hk⟩))
       (case aO => exact (fR HO241.out))
       (case aS => exact (wz (fW HB.out)))
       (case aL => have := LMc59.out; omega)
       intro v247 w74 ho hb hg hat
       rw [← Ny246.out] at ho
       have n0_ := am (Kd.V_afterv (ok := (fun k_ => (w.heap.size ≤ k_) ∧ some k_ ≠ (.slice Ao75 y243.length co75 : Value).ownBlock ∧ k_ ≠ gb195)) (by (with_reducible repeat (first | apply Kd.V_alloc | apply Kd.V_drewN | apply Kd.V_drew)); exact Kd.V_mono HO_5.out (fun _ hk => ⟨⟨hk.1, ⟨hk.2.2.1, hk.2.2.2⟩⟩, hk.2.1⟩)) hg hat)
       have n1_ := am (blk_grown (g := gb195) (o := .cells #[.int .i64 a1_0, .int .i64 a1_1, .int .i64 a1_2] 24 (0, 0)) (fb BK195.out) hg (Kd.R_ne HO241.out BK195.out (by decide)))
       have n2_ := am (Kd.V_afterv (ok := (fun k_ => (w.heap.size ≤ k_) ∧ some k_ ≠ (.slice Ao75 y243.length co75 : Value).ownBlock ∧ k_ ≠ gb195)) (by (with_reducible repeat (first | apply Kd.V_alloc | apply Kd.V_drewN | apply Kd.V_drew)); exact Kd.V_mono HO238.out (fun _ hk => ⟨⟨hk.1, ⟨hk.2.2.1, hk.2.2.2⟩⟩, hk.2.1⟩)) hg hat)
       have n3_ := am (Kd.V_afterv (ok := (fun k_ => (w.heap.size ≤ k_) ∧ some k_ ≠ (.slice Ao75 y243.length co75 : Value).ownBlock ∧ k_ ≠ gb195)) (by (with_reducible repeat (first | apply Kd.V_alloc | apply Kd.V_drewN | apply Kd.V_drew)); exact Kd.V_mono HO253.out (fun _ hk => ⟨⟨hk.1, ⟨hk.2.2.1, hk.2.2.2⟩⟩, hk.2.1⟩)) hg hat)
       have n4_ := am (Kd.R_after (ok := (fun k_ => (w.heap.size ≤ k_))) (fR HO245.out) hg hat)
       have n5_ := am (hb)
       have n6_ := am (ho)
       clear HO_5 BK195 HO238 HO253 HO245 HB HO241
       have HO_5 := n0_
       have BK195 := n1_
       have HO238 := n2_
       have HO253 := n3_
       have HO245 := n4_
       have HB := n5_
       have HO248 := n6_
       clear n0_ n1_ n2_ n3_ n4_ n5_ n6_ ho hb hg hat
       refine hK.out _ _ ⟨((HB.out.cell (bq w _ hw242_0)).trans hw242_0), ((HB.out.cell (bq w _ hw242_1)).trans hw242_1), ((HB.out.cell (bq w _ hw242_2)).trans hw242_2), ((HB.out.cell (bq w _ hw242_3)).trans hw242_3), ((HB.out.cell (bq w _ hw242_4)).trans hw242_4), ((HB.out.cell (bq w _ hw242_5)).trans hw242_5), ((HB.out.cell (bq w _ hw242_6)).trans hw242_6), ((HB.out.cell (bq w _ hw242_7)).trans hw242_7)⟩ (fun hHeld => ?_)
       clear hK K
       refine norm_ (a' := ?_) ?_ ?_
       rotate_left
       ·show Act.put _ (some 68) _ = _
        simp only [Act.put, psl, i64_w, i32_w]
        rfl
       refine one_ (i := 15) (N := some 72) (fl 17 16 []) rfl rfl (one_of HT_.out (by kernel_rfl)) (by decide) (fun K hK => ?_)
       refine Kd.R_append_rows_step Kd.string (w0 := w) w.heap.size (by rfl) (.tmp 68) (.tmp 71) 31 9 (.string ⟨#[]⟩) 16 rfl Try.underlying31 info9 rfl (by decide) (by omega) v247 y246 y249 _ _ _ (fun k_ => (w.heap.size ≤ k_) ∧ some k_ ≠ (.slice Ao75 y243.length co75 : Value).ownBlock) (fun _ => False) rfl rfl ?aO ?aR (fun _ _ h => h) (fun _ h => h.elim) ?aF ?aB ?aS ?aL ?_
       (case aR => repeat (first | exact (Kd.V_reads' HO253.out).2.2 | (with_reducible refine Kd.C_alloc ?_ _) | (with_reducible refine Kd.C_drewN ?_ _) | (with_reducible refine Kd.C_drew ?_)))
       (case aB => exact (fW HB.out))
       (case aF => exact (fun k_ hk => ⟨(Nat.le_trans (wz (fW HB.out)) hk), Kd.fresh' (Kd.R_lt (fR HO245.out)) k_ hk⟩))
       (case aO => exact (fR HO248.out))
       (case aS => exact (wz (fW HB.out)))
       (case aL => have := LMc62.out; omega)
       intro v255 w76 ho hb hg hat
       rw [← Ny254.out] at ho
       have n0_ := am (Kd.V_afterv (ok := (fun k_ => (w.heap.size ≤ k_) ∧ some k_ ≠ (.slice Ao75 y243.length co75 : Value).ownBlock ∧ k_ ≠ gb195)) (fV HO_5.out) hg hat)
       have n1_ := am (blk_grown (g := gb195) (o := .cells #[.int .i64 a1_0, .int .i64 a1_1, .int .i64 a1_2] 24 (0, 0)) (fb BK195.out) hg (Kd.R_ne HO248.out BK195.out (by decide)))
       have n2_ := am (Kd.V_afterv (ok := (fun k_ => (w.heap.size ≤ k_) ∧ some k_ ≠ (.slice Ao75 y243.length co75 : Value).ownBlock ∧ k_ ≠ gb195)) (fV HO238.out) hg hat)
       have n3_ := am (Kd.V_afterv (ok := (fun k_ => (w.heap.size ≤ k_) ∧ some k_ ≠ (.slice Ao75 y243.length co75 : Value).ownBlock ∧ k_ ≠ gb195)) (fV HO253.out) hg hat)
       have n4_ := am (Kd.R_after (ok := (fun k_ => (w.heap.size ≤ k_))) (fR HO245.out) hg hat)
       have n5_ := am (hb)
       have n6_ := am (ho)
       clear HO_5 BK195 HO238 HO253 HO245 HB HO248
       have HO_5 := n0_
       have BK195 := n1_
       have HO238 := n2_
       have HO253 := n3_
       have HO245 := n4_
       have HB := n5_
       have HO256 := n6_
       clear n0_ n1_ n2_ n3_ n4_ n5_ n6_ ho hb hg hat
       refine hK.out _ _ ⟨((HB.out.cell (bq w _ hw242_0)).trans hw242_0), ((HB.out.cell (bq w _ hw242_1)).trans hw242_1), ((HB.out.cell (bq w _ hw242_2)).trans hw242_2), ((HB.out.cell (bq w _ hw242_3)).trans hw242_3), ((HB.out.cell (bq w _ hw242_4)).trans hw242_4), ((HB.out.cell (bq w _ hw242_5)).trans hw242_5), ((HB.out.cell (bq w _ hw242_6)).trans hw242_6), ((HB.out.cell (bq w _ hw242_7)).trans hw242_7)⟩ (fun hHeld => ?_)
       clear hK K
       refine norm_ (a' := ?_) ?_ ?_
       rotate_left
       ·show Act.put _ (some 72) _ = _
        simp only [Act.put, psl, i64_w, i32_w]
        rfl
       refine pu (i := 16) (N := some 5) (fl 17 17 []) HT_ ?_
       refine done_ (done_of HT_.out (by kernel_rfl)) ?_
       try go_wp2
       go_meet
       case rel => exact ⟨_, (y254), H', ⟨by have := HK1.out; have := HJ10.out; first | omega | exact Nat.le_refl _⟩, ⟨Kd.R_V (by (with_reducible repeat (first | apply Kd.R_alloc | apply Kd.R_drewN | apply Kd.R_drew)); exact Kd.R_mono (Kd.R_types HO256.out BK195.out (by decide)) (fun _ hk => ⟨hk.1.1, hk.2⟩))⟩, ⟨fb BK195.out⟩, ⟨fW HB.out⟩⟩
    case rest =>
     clear HC7
     try clear c1;try clear p1;try clear q1;try clear hx1;try clear p2;try clear c4;try clear c5;try clear c6;try clear c8;try clear c10;try clear p19;try clear q19;try clear hx19;try clear c45;try clear c49;try clear c50;try clear c51;try clear c52;try clear c57;try clear c58;try clear c59;try clear c62;try clear c67;try clear hx199_0;try clear hx199_1;try clear hx199_2;try clear hx199_3;try clear hx199_4;try clear hx199_5;try clear hx199_6;try clear hx199_7;try clear p199;try clear q199
     obtain ⟨kq, x5_6, HA, HJ6, HO_5, BK195, HB⟩ := hcut
     cases kq with
     | zero => exact absurd HA.out (by simp [r_Sources.j3])
     | succ kj6 =>
      have H := HA.out
      clear HA
      simp only [r_Sources.j3] at H
      have H' := am H
      clear H
      go_wp2
      go_roundg kj6
      case measure => have := HK1.out; have := HJ6.out; omega
      case rel => exact ⟨(x5_6), (wrap64 (x6_1 + 1)), sqD, H', ⟨by have := HK1.out; have := HJ6.out; omega⟩, ⟨by (with_reducible repeat (first | apply Kd.V_alloc | apply Kd.V_drewN | apply Kd.V_drew)); exact HO_5.out⟩, ⟨fb BK195.out⟩, ⟨fW HB.out⟩⟩
   ·rw [if_neg c6] at H
    have c6b0 : decide (x6_1 < (l0.length : Int)) = false := decide_eq_false c6
    clear c6
    obtain rfl := Option.some.inj H
    go_wp2
    go_ret
    exact ⟨_, sqE, by (with_reducible repeat (first | apply Kd.V_alloc | apply Kd.V_drewN | apply Kd.V_drew)); exact Kd.V_mono HO_5.out (fun _ hk => hk.1), fW HB.out⟩

end Go.Proofs.Ytcofgnbopodahaa.QA
