import Derived.Test.YtkeomlmlimkebaaZQAx0
import Derived.Test.YtkeomlmlimkebaaZQAy
import Derived.Test.YtkeomlmlimkebaaZQAx9
namespace Go.Proofs.Ytkeomlmlimkebaa.QA
open Go.RowKit Go.Proofs.YtkeomlmlimkebaaW.PrintWords Go.Proofs.YtkeomlmlimkebaaW.PrintLast Go.Proofs.YtkeomlmlimkebaaW.PrintMore
open Go.Proofs.YtkeomlmlimkebaaW.PrintWords renaming blk_drewN → bN, blk_drew → bd, blk_alloc → ba, blk_frozen → bf, blk_cell → bc, below_size → wz, cell_far → cf, blk_far → bF
open Aside0 renaming mk → am
attribute [local go_sem] max2_int min2_int max_two min_two max_three min_three max_four min_four
set_option linter.unusedVariables false
set_option linter.unusedSimpArgs false

mutual
def r_Apply.l0 : Nat → List (S69) → List Int → Int → List (List Int) → Int → List Int → List Bool → List (List Int) → Int → List Int → List Bool → Option ((List (List Int)) × Int × List Int × List Bool × Int)
 | 0, _, _, _, _, _, _, _, _, _, _, _ => none
 | k + 1, x1, x7, x8, x634000, x634001, x634002, x634003, x642000, x642001, x642002, x642003 => if x8 < (x1.length : Int) then (if 0 ≤ x8 then (if ((rd_T69 x1 x8).f0) < 0 then (r_Apply.j1 k x1 x7 x8 true x634000 x634001 x634002 x634003 x642000 x642001 x642002 x642003 ((rd_T69 x1 x8).f0) ((rd_T69 x1 x8).f1) ((rd_T69 x1 x8).f2)) else (r_Apply.j1 k x1 x7 x8 (decide (((rd_T69 x1 x8).f0) ≥ (x634000.length : Int))) x634000 x634001 x634002 x634003 x642000 x642001 x642002 x642003 ((rd_T69 x1 x8).f0) ((rd_T69 x1 x8).f1) ((rd_T69 x1 x8).f2))) else (none)) else ((r_twice.f k x642002).bind fun t656 => (if t656 = true then (some (([] : List (List Int)), 0, ([] : List Int), ([] : List Bool), 5)) else (some (x642000, x642001, x642002, x642003, 0))))
def r_Apply.j1 : Nat → List (S69) → List Int → Int → Bool → List (List Int) → Int → List Int → List Bool → List (List Int) → Int → List Int → List Bool → Int → Int → Int → Option ((List (List Int)) × Int × List Int × List Bool × Int)
 | 0, _, _, _, _, _, _, _, _, _, _, _, _, _, _, _ => none
 | k + 1, x1, x7, x8, x32, x634000, x634001, x634002, x634003, x642000, x642001, x642002, x642003, x647000, x647001, x647002 => if x32 = true then (some (([] : List (List Int)), 0, ([] : List Int), ([] : List Bool), 6)) else (if 0 ≤ x647000 then (if x647000 < (x634002.length : Int) then (if (rd x634002 x647000) = x647001 then ((r_has.f k x7 x647000).bind fun t648 => (r_Apply.j2 k x1 x7 x8 t648 x634000 x634001 x634002 x634003 x642000 x642001 x642002 x642003 x647000 x647001 x647002)) else (r_Apply.j2 k x1 x7 x8 true x634000 x634001 x634002 x634003 x642000 x642001 x642002 x642003 x647000 x647001 x647002)) else (none)) else (none))
def r_Apply.j2 : Nat → List (S69) → List Int → Int → Bool → List (List Int) → Int → List Int → List Bool → List (List Int) → Int → List Int → List Bool → Int → Int → Int → Option ((List (List Int)) × Int × List Int × List Bool × Int)
 | 0, _, _, _, _, _, _, _, _, _, _, _, _, _, _, _ => none
 | k + 1, x1, x7, x8, x45, x634000, x634001, x634002, x634003, x642000, x642001, x642002, x642003, x647000, x647001, x647002 => if x45 = true then (some (([] : List (List Int)), 0, ([] : List Int), ([] : List Bool), 10)) else (if 0 ≤ x647000 then (if x647000 < (x634003.length : Int) then (if rdOf false x634003 x647000 = true then (some (([] : List (List Int)), 0, ([] : List Int), ([] : List Bool), 8)) else (if x647000 < (x634000.length : Int) then ((r_has.f k (rd_L1 x634000 x647000) x647002).bind fun t651 => (if t651 = true then (if x7.length < 17592186044416 then (if x647000 < (x642002.length : Int) then (r_Apply.l0 k x1 (x7 ++ [x647000]) (wrap64 (x8 + 1)) x634000 x634001 x634002 x634003 x642000 x642001 (x642002.set (x647000 : Int).toNat x647002) x642003) else (none)) else (none)) else (some (([] : List (List Int)), 0, ([] : List Int), ([] : List Bool), 1)))) else (none))) else (none)) else (none))
end
def r_Apply.f (k : Nat) (l0_0 : List (List Int)) (a0_1 : Int) (l0_2 : List Int) (l0_3 : List Bool) (l1 : List (S69)) : Option ((List (List Int)) × Int × List Int × List Bool × Int) := (some (([] : List Int) : List Int)).bind fun y635 => (if y635.length + l0_2.length < 17592186044416 then (r_Apply.l0 k l1 (([] : List Int)) 0 l0_0 a0_1 l0_2 l0_3 l0_0 a0_1 (y635 ++ l0_2) l0_3) else (none))
def r_Apply.T1 : Bool × List (List Nat × List Nat) := (true, [([], []), ([0], [0]), ([], []), ([2], [2]), ([], []), ([], []), ([5], [5]), ([4, 6], [4, 6]), ([], []), ([8], [8]), ([1, 3, 7, 9], [1, 3, 7, 9]), ([], []), ([11, 10, 7, 0, 1, 2, 3, 4, 5, 6, 7, 8, 9, 10, 11], [10, 11])])
def r_Apply.B1 : List Nat := [0, 1, 0, 4, 0, 0, 32, 112, 0, 256, 1023, 0, 4095]
theorem r_Apply.tab1 : rtab .any (opsOf Try.f33 1) = r_Apply.T1 := by kernel_rfl
theorem r_Apply.bits1 : waitsOk r_Apply.T1.2 r_Apply.B1 = true := by kernel_rfl
def r_Apply.T9 : Bool × List (List Nat × List Nat) := (true, [([], []), ([0], [0]), ([], []), ([2], [2]), ([1, 3], [1, 3]), ([4], [4]), ([], []), ([6], [6]), ([5, 7], [5, 7]), ([8], [8]), ([9], [9]), ([9], [9]), ([11, 9], [9, 11]), ([10, 12, 9, 9], [9, 10, 12]), ([9, 13], [9, 13]), ([14, 13], [14])])
def r_Apply.B9 : List Nat := [0, 1, 0, 4, 15, 31, 0, 64, 255, 511, 1023, 1023, 3071, 8191, 16383, 32767]
theorem r_Apply.tab9 : rtab .any (opsOf Try.f33 9) = r_Apply.T9 := by kernel_rfl
theorem r_Apply.bits9 : waitsOk r_Apply.T9.2 r_Apply.B9 = true := by kernel_rfl
def r_Apply.T13 : Bool × List (List Nat × List Nat) := (true, [([], []), ([0], [0]), ([], []), ([2], [2]), ([1, 3], [1, 3]), ([4], [4]), ([], []), ([6], [6]), ([5, 7], [5, 7]), ([8], [8]), ([9, 8], [9])])
def r_Apply.B13 : List Nat := [0, 1, 0, 4, 15, 31, 0, 64, 255, 511, 1023]
theorem r_Apply.tab13 : rtab .any (opsOf Try.f33 13) = r_Apply.T13 := by kernel_rfl
theorem r_Apply.bits13 : waitsOk r_Apply.T13.2 r_Apply.B13 = true := by kernel_rfl
set_option maxHeartbeats 8000000 in
set_option maxRecDepth 100000 in
theorem r_Apply.calls (k : Nat) (P0_0_ : Nat → Prop) (A0_0 : Option Addr) (c0_0 : Nat) (l0_0 : List (List Int)) (a0_1 : Int) (A0_2 : Option Addr) (c0_2 : Nat) (l0_2 : List Int) (P0_3_ : Nat → Prop) (A0_3 : Option Addr) (c0_3 : Nat) (l0_3 : List Bool) (A1 : Option Addr) (c1 : Nat) (l1 : List (S69)) (r1 : List (List Int)) (r2 : Int) (r3 : List Int) (r4 : List Bool) (r5 : Int) (w : World) (hs0_0 : Kd.V (Kd.slice 3 (Kd.int .i64)) 23 w w.heap.size (fun k_ => P0_0_ k_) (.slice A0_0 l0_0.length c0_0) l0_0) (hr0_2 : Kd.C (Kd.int .i64) w A0_2 l0_2.length l0_2) (hc0_2 : l0_2.length ≤ c0_2) (hs0_3 : Kd.V Kd.bool 4 w w.heap.size (fun k_ => P0_3_ k_) (.slice A0_3 l0_3.length c0_3) l0_3) (hr1 : Kd.C k69 w A1 l1.length l1) (hc1 : l1.length ≤ c1) (h : r_Apply.f k l0_0 a0_1 l0_2 l0_3 l1 = some (r1, r2, r3, r4, r5)) :
  Calls Try.prog 33 #[.agg #[.slice A0_0 l0_0.length c0_0, .int .i64 a0_1, .slice A0_2 l0_2.length c0_2, .slice A0_3 l0_3.length c0_3], .slice A1 l1.length c1] w fun e w' => ∃ v0_ v2_ v3_ : Value, e = .returned (.tuple #[.agg #[v0_, .int .i64 r2, v2_, v3_], .int .i64 r5]) ∧ Kd.V (Kd.slice 3 (Kd.int .i64)) 23 w' w.heap.size (fun k_ => ((P0_0_ k_ ∨ P0_3_ k_) ∨ w.heap.size ≤ k_) ∧ some k_ ≠ (v2_ : Value).ownBlock) v0_ r1 ∧ Kd.R (Kd.int .i64) 3 w' w.heap.size (fun k_ => (w.heap.size ≤ k_)) v2_ r3 ∧ Kd.V Kd.bool 4 w' w.heap.size (fun k_ => ((P0_0_ k_ ∨ P0_3_ k_) ∨ w.heap.size ≤ k_) ∧ some k_ ≠ (v2_ : Value).ownBlock) v3_ r4 ∧ Below w.heap.size w w' := by
 have hu26 := Try.underlying26
 have hu69 := Try.underlying69
 have HO0_0 := am (show Kd.V (Kd.slice 3 (Kd.int .i64)) 23 w w.heap.size (fun k_ => ((P0_0_ k_ ∨ P0_3_ k_) ∨ w.heap.size ≤ k_)) (.slice A0_0 l0_0.length c0_0) l0_0 from Kd.V_mono hs0_0 (fun k_ hk => .inl (.inl hk)))
 have HR0_2 := am hr0_2
 have HC0_2 := am hc0_2
 clear hr0_2 hc0_2
 have HO0_3 := am (show Kd.V Kd.bool 4 w w.heap.size (fun k_ => ((P0_0_ k_ ∨ P0_3_ k_) ∨ w.heap.size ≤ k_)) (.slice A0_3 l0_3.length c0_3) l0_3 from Kd.V_mono hs0_3 (fun k_ hk => .inl (.inr hk)))
 have HR1 := am hr1
 have HC1 := am hc1
 clear hr1 hc1
 have HB := am (Below.refl w.heap.size w)
 have H : ((some (([] : List Int) : List Int)).bind fun y635 => (if y635.length + l0_2.length < 17592186044416 then (r_Apply.l0 k l1 (([] : List Int)) 0 l0_0 a0_1 l0_2 l0_3 l0_0 a0_1 (y635 ++ l0_2) l0_3) else (none))) = some (r1, r2, r3, r4, r5) := h
 clear h
 obtain ⟨y635, hy635⟩ : ∃ y_ : List Int, y_ = (([] : List Int)) := ⟨_, rfl⟩
 replace H : (if y635.length + l0_2.length < 17592186044416 then (r_Apply.l0 k l1 (([] : List Int)) 0 l0_0 a0_1 l0_2 l0_3 l0_0 a0_1 (y635 ++ l0_2) l0_3) else (none)) = some (r1, r2, r3, r4, r5) := by first | (rw [hy635]; with_reducible exact H) | (have H2_ := (Option.bind_some _ _).symm.trans H; rw [hy635]; with_reducible exact H2_) | (have H2_ := (Option.bind_some _ _).symm.trans H; with_reducible exact H2_) | with_reducible exact H | (rw [hy635]; exact H) | exact H
 have Ny635 := am hy635
 clear hy635
 by_cases c3 : y635.length + l0_2.length < 17592186044416
 ·rw [if_pos c3] at H
  have LMc3 := am c3
  clear c3
  obtain ⟨y638, hy638⟩ : ∃ y_ : List Int, y_ = (y635 ++ l0_2) := ⟨_, rfl⟩
  replace H : (r_Apply.l0 k l1 (([] : List Int)) 0 l0_0 a0_1 l0_2 l0_3 l0_0 a0_1 y638 l0_3) = some (r1, r2, r3, r4, r5) := by first | (rw [hy638]; with_reducible exact H) | (have H2_ := (Option.bind_some _ _).symm.trans H; rw [hy638]; with_reducible exact H2_) | (have H2_ := (Option.bind_some _ _).symm.trans H; with_reducible exact H2_) | with_reducible exact H | (rw [hy638]; exact H) | exact H
  have Ny638 := am hy638
  clear hy638
  obtain ⟨y642, hy642⟩ : ∃ y_ : List Int, y_ = (([] : List Int)) := ⟨_, rfl⟩
  replace H : (r_Apply.l0 k l1 y642 0 l0_0 a0_1 l0_2 l0_3 l0_0 a0_1 y638 l0_3) = some (r1, r2, r3, r4, r5) := by first | (rw [hy642]; with_reducible exact H) | (have H2_ := (Option.bind_some _ _).symm.trans H; rw [hy642]; with_reducible exact H2_) | (have H2_ := (Option.bind_some _ _).symm.trans H; with_reducible exact H2_) | with_reducible exact H | (rw [hy642]; exact H) | exact H
  have Ny642 := am hy642
  clear hy642
  have H' := am H
  clear H
  go_enter Try.func33, Try.ntmps33
  try go_wp2_with (first | ((with_reducible refine gate_dst (N := 2) rfl ?_); (try (refine gate_guard (by rfl) ?_; dsimp only)); refine box_event ?hg (N := 2) ?hd (cs := #[.slice A0_0 l0_0.length c0_0, .int .i64 a0_1, .slice A0_2 l0_2.length c0_2, .slice A0_3 l0_3.length c0_3]) (t := 26) ?hr ?_; (case hd | hg => rfl); (case hr => first | (go_simp; done) | (go_simp; rfl)); intro gb633 hg w4 hbox hb; replace HO0_0 := eV HO0_0 hg hb; replace HO0_3 := eV HO0_3 hg hb; have BK633 := am hbox; have GW633 := sG HB hg; have GE633 := sG HB hg; replace HB := bS HB hb; clear hb hbox hg) | ((with_reducible refine gate_dst (N := 4) rfl ?_); (try (refine gate_guard (by rfl) ?_; dsimp only)); refine box_event ?hg (N := 4) ?hd (cs := #[.slice none 0 0, .int .i64 0, .slice none 0 0, .slice none 0 0]) (t := 26) ?hr ?_; (case hd | hg => rfl); (case hr => first | (go_simp; done) | (go_simp; rfl)); intro gb634 hg w5 hbox hb; replace HO0_0 := eV HO0_0 hg hb; replace HO0_3 := eV HO0_3 hg hb; have BK634 := am hbox; have GW634 := sG HB hg; have GE634 := sG HB hg; replace HB := bS HB hb; have NB633_634 := nL BK633 hg; have NB634_633 := nG BK633 hg; replace BK633 := bB BK633 hb; clear hb hbox hg))
  have n0_ := am (Kd.V_drew HO0_0.out)
  have n1_ := am (Kd.V_drew HO0_3.out)
  have n2_ := am (bd BK633.out)
  have n3_ := am (bd BK634.out)
  have n4_ := am (below_drew1 HB.out)
  clear HO0_0 HO0_3 BK633 BK634 HB
  have HO0_0 := n0_
  have HO0_3 := n1_
  have BK633 := n2_
  have BK634 := n3_
  have HB := n4_
  clear n0_ n1_ n2_ n3_ n4_
  refine start_ (n := 13) (S := fun w' => w'.cell? ⟨gb633, 0, none⟩ = some (.slice A0_0 l0_0.length c0_0) ∧ w'.cell? ⟨gb633, 1, none⟩ = some (.int .i64 a0_1) ∧ w'.cell? ⟨gb633, 2, none⟩ = some (.slice A0_2 l0_2.length c0_2) ∧ w'.cell? ⟨gb633, 3, none⟩ = some (.slice A0_3 l0_3.length c0_3)) (ds := []) #[F,F,F,F,F,F,F,F,F,F,F,F,F] (by kernel_rfl) rfl rfl ⟨(bc BK633.out 0).trans rfl, (bc BK633.out 1).trans rfl, (bc BK633.out 2).trans rfl, (bc BK633.out 3).trans rfl⟩ (fun hHeld => ?_); refine with_tabW r_Apply.tab1 r_Apply.bits1 (fun HT_ HW_ => ?_)
  generalize w5.drew = w6 at HO0_0 HO0_3 BK633 BK634 HB hHeld ⊢
  refine pu (i := 0) (N := some 10) (fl 13 1 []) HT_ ?_
  refine pu (i := 2) (N := some 12) (fl 13 1 [2]) HT_ ?_
  refine pu (i := 5) (N := some 15) (fl 13 1 [2, 5]) HT_ ?_
  refine pu (i := 8) (N := some 18) (fl 13 1 [2, 5, 8]) HT_ ?_
  refine tk (i := 1) (N := some 11) (fl 13 3 [5, 8]) HT_ HW_ hHeld ?_
  refine tk (i := 3) (N := some 13) (fl 13 4 [5, 8]) HT_ HW_ hHeld ?_
  refine tk (i := 6) (N := some 16) (fl 13 4 [5, 6, 8]) HT_ HW_ hHeld ?_
  refine tk (i := 9) (N := some 19) (fl 13 4 [5, 6, 8, 9]) HT_ HW_ hHeld ?_
  refine join_ (σ := Value × Value × Nat) 1 #[T,T,T,T,T,T,T,T,T,T,T,T,F] (fun s_ => [(14, s_.1), (17, s_.2.1), (6, .pointer (some ⟨s_.2.2, 0, none⟩)), (20, .agg #[.slice A0_0 l0_0.length c0_0, .int .i64 a0_1, s_.2.1, .slice A0_3 l0_3.length c0_3])]) (fun s_ w' => (w'.cell? ⟨gb633, 0, none⟩ = some (.slice A0_0 l0_0.length c0_0) ∧ w'.cell? ⟨gb633, 1, none⟩ = some (.int .i64 a0_1) ∧ w'.cell? ⟨gb633, 2, none⟩ = some (.slice A0_2 l0_2.length c0_2) ∧ w'.cell? ⟨gb633, 3, none⟩ = some (.slice A0_3 l0_3.length c0_3)) ∧ (Kd.V (Kd.slice 3 (Kd.int .i64)) 23 w' w.heap.size (fun k_ => ((P0_0_ k_ ∨ P0_3_ k_) ∨ w.heap.size ≤ k_) ∧ some k_ ≠ (s_.2.1 : Value).ownBlock ∧ k_ ≠ gb633 ∧ k_ ≠ gb634 ∧ k_ ≠ s_.2.2) (.slice A0_0 l0_0.length c0_0) l0_0) ∧ (Kd.V Kd.bool 4 w' w.heap.size (fun k_ => ((P0_0_ k_ ∨ P0_3_ k_) ∨ w.heap.size ≤ k_) ∧ some k_ ≠ (s_.2.1 : Value).ownBlock ∧ k_ ≠ gb633 ∧ k_ ≠ gb634 ∧ k_ ≠ s_.2.2) (.slice A0_3 l0_3.length c0_3) l0_3) ∧ (Kd.R (Kd.int .i64) 3 w' w.heap.size (fun k_ => (w.heap.size ≤ k_)) s_.2.1 y638) ∧ (w'.heap[gb633]? = some (.cells #[.slice A0_0 l0_0.length c0_0, .int .i64 a0_1, .slice A0_2 l0_2.length c0_2, .slice A0_3 l0_3.length c0_3] 26 (0, 0))) ∧ (w'.heap[gb634]? = some (.cells #[.slice none 0 0, .int .i64 0, .slice none 0 0, .slice none 0 0] 26 (0, 0))) ∧ (w'.heap[s_.2.2]? = some (.cells #[.slice none 0 0, .int .i64 0, .slice none 0 0, .slice none 0 0] 26 (0, 0))) ∧ (w.heap.size ≤ s_.2.2) ∧ (w.heap.size ≤ s_.2.2) ∧ (gb633 ≠ s_.2.2) ∧ (s_.2.2 ≠ gb633) ∧ (gb634 ≠ s_.2.2) ∧ (s_.2.2 ≠ gb634) ∧ (Below w.heap.size w w')) ?_ ?_
  rotate_left
  ·intro hCont
   refine two_ (i := 4) (j := 11) (Ni := some 14) (Nj := some 6) #[T,T,T,T,T,T,T,F,T,T,F,F,F] (fl 13 4 [5, 6, 8, 9, 11]) rfl rfl rfl rfl (two_of HT_.out (by kernel_rfl)) (by decide) (by decide) (fun K hK => ?_) (fun K hK => ?_)
   ·skip
    refine Kd.R_lit_step (Kd.int .i64) _ 3 ?hg (N := 14) ?hd (xs := ([] : List Int)) (inner := []) (ok := fun _ => True) (okp := fun _ => True) ?hr ?hp (fun _ hk => hk) trivial (Below.refl _ _) (Nat.le_refl _) (by simp) ?_; (case hd | hg => rfl); (case hr => first | (go_simp; done) | (go_simp; rfl)); (case hp => exact (Reps.none _ _))
    intro v636 w7 ho8 hb hg_ hnew_
    clear hg_ hnew_
    (first | rw [← Ny635.out] at ho8 | (simp only [Int.reduceToNat] at ho8; rw [← Ny635.out] at ho8))
    have n0_ := am (Kd.V_elder' (fV HO0_0.out) (Kd.R_base ho8) hb)
    have n1_ := am (Kd.V_elder' (fV HO0_3.out) (Kd.R_base ho8) hb)
    have n2_ := am (Kd.R_lower (Kd.R_newM (M := fun k_ => (w.heap.size ≤ k_)) ho8 (wz (fW HB.out)) (fun k_ h_ => h_)) (wz (fW HB.out)))
    have n3_ := bB BK633 hb
    have n4_ := bB BK634 hb
    have n5_ := bS HB hb
    clear HO0_0 HO0_3 BK633 BK634 HB
    have HO0_0 := n0_
    have HO0_3 := n1_
    have HO637 := n2_
    have BK633 := n3_
    have BK634 := n4_
    have HB := n5_
    clear n0_ n1_ n2_ n3_ n4_ n5_ hb ho8
    refine hK.out _ _ ⟨(bc BK633.out 0).trans rfl, (bc BK633.out 1).trans rfl, (bc BK633.out 2).trans rfl, (bc BK633.out 3).trans rfl⟩ (fun hHeld => ?_)
    clear hK K
    refine norm_ (a' := ?_) ?_ ?_
    rotate_left
    ·show Act.put _ (some 14) _ = _
     simp only [Act.put, psl, i64_w, i32_w]
     rfl
    refine two_ (i := 7) (j := 11) (Ni := some 17) (Nj := some 6) #[T,T,T,T,T,T,T,T,T,T,F,F,F] (fl 13 7 [8, 9, 11]) rfl rfl rfl rfl (two_of HT_.out (by kernel_rfl)) (by decide) (by decide) (fun K hK => ?_) (fun K hK => ?_)
    ·skip
     refine Kd.R_append_rows_step (Kd.int .i64) (w0 := w) w.heap.size (by rfl) (.tmp 14) (.tmp 16) 23 3 (.int .i64 0) 8 rfl Try.underlying23 info3 rfl (by decide) (by omega) v636 y635 l0_2 _ _ _ (fun k_ => (w.heap.size ≤ k_)) (fun _ => False) rfl rfl ?aO ?aR (fun _ _ h => h) (fun _ h => h.elim) ?aF ?aB ?aS ?aL ?_
     (case aR => repeat (first | exact (Kd.C_below HR0_2.out HB.out) | (with_reducible refine Kd.C_alloc ?_ _) | (with_reducible refine Kd.C_drewN ?_ _) | (with_reducible refine Kd.C_drew ?_)))
     (case aB => exact (fW HB.out))
     (case aF => exact (fun k_ hk => (Nat.le_trans (wz (fW HB.out)) hk)))
     (case aO => exact (by (with_reducible repeat (first | apply Kd.R_alloc | apply Kd.R_drewN | apply Kd.R_drew)); exact Kd.R_mono HO637.out (fun _ hk => hk.1)))
     (case aS => exact (wz (fW HB.out)))
     (case aL => have := LMc3.out; omega)
     intro v639 w9 ho hb hg hat
     rw [← Ny638.out] at ho
     have n0_ := am (Kd.V_afterv (ok := (fun k_ => ((P0_0_ k_ ∨ P0_3_ k_) ∨ w.heap.size ≤ k_) ∧ k_ ≠ gb633 ∧ k_ ≠ gb634)) (by (with_reducible repeat (first | apply Kd.V_alloc | apply Kd.V_drewN | apply Kd.V_drew)); exact Kd.V_mono HO0_0.out (fun _ hk => ⟨⟨hk.1.1.1, ⟨hk.1.1.2, hk.1.2⟩⟩, hk.2⟩)) hg hat)
     have n1_ := am (Kd.V_afterv (ok := (fun k_ => ((P0_0_ k_ ∨ P0_3_ k_) ∨ w.heap.size ≤ k_) ∧ k_ ≠ gb633 ∧ k_ ≠ gb634)) (by (with_reducible repeat (first | apply Kd.V_alloc | apply Kd.V_drewN | apply Kd.V_drew)); exact Kd.V_mono HO0_3.out (fun _ hk => ⟨⟨hk.1.1.1, ⟨hk.1.1.2, hk.1.2⟩⟩, hk.2⟩)) hg hat)
     have n2_ := am (blk_grown (g := gb633) (o := .cells #[.slice A0_0 l0_0.length c0_0, .int .i64 a0_1, .slice A0_2 l0_2.length c0_2, .slice A0_3 l0_3.length c0_3] 26 (0, 0)) (fb BK633.out) hg (Kd.R_ne HO637.out BK633.out (by decide)))
     have n3_ := am (blk_grown (g := gb634) (o := .cells #[.slice none 0 0, .int .i64 0, .slice none 0 0, .slice none 0 0] 26 (0, 0)) (fb BK634.out) hg (Kd.R_ne HO637.out BK634.out (by decide)))
     have n4_ := am (hb)
     have n5_ := am (ho)
     clear HO0_0 HO0_3 BK633 BK634 HB HO637
     have HO0_0 := n0_
     have HO0_3 := n1_
     have BK633 := n2_
     have BK634 := n3_
     have HB := n4_
     have HO640 := n5_
     clear n0_ n1_ n2_ n3_ n4_ n5_ ho hb hg hat
     obtain ⟨Ao10, co10, eo10⟩ := Kd.R_slice HO640.out
     (first | subst eo10 | (injection eo10 with f1_ f2_ f3_; have f4_ := f1_.symm; have f5_ := f3_.symm; clear f1_ f2_ f3_; subst f4_; subst f5_))
     refine hK.out _ _ ⟨(bc BK633.out 0).trans rfl, (bc BK633.out 1).trans rfl, (bc BK633.out 2).trans rfl, (bc BK633.out 3).trans rfl⟩ (fun hHeld => ?_)
     clear hK K
     refine norm_ (a' := ?_) ?_ ?_
     rotate_left
     ·show Act.put _ (some 17) _ = _
      simp only [Act.put, psl, i64_w, i32_w]
      rfl
     refine pu (i := 10) (N := some 20) (fl 13 11 []) HT_ ?_
     refine one_ (i := 11) (N := some 6) (fl 13 12 []) rfl rfl (one_of HT_.out (by kernel_rfl)) (by decide) (fun K hK => ?_)
     refine box_step ?hg (N := 6) ?hd (cs := #[.slice none 0 0, .int .i64 0, .slice none 0 0, .slice none 0 0]) (t := 26) ?hr ?_; (case hd | hg => rfl); (case hr => first | (go_simp; done) | (go_simp; rfl))
     intro gb641 hg w11 hbox hb
     have n0_ := eV HO0_0 hg hb
     have n1_ := eV HO0_3 hg hb
     have n2_ := dR HO640 hb
     have n3_ := bB BK633 hb
     have n4_ := bB BK634 hb
     have n5_ := bS HB hb
     have n6_ := am hbox
     have n7_ := sG HB hg
     have n8_ := sG HB hg
     have n9_ := nL BK633 hg
     have n10_ := nG BK633 hg
     have n11_ := nL BK634 hg
     have n12_ := nG BK634 hg
     clear HO0_0 HO0_3 HO640 BK633 BK634 HB
     have HO0_0 := n0_
     have HO0_3 := n1_
     have HO640 := n2_
     have BK633 := n3_
     have BK634 := n4_
     have HB := n5_
     have BK641 := n6_
     have GW641 := n7_
     have GE641 := n8_
     have NB633_641 := n9_
     have NB641_633 := n10_
     have NB634_641 := n11_
     have NB641_634 := n12_
     clear n0_ n1_ n2_ n3_ n4_ n5_ n6_ n7_ n8_ n9_ n10_ n11_ n12_ hb hbox hg
     refine hK.out _ _ ⟨(bc BK633.out 0).trans rfl, (bc BK633.out 1).trans rfl, (bc BK633.out 2).trans rfl, (bc BK633.out 3).trans rfl⟩ (fun hHeld => ?_)
     clear hK K
     refine norm_ (a' := ?_) ?_ ?_
     rotate_left
     ·show Act.put _ (some 6) _ = _
      simp only [Act.put, psl, i64_w, i32_w]
      rfl
     exact norm_ (by simp only [putAll, Act.put, psl]) (hCont (v636, .slice Ao10 y638.length co10, gb641) _ ⟨hHeld, (by (with_reducible repeat (first | apply Kd.V_alloc | apply Kd.V_drewN | apply Kd.V_drew)); exact Kd.V_mono HO0_0.out (fun _ hk => ⟨hk.1.1.1, ⟨hk.1.2, ⟨hk.1.1.2.1, ⟨hk.1.1.2.2, hk.2⟩⟩⟩⟩)), (by (with_reducible repeat (first | apply Kd.V_alloc | apply Kd.V_drewN | apply Kd.V_drew)); exact Kd.V_mono HO0_3.out (fun _ hk => ⟨hk.1.1.1, ⟨hk.1.2, ⟨hk.1.1.2.1, ⟨hk.1.1.2.2, hk.2⟩⟩⟩⟩)), (fR HO640.out), (fb BK633.out), (fb BK634.out), (fb BK641.out), GW641.out, GE641.out, NB633_641.out, NB641_633.out, NB634_641.out, NB641_634.out, (fW HB.out)⟩)
    skip
    refine box_step ?hg (N := 6) ?hd (cs := #[.slice none 0 0, .int .i64 0, .slice none 0 0, .slice none 0 0]) (t := 26) ?hr ?_; (case hd | hg => rfl); (case hr => first | (go_simp; done) | (go_simp; rfl))
    intro gb641 hg w9 hbox hb
    have n0_ := eV HO0_0 hg hb
    have n1_ := eV HO0_3 hg hb
    have n2_ := dR HO637 hb
    have n3_ := bB BK633 hb
    have n4_ := bB BK634 hb
    have n5_ := bS HB hb
    have n6_ := am hbox
    have n7_ := sG HB hg
    have n8_ := sG HB hg
    have n9_ := nL BK633 hg
    have n10_ := nG BK633 hg
    have n11_ := nL BK634 hg
    have n12_ := nG BK634 hg
    clear HO0_0 HO0_3 HO637 BK633 BK634 HB
    have HO0_0 := n0_
    have HO0_3 := n1_
    have HO637 := n2_
    have BK633 := n3_
    have BK634 := n4_
    have HB := n5_
    have BK641 := n6_
    have GW641 := n7_
    have GE641 := n8_
    have NB633_641 := n9_
    have NB641_633 := n10_
    have NB634_641 := n11_
    have NB641_634 := n12_
    clear n0_ n1_ n2_ n3_ n4_ n5_ n6_ n7_ n8_ n9_ n10_ n11_ n12_ hb hbox hg
    refine hK.out _ _ ⟨(bc BK633.out 0).trans rfl, (bc BK633.out 1).trans rfl, (bc BK633.out 2).trans rfl, (bc BK633.out 3).trans rfl⟩ (fun hHeld => ?_)
    clear hK K
    refine norm_ (a' := ?_) ?_ ?_
    rotate_left
    ·show Act.put _ (some 6) _ = _
     simp only [Act.put, psl, i64_w, i32_w]
     rfl
    refine one_ (i := 7) (N := some 17) (fl 13 10 [11]) rfl rfl (one_of HT_.out (by kernel_rfl)) (by decide) (fun K hK => ?_)
    refine Kd.R_append_rows_step (Kd.int .i64) (w0 := w) w.heap.size (by rfl) (.tmp 14) (.tmp 16) 23 3 (.int .i64 0) 8 rfl Try.underlying23 info3 rfl (by decide) (by omega) v636 y635 l0_2 _ _ _ (fun k_ => (w.heap.size ≤ k_)) (fun _ => False) rfl rfl ?aO ?aR (fun _ _ h => h) (fun _ h => h.elim) ?aF ?aB ?aS ?aL ?_
    (case aR => repeat (first | exact (Kd.C_below HR0_2.out HB.out) | (with_reducible refine Kd.C_alloc ?_ _) | (with_reducible refine Kd.C_drewN ?_ _) | (with_reducible refine Kd.C_drew ?_)))
    (case aB => exact (fW HB.out))
    (case aF => exact (fun k_ hk => (Nat.le_trans (wz (fW HB.out)) hk)))
    (case aO => exact (by (with_reducible repeat (first | apply Kd.R_alloc | apply Kd.R_drewN | apply Kd.R_drew)); exact Kd.R_mono HO637.out (fun _ hk => hk.1)))
    (case aS => exact (wz (fW HB.out)))
    (case aL => have := LMc3.out; omega)
    intro v639 w10 ho hb hg hat
    rw [← Ny638.out] at ho
    have n0_ := am (Kd.V_afterv (ok := (fun k_ => ((P0_0_ k_ ∨ P0_3_ k_) ∨ w.heap.size ≤ k_) ∧ k_ ≠ gb633 ∧ k_ ≠ gb634 ∧ k_ ≠ gb641)) (by (with_reducible repeat (first | apply Kd.V_alloc | apply Kd.V_drewN | apply Kd.V_drew)); exact Kd.V_mono HO0_0.out (fun _ hk => ⟨⟨hk.1.1.1.1, ⟨hk.1.1.1.2, ⟨hk.1.1.2, hk.2⟩⟩⟩, hk.1.2⟩)) hg hat)
    have n1_ := am (Kd.V_afterv (ok := (fun k_ => ((P0_0_ k_ ∨ P0_3_ k_) ∨ w.heap.size ≤ k_) ∧ k_ ≠ gb633 ∧ k_ ≠ gb634 ∧ k_ ≠ gb641)) (by (with_reducible repeat (first | apply Kd.V_alloc | apply Kd.V_drewN | apply Kd.V_drew)); exact Kd.V_mono HO0_3.out (fun _ hk => ⟨⟨hk.1.1.1.1, ⟨hk.1.1.1.2, ⟨hk.1.1.2, hk.2⟩⟩⟩, hk.1.2⟩)) hg hat)
    have n2_ := am (blk_grown (g := gb633) (o := .cells #[.slice A0_0 l0_0.length c0_0, .int .i64 a0_1, .slice A0_2 l0_2.length c0_2, .slice A0_3 l0_3.length c0_3] 26 (0, 0)) (fb BK633.out) hg (Kd.R_ne HO637.out BK633.out (by decide)))
    have n3_ := am (blk_grown (g := gb634) (o := .cells #[.slice none 0 0, .int .i64 0, .slice none 0 0, .slice none 0 0] 26 (0, 0)) (fb BK634.out) hg (Kd.R_ne HO637.out BK634.out (by decide)))
    have n4_ := am (blk_grown (g := gb641) (o := .cells #[.slice none 0 0, .int .i64 0, .slice none 0 0, .slice none 0 0] 26 (0, 0)) (fb BK641.out) hg (Kd.R_ne HO637.out BK641.out (by decide)))
    have n5_ := am (hb)
    have n6_ := am (ho)
    clear HO0_0 HO0_3 BK633 BK634 BK641 HB HO637
    have HO0_0 := n0_
    have HO0_3 := n1_
    have BK633 := n2_
    have BK634 := n3_
    have BK641 := n4_
    have HB := n5_
    have HO640 := n6_
    clear n0_ n1_ n2_ n3_ n4_ n5_ n6_ ho hb hg hat
    obtain ⟨Ao11, co11, eo11⟩ := Kd.R_slice HO640.out
    (first | subst eo11 | (injection eo11 with f1_ f2_ f3_; have f4_ := f1_.symm; have f5_ := f3_.symm; clear f1_ f2_ f3_; subst f4_; subst f5_))
    refine hK.out _ _ ⟨(bc BK633.out 0).trans rfl, (bc BK633.out 1).trans rfl, (bc BK633.out 2).trans rfl, (bc BK633.out 3).trans rfl⟩ (fun hHeld => ?_)
    clear hK K
    refine norm_ (a' := ?_) ?_ ?_
    rotate_left
    ·show Act.put _ (some 17) _ = _
     simp only [Act.put, psl, i64_w, i32_w]
     rfl
    refine pu (i := 10) (N := some 20) (fl 13 12 []) HT_ ?_
    exact norm_ (by simp only [putAll, Act.put, psl]) (hCont (v636, .slice Ao11 y638.length co11, gb641) _ ⟨hHeld, (by (with_reducible repeat (first | apply Kd.V_alloc | apply Kd.V_drewN | apply Kd.V_drew)); exact Kd.V_mono HO0_0.out (fun _ hk => ⟨hk.1.1, ⟨hk.2, ⟨hk.1.2.1, ⟨hk.1.2.2.1, hk.1.2.2.2⟩⟩⟩⟩)), (by (with_reducible repeat (first | apply Kd.V_alloc | apply Kd.V_drewN | apply Kd.V_drew)); exact Kd.V_mono HO0_3.out (fun _ hk => ⟨hk.1.1, ⟨hk.2, ⟨hk.1.2.1, ⟨hk.1.2.2.1, hk.1.2.2.2⟩⟩⟩⟩)), (fR HO640.out), (fb BK633.out), (fb BK634.out), (fb BK641.out), GW641.out, GE641.out, NB633_641.out, NB641_633.out, NB634_641.out, NB641_634.out, (fW HB.out)⟩)
   skip
   refine box_step ?hg (N := 6) ?hd (cs := #[.slice none 0 0, .int .i64 0, .slice none 0 0, .slice none 0 0]) (t := 26) ?hr ?_; (case hd | hg => rfl); (case hr => first | (go_simp; done) | (go_simp; rfl))
   intro gb641 hg w7 hbox hb
   have n0_ := eV HO0_0 hg hb
   have n1_ := eV HO0_3 hg hb
   have n2_ := bB BK633 hb
   have n3_ := bB BK634 hb
   have n4_ := bS HB hb
   have n5_ := am hbox
   have n6_ := sG HB hg
   have n7_ := sG HB hg
   have n8_ := nL BK633 hg
   have n9_ := nG BK633 hg
   have n10_ := nL BK634 hg
   have n11_ := nG BK634 hg
   clear HO0_0 HO0_3 BK633 BK634 HB
   have HO0_0 := n0_
   have HO0_3 := n1_
   have BK633 := n2_
   have BK634 := n3_
   have HB := n4_
   have BK641 := n5_
   have GW641 := n6_
   have GE641 := n7_
   have NB633_641 := n8_
   have NB641_633 := n9_
   have NB634_641 := n10_
   have NB641_634 := n11_
   clear n0_ n1_ n2_ n3_ n4_ n5_ n6_ n7_ n8_ n9_ n10_ n11_ hb hbox hg
   refine hK.out _ _ ⟨(bc BK633.out 0).trans rfl, (bc BK633.out 1).trans rfl, (bc BK633.out 2).trans rfl, (bc BK633.out 3).trans rfl⟩ (fun hHeld => ?_)
   clear hK K
   refine norm_ (a' := ?_) ?_ ?_
   rotate_left
   ·show Act.put _ (some 6) _ = _
    simp only [Act.put, psl, i64_w, i32_w]
    rfl
   refine one_ (i := 4) (N := some 14) (fl 13 7 [8, 9, 11]) rfl rfl (one_of HT_.out (by kernel_rfl)) (by decide) (fun K hK => ?_)
   refine Kd.R_lit_step (Kd.int .i64) _ 3 ?hg (N := 14) ?hd (xs := ([] : List Int)) (inner := []) (ok := fun _ => True) (okp := fun _ => True) ?hr ?hp (fun _ hk => hk) trivial (Below.refl _ _) (Nat.le_refl _) (by simp) ?_; (case hd | hg => rfl); (case hr => first | (go_simp; done) | (go_simp; rfl)); (case hp => exact (Reps.none _ _))
   intro v636 w8 ho9 hb hg_ hnew_
   clear hg_ hnew_
   (first | rw [← Ny635.out] at ho9 | (simp only [Int.reduceToNat] at ho9; rw [← Ny635.out] at ho9))
   have n0_ := am (Kd.V_elder' (fV HO0_0.out) (Kd.R_base ho9) hb)
   have n1_ := am (Kd.V_elder' (fV HO0_3.out) (Kd.R_base ho9) hb)
   have n2_ := am (Kd.R_lower (Kd.R_newM (M := fun k_ => (w.heap.size ≤ k_)) ho9 (wz (fW HB.out)) (fun k_ h_ => h_)) (wz (fW HB.out)))
   have n3_ := bB BK633 hb
   have n4_ := bB BK634 hb
   have n5_ := bB BK641 hb
   have n6_ := bS HB hb
   clear HO0_0 HO0_3 BK633 BK634 BK641 HB
   have HO0_0 := n0_
   have HO0_3 := n1_
   have HO637 := n2_
   have BK633 := n3_
   have BK634 := n4_
   have BK641 := n5_
   have HB := n6_
   clear n0_ n1_ n2_ n3_ n4_ n5_ n6_ hb ho9
   refine hK.out _ _ ⟨(bc BK633.out 0).trans rfl, (bc BK633.out 1).trans rfl, (bc BK633.out 2).trans rfl, (bc BK633.out 3).trans rfl⟩ (fun hHeld => ?_)
   clear hK K
   refine norm_ (a' := ?_) ?_ ?_
   rotate_left
   ·show Act.put _ (some 14) _ = _
    simp only [Act.put, psl, i64_w, i32_w]
    rfl
   refine one_ (i := 7) (N := some 17) (fl 13 10 [11]) rfl rfl (one_of HT_.out (by kernel_rfl)) (by decide) (fun K hK => ?_)
   refine Kd.R_append_rows_step (Kd.int .i64) (w0 := w) w.heap.size (by rfl) (.tmp 14) (.tmp 16) 23 3 (.int .i64 0) 8 rfl Try.underlying23 info3 rfl (by decide) (by omega) v636 y635 l0_2 _ _ _ (fun k_ => (w.heap.size ≤ k_)) (fun _ => False) rfl rfl ?aO ?aR (fun _ _ h => h) (fun _ h => h.elim) ?aF ?aB ?aS ?aL ?_
   (case aR => repeat (first | exact (Kd.C_below HR0_2.out HB.out) | (with_reducible refine Kd.C_alloc ?_ _) | (with_reducible refine Kd.C_drewN ?_ _) | (with_reducible refine Kd.C_drew ?_)))
   (case aB => exact (fW HB.out))
   (case aF => exact (fun k_ hk => (Nat.le_trans (wz (fW HB.out)) hk)))
   (case aO => exact (by (with_reducible repeat (first | apply Kd.R_alloc | apply Kd.R_drewN | apply Kd.R_drew)); exact Kd.R_mono HO637.out (fun _ hk => hk.1)))
   (case aS => exact (wz (fW HB.out)))
   (case aL => have := LMc3.out; omega)
   intro v639 w10 ho hb hg hat
   rw [← Ny638.out] at ho
   have n0_ := am (Kd.V_afterv (ok := (fun k_ => ((P0_0_ k_ ∨ P0_3_ k_) ∨ w.heap.size ≤ k_) ∧ k_ ≠ gb633 ∧ k_ ≠ gb634 ∧ k_ ≠ gb641)) (by (with_reducible repeat (first | apply Kd.V_alloc | apply Kd.V_drewN | apply Kd.V_drew)); exact Kd.V_mono HO0_0.out (fun _ hk => ⟨⟨hk.1.1.1.1, ⟨hk.1.1.1.2, ⟨hk.1.1.2, hk.1.2⟩⟩⟩, hk.2⟩)) hg hat)
   have n1_ := am (Kd.V_afterv (ok := (fun k_ => ((P0_0_ k_ ∨ P0_3_ k_) ∨ w.heap.size ≤ k_) ∧ k_ ≠ gb633 ∧ k_ ≠ gb634 ∧ k_ ≠ gb641)) (by (with_reducible repeat (first | apply Kd.V_alloc | apply Kd.V_drewN | apply Kd.V_drew)); exact Kd.V_mono HO0_3.out (fun _ hk => ⟨⟨hk.1.1.1.1, ⟨hk.1.1.1.2, ⟨hk.1.1.2, hk.1.2⟩⟩⟩, hk.2⟩)) hg hat)
   have n2_ := am (blk_grown (g := gb633) (o := .cells #[.slice A0_0 l0_0.length c0_0, .int .i64 a0_1, .slice A0_2 l0_2.length c0_2, .slice A0_3 l0_3.length c0_3] 26 (0, 0)) (fb BK633.out) hg (Kd.R_ne HO637.out BK633.out (by decide)))
   have n3_ := am (blk_grown (g := gb634) (o := .cells #[.slice none 0 0, .int .i64 0, .slice none 0 0, .slice none 0 0] 26 (0, 0)) (fb BK634.out) hg (Kd.R_ne HO637.out BK634.out (by decide)))
   have n4_ := am (blk_grown (g := gb641) (o := .cells #[.slice none 0 0, .int .i64 0, .slice none 0 0, .slice none 0 0] 26 (0, 0)) (fb BK641.out) hg (Kd.R_ne HO637.out BK641.out (by decide)))
   have n5_ := am (hb)
   have n6_ := am (ho)
   clear HO0_0 HO0_3 BK633 BK634 BK641 HB HO637
   have HO0_0 := n0_
   have HO0_3 := n1_
   have BK633 := n2_
   have BK634 := n3_
   have BK641 := n4_
   have HB := n5_
   have HO640 := n6_
   clear n0_ n1_ n2_ n3_ n4_ n5_ n6_ ho hb hg hat
   obtain ⟨Ao11, co11, eo11⟩ := Kd.R_slice HO640.out
   (first | subst eo11 | (injection eo11 with f1_ f2_ f3_; have f4_ := f1_.symm; have f5_ := f3_.symm; clear f1_ f2_ f3_; subst f4_; subst f5_))
   refine hK.out _ _ ⟨(bc BK633.out 0).trans rfl, (bc BK633.out 1).trans rfl, (bc BK633.out 2).trans rfl, (bc BK633.out 3).trans rfl⟩ (fun hHeld => ?_)
   clear hK K
   refine norm_ (a' := ?_) ?_ ?_
   rotate_left
   ·show Act.put _ (some 17) _ = _
    simp only [Act.put, psl, i64_w, i32_w]
    rfl
   refine pu (i := 10) (N := some 20) (fl 13 12 []) HT_ ?_
   exact norm_ (by simp only [putAll, Act.put, psl]) (hCont (v636, .slice Ao11 y638.length co11, gb641) _ ⟨hHeld, (by (with_reducible repeat (first | apply Kd.V_alloc | apply Kd.V_drewN | apply Kd.V_drew)); exact Kd.V_mono HO0_0.out (fun _ hk => ⟨hk.1.1, ⟨hk.2, ⟨hk.1.2.1, ⟨hk.1.2.2.1, hk.1.2.2.2⟩⟩⟩⟩)), (by (with_reducible repeat (first | apply Kd.V_alloc | apply Kd.V_drewN | apply Kd.V_drew)); exact Kd.V_mono HO0_3.out (fun _ hk => ⟨hk.1.1, ⟨hk.2, ⟨hk.1.2.1, ⟨hk.1.2.2.1, hk.1.2.2.2⟩⟩⟩⟩)), (fR HO640.out), (fb BK633.out), (fb BK634.out), (fb BK641.out), GW641.out, GE641.out, NB633_641.out, NB641_633.out, NB634_641.out, NB641_634.out, (fW HB.out)⟩)
  rintro ⟨v636, v639, gb641⟩ w12 ⟨hS_, h0_, h1_, h2_, h3_, h4_, h5_, h6_, h7_, h8_, h9_, h10_, h11_, h12_⟩
  have n0_ : Aside0 (Kd.V (Kd.slice 3 (Kd.int .i64)) 23 w12 w.heap.size (fun k_ => ((P0_0_ k_ ∨ P0_3_ k_) ∨ w.heap.size ≤ k_) ∧ some k_ ≠ (v639 : Value).ownBlock ∧ k_ ≠ gb633 ∧ k_ ≠ gb634 ∧ k_ ≠ gb641) (.slice A0_0 l0_0.length c0_0) l0_0) := ⟨h0_⟩
  have n1_ : Aside0 (Kd.V Kd.bool 4 w12 w.heap.size (fun k_ => ((P0_0_ k_ ∨ P0_3_ k_) ∨ w.heap.size ≤ k_) ∧ some k_ ≠ (v639 : Value).ownBlock ∧ k_ ≠ gb633 ∧ k_ ≠ gb634 ∧ k_ ≠ gb641) (.slice A0_3 l0_3.length c0_3) l0_3) := ⟨h1_⟩
  have n2_ : Aside0 (Kd.R (Kd.int .i64) 3 w12 w.heap.size (fun k_ => (w.heap.size ≤ k_)) v639 y638) := ⟨h2_⟩
  have n3_ : Aside0 (w12.heap[gb633]? = some (.cells #[.slice A0_0 l0_0.length c0_0, .int .i64 a0_1, .slice A0_2 l0_2.length c0_2, .slice A0_3 l0_3.length c0_3] 26 (0, 0))) := ⟨h3_⟩
  have n4_ : Aside0 (w12.heap[gb634]? = some (.cells #[.slice none 0 0, .int .i64 0, .slice none 0 0, .slice none 0 0] 26 (0, 0))) := ⟨h4_⟩
  have n5_ : Aside0 (w12.heap[gb641]? = some (.cells #[.slice none 0 0, .int .i64 0, .slice none 0 0, .slice none 0 0] 26 (0, 0))) := ⟨h5_⟩
  have n6_ : Aside0 (w.heap.size ≤ gb641) := ⟨h6_⟩
  have n7_ : Aside0 (w.heap.size ≤ gb641) := ⟨h7_⟩
  have n8_ : Aside0 (gb633 ≠ gb641) := ⟨h8_⟩
  have n9_ : Aside0 (gb641 ≠ gb633) := ⟨h9_⟩
  have n10_ : Aside0 (gb634 ≠ gb641) := ⟨h10_⟩
  have n11_ : Aside0 (gb641 ≠ gb634) := ⟨h11_⟩
  have n12_ : Aside0 (Below w.heap.size w w12) := ⟨h12_⟩
  clear HO0_0 HO0_3 BK633 BK634 HB h0_ h1_ h2_ h3_ h4_ h5_ h6_ h7_ h8_ h9_ h10_ h11_ h12_
  have HO0_0 := n0_
  have HO0_3 := n1_
  have HO640 := n2_
  have BK633 := n3_
  have BK634 := n4_
  have BK641 := n5_
  have GW641 := n6_
  have GE641 := n7_
  have NB633_641 := n8_
  have NB641_633 := n9_
  have NB634_641 := n10_
  have NB641_634 := n11_
  have HB := n12_
  clear n0_ n1_ n2_ n3_ n4_ n5_ n6_ n7_ n8_ n9_ n10_ n11_ n12_
  have hHeld : w12.cell? ⟨gb633, 0, none⟩ = some (.slice A0_0 l0_0.length c0_0) ∧ w12.cell? ⟨gb633, 1, none⟩ = some (.int .i64 a0_1) ∧ w12.cell? ⟨gb633, 2, none⟩ = some (.slice A0_2 l0_2.length c0_2) ∧ w12.cell? ⟨gb633, 3, none⟩ = some (.slice A0_3 l0_3.length c0_3) := hS_
  obtain ⟨Ao13, co13, eo13⟩ := Kd.R_slice HO640.out
  (first | subst eo13 | (injection eo13 with f1_ f2_ f3_; have f4_ := f1_.symm; have f5_ := f3_.symm; clear f1_ f2_ f3_; subst f4_; subst f5_))
  refine norm_ (a' := ?_) ?_ ?_
  rotate_left
  ·simp only [putAll, Act.put, psl]
   rfl
  refine one_ (i := 12) (N := none) (fl 13 13 []) rfl rfl (one_of HT_.out (by kernel_rfl)) (by decide) (fun K hK => ?_)
  have hs14 : w12.cell? ⟨gb641, 0, none⟩ = some (.slice none 0 0) := (bc BK641.out 0).trans rfl
  have hfs14 := bf BK641.out 0
  have hns14_0 := NB633_641.out
  have hns14_1 := NB634_641.out
  have hms14_0 := NB641_633.out
  have hms14_1 := NB641_634.out
  have hs15 : w12.cell? ⟨gb641, 1, none⟩ = some (.int .i64 0) := (bc BK641.out 1).trans rfl
  have hfs15 := bf BK641.out 1
  have hns15_0 := NB633_641.out
  have hns15_1 := NB634_641.out
  have hms15_0 := NB641_633.out
  have hms15_1 := NB641_634.out
  have hs16 : w12.cell? ⟨gb641, 2, none⟩ = some (.slice none 0 0) := (bc BK641.out 2).trans rfl
  have hfs16 := bf BK641.out 2
  have hns16_0 := NB633_641.out
  have hns16_1 := NB634_641.out
  have hms16_0 := NB641_633.out
  have hms16_1 := NB641_634.out
  have hs17 : w12.cell? ⟨gb641, 3, none⟩ = some (.slice none 0 0) := (bc BK641.out 3).trans rfl
  have hfs17 := bf BK641.out 3
  have hns17_0 := NB633_641.out
  have hns17_1 := NB634_641.out
  have hms17_0 := NB641_633.out
  have hms17_1 := NB641_634.out
  refine skip_ (w1 := ?_) (by rfl) rfl ?_ ?_
  rotate_left
  ·go_simp
   rfl
  refine hK.out _ _ ⟨((cf (p := ⟨gb641, _, none⟩) NB633_641.out _).trans (((cf (p := ⟨gb641, _, none⟩) NB633_641.out _).trans (((cf (p := ⟨gb641, _, none⟩) NB633_641.out _).trans (((cf (p := ⟨gb641, _, none⟩) NB633_641.out _).trans (hHeld.1)))))))), ((cf (p := ⟨gb641, _, none⟩) NB633_641.out _).trans (((cf (p := ⟨gb641, _, none⟩) NB633_641.out _).trans (((cf (p := ⟨gb641, _, none⟩) NB633_641.out _).trans (((cf (p := ⟨gb641, _, none⟩) NB633_641.out _).trans (hHeld.2.1)))))))), ((cf (p := ⟨gb641, _, none⟩) NB633_641.out _).trans (((cf (p := ⟨gb641, _, none⟩) NB633_641.out _).trans (((cf (p := ⟨gb641, _, none⟩) NB633_641.out _).trans (((cf (p := ⟨gb641, _, none⟩) NB633_641.out _).trans (hHeld.2.2.1)))))))), ((cf (p := ⟨gb641, _, none⟩) NB633_641.out _).trans (((cf (p := ⟨gb641, _, none⟩) NB633_641.out _).trans (((cf (p := ⟨gb641, _, none⟩) NB633_641.out _).trans (((cf (p := ⟨gb641, _, none⟩) NB633_641.out _).trans (hHeld.2.2.2))))))))⟩ (fun hHeld => ?_)
  clear hK K
  refine done_ (done_of HT_.out (by kernel_rfl)) ?_
  try go_wp2_with (first | ((with_reducible refine gate_dst (N := 21) rfl ?_); (try (refine gate_guard (by rfl) ?_; dsimp only)); refine Kd.R_lit (Kd.int .i64) _ 3 ?hg (N := 21) ?hd (xs := ([] : List Int)) (inner := []) (ok := fun _ => True) (okp := fun _ => True) ?hr ?hp (fun _ hk => hk) trivial (Below.refl _ _) (Nat.le_refl _) (by simp) ?_; (case hd | hg => rfl); (case hr => first | (go_simp; done) | (go_simp; rfl)); (case hp => exact (Reps.none _ _)); intro v643 w18 ho19 hb hg_ hnew_; clear hg_ hnew_; (first | rw [← Ny642.out] at ho19 | (simp only [Int.reduceToNat] at ho19; rw [← Ny642.out] at ho19)); replace HO0_0 := am (Kd.V_elder' (by (with_reducible repeat (first | apply Kd.V_alloc | apply Kd.V_drewN | apply Kd.V_drew)); exact (Kd.V_mono (Kd.V_far (p := ⟨gb641, 3, none⟩) (Kd.V_far (p := ⟨gb641, 2, none⟩) (Kd.V_far (p := ⟨gb641, 1, none⟩) (Kd.V_far (p := ⟨gb641, 0, none⟩) (Kd.V_mono HO0_0.out (fun k_ hk => (⟨hk, hk.2.2.2.2⟩ : _ ∧ k_ ≠ gb641))) (fun _ hk => hk.2) (.slice A0_0 l0_0.length c0_0)) (fun _ hk => hk.2) (.int .i64 a0_1)) (fun _ hk => hk.2) (.slice Ao13 y638.length co13)) (fun _ hk => hk.2) (.slice A0_3 l0_3.length c0_3)) (fun _ h_ => h_.1))) (Kd.R_base ho19) hb); replace HO0_3 := am (Kd.V_elder' (by (with_reducible repeat (first | apply Kd.V_alloc | apply Kd.V_drewN | apply Kd.V_drew)); exact (Kd.V_mono (Kd.V_far (p := ⟨gb641, 3, none⟩) (Kd.V_far (p := ⟨gb641, 2, none⟩) (Kd.V_far (p := ⟨gb641, 1, none⟩) (Kd.V_far (p := ⟨gb641, 0, none⟩) (Kd.V_mono HO0_3.out (fun k_ hk => (⟨hk, hk.2.2.2.2⟩ : _ ∧ k_ ≠ gb641))) (fun _ hk => hk.2) (.slice A0_0 l0_0.length c0_0)) (fun _ hk => hk.2) (.int .i64 a0_1)) (fun _ hk => hk.2) (.slice Ao13 y638.length co13)) (fun _ hk => hk.2) (.slice A0_3 l0_3.length c0_3)) (fun _ h_ => h_.1))) (Kd.R_base ho19) hb); have HO644 := am (Kd.R_lower (Kd.R_new' (Kd.R_newM (M := fun k_ => (w.heap.size ≤ k_)) ho19 (wz (fW HB.out)) (fun k_ h_ => h_)) (Kd.R_lt (by (with_reducible repeat (first | apply Kd.R_alloc | apply Kd.R_drewN | apply Kd.R_drew)); exact (Kd.R_mono (Kd.R_far (p := ⟨gb641, 3, none⟩) (Kd.R_far (p := ⟨gb641, 2, none⟩) (Kd.R_far (p := ⟨gb641, 1, none⟩) (Kd.R_far (p := ⟨gb641, 0, none⟩) (Kd.R_types HO640.out BK641.out (by decide)) (fun _ hk => hk.2) (.slice A0_0 l0_0.length c0_0)) (fun _ hk => hk.2) (.int .i64 a0_1)) (fun _ hk => hk.2) (.slice Ao13 y638.length co13)) (fun _ hk => hk.2) (.slice A0_3 l0_3.length c0_3)) (fun _ h_ => h_.1))))) (wz (fW HB.out))); replace HO640 := am (Kd.R_elder' (by (with_reducible repeat (first | apply Kd.R_alloc | apply Kd.R_drewN | apply Kd.R_drew)); exact (Kd.R_mono (Kd.R_far (p := ⟨gb641, 3, none⟩) (Kd.R_far (p := ⟨gb641, 2, none⟩) (Kd.R_far (p := ⟨gb641, 1, none⟩) (Kd.R_far (p := ⟨gb641, 0, none⟩) (Kd.R_types HO640.out BK641.out (by decide)) (fun _ hk => hk.2) (.slice A0_0 l0_0.length c0_0)) (fun _ hk => hk.2) (.int .i64 a0_1)) (fun _ hk => hk.2) (.slice Ao13 y638.length co13)) (fun _ hk => hk.2) (.slice A0_3 l0_3.length c0_3)) (fun _ h_ => h_.1))) (Kd.R_base ho19) hb); replace BK633 := xC1 (kfC BK633.out) hb; replace BK634 := xC1 (kfC BK634.out) hb; replace BK641 := xC1 (o := .cells #[.slice A0_0 l0_0.length c0_0, .int .i64 a0_1, .slice Ao13 y638.length co13, .slice A0_3 l0_3.length c0_3] 26 (0, 0)) (kkC BK641.out) hb; replace HB := bS HB hb; clear hb ho19))
  go_loopg [7, 8] k (fun kq v7 v8 w' => ∃ (x7_1 : List Int) (x8_1 : Int) (x635001_1 : Int) (x642002_1 : List Int) (u642002 : Value), v8 = .int .i64 x8_1 ∧ Aside0 (r_Apply.l0 kq l1 x7_1 x8_1 l0_0 a0_1 l0_2 l0_3 l0_0 a0_1 x642002_1 l0_3 = some (r1, r2, r3, r4, r5)) ∧ Aside0 (kq ≤ k) ∧ Aside0 (Kd.R (Kd.int .i64) 3 w' w.heap.size (fun k_ => (w.heap.size ≤ k_) ∧ some k_ ≠ (u642002 : Value).ownBlock) v7 x7_1) ∧ Aside0 (Kd.V (Kd.slice 3 (Kd.int .i64)) 23 w' w.heap.size (fun k_ => ((P0_0_ k_ ∨ P0_3_ k_) ∨ w.heap.size ≤ k_) ∧ some k_ ≠ (v7 : Value).ownBlock ∧ some k_ ≠ (u642002 : Value).ownBlock ∧ k_ ≠ gb633 ∧ k_ ≠ gb634 ∧ k_ ≠ gb641) (.slice A0_0 l0_0.length c0_0) l0_0) ∧ Aside0 (Kd.V Kd.bool 4 w' w.heap.size (fun k_ => ((P0_0_ k_ ∨ P0_3_ k_) ∨ w.heap.size ≤ k_) ∧ some k_ ≠ (v7 : Value).ownBlock ∧ some k_ ≠ (u642002 : Value).ownBlock ∧ k_ ≠ gb633 ∧ k_ ≠ gb634 ∧ k_ ≠ gb641) (.slice A0_3 l0_3.length c0_3) l0_3) ∧ Aside0 (Kd.V (Kd.slice 3 (Kd.int .i64)) 23 w' w.heap.size (fun k_ => ((P0_0_ k_ ∨ P0_3_ k_) ∨ w.heap.size ≤ k_) ∧ some k_ ≠ (v7 : Value).ownBlock ∧ some k_ ≠ (u642002 : Value).ownBlock ∧ k_ ≠ gb633 ∧ k_ ≠ gb634 ∧ k_ ≠ gb641) (.slice A0_0 l0_0.length c0_0) l0_0) ∧ Aside0 (Kd.R (Kd.int .i64) 3 w' w.heap.size (fun k_ => (w.heap.size ≤ k_) ∧ some k_ ≠ (v7 : Value).ownBlock) u642002 x642002_1) ∧ Aside0 (Kd.V Kd.bool 4 w' w.heap.size (fun k_ => ((P0_0_ k_ ∨ P0_3_ k_) ∨ w.heap.size ≤ k_) ∧ some k_ ≠ (v7 : Value).ownBlock ∧ some k_ ≠ (u642002 : Value).ownBlock ∧ k_ ≠ gb633 ∧ k_ ≠ gb634 ∧ k_ ≠ gb641) (.slice A0_3 l0_3.length c0_3) l0_3) ∧ Aside0 (w'.heap[gb633]? = some (.cells #[(.slice A0_0 l0_0.length c0_0), .int .i64 a0_1, (.slice A0_2 l0_2.length c0_2), (.slice A0_3 l0_3.length c0_3)] 26 (0, 0))) ∧ Aside0 (w'.heap[gb634]? = some (.cells #[(.slice none 0 0), .int .i64 x635001_1, (.slice none 0 0), (.slice none 0 0)] 26 (0, 0))) ∧ Aside0 (w'.heap[gb641]? = some (.cells #[(.slice A0_0 l0_0.length c0_0), .int .i64 a0_1, u642002, (.slice A0_3 l0_3.length c0_3)] 26 (0, 0))) ∧ Aside0 (Below w.heap.size w w'))
  case atStart => exact ⟨(y642), (0), (0), (y638), (.slice Ao13 y638.length co13), sqD, H', ⟨Nat.le_refl _⟩, ⟨by (with_reducible repeat (first | apply Kd.R_alloc | apply Kd.R_drewN | apply Kd.R_drew)); exact Kd.R_mono HO644.out (fun _ hk => ⟨hk.1.1, hk.2⟩)⟩, ⟨by (with_reducible repeat (first | apply Kd.V_alloc | apply Kd.V_drewN | apply Kd.V_drew)); exact Kd.V_mono HO0_0.out (fun _ hk => ⟨hk.1.1, ⟨hk.2, ⟨hk.1.2.1, ⟨hk.1.2.2.1, ⟨hk.1.2.2.2.1, hk.1.2.2.2.2⟩⟩⟩⟩⟩)⟩, ⟨by (with_reducible repeat (first | apply Kd.V_alloc | apply Kd.V_drewN | apply Kd.V_drew)); exact Kd.V_mono HO0_3.out (fun _ hk => ⟨hk.1.1, ⟨hk.2, ⟨hk.1.2.1, ⟨hk.1.2.2.1, ⟨hk.1.2.2.2.1, hk.1.2.2.2.2⟩⟩⟩⟩⟩)⟩, ⟨by (with_reducible repeat (first | apply Kd.V_alloc | apply Kd.V_drewN | apply Kd.V_drew)); exact Kd.V_mono HO0_0.out (fun _ hk => ⟨hk.1.1, ⟨hk.2, ⟨hk.1.2.1, ⟨hk.1.2.2.1, ⟨hk.1.2.2.2.1, hk.1.2.2.2.2⟩⟩⟩⟩⟩)⟩, ⟨fR HO640.out⟩, ⟨by (with_reducible repeat (first | apply Kd.V_alloc | apply Kd.V_drewN | apply Kd.V_drew)); exact Kd.V_mono HO0_3.out (fun _ hk => ⟨hk.1.1, ⟨hk.2, ⟨hk.1.2.1, ⟨hk.1.2.2.1, ⟨hk.1.2.2.2.1, hk.1.2.2.2.2⟩⟩⟩⟩⟩)⟩, ⟨fb BK633.out⟩, ⟨fb BK634.out⟩, ⟨fb BK641.out⟩, ⟨fW HB.out⟩⟩
  case round =>
   clear H'
   try clear c1;try clear p2;try clear c3
   obtain ⟨x7_1, x8_1, x635001_1, x642002_1, u642002, rfl, HA, HK1, HO_7, HO_634000, HO_634003, HO_642000, HO_642002, HO_642003, BK633, BK634, BK641, HB⟩ := hrel
   cases gk with
   | zero => exact absurd HA.out (by simp [r_Apply.l0])
   | succ k1 =>
    have H := HA.out
    clear HA
    simp only [r_Apply.l0] at H
    by_cases c20 : x8_1 < (l1.length : Int)
    rotate_left
    ·rw [if_neg c20] at H
     have c20b0 : decide (x8_1 < (l1.length : Int)) = false := decide_eq_false c20
     clear c20
     replace H := Option.bind_eq_some_iff.mp H
     obtain ⟨t656, A1020, H⟩ := H
     replace H : (if t656 = true then (some (([] : List (List Int)), 0, ([] : List Int), ([] : List Bool), 5)) else (some (l0_0, a0_1, x642002_1, l0_3, 0))) = some (r1, r2, r3, r4, r5) := H
     have A102 := am A1020
     clear A1020
     by_cases c103 : t656 = true
     ·subst c103
      have H1 : (some (([] : List (List Int)), 0, ([] : List Int), ([] : List Bool), 5)) = some (r1, r2, r3, r4, r5) := by rw [if_pos rfl] at H; exact H
      clear H
      have H := H1
      clear H1
      simp only [Option.some.injEq, Prod.mk.injEq] at H
      obtain ⟨rfl, rfl, rfl, rfl, rfl⟩ := H
      have hnb104 := NB641_633.out
      have hnc104 := NB633_641.out
      have hnb105 := NB641_634.out
      have hnc105 := NB634_641.out
      have := yC1 BK641
      have := kC1 BK641
      have := kC2 BK641
      have := kC3 BK641
      have := bf BK641.out 0
      have := bf BK641.out 1
      have := bf BK641.out 2
      have := bf BK641.out 3
      obtain ⟨Ao107, co107, eo107⟩ := Kd.R_slice HO_642002.out
      subst eo107
      go_wp2_with (first | ((with_reducible refine gate_callee (f := 41) rfl ?_); refine goesL_ (some 96) rfl rfl Try.func41 (by kernel_rfl) rfl #[.slice Ao107 x642002_1.length co107] rfl (by (try simp only [pml]); first | done | rfl | (simp only [pdt]; rfl)) ?_; (with_reducible refine (r_twice.calls k1 _ _ x642002_1 true _ ?side1 ?side2 A102.out).mono ?_); (case side1 => repeat (first | exact (Kd.R_reads' HO_642002.out).2.2 | (with_reducible refine Kd.C_alloc ?_ _) | (with_reducible refine Kd.C_drewN ?_ _) | (with_reducible refine Kd.C_drew ?_))); (case side2 => exact (Kd.R_reads' HO_642002.out).2.1); rintro e w' ⟨rfl, ⟨nd, rfl⟩⟩; refine ⟨_, rfl, ?_⟩; (try (rw [drewN_self wr]; generalize hq_ : World.drewN wr _ = wr; have n0_ : Aside0 (Kd.V (Kd.slice 3 (Kd.int .i64)) 23 wr w.heap.size (fun k_ => ((P0_0_ k_ ∨ P0_3_ k_) ∨ w.heap.size ≤ k_) ∧ some k_ ≠ (.slice Ao107 x642002_1.length co107 : Value).ownBlock ∧ some k_ ≠ (u7 : Value).ownBlock ∧ k_ ≠ gb633 ∧ k_ ≠ gb634 ∧ k_ ≠ gb641) (.slice A0_0 l0_0.length c0_0) l0_0) := ⟨by rw [← hq_]; exact (by (with_reducible repeat (first | apply Kd.V_alloc | apply Kd.V_drewN | apply Kd.V_drew)); exact Kd.V_mono HO_634000.out (fun _ hk => ⟨hk.1, ⟨hk.2.2.1, ⟨hk.2.1, ⟨hk.2.2.2.1, ⟨hk.2.2.2.2.1, hk.2.2.2.2.2⟩⟩⟩⟩⟩))⟩; have n1_ : Aside0 (Kd.V Kd.bool 4 wr w.heap.size (fun k_ => ((P0_0_ k_ ∨ P0_3_ k_) ∨ w.heap.size ≤ k_) ∧ some k_ ≠ (.slice Ao107 x642002_1.length co107 : Value).ownBlock ∧ some k_ ≠ (u7 : Value).ownBlock ∧ k_ ≠ gb633 ∧ k_ ≠ gb634 ∧ k_ ≠ gb641) (.slice A0_3 l0_3.length c0_3) l0_3) := ⟨by rw [← hq_]; exact (by (with_reducible repeat (first | apply Kd.V_alloc | apply Kd.V_drewN | apply Kd.V_drew)); exact Kd.V_mono HO_634003.out (fun _ hk => ⟨hk.1, ⟨hk.2.2.1, ⟨hk.2.1, ⟨hk.2.2.2.1, ⟨hk.2.2.2.2.1, hk.2.2.2.2.2⟩⟩⟩⟩⟩))⟩; have n2_ : Aside0 (Kd.V (Kd.slice 3 (Kd.int .i64)) 23 wr w.heap.size (fun k_ => ((P0_0_ k_ ∨ P0_3_ k_) ∨ w.heap.size ≤ k_) ∧ some k_ ≠ (.slice Ao107 x642002_1.length co107 : Value).ownBlock ∧ some k_ ≠ (u7 : Value).ownBlock ∧ k_ ≠ gb633 ∧ k_ ≠ gb634 ∧ k_ ≠ gb641) (.slice A0_0 l0_0.length c0_0) l0_0) := ⟨by rw [← hq_]; exact (by (with_reducible repeat (first | apply Kd.V_alloc | apply Kd.V_drewN | apply Kd.V_drew)); exact Kd.V_mono HO_642000.out (fun _ hk => ⟨hk.1, ⟨hk.2.2.1, ⟨hk.2.1, ⟨hk.2.2.2.1, ⟨hk.2.2.2.2.1, hk.2.2.2.2.2⟩⟩⟩⟩⟩))⟩; have n3_ : Aside0 (Kd.R (Kd.int .i64) 3 wr w.heap.size (fun k_ => (w.heap.size ≤ k_) ∧ some k_ ≠ (u7 : Value).ownBlock) (.slice Ao107 x642002_1.length co107) x642002_1) := ⟨by rw [← hq_]; exact (fR HO_642002.out)⟩; have n4_ : Aside0 (Kd.V Kd.bool 4 wr w.heap.size (fun k_ => ((P0_0_ k_ ∨ P0_3_ k_) ∨ w.heap.size ≤ k_) ∧ some k_ ≠ (.slice Ao107 x642002_1.length co107 : Value).ownBlock ∧ some k_ ≠ (u7 : Value).ownBlock ∧ k_ ≠ gb633 ∧ k_ ≠ gb634 ∧ k_ ≠ gb641) (.slice A0_3 l0_3.length c0_3) l0_3) := ⟨by rw [← hq_]; exact (by (with_reducible repeat (first | apply Kd.V_alloc | apply Kd.V_drewN | apply Kd.V_drew)); exact Kd.V_mono HO_642003.out (fun _ hk => ⟨hk.1, ⟨hk.2.2.1, ⟨hk.2.1, ⟨hk.2.2.2.1, ⟨hk.2.2.2.2.1, hk.2.2.2.2.2⟩⟩⟩⟩⟩))⟩; have n5_ : Aside0 (Kd.R (Kd.int .i64) 3 wr w.heap.size (fun k_ => (w.heap.size ≤ k_) ∧ some k_ ≠ (.slice Ao107 x642002_1.length co107 : Value).ownBlock) u7 x7_1) := ⟨by rw [← hq_]; exact (fR HO_7.out)⟩; have n6_ : Aside0 (wr.heap[gb633]? = some (.cells #[.slice A0_0 l0_0.length c0_0, .int .i64 a0_1, .slice A0_2 l0_2.length c0_2, .slice A0_3 l0_3.length c0_3] 26 (0, 0))) := ⟨by rw [← hq_]; exact (fb BK633.out)⟩; have n7_ : Aside0 (wr.heap[gb634]? = some (.cells #[.slice none 0 0, .int .i64 x635001_1, .slice none 0 0, .slice none 0 0] 26 (0, 0))) := ⟨by rw [← hq_]; exact (fb BK634.out)⟩; have n8_ : Aside0 (wr.heap[gb641]? = some (.cells #[.slice A0_0 l0_0.length c0_0, .int .i64 a0_1, .slice Ao107 x642002_1.length co107, .slice A0_3 l0_3.length c0_3] 26 (0, 0))) := ⟨by rw [← hq_]; exact (fb BK641.out)⟩; have n9_ : Aside0 (Below w.heap.size w wr) := ⟨by rw [← hq_]; exact (fW HB.out)⟩; clear HO_634000 HO_634003 HO_642000 HO_642002 HO_642003 HO_7 BK633 BK634 BK641 HB hq_; have HO_634000 := n0_; have HO_634003 := n1_; have HO_642000 := n2_; have HO_642002 := n3_; have HO_642003 := n4_; have HO_7 := n5_; have BK633 := n6_; have BK634 := n7_; have BK641 := n8_; have HB := n9_; clear n0_ n1_ n2_ n3_ n4_ n5_ n6_ n7_ n8_ n9_)); have hnb108 := NB634_633.out; have hnc108 := NB633_634.out; obtain ⟨_, _, _, _, _, _, _, _⟩ := zC4 BK634))
      refine bodyPost_ret (results_ct rfl _ _ gb634 26 #[.slice none 0 0, .int .i64 0, .slice none 0 0, .slice none 0 0] (0, 0) _ rfl (kkC BK634.out) Try.underlying26 rfl (by kernel_rfl)) rfl ?_
      exact ⟨_, _, _, sqE, (Kd.V_nil _ _ _ _ _), by first | exact Kd.R_nil _ _ _ _ _ | exact Kd.N_nil _ _ _ _ _ | exact Kd.V_nil _ _ _ _ _ | exact Kd.Q_nil _ _ _ _ _ | exact Kd.S_nil _ _ _ _ _, (Kd.V_nil _ _ _ _ _), fW HB.out⟩
     replace c103 := Bool.eq_false_iff.mpr c103
     subst c103
     have H1 : (some (l0_0, a0_1, x642002_1, l0_3, 0)) = some (r1, r2, r3, r4, r5) := by rw [if_neg (show ¬ (false = true) by decide)] at H; exact H
     clear H
     have H := H1
     clear H1
     simp only [Option.some.injEq, Prod.mk.injEq] at H
     obtain ⟨rfl, rfl, rfl, rfl, rfl⟩ := H
     have hnb110 := NB641_633.out
     have hnc110 := NB633_641.out
     have hnb111 := NB641_634.out
     have hnc111 := NB634_641.out
     have := yC1 BK641
     have := kC1 BK641
     have := kC2 BK641
     have := kC3 BK641
     have := bf BK641.out 0
     have := bf BK641.out 1
     have := bf BK641.out 2
     have := bf BK641.out 3
     obtain ⟨Ao113, co113, eo113⟩ := Kd.R_slice HO_642002.out
     subst eo113
     go_wp2_with (first | ((with_reducible refine gate_callee (f := 41) rfl ?_); refine goesL_ (some 96) rfl rfl Try.func41 (by kernel_rfl) rfl #[.slice Ao113 x642002_1.length co113] rfl (by (try simp only [pml]); first | done | rfl | (simp only [pdt]; rfl)) ?_; (with_reducible refine (r_twice.calls k1 _ _ x642002_1 false _ ?side1 ?side2 A102.out).mono ?_); (case side1 => repeat (first | exact (Kd.R_reads' HO_642002.out).2.2 | (with_reducible refine Kd.C_alloc ?_ _) | (with_reducible refine Kd.C_drewN ?_ _) | (with_reducible refine Kd.C_drew ?_))); (case side2 => exact (Kd.R_reads' HO_642002.out).2.1); rintro e w' ⟨rfl, ⟨nd, rfl⟩⟩; refine ⟨_, rfl, ?_⟩; (try (rw [drewN_self wr]; generalize hq_ : World.drewN wr _ = wr; have n0_ : Aside0 (Kd.V (Kd.slice 3 (Kd.int .i64)) 23 wr w.heap.size (fun k_ => ((P0_0_ k_ ∨ P0_3_ k_) ∨ w.heap.size ≤ k_) ∧ some k_ ≠ (.slice Ao113 x642002_1.length co113 : Value).ownBlock ∧ some k_ ≠ (u7 : Value).ownBlock ∧ k_ ≠ gb633 ∧ k_ ≠ gb634 ∧ k_ ≠ gb641) (.slice A0_0 l0_0.length c0_0) l0_0) := ⟨by rw [← hq_]; exact (by (with_reducible repeat (first | apply Kd.V_alloc | apply Kd.V_drewN | apply Kd.V_drew)); exact Kd.V_mono HO_634000.out (fun _ hk => ⟨hk.1, ⟨hk.2.2.1, ⟨hk.2.1, ⟨hk.2.2.2.1, ⟨hk.2.2.2.2.1, hk.2.2.2.2.2⟩⟩⟩⟩⟩))⟩; have n1_ : Aside0 (Kd.V Kd.bool 4 wr w.heap.size (fun k_ => ((P0_0_ k_ ∨ P0_3_ k_) ∨ w.heap.size ≤ k_) ∧ some k_ ≠ (.slice Ao113 x642002_1.length co113 : Value).ownBlock ∧ some k_ ≠ (u7 : Value).ownBlock ∧ k_ ≠ gb633 ∧ k_ ≠ gb634 ∧ k_ ≠ gb641) (.slice A0_3 l0_3.length c0_3) l0_3) := ⟨by rw [← hq_]; exact (by (with_reducible repeat (first | apply Kd.V_alloc | apply Kd.V_drewN | apply Kd.V_drew)); exact Kd.V_mono HO_634003.out (fun _ hk => ⟨hk.1, ⟨hk.2.2.1, ⟨hk.2.1, ⟨hk.2.2.2.1, ⟨hk.2.2.2.2.1, hk.2.2.2.2.2⟩⟩⟩⟩⟩))⟩; have n2_ : Aside0 (Kd.V (Kd.slice 3 (Kd.int .i64)) 23 wr w.heap.size (fun k_ => ((P0_0_ k_ ∨ P0_3_ k_) ∨ w.heap.size ≤ k_) ∧ some k_ ≠ (.slice Ao113 x642002_1.length co113 : Value).ownBlock ∧ some k_ ≠ (u7 : Value).ownBlock ∧ k_ ≠ gb633 ∧ k_ ≠ gb634 ∧ k_ ≠ gb641) (.slice A0_0 l0_0.length c0_0) l0_0) := ⟨by rw [← hq_]; exact (by (with_reducible repeat (first | apply Kd.V_alloc | apply Kd.V_drewN | apply Kd.V_drew)); exact Kd.V_mono HO_642000.out (fun _ hk => ⟨hk.1, ⟨hk.2.2.1, ⟨hk.2.1, ⟨hk.2.2.2.1, ⟨hk.2.2.2.2.1, hk.2.2.2.2.2⟩⟩⟩⟩⟩))⟩; have n3_ : Aside0 (Kd.R (Kd.int .i64) 3 wr w.heap.size (fun k_ => (w.heap.size ≤ k_) ∧ some k_ ≠ (u7 : Value).ownBlock) (.slice Ao113 x642002_1.length co113) x642002_1) := ⟨by rw [← hq_]; exact (fR HO_642002.out)⟩; have n4_ : Aside0 (Kd.V Kd.bool 4 wr w.heap.size (fun k_ => ((P0_0_ k_ ∨ P0_3_ k_) ∨ w.heap.size ≤ k_) ∧ some k_ ≠ (.slice Ao113 x642002_1.length co113 : Value).ownBlock ∧ some k_ ≠ (u7 : Value).ownBlock ∧ k_ ≠ gb633 ∧ k_ ≠ gb634 ∧ k_ ≠ gb641) (.slice A0_3 l0_3.length c0_3) l0_3) := ⟨by rw [← hq_]; exact (by (with_reducible repeat (first | apply Kd.V_alloc | apply Kd.V_drewN | apply Kd.V_drew)); exact Kd.V_mono HO_642003.out (fun _ hk => ⟨hk.1, ⟨hk.2.2.1, ⟨hk.2.1, ⟨hk.2.2.2.1, ⟨hk.2.2.2.2.1, hk.2.2.2.2.2⟩⟩⟩⟩⟩))⟩; have n5_ : Aside0 (Kd.R (Kd.int .i64) 3 wr w.heap.size (fun k_ => (w.heap.size ≤ k_) ∧ some k_ ≠ (.slice Ao113 x642002_1.length co113 : Value).ownBlock) u7 x7_1) := ⟨by rw [← hq_]; exact (fR HO_7.out)⟩; have n6_ : Aside0 (wr.heap[gb633]? = some (.cells #[.slice A0_0 l0_0.length c0_0, .int .i64 a0_1, .slice A0_2 l0_2.length c0_2, .slice A0_3 l0_3.length c0_3] 26 (0, 0))) := ⟨by rw [← hq_]; exact (fb BK633.out)⟩; have n7_ : Aside0 (wr.heap[gb634]? = some (.cells #[.slice none 0 0, .int .i64 x635001_1, .slice none 0 0, .slice none 0 0] 26 (0, 0))) := ⟨by rw [← hq_]; exact (fb BK634.out)⟩; have n8_ : Aside0 (wr.heap[gb641]? = some (.cells #[.slice A0_0 l0_0.length c0_0, .int .i64 a0_1, .slice Ao113 x642002_1.length co113, .slice A0_3 l0_3.length c0_3] 26 (0, 0))) := ⟨by rw [← hq_]; exact (fb BK641.out)⟩; have n9_ : Aside0 (Below w.heap.size w wr) := ⟨by rw [← hq_]; exact (fW HB.out)⟩; clear HO_634000 HO_634003 HO_642000 HO_642002 HO_642003 HO_7 BK633 BK634 BK641 HB hq_; have HO_634000 := n0_; have HO_634003 := n1_; have HO_642000 := n2_; have HO_642002 := n3_; have HO_642003 := n4_; have HO_7 := n5_; have BK633 := n6_; have BK634 := n7_; have BK641 := n8_; have HB := n9_; clear n0_ n1_ n2_ n3_ n4_ n5_ n6_ n7_ n8_ n9_)); have hnb114 := NB634_633.out; have hnc114 := NB633_634.out; obtain ⟨_, _, _, _, _, _, _, _⟩ := zC4 BK634; have hld_0 := (bc BK641.out 0).trans rfl; have hld_1 := (bc BK641.out 1).trans rfl; have hld_2 := (bc BK641.out 2).trans rfl; have hld_3 := (bc BK641.out 3).trans rfl))
     refine bodyPost_ret (results_ct rfl _ _ gb634 26 #[.slice A0_0 l0_0.length c0_0, .int .i64 a0_1, .slice Ao113 x642002_1.length co113, .slice A0_3 l0_3.length c0_3] (0, 0) _ rfl (kkC BK634.out) Try.underlying26 rfl (by kernel_rfl)) rfl ?_
     exact ⟨_, _, _, sqE, by (with_reducible repeat (first | apply Kd.V_alloc | apply Kd.V_drewN | apply Kd.V_drew)); exact Kd.V_mono (Kd.V_far (p := ⟨gb634, 3, none⟩) (Kd.V_far (p := ⟨gb634, 2, none⟩) (Kd.V_far (p := ⟨gb634, 1, none⟩) (Kd.V_far (p := ⟨gb634, 0, none⟩) (Kd.V_mono HO_642000.out (fun k_ hk => (⟨hk, hk.2.2.2.2.1⟩ : _ ∧ k_ ≠ gb634))) (fun _ hk => hk.2) (.slice A0_0 l0_0.length c0_0)) (fun _ hk => hk.2) (.int .i64 a0_1)) (fun _ hk => hk.2) (.slice Ao113 x642002_1.length co113)) (fun _ hk => hk.2) (.slice A0_3 l0_3.length c0_3)) (fun _ hk => ⟨hk.1.1, hk.1.2.1⟩), by (with_reducible repeat (first | apply Kd.R_alloc | apply Kd.R_drewN | apply Kd.R_drew)); exact Kd.R_mono (Kd.R_far (p := ⟨gb634, 3, none⟩) (Kd.R_far (p := ⟨gb634, 2, none⟩) (Kd.R_far (p := ⟨gb634, 1, none⟩) (Kd.R_far (p := ⟨gb634, 0, none⟩) (Kd.R_types HO_642002.out BK634.out (by decide)) (fun _ hk => hk.2) (.slice A0_0 l0_0.length c0_0)) (fun _ hk => hk.2) (.int .i64 a0_1)) (fun _ hk => hk.2) (.slice Ao113 x642002_1.length co113)) (fun _ hk => hk.2) (.slice A0_3 l0_3.length c0_3)) (fun _ hk => hk.1.1), by (with_reducible repeat (first | apply Kd.V_alloc | apply Kd.V_drewN | apply Kd.V_drew)); exact Kd.V_mono (Kd.V_far (p := ⟨gb634, 3, none⟩) (Kd.V_far (p := ⟨gb634, 2, none⟩) (Kd.V_far (p := ⟨gb634, 1, none⟩) (Kd.V_far (p := ⟨gb634, 0, none⟩) (Kd.V_mono HO_642003.out (fun k_ hk => (⟨hk, hk.2.2.2.2.1⟩ : _ ∧ k_ ≠ gb634))) (fun _ hk => hk.2) (.slice A0_0 l0_0.length c0_0)) (fun _ hk => hk.2) (.int .i64 a0_1)) (fun _ hk => hk.2) (.slice Ao113 x642002_1.length co113)) (fun _ hk => hk.2) (.slice A0_3 l0_3.length c0_3)) (fun _ hk => ⟨hk.1.1, hk.1.2.1⟩), fW HB.out⟩
    rw [if_pos c20] at H
    have c20b0 : decide (x8_1 < (l1.length : Int)) = true := decide_eq_true c20
    clear c20
    by_cases c21 : 0 ≤ x8_1
    rotate_left
    ·rw [if_neg c21] at H
     exact absurd H (by simp)
    rw [if_pos c21] at H
    have c21b0 : decide (0 ≤ x8_1) = true := decide_eq_true c21
    clear c21
    have HC22 := am H
    clear H
    have p645 : 0 ≤ (x8_1 : Int) := of_decide_eq_true (by assumption)
    have q645 : x8_1 < (l1.length : Int) := of_decide_eq_true (by assumption)
    obtain ⟨ad645, e645, hx645_0, hx645_1, hx645_2⟩ := at_T69 HR1.out x8_1 p645 q645
    cases e645
    replace hx645_0 := cl HB hx645_0
    replace hx645_1 := cl HB hx645_1
    replace hx645_2 := cl HB hx645_2
    replace p645 := eq_true p645
    replace q645 := eq_true q645
    go_upto_region 7 with (first | ((with_reducible refine gate_dst (N := 9) rfl ?_); (try (refine gate_guard (by rfl) ?_; dsimp only)); refine box_event ?hg (N := 9) ?hd (cs := #[.int .i64 0, .int .i64 0, .int .i64 0]) (t := 69) ?hr ?_; (case hd | hg => rfl); (case hr => first | (go_simp; done) | (go_simp; rfl)); intro gb646 hg w23 hbox hb; replace HO_7 := dR HO_7 hb; replace HO_634000 := eV HO_634000 hg hb; replace HO_634003 := eV HO_634003 hg hb; replace HO_642000 := eV HO_642000 hg hb; replace HO_642002 := dR HO_642002 hb; replace HO_642003 := eV HO_642003 hg hb; have BK646 := am hbox; have GW646 := sG HB hg; have GE646 := sG HB hg; replace HB := bS HB hb; have NB633_646 := nL BK633 hg; have NB646_633 := nG BK633 hg; replace BK633 := bB BK633 hb; have NB634_646 := nL BK634 hg; have NB646_634 := nG BK634 hg; replace BK634 := bB BK634 hb; have NB641_646 := nL BK641 hg; have NB646_641 := nG BK641 hg; replace BK641 := bB BK641 hb; clear hb hbox hg; have hnb24 := NB646_633.out; have hnc24 := NB633_646.out; have hnb25 := NB646_634.out; have hnc25 := NB634_646.out; have hnb26 := NB646_641.out; have hnc26 := NB641_646.out; obtain ⟨_, _, _, _, _, _⟩ := zC3 BK646))
    (try simp only [Act.put, psl])
    go_cut [32] (fun v32 wc => ∃ (kq : Nat) (x32_21 : Bool), v32 = .bool x32_21 ∧ Aside0 (r_Apply.j1 kq l1 x7_1 x8_1 x32_21 l0_0 a0_1 l0_2 l0_3 l0_0 a0_1 x642002_1 l0_3 ((rd_T69 l1 x8_1).f0) ((rd_T69 l1 x8_1).f1) ((rd_T69 l1 x8_1).f2) = some (r1, r2, r3, r4, r5)) ∧ Aside0 (kq ≤ k1) ∧ Aside0 (Kd.R (Kd.int .i64) 3 wc w.heap.size (fun k_ => (w.heap.size ≤ k_) ∧ some k_ ≠ (u642002 : Value).ownBlock) u7 x7_1) ∧ Aside0 (Kd.V (Kd.slice 3 (Kd.int .i64)) 23 wc w.heap.size (fun k_ => ((P0_0_ k_ ∨ P0_3_ k_) ∨ w.heap.size ≤ k_) ∧ some k_ ≠ (u7 : Value).ownBlock ∧ some k_ ≠ (u642002 : Value).ownBlock ∧ k_ ≠ gb633 ∧ k_ ≠ gb634 ∧ k_ ≠ gb641 ∧ k_ ≠ gb646) (.slice A0_0 l0_0.length c0_0) l0_0) ∧ Aside0 (Kd.V Kd.bool 4 wc w.heap.size (fun k_ => ((P0_0_ k_ ∨ P0_3_ k_) ∨ w.heap.size ≤ k_) ∧ some k_ ≠ (u7 : Value).ownBlock ∧ some k_ ≠ (u642002 : Value).ownBlock ∧ k_ ≠ gb633 ∧ k_ ≠ gb634 ∧ k_ ≠ gb641 ∧ k_ ≠ gb646) (.slice A0_3 l0_3.length c0_3) l0_3) ∧ Aside0 (Kd.V (Kd.slice 3 (Kd.int .i64)) 23 wc w.heap.size (fun k_ => ((P0_0_ k_ ∨ P0_3_ k_) ∨ w.heap.size ≤ k_) ∧ some k_ ≠ (u7 : Value).ownBlock ∧ some k_ ≠ (u642002 : Value).ownBlock ∧ k_ ≠ gb633 ∧ k_ ≠ gb634 ∧ k_ ≠ gb641 ∧ k_ ≠ gb646) (.slice A0_0 l0_0.length c0_0) l0_0) ∧ Aside0 (Kd.R (Kd.int .i64) 3 wc w.heap.size (fun k_ => (w.heap.size ≤ k_) ∧ some k_ ≠ (u7 : Value).ownBlock) u642002 x642002_1) ∧ Aside0 (Kd.V Kd.bool 4 wc w.heap.size (fun k_ => ((P0_0_ k_ ∨ P0_3_ k_) ∨ w.heap.size ≤ k_) ∧ some k_ ≠ (u7 : Value).ownBlock ∧ some k_ ≠ (u642002 : Value).ownBlock ∧ k_ ≠ gb633 ∧ k_ ≠ gb634 ∧ k_ ≠ gb641 ∧ k_ ≠ gb646) (.slice A0_3 l0_3.length c0_3) l0_3) ∧ Aside0 (wc.heap[gb633]? = some (.cells #[(.slice A0_0 l0_0.length c0_0), .int .i64 a0_1, (.slice A0_2 l0_2.length c0_2), (.slice A0_3 l0_3.length c0_3)] 26 (0, 0))) ∧ Aside0 (wc.heap[gb634]? = some (.cells #[(.slice none 0 0), .int .i64 x635001_1, (.slice none 0 0), (.slice none 0 0)] 26 (0, 0))) ∧ Aside0 (wc.heap[gb641]? = some (.cells #[(.slice A0_0 l0_0.length c0_0), .int .i64 a0_1, u642002, (.slice A0_3 l0_3.length c0_3)] 26 (0, 0))) ∧ Aside0 (wc.heap[gb646]? = some (.cells #[.int .i64 ((rd_T69 l1 x8_1).f0), .int .i64 ((rd_T69 l1 x8_1).f1), .int .i64 ((rd_T69 l1 x8_1).f2)] 69 (0, 0))) ∧ Aside0 (Below w.heap.size w wc))
    case first =>
     have H := HC22.out
     clear HC22
     by_cases c28 : ((rd_T69 l1 x8_1).f0) < 0
     ·rw [if_pos c28] at H
      have c28b0 : decide (((rd_T69 l1 x8_1).f0) < 0) = true := decide_eq_true c28
      clear c28
      (first | rw [c28b0] | (simp only [i64_w, i32_w]; rw [c28b0]) | skip)
      have H' := am H
      clear H
      have hnb29 := NB646_633.out
      have hnc29 := NB633_646.out
      have hnb30 := NB646_634.out
      have hnc30 := NB634_646.out
      have hnb31 := NB646_641.out
      have hnc31 := NB641_646.out
      have := yC1 BK646
      have := kC1 BK646
      have := kC2 BK646
      have := bf BK646.out 0
      have := bf BK646.out 1
      have := bf BK646.out 2
      go_wp2
      go_meet
      case rel => exact ⟨_, (true), sqD, H', ⟨by have := HK1.out; first | omega | exact Nat.le_refl _⟩, ⟨by (with_reducible repeat (first | apply Kd.R_alloc | apply Kd.R_drewN | apply Kd.R_drew)); exact Kd.R_mono (Kd.R_far (p := ⟨gb646, 2, none⟩) (Kd.R_far (p := ⟨gb646, 1, none⟩) (Kd.R_far (p := ⟨gb646, 0, none⟩) (Kd.R_types HO_7.out BK646.out (by decide)) (fun _ hk => hk.2) (.int .i64 ((rd_T69 l1 x8_1).f0))) (fun _ hk => hk.2) (.int .i64 ((rd_T69 l1 x8_1).f1))) (fun _ hk => hk.2) (.int .i64 ((rd_T69 l1 x8_1).f2))) (fun _ hk => ⟨hk.1.1, hk.1.2⟩)⟩, ⟨by (with_reducible repeat (first | apply Kd.V_alloc | apply Kd.V_drewN | apply Kd.V_drew)); exact Kd.V_mono (Kd.V_far (p := ⟨gb646, 2, none⟩) (Kd.V_far (p := ⟨gb646, 1, none⟩) (Kd.V_far (p := ⟨gb646, 0, none⟩) (Kd.V_mono HO_634000.out (fun k_ hk => (⟨hk, hk.2⟩ : _ ∧ k_ ≠ gb646))) (fun _ hk => hk.2) (.int .i64 ((rd_T69 l1 x8_1).f0))) (fun _ hk => hk.2) (.int .i64 ((rd_T69 l1 x8_1).f1))) (fun _ hk => hk.2) (.int .i64 ((rd_T69 l1 x8_1).f2))) (fun _ hk => ⟨hk.1.1.1, ⟨hk.1.1.2.1, ⟨hk.1.1.2.2.1, ⟨hk.1.1.2.2.2.1, ⟨hk.1.1.2.2.2.2.1, ⟨hk.1.1.2.2.2.2.2, hk.1.2⟩⟩⟩⟩⟩⟩)⟩, ⟨by (with_reducible repeat (first | apply Kd.V_alloc | apply Kd.V_drewN | apply Kd.V_drew)); exact Kd.V_mono (Kd.V_far (p := ⟨gb646, 2, none⟩) (Kd.V_far (p := ⟨gb646, 1, none⟩) (Kd.V_far (p := ⟨gb646, 0, none⟩) (Kd.V_mono HO_634003.out (fun k_ hk => (⟨hk, hk.2⟩ : _ ∧ k_ ≠ gb646))) (fun _ hk => hk.2) (.int .i64 ((rd_T69 l1 x8_1).f0))) (fun _ hk => hk.2) (.int .i64 ((rd_T69 l1 x8_1).f1))) (fun _ hk => hk.2) (.int .i64 ((rd_T69 l1 x8_1).f2))) (fun _ hk => ⟨hk.1.1.1, ⟨hk.1.1.2.1, ⟨hk.1.1.2.2.1, ⟨hk.1.1.2.2.2.1, ⟨hk.1.1.2.2.2.2.1, ⟨hk.1.1.2.2.2.2.2, hk.1.2⟩⟩⟩⟩⟩⟩)⟩, ⟨by (with_reducible repeat (first | apply Kd.V_alloc | apply Kd.V_drewN | apply Kd.V_drew)); exact Kd.V_mono (Kd.V_far (p := ⟨gb646, 2, none⟩) (Kd.V_far (p := ⟨gb646, 1, none⟩) (Kd.V_far (p := ⟨gb646, 0, none⟩) (Kd.V_mono HO_642000.out (fun k_ hk => (⟨hk, hk.2⟩ : _ ∧ k_ ≠ gb646))) (fun _ hk => hk.2) (.int .i64 ((rd_T69 l1 x8_1).f0))) (fun _ hk => hk.2) (.int .i64 ((rd_T69 l1 x8_1).f1))) (fun _ hk => hk.2) (.int .i64 ((rd_T69 l1 x8_1).f2))) (fun _ hk => ⟨hk.1.1.1, ⟨hk.1.1.2.1, ⟨hk.1.1.2.2.1, ⟨hk.1.1.2.2.2.1, ⟨hk.1.1.2.2.2.2.1, ⟨hk.1.1.2.2.2.2.2, hk.1.2⟩⟩⟩⟩⟩⟩)⟩, ⟨by (with_reducible repeat (first | apply Kd.R_alloc | apply Kd.R_drewN | apply Kd.R_drew)); exact Kd.R_mono (Kd.R_far (p := ⟨gb646, 2, none⟩) (Kd.R_far (p := ⟨gb646, 1, none⟩) (Kd.R_far (p := ⟨gb646, 0, none⟩) (Kd.R_types HO_642002.out BK646.out (by decide)) (fun _ hk => hk.2) (.int .i64 ((rd_T69 l1 x8_1).f0))) (fun _ hk => hk.2) (.int .i64 ((rd_T69 l1 x8_1).f1))) (fun _ hk => hk.2) (.int .i64 ((rd_T69 l1 x8_1).f2))) (fun _ hk => ⟨hk.1.1, hk.1.2⟩)⟩, ⟨by (with_reducible repeat (first | apply Kd.V_alloc | apply Kd.V_drewN | apply Kd.V_drew)); exact Kd.V_mono (Kd.V_far (p := ⟨gb646, 2, none⟩) (Kd.V_far (p := ⟨gb646, 1, none⟩) (Kd.V_far (p := ⟨gb646, 0, none⟩) (Kd.V_mono HO_642003.out (fun k_ hk => (⟨hk, hk.2⟩ : _ ∧ k_ ≠ gb646))) (fun _ hk => hk.2) (.int .i64 ((rd_T69 l1 x8_1).f0))) (fun _ hk => hk.2) (.int .i64 ((rd_T69 l1 x8_1).f1))) (fun _ hk => hk.2) (.int .i64 ((rd_T69 l1 x8_1).f2))) (fun _ hk => ⟨hk.1.1.1, ⟨hk.1.1.2.1, ⟨hk.1.1.2.2.1, ⟨hk.1.1.2.2.2.1, ⟨hk.1.1.2.2.2.2.1, ⟨hk.1.1.2.2.2.2.2, hk.1.2⟩⟩⟩⟩⟩⟩)⟩, ⟨by (with_reducible repeat first | apply bN | apply bd | apply ba); refine bF ?_ NB633_646.out _; (with_reducible repeat first | apply bN | apply bd | apply ba); refine bF ?_ NB633_646.out _; (with_reducible repeat first | apply bN | apply bd | apply ba); refine bF ?_ NB633_646.out _; (with_reducible repeat first | apply bN | apply bd | apply ba); exact BK633.out⟩, ⟨by (with_reducible repeat first | apply bN | apply bd | apply ba); refine bF ?_ NB634_646.out _; (with_reducible repeat first | apply bN | apply bd | apply ba); refine bF ?_ NB634_646.out _; (with_reducible repeat first | apply bN | apply bd | apply ba); refine bF ?_ NB634_646.out _; (with_reducible repeat first | apply bN | apply bd | apply ba); exact BK634.out⟩, ⟨by (with_reducible repeat first | apply bN | apply bd | apply ba); refine bF ?_ NB641_646.out _; (with_reducible repeat first | apply bN | apply bd | apply ba); refine bF ?_ NB641_646.out _; (with_reducible repeat first | apply bN | apply bd | apply ba); refine bF ?_ NB641_646.out _; (with_reducible repeat first | apply bN | apply bd | apply ba); exact BK641.out⟩, ⟨by (with_reducible repeat first | apply bN | apply bd | apply ba); refine blk_put (cs := #[.int .i64 ((rd_T69 l1 x8_1).f0), .int .i64 ((rd_T69 l1 x8_1).f1), .int .i64 0]) ?_ 2 _ rfl; (with_reducible repeat first | apply bN | apply bd | apply ba); refine blk_put (cs := #[.int .i64 ((rd_T69 l1 x8_1).f0), .int .i64 0, .int .i64 0]) ?_ 1 _ rfl; (with_reducible repeat first | apply bN | apply bd | apply ba); refine blk_put (cs := #[.int .i64 0, .int .i64 0, .int .i64 0]) ?_ 0 _ rfl; (with_reducible repeat first | apply bN | apply bd | apply ba); exact BK646.out⟩, ⟨fW HB.out⟩⟩
     rw [if_neg c28] at H
     have c28b0 : decide (((rd_T69 l1 x8_1).f0) < 0) = false := decide_eq_false c28
     clear c28
     (first | rw [c28b0] | (simp only [i64_w, i32_w]; rw [c28b0]) | skip)
     have H' := am H
     clear H
     have hnb33 := NB646_633.out
     have hnc33 := NB633_646.out
     have hnb34 := NB646_634.out
     have hnc34 := NB634_646.out
     have hnb35 := NB646_641.out
     have hnc35 := NB641_646.out
     have := yC1 BK646
     have := kC1 BK646
     have := kC2 BK646
     have := bf BK646.out 0
     have := bf BK646.out 1
     have := bf BK646.out 2
     have hnb37 := NB633_634.out
     have hnc37 := NB634_633.out
     have hnb38 := NB633_641.out
     have hnc38 := NB641_633.out
     have := yC1 BK633
     have := kC1 BK633
     have := kC2 BK633
     have := kC3 BK633
     have := bf BK633.out 0
     have := bf BK633.out 1
     have := bf BK633.out 2
     have := bf BK633.out 3
     go_wp2
     go_meet
     case rel => exact ⟨_, (decide (((rd_T69 l1 x8_1).f0) ≥ (l0_0.length : Int))), sqD, H', ⟨by have := HK1.out; first | omega | exact Nat.le_refl _⟩, ⟨by (with_reducible repeat (first | apply Kd.R_alloc | apply Kd.R_drewN | apply Kd.R_drew)); exact Kd.R_mono (Kd.R_far (p := ⟨gb646, 2, none⟩) (Kd.R_far (p := ⟨gb646, 1, none⟩) (Kd.R_far (p := ⟨gb646, 0, none⟩) (Kd.R_types HO_7.out BK646.out (by decide)) (fun _ hk => hk.2) (.int .i64 ((rd_T69 l1 x8_1).f0))) (fun _ hk => hk.2) (.int .i64 ((rd_T69 l1 x8_1).f1))) (fun _ hk => hk.2) (.int .i64 ((rd_T69 l1 x8_1).f2))) (fun _ hk => ⟨hk.1.1, hk.1.2⟩)⟩, ⟨by (with_reducible repeat (first | apply Kd.V_alloc | apply Kd.V_drewN | apply Kd.V_drew)); exact Kd.V_mono (Kd.V_far (p := ⟨gb646, 2, none⟩) (Kd.V_far (p := ⟨gb646, 1, none⟩) (Kd.V_far (p := ⟨gb646, 0, none⟩) (Kd.V_mono HO_634000.out (fun k_ hk => (⟨hk, hk.2⟩ : _ ∧ k_ ≠ gb646))) (fun _ hk => hk.2) (.int .i64 ((rd_T69 l1 x8_1).f0))) (fun _ hk => hk.2) (.int .i64 ((rd_T69 l1 x8_1).f1))) (fun _ hk => hk.2) (.int .i64 ((rd_T69 l1 x8_1).f2))) (fun _ hk => ⟨hk.1.1.1, ⟨hk.1.1.2.1, ⟨hk.1.1.2.2.1, ⟨hk.1.1.2.2.2.1, ⟨hk.1.1.2.2.2.2.1, ⟨hk.1.1.2.2.2.2.2, hk.1.2⟩⟩⟩⟩⟩⟩)⟩, ⟨by (with_reducible repeat (first | apply Kd.V_alloc | apply Kd.V_drewN | apply Kd.V_drew)); exact Kd.V_mono (Kd.V_far (p := ⟨gb646, 2, none⟩) (Kd.V_far (p := ⟨gb646, 1, none⟩) (Kd.V_far (p := ⟨gb646, 0, none⟩) (Kd.V_mono HO_634003.out (fun k_ hk => (⟨hk, hk.2⟩ : _ ∧ k_ ≠ gb646))) (fun _ hk => hk.2) (.int .i64 ((rd_T69 l1 x8_1).f0))) (fun _ hk => hk.2) (.int .i64 ((rd_T69 l1 x8_1).f1))) (fun _ hk => hk.2) (.int .i64 ((rd_T69 l1 x8_1).f2))) (fun _ hk => ⟨hk.1.1.1, ⟨hk.1.1.2.1, ⟨hk.1.1.2.2.1, ⟨hk.1.1.2.2.2.1, ⟨hk.1.1.2.2.2.2.1, ⟨hk.1.1.2.2.2.2.2, hk.1.2⟩⟩⟩⟩⟩⟩)⟩, ⟨by (with_reducible repeat (first | apply Kd.V_alloc | apply Kd.V_drewN | apply Kd.V_drew)); exact Kd.V_mono (Kd.V_far (p := ⟨gb646, 2, none⟩) (Kd.V_far (p := ⟨gb646, 1, none⟩) (Kd.V_far (p := ⟨gb646, 0, none⟩) (Kd.V_mono HO_642000.out (fun k_ hk => (⟨hk, hk.2⟩ : _ ∧ k_ ≠ gb646))) (fun _ hk => hk.2) (.int .i64 ((rd_T69 l1 x8_1).f0))) (fun _ hk => hk.2) (.int .i64 ((rd_T69 l1 x8_1).f1))) (fun _ hk => hk.2) (.int .i64 ((rd_T69 l1 x8_1).f2))) (fun _ hk => ⟨hk.1.1.1, ⟨hk.1.1.2.1, ⟨hk.1.1.2.2.1, ⟨hk.1.1.2.2.2.1, ⟨hk.1.1.2.2.2.2.1, ⟨hk.1.1.2.2.2.2.2, hk.1.2⟩⟩⟩⟩⟩⟩)⟩, ⟨by (with_reducible repeat (first | apply Kd.R_alloc | apply Kd.R_drewN | apply Kd.R_drew)); exact Kd.R_mono (Kd.R_far (p := ⟨gb646, 2, none⟩) (Kd.R_far (p := ⟨gb646, 1, none⟩) (Kd.R_far (p := ⟨gb646, 0, none⟩) (Kd.R_types HO_642002.out BK646.out (by decide)) (fun _ hk => hk.2) (.int .i64 ((rd_T69 l1 x8_1).f0))) (fun _ hk => hk.2) (.int .i64 ((rd_T69 l1 x8_1).f1))) (fun _ hk => hk.2) (.int .i64 ((rd_T69 l1 x8_1).f2))) (fun _ hk => ⟨hk.1.1, hk.1.2⟩)⟩, ⟨by (with_reducible repeat (first | apply Kd.V_alloc | apply Kd.V_drewN | apply Kd.V_drew)); exact Kd.V_mono (Kd.V_far (p := ⟨gb646, 2, none⟩) (Kd.V_far (p := ⟨gb646, 1, none⟩) (Kd.V_far (p := ⟨gb646, 0, none⟩) (Kd.V_mono HO_642003.out (fun k_ hk => (⟨hk, hk.2⟩ : _ ∧ k_ ≠ gb646))) (fun _ hk => hk.2) (.int .i64 ((rd_T69 l1 x8_1).f0))) (fun _ hk => hk.2) (.int .i64 ((rd_T69 l1 x8_1).f1))) (fun _ hk => hk.2) (.int .i64 ((rd_T69 l1 x8_1).f2))) (fun _ hk => ⟨hk.1.1.1, ⟨hk.1.1.2.1, ⟨hk.1.1.2.2.1, ⟨hk.1.1.2.2.2.1, ⟨hk.1.1.2.2.2.2.1, ⟨hk.1.1.2.2.2.2.2, hk.1.2⟩⟩⟩⟩⟩⟩)⟩, ⟨by (with_reducible repeat first | apply bN | apply bd | apply ba); refine bF ?_ NB633_646.out _; (with_reducible repeat first | apply bN | apply bd | apply ba); refine bF ?_ NB633_646.out _; (with_reducible repeat first | apply bN | apply bd | apply ba); refine bF ?_ NB633_646.out _; (with_reducible repeat first | apply bN | apply bd | apply ba); exact BK633.out⟩, ⟨by (with_reducible repeat first | apply bN | apply bd | apply ba); refine bF ?_ NB634_646.out _; (with_reducible repeat first | apply bN | apply bd | apply ba); refine bF ?_ NB634_646.out _; (with_reducible repeat first | apply bN | apply bd | apply ba); refine bF ?_ NB634_646.out _; (with_reducible repeat first | apply bN | apply bd | apply ba); exact BK634.out⟩, ⟨by (with_reducible repeat first | apply bN | apply bd | apply ba); refine bF ?_ NB641_646.out _; (with_reducible repeat first | apply bN | apply bd | apply ba); refine bF ?_ NB641_646.out _; (with_reducible repeat first | apply bN | apply bd | apply ba); refine bF ?_ NB641_646.out _; (with_reducible repeat first | apply bN | apply bd | apply ba); exact BK641.out⟩, ⟨by (with_reducible repeat first | apply bN | apply bd | apply ba); refine blk_put (cs := #[.int .i64 ((rd_T69 l1 x8_1).f0), .int .i64 ((rd_T69 l1 x8_1).f1), .int .i64 0]) ?_ 2 _ rfl; (with_reducible repeat first | apply bN | apply bd | apply ba); refine blk_put (cs := #[.int .i64 ((rd_T69 l1 x8_1).f0), .int .i64 0, .int .i64 0]) ?_ 1 _ rfl; (with_reducible repeat first | apply bN | apply bd | apply ba); refine blk_put (cs := #[.int .i64 0, .int .i64 0, .int .i64 0]) ?_ 0 _ rfl; (with_reducible repeat first | apply bN | apply bd | apply ba); exact BK646.out⟩, ⟨fW HB.out⟩⟩
    case rest =>
     clear HC22
     try clear c1;try clear c2;try clear p2;try clear c3;try clear p6;try clear q6;try clear hx6;try clear c20;try clear c20b0;try clear c21;try clear c21b0;try clear c24;try clear c25;try clear c26;try clear c28;try clear c28b0;try clear c29;try clear c30;try clear c31;try clear c33;try clear c34;try clear c35;try clear c37;try clear c38;try clear hx645_0;try clear hx645_1;try clear hx645_2;try clear p2;try clear p645;try clear q645
     obtain ⟨kq, x32_21, rfl, HA, HJ21, HO_7, HO_634000, HO_634003, HO_642000, HO_642002, HO_642003, BK633, BK634, BK641, BK646, HB⟩ := hcut
     cases kq with
     | zero => exact absurd HA.out (by simp [r_Apply.j1])
     | succ kj21 =>
      have H := HA.out
      clear HA
      simp only [r_Apply.j1] at H
      by_cases c40 : x32_21 = true
      ·subst c40
       have H1 : (some (([] : List (List Int)), 0, ([] : List Int), ([] : List Bool), 6)) = some (r1, r2, r3, r4, r5) := by rw [if_pos rfl] at H; exact H
       clear H
       have H := H1
       clear H1
       simp only [Option.some.injEq, Prod.mk.injEq] at H
       obtain ⟨rfl, rfl, rfl, rfl, rfl⟩ := H
       have hnb41 := NB634_633.out
       have hnc41 := NB633_634.out
       have hnb42 := NB634_641.out
       have hnc42 := NB641_634.out
       have hnb43 := NB634_646.out
       have hnc43 := NB646_634.out
       have := yC1 BK634
       have := kC1 BK634
       have := kC2 BK634
       have := kC3 BK634
       have := bf BK634.out 0
       have := bf BK634.out 1
       have := bf BK634.out 2
       have := bf BK634.out 3
       go_wp2
       refine bodyPost_ret (results_ct rfl _ _ gb634 26 #[.slice none 0 0, .int .i64 0, .slice none 0 0, .slice none 0 0] (0, 0) _ rfl (kkC BK634.out) Try.underlying26 rfl (by kernel_rfl)) rfl ?_
       exact ⟨_, _, _, sqE, (Kd.V_nil _ _ _ _ _), by first | exact Kd.R_nil _ _ _ _ _ | exact Kd.N_nil _ _ _ _ _ | exact Kd.V_nil _ _ _ _ _ | exact Kd.Q_nil _ _ _ _ _ | exact Kd.S_nil _ _ _ _ _, (Kd.V_nil _ _ _ _ _), fW HB.out⟩
      replace c40 := Bool.eq_false_iff.mpr c40
      subst c40
      have H1 : (if 0 ≤ ((rd_T69 l1 x8_1).f0) then (if ((rd_T69 l1 x8_1).f0) < (l0_2.length : Int) then (if (rd l0_2 ((rd_T69 l1 x8_1).f0)) = ((rd_T69 l1 x8_1).f1) then ((r_has.f kj21 x7_1 ((rd_T69 l1 x8_1).f0)).bind fun t648 => (r_Apply.j2 kj21 l1 x7_1 x8_1 t648 l0_0 a0_1 l0_2 l0_3 l0_0 a0_1 x642002_1 l0_3 ((rd_T69 l1 x8_1).f0) ((rd_T69 l1 x8_1).f1) ((rd_T69 l1 x8_1).f2))) else (r_Apply.j2 kj21 l1 x7_1 x8_1 true l0_0 a0_1 l0_2 l0_3 l0_0 a0_1 x642002_1 l0_3 ((rd_T69 l1 x8_1).f0) ((rd_T69 l1 x8_1).f1) ((rd_T69 l1 x8_1).f2))) else (none)) else (none)) = some (r1, r2, r3, r4, r5) := by rw [if_neg (show ¬ (false = true) by decide)] at H; exact H
      clear H
      have H := H1
      clear H1
      have HC45 := am H
      clear H
      go_upto_region 9 with (fail)
      go_cut [45] (fun v45 wc => ∃ (kq : Nat) (x45_44 : Bool), v45 = .bool x45_44 ∧ Aside0 (r_Apply.j2 kq l1 x7_1 x8_1 x45_44 l0_0 a0_1 l0_2 l0_3 l0_0 a0_1 x642002_1 l0_3 ((rd_T69 l1 x8_1).f0) ((rd_T69 l1 x8_1).f1) ((rd_T69 l1 x8_1).f2) = some (r1, r2, r3, r4, r5)) ∧ Aside0 (kq ≤ kj21) ∧ Aside0 (Kd.R (Kd.int .i64) 3 wc w.heap.size (fun k_ => (w.heap.size ≤ k_) ∧ some k_ ≠ (u642002 : Value).ownBlock) u7 x7_1) ∧ Aside0 (Kd.V (Kd.slice 3 (Kd.int .i64)) 23 wc w.heap.size (fun k_ => ((P0_0_ k_ ∨ P0_3_ k_) ∨ w.heap.size ≤ k_) ∧ some k_ ≠ (u7 : Value).ownBlock ∧ some k_ ≠ (u642002 : Value).ownBlock ∧ k_ ≠ gb633 ∧ k_ ≠ gb634 ∧ k_ ≠ gb641 ∧ k_ ≠ gb646) (.slice A0_0 l0_0.length c0_0) l0_0) ∧ Aside0 (Kd.V Kd.bool 4 wc w.heap.size (fun k_ => ((P0_0_ k_ ∨ P0_3_ k_) ∨ w.heap.size ≤ k_) ∧ some k_ ≠ (u7 : Value).ownBlock ∧ some k_ ≠ (u642002 : Value).ownBlock ∧ k_ ≠ gb633 ∧ k_ ≠ gb634 ∧ k_ ≠ gb641 ∧ k_ ≠ gb646) (.slice A0_3 l0_3.length c0_3) l0_3) ∧ Aside0 (Kd.V (Kd.slice 3 (Kd.int .i64)) 23 wc w.heap.size (fun k_ => ((P0_0_ k_ ∨ P0_3_ k_) ∨ w.heap.size ≤ k_) ∧ some k_ ≠ (u7 : Value).ownBlock ∧ some k_ ≠ (u642002 : Value).ownBlock ∧ k_ ≠ gb633 ∧ k_ ≠ gb634 ∧ k_ ≠ gb641 ∧ k_ ≠ gb646) (.slice A0_0 l0_0.length c0_0) l0_0) ∧ Aside0 (Kd.R (Kd.int .i64) 3 wc w.heap.size (fun k_ => (w.heap.size ≤ k_) ∧ some k_ ≠ (u7 : Value).ownBlock) u642002 x642002_1) ∧ Aside0 (Kd.V Kd.bool 4 wc w.heap.size (fun k_ => ((P0_0_ k_ ∨ P0_3_ k_) ∨ w.heap.size ≤ k_) ∧ some k_ ≠ (u7 : Value).ownBlock ∧ some k_ ≠ (u642002 : Value).ownBlock ∧ k_ ≠ gb633 ∧ k_ ≠ gb634 ∧ k_ ≠ gb641 ∧ k_ ≠ gb646) (.slice A0_3 l0_3.length c0_3) l0_3) ∧ Aside0 (wc.heap[gb633]? = some (.cells #[(.slice A0_0 l0_0.length c0_0), .int .i64 a0_1, (.slice A0_2 l0_2.length c0_2), (.slice A0_3 l0_3.length c0_3)] 26 (0, 0))) ∧ Aside0 (wc.heap[gb634]? = some (.cells #[(.slice none 0 0), .int .i64 x635001_1, (.slice none 0 0), (.slice none 0 0)] 26 (0, 0))) ∧ Aside0 (wc.heap[gb641]? = some (.cells #[(.slice A0_0 l0_0.length c0_0), .int .i64 a0_1, u642002, (.slice A0_3 l0_3.length c0_3)] 26 (0, 0))) ∧ Aside0 (wc.heap[gb646]? = some (.cells #[.int .i64 ((rd_T69 l1 x8_1).f0), .int .i64 ((rd_T69 l1 x8_1).f1), .int .i64 ((rd_T69 l1 x8_1).f2)] 69 (0, 0))) ∧ Aside0 (Below w.heap.size w wc))
      case first =>
       have H := HC45.out
       clear HC45
       by_cases c46 : 0 ≤ ((rd_T69 l1 x8_1).f0)
       rotate_left
       ·rw [if_neg c46] at H
        exact absurd H (by simp)
       rw [if_pos c46] at H
       have c46b0 : decide (0 ≤ ((rd_T69 l1 x8_1).f0)) = true := decide_eq_true c46
       clear c46
       (first | rw [c46b0] | (simp only [i64_w, i32_w]; rw [c46b0]) | skip)
       by_cases c47 : ((rd_T69 l1 x8_1).f0) < (l0_2.length : Int)
       rotate_left
       ·rw [if_neg c47] at H
        exact absurd H (by simp)
       rw [if_pos c47] at H
       have c47b0 : decide (((rd_T69 l1 x8_1).f0) < (l0_2.length : Int)) = true := decide_eq_true c47
       clear c47
       by_cases c48 : (rd l0_2 ((rd_T69 l1 x8_1).f0)) = ((rd_T69 l1 x8_1).f1)
       ·rw [if_pos c48] at H
        have c48b0 : ((rd l0_2 ((rd_T69 l1 x8_1).f0)) == ((rd_T69 l1 x8_1).f1)) = true := beq_iff_eq.mpr c48
        have c48b1 : ((rd l0_2 ((rd_T69 l1 x8_1).f0)) != ((rd_T69 l1 x8_1).f1)) = false := bne_eq_false_iff_eq.mpr c48
        clear c48
        replace H := Option.bind_eq_some_iff.mp H
        obtain ⟨t648, A490, H⟩ := H
        replace H : (r_Apply.j2 kj21 l1 x7_1 x8_1 t648 l0_0 a0_1 l0_2 l0_3 l0_0 a0_1 x642002_1 l0_3 ((rd_T69 l1 x8_1).f0) ((rd_T69 l1 x8_1).f1) ((rd_T69 l1 x8_1).f2)) = some (r1, r2, r3, r4, r5) := H
        have A49 := am A490
        clear A490
        have H' := am H
        clear H
        try go_wp2
        have n0_ := am (Kd.R_drew HO_7.out)
        have n1_ := am (Kd.V_drew HO_634000.out)
        have n2_ := am (Kd.V_drew HO_634003.out)
        have n3_ := am (Kd.V_drew HO_642000.out)
        have n4_ := am (Kd.R_drew HO_642002.out)
        have n5_ := am (Kd.V_drew HO_642003.out)
        have n6_ := am (bd BK633.out)
        have n7_ := am (bd BK634.out)
        have n8_ := am (bd BK641.out)
        have n9_ := am (bd BK646.out)
        have n10_ := am (below_drew1 HB.out)
        clear HO_7 HO_634000 HO_634003 HO_642000 HO_642002 HO_642003 BK633 BK634 BK641 BK646 HB
        have HO_7 := n0_
        have HO_634000 := n1_
        have HO_634003 := n2_
        have HO_642000 := n3_
        have HO_642002 := n4_
        have HO_642003 := n5_
        have BK633 := n6_
        have BK634 := n7_
        have BK641 := n8_
        have BK646 := n9_
        have HB := n10_
        clear n0_ n1_ n2_ n3_ n4_ n5_ n6_ n7_ n8_ n9_ n10_
        have p647 : 0 ≤ (((rd_T69 l1 x8_1).f0) : Int) := of_decide_eq_true (by assumption)
        have q647 : ((rd_T69 l1 x8_1).f0) < (l0_2.length : Int) := of_decide_eq_true (by assumption)
        obtain ⟨ad647, e647, hx647_0⟩ := Kd.at_int HR0_2.out ((rd_T69 l1 x8_1).f0) p647 q647
        have hw647_0 := hx647_0
        cases e647
        replace hx647_0 := cl HB hx647_0
        replace p647 := eq_true p647
        replace q647 := eq_true q647
        obtain ⟨Ao51, co51, eo51⟩ := Kd.R_slice HO_7.out
        (first | subst eo51 | (injection eo51 with f1_ f2_ f3_; have f4_ := f1_.symm; have f5_ := f3_.symm; clear f1_ f2_ f3_; subst f4_; subst f5_))
        refine start_ (n := 16) (S := fun w' => w'.cell? ⟨gb633, 0, none⟩ = some (.slice A0_0 l0_0.length c0_0) ∧ w'.cell? ⟨gb633, 1, none⟩ = some (.int .i64 a0_1) ∧ w'.cell? ⟨gb633, 2, none⟩ = some (.slice (some ad647) l0_2.length c0_2) ∧ w'.cell? ⟨gb633, 3, none⟩ = some (.slice A0_3 l0_3.length c0_3) ∧ w'.cell? ⟨gb646, 0, none⟩ = some (.int .i64 ((rd_T69 l1 x8_1).f0)) ∧ w'.cell? ⟨gb646, 1, none⟩ = some (.int .i64 ((rd_T69 l1 x8_1).f1)) ∧ w'.cell? ⟨gb646, 2, none⟩ = some (.int .i64 ((rd_T69 l1 x8_1).f2)) ∧ w'.cell? (ad647.add (((rd_T69 l1 x8_1).f0)).toNat) = some (.int .i64 (rd l0_2 ((rd_T69 l1 x8_1).f0)))) (ds := []) #[F,F,F,F,F,F,F,F,F,F,F,F,F,F,F,F] (by kernel_rfl) rfl rfl ⟨(bc BK633.out 0).trans rfl, (bc BK633.out 1).trans rfl, (bc BK633.out 2).trans rfl, (bc BK633.out 3).trans rfl, (bc BK646.out 0).trans rfl, (bc BK646.out 1).trans rfl, (bc BK646.out 2).trans rfl, ((HB.out.cell (World.block_lt_of_cell? w _ hw647_0)).trans hw647_0)⟩ (fun hHeld => ?_); refine with_tabW r_Apply.tab9 r_Apply.bits9 (fun HT_ HW_ => ?_)
        generalize wc.drew = w50 at HO_7 HO_634000 HO_634003 HO_642000 HO_642002 HO_642003 BK633 BK634 BK641 BK646 HB hx647_0 hHeld ⊢
        refine pu (i := 0) (N := some 46) (fl 16 1 []) HT_ ?_
        refine pu (i := 2) (N := some 48) (fl 16 1 [2]) HT_ ?_
        refine pu (i := 6) (N := some 52) (fl 16 1 [2, 6]) HT_ ?_
        refine tk (i := 1) (N := some 47) (fl 16 3 [6]) HT_ HW_ hHeld ?_
        refine tk (i := 3) (N := some 49) (fl 16 4 [6]) HT_ HW_ hHeld ?_
        refine pu (i := 4) (N := some 50) (fl 16 5 [6]) HT_ ?_
        refine tk (i := 5) (N := some 51) (fl 16 7 []) HT_ HW_ hHeld ?_
        refine tk (i := 7) (N := some 53) (fl 16 8 []) HT_ HW_ hHeld ?_
        refine pu (i := 8) (N := some 54) (fl 16 9 []) HT_ ?_
        refine pu (i := 9) (N := some 55) (fl 16 10 []) HT_ ?_
        refine pu (i := 10) (N := some 56) (fl 16 11 []) HT_ ?_
        refine pu (i := 11) (N := some 57) (fl 16 12 []) HT_ ?_
        refine tk (i := 12) (N := some 58) (fl 16 13 []) HT_ HW_ hHeld ?_
        refine one_ (i := 13) (N := some 59) (fl 16 14 []) rfl rfl (one_of HT_.out (by kernel_rfl)) (by decide) (fun K hK => ?_)
        refine goes_ Try.func40 (by kernel_rfl) rfl #[.slice Ao51 x7_1.length co51, .int .i64 ((rd_T69 l1 x8_1).f0)] (by rfl) rfl rfl (by (try simp only [pml]); first | done | rfl | (simp only [pdt]; rfl)) ?_
        with_reducible refine (r_has.calls kj21 _ _ x7_1 ((rd_T69 l1 x8_1).f0) t648 _ ?side1 ?side2 A49.out).mono ?_
        (case side1 => repeat (first | exact (Kd.R_reads' HO_7.out).2.2 | (with_reducible refine Kd.C_alloc ?_ _) | (with_reducible refine Kd.C_drewN ?_ _) | (with_reducible refine Kd.C_drew ?_)))
        (case side2 => exact (Kd.R_reads' HO_7.out).2.1)
        rintro e w' ⟨rfl, ⟨nd, rfl⟩⟩
        refine ⟨_, rfl, ?_⟩
        refine hK.out _ _ ⟨(bc BK633.out 0).trans rfl, (bc BK633.out 1).trans rfl, (bc BK633.out 2).trans rfl, (bc BK633.out 3).trans rfl, (bc BK646.out 0).trans rfl, (bc BK646.out 1).trans rfl, (bc BK646.out 2).trans rfl, ((HB.out.cell (World.block_lt_of_cell? w _ hw647_0)).trans hw647_0)⟩ (fun hHeld => ?_)
        clear hK K
        refine norm_ (a' := ?_) ?_ ?_
        rotate_left
        ·show Act.put _ (some 59) _ = _
         simp only [Act.put, psl, i64_w, i32_w]
         rfl
        refine pu (i := 14) (N := some 60) (fl 16 15 []) HT_ ?_
        refine pu (i := 15) (N := some 45) (fl 16 16 []) HT_ ?_
        refine done_ (done_of HT_.out (by kernel_rfl)) ?_
        try go_wp2
        go_meet
        case rel => exact ⟨_, (t648), sqD, H', ⟨by have := HK1.out; have := HJ21.out; first | omega | exact Nat.le_refl _⟩, ⟨fR HO_7.out⟩, ⟨by (with_reducible repeat (first | apply Kd.V_alloc | apply Kd.V_drewN | apply Kd.V_drew)); exact HO_634000.out⟩, ⟨by (with_reducible repeat (first | apply Kd.V_alloc | apply Kd.V_drewN | apply Kd.V_drew)); exact HO_634003.out⟩, ⟨by (with_reducible repeat (first | apply Kd.V_alloc | apply Kd.V_drewN | apply Kd.V_drew)); exact HO_642000.out⟩, ⟨fR HO_642002.out⟩, ⟨by (with_reducible repeat (first | apply Kd.V_alloc | apply Kd.V_drewN | apply Kd.V_drew)); exact HO_642003.out⟩, ⟨fb BK633.out⟩, ⟨fb BK634.out⟩, ⟨fb BK641.out⟩, ⟨fb BK646.out⟩, ⟨fW HB.out⟩⟩
       rw [if_neg c48] at H
       have c48b0 : ((rd l0_2 ((rd_T69 l1 x8_1).f0)) == ((rd_T69 l1 x8_1).f1)) = false := beq_eq_false_iff_ne.mpr c48
       have c48b1 : ((rd l0_2 ((rd_T69 l1 x8_1).f0)) != ((rd_T69 l1 x8_1).f1)) = true := bne_iff_ne.mpr c48
       have H' := am H
       clear H
       try go_wp2
       have n0_ := am (Kd.R_drew HO_7.out)
       have n1_ := am (Kd.V_drew HO_634000.out)
       have n2_ := am (Kd.V_drew HO_634003.out)
       have n3_ := am (Kd.V_drew HO_642000.out)
       have n4_ := am (Kd.R_drew HO_642002.out)
       have n5_ := am (Kd.V_drew HO_642003.out)
       have n6_ := am (bd BK633.out)
       have n7_ := am (bd BK634.out)
       have n8_ := am (bd BK641.out)
       have n9_ := am (bd BK646.out)
       have n10_ := am (below_drew1 HB.out)
       clear HO_7 HO_634000 HO_634003 HO_642000 HO_642002 HO_642003 BK633 BK634 BK641 BK646 HB
       have HO_7 := n0_
       have HO_634000 := n1_
       have HO_634003 := n2_
       have HO_642000 := n3_
       have HO_642002 := n4_
       have HO_642003 := n5_
       have BK633 := n6_
       have BK634 := n7_
       have BK641 := n8_
       have BK646 := n9_
       have HB := n10_
       clear n0_ n1_ n2_ n3_ n4_ n5_ n6_ n7_ n8_ n9_ n10_
       have p647 : 0 ≤ (((rd_T69 l1 x8_1).f0) : Int) := of_decide_eq_true (by assumption)
       have q647 : ((rd_T69 l1 x8_1).f0) < (l0_2.length : Int) := of_decide_eq_true (by assumption)
       obtain ⟨ad647, e647, hx647_0⟩ := Kd.at_int HR0_2.out ((rd_T69 l1 x8_1).f0) p647 q647
       have hw647_0 := hx647_0
       cases e647
       replace hx647_0 := cl HB hx647_0
       replace p647 := eq_true p647
       replace q647 := eq_true q647
       refine start_ (n := 16) (S := fun w' => w'.cell? ⟨gb633, 0, none⟩ = some (.slice A0_0 l0_0.length c0_0) ∧ w'.cell? ⟨gb633, 1, none⟩ = some (.int .i64 a0_1) ∧ w'.cell? ⟨gb633, 2, none⟩ = some (.slice (some ad647) l0_2.length c0_2) ∧ w'.cell? ⟨gb633, 3, none⟩ = some (.slice A0_3 l0_3.length c0_3) ∧ w'.cell? ⟨gb646, 0, none⟩ = some (.int .i64 ((rd_T69 l1 x8_1).f0)) ∧ w'.cell? ⟨gb646, 1, none⟩ = some (.int .i64 ((rd_T69 l1 x8_1).f1)) ∧ w'.cell? ⟨gb646, 2, none⟩ = some (.int .i64 ((rd_T69 l1 x8_1).f2)) ∧ w'.cell? (ad647.add (((rd_T69 l1 x8_1).f0)).toNat) = some (.int .i64 (rd l0_2 ((rd_T69 l1 x8_1).f0)))) (ds := []) #[F,F,F,F,F,F,F,F,F,F,F,F,F,F,F,F] (by kernel_rfl) rfl rfl ⟨(bc BK633.out 0).trans rfl, (bc BK633.out 1).trans rfl, (bc BK633.out 2).trans rfl, (bc BK633.out 3).trans rfl, (bc BK646.out 0).trans rfl, (bc BK646.out 1).trans rfl, (bc BK646.out 2).trans rfl, ((HB.out.cell (World.block_lt_of_cell? w _ hw647_0)).trans hw647_0)⟩ (fun hHeld => ?_); refine with_tabW r_Apply.tab9 r_Apply.bits9 (fun HT_ HW_ => ?_)
       generalize wc.drew = w52 at HO_7 HO_634000 HO_634003 HO_642000 HO_642002 HO_642003 BK633 BK634 BK641 BK646 HB hx647_0 hHeld ⊢
       refine pu (i := 0) (N := some 46) (fl 16 1 []) HT_ ?_
       refine pu (i := 2) (N := some 48) (fl 16 1 [2]) HT_ ?_
       refine pu (i := 6) (N := some 52) (fl 16 1 [2, 6]) HT_ ?_
       refine tk (i := 1) (N := some 47) (fl 16 3 [6]) HT_ HW_ hHeld ?_
       refine tk (i := 3) (N := some 49) (fl 16 4 [6]) HT_ HW_ hHeld ?_
       refine pu (i := 4) (N := some 50) (fl 16 5 [6]) HT_ ?_
       refine tk (i := 5) (N := some 51) (fl 16 7 []) HT_ HW_ hHeld ?_
       refine tk (i := 7) (N := some 53) (fl 16 8 []) HT_ HW_ hHeld ?_
       refine pu (i := 8) (N := some 54) (fl 16 9 []) HT_ ?_
       refine pu (i := 9) (N := some 55) (fl 16 10 []) HT_ ?_
       refine pure_ (i := 10) (N := some 56) (v := undef) (a' := ?_) #[T,T,T,T,T,T,T,T,T,T,T,F,F,F,F,F] rfl rfl (any_of HT_.out (by kernel_rfl)) (fun _ _ _ h => h) (Or.inr ⟨by rfl, rfl⟩) ?_ ?_
       rotate_left
       ·simp only [Act.put, psl, i64_w, i32_w]
        rfl
       refine pure_ (i := 11) (N := some 57) (v := undef) (a' := ?_) #[T,T,T,T,T,T,T,T,T,T,T,T,F,F,F,F] rfl rfl (any_of HT_.out (by kernel_rfl)) (fun _ _ _ h => h) (Or.inr ⟨by rfl, rfl⟩) ?_ ?_
       rotate_left
       ·simp only [Act.put, psl, i64_w, i32_w]
        rfl
       refine pure_ (i := 12) (N := some 58) (v := undef) (a' := ?_) #[T,T,T,T,T,T,T,T,T,T,T,T,T,F,F,F] rfl rfl (any_of HT_.out (by kernel_rfl)) (fun _ _ _ h => h) (Or.inr ⟨by rfl, rfl⟩) ?_ ?_
       rotate_left
       ·simp only [Act.put, psl, i64_w, i32_w]
        rfl
       refine pure_ (i := 13) (N := some 59) (v := undef) (a' := ?_) #[T,T,T,T,T,T,T,T,T,T,T,T,T,T,F,F] rfl rfl (any_of HT_.out (by kernel_rfl)) (fun _ _ _ h => h) (Or.inr ⟨by rfl, rfl⟩) ?_ ?_
       rotate_left
       ·simp only [Act.put, psl, i64_w, i32_w]
        rfl
       refine pu (i := 14) (N := some 60) (fl 16 15 []) HT_ ?_
       refine pu (i := 15) (N := some 45) (fl 16 16 []) HT_ ?_
       refine done_ (done_of HT_.out (by kernel_rfl)) ?_
       try go_wp2
       go_meet
       case rel => exact ⟨_, (true), sqD, H', ⟨by have := HK1.out; have := HJ21.out; first | omega | exact Nat.le_refl _⟩, ⟨fR HO_7.out⟩, ⟨by (with_reducible repeat (first | apply Kd.V_alloc | apply Kd.V_drewN | apply Kd.V_drew)); exact HO_634000.out⟩, ⟨by (with_reducible repeat (first | apply Kd.V_alloc | apply Kd.V_drewN | apply Kd.V_drew)); exact HO_634003.out⟩, ⟨by (with_reducible repeat (first | apply Kd.V_alloc | apply Kd.V_drewN | apply Kd.V_drew)); exact HO_642000.out⟩, ⟨fR HO_642002.out⟩, ⟨by (with_reducible repeat (first | apply Kd.V_alloc | apply Kd.V_drewN | apply Kd.V_drew)); exact HO_642003.out⟩, ⟨fb BK633.out⟩, ⟨fb BK634.out⟩, ⟨fb BK641.out⟩, ⟨fb BK646.out⟩, ⟨fW HB.out⟩⟩
      case rest =>
       clear HC45
       try clear c1;try clear c2;try clear p2;try clear c3;try clear c4;try clear p6;try clear q6;try clear hx6;try clear c20;try clear c20b0;try clear c21;try clear c21b0;try clear c24;try clear c25;try clear c26;try clear c28;try clear c28b0;try clear c29;try clear c30;try clear c31;try clear c33;try clear c34;try clear c35;try clear c37;try clear c38;try clear c40;try clear c41;try clear c42;try clear c43;try clear c46;try clear c46b0;try clear c47;try clear c47b0;try clear c48;try clear c48b0;try clear c48b1;try clear hx645_0;try clear hx645_1;try clear hx645_2;try clear hx647_0;try clear p2;try clear p6;try clear p645;try clear p647;try clear q6;try clear q645;try clear q647
       obtain ⟨kq, x45_44, rfl, HA, HJ44, HO_7, HO_634000, HO_634003, HO_642000, HO_642002, HO_642003, BK633, BK634, BK641, BK646, HB⟩ := hcut
       cases kq with
       | zero => exact absurd HA.out (by simp [r_Apply.j2])
       | succ kj44 =>
        have H := HA.out
        clear HA
        simp only [r_Apply.j2] at H
        by_cases c53 : x45_44 = true
        ·subst c53
         have H1 : (some (([] : List (List Int)), 0, ([] : List Int), ([] : List Bool), 10)) = some (r1, r2, r3, r4, r5) := by rw [if_pos rfl] at H; exact H
         clear H
         have H := H1
         clear H1
         simp only [Option.some.injEq, Prod.mk.injEq] at H
         obtain ⟨rfl, rfl, rfl, rfl, rfl⟩ := H
         have hnb54 := NB634_633.out
         have hnc54 := NB633_634.out
         have hnb55 := NB634_641.out
         have hnc55 := NB641_634.out
         have hnb56 := NB634_646.out
         have hnc56 := NB646_634.out
         have := yC1 BK634
         have := kC1 BK634
         have := kC2 BK634
         have := kC3 BK634
         have := bf BK634.out 0
         have := bf BK634.out 1
         have := bf BK634.out 2
         have := bf BK634.out 3
         go_wp2
         refine bodyPost_ret (results_ct rfl _ _ gb634 26 #[.slice none 0 0, .int .i64 0, .slice none 0 0, .slice none 0 0] (0, 0) _ rfl (kkC BK634.out) Try.underlying26 rfl (by kernel_rfl)) rfl ?_
         exact ⟨_, _, _, sqE, (Kd.V_nil _ _ _ _ _), by first | exact Kd.R_nil _ _ _ _ _ | exact Kd.N_nil _ _ _ _ _ | exact Kd.V_nil _ _ _ _ _ | exact Kd.Q_nil _ _ _ _ _ | exact Kd.S_nil _ _ _ _ _, (Kd.V_nil _ _ _ _ _), fW HB.out⟩
        replace c53 := Bool.eq_false_iff.mpr c53
        subst c53
        have H1 : (if 0 ≤ ((rd_T69 l1 x8_1).f0) then (if ((rd_T69 l1 x8_1).f0) < (l0_3.length : Int) then (if rdOf false l0_3 ((rd_T69 l1 x8_1).f0) = true then (some (([] : List (List Int)), 0, ([] : List Int), ([] : List Bool), 8)) else (if ((rd_T69 l1 x8_1).f0) < (l0_0.length : Int) then ((r_has.f kj44 (rd_L1 l0_0 ((rd_T69 l1 x8_1).f0)) ((rd_T69 l1 x8_1).f2)).bind fun t651 => (if t651 = true then (if x7_1.length < 17592186044416 then (if ((rd_T69 l1 x8_1).f0) < (x642002_1.length : Int) then (r_Apply.l0 kj44 l1 (x7_1 ++ [((rd_T69 l1 x8_1).f0)]) (wrap64 (x8_1 + 1)) l0_0 a0_1 l0_2 l0_3 l0_0 a0_1 (x642002_1.set (((rd_T69 l1 x8_1).f0) : Int).toNat ((rd_T69 l1 x8_1).f2)) l0_3) else (none)) else (none)) else (some (([] : List (List Int)), 0, ([] : List Int), ([] : List Bool), 1)))) else (none))) else (none)) else (none)) = some (r1, r2, r3, r4, r5) := by rw [if_neg (show ¬ (false = true) by decide)] at H; exact H
        clear H
        have H := H1
        clear H1
        by_cases c58 : 0 ≤ ((rd_T69 l1 x8_1).f0)
        rotate_left
        ·rw [if_neg c58] at H
         exact absurd H (by simp)
        rw [if_pos c58] at H
        have c58b0 : decide (0 ≤ ((rd_T69 l1 x8_1).f0)) = true := decide_eq_true c58
        clear c58
        by_cases c59 : ((rd_T69 l1 x8_1).f0) < (l0_3.length : Int)
        rotate_left
        ·rw [if_neg c59] at H
         exact absurd H (by simp)
        rw [if_pos c59] at H
        have c59b0 : decide (((rd_T69 l1 x8_1).f0) < (l0_3.length : Int)) = true := decide_eq_true c59
        clear c59
        obtain ⟨bq60, hbq60⟩ : ∃ b_ : Bool, b_ = (rdOf false l0_3 ((rd_T69 l1 x8_1).f0)) := ⟨_, rfl⟩
        replace H : (if bq60 = true then (some (([] : List (List Int)), 0, ([] : List Int), ([] : List Bool), 8)) else (if ((rd_T69 l1 x8_1).f0) < (l0_0.length : Int) then ((r_has.f kj44 (rd_L1 l0_0 ((rd_T69 l1 x8_1).f0)) ((rd_T69 l1 x8_1).f2)).bind fun t651 => (if t651 = true then (if x7_1.length < 17592186044416 then (if ((rd_T69 l1 x8_1).f0) < (x642002_1.length : Int) then (r_Apply.l0 kj44 l1 (x7_1 ++ [((rd_T69 l1 x8_1).f0)]) (wrap64 (x8_1 + 1)) l0_0 a0_1 l0_2 l0_3 l0_0 a0_1 (x642002_1.set (((rd_T69 l1 x8_1).f0) : Int).toNat ((rd_T69 l1 x8_1).f2)) l0_3) else (none)) else (none)) else (some (([] : List (List Int)), 0, ([] : List Int), ([] : List Bool), 1)))) else (none))) = some (r1, r2, r3, r4, r5) := by rw [← hbq60] at H; exact H
        have Nbq60 := am hbq60
        clear hbq60
        by_cases c61 : bq60 = true
        ·subst c61
         have H1 : (some (([] : List (List Int)), 0, ([] : List Int), ([] : List Bool), 8)) = some (r1, r2, r3, r4, r5) := by rw [if_pos rfl] at H; exact H
         clear H
         have H := H1
         clear H1
         simp only [Option.some.injEq, Prod.mk.injEq] at H
         obtain ⟨rfl, rfl, rfl, rfl, rfl⟩ := H
         have hnb62 := NB633_634.out
         have hnc62 := NB634_633.out
         have hnb63 := NB633_641.out
         have hnc63 := NB641_633.out
         have hnb64 := NB633_646.out
         have hnc64 := NB646_633.out
         have := yC1 BK633
         have := kC1 BK633
         have := kC2 BK633
         have := kC3 BK633
         have := bf BK633.out 0
         have := bf BK633.out 1
         have := bf BK633.out 2
         have := bf BK633.out 3
         have hnb66 := NB646_634.out
         have hnc66 := NB634_646.out
         have hnb67 := NB646_641.out
         have hnc67 := NB641_646.out
         have := yC1 BK646
         have := kC1 BK646
         have := kC2 BK646
         have := bf BK646.out 0
         have := bf BK646.out 1
         have := bf BK646.out 2
         have p649 : 0 ≤ (((rd_T69 l1 x8_1).f0) : Int) := of_decide_eq_true (by assumption)
         have q649 : ((rd_T69 l1 x8_1).f0) < (l0_3.length : Int) := of_decide_eq_true (by assumption)
         obtain ⟨ad649, e649, hx649_0⟩ := Kd.at_bool (Kd.V_reads' HO_634003.out).2.2 ((rd_T69 l1 x8_1).f0) p649 q649
         (try rw [← Nbq60.out] at hx649_0)
         cases e649
         replace p649 := eq_true p649
         replace q649 := eq_true q649
         have hnb69 := NB634_641.out
         have hnc69 := NB641_634.out
         have := yC1 BK634
         have := kC1 BK634
         have := kC2 BK634
         have := kC3 BK634
         have := bf BK634.out 0
         have := bf BK634.out 1
         have := bf BK634.out 2
         have := bf BK634.out 3
         go_wp2
         refine bodyPost_ret (results_ct rfl _ _ gb634 26 #[.slice none 0 0, .int .i64 0, .slice none 0 0, .slice none 0 0] (0, 0) _ rfl (kkC BK634.out) Try.underlying26 rfl (by kernel_rfl)) rfl ?_
         exact ⟨_, _, _, sqE, (Kd.V_nil _ _ _ _ _), by first | exact Kd.R_nil _ _ _ _ _ | exact Kd.N_nil _ _ _ _ _ | exact Kd.V_nil _ _ _ _ _ | exact Kd.Q_nil _ _ _ _ _ | exact Kd.S_nil _ _ _ _ _, (Kd.V_nil _ _ _ _ _), fW HB.out⟩
        replace c61 := Bool.eq_false_iff.mpr c61
        subst c61
        have H1 : (if ((rd_T69 l1 x8_1).f0) < (l0_0.length : Int) then ((r_has.f kj44 (rd_L1 l0_0 ((rd_T69 l1 x8_1).f0)) ((rd_T69 l1 x8_1).f2)).bind fun t651 => (if t651 = true then (if x7_1.length < 17592186044416 then (if ((rd_T69 l1 x8_1).f0) < (x642002_1.length : Int) then (r_Apply.l0 kj44 l1 (x7_1 ++ [((rd_T69 l1 x8_1).f0)]) (wrap64 (x8_1 + 1)) l0_0 a0_1 l0_2 l0_3 l0_0 a0_1 (x642002_1.set (((rd_T69 l1 x8_1).f0) : Int).toNat ((rd_T69 l1 x8_1).f2)) l0_3) else (none)) else (none)) else (some (([] : List (List Int)), 0, ([] : List Int), ([] : List Bool), 1)))) else (none)) = some (r1, r2, r3, r4, r5) := by rw [if_neg (show ¬ (false = true) by decide)] at H; exact H
        clear H
        have H := H1
        clear H1
        by_cases c71 : ((rd_T69 l1 x8_1).f0) < (l0_0.length : Int)
        rotate_left
        ·rw [if_neg c71] at H
         exact absurd H (by simp)
        rw [if_pos c71] at H
        have c71b0 : decide (((rd_T69 l1 x8_1).f0) < (l0_0.length : Int)) = true := decide_eq_true c71
        clear c71
        replace H := Option.bind_eq_some_iff.mp H
        obtain ⟨t651, A720, H⟩ := H
        replace H : (if t651 = true then (if x7_1.length < 17592186044416 then (if ((rd_T69 l1 x8_1).f0) < (x642002_1.length : Int) then (r_Apply.l0 kj44 l1 (x7_1 ++ [((rd_T69 l1 x8_1).f0)]) (wrap64 (x8_1 + 1)) l0_0 a0_1 l0_2 l0_3 l0_0 a0_1 (x642002_1.set (((rd_T69 l1 x8_1).f0) : Int).toNat ((rd_T69 l1 x8_1).f2)) l0_3) else (none)) else (none)) else (some (([] : List (List Int)), 0, ([] : List Int), ([] : List Bool), 1))) = some (r1, r2, r3, r4, r5) := H
        have A72 := am A720
        clear A720
        by_cases c73 : t651 = true
        rotate_left
        ·replace c73 := Bool.eq_false_iff.mpr c73
         subst c73
         have H1 : (some (([] : List (List Int)), 0, ([] : List Int), ([] : List Bool), 1)) = some (r1, r2, r3, r4, r5) := by rw [if_neg (show ¬ (false = true) by decide)] at H; exact H
         clear H
         have H := H1
         clear H1
         simp only [Option.some.injEq, Prod.mk.injEq] at H
         obtain ⟨rfl, rfl, rfl, rfl, rfl⟩ := H
         have hnb92 := NB633_634.out
         have hnc92 := NB634_633.out
         have hnb93 := NB633_641.out
         have hnc93 := NB641_633.out
         have hnb94 := NB633_646.out
         have hnc94 := NB646_633.out
         have := yC1 BK633
         have := kC1 BK633
         have := kC2 BK633
         have := kC3 BK633
         have := bf BK633.out 0
         have := bf BK633.out 1
         have := bf BK633.out 2
         have := bf BK633.out 3
         have hnb96 := NB646_634.out
         have hnc96 := NB634_646.out
         have hnb97 := NB646_641.out
         have hnc97 := NB641_646.out
         have := yC1 BK646
         have := kC1 BK646
         have := kC2 BK646
         have := bf BK646.out 0
         have := bf BK646.out 1
         have := bf BK646.out 2
         have p649 : 0 ≤ (((rd_T69 l1 x8_1).f0) : Int) := of_decide_eq_true (by assumption)
         have q649 : ((rd_T69 l1 x8_1).f0) < (l0_3.length : Int) := of_decide_eq_true (by assumption)
         obtain ⟨ad649, e649, hx649_0⟩ := Kd.at_bool (Kd.V_reads' HO_634003.out).2.2 ((rd_T69 l1 x8_1).f0) p649 q649
         (try rw [← Nbq60.out] at hx649_0)
         cases e649
         replace p649 := eq_true p649
         replace q649 := eq_true q649
         try go_wp2
         have n0_ := am (Kd.R_drew HO_7.out)
         have n1_ := am (Kd.V_drew HO_634000.out)
         have n2_ := am (Kd.V_drew HO_634003.out)
         have n3_ := am (Kd.V_drew HO_642000.out)
         have n4_ := am (Kd.R_drew HO_642002.out)
         have n5_ := am (Kd.V_drew HO_642003.out)
         have n6_ := am (bd BK633.out)
         have n7_ := am (bd BK634.out)
         have n8_ := am (bd BK641.out)
         have n9_ := am (bd BK646.out)
         have n10_ := am (below_drew1 HB.out)
         clear HO_7 HO_634000 HO_634003 HO_642000 HO_642002 HO_642003 BK633 BK634 BK641 BK646 HB
         have HO_7 := n0_
         have HO_634000 := n1_
         have HO_634003 := n2_
         have HO_642000 := n3_
         have HO_642002 := n4_
         have HO_642003 := n5_
         have BK633 := n6_
         have BK634 := n7_
         have BK641 := n8_
         have BK646 := n9_
         have HB := n10_
         clear n0_ n1_ n2_ n3_ n4_ n5_ n6_ n7_ n8_ n9_ n10_
         have p650 : 0 ≤ (((rd_T69 l1 x8_1).f0) : Int) := of_decide_eq_true (by assumption)
         have q650 : ((rd_T69 l1 x8_1).f0) < (l0_0.length : Int) := of_decide_eq_true (by assumption)
         obtain ⟨ad650, A650_0, c650_0, e650, hx650_0, hl650_0, hi650_0⟩ := at_L1 (Kd.V_reads' HO_634000.out).2.2 ((rd_T69 l1 x8_1).f0) p650 q650
         cases e650
         obtain ⟨ce650, hce650, hMe650, hcc650⟩ := Kd.V_get HO_634000.out [] ((rd_T69 l1 x8_1).f0) p650 (by first | exact q650 | exact of_decide_eq_true (by assumption) | (have e_ := (Kd.V_reads' HO_634000.out).1; omega))
         obtain ⟨ua650_0, uc650_0, rfl, ul650_0, ge650_0⟩ := Kd.FK_slice_open hMe650
         have hv650_0 := hcc650 0 _ rfl
         rw [Nat.add_zero, show ((Kd.slice 3 (Kd.int .i64))).sz = 1 from rfl, Nat.mul_one] at hv650_0
         replace hv650_0 := Option.some.inj (hv650_0.symm.trans hx650_0)
         injection hv650_0 with hva_ hvn_ hvc_
         rw [hva_] at ge650_0
         rw [hvc_] at ul650_0
         have HL650_0 := am (show Kd.V (Kd.int .i64) 3 _ w.heap.size _ _ (rd_L1 l0_0 ((rd_T69 l1 x8_1).f0)) from Kd.V_mk ul650_0 ge650_0)
         clear hva_ hvn_ hvc_ ge650_0 ul650_0 hcc650 hce650
         have HR650_0 := am hi650_0
         have HC650_0 := am hl650_0
         clear hi650_0 hl650_0
         replace p650 := eq_true p650
         replace q650 := eq_true q650
         refine start_ (n := 11) (S := fun w' => w'.cell? ⟨gb633, 0, none⟩ = some (.slice (some ad650) l0_0.length c0_0) ∧ w'.cell? ⟨gb633, 1, none⟩ = some (.int .i64 a0_1) ∧ w'.cell? ⟨gb633, 2, none⟩ = some (.slice A0_2 l0_2.length c0_2) ∧ w'.cell? ⟨gb633, 3, none⟩ = some (.slice (some ad649) l0_3.length c0_3) ∧ w'.cell? ⟨gb646, 0, none⟩ = some (.int .i64 ((rd_T69 l1 x8_1).f0)) ∧ w'.cell? ⟨gb646, 1, none⟩ = some (.int .i64 ((rd_T69 l1 x8_1).f1)) ∧ w'.cell? ⟨gb646, 2, none⟩ = some (.int .i64 ((rd_T69 l1 x8_1).f2)) ∧ w'.cell? (ad650.add (((rd_T69 l1 x8_1).f0)).toNat) = some (.slice A650_0 (rd_L1 l0_0 ((rd_T69 l1 x8_1).f0)).length c650_0)) (ds := []) #[F,F,F,F,F,F,F,F,F,F,F] (by kernel_rfl) rfl rfl ⟨(bc BK633.out 0).trans rfl, (bc BK633.out 1).trans rfl, (bc BK633.out 2).trans rfl, (bc BK633.out 3).trans rfl, (bc BK646.out 0).trans rfl, (bc BK646.out 1).trans rfl, (bc BK646.out 2).trans rfl, hx650_0⟩ (fun hHeld => ?_); refine with_tabW r_Apply.tab13 r_Apply.bits13 (fun HT_ HW_ => ?_)
         generalize wc.drew = w99 at HO_7 HO_634000 HO_634003 HO_642000 HO_642002 HO_642003 BK633 BK634 BK641 BK646 HB HL650_0 HR650_0 hx650_0 hHeld ⊢
         refine pu (i := 0) (N := some 71) (fl 11 1 []) HT_ ?_
         refine pu (i := 2) (N := some 73) (fl 11 1 [2]) HT_ ?_
         refine pu (i := 6) (N := some 77) (fl 11 1 [2, 6]) HT_ ?_
         refine tk (i := 1) (N := some 72) (fl 11 3 [6]) HT_ HW_ hHeld ?_
         refine tk (i := 3) (N := some 74) (fl 11 4 [6]) HT_ HW_ hHeld ?_
         refine pu (i := 4) (N := some 75) (fl 11 5 [6]) HT_ ?_
         refine tk (i := 5) (N := some 76) (fl 11 7 []) HT_ HW_ hHeld ?_
         refine tk (i := 7) (N := some 78) (fl 11 8 []) HT_ HW_ hHeld ?_
         refine one_ (i := 8) (N := some 79) (fl 11 9 []) rfl rfl (one_of HT_.out (by kernel_rfl)) (by decide) (fun K hK => ?_)
         refine goes_ Try.func40 (by kernel_rfl) rfl #[.slice A650_0 (rd_L1 l0_0 ((rd_T69 l1 x8_1).f0)).length c650_0, .int .i64 ((rd_T69 l1 x8_1).f2)] (by rfl) rfl rfl (by (try simp only [pml]); first | done | rfl | (simp only [pdt]; rfl)) ?_
         with_reducible refine (r_has.calls kj44 _ _ (rd_L1 l0_0 ((rd_T69 l1 x8_1).f0)) ((rd_T69 l1 x8_1).f2) false _ ?side1 ?side2 A72.out).mono ?_
         (case side1 => repeat (first | exact (fC HR650_0.out) | (with_reducible refine Kd.C_alloc ?_ _) | (with_reducible refine Kd.C_drewN ?_ _) | (with_reducible refine Kd.C_drew ?_)))
         (case side2 => exact HC650_0.out)
         rintro e w' ⟨rfl, ⟨nd, rfl⟩⟩
         refine ⟨_, rfl, ?_⟩
         refine hK.out _ _ ⟨(bc BK633.out 0).trans rfl, (bc BK633.out 1).trans rfl, (bc BK633.out 2).trans rfl, (bc BK633.out 3).trans rfl, (bc BK646.out 0).trans rfl, (bc BK646.out 1).trans rfl, (bc BK646.out 2).trans rfl, hHeld.2.2.2.2.2.2.2⟩ (fun hHeld => ?_)
         clear hK K
         refine norm_ (a' := ?_) ?_ ?_
         rotate_left
         ·show Act.put _ (some 79) _ = _
          simp only [Act.put, psl, i64_w, i32_w]
          rfl
         refine pu (i := 9) (N := some 80) (fl 11 10 []) HT_ ?_
         refine pu (i := 10) (N := some 70) (fl 11 11 []) HT_ ?_
         refine done_ (done_of HT_.out (by kernel_rfl)) ?_
         have hnb100 := NB634_641.out
         have hnc100 := NB641_634.out
         have := yC1 BK634
         have := kC1 BK634
         have := kC2 BK634
         have := kC3 BK634
         have := bf BK634.out 0
         have := bf BK634.out 1
         have := bf BK634.out 2
         have := bf BK634.out 3
         try go_wp2
         refine bodyPost_ret (results_ct rfl _ _ gb634 26 #[.slice none 0 0, .int .i64 0, .slice none 0 0, .slice none 0 0] (0, 0) _ rfl (kkC BK634.out) Try.underlying26 rfl (by kernel_rfl)) rfl ?_
         exact ⟨_, _, _, sqE, (Kd.V_nil _ _ _ _ _), by first | exact Kd.R_nil _ _ _ _ _ | exact Kd.N_nil _ _ _ _ _ | exact Kd.V_nil _ _ _ _ _ | exact Kd.Q_nil _ _ _ _ _ | exact Kd.S_nil _ _ _ _ _, (Kd.V_nil _ _ _ _ _), fW HB.out⟩
        subst c73
        have H1 : (if x7_1.length < 17592186044416 then (if ((rd_T69 l1 x8_1).f0) < (x642002_1.length : Int) then (r_Apply.l0 kj44 l1 (x7_1 ++ [((rd_T69 l1 x8_1).f0)]) (wrap64 (x8_1 + 1)) l0_0 a0_1 l0_2 l0_3 l0_0 a0_1 (x642002_1.set (((rd_T69 l1 x8_1).f0) : Int).toNat ((rd_T69 l1 x8_1).f2)) l0_3) else (none)) else (none)) = some (r1, r2, r3, r4, r5) := by rw [if_pos rfl] at H; exact H
        clear H
        have H := H1
        clear H1
        by_cases c74 : x7_1.length < 17592186044416
        rotate_left
        ·rw [if_neg c74] at H
         exact absurd H (by simp)
        rw [if_pos c74] at H
        have LMc74 := am c74
        clear c74
        obtain ⟨y652, hy652⟩ : ∃ y_ : List Int, y_ = (x7_1 ++ [((rd_T69 l1 x8_1).f0)]) := ⟨_, rfl⟩
        replace H : (if ((rd_T69 l1 x8_1).f0) < (x642002_1.length : Int) then (r_Apply.l0 kj44 l1 y652 (wrap64 (x8_1 + 1)) l0_0 a0_1 l0_2 l0_3 l0_0 a0_1 (x642002_1.set (((rd_T69 l1 x8_1).f0) : Int).toNat ((rd_T69 l1 x8_1).f2)) l0_3) else (none)) = some (r1, r2, r3, r4, r5) := by first | (rw [hy652]; with_reducible exact H) | (have H2_ := (Option.bind_some _ _).symm.trans H; rw [hy652]; with_reducible exact H2_) | (have H2_ := (Option.bind_some _ _).symm.trans H; with_reducible exact H2_) | with_reducible exact H | (rw [hy652]; exact H) | exact H
        have Ny652 := am hy652
        clear hy652
        by_cases c75 : ((rd_T69 l1 x8_1).f0) < (x642002_1.length : Int)
        rotate_left
        ·rw [if_neg c75] at H
         exact absurd H (by simp)
        rw [if_pos c75] at H
        have c75b0 : decide (((rd_T69 l1 x8_1).f0) < (x642002_1.length : Int)) = true := decide_eq_true c75
        clear c75
        obtain ⟨y655, hy655⟩ : ∃ y_ : List Int, y_ = (x642002_1.set (((rd_T69 l1 x8_1).f0) : Int).toNat ((rd_T69 l1 x8_1).f2)) := ⟨_, rfl⟩
        replace H : (r_Apply.l0 kj44 l1 y652 (wrap64 (x8_1 + 1)) l0_0 a0_1 l0_2 l0_3 l0_0 a0_1 y655 l0_3) = some (r1, r2, r3, r4, r5) := by first | (rw [hy655]; with_reducible exact H) | (have H2_ := (Option.bind_some _ _).symm.trans H; rw [hy655]; with_reducible exact H2_) | (have H2_ := (Option.bind_some _ _).symm.trans H; with_reducible exact H2_) | with_reducible exact H | (rw [hy655]; exact H) | exact H
        have Ny655 := am hy655
        clear hy655
        have H' := am H
        clear H
        have hnb77 := NB633_634.out
        have hnc77 := NB634_633.out
        have hnb78 := NB633_641.out
        have hnc78 := NB641_633.out
        have hnb79 := NB633_646.out
        have hnc79 := NB646_633.out
        have := yC1 BK633
        have := kC1 BK633
        have := kC2 BK633
        have := kC3 BK633
        have := bf BK633.out 0
        have := bf BK633.out 1
        have := bf BK633.out 2
        have := bf BK633.out 3
        have hnb81 := NB646_634.out
        have hnc81 := NB634_646.out
        have hnb82 := NB646_641.out
        have hnc82 := NB641_646.out
        have := yC1 BK646
        have := kC1 BK646
        have := kC2 BK646
        have := bf BK646.out 0
        have := bf BK646.out 1
        have := bf BK646.out 2
        have p649 : 0 ≤ (((rd_T69 l1 x8_1).f0) : Int) := of_decide_eq_true (by assumption)
        have q649 : ((rd_T69 l1 x8_1).f0) < (l0_3.length : Int) := of_decide_eq_true (by assumption)
        obtain ⟨ad649, e649, hx649_0⟩ := Kd.at_bool (Kd.V_reads' HO_634003.out).2.2 ((rd_T69 l1 x8_1).f0) p649 q649
        (try rw [← Nbq60.out] at hx649_0)
        cases e649
        replace p649 := eq_true p649
        replace q649 := eq_true q649
        try go_wp2
        have n0_ := am (Kd.R_drew HO_7.out)
        have n1_ := am (Kd.V_drew HO_634000.out)
        have n2_ := am (Kd.V_drew HO_634003.out)
        have n3_ := am (Kd.V_drew HO_642000.out)
        have n4_ := am (Kd.R_drew HO_642002.out)
        have n5_ := am (Kd.V_drew HO_642003.out)
        have n6_ := am (bd BK633.out)
        have n7_ := am (bd BK634.out)
        have n8_ := am (bd BK641.out)
        have n9_ := am (bd BK646.out)
        have n10_ := am (below_drew1 HB.out)
        clear HO_7 HO_634000 HO_634003 HO_642000 HO_642002 HO_642003 BK633 BK634 BK641 BK646 HB
        have HO_7 := n0_
        have HO_634000 := n1_
        have HO_634003 := n2_
        have HO_642000 := n3_
        have HO_642002 := n4_
        have HO_642003 := n5_
        have BK633 := n6_
        have BK634 := n7_
        have BK641 := n8_
        have BK646 := n9_
        have HB := n10_
        clear n0_ n1_ n2_ n3_ n4_ n5_ n6_ n7_ n8_ n9_ n10_
        have p650 : 0 ≤ (((rd_T69 l1 x8_1).f0) : Int) := of_decide_eq_true (by assumption)
        have q650 : ((rd_T69 l1 x8_1).f0) < (l0_0.length : Int) := of_decide_eq_true (by assumption)
        obtain ⟨ad650, A650_0, c650_0, e650, hx650_0, hl650_0, hi650_0⟩ := at_L1 (Kd.V_reads' HO_634000.out).2.2 ((rd_T69 l1 x8_1).f0) p650 q650
        cases e650
        obtain ⟨ce650, hce650, hMe650, hcc650⟩ := Kd.V_get HO_634000.out [] ((rd_T69 l1 x8_1).f0) p650 (by first | exact q650 | exact of_decide_eq_true (by assumption) | (have e_ := (Kd.V_reads' HO_634000.out).1; omega))
        obtain ⟨ua650_0, uc650_0, rfl, ul650_0, ge650_0⟩ := Kd.FK_slice_open hMe650
        have hv650_0 := hcc650 0 _ rfl
        rw [Nat.add_zero, show ((Kd.slice 3 (Kd.int .i64))).sz = 1 from rfl, Nat.mul_one] at hv650_0
        replace hv650_0 := Option.some.inj (hv650_0.symm.trans hx650_0)
        injection hv650_0 with hva_ hvn_ hvc_
        rw [hva_] at ge650_0
        rw [hvc_] at ul650_0
        have HL650_0 := am (show Kd.V (Kd.int .i64) 3 _ w.heap.size _ _ (rd_L1 l0_0 ((rd_T69 l1 x8_1).f0)) from Kd.V_mk ul650_0 ge650_0)
        clear hva_ hvn_ hvc_ ge650_0 ul650_0 hcc650 hce650
        have HR650_0 := am hi650_0
        have HC650_0 := am hl650_0
        clear hi650_0 hl650_0
        replace p650 := eq_true p650
        replace q650 := eq_true q650
        refine start_ (n := 11) (S := fun w' => w'.cell? ⟨gb633, 0, none⟩ = some (.slice (some ad650) l0_0.length c0_0) ∧ w'.cell? ⟨gb633, 1, none⟩ = some (.int .i64 a0_1) ∧ w'.cell? ⟨gb633, 2, none⟩ = some (.slice A0_2 l0_2.length c0_2) ∧ w'.cell? ⟨gb633, 3, none⟩ = some (.slice (some ad649) l0_3.length c0_3) ∧ w'.cell? ⟨gb646, 0, none⟩ = some (.int .i64 ((rd_T69 l1 x8_1).f0)) ∧ w'.cell? ⟨gb646, 1, none⟩ = some (.int .i64 ((rd_T69 l1 x8_1).f1)) ∧ w'.cell? ⟨gb646, 2, none⟩ = some (.int .i64 ((rd_T69 l1 x8_1).f2)) ∧ w'.cell? (ad650.add (((rd_T69 l1 x8_1).f0)).toNat) = some (.slice A650_0 (rd_L1 l0_0 ((rd_T69 l1 x8_1).f0)).length c650_0)) (ds := []) #[F,F,F,F,F,F,F,F,F,F,F] (by kernel_rfl) rfl rfl ⟨(bc BK633.out 0).trans rfl, (bc BK633.out 1).trans rfl, (bc BK633.out 2).trans rfl, (bc BK633.out 3).trans rfl, (bc BK646.out 0).trans rfl, (bc BK646.out 1).trans rfl, (bc BK646.out 2).trans rfl, hx650_0⟩ (fun hHeld => ?_); refine with_tabW r_Apply.tab13 r_Apply.bits13 (fun HT_ HW_ => ?_)
        generalize wc.drew = w84 at HO_7 HO_634000 HO_634003 HO_642000 HO_642002 HO_642003 BK633 BK634 BK641 BK646 HB HL650_0 HR650_0 hx650_0 hHeld ⊢
        refine pu (i := 0) (N := some 71) (fl 11 1 []) HT_ ?_
        refine pu (i := 2) (N := some 73) (fl 11 1 [2]) HT_ ?_
        refine pu (i := 6) (N := some 77) (fl 11 1 [2, 6]) HT_ ?_
        refine tk (i := 1) (N := some 72) (fl 11 3 [6]) HT_ HW_ hHeld ?_
        refine tk (i := 3) (N := some 74) (fl 11 4 [6]) HT_ HW_ hHeld ?_
        refine pu (i := 4) (N := some 75) (fl 11 5 [6]) HT_ ?_
        refine tk (i := 5) (N := some 76) (fl 11 7 []) HT_ HW_ hHeld ?_
        refine tk (i := 7) (N := some 78) (fl 11 8 []) HT_ HW_ hHeld ?_
        refine one_ (i := 8) (N := some 79) (fl 11 9 []) rfl rfl (one_of HT_.out (by kernel_rfl)) (by decide) (fun K hK => ?_)
        refine goes_ Try.func40 (by kernel_rfl) rfl #[.slice A650_0 (rd_L1 l0_0 ((rd_T69 l1 x8_1).f0)).length c650_0, .int .i64 ((rd_T69 l1 x8_1).f2)] (by rfl) rfl rfl (by (try simp only [pml]); first | done | rfl | (simp only [pdt]; rfl)) ?_
        with_reducible refine (r_has.calls kj44 _ _ (rd_L1 l0_0 ((rd_T69 l1 x8_1).f0)) ((rd_T69 l1 x8_1).f2) true _ ?side1 ?side2 A72.out).mono ?_
        (case side1 => repeat (first | exact (fC HR650_0.out) | (with_reducible refine Kd.C_alloc ?_ _) | (with_reducible refine Kd.C_drewN ?_ _) | (with_reducible refine Kd.C_drew ?_)))
        (case side2 => exact HC650_0.out)
        rintro e w' ⟨rfl, ⟨nd, rfl⟩⟩
        refine ⟨_, rfl, ?_⟩
        refine hK.out _ _ ⟨(bc BK633.out 0).trans rfl, (bc BK633.out 1).trans rfl, (bc BK633.out 2).trans rfl, (bc BK633.out 3).trans rfl, (bc BK646.out 0).trans rfl, (bc BK646.out 1).trans rfl, (bc BK646.out 2).trans rfl, hHeld.2.2.2.2.2.2.2⟩ (fun hHeld => ?_)
        clear hK K
        refine norm_ (a' := ?_) ?_ ?_
        rotate_left
        ·show Act.put _ (some 79) _ = _
         simp only [Act.put, psl, i64_w, i32_w]
         rfl
        refine pu (i := 9) (N := some 80) (fl 11 10 []) HT_ ?_
        refine pu (i := 10) (N := some 70) (fl 11 11 []) HT_ ?_
        refine done_ (done_of HT_.out (by kernel_rfl)) ?_
        have := yC1 BK646
        have := kC1 BK646
        have := kC2 BK646
        have := bf BK646.out 0
        have := bf BK646.out 1
        have := bf BK646.out 2
        try go_wp2_with (first | ((with_reducible refine gate_builtin (b := .append) (xs := #[.tmp 82, .tmp 85]) rfl ?_); (try (refine gate_guard (by rfl) ?_; dsimp only)); at_builtin; refine Kd.R_append (Kd.int .i64) (w0 := w) w.heap.size rfl (.tmp 82) (.tmp 85) 23 3 (.int .i64 0) 8 rfl Try.underlying23 info3 rfl (by decide) (by omega) u7 x7_1 ((rd_T69 l1 x8_1).f0) [.int .i64 ((rd_T69 l1 x8_1).f0)] (fun k_ => (w.heap.size ≤ k_) ∧ some k_ ≠ (u642002 : Value).ownBlock) (fun _ => False) rfl rfl ?aP (fun _ hk => hk.elim) ?aF ?aO ?aB ?aS ?aL ?_; (case aP => exact rfl); (case aB => exact (fW HB.out)); (case aF => exact (fun k_ hk => ⟨(Nat.le_trans (wz (fW HB.out)) hk), Kd.fresh' (Kd.R_lt (fR HO_642002.out)) k_ hk⟩)); (case aO => exact (fR HO_7.out)); (case aS => exact (wz (fW HB.out))); (case aL => have := LMc74.out; omega); intro v653 w86 ho hb hg hat; rw [← Ny652.out] at ho; replace HO_634000 := am (Kd.V_afterv (ok := (fun k_ => ((P0_0_ k_ ∨ P0_3_ k_) ∨ w.heap.size ≤ k_) ∧ some k_ ≠ (u642002 : Value).ownBlock ∧ k_ ≠ gb633 ∧ k_ ≠ gb634 ∧ k_ ≠ gb641 ∧ k_ ≠ gb646)) (by (with_reducible repeat (first | apply Kd.V_alloc | apply Kd.V_drewN | apply Kd.V_drew)); exact Kd.V_mono HO_634000.out (fun _ hk => ⟨⟨hk.1, ⟨hk.2.2.1, ⟨hk.2.2.2.1, ⟨hk.2.2.2.2.1, ⟨hk.2.2.2.2.2.1, hk.2.2.2.2.2.2⟩⟩⟩⟩⟩, hk.2.1⟩)) hg hat); replace HO_634003 := am (Kd.V_afterv (ok := (fun k_ => ((P0_0_ k_ ∨ P0_3_ k_) ∨ w.heap.size ≤ k_) ∧ some k_ ≠ (u642002 : Value).ownBlock ∧ k_ ≠ gb633 ∧ k_ ≠ gb634 ∧ k_ ≠ gb641 ∧ k_ ≠ gb646)) (by (with_reducible repeat (first | apply Kd.V_alloc | apply Kd.V_drewN | apply Kd.V_drew)); exact Kd.V_mono HO_634003.out (fun _ hk => ⟨⟨hk.1, ⟨hk.2.2.1, ⟨hk.2.2.2.1, ⟨hk.2.2.2.2.1, ⟨hk.2.2.2.2.2.1, hk.2.2.2.2.2.2⟩⟩⟩⟩⟩, hk.2.1⟩)) hg hat); replace HO_642000 := am (Kd.V_afterv (ok := (fun k_ => ((P0_0_ k_ ∨ P0_3_ k_) ∨ w.heap.size ≤ k_) ∧ some k_ ≠ (u642002 : Value).ownBlock ∧ k_ ≠ gb633 ∧ k_ ≠ gb634 ∧ k_ ≠ gb641 ∧ k_ ≠ gb646)) (by (with_reducible repeat (first | apply Kd.V_alloc | apply Kd.V_drewN | apply Kd.V_drew)); exact Kd.V_mono HO_642000.out (fun _ hk => ⟨⟨hk.1, ⟨hk.2.2.1, ⟨hk.2.2.2.1, ⟨hk.2.2.2.2.1, ⟨hk.2.2.2.2.2.1, hk.2.2.2.2.2.2⟩⟩⟩⟩⟩, hk.2.1⟩)) hg hat); replace HO_642002 := am (Kd.R_after (ok := (fun k_ => (w.heap.size ≤ k_))) (fR HO_642002.out) hg hat); replace HO_642003 := am (Kd.V_afterv (ok := (fun k_ => ((P0_0_ k_ ∨ P0_3_ k_) ∨ w.heap.size ≤ k_) ∧ some k_ ≠ (u642002 : Value).ownBlock ∧ k_ ≠ gb633 ∧ k_ ≠ gb634 ∧ k_ ≠ gb641 ∧ k_ ≠ gb646)) (by (with_reducible repeat (first | apply Kd.V_alloc | apply Kd.V_drewN | apply Kd.V_drew)); exact Kd.V_mono HO_642003.out (fun _ hk => ⟨⟨hk.1, ⟨hk.2.2.1, ⟨hk.2.2.2.1, ⟨hk.2.2.2.2.1, ⟨hk.2.2.2.2.2.1, hk.2.2.2.2.2.2⟩⟩⟩⟩⟩, hk.2.1⟩)) hg hat); replace BK633 := am (blk_grown (g := gb633) (o := .cells #[.slice (some ad650) l0_0.length c0_0, .int .i64 a0_1, .slice A0_2 l0_2.length c0_2, .slice (some ad649) l0_3.length c0_3] 26 (0, 0)) (fb BK633.out) hg (Kd.R_ne HO_7.out BK633.out (by decide))); replace BK634 := am (blk_grown (g := gb634) (o := .cells #[.slice none 0 0, .int .i64 x635001_1, .slice none 0 0, .slice none 0 0] 26 (0, 0)) (fb BK634.out) hg (Kd.R_ne HO_7.out BK634.out (by decide))); replace BK641 := am (blk_grown (g := gb641) (o := .cells #[.slice (some ad650) l0_0.length c0_0, .int .i64 a0_1, u642002, .slice (some ad649) l0_3.length c0_3] 26 (0, 0)) (fb BK641.out) hg (Kd.R_ne HO_7.out BK641.out (by decide))); replace BK646 := am (blk_grown (g := gb646) (o := .cells #[.int .i64 ((rd_T69 l1 x8_1).f0), .int .i64 ((rd_T69 l1 x8_1).f1), .int .i64 ((rd_T69 l1 x8_1).f2)] 69 (0, 0)) (fb BK646.out) hg (Kd.R_ne HO_7.out BK646.out (by decide))); replace HL650_0 := am (Kd.V_afterv (ok := (fun k_ => ((P0_0_ k_ ∨ P0_3_ k_) ∨ w.heap.size ≤ k_) ∧ some k_ ≠ (u642002 : Value).ownBlock ∧ k_ ≠ gb633 ∧ k_ ≠ gb634 ∧ k_ ≠ gb641 ∧ k_ ≠ gb646)) (by (with_reducible repeat (first | apply Kd.V_alloc | apply Kd.V_drewN | apply Kd.V_drew)); exact Kd.V_mono HL650_0.out (fun _ hk => ⟨⟨hk.1, ⟨hk.2.2.1, ⟨hk.2.2.2.1, ⟨hk.2.2.2.2.1, ⟨hk.2.2.2.2.2.1, hk.2.2.2.2.2.2⟩⟩⟩⟩⟩, hk.2.1⟩)) hg hat); replace HB := am (hb); have HO654 := am (ho); clear HO_7 ho hb hg hat; have hnb87 := NB641_634.out; have hnc87 := NB634_641.out; obtain ⟨_, _, _, _, _, _, _, _⟩ := zC4 BK641; obtain ⟨_, _, _, _, _, _⟩ := zC3 BK646; have p76 : 0 ≤ (((rd_T69 l1 x8_1).f0) : Int) := of_decide_eq_true (by assumption); have q76 : (((rd_T69 l1 x8_1).f0) : Int) < ((x642002_1.length : Int) : Int) := of_decide_eq_true (by assumption); obtain ⟨go76, co76, eo76, gb76, gl76, cl76, HG76⟩ := Kd.R_form HO_642002.out (by omega); (first | cases eo76 | (injection eo76 with ea_ en_ ec_; (first | subst ea_ | (injection ea_ with ea_; subst ea_)); subst ec_; clear en_)); have GB76 := am gb76; have GG76 := am HG76; clear gb76 gl76 HG76; obtain ⟨hx76_0, hf76_0⟩ := Kd.R_celln 0 HO_642002.out (((rd_T69 l1 x8_1).f0) : Int) p76 q76; replace p76 := eq_true p76; replace q76 := eq_true q76; obtain ⟨hy90_, hz90_⟩ := Kd.R_celln 0 HO_642002.out (((rd_T69 l1 x8_1).f0) : Int) (of_decide_eq_true (by assumption)) (of_decide_eq_true (by assumption)); have HP90 := Kd.R_putg HO_642002.out (((rd_T69 l1 x8_1).f0) : Int) ((rd_T69 l1 x8_1).f2)) | ((with_reducible refine gate_store (t := 3) (p := 93) rfl ?_); refine store_event (t := 3) (p := 93) (v := ?vo_w91) (w1 := (w86.setCell ⟨go76, (((rd_T69 l1 x8_1).f0) : Int).toNat, none⟩ (.int .i64 ((rd_T69 l1 x8_1).f2)))) ?hg ?ho ?hn ?hr ?_; (case ho => rfl); (case hg => rfl); (case hn => rfl); (case hr => first | (go_simp; done) | (go_simp; rfl)); intro w91 hw; have hg : w86.grownBy w91 (some go76) := (by rw [hw]; exact HP90.2); have hp_ : Kd.R (Kd.int .i64) 3 w91 w.heap.size (fun k_ => (w.heap.size ≤ k_) ∧ some k_ ≠ (v653 : Value).ownBlock) (.slice (some ⟨go76, 0, none⟩) x642002_1.length co76) y655 := (by rw [hw, Ny655.out]; exact HP90.1); clear HP90; replace HO_634000 := am (Kd.V_afterv (v := (.slice (some ⟨go76, 0, none⟩) x642002_1.length co76)) (v1 := (.slice (some ⟨go76, 0, none⟩) x642002_1.length co76)) (ok := (fun k_ => ((P0_0_ k_ ∨ P0_3_ k_) ∨ w.heap.size ≤ k_) ∧ some k_ ≠ (v653 : Value).ownBlock ∧ k_ ≠ gb633 ∧ k_ ≠ gb634 ∧ k_ ≠ gb641 ∧ k_ ≠ gb646)) (by (with_reducible repeat (first | apply Kd.V_alloc | apply Kd.V_drewN | apply Kd.V_drew)); exact Kd.V_mono HO_634000.out (fun _ hk => ⟨⟨hk.1.1, ⟨hk.2, ⟨hk.1.2.2.1, ⟨hk.1.2.2.2.1, ⟨hk.1.2.2.2.2.1, hk.1.2.2.2.2.2⟩⟩⟩⟩⟩, hk.1.2.1⟩)) hg (.inl rfl)); replace HO_634003 := am (Kd.V_afterv (v := (.slice (some ⟨go76, 0, none⟩) x642002_1.length co76)) (v1 := (.slice (some ⟨go76, 0, none⟩) x642002_1.length co76)) (ok := (fun k_ => ((P0_0_ k_ ∨ P0_3_ k_) ∨ w.heap.size ≤ k_) ∧ some k_ ≠ (v653 : Value).ownBlock ∧ k_ ≠ gb633 ∧ k_ ≠ gb634 ∧ k_ ≠ gb641 ∧ k_ ≠ gb646)) (by (with_reducible repeat (first | apply Kd.V_alloc | apply Kd.V_drewN | apply Kd.V_drew)); exact Kd.V_mono HO_634003.out (fun _ hk => ⟨⟨hk.1.1, ⟨hk.2, ⟨hk.1.2.2.1, ⟨hk.1.2.2.2.1, ⟨hk.1.2.2.2.2.1, hk.1.2.2.2.2.2⟩⟩⟩⟩⟩, hk.1.2.1⟩)) hg (.inl rfl)); replace HO_642000 := am (Kd.V_afterv (v := (.slice (some ⟨go76, 0, none⟩) x642002_1.length co76)) (v1 := (.slice (some ⟨go76, 0, none⟩) x642002_1.length co76)) (ok := (fun k_ => ((P0_0_ k_ ∨ P0_3_ k_) ∨ w.heap.size ≤ k_) ∧ some k_ ≠ (v653 : Value).ownBlock ∧ k_ ≠ gb633 ∧ k_ ≠ gb634 ∧ k_ ≠ gb641 ∧ k_ ≠ gb646)) (by (with_reducible repeat (first | apply Kd.V_alloc | apply Kd.V_drewN | apply Kd.V_drew)); exact Kd.V_mono HO_642000.out (fun _ hk => ⟨⟨hk.1.1, ⟨hk.2, ⟨hk.1.2.2.1, ⟨hk.1.2.2.2.1, ⟨hk.1.2.2.2.2.1, hk.1.2.2.2.2.2⟩⟩⟩⟩⟩, hk.1.2.1⟩)) hg (.inl rfl)); replace HO_642003 := am (Kd.V_afterv (v := (.slice (some ⟨go76, 0, none⟩) x642002_1.length co76)) (v1 := (.slice (some ⟨go76, 0, none⟩) x642002_1.length co76)) (ok := (fun k_ => ((P0_0_ k_ ∨ P0_3_ k_) ∨ w.heap.size ≤ k_) ∧ some k_ ≠ (v653 : Value).ownBlock ∧ k_ ≠ gb633 ∧ k_ ≠ gb634 ∧ k_ ≠ gb641 ∧ k_ ≠ gb646)) (by (with_reducible repeat (first | apply Kd.V_alloc | apply Kd.V_drewN | apply Kd.V_drew)); exact Kd.V_mono HO_642003.out (fun _ hk => ⟨⟨hk.1.1, ⟨hk.2, ⟨hk.1.2.2.1, ⟨hk.1.2.2.2.1, ⟨hk.1.2.2.2.2.1, hk.1.2.2.2.2.2⟩⟩⟩⟩⟩, hk.1.2.1⟩)) hg (.inl rfl)); replace BK633 := am (blk_grown (g := gb633) (o := .cells #[.slice (some ad650) l0_0.length c0_0, .int .i64 a0_1, .slice A0_2 l0_2.length c0_2, .slice (some ad649) l0_3.length c0_3] 26 (0, 0)) (fb BK633.out) hg (Kd.R_ne HO_642002.out BK633.out (by decide))); replace BK634 := am (blk_grown (g := gb634) (o := .cells #[.slice none 0 0, .int .i64 x635001_1, .slice none 0 0, .slice none 0 0] 26 (0, 0)) (fb BK634.out) hg (Kd.R_ne HO_642002.out BK634.out (by decide))); replace BK641 := am (blk_grown (g := gb641) (o := .cells #[.slice (some ad650) l0_0.length c0_0, .int .i64 a0_1, .slice (some ⟨go76, 0, none⟩) x642002_1.length co76, .slice (some ad649) l0_3.length c0_3] 26 (0, 0)) (fb BK641.out) hg (Kd.R_ne HO_642002.out BK641.out (by decide))); replace BK646 := am (blk_grown (g := gb646) (o := .cells #[.int .i64 ((rd_T69 l1 x8_1).f0), .int .i64 ((rd_T69 l1 x8_1).f1), .int .i64 ((rd_T69 l1 x8_1).f2)] 69 (0, 0)) (fb BK646.out) hg (Kd.R_ne HO_642002.out BK646.out (by decide))); replace HO_642002 := am (hp_); replace HL650_0 := am (Kd.V_afterv (v := (.slice (some ⟨go76, 0, none⟩) x642002_1.length co76)) (v1 := (.slice (some ⟨go76, 0, none⟩) x642002_1.length co76)) (ok := (fun k_ => ((P0_0_ k_ ∨ P0_3_ k_) ∨ w.heap.size ≤ k_) ∧ some k_ ≠ (v653 : Value).ownBlock ∧ k_ ≠ gb633 ∧ k_ ≠ gb634 ∧ k_ ≠ gb641 ∧ k_ ≠ gb646)) (by (with_reducible repeat (first | apply Kd.V_alloc | apply Kd.V_drewN | apply Kd.V_drew)); exact Kd.V_mono HL650_0.out (fun _ hk => ⟨⟨hk.1.1, ⟨hk.2, ⟨hk.1.2.2.1, ⟨hk.1.2.2.2.1, ⟨hk.1.2.2.2.2.1, hk.1.2.2.2.2.2⟩⟩⟩⟩⟩, hk.1.2.1⟩)) hg (.inl rfl)); replace HO654 := am (Kd.R_after (v := (.slice (some ⟨go76, 0, none⟩) x642002_1.length co76)) (v1 := (.slice (some ⟨go76, 0, none⟩) x642002_1.length co76)) (ok := (fun k_ => (w.heap.size ≤ k_))) (fR HO654.out) hg (.inl rfl)); replace HB := am ((by rw [hw]; exact below_set (HB.out) GB76.out : Below w.heap.size w w91)); clear hg hw hp_))
        go_roundg kj44
        case measure => have := HK1.out; have := HJ21.out; have := HJ44.out; omega
        case rel => exact ⟨(y652), (wrap64 (x8_1 + 1)), (x635001_1), (y655), (.slice (some ⟨go76, 0, none⟩) x642002_1.length co76), sqD, H', ⟨by have := HK1.out; have := HJ21.out; have := HJ44.out; omega⟩, ⟨fR HO654.out⟩, ⟨by (with_reducible repeat (first | apply Kd.V_alloc | apply Kd.V_drewN | apply Kd.V_drew)); exact Kd.V_mono HO_634000.out (fun _ hk => ⟨hk.1.1, ⟨hk.1.2.1, ⟨hk.2, ⟨hk.1.2.2.1, ⟨hk.1.2.2.2.1, hk.1.2.2.2.2.1⟩⟩⟩⟩⟩)⟩, ⟨by (with_reducible repeat (first | apply Kd.V_alloc | apply Kd.V_drewN | apply Kd.V_drew)); exact Kd.V_mono HO_634003.out (fun _ hk => ⟨hk.1.1, ⟨hk.1.2.1, ⟨hk.2, ⟨hk.1.2.2.1, ⟨hk.1.2.2.2.1, hk.1.2.2.2.2.1⟩⟩⟩⟩⟩)⟩, ⟨by (with_reducible repeat (first | apply Kd.V_alloc | apply Kd.V_drewN | apply Kd.V_drew)); exact Kd.V_mono HO_642000.out (fun _ hk => ⟨hk.1.1, ⟨hk.1.2.1, ⟨hk.2, ⟨hk.1.2.2.1, ⟨hk.1.2.2.2.1, hk.1.2.2.2.2.1⟩⟩⟩⟩⟩)⟩, ⟨fR HO_642002.out⟩, ⟨by (with_reducible repeat (first | apply Kd.V_alloc | apply Kd.V_drewN | apply Kd.V_drew)); exact Kd.V_mono HO_642003.out (fun _ hk => ⟨hk.1.1, ⟨hk.1.2.1, ⟨hk.2, ⟨hk.1.2.2.1, ⟨hk.1.2.2.2.1, hk.1.2.2.2.2.1⟩⟩⟩⟩⟩)⟩, ⟨fb BK633.out⟩, ⟨fb BK634.out⟩, ⟨fb BK641.out⟩, ⟨fW HB.out⟩⟩
 ·rw [if_neg c3] at H
  exact absurd H (by simp)

end Go.Proofs.Ytkeomlmlimkebaa.QA
