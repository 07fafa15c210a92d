import Derived.Test.YtkeomlmlimkebaaZQAx0
namespace Go.Proofs.Ytkeomlmlimkebaa.QA
open Go.RowKit Go.Proofs.YtkeomlmlimkebaaW.PrintWords Go.Proofs.YtkeomlmlimkebaaW.PrintLast Go.Proofs.YtkeomlmlimkebaaW.PrintMore
open Go.Proofs.YtkeomlmlimkebaaW.PrintWords renaming blk_drewN → bN, blk_drew → bd, blk_alloc → ba, blk_frozen → bf, blk_cell → bc, below_size → wz, cell_far → cf, blk_far → bF
open Aside0 renaming mk → am
open World renaming block_lt_of_cell? → bq
attribute [local go_sem] max2_int min2_int max_two min_two max_three min_three max_four min_four
set_option linter.unusedVariables false
set_option linter.unusedSimpArgs false

mutual
def r_Break.l0 : Nat → Int → Int → List (List Int) → Int → List Int → List Bool → List (List Int) → Int → List Int → List Bool → Option ((List (List Int)) × Int × List Int × List Bool)
 | 0, _, _, _, _, _, _, _, _, _, _ => none
 | k + 1, x1, x6, x258000, x258001, x258002, x258003, x266000, x266001, x266002, x266003 => if x6 < (x258000.length : Int) then (r_Break.l1 k x1 x6 (([] : List Int)) 0 x258000 x258001 x258002 x258003 x266000 x266001 x266002 x266003) else (some (x266000, x266001, x266002, x266003))
def r_Break.l1 : Nat → Int → Int → List Int → Int → List (List Int) → Int → List Int → List Bool → List (List Int) → Int → List Int → List Bool → Option ((List (List Int)) × Int × List Int × List Bool)
 | 0, _, _, _, _, _, _, _, _, _, _, _, _ => none
 | k + 1, x1, x6, x7, x8, x258000, x258001, x258002, x258003, x266000, x266001, x266002, x266003 => if 0 ≤ x6 then (if x6 < (x258000.length : Int) then (if x8 < ((rd_L1 x258000 x6).length : Int) then (if 0 ≤ x8 then (if (rd (rd_L1 x258000 x6) x8) = x1 then (r_Break.l1 k x1 x6 x7 (wrap64 (x8 + 1)) x258000 x258001 x258002 x258003 x266000 x266001 x266002 x266003) else (if x7.length < 17592186044416 then (r_Break.l1 k x1 x6 (x7 ++ [rd (rd_L1 x258000 x6) x8]) (wrap64 (x8 + 1)) x258000 x258001 x258002 x258003 x266000 x266001 x266002 x266003) else (none))) else (none)) else (if x266000.length < 5864062014805 then ((some (x266000 ++ [x7] : List (List Int))).bind fun y277 => (if x6 < (x258002.length : Int) then (if (rd x258002 x6) = x1 then (if x266002.length < 17592186044416 then (r_Break.l0 k x1 (wrap64 (x6 + 1)) x258000 x258001 x258002 x258003 y277 x266001 (x266002 ++ [(-1)]) x266003) else (none)) else (if x266002.length < 17592186044416 then (r_Break.l0 k x1 (wrap64 (x6 + 1)) x258000 x258001 x258002 x258003 y277 x266001 (x266002 ++ [rd x258002 x6]) x266003) else (none))) else (none))) else (none))) else (none)) else (none)
end
def r_Break.f (k : Nat) (l0_0 : List (List Int)) (a0_1 : Int) (l0_2 : List Int) (l0_3 : List Bool) (a1 : Int) : Option ((List (List Int)) × Int × List Int × List Bool) := (some (([] : List Bool) : List Bool)).bind fun y259 => (if y259.length + l0_3.length < 140737488355328 then (r_Break.l0 k a1 0 l0_0 a0_1 l0_2 l0_3 ([] : List (List Int)) a0_1 ([] : List Int) (y259 ++ l0_3)) else (none))
def r_Break.T1 : Bool × List (List Nat × List Nat) := (true, [([], []), ([0], [0]), ([], []), ([], []), ([3], [3]), ([2, 4], [2, 4]), ([1, 5], [1, 5]), ([], []), ([7, 6, 5, 0, 1, 2, 3, 4, 5, 6, 7], [6, 7])])
def r_Break.B1 : List Nat := [0, 1, 0, 0, 8, 28, 63, 0, 255]
theorem r_Break.tab1 : rtab .any (opsOf Try.f30 1) = r_Break.T1 := by kernel_rfl
theorem r_Break.bits1 : waitsOk r_Break.T1.2 r_Break.B1 = true := by kernel_rfl
def r_Break.T14 : Bool × List (List Nat × List Nat) := (true, [([], []), ([0], [0]), ([], []), ([2], [2]), ([], []), ([3, 4], [3, 4]), ([5], [5]), ([6], [6]), ([1, 7], [1, 7]), ([0, 1, 2, 3, 4, 5, 6, 7, 8], []), ([9, 8, 8, 0, 1, 2, 3, 4, 5, 6, 7, 8], [8, 9])])
def r_Break.B14 : List Nat := [0, 1, 0, 4, 0, 28, 60, 124, 255, 511, 1023]
theorem r_Break.tab14 : rtab .any (opsOf Try.f30 14) = r_Break.T14 := by kernel_rfl
theorem r_Break.bits14 : waitsOk r_Break.T14.2 r_Break.B14 = true := by kernel_rfl
set_option maxHeartbeats 8000000 in
set_option maxRecDepth 100000 in
theorem r_Break.calls (k : Nat) (A0_0 : Option Addr) (c0_0 : Nat) (l0_0 : List (List Int)) (a0_1 : Int) (A0_2 : Option Addr) (c0_2 : Nat) (l0_2 : List Int) (A0_3 : Option Addr) (c0_3 : Nat) (l0_3 : List Bool) (a1 : Int) (r1 : List (List Int)) (r2 : Int) (r3 : List Int) (r4 : List Bool) (w : World) (hr0_0 : Kd.C (Kd.slice 3 (Kd.int .i64)) w A0_0 l0_0.length l0_0) (hc0_0 : l0_0.length ≤ c0_0) (hr0_2 : Kd.C (Kd.int .i64) w A0_2 l0_2.length l0_2) (hc0_2 : l0_2.length ≤ c0_2) (hr0_3 : Kd.C Kd.bool w A0_3 l0_3.length l0_3) (hc0_3 : l0_3.length ≤ c0_3) (h : r_Break.f k l0_0 a0_1 l0_2 l0_3 a1 = some (r1, r2, r3, r4)) :
  Calls Try.prog 30 #[.agg #[.slice A0_0 l0_0.length c0_0, .int .i64 a0_1, .slice A0_2 l0_2.length c0_2, .slice A0_3 l0_3.length c0_3], .int .i64 a1] w fun e w' => ∃ v0_ v2_ v3_ : Value, e = .returned (.agg #[v0_, .int .i64 r2, v2_, v3_]) ∧ Kd.S (Kd.slice 3 (Kd.int .i64)) 23 w' w.heap.size (fun k_ => some k_ ≠ (v2_ : Value).ownBlock) v0_ r1 ∧ Kd.R (Kd.int .i64) 3 w' w.heap.size (fun _ => True) v2_ r3 ∧ Kd.R Kd.bool 4 w' w.heap.size (fun _ => True) v3_ r4 ∧ Below w.heap.size w w' := by
 have hu26 := Try.underlying26
 have HR0_0 := am hr0_0
 have HC0_0 := am hc0_0
 clear hr0_0 hc0_0
 have HR0_2 := am hr0_2
 have HC0_2 := am hc0_2
 clear hr0_2 hc0_2
 have HR0_3 := am hr0_3
 have HC0_3 := am hc0_3
 clear hr0_3 hc0_3
 have HB := am (Below.refl w.heap.size w)
 have H : ((some (([] : List Bool) : List Bool)).bind fun y259 => (if y259.length + l0_3.length < 140737488355328 then (r_Break.l0 k a1 0 l0_0 a0_1 l0_2 l0_3 ([] : List (List Int)) a0_1 ([] : List Int) (y259 ++ l0_3)) else (none))) = some (r1, r2, r3, r4) := h
 clear h
 obtain ⟨y259, hy259⟩ : ∃ y_ : List Bool, y_ = (([] : List Bool)) := ⟨_, rfl⟩
 replace H : (if y259.length + l0_3.length < 140737488355328 then (r_Break.l0 k a1 0 l0_0 a0_1 l0_2 l0_3 ([] : List (List Int)) a0_1 ([] : List Int) (y259 ++ l0_3)) else (none)) = some (r1, r2, r3, r4) := by first | (rw [hy259]; with_reducible exact H) | (have H2_ := (Option.bind_some _ _).symm.trans H; rw [hy259]; with_reducible exact H2_) | (have H2_ := (Option.bind_some _ _).symm.trans H; with_reducible exact H2_) | with_reducible exact H | (rw [hy259]; exact H) | exact H
 have Ny259 := am hy259
 clear hy259
 by_cases c3 : y259.length + l0_3.length < 140737488355328
 ·rw [if_pos c3] at H
  have LMc3 := am c3
  clear c3
  obtain ⟨y262, hy262⟩ : ∃ y_ : List Bool, y_ = (y259 ++ l0_3) := ⟨_, rfl⟩
  replace H : (r_Break.l0 k a1 0 l0_0 a0_1 l0_2 l0_3 ([] : List (List Int)) a0_1 ([] : List Int) y262) = some (r1, r2, r3, r4) := by first | (rw [hy262]; with_reducible exact H) | (have H2_ := (Option.bind_some _ _).symm.trans H; rw [hy262]; with_reducible exact H2_) | (have H2_ := (Option.bind_some _ _).symm.trans H; with_reducible exact H2_) | with_reducible exact H | (rw [hy262]; exact H) | exact H
  have Ny262 := am hy262
  clear hy262
  have H' := am H
  clear H
  go_enter Try.func30, Try.ntmps30
  try go_wp2_with (first | ((with_reducible refine gate_dst (N := 2) rfl ?_); refine box_event ?hg (N := 2) ?hd (cs := #[.slice A0_0 l0_0.length c0_0, .int .i64 a0_1, .slice A0_2 l0_2.length c0_2, .slice A0_3 l0_3.length c0_3]) (t := 26) ?hr ?_; (case hd | hg => rfl); (case hr => first | (go_simp; done) | (go_simp; rfl)); intro gb257 hg w4 hbox hb; have BK257 := am hbox; have GW257 := sG HB hg; have GE257 := sG HB hg; replace HB := bS HB hb; clear hb hbox hg) | ((with_reducible refine gate_dst (N := 4) rfl ?_); refine box_event ?hg (N := 4) ?hd (cs := #[.slice none 0 0, .int .i64 0, .slice none 0 0, .slice none 0 0]) (t := 26) ?hr ?_; (case hd | hg => rfl); (case hr => first | (go_simp; done) | (go_simp; rfl)); intro gb258 hg w5 hbox hb; have BK258 := am hbox; have GW258 := sG HB hg; have GE258 := sG HB hg; replace HB := bS HB hb; have NB257_258 := nL BK257 hg; have NB258_257 := nG BK257 hg; replace BK257 := bB BK257 hb; clear hb hbox hg))
  have n0_ := am (bd BK257.out)
  have n1_ := am (bd BK258.out)
  have n2_ := am (below_drew1 HB.out)
  clear BK257 BK258 HB
  have BK257 := n0_
  have BK258 := n1_
  have HB := n2_
  clear n0_ n1_ n2_
  refine start_ (n := 9) (S := fun w' => w'.cell? ⟨gb257, 0, none⟩ = some (.slice A0_0 l0_0.length c0_0) ∧ w'.cell? ⟨gb257, 1, none⟩ = some (.int .i64 a0_1) ∧ w'.cell? ⟨gb257, 2, none⟩ = some (.slice A0_2 l0_2.length c0_2) ∧ w'.cell? ⟨gb257, 3, none⟩ = some (.slice A0_3 l0_3.length c0_3)) (ds := []) #[F,F,F,F,F,F,F,F,F] (by kernel_rfl) rfl rfl ⟨(bc BK257.out 0).trans rfl, (bc BK257.out 1).trans rfl, (bc BK257.out 2).trans rfl, (bc BK257.out 3).trans rfl⟩ (fun hHeld => ?_); refine with_tabW r_Break.tab1 r_Break.bits1 (fun HT_ HW_ => ?_)
  generalize w5.drew = w6 at BK257 BK258 HB hHeld ⊢
  refine pu (i := 0) (N := some 9) (fl 9 1 []) HT_ ?_
  refine pu (i := 3) (N := some 12) (fl 9 1 [3]) HT_ ?_
  refine tk (i := 1) (N := some 10) (fl 9 2 [3]) HT_ HW_ hHeld ?_
  refine tk (i := 4) (N := some 13) (fl 9 2 [3, 4]) HT_ HW_ hHeld ?_
  refine join_ (σ := Value × Value × Nat) 1 #[T,T,T,T,T,T,T,T,F] (fun s_ => [(11, s_.1), (14, s_.2.1), (5, .pointer (some ⟨s_.2.2, 0, none⟩)), (15, .agg #[.slice none 0 0, .int .i64 a0_1, .slice none 0 0, s_.2.1])]) (fun s_ w' => (w'.cell? ⟨gb257, 0, none⟩ = some (.slice A0_0 l0_0.length c0_0) ∧ w'.cell? ⟨gb257, 1, none⟩ = some (.int .i64 a0_1) ∧ w'.cell? ⟨gb257, 2, none⟩ = some (.slice A0_2 l0_2.length c0_2) ∧ w'.cell? ⟨gb257, 3, none⟩ = some (.slice A0_3 l0_3.length c0_3)) ∧ (Kd.R Kd.bool 4 w' w.heap.size (fun _ => True) s_.2.1 y262) ∧ (w'.heap[gb257]? = some (.cells #[.slice A0_0 l0_0.length c0_0, .int .i64 a0_1, .slice A0_2 l0_2.length c0_2, .slice A0_3 l0_3.length c0_3] 26 (0, 0))) ∧ (w'.heap[gb258]? = some (.cells #[.slice none 0 0, .int .i64 0, .slice none 0 0, .slice none 0 0] 26 (0, 0))) ∧ (w'.heap[s_.2.2]? = some (.cells #[.slice none 0 0, .int .i64 0, .slice none 0 0, .slice none 0 0] 26 (0, 0))) ∧ (w.heap.size ≤ s_.2.2) ∧ (w.heap.size ≤ s_.2.2) ∧ (gb257 ≠ s_.2.2) ∧ (s_.2.2 ≠ gb257) ∧ (gb258 ≠ s_.2.2) ∧ (s_.2.2 ≠ gb258) ∧ (Below w.heap.size w w')) ?_ ?_
  rotate_left
  ·intro hCont
   refine two_ (i := 2) (j := 7) (Ni := some 11) (Nj := some 5) #[T,T,T,T,T,F,F,F,F] (fl 9 2 [3, 4, 7]) rfl rfl rfl rfl (two_of HT_.out (by kernel_rfl)) (by decide) (by decide) (fun K hK => ?_) (fun K hK => ?_)
   ·skip
    refine Kd.R_lit_step Kd.bool _ 4 ?hg (N := 11) ?hd (xs := ([] : List Bool)) (inner := []) (ok := fun _ => True) (okp := fun _ => True) ?hr ?hp (fun _ hk => hk) trivial (Below.refl _ _) (Nat.le_refl _) (by simp) ?_; (case hd | hg => rfl); (case hr => first | (go_simp; done) | (go_simp; rfl)); (case hp => exact (Reps.none _ _))
    intro v260 w7 ho8 hb hg_ hnew_
    clear hg_ hnew_
    (first | rw [← Ny259.out] at ho8 | (simp only [Int.reduceToNat] at ho8; rw [← Ny259.out] at ho8))
    have n0_ := am (Kd.R_lower ho8 (wz (fW HB.out)))
    have n1_ := bB BK257 hb
    have n2_ := bB BK258 hb
    have n3_ := bS HB hb
    clear BK257 BK258 HB
    have HO261 := n0_
    have BK257 := n1_
    have BK258 := n2_
    have HB := n3_
    clear n0_ n1_ n2_ n3_ hb ho8
    refine hK.out _ _ ⟨(bc BK257.out 0).trans rfl, (bc BK257.out 1).trans rfl, (bc BK257.out 2).trans rfl, (bc BK257.out 3).trans rfl⟩ (fun hHeld => ?_)
    clear hK K
    refine norm_ (a' := ?_) ?_ ?_
    rotate_left
    ·show Act.put _ (some 11) _ = _
     simp only [Act.put, psl, i64_w, i32_w]
     rfl
    refine two_ (i := 5) (j := 7) (Ni := some 14) (Nj := some 5) #[T,T,T,T,T,T,F,F,F] (fl 9 5 [7]) rfl rfl rfl rfl (two_of HT_.out (by kernel_rfl)) (by decide) (by decide) (fun K hK => ?_) (fun K hK => ?_)
    ·skip
     refine Kd.R_append_rows_step Kd.bool (w0 := w) w.heap.size (by rfl) (.tmp 11) (.tmp 13) 24 4 (.bool false) 1 rfl Try.underlying24 info4 rfl (by decide) (by omega) v260 y259 l0_3 _ _ _ (fun _ => True) (fun _ => False) rfl rfl ?aO ?aR (fun _ _ h => h) (fun _ h => h.elim) ?aF ?aB ?aS ?aL ?_
     (case aR => repeat (first | exact (Kd.C_below HR0_3.out HB.out) | (with_reducible refine Kd.C_alloc ?_ _) | (with_reducible refine Kd.C_drewN ?_ _) | (with_reducible refine Kd.C_drew ?_)))
     (case aB => exact (fW HB.out))
     (case aF => exact (fun _ _ => trivial))
     (case aO => exact (fR HO261.out))
     (case aS => exact (wz (fW HB.out)))
     (case aL => have := LMc3.out; omega)
     intro v263 w9 ho hb hg hat
     rw [← Ny262.out] at ho
     have n0_ := am (blk_grown (g := gb257) (o := .cells #[.slice A0_0 l0_0.length c0_0, .int .i64 a0_1, .slice A0_2 l0_2.length c0_2, .slice A0_3 l0_3.length c0_3] 26 (0, 0)) (fb BK257.out) hg (Kd.R_ne HO261.out BK257.out (by decide)))
     have n1_ := am (blk_grown (g := gb258) (o := .cells #[.slice none 0 0, .int .i64 0, .slice none 0 0, .slice none 0 0] 26 (0, 0)) (fb BK258.out) hg (Kd.R_ne HO261.out BK258.out (by decide)))
     have n2_ := am (hb)
     have n3_ := am (ho)
     clear BK257 BK258 HB HO261
     have BK257 := n0_
     have BK258 := n1_
     have HB := n2_
     have HO264 := n3_
     clear n0_ n1_ n2_ n3_ ho hb hg hat
     obtain ⟨Ao10, co10, eo10⟩ := Kd.R_slice HO264.out
     (first | subst eo10 | (injection eo10 with f1_ f2_ f3_; have f4_ := f1_.symm; have f5_ := f3_.symm; clear f1_ f2_ f3_; subst f4_; subst f5_))
     refine hK.out _ _ ⟨(bc BK257.out 0).trans rfl, (bc BK257.out 1).trans rfl, (bc BK257.out 2).trans rfl, (bc BK257.out 3).trans rfl⟩ (fun hHeld => ?_)
     clear hK K
     refine norm_ (a' := ?_) ?_ ?_
     rotate_left
     ·show Act.put _ (some 14) _ = _
      simp only [Act.put, psl, i64_w, i32_w]
      rfl
     refine pu (i := 6) (N := some 15) (fl 9 7 []) HT_ ?_
     refine one_ (i := 7) (N := some 5) (fl 9 8 []) rfl rfl (one_of HT_.out (by kernel_rfl)) (by decide) (fun K hK => ?_)
     refine box_step ?hg (N := 5) ?hd (cs := #[.slice none 0 0, .int .i64 0, .slice none 0 0, .slice none 0 0]) (t := 26) ?hr ?_; (case hd | hg => rfl); (case hr => first | (go_simp; done) | (go_simp; rfl))
     intro gb265 hg w11 hbox hb
     have n0_ := dR HO264 hb
     have n1_ := bB BK257 hb
     have n2_ := bB BK258 hb
     have n3_ := bS HB hb
     have n4_ := am hbox
     have n5_ := sG HB hg
     have n6_ := sG HB hg
     have n7_ := nL BK257 hg
     have n8_ := nG BK257 hg
     have n9_ := nL BK258 hg
     have n10_ := nG BK258 hg
     clear HO264 BK257 BK258 HB
     have HO264 := n0_
     have BK257 := n1_
     have BK258 := n2_
     have HB := n3_
     have BK265 := n4_
     have GW265 := n5_
     have GE265 := n6_
     have NB257_265 := n7_
     have NB265_257 := n8_
     have NB258_265 := n9_
     have NB265_258 := n10_
     clear n0_ n1_ n2_ n3_ n4_ n5_ n6_ n7_ n8_ n9_ n10_ hb hbox hg
     refine hK.out _ _ ⟨(bc BK257.out 0).trans rfl, (bc BK257.out 1).trans rfl, (bc BK257.out 2).trans rfl, (bc BK257.out 3).trans rfl⟩ (fun hHeld => ?_)
     clear hK K
     refine norm_ (a' := ?_) ?_ ?_
     rotate_left
     ·show Act.put _ (some 5) _ = _
      simp only [Act.put, psl, i64_w, i32_w]
      rfl
     exact norm_ (by simp only [putAll, Act.put, psl]) (hCont (v260, .slice Ao10 y262.length co10, gb265) _ ⟨hHeld, (fR HO264.out), (fb BK257.out), (fb BK258.out), (fb BK265.out), GW265.out, GE265.out, NB257_265.out, NB265_257.out, NB258_265.out, NB265_258.out, (fW HB.out)⟩)
    skip
    refine box_step ?hg (N := 5) ?hd (cs := #[.slice none 0 0, .int .i64 0, .slice none 0 0, .slice none 0 0]) (t := 26) ?hr ?_; (case hd | hg => rfl); (case hr => first | (go_simp; done) | (go_simp; rfl))
    intro gb265 hg w9 hbox hb
    have n0_ := dR HO261 hb
    have n1_ := bB BK257 hb
    have n2_ := bB BK258 hb
    have n3_ := bS HB hb
    have n4_ := am hbox
    have n5_ := sG HB hg
    have n6_ := sG HB hg
    have n7_ := nL BK257 hg
    have n8_ := nG BK257 hg
    have n9_ := nL BK258 hg
    have n10_ := nG BK258 hg
    clear HO261 BK257 BK258 HB
    have HO261 := n0_
    have BK257 := n1_
    have BK258 := n2_
    have HB := n3_
    have BK265 := n4_
    have GW265 := n5_
    have GE265 := n6_
    have NB257_265 := n7_
    have NB265_257 := n8_
    have NB258_265 := n9_
    have NB265_258 := n10_
    clear n0_ n1_ n2_ n3_ n4_ n5_ n6_ n7_ n8_ n9_ n10_ hb hbox hg
    refine hK.out _ _ ⟨(bc BK257.out 0).trans rfl, (bc BK257.out 1).trans rfl, (bc BK257.out 2).trans rfl, (bc BK257.out 3).trans rfl⟩ (fun hHeld => ?_)
    clear hK K
    refine norm_ (a' := ?_) ?_ ?_
    rotate_left
    ·show Act.put _ (some 5) _ = _
     simp only [Act.put, psl, i64_w, i32_w]
     rfl
    refine one_ (i := 5) (N := some 14) (fl 9 6 [7]) rfl rfl (one_of HT_.out (by kernel_rfl)) (by decide) (fun K hK => ?_)
    refine Kd.R_append_rows_step Kd.bool (w0 := w) w.heap.size (by rfl) (.tmp 11) (.tmp 13) 24 4 (.bool false) 1 rfl Try.underlying24 info4 rfl (by decide) (by omega) v260 y259 l0_3 _ _ _ (fun _ => True) (fun _ => False) rfl rfl ?aO ?aR (fun _ _ h => h) (fun _ h => h.elim) ?aF ?aB ?aS ?aL ?_
    (case aR => repeat (first | exact (Kd.C_below HR0_3.out HB.out) | (with_reducible refine Kd.C_alloc ?_ _) | (with_reducible refine Kd.C_drewN ?_ _) | (with_reducible refine Kd.C_drew ?_)))
    (case aB => exact (fW HB.out))
    (case aF => exact (fun _ _ => trivial))
    (case aO => exact (fR HO261.out))
    (case aS => exact (wz (fW HB.out)))
    (case aL => have := LMc3.out; omega)
    intro v263 w10 ho hb hg hat
    rw [← Ny262.out] at ho
    have n0_ := am (blk_grown (g := gb257) (o := .cells #[.slice A0_0 l0_0.length c0_0, .int .i64 a0_1, .slice A0_2 l0_2.length c0_2, .slice A0_3 l0_3.length c0_3] 26 (0, 0)) (fb BK257.out) hg (Kd.R_ne HO261.out BK257.out (by decide)))
    have n1_ := am (blk_grown (g := gb258) (o := .cells #[.slice none 0 0, .int .i64 0, .slice none 0 0, .slice none 0 0] 26 (0, 0)) (fb BK258.out) hg (Kd.R_ne HO261.out BK258.out (by decide)))
    have n2_ := am (blk_grown (g := gb265) (o := .cells #[.slice none 0 0, .int .i64 0, .slice none 0 0, .slice none 0 0] 26 (0, 0)) (fb BK265.out) hg (Kd.R_ne HO261.out BK265.out (by decide)))
    have n3_ := am (hb)
    have n4_ := am (ho)
    clear BK257 BK258 BK265 HB HO261
    have BK257 := n0_
    have BK258 := n1_
    have BK265 := n2_
    have HB := n3_
    have HO264 := n4_
    clear n0_ n1_ n2_ n3_ n4_ ho hb hg hat
    obtain ⟨Ao11, co11, eo11⟩ := Kd.R_slice HO264.out
    (first | subst eo11 | (injection eo11 with f1_ f2_ f3_; have f4_ := f1_.symm; have f5_ := f3_.symm; clear f1_ f2_ f3_; subst f4_; subst f5_))
    refine hK.out _ _ ⟨(bc BK257.out 0).trans rfl, (bc BK257.out 1).trans rfl, (bc BK257.out 2).trans rfl, (bc BK257.out 3).trans rfl⟩ (fun hHeld => ?_)
    clear hK K
    refine norm_ (a' := ?_) ?_ ?_
    rotate_left
    ·show Act.put _ (some 14) _ = _
     simp only [Act.put, psl, i64_w, i32_w]
     rfl
    refine pu (i := 6) (N := some 15) (fl 9 8 []) HT_ ?_
    exact norm_ (by simp only [putAll, Act.put, psl]) (hCont (v260, .slice Ao11 y262.length co11, gb265) _ ⟨hHeld, (fR HO264.out), (fb BK257.out), (fb BK258.out), (fb BK265.out), GW265.out, GE265.out, NB257_265.out, NB265_257.out, NB258_265.out, NB265_258.out, (fW HB.out)⟩)
   skip
   refine box_step ?hg (N := 5) ?hd (cs := #[.slice none 0 0, .int .i64 0, .slice none 0 0, .slice none 0 0]) (t := 26) ?hr ?_; (case hd | hg => rfl); (case hr => first | (go_simp; done) | (go_simp; rfl))
   intro gb265 hg w7 hbox hb
   have n0_ := bB BK257 hb
   have n1_ := bB BK258 hb
   have n2_ := bS HB hb
   have n3_ := am hbox
   have n4_ := sG HB hg
   have n5_ := sG HB hg
   have n6_ := nL BK257 hg
   have n7_ := nG BK257 hg
   have n8_ := nL BK258 hg
   have n9_ := nG BK258 hg
   clear BK257 BK258 HB
   have BK257 := n0_
   have BK258 := n1_
   have HB := n2_
   have BK265 := n3_
   have GW265 := n4_
   have GE265 := n5_
   have NB257_265 := n6_
   have NB265_257 := n7_
   have NB258_265 := n8_
   have NB265_258 := n9_
   clear n0_ n1_ n2_ n3_ n4_ n5_ n6_ n7_ n8_ n9_ hb hbox hg
   refine hK.out _ _ ⟨(bc BK257.out 0).trans rfl, (bc BK257.out 1).trans rfl, (bc BK257.out 2).trans rfl, (bc BK257.out 3).trans rfl⟩ (fun hHeld => ?_)
   clear hK K
   refine norm_ (a' := ?_) ?_ ?_
   rotate_left
   ·show Act.put _ (some 5) _ = _
    simp only [Act.put, psl, i64_w, i32_w]
    rfl
   refine one_ (i := 2) (N := some 11) (fl 9 5 [7]) rfl rfl (one_of HT_.out (by kernel_rfl)) (by decide) (fun K hK => ?_)
   refine Kd.R_lit_step Kd.bool _ 4 ?hg (N := 11) ?hd (xs := ([] : List Bool)) (inner := []) (ok := fun _ => True) (okp := fun _ => True) ?hr ?hp (fun _ hk => hk) trivial (Below.refl _ _) (Nat.le_refl _) (by simp) ?_; (case hd | hg => rfl); (case hr => first | (go_simp; done) | (go_simp; rfl)); (case hp => exact (Reps.none _ _))
   intro v260 w8 ho9 hb hg_ hnew_
   clear hg_ hnew_
   (first | rw [← Ny259.out] at ho9 | (simp only [Int.reduceToNat] at ho9; rw [← Ny259.out] at ho9))
   have n0_ := am (Kd.R_lower ho9 (wz (fW HB.out)))
   have n1_ := bB BK257 hb
   have n2_ := bB BK258 hb
   have n3_ := bB BK265 hb
   have n4_ := bS HB hb
   clear BK257 BK258 BK265 HB
   have HO261 := n0_
   have BK257 := n1_
   have BK258 := n2_
   have BK265 := n3_
   have HB := n4_
   clear n0_ n1_ n2_ n3_ n4_ hb ho9
   refine hK.out _ _ ⟨(bc BK257.out 0).trans rfl, (bc BK257.out 1).trans rfl, (bc BK257.out 2).trans rfl, (bc BK257.out 3).trans rfl⟩ (fun hHeld => ?_)
   clear hK K
   refine norm_ (a' := ?_) ?_ ?_
   rotate_left
   ·show Act.put _ (some 11) _ = _
    simp only [Act.put, psl, i64_w, i32_w]
    rfl
   refine one_ (i := 5) (N := some 14) (fl 9 6 [7]) rfl rfl (one_of HT_.out (by kernel_rfl)) (by decide) (fun K hK => ?_)
   refine Kd.R_append_rows_step Kd.bool (w0 := w) w.heap.size (by rfl) (.tmp 11) (.tmp 13) 24 4 (.bool false) 1 rfl Try.underlying24 info4 rfl (by decide) (by omega) v260 y259 l0_3 _ _ _ (fun _ => True) (fun _ => False) rfl rfl ?aO ?aR (fun _ _ h => h) (fun _ h => h.elim) ?aF ?aB ?aS ?aL ?_
   (case aR => repeat (first | exact (Kd.C_below HR0_3.out HB.out) | (with_reducible refine Kd.C_alloc ?_ _) | (with_reducible refine Kd.C_drewN ?_ _) | (with_reducible refine Kd.C_drew ?_)))
   (case aB => exact (fW HB.out))
   (case aF => exact (fun _ _ => trivial))
   (case aO => exact (fR HO261.out))
   (case aS => exact (wz (fW HB.out)))
   (case aL => have := LMc3.out; omega)
   intro v263 w10 ho hb hg hat
   rw [← Ny262.out] at ho
   have n0_ := am (blk_grown (g := gb257) (o := .cells #[.slice A0_0 l0_0.length c0_0, .int .i64 a0_1, .slice A0_2 l0_2.length c0_2, .slice A0_3 l0_3.length c0_3] 26 (0, 0)) (fb BK257.out) hg (Kd.R_ne HO261.out BK257.out (by decide)))
   have n1_ := am (blk_grown (g := gb258) (o := .cells #[.slice none 0 0, .int .i64 0, .slice none 0 0, .slice none 0 0] 26 (0, 0)) (fb BK258.out) hg (Kd.R_ne HO261.out BK258.out (by decide)))
   have n2_ := am (blk_grown (g := gb265) (o := .cells #[.slice none 0 0, .int .i64 0, .slice none 0 0, .slice none 0 0] 26 (0, 0)) (fb BK265.out) hg (Kd.R_ne HO261.out BK265.out (by decide)))
   have n3_ := am (hb)
   have n4_ := am (ho)
   clear BK257 BK258 BK265 HB HO261
   have BK257 := n0_
   have BK258 := n1_
   have BK265 := n2_
   have HB := n3_
   have HO264 := n4_
   clear n0_ n1_ n2_ n3_ n4_ ho hb hg hat
   obtain ⟨Ao11, co11, eo11⟩ := Kd.R_slice HO264.out
   (first | subst eo11 | (injection eo11 with f1_ f2_ f3_; have f4_ := f1_.symm; have f5_ := f3_.symm; clear f1_ f2_ f3_; subst f4_; subst f5_))
   refine hK.out _ _ ⟨(bc BK257.out 0).trans rfl, (bc BK257.out 1).trans rfl, (bc BK257.out 2).trans rfl, (bc BK257.out 3).trans rfl⟩ (fun hHeld => ?_)
   clear hK K
   refine norm_ (a' := ?_) ?_ ?_
   rotate_left
   ·show Act.put _ (some 14) _ = _
    simp only [Act.put, psl, i64_w, i32_w]
    rfl
   refine pu (i := 6) (N := some 15) (fl 9 8 []) HT_ ?_
   exact norm_ (by simp only [putAll, Act.put, psl]) (hCont (v260, .slice Ao11 y262.length co11, gb265) _ ⟨hHeld, (fR HO264.out), (fb BK257.out), (fb BK258.out), (fb BK265.out), GW265.out, GE265.out, NB257_265.out, NB265_257.out, NB258_265.out, NB265_258.out, (fW HB.out)⟩)
  rintro ⟨v260, v263, gb265⟩ w12 ⟨hS_, h0_, h1_, h2_, h3_, h4_, h5_, h6_, h7_, h8_, h9_, h10_⟩
  have n0_ : Aside0 (Kd.R Kd.bool 4 w12 w.heap.size (fun _ => True) v263 y262) := ⟨h0_⟩
  have n1_ : Aside0 (w12.heap[gb257]? = some (.cells #[.slice A0_0 l0_0.length c0_0, .int .i64 a0_1, .slice A0_2 l0_2.length c0_2, .slice A0_3 l0_3.length c0_3] 26 (0, 0))) := ⟨h1_⟩
  have n2_ : Aside0 (w12.heap[gb258]? = some (.cells #[.slice none 0 0, .int .i64 0, .slice none 0 0, .slice none 0 0] 26 (0, 0))) := ⟨h2_⟩
  have n3_ : Aside0 (w12.heap[gb265]? = some (.cells #[.slice none 0 0, .int .i64 0, .slice none 0 0, .slice none 0 0] 26 (0, 0))) := ⟨h3_⟩
  have n4_ : Aside0 (w.heap.size ≤ gb265) := ⟨h4_⟩
  have n5_ : Aside0 (w.heap.size ≤ gb265) := ⟨h5_⟩
  have n6_ : Aside0 (gb257 ≠ gb265) := ⟨h6_⟩
  have n7_ : Aside0 (gb265 ≠ gb257) := ⟨h7_⟩
  have n8_ : Aside0 (gb258 ≠ gb265) := ⟨h8_⟩
  have n9_ : Aside0 (gb265 ≠ gb258) := ⟨h9_⟩
  have n10_ : Aside0 (Below w.heap.size w w12) := ⟨h10_⟩
  clear BK257 BK258 HB h0_ h1_ h2_ h3_ h4_ h5_ h6_ h7_ h8_ h9_ h10_
  have HO264 := n0_
  have BK257 := n1_
  have BK258 := n2_
  have BK265 := n3_
  have GW265 := n4_
  have GE265 := n5_
  have NB257_265 := n6_
  have NB265_257 := n7_
  have NB258_265 := n8_
  have NB265_258 := n9_
  have HB := n10_
  clear n0_ n1_ n2_ n3_ n4_ n5_ n6_ n7_ n8_ n9_ n10_
  have hHeld : w12.cell? ⟨gb257, 0, none⟩ = some (.slice A0_0 l0_0.length c0_0) ∧ w12.cell? ⟨gb257, 1, none⟩ = some (.int .i64 a0_1) ∧ w12.cell? ⟨gb257, 2, none⟩ = some (.slice A0_2 l0_2.length c0_2) ∧ w12.cell? ⟨gb257, 3, none⟩ = some (.slice A0_3 l0_3.length c0_3) := hS_
  obtain ⟨Ao13, co13, eo13⟩ := Kd.R_slice HO264.out
  (first | subst eo13 | (injection eo13 with f1_ f2_ f3_; have f4_ := f1_.symm; have f5_ := f3_.symm; clear f1_ f2_ f3_; subst f4_; subst f5_))
  refine norm_ (a' := ?_) ?_ ?_
  rotate_left
  ·simp only [putAll, Act.put, psl]
   rfl
  refine one_ (i := 8) (N := none) (fl 9 9 []) rfl rfl (one_of HT_.out (by kernel_rfl)) (by decide) (fun K hK => ?_)
  have hs14 : w12.cell? ⟨gb265, 0, none⟩ = some (.slice none 0 0) := (bc BK265.out 0).trans rfl
  have hfs14 := bf BK265.out 0
  have hns14_0 := NB257_265.out
  have hns14_1 := NB258_265.out
  have hms14_0 := NB265_257.out
  have hms14_1 := NB265_258.out
  have hs15 : w12.cell? ⟨gb265, 1, none⟩ = some (.int .i64 0) := (bc BK265.out 1).trans rfl
  have hfs15 := bf BK265.out 1
  have hns15_0 := NB257_265.out
  have hns15_1 := NB258_265.out
  have hms15_0 := NB265_257.out
  have hms15_1 := NB265_258.out
  have hs16 : w12.cell? ⟨gb265, 2, none⟩ = some (.slice none 0 0) := (bc BK265.out 2).trans rfl
  have hfs16 := bf BK265.out 2
  have hns16_0 := NB257_265.out
  have hns16_1 := NB258_265.out
  have hms16_0 := NB265_257.out
  have hms16_1 := NB265_258.out
  have hs17 : w12.cell? ⟨gb265, 3, none⟩ = some (.slice none 0 0) := (bc BK265.out 3).trans rfl
  have hfs17 := bf BK265.out 3
  have hns17_0 := NB257_265.out
  have hns17_1 := NB258_265.out
  have hms17_0 := NB265_257.out
  have hms17_1 := NB265_258.out
  refine skip_ (w1 := ?_) (by rfl) rfl ?_ ?_
  rotate_left
  ·go_simp
   rfl
  refine hK.out _ _ ⟨((cf (p := ⟨gb265, _, none⟩) NB257_265.out _).trans (((cf (p := ⟨gb265, _, none⟩) NB257_265.out _).trans (((cf (p := ⟨gb265, _, none⟩) NB257_265.out _).trans (((cf (p := ⟨gb265, _, none⟩) NB257_265.out _).trans (hHeld.1)))))))), ((cf (p := ⟨gb265, _, none⟩) NB257_265.out _).trans (((cf (p := ⟨gb265, _, none⟩) NB257_265.out _).trans (((cf (p := ⟨gb265, _, none⟩) NB257_265.out _).trans (((cf (p := ⟨gb265, _, none⟩) NB257_265.out _).trans (hHeld.2.1)))))))), ((cf (p := ⟨gb265, _, none⟩) NB257_265.out _).trans (((cf (p := ⟨gb265, _, none⟩) NB257_265.out _).trans (((cf (p := ⟨gb265, _, none⟩) NB257_265.out _).trans (((cf (p := ⟨gb265, _, none⟩) NB257_265.out _).trans (hHeld.2.2.1)))))))), ((cf (p := ⟨gb265, _, none⟩) NB257_265.out _).trans (((cf (p := ⟨gb265, _, none⟩) NB257_265.out _).trans (((cf (p := ⟨gb265, _, none⟩) NB257_265.out _).trans (((cf (p := ⟨gb265, _, none⟩) NB257_265.out _).trans (hHeld.2.2.2))))))))⟩ (fun hHeld => ?_)
  clear hK K
  refine done_ (done_of HT_.out (by kernel_rfl)) ?_
  try go_wp2
  go_loopg [6] k (fun kq v6 w' => ∃ (x6_1 : Int) (x266000_1 : List (List Int)) (x266002_1 : List Int) (u266000 : Value) (u266002 : Value), v6 = .int .i64 x6_1 ∧ Aside0 (r_Break.l0 kq a1 x6_1 l0_0 a0_1 l0_2 l0_3 x266000_1 a0_1 x266002_1 y262 = some (r1, r2, r3, r4)) ∧ Aside0 (kq ≤ k) ∧ Aside0 (Kd.S (Kd.slice 3 (Kd.int .i64)) 23 w' w.heap.size (fun k_ => some k_ ≠ (u266002 : Value).ownBlock) u266000 x266000_1) ∧ Aside0 (Kd.R (Kd.int .i64) 3 w' w.heap.size (fun _ => True) u266002 x266002_1) ∧ Aside0 (Kd.R Kd.bool 4 w' w.heap.size (fun _ => True) (.slice Ao13 y262.length co13) y262) ∧ Aside0 (w'.heap[gb257]? = some (.cells #[(.slice A0_0 l0_0.length c0_0), .int .i64 a0_1, (.slice A0_2 l0_2.length c0_2), (.slice A0_3 l0_3.length c0_3)] 26 (0, 0))) ∧ Aside0 (w'.heap[gb258]? = some (.cells #[(.slice none 0 0), .int .i64 0, (.slice none 0 0), (.slice none 0 0)] 26 (0, 0))) ∧ Aside0 (w'.heap[gb265]? = some (.cells #[u266000, .int .i64 a0_1, u266002, (.slice Ao13 y262.length co13)] 26 (0, 0))) ∧ Aside0 (Below w.heap.size w w'))
  case atStart => exact ⟨(0), (([] : List (List Int))), (([] : List Int)), (.slice none 0 0), (.slice none 0 0), sqD, H', ⟨Nat.le_refl _⟩, ⟨by first | exact Kd.S_nil _ _ _ _ _ | exact Kd.N_nil _ _ _ _ _ | exact Kd.V_nil _ _ _ _ _ | exact Kd.Q_nil _ _ _ _ _ | exact Kd.R_nil _ _ _ _ _⟩, ⟨by first | exact Kd.R_nil _ _ _ _ _ | exact Kd.N_nil _ _ _ _ _ | exact Kd.V_nil _ _ _ _ _ | exact Kd.Q_nil _ _ _ _ _ | exact Kd.S_nil _ _ _ _ _⟩, ⟨by (with_reducible repeat (first | apply Kd.R_alloc | apply Kd.R_drewN | apply Kd.R_drew)); exact Kd.R_mono (Kd.R_far (p := ⟨gb265, 3, none⟩) (Kd.R_far (p := ⟨gb265, 2, none⟩) (Kd.R_far (p := ⟨gb265, 1, none⟩) (Kd.R_far (p := ⟨gb265, 0, none⟩) (Kd.R_types HO264.out BK265.out (by decide)) (fun _ hk => hk.2) (.slice none 0 0)) (fun _ hk => hk.2) (.int .i64 a0_1)) (fun _ hk => hk.2) (.slice none 0 0)) (fun _ hk => hk.2) (.slice Ao13 y262.length co13)) (fun _ hk => trivial)⟩, ⟨by (with_reducible repeat first | apply bN | apply bd | apply ba); refine bF ?_ NB257_265.out _; (with_reducible repeat first | apply bN | apply bd | apply ba); refine bF ?_ NB257_265.out _; (with_reducible repeat first | apply bN | apply bd | apply ba); refine bF ?_ NB257_265.out _; (with_reducible repeat first | apply bN | apply bd | apply ba); refine bF ?_ NB257_265.out _; (with_reducible repeat first | apply bN | apply bd | apply ba); exact BK257.out⟩, ⟨by (with_reducible repeat first | apply bN | apply bd | apply ba); refine bF ?_ NB258_265.out _; (with_reducible repeat first | apply bN | apply bd | apply ba); refine bF ?_ NB258_265.out _; (with_reducible repeat first | apply bN | apply bd | apply ba); refine bF ?_ NB258_265.out _; (with_reducible repeat first | apply bN | apply bd | apply ba); refine bF ?_ NB258_265.out _; (with_reducible repeat first | apply bN | apply bd | apply ba); exact BK258.out⟩, ⟨by (with_reducible repeat first | apply bN | apply bd | apply ba); refine blk_put (cs := #[.slice none 0 0, .int .i64 a0_1, .slice none 0 0, .slice none 0 0]) ?_ 3 _ rfl; (with_reducible repeat first | apply bN | apply bd | apply ba); refine blk_put (cs := #[.slice none 0 0, .int .i64 a0_1, .slice none 0 0, .slice none 0 0]) ?_ 2 _ rfl; (with_reducible repeat first | apply bN | apply bd | apply ba); refine blk_put (cs := #[.slice none 0 0, .int .i64 0, .slice none 0 0, .slice none 0 0]) ?_ 1 _ rfl; (with_reducible repeat first | apply bN | apply bd | apply ba); refine blk_put (cs := #[.slice none 0 0, .int .i64 0, .slice none 0 0, .slice none 0 0]) ?_ 0 _ rfl; (with_reducible repeat first | apply bN | apply bd | apply ba); exact BK265.out⟩, ⟨fW HB.out⟩⟩
  case round =>
   clear H'
   try clear p2;try clear c3
   obtain ⟨x6_1, x266000_1, x266002_1, u266000, u266002, rfl, HA, HK1, HO_266000, HO_266002, HO_266003, BK257, BK258, BK265, HB⟩ := hrel
   cases gk with
   | zero => exact absurd HA.out (by simp [r_Break.l0])
   | succ k1 =>
    have H := HA.out
    clear HA
    simp only [r_Break.l0] at H
    by_cases c18 : x6_1 < (l0_0.length : Int)
    rotate_left
    ·rw [if_neg c18] at H
     have c18b0 : decide (x6_1 < (l0_0.length : Int)) = false := decide_eq_false c18
     clear c18
     simp only [Option.some.injEq, Prod.mk.injEq] at H
     obtain ⟨rfl, rfl, rfl, rfl⟩ := H
     have hnb70 := NB257_258.out
     have hnc70 := NB258_257.out
     have hnb71 := NB257_265.out
     have hnc71 := NB265_257.out
     have := yC1 BK257
     have := kC1 BK257
     have := kC2 BK257
     have := kC3 BK257
     have := bf BK257.out 0
     have := bf BK257.out 1
     have := bf BK257.out 2
     have := bf BK257.out 3
     have hnb73 := NB265_258.out
     have hnc73 := NB258_265.out
     have := yC1 BK265
     have := kC1 BK265
     have := kC2 BK265
     have := kC3 BK265
     have := bf BK265.out 0
     have := bf BK265.out 1
     have := bf BK265.out 2
     have := bf BK265.out 3
     obtain ⟨Ao75, co75, eo75⟩ := Kd.S_slice HO_266000.out
     subst eo75
     have := yC1 BK258
     have := kC1 BK258
     have := kC2 BK258
     have := kC3 BK258
     have := bf BK258.out 0
     have := bf BK258.out 1
     have := bf BK258.out 2
     have := bf BK258.out 3
     obtain ⟨Ao77, co77, eo77⟩ := Kd.R_slice HO_266002.out
     subst eo77
     go_wp2
     refine bodyPost_ret (results_cell_row rfl _ _ gb258 26 #[.slice Ao75 x266000_1.length co75, .int .i64 a0_1, .slice Ao77 x266002_1.length co77, .slice Ao13 y262.length co13] (0, 0) _ rfl (kkC BK258.out) Try.underlying26 rfl (by kernel_rfl)) rfl ?_
     exact ⟨_, _, _, sqE, by (with_reducible repeat (first | apply Kd.S_alloc | apply Kd.S_drewN | apply Kd.S_drew)); exact Kd.S_mono (Kd.S_far (p := ⟨gb258, 3, none⟩) (Kd.S_far (p := ⟨gb258, 2, none⟩) (Kd.S_far (p := ⟨gb258, 1, none⟩) (Kd.S_far (p := ⟨gb258, 0, none⟩) (Kd.S_types HO_266000.out BK258.out (by decide)) (fun _ hk => hk.2) (.slice Ao75 x266000_1.length co75)) (fun _ hk => hk.2) (.int .i64 a0_1)) (fun _ hk => hk.2) (.slice Ao77 x266002_1.length co77)) (fun _ hk => hk.2) (.slice Ao13 y262.length co13)) (fun _ hk => hk.1), by (with_reducible repeat (first | apply Kd.R_alloc | apply Kd.R_drewN | apply Kd.R_drew)); exact Kd.R_mono (Kd.R_far (p := ⟨gb258, 3, none⟩) (Kd.R_far (p := ⟨gb258, 2, none⟩) (Kd.R_far (p := ⟨gb258, 1, none⟩) (Kd.R_far (p := ⟨gb258, 0, none⟩) (Kd.R_types HO_266002.out BK258.out (by decide)) (fun _ hk => hk.2) (.slice Ao75 x266000_1.length co75)) (fun _ hk => hk.2) (.int .i64 a0_1)) (fun _ hk => hk.2) (.slice Ao77 x266002_1.length co77)) (fun _ hk => hk.2) (.slice Ao13 y262.length co13)) (fun _ hk => trivial), by (with_reducible repeat (first | apply Kd.R_alloc | apply Kd.R_drewN | apply Kd.R_drew)); exact Kd.R_mono (Kd.R_far (p := ⟨gb258, 3, none⟩) (Kd.R_far (p := ⟨gb258, 2, none⟩) (Kd.R_far (p := ⟨gb258, 1, none⟩) (Kd.R_far (p := ⟨gb258, 0, none⟩) (Kd.R_types HO_266003.out BK258.out (by decide)) (fun _ hk => hk.2) (.slice Ao75 x266000_1.length co75)) (fun _ hk => hk.2) (.int .i64 a0_1)) (fun _ hk => hk.2) (.slice Ao77 x266002_1.length co77)) (fun _ hk => hk.2) (.slice Ao13 y262.length co13)) (fun _ hk => trivial), fW HB.out⟩
    rw [if_pos c18] at H
    have c18b0 : decide (x6_1 < (l0_0.length : Int)) = true := decide_eq_true c18
    clear c18
    obtain ⟨y266, hy266⟩ : ∃ y_ : List Int, y_ = (([] : List Int)) := ⟨_, rfl⟩
    replace H : (r_Break.l1 k1 a1 x6_1 y266 0 l0_0 a0_1 l0_2 l0_3 x266000_1 a0_1 x266002_1 y262) = some (r1, r2, r3, r4) := by first | (rw [hy266]; with_reducible exact H) | (have H2_ := (Option.bind_some _ _).symm.trans H; rw [hy266]; with_reducible exact H2_) | (have H2_ := (Option.bind_some _ _).symm.trans H; with_reducible exact H2_) | with_reducible exact H | (rw [hy266]; exact H) | exact H
    have Ny266 := am hy266
    clear hy266
    have H' := am H
    clear H
    have hnb19 := NB257_258.out
    have hnc19 := NB258_257.out
    have hnb20 := NB257_265.out
    have hnc20 := NB265_257.out
    have := yC1 BK257
    have := kC1 BK257
    have := kC2 BK257
    have := kC3 BK257
    have := bf BK257.out 0
    have := bf BK257.out 1
    have := bf BK257.out 2
    have := bf BK257.out 3
    go_wp2_with (first | ((with_reducible refine gate_dst (N := 23) rfl ?_); refine Kd.R_lit (Kd.int .i64) _ 3 ?hg (N := 23) ?hd (xs := ([] : List Int)) (inner := []) (ok := fun _ => True) (okp := fun _ => True) ?hr ?hp (fun _ hk => hk) trivial (Below.refl _ _) (Nat.le_refl _) (by simp) ?_; (case hd | hg => rfl); (case hr => first | (go_simp; done) | (go_simp; rfl)); (case hp => exact (Reps.none _ _)); intro v267 w22 ho23 hb hg_ hnew_; clear hg_ hnew_; (first | rw [← Ny266.out] at ho23 | (simp only [Int.reduceToNat] at ho23; rw [← Ny266.out] at ho23)); replace HO_266000 := am (Kd.S_elder' (by (with_reducible repeat (first | apply Kd.S_alloc | apply Kd.S_drewN | apply Kd.S_drew)); exact HO_266000.out) (Kd.R_base ho23) hb); replace HO_266003 := dR HO_266003 hb; have HO268 := am (Kd.R_lower (Kd.R_new' ho23 (Kd.R_lt (fR HO_266002.out))) (wz (fW HB.out))); replace HO_266002 := am (Kd.R_elder' (fR HO_266002.out) (Kd.R_base ho23) hb); replace BK257 := bB BK257 hb; replace BK258 := bB BK258 hb; replace BK265 := bB BK265 hb; replace HB := bS HB hb; clear hb ho23))
    go_loopg [7, 8] k1 (fun kq v7 v8 w' => ∃ (x7_2 : List Int) (x8_2 : Int), v8 = .int .i64 x8_2 ∧ Aside0 (r_Break.l1 kq a1 x6_1 x7_2 x8_2 l0_0 a0_1 l0_2 l0_3 x266000_1 a0_1 x266002_1 y262 = some (r1, r2, r3, r4)) ∧ Aside0 (kq ≤ k1) ∧ Aside0 (Kd.R (Kd.int .i64) 3 w' w.heap.size (fun k_ => some k_ ≠ (u266002 : Value).ownBlock) v7 x7_2) ∧ Aside0 (Kd.S (Kd.slice 3 (Kd.int .i64)) 23 w' w.heap.size (fun k_ => some k_ ≠ (v7 : Value).ownBlock ∧ some k_ ≠ (u266002 : Value).ownBlock) u266000 x266000_1) ∧ Aside0 (Kd.R (Kd.int .i64) 3 w' w.heap.size (fun k_ => some k_ ≠ (v7 : Value).ownBlock) u266002 x266002_1) ∧ Aside0 (Kd.R Kd.bool 4 w' w.heap.size (fun _ => True) (.slice Ao13 y262.length co13) y262) ∧ Aside0 (w'.heap[gb257]? = some (.cells #[(.slice A0_0 l0_0.length c0_0), .int .i64 a0_1, (.slice A0_2 l0_2.length c0_2), (.slice A0_3 l0_3.length c0_3)] 26 (0, 0))) ∧ Aside0 (w'.heap[gb258]? = some (.cells #[(.slice none 0 0), .int .i64 0, (.slice none 0 0), (.slice none 0 0)] 26 (0, 0))) ∧ Aside0 (w'.heap[gb265]? = some (.cells #[u266000, .int .i64 a0_1, u266002, (.slice Ao13 y262.length co13)] 26 (0, 0))) ∧ Aside0 (Below w.heap.size w w'))
    case atStart => exact ⟨(y266), (0), sqD, H', ⟨Nat.le_refl _⟩, ⟨by (with_reducible repeat (first | apply Kd.R_alloc | apply Kd.R_drewN | apply Kd.R_drew)); exact Kd.R_mono HO268.out (fun _ hk => hk.2)⟩, ⟨by (with_reducible repeat (first | apply Kd.S_alloc | apply Kd.S_drewN | apply Kd.S_drew)); exact Kd.S_mono HO_266000.out (fun _ hk => ⟨hk.2, hk.1⟩)⟩, ⟨by (with_reducible repeat (first | apply Kd.R_alloc | apply Kd.R_drewN | apply Kd.R_drew)); exact Kd.R_mono HO_266002.out (fun _ hk => hk.2)⟩, ⟨fR HO_266003.out⟩, ⟨fb BK257.out⟩, ⟨fb BK258.out⟩, ⟨fb BK265.out⟩, ⟨fW HB.out⟩⟩
    case round =>
     clear H'
     try clear c1;try clear c2;try clear p2;try clear c3;try clear c18;try clear c18b0;try clear c19;try clear c20;try clear p2
     obtain ⟨x7_2, x8_2, rfl, HA, HK2, HO_7, HO_266000, HO_266002, HO_266003, BK257, BK258, BK265, HB⟩ := hrel
     cases gk with
     | zero => exact absurd HA.out (by simp [r_Break.l1])
     | succ k2 =>
      have H := HA.out
      clear HA
      simp only [r_Break.l1] at H
      by_cases c24 : 0 ≤ x6_1
      rotate_left
      ·rw [if_neg c24] at H
       exact absurd H (by simp)
      rw [if_pos c24] at H
      have c24b0 : decide (0 ≤ x6_1) = true := decide_eq_true c24
      clear c24
      by_cases c25 : x6_1 < (l0_0.length : Int)
      rotate_left
      ·rw [if_neg c25] at H
       exact absurd H (by simp)
      rw [if_pos c25] at H
      have c25b0 : decide (x6_1 < (l0_0.length : Int)) = true := decide_eq_true c25
      clear c25
      by_cases c26 : x8_2 < ((rd_L1 l0_0 x6_1).length : Int)
      ·rw [if_pos c26] at H
       have c26b0 : decide (x8_2 < ((rd_L1 l0_0 x6_1).length : Int)) = true := decide_eq_true c26
       clear c26
       by_cases c27 : 0 ≤ x8_2
       rotate_left
       ·rw [if_neg c27] at H
        exact absurd H (by simp)
       rw [if_pos c27] at H
       have c27b0 : decide (0 ≤ x8_2) = true := decide_eq_true c27
       clear c27
       by_cases c28 : (rd (rd_L1 l0_0 x6_1) x8_2) = a1
       ·rw [if_pos c28] at H
        have c28b0 : ((rd (rd_L1 l0_0 x6_1) x8_2) == a1) = true := beq_iff_eq.mpr c28
        have c28b1 : ((rd (rd_L1 l0_0 x6_1) x8_2) != a1) = false := bne_eq_false_iff_eq.mpr c28
        clear c28
        have H' := am H
        clear H
        have hnb29 := NB257_258.out
        have hnc29 := NB258_257.out
        have hnb30 := NB257_265.out
        have hnc30 := NB265_257.out
        have := yC1 BK257
        have := kC1 BK257
        have := kC2 BK257
        have := kC3 BK257
        have := bf BK257.out 0
        have := bf BK257.out 1
        have := bf BK257.out 2
        have := bf BK257.out 3
        have p269 : 0 ≤ (x6_1 : Int) := of_decide_eq_true (by assumption)
        have q269 : x6_1 < (l0_0.length : Int) := of_decide_eq_true (by assumption)
        obtain ⟨ad269, A269_0, c269_0, e269, hx269_0, hl269_0, hi269_0⟩ := at_L1 HR0_0.out x6_1 p269 q269
        cases e269
        replace hx269_0 := cl HB hx269_0
        have HR269_0 := am hi269_0
        have HC269_0 := am hl269_0
        clear hi269_0 hl269_0
        replace p269 := eq_true p269
        replace q269 := eq_true q269
        have p270 : 0 ≤ (x6_1 : Int) := of_decide_eq_true (by assumption)
        have q270 : x6_1 < (l0_0.length : Int) := of_decide_eq_true (by assumption)
        obtain ⟨ad270, A270_0, c270_0, e270, hx270_0, hl270_0, hi270_0⟩ := at_L1 HR0_0.out x6_1 p270 q270
        obtain rfl : ad269 = ad270 := (by injection e270)
        replace hx270_0 := cl HB hx270_0
        have HR270_0 := am hi270_0
        have HC270_0 := am hl270_0
        clear hi270_0 hl270_0
        replace p270 := eq_true p270
        replace q270 := eq_true q270
        have ea_ := Option.some.inj (hx269_0.symm.trans hx270_0)
        injection ea_ with ea_ en_ ec_
        subst ea_
        subst ec_
        clear en_
        have p271 : 0 ≤ (x8_2 : Int) := of_decide_eq_true (by assumption)
        have q271 : x8_2 < ((rd_L1 l0_0 x6_1).length : Int) := of_decide_eq_true (by assumption)
        obtain ⟨ad271, e271, hx271_0⟩ := Kd.at_int HR270_0.out x8_2 p271 q271
        cases e271
        replace hx271_0 := cl HB hx271_0
        replace p271 := eq_true p271
        replace q271 := eq_true q271
        go_wp2
        go_roundg k2
        case measure => have := HK1.out; have := HK2.out; omega
        case rel => exact ⟨(x7_2), (wrap64 (x8_2 + 1)), sqD, H', ⟨by have := HK1.out; have := HK2.out; omega⟩, ⟨fR HO_7.out⟩, ⟨by (with_reducible repeat (first | apply Kd.S_alloc | apply Kd.S_drewN | apply Kd.S_drew)); exact HO_266000.out⟩, ⟨fR HO_266002.out⟩, ⟨fR HO_266003.out⟩, ⟨fb BK257.out⟩, ⟨fb BK258.out⟩, ⟨fb BK265.out⟩, ⟨fW HB.out⟩⟩
       rw [if_neg c28] at H
       have c28b0 : ((rd (rd_L1 l0_0 x6_1) x8_2) == a1) = false := beq_eq_false_iff_ne.mpr c28
       have c28b1 : ((rd (rd_L1 l0_0 x6_1) x8_2) != a1) = true := bne_iff_ne.mpr c28
       by_cases c32 : x7_2.length < 17592186044416
       rotate_left
       ·rw [if_neg c32] at H
        exact absurd H (by simp)
       rw [if_pos c32] at H
       have LMc32 := am c32
       clear c32
       obtain ⟨y274, hy274⟩ : ∃ y_ : List Int, y_ = (x7_2 ++ [rd (rd_L1 l0_0 x6_1) x8_2]) := ⟨_, rfl⟩
       replace H : (r_Break.l1 k2 a1 x6_1 y274 (wrap64 (x8_2 + 1)) l0_0 a0_1 l0_2 l0_3 x266000_1 a0_1 x266002_1 y262) = some (r1, r2, r3, r4) := by first | (rw [hy274]; with_reducible exact H) | (have H2_ := (Option.bind_some _ _).symm.trans H; rw [hy274]; with_reducible exact H2_) | (have H2_ := (Option.bind_some _ _).symm.trans H; with_reducible exact H2_) | with_reducible exact H | (rw [hy274]; exact H) | exact H
       have Ny274 := am hy274
       clear hy274
       have H' := am H
       clear H
       have hnb33 := NB257_258.out
       have hnc33 := NB258_257.out
       have hnb34 := NB257_265.out
       have hnc34 := NB265_257.out
       have := yC1 BK257
       have := kC1 BK257
       have := kC2 BK257
       have := kC3 BK257
       have := bf BK257.out 0
       have := bf BK257.out 1
       have := bf BK257.out 2
       have := bf BK257.out 3
       have p269 : 0 ≤ (x6_1 : Int) := of_decide_eq_true (by assumption)
       have q269 : x6_1 < (l0_0.length : Int) := of_decide_eq_true (by assumption)
       obtain ⟨ad269, A269_0, c269_0, e269, hx269_0, hl269_0, hi269_0⟩ := at_L1 HR0_0.out x6_1 p269 q269
       cases e269
       replace hx269_0 := cl HB hx269_0
       have HR269_0 := am hi269_0
       have HC269_0 := am hl269_0
       clear hi269_0 hl269_0
       replace p269 := eq_true p269
       replace q269 := eq_true q269
       have p270 : 0 ≤ (x6_1 : Int) := of_decide_eq_true (by assumption)
       have q270 : x6_1 < (l0_0.length : Int) := of_decide_eq_true (by assumption)
       obtain ⟨ad270, A270_0, c270_0, e270, hx270_0, hl270_0, hi270_0⟩ := at_L1 HR0_0.out x6_1 p270 q270
       obtain rfl : ad269 = ad270 := (by injection e270)
       replace hx270_0 := cl HB hx270_0
       have HR270_0 := am hi270_0
       have HC270_0 := am hl270_0
       clear hi270_0 hl270_0
       replace p270 := eq_true p270
       replace q270 := eq_true q270
       have ea_ := Option.some.inj (hx269_0.symm.trans hx270_0)
       injection ea_ with ea_ en_ ec_
       subst ea_
       subst ec_
       clear en_
       have p271 : 0 ≤ (x8_2 : Int) := of_decide_eq_true (by assumption)
       have q271 : x8_2 < ((rd_L1 l0_0 x6_1).length : Int) := of_decide_eq_true (by assumption)
       obtain ⟨ad271, e271, hx271_0⟩ := Kd.at_int HR270_0.out x8_2 p271 q271
       cases e271
       replace hx271_0 := cl HB hx271_0
       replace p271 := eq_true p271
       replace q271 := eq_true q271
       have p272 : 0 ≤ (x6_1 : Int) := of_decide_eq_true (by assumption)
       have q272 : x6_1 < (l0_0.length : Int) := of_decide_eq_true (by assumption)
       obtain ⟨ad272, A272_0, c272_0, e272, hx272_0, hl272_0, hi272_0⟩ := at_L1 HR0_0.out x6_1 p272 q272
       obtain rfl : ad269 = ad272 := (by injection e272)
       replace hx272_0 := cl HB hx272_0
       have HR272_0 := am hi272_0
       have HC272_0 := am hl272_0
       clear hi272_0 hl272_0
       replace p272 := eq_true p272
       replace q272 := eq_true q272
       have ea_ := Option.some.inj (hx269_0.symm.trans hx272_0)
       injection ea_ with ea_ en_ ec_
       subst ea_
       subst ec_
       clear en_
       have p273 : 0 ≤ (x8_2 : Int) := of_decide_eq_true (by assumption)
       have q273 : x8_2 < ((rd_L1 l0_0 x6_1).length : Int) := of_decide_eq_true (by assumption)
       obtain ⟨ad273, e273, hx273_0⟩ := Kd.at_int HR272_0.out x8_2 p273 q273
       cases e273
       replace hx273_0 := cl HB hx273_0
       replace p273 := eq_true p273
       replace q273 := eq_true q273
       go_wp2_with (first | ((with_reducible refine gate_builtin (b := .append) (xs := #[.tmp 44, .tmp 53]) rfl ?_); at_builtin; refine Kd.R_append (Kd.int .i64) (w0 := w) w.heap.size rfl (.tmp 44) (.tmp 53) 23 3 (.int .i64 0) 8 rfl Try.underlying23 info3 rfl (by decide) (by omega) u7 x7_2 (rd (rd_L1 l0_0 x6_1) x8_2) [.int .i64 (rd (rd_L1 l0_0 x6_1) x8_2)] (fun k_ => some k_ ≠ (u266002 : Value).ownBlock) (fun _ => False) rfl rfl ?aP (fun _ hk => hk.elim) ?aF ?aO ?aB ?aS ?aL ?_; (case aP => exact rfl); (case aB => exact (fW HB.out)); (case aF => exact (fun k_ hk => Kd.fresh' (Kd.R_lt (fR HO_266002.out)) k_ hk)); (case aO => exact (fR HO_7.out)); (case aS => exact (wz (fW HB.out))); (case aL => have := LMc32.out; omega); intro v275 w36 ho hb hg hat; rw [← Ny274.out] at ho; replace HO_266000 := am (Kd.S_after (ok := (fun k_ => some k_ ≠ (u266002 : Value).ownBlock)) (by (with_reducible repeat (first | apply Kd.S_alloc | apply Kd.S_drewN | apply Kd.S_drew)); exact Kd.S_mono HO_266000.out (fun _ hk => ⟨hk.2, hk.1⟩)) hg hat); replace HO_266002 := am (Kd.R_after (ok := (fun _ => True)) (by (with_reducible repeat (first | apply Kd.R_alloc | apply Kd.R_drewN | apply Kd.R_drew)); exact Kd.R_mono HO_266002.out (fun _ hk => ⟨trivial, hk⟩)) hg hat); replace HO_266003 := am (Kd.R_over' (fR HO_266003.out) (Kd.R_typed (fR HO_7.out)) (by decide) hg); replace BK257 := am (blk_grown (g := gb257) (o := .cells #[.slice (some ad269) l0_0.length c0_0, .int .i64 a0_1, .slice A0_2 l0_2.length c0_2, .slice A0_3 l0_3.length c0_3] 26 (0, 0)) (fb BK257.out) hg (Kd.R_ne HO_7.out BK257.out (by decide))); replace BK258 := am (blk_grown (g := gb258) (o := .cells #[.slice none 0 0, .int .i64 0, .slice none 0 0, .slice none 0 0] 26 (0, 0)) (fb BK258.out) hg (Kd.R_ne HO_7.out BK258.out (by decide))); replace BK265 := am (blk_grown (g := gb265) (o := .cells #[u266000, .int .i64 a0_1, u266002, .slice Ao13 y262.length co13] 26 (0, 0)) (fb BK265.out) hg (Kd.R_ne HO_7.out BK265.out (by decide))); replace HB := am (hb); have HO276 := am (ho); clear HO_7 ho hb hg hat))
       go_roundg k2
       case measure => have := HK1.out; have := HK2.out; omega
       case rel => exact ⟨(y274), (wrap64 (x8_2 + 1)), sqD, H', ⟨by have := HK1.out; have := HK2.out; omega⟩, ⟨fR HO276.out⟩, ⟨by (with_reducible repeat (first | apply Kd.S_alloc | apply Kd.S_drewN | apply Kd.S_drew)); exact Kd.S_mono HO_266000.out (fun _ hk => ⟨hk.2, hk.1⟩)⟩, ⟨by (with_reducible repeat (first | apply Kd.R_alloc | apply Kd.R_drewN | apply Kd.R_drew)); exact Kd.R_mono HO_266002.out (fun _ hk => hk.2)⟩, ⟨fR HO_266003.out⟩, ⟨fb BK257.out⟩, ⟨fb BK258.out⟩, ⟨fb BK265.out⟩, ⟨fW HB.out⟩⟩
      rw [if_neg c26] at H
      have c26b0 : decide (x8_2 < ((rd_L1 l0_0 x6_1).length : Int)) = false := decide_eq_false c26
      clear c26
      by_cases c37 : x266000_1.length < 5864062014805
      rotate_left
      ·rw [if_neg c37] at H
       exact absurd H (by simp)
      rw [if_pos c37] at H
      have LMc37 := am c37
      clear c37
      obtain ⟨y277, hy277⟩ : ∃ y_ : List (List Int), y_ = (x266000_1 ++ [x7_2]) := ⟨_, rfl⟩
      replace H : (if x6_1 < (l0_2.length : Int) then (if (rd l0_2 x6_1) = a1 then (if x266002_1.length < 17592186044416 then (r_Break.l0 k2 a1 (wrap64 (x6_1 + 1)) l0_0 a0_1 l0_2 l0_3 y277 a0_1 (x266002_1 ++ [(-1)]) y262) else (none)) else (if x266002_1.length < 17592186044416 then (r_Break.l0 k2 a1 (wrap64 (x6_1 + 1)) l0_0 a0_1 l0_2 l0_3 y277 a0_1 (x266002_1 ++ [rd l0_2 x6_1]) y262) else (none))) else (none)) = some (r1, r2, r3, r4) := by first | (rw [hy277]; with_reducible exact H) | (have H2_ := (Option.bind_some _ _).symm.trans H; rw [hy277]; with_reducible exact H2_) | (have H2_ := (Option.bind_some _ _).symm.trans H; with_reducible exact H2_) | with_reducible exact H | (rw [hy277]; exact H) | exact H
      have Ny277 := am hy277
      clear hy277
      by_cases c38 : x6_1 < (l0_2.length : Int)
      rotate_left
      ·rw [if_neg c38] at H
       exact absurd H (by simp)
      rw [if_pos c38] at H
      have c38b0 : decide (x6_1 < (l0_2.length : Int)) = true := decide_eq_true c38
      clear c38
      by_cases c39 : (rd l0_2 x6_1) = a1
      ·rw [if_pos c39] at H
       have c39b0 : ((rd l0_2 x6_1) == a1) = true := beq_iff_eq.mpr c39
       have c39b1 : ((rd l0_2 x6_1) != a1) = false := bne_eq_false_iff_eq.mpr c39
       clear c39
       by_cases c40 : x266002_1.length < 17592186044416
       rotate_left
       ·rw [if_neg c40] at H
        exact absurd H (by simp)
       rw [if_pos c40] at H
       have LMc40 := am c40
       clear c40
       obtain ⟨y281, hy281⟩ : ∃ y_ : List Int, y_ = (x266002_1 ++ [(-1)]) := ⟨_, rfl⟩
       replace H : (r_Break.l0 k2 a1 (wrap64 (x6_1 + 1)) l0_0 a0_1 l0_2 l0_3 y277 a0_1 y281 y262) = some (r1, r2, r3, r4) := by first | (rw [hy281]; with_reducible exact H) | (have H2_ := (Option.bind_some _ _).symm.trans H; rw [hy281]; with_reducible exact H2_) | (have H2_ := (Option.bind_some _ _).symm.trans H; with_reducible exact H2_) | with_reducible exact H | (rw [hy281]; exact H) | exact H
       have Ny281 := am hy281
       clear hy281
       have H' := am H
       clear H
       have hnb41 := NB257_258.out
       have hnc41 := NB258_257.out
       have hnb42 := NB257_265.out
       have hnc42 := NB265_257.out
       have := yC1 BK257
       have := kC1 BK257
       have := kC2 BK257
       have := kC3 BK257
       have := bf BK257.out 0
       have := bf BK257.out 1
       have := bf BK257.out 2
       have := bf BK257.out 3
       have p269 : 0 ≤ (x6_1 : Int) := of_decide_eq_true (by assumption)
       have q269 : x6_1 < (l0_0.length : Int) := of_decide_eq_true (by assumption)
       obtain ⟨ad269, A269_0, c269_0, e269, hx269_0, hl269_0, hi269_0⟩ := at_L1 HR0_0.out x6_1 p269 q269
       cases e269
       replace hx269_0 := cl HB hx269_0
       have HR269_0 := am hi269_0
       have HC269_0 := am hl269_0
       clear hi269_0 hl269_0
       replace p269 := eq_true p269
       replace q269 := eq_true q269
       have hnb44 := NB265_258.out
       have hnc44 := NB258_265.out
       have := yC1 BK265
       have := kC1 BK265
       have := kC2 BK265
       have := kC3 BK265
       have := bf BK265.out 0
       have := bf BK265.out 1
       have := bf BK265.out 2
       have := bf BK265.out 3
       obtain ⟨Ao47, co47, eo47⟩ := Kd.R_slice HO_7.out
       subst eo47
       go_wp2_with (first | ((with_reducible refine gate_builtin (b := .append) (xs := #[.tmp 56, .tmp 58]) rfl ?_); at_builtin; refine Kd.S_append (Kd.slice 3 (Kd.int .i64)) (w0 := w) w.heap.size rfl (.tmp 56) (.tmp 58) 22 23 (.slice none 0 0) 24 rfl Try.underlying22 info23 rfl (by decide) (by omega) u266000 x266000_1 x7_2 [.slice Ao47 x7_2.length co47] (fun k_ => some k_ ≠ (u266002 : Value).ownBlock) (fun k_ => some k_ = (.slice Ao47 x7_2.length co47 : Value).ownBlock) rfl rfl ?aP (fun k_ hk_ => ((Kd.R_mono (ok' := fun k_ => ((fun k_ => some k_ ≠ (u266002 : Value).ownBlock)) k_ ∧ some k_ ≠ (u266000 : Value).ownBlock) (Kd.R_apart' (HO_7.out) (Kd.S_typed HO_266000.out) (by decide)) (fun k_ hk => ⟨hk.1, hk.2⟩))).1 k_ hk_.symm) ?aF ?aO ?aB ?aS ?aL ?_; (case aP => exact Kd.M_row (Kd.R_mono (Kd.R_tight rfl (Kd.R_mono (ok' := fun k_ => ((fun k_ => some k_ ≠ (u266002 : Value).ownBlock)) k_ ∧ some k_ ≠ (u266000 : Value).ownBlock) (Kd.R_apart' (HO_7.out) (Kd.S_typed HO_266000.out) (by decide)) (fun k_ hk => ⟨hk.1, hk.2⟩))) (fun _ h_ => h_))); (case aB => exact (fW HB.out)); (case aF => exact (fun k_ hk => Kd.fresh' (Kd.R_lt (fR HO_266002.out)) k_ hk)); (case aO => exact (by (with_reducible repeat (first | apply Kd.S_alloc | apply Kd.S_drewN | apply Kd.S_drew)); exact Kd.S_mono HO_266000.out (fun k_ hk => ⟨hk.2, fun e_ => hk.1 e_⟩))); (case aS => exact (wz (fW HB.out))); (case aL => have := LMc37.out; omega); intro v278 w46 ho hb hg hat; rw [← Ny277.out] at ho; replace HO_266002 := am (Kd.R_over' (fR HO_266002.out) (Kd.S_typed (by (with_reducible repeat (first | apply Kd.S_alloc | apply Kd.S_drewN | apply Kd.S_drew)); exact HO_266000.out)) (by decide) hg); replace HO_266003 := am (Kd.R_over' (fR HO_266003.out) (Kd.S_typed (by (with_reducible repeat (first | apply Kd.S_alloc | apply Kd.S_drewN | apply Kd.S_drew)); exact HO_266000.out)) (by decide) hg); replace BK257 := am (blk_grown (g := gb257) (o := .cells #[.slice (some ad269) l0_0.length c0_0, .int .i64 a0_1, .slice A0_2 l0_2.length c0_2, .slice A0_3 l0_3.length c0_3] 26 (0, 0)) (fb BK257.out) hg (Kd.S_ne HO_266000.out BK257.out (by decide))); replace BK258 := am (blk_grown (g := gb258) (o := .cells #[.slice none 0 0, .int .i64 0, .slice none 0 0, .slice none 0 0] 26 (0, 0)) (fb BK258.out) hg (Kd.S_ne HO_266000.out BK258.out (by decide))); replace BK265 := am (blk_grown (g := gb265) (o := .cells #[u266000, .int .i64 a0_1, u266002, .slice Ao13 y262.length co13] 26 (0, 0)) (fb BK265.out) hg (Kd.S_ne HO_266000.out BK265.out (by decide))); replace HB := am (hb); have HO279 := am (ho); clear HO_266000 HO_7 ho hb hg hat; obtain ⟨Ao48, co48, eo48⟩ := Kd.S_slice HO279.out; subst eo48; obtain ⟨_, _, _, _, _, _, _, _⟩ := zC4 BK265; obtain ⟨_, _, _, _, _, _, _, _⟩ := zC4 BK257; have p280 : 0 ≤ (x6_1 : Int) := of_decide_eq_true (by assumption); have q280 : x6_1 < (l0_2.length : Int) := of_decide_eq_true (by assumption); obtain ⟨ad280, e280, hx280_0⟩ := Kd.at_int HR0_2.out x6_1 p280 q280; cases e280; have hn280_0 : ad280.block ≠ gb265 := Nat.ne_of_lt (Nat.lt_of_lt_of_le (by have := bq _ _ hx280_0; first | rwa [add_block] at this | exact this) GW265.out); replace hx280_0 := cl HB hx280_0; replace hx280_0 := (cf (p := ⟨gb265, 0, none⟩) (by first | (rw [add_block]; exact hn280_0) | (show (Addr.add _ _).block ≠ _; rw [add_block]; exact hn280_0) | exact hn280_0) (.slice Ao48 y277.length co48)).trans hx280_0; clear hn280_0; replace p280 := eq_true p280; replace q280 := eq_true q280) | ((with_reducible refine gate_builtin (b := .append) (xs := #[.tmp 69, .tmp 70]) rfl ?_); at_builtin; refine Kd.R_append (Kd.int .i64) (w0 := w) w.heap.size rfl (.tmp 69) (.tmp 70) 23 3 (.int .i64 0) 8 rfl Try.underlying23 info3 rfl (by decide) (by omega) u266002 x266002_1 (-1) [.int .i64 (-1)] (fun _ => True) (fun _ => False) rfl (by first | (go_simp; done) | (go_simp; rfl)) ?aP (fun _ hk => hk.elim) ?aF ?aO ?aB ?aS ?aL ?_; (case aP => exact rfl); (case aB => exact (fW HB.out)); (case aF => exact (fun _ _ => trivial)); (case aO => exact (by (with_reducible repeat (first | apply Kd.R_alloc | apply Kd.R_drewN | apply Kd.R_drew)); exact Kd.R_mono (Kd.R_far (p := ⟨gb265, 0, none⟩) (Kd.R_types HO_266002.out BK265.out (by decide)) (fun _ hk => hk.2) (.slice Ao48 y277.length co48)) (fun _ hk => trivial))); (case aS => exact (wz (fW HB.out))); (case aL => have := LMc40.out; omega); intro v282 w51 ho hb hg hat; rw [← Ny281.out] at ho; replace HO_266003 := am (Kd.R_over' (by (with_reducible repeat (first | apply Kd.R_alloc | apply Kd.R_drewN | apply Kd.R_drew)); exact (Kd.R_mono (Kd.R_far (p := ⟨gb265, 0, none⟩) (Kd.R_types HO_266003.out BK265.out (by decide)) (fun _ hk => hk.2) (.slice Ao48 y277.length co48)) (fun _ h_ => h_.1))) (Kd.R_typed (by (with_reducible repeat (first | apply Kd.R_alloc | apply Kd.R_drewN | apply Kd.R_drew)); exact (Kd.R_mono (Kd.R_far (p := ⟨gb265, 0, none⟩) (Kd.R_types HO_266002.out BK265.out (by decide)) (fun _ hk => hk.2) (.slice Ao48 y277.length co48)) (fun _ h_ => h_.1)))) (by decide) hg); replace BK257 := am (blk_grown (g := gb257) (o := .cells #[.slice (some ad269) l0_0.length c0_0, .int .i64 a0_1, .slice (some ad280) l0_2.length c0_2, .slice A0_3 l0_3.length c0_3] 26 (0, 0)) (kfC BK257.out) hg (Kd.R_ne HO_266002.out BK257.out (by decide))); replace BK258 := am (blk_grown (g := gb258) (o := .cells #[.slice none 0 0, .int .i64 0, .slice none 0 0, .slice none 0 0] 26 (0, 0)) (kfC BK258.out) hg (Kd.R_ne HO_266002.out BK258.out (by decide))); replace HO279 := am (Kd.S_after (ok := (fun _ => True)) (by (with_reducible repeat (first | apply Kd.S_alloc | apply Kd.S_drewN | apply Kd.S_drew)); exact Kd.S_mono (Kd.S_far (p := ⟨gb265, 0, none⟩) (Kd.S_types HO279.out BK265.out (by decide)) (fun _ hk => hk.2) (.slice Ao48 y277.length co48)) (fun _ hk => ⟨trivial, hk.1⟩)) hg hat); replace BK265 := am (blk_grown (g := gb265) (o := .cells #[.slice Ao48 y277.length co48, .int .i64 a0_1, u266002, .slice Ao13 y262.length co13] 26 (0, 0)) (kkC BK265.out) hg (Kd.R_ne HO_266002.out BK265.out (by decide))); replace HB := am (hb); have HO283 := am (ho); clear HO_266002 ho hb hg hat; obtain ⟨Ao52, co52, eo52⟩ := Kd.R_slice HO283.out; subst eo52; obtain ⟨_, _, _, _, _, _, _, _⟩ := zC4 BK265))
       go_roundg k2
       case measure => have := HK1.out; have := HK2.out; omega
       case rel => exact ⟨(wrap64 (x6_1 + 1)), (y277), (y281), (.slice Ao48 y277.length co48), (.slice Ao52 y281.length co52), sqD, H', ⟨by have := HK1.out; have := HK2.out; omega⟩, ⟨by (with_reducible repeat (first | apply Kd.S_alloc | apply Kd.S_drewN | apply Kd.S_drew)); exact Kd.S_mono (Kd.S_far (p := ⟨gb265, 2, none⟩) (Kd.S_types HO279.out BK265.out (by decide)) (fun _ hk => hk.2) (.slice Ao52 y281.length co52)) (fun _ hk => hk.1.2)⟩, ⟨by (with_reducible repeat (first | apply Kd.R_alloc | apply Kd.R_drewN | apply Kd.R_drew)); exact Kd.R_mono (Kd.R_far (p := ⟨gb265, 2, none⟩) (Kd.R_types HO283.out BK265.out (by decide)) (fun _ hk => hk.2) (.slice Ao52 y281.length co52)) (fun _ hk => trivial)⟩, ⟨by (with_reducible repeat (first | apply Kd.R_alloc | apply Kd.R_drewN | apply Kd.R_drew)); exact Kd.R_mono (Kd.R_far (p := ⟨gb265, 2, none⟩) (Kd.R_types HO_266003.out BK265.out (by decide)) (fun _ hk => hk.2) (.slice Ao52 y281.length co52)) (fun _ hk => trivial)⟩, ⟨by (with_reducible repeat first | apply bN | apply bd | apply ba); refine bF ?_ NB257_265.out _; (with_reducible repeat first | apply bN | apply bd | apply ba); exact BK257.out⟩, ⟨by (with_reducible repeat first | apply bN | apply bd | apply ba); refine bF ?_ NB258_265.out _; (with_reducible repeat first | apply bN | apply bd | apply ba); exact BK258.out⟩, ⟨by (with_reducible repeat first | apply bN | apply bd | apply ba); refine blk_put (cs := #[.slice Ao48 y277.length co48, .int .i64 a0_1, u266002, .slice Ao13 y262.length co13]) ?_ 2 _ rfl; (with_reducible repeat first | apply bN | apply bd | apply ba); exact BK265.out⟩, ⟨fW HB.out⟩⟩
      rw [if_neg c39] at H
      have c39b0 : ((rd l0_2 x6_1) == a1) = false := beq_eq_false_iff_ne.mpr c39
      have c39b1 : ((rd l0_2 x6_1) != a1) = true := bne_iff_ne.mpr c39
      by_cases c54 : x266002_1.length < 17592186044416
      rotate_left
      ·rw [if_neg c54] at H
       exact absurd H (by simp)
      rw [if_pos c54] at H
      have LMc54 := am c54
      clear c54
      obtain ⟨y285, hy285⟩ : ∃ y_ : List Int, y_ = (x266002_1 ++ [rd l0_2 x6_1]) := ⟨_, rfl⟩
      replace H : (r_Break.l0 k2 a1 (wrap64 (x6_1 + 1)) l0_0 a0_1 l0_2 l0_3 y277 a0_1 y285 y262) = some (r1, r2, r3, r4) := by first | (rw [hy285]; with_reducible exact H) | (have H2_ := (Option.bind_some _ _).symm.trans H; rw [hy285]; with_reducible exact H2_) | (have H2_ := (Option.bind_some _ _).symm.trans H; with_reducible exact H2_) | with_reducible exact H | (rw [hy285]; exact H) | exact H
      have Ny285 := am hy285
      clear hy285
      have H' := am H
      clear H
      have hnb55 := NB257_258.out
      have hnc55 := NB258_257.out
      have hnb56 := NB257_265.out
      have hnc56 := NB265_257.out
      have := yC1 BK257
      have := kC1 BK257
      have := kC2 BK257
      have := kC3 BK257
      have := bf BK257.out 0
      have := bf BK257.out 1
      have := bf BK257.out 2
      have := bf BK257.out 3
      have p269 : 0 ≤ (x6_1 : Int) := of_decide_eq_true (by assumption)
      have q269 : x6_1 < (l0_0.length : Int) := of_decide_eq_true (by assumption)
      obtain ⟨ad269, A269_0, c269_0, e269, hx269_0, hl269_0, hi269_0⟩ := at_L1 HR0_0.out x6_1 p269 q269
      cases e269
      replace hx269_0 := cl HB hx269_0
      have HR269_0 := am hi269_0
      have HC269_0 := am hl269_0
      clear hi269_0 hl269_0
      replace p269 := eq_true p269
      replace q269 := eq_true q269
      have hnb58 := NB265_258.out
      have hnc58 := NB258_265.out
      have := yC1 BK265
      have := kC1 BK265
      have := kC2 BK265
      have := kC3 BK265
      have := bf BK265.out 0
      have := bf BK265.out 1
      have := bf BK265.out 2
      have := bf BK265.out 3
      obtain ⟨Ao61, co61, eo61⟩ := Kd.R_slice HO_7.out
      subst eo61
      try go_wp2_with (first | ((with_reducible refine gate_builtin (b := .append) (xs := #[.tmp 56, .tmp 58]) rfl ?_); at_builtin; refine Kd.S_append (Kd.slice 3 (Kd.int .i64)) (w0 := w) w.heap.size rfl (.tmp 56) (.tmp 58) 22 23 (.slice none 0 0) 24 rfl Try.underlying22 info23 rfl (by decide) (by omega) u266000 x266000_1 x7_2 [.slice Ao61 x7_2.length co61] (fun k_ => some k_ ≠ (u266002 : Value).ownBlock) (fun k_ => some k_ = (.slice Ao61 x7_2.length co61 : Value).ownBlock) rfl rfl ?aP (fun k_ hk_ => ((Kd.R_mono (ok' := fun k_ => ((fun k_ => some k_ ≠ (u266002 : Value).ownBlock)) k_ ∧ some k_ ≠ (u266000 : Value).ownBlock) (Kd.R_apart' (HO_7.out) (Kd.S_typed HO_266000.out) (by decide)) (fun k_ hk => ⟨hk.1, hk.2⟩))).1 k_ hk_.symm) ?aF ?aO ?aB ?aS ?aL ?_; (case aP => exact Kd.M_row (Kd.R_mono (Kd.R_tight rfl (Kd.R_mono (ok' := fun k_ => ((fun k_ => some k_ ≠ (u266002 : Value).ownBlock)) k_ ∧ some k_ ≠ (u266000 : Value).ownBlock) (Kd.R_apart' (HO_7.out) (Kd.S_typed HO_266000.out) (by decide)) (fun k_ hk => ⟨hk.1, hk.2⟩))) (fun _ h_ => h_))); (case aB => exact (fW HB.out)); (case aF => exact (fun k_ hk => Kd.fresh' (Kd.R_lt (fR HO_266002.out)) k_ hk)); (case aO => exact (by (with_reducible repeat (first | apply Kd.S_alloc | apply Kd.S_drewN | apply Kd.S_drew)); exact Kd.S_mono HO_266000.out (fun k_ hk => ⟨hk.2, fun e_ => hk.1 e_⟩))); (case aS => exact (wz (fW HB.out))); (case aL => have := LMc37.out; omega); intro v278 w60 ho hb hg hat; rw [← Ny277.out] at ho; replace HO_266002 := am (Kd.R_over' (fR HO_266002.out) (Kd.S_typed (by (with_reducible repeat (first | apply Kd.S_alloc | apply Kd.S_drewN | apply Kd.S_drew)); exact HO_266000.out)) (by decide) hg); replace HO_266003 := am (Kd.R_over' (fR HO_266003.out) (Kd.S_typed (by (with_reducible repeat (first | apply Kd.S_alloc | apply Kd.S_drewN | apply Kd.S_drew)); exact HO_266000.out)) (by decide) hg); replace BK257 := am (blk_grown (g := gb257) (o := .cells #[.slice (some ad269) l0_0.length c0_0, .int .i64 a0_1, .slice A0_2 l0_2.length c0_2, .slice A0_3 l0_3.length c0_3] 26 (0, 0)) (fb BK257.out) hg (Kd.S_ne HO_266000.out BK257.out (by decide))); replace BK258 := am (blk_grown (g := gb258) (o := .cells #[.slice none 0 0, .int .i64 0, .slice none 0 0, .slice none 0 0] 26 (0, 0)) (fb BK258.out) hg (Kd.S_ne HO_266000.out BK258.out (by decide))); replace BK265 := am (blk_grown (g := gb265) (o := .cells #[u266000, .int .i64 a0_1, u266002, .slice Ao13 y262.length co13] 26 (0, 0)) (fb BK265.out) hg (Kd.S_ne HO_266000.out BK265.out (by decide))); replace HB := am (hb); have HO279 := am (ho); clear HO_266000 HO_7 ho hb hg hat; obtain ⟨Ao62, co62, eo62⟩ := Kd.S_slice HO279.out; subst eo62; obtain ⟨_, _, _, _, _, _, _, _⟩ := zC4 BK265; obtain ⟨_, _, _, _, _, _, _, _⟩ := zC4 BK257; have p280 : 0 ≤ (x6_1 : Int) := of_decide_eq_true (by assumption); have q280 : x6_1 < (l0_2.length : Int) := of_decide_eq_true (by assumption); obtain ⟨ad280, e280, hx280_0⟩ := Kd.at_int HR0_2.out x6_1 p280 q280; cases e280; have hn280_0 : ad280.block ≠ gb265 := Nat.ne_of_lt (Nat.lt_of_lt_of_le (by have := bq _ _ hx280_0; first | rwa [add_block] at this | exact this) GW265.out); replace hx280_0 := cl HB hx280_0; replace hx280_0 := (cf (p := ⟨gb265, 0, none⟩) (by first | (rw [add_block]; exact hn280_0) | (show (Addr.add _ _).block ≠ _; rw [add_block]; exact hn280_0) | exact hn280_0) (.slice Ao62 y277.length co62)).trans hx280_0; clear hn280_0; replace p280 := eq_true p280; replace q280 := eq_true q280))
      have n0_ : Aside0 (Kd.R (Kd.int .i64) 3 (w60.setCell ⟨gb265, 0, none⟩ (.slice Ao62 y277.length co62)) w.heap.size (fun _ => True) u266002 x266002_1) := ⟨by (with_reducible repeat (first | apply Kd.R_alloc | apply Kd.R_drewN | apply Kd.R_drew)); exact Kd.R_mono (Kd.R_far (p := ⟨gb265, 0, none⟩) (Kd.R_types HO_266002.out BK265.out (by decide)) (fun _ hk => hk.2) (.slice Ao62 y277.length co62)) (fun _ hk => trivial)⟩
      have n1_ : Aside0 (Kd.R Kd.bool 4 (w60.setCell ⟨gb265, 0, none⟩ (.slice Ao62 y277.length co62)) w.heap.size (fun _ => True) (.slice Ao13 y262.length co13) y262) := ⟨by (with_reducible repeat (first | apply Kd.R_alloc | apply Kd.R_drewN | apply Kd.R_drew)); exact Kd.R_mono (Kd.R_far (p := ⟨gb265, 0, none⟩) (Kd.R_types HO_266003.out BK265.out (by decide)) (fun _ hk => hk.2) (.slice Ao62 y277.length co62)) (fun _ hk => trivial)⟩
      have n2_ : Aside0 (Kd.S (Kd.slice 3 (Kd.int .i64)) 23 (w60.setCell ⟨gb265, 0, none⟩ (.slice Ao62 y277.length co62)) w.heap.size (fun k_ => some k_ ≠ (u266002 : Value).ownBlock) (.slice Ao62 y277.length co62) y277) := ⟨by (with_reducible repeat (first | apply Kd.S_alloc | apply Kd.S_drewN | apply Kd.S_drew)); exact Kd.S_mono (Kd.S_far (p := ⟨gb265, 0, none⟩) (Kd.S_types HO279.out BK265.out (by decide)) (fun _ hk => hk.2) (.slice Ao62 y277.length co62)) (fun _ hk => hk.1)⟩
      have n3_ : Aside0 ((w60.setCell ⟨gb265, 0, none⟩ (.slice Ao62 y277.length co62)).heap[gb257]? = some (.cells #[.slice (some ad269) l0_0.length c0_0, .int .i64 a0_1, .slice (some ad280) l0_2.length c0_2, .slice A0_3 l0_3.length c0_3] 26 (0, 0))) := ⟨by (with_reducible repeat first | apply bN | apply bd | apply ba); refine bF ?_ NB257_265.out _; (with_reducible repeat first | apply bN | apply bd | apply ba); exact BK257.out⟩
      have n4_ : Aside0 ((w60.setCell ⟨gb265, 0, none⟩ (.slice Ao62 y277.length co62)).heap[gb258]? = some (.cells #[.slice none 0 0, .int .i64 0, .slice none 0 0, .slice none 0 0] 26 (0, 0))) := ⟨by (with_reducible repeat first | apply bN | apply bd | apply ba); refine bF ?_ NB258_265.out _; (with_reducible repeat first | apply bN | apply bd | apply ba); exact BK258.out⟩
      have n5_ : Aside0 ((w60.setCell ⟨gb265, 0, none⟩ (.slice Ao62 y277.length co62)).heap[gb265]? = some (.cells #[.slice Ao62 y277.length co62, .int .i64 a0_1, u266002, .slice Ao13 y262.length co13] 26 (0, 0))) := ⟨by (with_reducible repeat first | apply bN | apply bd | apply ba); refine blk_put (cs := #[u266000, .int .i64 a0_1, u266002, .slice Ao13 y262.length co13]) ?_ 0 _ rfl; (with_reducible repeat first | apply bN | apply bd | apply ba); exact BK265.out⟩
      have n6_ : Aside0 (Below w.heap.size w (w60.setCell ⟨gb265, 0, none⟩ (.slice Ao62 y277.length co62))) := ⟨fW HB.out⟩
      (try clear HO_266002)
      (try clear HO_266003)
      (try clear HO279)
      (try clear BK257)
      (try clear BK258)
      (try clear BK265)
      (try clear HB)
      generalize (w60.setCell ⟨gb265, 0, none⟩ (.slice Ao62 y277.length co62)) = w65 at n0_ n1_ n2_ n3_ n4_ n5_ n6_ ⊢
      have HO_266002 := n0_
      have HO_266003 := n1_
      have HO279 := n2_
      have BK257 := n3_
      have BK258 := n4_
      have BK265 := n5_
      have HB := n6_
      clear n0_ n1_ n2_ n3_ n4_ n5_ n6_
      have n0_ := am (Kd.R_drew HO_266002.out)
      have n1_ := am (Kd.R_drew HO_266003.out)
      have n2_ := am (Kd.S_drew HO279.out)
      have n3_ := am (bd BK257.out)
      have n4_ := am (bd BK258.out)
      have n5_ := am (bd BK265.out)
      have n6_ := am (below_drew1 HB.out)
      clear HO_266002 HO_266003 HO279 BK257 BK258 BK265 HB
      have HO_266002 := n0_
      have HO_266003 := n1_
      have HO279 := n2_
      have BK257 := n3_
      have BK258 := n4_
      have BK265 := n5_
      have HB := n6_
      clear n0_ n1_ n2_ n3_ n4_ n5_ n6_
      have p284 : 0 ≤ (x6_1 : Int) := of_decide_eq_true (by assumption)
      have q284 : x6_1 < (l0_2.length : Int) := of_decide_eq_true (by assumption)
      obtain ⟨ad284, e284, hx284_0⟩ := Kd.at_int HR0_2.out x6_1 p284 q284
      have hw284_0 := hx284_0
      obtain rfl : ad280 = ad284 := (by injection e284)
      replace hx284_0 := cl HB hx284_0
      replace p284 := eq_true p284
      replace q284 := eq_true q284
      refine start_ (n := 11) (S := fun w' => w'.cell? ⟨gb265, 0, none⟩ = some (.slice Ao62 y277.length co62) ∧ w'.cell? ⟨gb265, 1, none⟩ = some (.int .i64 a0_1) ∧ w'.cell? ⟨gb265, 2, none⟩ = some (u266002) ∧ w'.cell? ⟨gb265, 3, none⟩ = some (.slice Ao13 y262.length co13) ∧ w'.cell? ⟨gb257, 0, none⟩ = some (.slice (some ad269) l0_0.length c0_0) ∧ w'.cell? ⟨gb257, 1, none⟩ = some (.int .i64 a0_1) ∧ w'.cell? ⟨gb257, 2, none⟩ = some (.slice (some ad280) l0_2.length c0_2) ∧ w'.cell? ⟨gb257, 3, none⟩ = some (.slice A0_3 l0_3.length c0_3) ∧ w'.cell? (ad280.add (x6_1).toNat) = some (.int .i64 (rd l0_2 x6_1))) (ds := [10]) #[F,F,F,F,F,F,F,F,F,F,F] (by kernel_rfl) rfl rfl ⟨(bc BK265.out 0).trans rfl, (bc BK265.out 1).trans rfl, (bc BK265.out 2).trans rfl, (bc BK265.out 3).trans rfl, (bc BK257.out 0).trans rfl, (bc BK257.out 1).trans rfl, (bc BK257.out 2).trans rfl, (bc BK257.out 3).trans rfl, ((HB.out.cell (bq w _ hw284_0)).trans hw284_0)⟩ (fun hHeld => ?_); refine with_tabW r_Break.tab14 r_Break.bits14 (fun HT_ HW_ => ?_)
      generalize w65.drew = w66 at HO_266002 HO_266003 HO279 BK257 BK258 BK265 HB hx284_0 hHeld ⊢
      refine pu (i := 0) (N := some 73) (fl 11 1 []) HT_ ?_
      refine pu (i := 2) (N := some 75) (fl 11 1 [2]) HT_ ?_
      refine pu (i := 4) (N := some 77) (fl 11 1 [2, 4]) HT_ ?_
      refine tk (i := 1) (N := some 74) (fl 11 3 [4]) HT_ HW_ hHeld ?_
      refine tk (i := 3) (N := some 76) (fl 11 5 []) HT_ HW_ hHeld ?_
      refine pu (i := 5) (N := some 78) (fl 11 6 []) HT_ ?_
      refine tk (i := 6) (N := some 79) (fl 11 7 []) HT_ HW_ hHeld ?_
      refine one_ (i := 7) (N := some 80) (fl 11 8 []) rfl rfl (one_of HT_.out (by kernel_rfl)) (by decide) (fun K hK => ?_)
      refine value_ (w1 := ?_) (v := ?_) (by rfl) rfl ?_ ?_
      rotate_left 2
      ·go_simp
       constructor
       ·rfl
       rfl
      refine hK.out _ _ ⟨(bc (ba BK265.out _) 0).trans rfl, (bc (ba BK265.out _) 1).trans rfl, (bc (ba BK265.out _) 2).trans rfl, (bc (ba BK265.out _) 3).trans rfl, (bc (ba BK257.out _) 0).trans rfl, (bc (ba BK257.out _) 1).trans rfl, (bc (ba BK257.out _) 2).trans rfl, (bc (ba BK257.out _) 3).trans rfl, (World.cell?_alloc_lt _ _ _ (bq _ _ (((HB.out.cell (bq w _ hw284_0)).trans hw284_0)))).trans (((HB.out.cell (bq w _ hw284_0)).trans hw284_0))⟩ (fun hHeld => ?_)
      clear hK K
      refine norm_ (a' := ?_) ?_ ?_
      rotate_left
      ·show Act.put _ (some 80) _ = _
       simp only [Act.put, psl, i64_w, i32_w]
       rfl
      refine one_ (i := 8) (N := some 81) (fl 11 9 []) rfl rfl (one_of HT_.out (by kernel_rfl)) (by decide) (fun K hK => ?_)
      refine Kd.R_append_step (Kd.int .i64) (w0 := w) w.heap.size (by rfl) (.tmp 74) (.tmp 80) 23 3 (.int .i64 0) 8 rfl Try.underlying23 info3 rfl (by decide) (by omega) u266002 x266002_1 (rd l0_2 x6_1) [.int .i64 (rd l0_2 x6_1)] (fun _ => True) (fun _ => False) rfl rfl ?aP (fun _ hk => hk.elim) ?aF ?aO ?aB ?aS ?aL ?_
      (case aP => exact rfl)
      (case aB => exact (fW HB.out))
      (case aF => exact (fun _ _ => trivial))
      (case aO => exact (fR HO_266002.out))
      (case aS => exact (wz (fW HB.out)))
      (case aL => have := LMc54.out; omega)
      intro v286 w67 ho hb hg hat
      rw [← Ny285.out] at ho
      have n0_ := am (Kd.R_over' (fR HO_266003.out) (Kd.R_typed (fR HO_266002.out)) (by decide) hg)
      have n1_ := am (blk_grown (g := gb257) (o := .cells #[.slice (some ad269) l0_0.length c0_0, .int .i64 a0_1, .slice (some ad280) l0_2.length c0_2, .slice A0_3 l0_3.length c0_3] 26 (0, 0)) (fb BK257.out) hg (Kd.R_ne HO_266002.out BK257.out (by decide)))
      have n2_ := am (blk_grown (g := gb258) (o := .cells #[.slice none 0 0, .int .i64 0, .slice none 0 0, .slice none 0 0] 26 (0, 0)) (fb BK258.out) hg (Kd.R_ne HO_266002.out BK258.out (by decide)))
      have n3_ := am (blk_grown (g := gb265) (o := .cells #[.slice Ao62 y277.length co62, .int .i64 a0_1, u266002, .slice Ao13 y262.length co13] 26 (0, 0)) (fb BK265.out) hg (Kd.R_ne HO_266002.out BK265.out (by decide)))
      have n4_ := am (Kd.S_after (ok := (fun _ => True)) (by (with_reducible repeat (first | apply Kd.S_alloc | apply Kd.S_drewN | apply Kd.S_drew)); exact Kd.S_mono HO279.out (fun _ hk => ⟨trivial, hk⟩)) hg hat)
      have n5_ := am (hb)
      have n6_ := am (ho)
      clear HO_266003 BK257 BK258 BK265 HO279 HB HO_266002
      have HO_266003 := n0_
      have BK257 := n1_
      have BK258 := n2_
      have BK265 := n3_
      have HO279 := n4_
      have HB := n5_
      have HO287 := n6_
      clear n0_ n1_ n2_ n3_ n4_ n5_ n6_ ho hb hg hat
      obtain ⟨Ao68, co68, eo68⟩ := Kd.R_slice HO287.out
      (first | subst eo68 | (injection eo68 with f1_ f2_ f3_; have f4_ := f1_.symm; have f5_ := f3_.symm; clear f1_ f2_ f3_; subst f4_; subst f5_))
      refine hK.out _ _ ⟨(bc BK265.out 0).trans rfl, (bc BK265.out 1).trans rfl, (bc BK265.out 2).trans rfl, (bc BK265.out 3).trans rfl, (bc BK257.out 0).trans rfl, (bc BK257.out 1).trans rfl, (bc BK257.out 2).trans rfl, (bc BK257.out 3).trans rfl, ((HB.out.cell (bq w _ hw284_0)).trans hw284_0)⟩ (fun hHeld => ?_)
      clear hK K
      refine norm_ (a' := ?_) ?_ ?_
      rotate_left
      ·show Act.put _ (some 81) _ = _
       simp only [Act.put, psl, i64_w, i32_w]
       rfl
      refine pu (i := 9) (N := some 82) (fl 11 10 []) HT_ ?_
      refine last_ (i := 10) (N := none) #[T,T,T,T,T,T,T,T,T,T,T] rfl rfl (one_of HT_.out (by kernel_rfl)) (by decide) (fun K hK => ?_)
      have hs69 : w67.cell? ⟨gb265, 2, none⟩ = some (u266002) := (bc BK265.out 2).trans rfl
      have hfs69 := bf BK265.out 2
      have hns69_0 := NB257_265.out
      have hns69_1 := NB258_265.out
      have hms69_0 := NB265_257.out
      have hms69_1 := NB265_258.out
      refine skip_ (w1 := ?_) (by rfl) rfl ?_ ?_
      rotate_left
      ·go_simp
       rfl
      refine hK.out _ _ ?_
      clear hK K
      refine done_ (done_of HT_.out (by kernel_rfl)) ?_
      try go_wp2
      go_roundg k2
      case measure => have := HK1.out; have := HK2.out; omega
      case rel => exact ⟨(wrap64 (x6_1 + 1)), (y277), (y285), (.slice Ao62 y277.length co62), (.slice Ao68 y285.length co68), sqD, H', ⟨by have := HK1.out; have := HK2.out; omega⟩, ⟨by (with_reducible repeat (first | apply Kd.S_alloc | apply Kd.S_drewN | apply Kd.S_drew)); exact Kd.S_mono (Kd.S_far (p := ⟨gb265, 2, none⟩) (Kd.S_types HO279.out BK265.out (by decide)) (fun _ hk => hk.2) (.slice Ao68 y285.length co68)) (fun _ hk => hk.1.2)⟩, ⟨by (with_reducible repeat (first | apply Kd.R_alloc | apply Kd.R_drewN | apply Kd.R_drew)); exact Kd.R_mono (Kd.R_far (p := ⟨gb265, 2, none⟩) (Kd.R_types HO287.out BK265.out (by decide)) (fun _ hk => hk.2) (.slice Ao68 y285.length co68)) (fun _ hk => trivial)⟩, ⟨by (with_reducible repeat (first | apply Kd.R_alloc | apply Kd.R_drewN | apply Kd.R_drew)); exact Kd.R_mono (Kd.R_far (p := ⟨gb265, 2, none⟩) (Kd.R_types HO_266003.out BK265.out (by decide)) (fun _ hk => hk.2) (.slice Ao68 y285.length co68)) (fun _ hk => trivial)⟩, ⟨by (with_reducible repeat first | apply bN | apply bd | apply ba); refine bF ?_ NB257_265.out _; (with_reducible repeat first | apply bN | apply bd | apply ba); exact BK257.out⟩, ⟨by (with_reducible repeat first | apply bN | apply bd | apply ba); refine bF ?_ NB258_265.out _; (with_reducible repeat first | apply bN | apply bd | apply ba); exact BK258.out⟩, ⟨by (with_reducible repeat first | apply bN | apply bd | apply ba); refine blk_put (cs := #[.slice Ao62 y277.length co62, .int .i64 a0_1, u266002, .slice Ao13 y262.length co13]) ?_ 2 _ rfl; (with_reducible repeat first | apply bN | apply bd | apply ba); exact BK265.out⟩, ⟨fW HB.out⟩⟩
 ·rw [if_neg c3] at H
  exact absurd H (by simp)

end Go.Proofs.Ytkeomlmlimkebaa.QA
