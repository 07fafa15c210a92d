import Derived.Test.YtmmdikhmlmoolaaKQAx0
import Derived.Test.YtmmdikhmlmoolaaKQAx20
import Derived.Test.YtmmdikhmlmoolaaKQAx23
import Derived.Test.YtmmdikhmlmoolaaKQAx28
namespace Go.Proofs.Ytmmdikhmlmoolaa.QA
open Go.RowKit Go.Proofs.YtmmdikhmlmoolaaW.PrintWords Go.Proofs.YtmmdikhmlmoolaaW.PrintLast Go.Proofs.YtmmdikhmlmoolaaW.PrintMore
open Go.Proofs.YtmmdikhmlmoolaaW.PrintWords renaming blk_frozen → bf, blk_cell → bc
open Aside0 renaming mk → am
open World renaming block_lt_of_cell? → bq
attribute [local go_sem] max2_int min2_int max_two min_two max_three min_three max_four min_four
set_option linter.unusedVariables false
set_option linter.unusedSimpArgs false

mutual
def r_Partition.l0 : Nat → List (S25) → Int → Int → Int → Int → Int → Int → Int → Option (Int)
 | 0, _, _, _, _, _, _, _, _ => none
 | k + 1, x1, x5, x681000, x681001, x681002, x681003, x681004, x681005 => if x5 < (x1.length : Int) then (if 0 ≤ x5 then ((r_Inside.f k ((rd_T25 x1 x5).f0.f0) ((rd_T25 x1 x5).f0.f1) ((rd_T25 x1 x5).f0.f2) ((rd_T25 x1 x5).f1.f0) ((rd_T25 x1 x5).f1.f1) ((rd_T25 x1 x5).f1.f2) x681000 x681001 x681002 x681003 x681004 x681005).bind fun t682 => (if t682 = true then (r_Partition.l0 k x1 (wrap64 (x5 + 1)) x681000 x681001 x681002 x681003 x681004 x681005) else (some 12))) else (none)) else ((r_Clash.f k x1).bind fun bt683 => (if bt683.2.2 = true then (some 11) else (r_Partition.l1 k x1 0 0 x681000 x681001 x681002 x681003 x681004 x681005)))
def r_Partition.l1 : Nat → List (S25) → Int → Int → Int → Int → Int → Int → Int → Int → Option (Int)
 | 0, _, _, _, _, _, _, _, _, _ => none
 | k + 1, x1, x9, x10, x681000, x681001, x681002, x681003, x681004, x681005 => if x10 < (x1.length : Int) then (if 0 ≤ x10 then ((r_Volume.f ((rd_T25 x1 x10).f0.f0) ((rd_T25 x1 x10).f0.f1) ((rd_T25 x1 x10).f0.f2) ((rd_T25 x1 x10).f1.f0) ((rd_T25 x1 x10).f1.f1) ((rd_T25 x1 x10).f1.f2)).bind fun t687 => (r_Partition.l1 k x1 (wrap64 (x9 + t687)) (wrap64 (x10 + 1)) x681000 x681001 x681002 x681003 x681004 x681005)) else (none)) else ((r_Volume.f x681000 x681001 x681002 x681003 x681004 x681005).bind fun t688 => (if x9 = t688 then (some 0) else (some 9)))
end
def r_Partition.f (k : Nat) (a0_0 : Int) (a0_1 : Int) (a0_2 : Int) (a0_3 : Int) (a0_4 : Int) (a0_5 : Int) (l1 : List (S25)) : Option (Int) := r_Partition.l0 k l1 0 a0_0 a0_1 a0_2 a0_3 a0_4 a0_5
set_option maxHeartbeats 8000000 in
set_option maxRecDepth 100000 in
theorem r_Partition.calls (k : Nat) (a0_0 : Int) (a0_1 : Int) (a0_2 : Int) (a0_3 : Int) (a0_4 : Int) (a0_5 : Int) (A1 : Option Addr) (c1 : Nat) (l1 : List (S25)) (r : Int) (w : World) (hr1 : Kd.C k25 w A1 l1.length l1) (hc1 : l1.length ≤ c1) (h : r_Partition.f k a0_0 a0_1 a0_2 a0_3 a0_4 a0_5 l1 = some r) :
  Calls Try.prog 46 #[.agg #[.int .i64 a0_0, .int .i64 a0_1, .int .i64 a0_2, .int .i64 a0_3, .int .i64 a0_4, .int .i64 a0_5], .slice A1 l1.length c1] w fun e w' => e = .returned (.int .i64 r) ∧ Below w.heap.size w w' := by
 have hu25 := Try.underlying25
 have HR1 := am hr1
 have HC1 := am hc1
 clear hr1 hc1
 have HB := am (Below.refl w.heap.size w)
 have H : (r_Partition.l0 k l1 0 a0_0 a0_1 a0_2 a0_3 a0_4 a0_5) = some r := h
 clear h
 have H' := am H
 clear H
 go_enter Try.func46, Try.ntmps46
 go_wp2_with (first | ((with_reducible refine gate_dst (N := 2) rfl ?_); refine box_event ?hg (N := 2) ?hd (cs := #[.int .i64 a0_0, .int .i64 a0_1, .int .i64 a0_2, .int .i64 a0_3, .int .i64 a0_4, .int .i64 a0_5]) (t := 25) ?hr ?_; (case hd | hg => rfl); (case hr => first | (go_simp; done) | (go_simp; rfl)); intro gb680 hg w3 hbox hb; have BK680 := am hbox; have GW680 := sG HB hg; have GE680 := sG HB hg; replace HB := bS HB hb; clear hb hbox hg))
 go_loopg [5] k (fun kq v5 w' => ∃ (x5_1 : Int), v5 = .int .i64 x5_1 ∧ Aside0 (r_Partition.l0 kq l1 x5_1 a0_0 a0_1 a0_2 a0_3 a0_4 a0_5 = some r) ∧ Aside0 (kq ≤ k) ∧ Aside0 (w'.heap[gb680]? = some (.cells #[.int .i64 a0_0, .int .i64 a0_1, .int .i64 a0_2, .int .i64 a0_3, .int .i64 a0_4, .int .i64 a0_5] 25 (0, 0))) ∧ Aside0 (Below w.heap.size w w'))
 case atStart => exact ⟨(0), sqD, H', ⟨Nat.le_refl _⟩, ⟨fb BK680.out⟩, ⟨fW HB.out⟩⟩
 case round =>
  clear H'
  try clear c1;try clear p2
  obtain ⟨x5_1, rfl, HA, HK1, BK680, HB⟩ := hrel
  cases gk with
  | zero => exact absurd HA.out (by simp [r_Partition.l0])
  | succ k1 =>
   have H := HA.out
   clear HA
   simp only [r_Partition.l0] at H
   by_cases c4 : x5_1 < (l1.length : Int)
   ·rw [if_pos c4] at H
    have c4b0 : decide (x5_1 < (l1.length : Int)) = true := decide_eq_true c4
    clear c4
    by_cases c5 : 0 ≤ x5_1
    rotate_left
    ·rw [if_neg c5] at H
     exact absurd H (by simp)
    rw [if_pos c5] at H
    have c5b0 : decide (0 ≤ x5_1) = true := decide_eq_true c5
    clear c5
    replace H := Option.bind_eq_some_iff.mp H
    obtain ⟨t682, A60, H⟩ := H
    replace H : (if t682 = true then (r_Partition.l0 k1 l1 (wrap64 (x5_1 + 1)) a0_0 a0_1 a0_2 a0_3 a0_4 a0_5) else (some 12)) = some r := H
    have A6 := am A60
    clear A60
    by_cases c7 : t682 = true
    ·subst c7
     have H1 : (r_Partition.l0 k1 l1 (wrap64 (x5_1 + 1)) a0_0 a0_1 a0_2 a0_3 a0_4 a0_5) = some r := by rw [if_pos rfl] at H; exact H
     clear H
     have H := H1
     clear H1
     have H' := am H
     clear H
     try go_wp2
     have n0_ := am (blk_drew BK680.out)
     have n1_ := am (below_drew1 HB.out)
     clear BK680 HB
     have BK680 := n0_
     have HB := n1_
     clear n0_ n1_
     have p681 : 0 ≤ (x5_1 : Int) := of_decide_eq_true (by assumption)
     have q681 : x5_1 < (l1.length : Int) := of_decide_eq_true (by assumption)
     obtain ⟨ad681, e681, hx681_0, hx681_1, hx681_2, hx681_3, hx681_4, hx681_5⟩ := at_T25 HR1.out x5_1 p681 q681
     have hw681_5 := hx681_5
     have hw681_4 := hx681_4
     have hw681_3 := hx681_3
     have hw681_2 := hx681_2
     have hw681_1 := hx681_1
     have hw681_0 := hx681_0
     cases e681
     replace hx681_0 := cl HB hx681_0
     replace hx681_1 := cl HB hx681_1
     replace hx681_2 := cl HB hx681_2
     replace hx681_3 := cl HB hx681_3
     replace hx681_4 := cl HB hx681_4
     replace hx681_5 := cl HB hx681_5
     replace p681 := eq_true p681
     replace q681 := eq_true q681
     refine start_ (n := 7) (S := fun w' => w'.cell? ⟨gb680, 0, none⟩ = some (.int .i64 a0_0) ∧ w'.cell? ⟨gb680, 1, none⟩ = some (.int .i64 a0_1) ∧ w'.cell? ⟨gb680, 2, none⟩ = some (.int .i64 a0_2) ∧ w'.cell? ⟨gb680, 3, none⟩ = some (.int .i64 a0_3) ∧ w'.cell? ⟨gb680, 4, none⟩ = some (.int .i64 a0_4) ∧ w'.cell? ⟨gb680, 5, none⟩ = some (.int .i64 a0_5) ∧ w'.cell? (ad681.add ((x5_1).toNat * 6)) = some (.int .i64 ((rd_T25 l1 x5_1).f0.f0)) ∧ w'.cell? ⟨(ad681.add ((x5_1).toNat * 6)).block, (ad681.add ((x5_1).toNat * 6)).off + 1, none⟩ = some (.int .i64 ((rd_T25 l1 x5_1).f0.f1)) ∧ w'.cell? ⟨(ad681.add ((x5_1).toNat * 6)).block, (ad681.add ((x5_1).toNat * 6)).off + 2, none⟩ = some (.int .i64 ((rd_T25 l1 x5_1).f0.f2)) ∧ w'.cell? ⟨(ad681.add ((x5_1).toNat * 6)).block, (ad681.add ((x5_1).toNat * 6)).off + 3, none⟩ = some (.int .i64 ((rd_T25 l1 x5_1).f1.f0)) ∧ w'.cell? ⟨(ad681.add ((x5_1).toNat * 6)).block, (ad681.add ((x5_1).toNat * 6)).off + 4, none⟩ = some (.int .i64 ((rd_T25 l1 x5_1).f1.f1)) ∧ w'.cell? ⟨(ad681.add ((x5_1).toNat * 6)).block, (ad681.add ((x5_1).toNat * 6)).off + 5, none⟩ = some (.int .i64 ((rd_T25 l1 x5_1).f1.f2))) (ds := []) #[F,F,F,F,F,F,F] (by kernel_rfl) rfl rfl ⟨(bc BK680.out 0).trans rfl, (bc BK680.out 1).trans rfl, (bc BK680.out 2).trans rfl, (bc BK680.out 3).trans rfl, (bc BK680.out 4).trans rfl, (bc BK680.out 5).trans rfl, ((HB.out.cell (bq w _ hw681_0)).trans hw681_0), ((HB.out.cell (bq w _ hw681_1)).trans hw681_1), ((HB.out.cell (bq w _ hw681_2)).trans hw681_2), ((HB.out.cell (bq w _ hw681_3)).trans hw681_3), ((HB.out.cell (bq w _ hw681_4)).trans hw681_4), ((HB.out.cell (bq w _ hw681_5)).trans hw681_5)⟩ (fun hHeld => ?_)
     generalize wr.drew = w8 at BK680 HB hx681_0 hx681_1 hx681_2 hx681_3 hx681_4 hx681_5 hHeld ⊢
     refine pure_ (i := 0) (N := some 17) (v := ?_) (a' := ?_) #[T,F,F,F,F,F,F] rfl rfl (by kernel_rfl) (fun _ _ _ h => h) (Or.inl ⟨by rfl, ?_⟩) ?_ ?_
     rotate_left
     ·intro w'
      go_simp
      with_reducible rfl
     rotate_left
     ·simp only [Act.put, psl, i64_w, i32_w]
      rfl
     refine pure_ (i := 1) (N := some 18) (v := ?_) (a' := ?_) #[T,T,F,F,F,F,F] rfl rfl (by kernel_rfl) (fun _ _ _ h => h) (Or.inl ⟨by rfl, ?_⟩) ?_ ?_
     rotate_left
     ·intro w'
      go_simp
      with_reducible rfl
     rotate_left
     ·simp only [Act.put, psl, i64_w, i32_w]
      rfl
     refine pure_ (i := 2) (N := some 19) (v := ?_) (a' := ?_) #[T,T,T,F,F,F,F] rfl rfl (by kernel_rfl) (fun _ _ _ h => h) (Or.inl ⟨by rfl, ?_⟩) ?_ ?_
     rotate_left
     ·intro w'
      go_simp
      with_reducible rfl
     rotate_left
     ·simp only [Act.put, psl, i64_w, i32_w]
      rfl
     refine take_ (i := 3) (N := some 20) (v := ?_) (a' := ?_) #[T,T,T,T,F,F,F] rfl rfl (by kernel_rfl) (fun _ _ _ h => h) (Or.inl ⟨by rfl, ?_⟩) hHeld ?_ ?_
     rotate_left
     ·rintro w' ⟨s0, s1, s2, s3, s4, s5, s6, s7, s8, s9, s10, s11⟩
      go_simp
      with_reducible rfl
     rotate_left
     ·simp only [Act.put, psl, i64_w, i32_w]
      rfl
     refine take_ (i := 4) (N := some 21) (v := ?_) (a' := ?_) #[T,T,T,T,T,F,F] rfl rfl (by kernel_rfl) (fun _ _ _ h => h) (Or.inl ⟨by rfl, ?_⟩) hHeld ?_ ?_
     rotate_left
     ·rintro w' ⟨s0, s1, s2, s3, s4, s5, s6, s7, s8, s9, s10, s11⟩
      go_simp
      with_reducible rfl
     rotate_left
     ·simp only [Act.put, psl, i64_w, i32_w]
      rfl
     refine one_ (i := 5) (N := some 22) (fl 7 6 []) rfl rfl (by kernel_rfl) (by decide) (fun K hK => ?_)
     refine goes_ Try.func32 (by kernel_rfl) rfl #[.agg #[.int .i64 ((rd_T25 l1 x5_1).f0.f0), .int .i64 ((rd_T25 l1 x5_1).f0.f1), .int .i64 ((rd_T25 l1 x5_1).f0.f2), .int .i64 ((rd_T25 l1 x5_1).f1.f0), .int .i64 ((rd_T25 l1 x5_1).f1.f1), .int .i64 ((rd_T25 l1 x5_1).f1.f2)], .agg #[.int .i64 a0_0, .int .i64 a0_1, .int .i64 a0_2, .int .i64 a0_3, .int .i64 a0_4, .int .i64 a0_5]] (by rfl) rfl rfl (by (try simp only [pml]); first | done | rfl | (simp only [pdt]; rfl)) ?_
     with_reducible refine (r_Inside.calls k1 ((rd_T25 l1 x5_1).f0.f0) ((rd_T25 l1 x5_1).f0.f1) ((rd_T25 l1 x5_1).f0.f2) ((rd_T25 l1 x5_1).f1.f0) ((rd_T25 l1 x5_1).f1.f1) ((rd_T25 l1 x5_1).f1.f2) a0_0 a0_1 a0_2 a0_3 a0_4 a0_5 true _ A6.out).mono ?_
     rintro e w9 ⟨rfl, hb⟩
     refine ⟨_, rfl, ?_⟩
     have n0_ := bB BK680 hb
     have n1_ := bS HB hb
     clear BK680 HB
     have BK680 := n0_
     have HB := n1_
     clear n0_ n1_
     (try clear hb)
     (try clear hb2)
     (try clear hk)
     (try clear hi)
     refine hK.out _ _ ⟨(bc BK680.out 0).trans rfl, (bc BK680.out 1).trans rfl, (bc BK680.out 2).trans rfl, (bc BK680.out 3).trans rfl, (bc BK680.out 4).trans rfl, (bc BK680.out 5).trans rfl, ((HB.out.cell (bq w _ hw681_0)).trans hw681_0), ((HB.out.cell (bq w _ hw681_1)).trans hw681_1), ((HB.out.cell (bq w _ hw681_2)).trans hw681_2), ((HB.out.cell (bq w _ hw681_3)).trans hw681_3), ((HB.out.cell (bq w _ hw681_4)).trans hw681_4), ((HB.out.cell (bq w _ hw681_5)).trans hw681_5)⟩ (fun hHeld => ?_)
     clear hK K
     refine norm_ (a' := ?_) ?_ ?_
     rotate_left
     ·show Act.put _ (some 22) _ = _
      simp only [Act.put, psl, i64_w, i32_w]
      rfl
     refine pure_ (i := 6) (N := some 23) (v := ?_) (a' := ?_) #[T,T,T,T,T,T,T] rfl rfl (by kernel_rfl) (fun _ _ _ h => h) (Or.inl ⟨by rfl, ?_⟩) ?_ ?_
     rotate_left
     ·intro w'
      go_simp
      with_reducible rfl
     rotate_left
     ·simp only [Act.put, psl, i64_w, i32_w]
      rfl
     refine done_ (by kernel_rfl) ?_
     try go_wp2
     go_roundg k1
     case measure => have := HK1.out; omega
     case rel => exact ⟨(wrap64 (x5_1 + 1)), sqD, H', ⟨by have := HK1.out; omega⟩, ⟨fb BK680.out⟩, ⟨fW HB.out⟩⟩
    replace c7 := Bool.eq_false_iff.mpr c7
    subst c7
    have H1 : (some 12) = some r := by rw [if_neg (show ¬ (false = true) by decide)] at H; exact H
    clear H
    have H := H1
    clear H1
    obtain rfl := Option.some.inj H
    try go_wp2
    have n0_ := am (blk_drew BK680.out)
    have n1_ := am (below_drew1 HB.out)
    clear BK680 HB
    have BK680 := n0_
    have HB := n1_
    clear n0_ n1_
    have p681 : 0 ≤ (x5_1 : Int) := of_decide_eq_true (by assumption)
    have q681 : x5_1 < (l1.length : Int) := of_decide_eq_true (by assumption)
    obtain ⟨ad681, e681, hx681_0, hx681_1, hx681_2, hx681_3, hx681_4, hx681_5⟩ := at_T25 HR1.out x5_1 p681 q681
    have hw681_5 := hx681_5
    have hw681_4 := hx681_4
    have hw681_3 := hx681_3
    have hw681_2 := hx681_2
    have hw681_1 := hx681_1
    have hw681_0 := hx681_0
    cases e681
    replace hx681_0 := cl HB hx681_0
    replace hx681_1 := cl HB hx681_1
    replace hx681_2 := cl HB hx681_2
    replace hx681_3 := cl HB hx681_3
    replace hx681_4 := cl HB hx681_4
    replace hx681_5 := cl HB hx681_5
    replace p681 := eq_true p681
    replace q681 := eq_true q681
    refine start_ (n := 7) (S := fun w' => w'.cell? ⟨gb680, 0, none⟩ = some (.int .i64 a0_0) ∧ w'.cell? ⟨gb680, 1, none⟩ = some (.int .i64 a0_1) ∧ w'.cell? ⟨gb680, 2, none⟩ = some (.int .i64 a0_2) ∧ w'.cell? ⟨gb680, 3, none⟩ = some (.int .i64 a0_3) ∧ w'.cell? ⟨gb680, 4, none⟩ = some (.int .i64 a0_4) ∧ w'.cell? ⟨gb680, 5, none⟩ = some (.int .i64 a0_5) ∧ w'.cell? (ad681.add ((x5_1).toNat * 6)) = some (.int .i64 ((rd_T25 l1 x5_1).f0.f0)) ∧ w'.cell? ⟨(ad681.add ((x5_1).toNat * 6)).block, (ad681.add ((x5_1).toNat * 6)).off + 1, none⟩ = some (.int .i64 ((rd_T25 l1 x5_1).f0.f1)) ∧ w'.cell? ⟨(ad681.add ((x5_1).toNat * 6)).block, (ad681.add ((x5_1).toNat * 6)).off + 2, none⟩ = some (.int .i64 ((rd_T25 l1 x5_1).f0.f2)) ∧ w'.cell? ⟨(ad681.add ((x5_1).toNat * 6)).block, (ad681.add ((x5_1).toNat * 6)).off + 3, none⟩ = some (.int .i64 ((rd_T25 l1 x5_1).f1.f0)) ∧ w'.cell? ⟨(ad681.add ((x5_1).toNat * 6)).block, (ad681.add ((x5_1).toNat * 6)).off + 4, none⟩ = some (.int .i64 ((rd_T25 l1 x5_1).f1.f1)) ∧ w'.cell? ⟨(ad681.add ((x5_1).toNat * 6)).block, (ad681.add ((x5_1).toNat * 6)).off + 5, none⟩ = some (.int .i64 ((rd_T25 l1 x5_1).f1.f2))) (ds := []) #[F,F,F,F,F,F,F] (by kernel_rfl) rfl rfl ⟨(bc BK680.out 0).trans rfl, (bc BK680.out 1).trans rfl, (bc BK680.out 2).trans rfl, (bc BK680.out 3).trans rfl, (bc BK680.out 4).trans rfl, (bc BK680.out 5).trans rfl, ((HB.out.cell (bq w _ hw681_0)).trans hw681_0), ((HB.out.cell (bq w _ hw681_1)).trans hw681_1), ((HB.out.cell (bq w _ hw681_2)).trans hw681_2), ((HB.out.cell (bq w _ hw681_3)).trans hw681_3), ((HB.out.cell (bq w _ hw681_4)).trans hw681_4), ((HB.out.cell (bq w _ hw681_5)).trans hw681_5)⟩ (fun hHeld => ?_)
    generalize wr.drew = w10 at BK680 HB hx681_0 hx681_1 hx681_2 hx681_3 hx681_4 hx681_5 hHeld ⊢
    refine pure_ (i := 0) (N := some 17) (v := ?_) (a' := ?_) #[T,F,F,F,F,F,F] rfl rfl (by kernel_rfl) (fun _ _ _ h => h) (Or.inl ⟨by rfl, ?_⟩) ?_ ?_
    rotate_left
    ·intro w'
     go_simp
     with_reducible rfl
    rotate_left
    ·simp only [Act.put, psl, i64_w, i32_w]
     rfl
    refine pure_ (i := 1) (N := some 18) (v := ?_) (a' := ?_) #[T,T,F,F,F,F,F] rfl rfl (by kernel_rfl) (fun _ _ _ h => h) (Or.inl ⟨by rfl, ?_⟩) ?_ ?_
    rotate_left
    ·intro w'
     go_simp
     with_reducible rfl
    rotate_left
    ·simp only [Act.put, psl, i64_w, i32_w]
     rfl
    refine pure_ (i := 2) (N := some 19) (v := ?_) (a' := ?_) #[T,T,T,F,F,F,F] rfl rfl (by kernel_rfl) (fun _ _ _ h => h) (Or.inl ⟨by rfl, ?_⟩) ?_ ?_
    rotate_left
    ·intro w'
     go_simp
     with_reducible rfl
    rotate_left
    ·simp only [Act.put, psl, i64_w, i32_w]
     rfl
    refine take_ (i := 3) (N := some 20) (v := ?_) (a' := ?_) #[T,T,T,T,F,F,F] rfl rfl (by kernel_rfl) (fun _ _ _ h => h) (Or.inl ⟨by rfl, ?_⟩) hHeld ?_ ?_
    rotate_left
    ·rintro w' ⟨s0, s1, s2, s3, s4, s5, s6, s7, s8, s9, s10, s11⟩
     go_simp
     with_reducible rfl
    rotate_left
    ·simp only [Act.put, psl, i64_w, i32_w]
     rfl
    refine take_ (i := 4) (N := some 21) (v := ?_) (a' := ?_) #[T,T,T,T,T,F,F] rfl rfl (by kernel_rfl) (fun _ _ _ h => h) (Or.inl ⟨by rfl, ?_⟩) hHeld ?_ ?_
    rotate_left
    ·rintro w' ⟨s0, s1, s2, s3, s4, s5, s6, s7, s8, s9, s10, s11⟩
     go_simp
     with_reducible rfl
    rotate_left
    ·simp only [Act.put, psl, i64_w, i32_w]
     rfl
    refine one_ (i := 5) (N := some 22) (fl 7 6 []) rfl rfl (by kernel_rfl) (by decide) (fun K hK => ?_)
    refine goes_ Try.func32 (by kernel_rfl) rfl #[.agg #[.int .i64 ((rd_T25 l1 x5_1).f0.f0), .int .i64 ((rd_T25 l1 x5_1).f0.f1), .int .i64 ((rd_T25 l1 x5_1).f0.f2), .int .i64 ((rd_T25 l1 x5_1).f1.f0), .int .i64 ((rd_T25 l1 x5_1).f1.f1), .int .i64 ((rd_T25 l1 x5_1).f1.f2)], .agg #[.int .i64 a0_0, .int .i64 a0_1, .int .i64 a0_2, .int .i64 a0_3, .int .i64 a0_4, .int .i64 a0_5]] (by rfl) rfl rfl (by (try simp only [pml]); first | done | rfl | (simp only [pdt]; rfl)) ?_
    with_reducible refine (r_Inside.calls k1 ((rd_T25 l1 x5_1).f0.f0) ((rd_T25 l1 x5_1).f0.f1) ((rd_T25 l1 x5_1).f0.f2) ((rd_T25 l1 x5_1).f1.f0) ((rd_T25 l1 x5_1).f1.f1) ((rd_T25 l1 x5_1).f1.f2) a0_0 a0_1 a0_2 a0_3 a0_4 a0_5 false _ A6.out).mono ?_
    rintro e w11 ⟨rfl, hb⟩
    refine ⟨_, rfl, ?_⟩
    have n0_ := bB BK680 hb
    have n1_ := bS HB hb
    clear BK680 HB
    have BK680 := n0_
    have HB := n1_
    clear n0_ n1_
    (try clear hb)
    (try clear hb2)
    (try clear hk)
    (try clear hi)
    refine hK.out _ _ ⟨(bc BK680.out 0).trans rfl, (bc BK680.out 1).trans rfl, (bc BK680.out 2).trans rfl, (bc BK680.out 3).trans rfl, (bc BK680.out 4).trans rfl, (bc BK680.out 5).trans rfl, ((HB.out.cell (bq w _ hw681_0)).trans hw681_0), ((HB.out.cell (bq w _ hw681_1)).trans hw681_1), ((HB.out.cell (bq w _ hw681_2)).trans hw681_2), ((HB.out.cell (bq w _ hw681_3)).trans hw681_3), ((HB.out.cell (bq w _ hw681_4)).trans hw681_4), ((HB.out.cell (bq w _ hw681_5)).trans hw681_5)⟩ (fun hHeld => ?_)
    clear hK K
    refine norm_ (a' := ?_) ?_ ?_
    rotate_left
    ·show Act.put _ (some 22) _ = _
     simp only [Act.put, psl, i64_w, i32_w]
     rfl
    refine pure_ (i := 6) (N := some 23) (v := ?_) (a' := ?_) #[T,T,T,T,T,T,T] rfl rfl (by kernel_rfl) (fun _ _ _ h => h) (Or.inl ⟨by rfl, ?_⟩) ?_ ?_
    rotate_left
    ·intro w'
     go_simp
     with_reducible rfl
    rotate_left
    ·simp only [Act.put, psl, i64_w, i32_w]
     rfl
    refine done_ (by kernel_rfl) ?_
    try go_wp2
    go_ret
    exact ⟨sqE, fW HB.out⟩
   ·rw [if_neg c4] at H
    have c4b0 : decide (x5_1 < (l1.length : Int)) = false := decide_eq_false c4
    clear c4
    replace H := Option.bind_eq_some_iff.mp H
    obtain ⟨⟨t683, t684, t685⟩, A120, H⟩ := H
    replace H : (if t685 = true then (some 11) else (r_Partition.l1 k1 l1 0 0 a0_0 a0_1 a0_2 a0_3 a0_4 a0_5)) = some r := H
    have A12 := am A120
    clear A120
    by_cases c13 : t685 = true
    ·subst c13
     have H1 : (some 11) = some r := by rw [if_pos rfl] at H; exact H
     clear H
     have H := H1
     clear H1
     obtain rfl := Option.some.inj H
     go_wp2_with (first | ((with_reducible refine gate_callee (f := 43) rfl ?_); refine goesL_ (some 26) rfl rfl Try.func43 (by kernel_rfl) rfl #[.slice A1 l1.length c1] rfl (by (try simp only [pml]); first | done | rfl | (simp only [pdt]; rfl)) ?_; (with_reducible refine (r_Clash.calls k1 _ _ l1 t683 t684 true _ ?side1 ?side2 A12.out).mono ?_); (case side1 => repeat (first | exact (Kd.C_below HR1.out HB.out) | (with_reducible refine Kd.C_alloc ?_ _) | (with_reducible refine Kd.C_drewN ?_ _) | (with_reducible refine Kd.C_drew ?_))); (case side2 => exact HC1.out); rintro e w14 ⟨rfl, hb⟩; refine ⟨_, rfl, ?_⟩; replace BK680 := bB BK680 hb; replace HB := bS HB hb; (try clear hb); (try clear hb2); (try clear hk); (try clear hi)))
     go_ret
     exact ⟨sqE, fW HB.out⟩
    ·replace c13 := Bool.eq_false_iff.mpr c13
     subst c13
     have H1 : (r_Partition.l1 k1 l1 0 0 a0_0 a0_1 a0_2 a0_3 a0_4 a0_5) = some r := by rw [if_neg (show ¬ (false = true) by decide)] at H; exact H
     clear H
     have H := H1
     clear H1
     have H' := am H
     clear H
     go_wp2_with (first | ((with_reducible refine gate_callee (f := 43) rfl ?_); refine goesL_ (some 26) rfl rfl Try.func43 (by kernel_rfl) rfl #[.slice A1 l1.length c1] rfl (by (try simp only [pml]); first | done | rfl | (simp only [pdt]; rfl)) ?_; (with_reducible refine (r_Clash.calls k1 _ _ l1 t683 t684 false _ ?side1 ?side2 A12.out).mono ?_); (case side1 => repeat (first | exact (Kd.C_below HR1.out HB.out) | (with_reducible refine Kd.C_alloc ?_ _) | (with_reducible refine Kd.C_drewN ?_ _) | (with_reducible refine Kd.C_drew ?_))); (case side2 => exact HC1.out); rintro e w15 ⟨rfl, hb⟩; refine ⟨_, rfl, ?_⟩; replace BK680 := bB BK680 hb; replace HB := bS HB hb; (try clear hb); (try clear hb2); (try clear hk); (try clear hi)))
     go_loopg [9, 10] k1 (fun kq v9 v10 w' => ∃ (x9_2 : Int) (x10_2 : Int), v9 = .int .i64 x9_2 ∧ v10 = .int .i64 x10_2 ∧ Aside0 (r_Partition.l1 kq l1 x9_2 x10_2 a0_0 a0_1 a0_2 a0_3 a0_4 a0_5 = some r) ∧ Aside0 (kq ≤ k1) ∧ Aside0 (w'.heap[gb680]? = some (.cells #[.int .i64 a0_0, .int .i64 a0_1, .int .i64 a0_2, .int .i64 a0_3, .int .i64 a0_4, .int .i64 a0_5] 25 (0, 0))) ∧ Aside0 (Below w.heap.size w w'))
     case atStart => exact ⟨(0), (0), sqD, sqD, H', ⟨Nat.le_refl _⟩, ⟨fb BK680.out⟩, ⟨fW HB.out⟩⟩
     case round =>
      clear H'
      try clear c1;try clear p2;try clear c3;try clear c4;try clear c4b0;try clear c5;try clear c5b0;try clear p6;try clear q6;try clear hx6;try clear c7;try clear c13;try clear hx681_0;try clear hx681_1;try clear hx681_2;try clear hx681_3;try clear hx681_4;try clear hx681_5;try clear p2;try clear p681;try clear q681
      obtain ⟨x9_2, x10_2, rfl, rfl, HA, HK2, BK680, HB⟩ := hrel
      cases gk with
      | zero => exact absurd HA.out (by simp [r_Partition.l1])
      | succ k2 =>
       have H := HA.out
       clear HA
       simp only [r_Partition.l1] at H
       by_cases c16 : x10_2 < (l1.length : Int)
       ·rw [if_pos c16] at H
        have c16b0 : decide (x10_2 < (l1.length : Int)) = true := decide_eq_true c16
        clear c16
        by_cases c17 : 0 ≤ x10_2
        rotate_left
        ·rw [if_neg c17] at H
         exact absurd H (by simp)
        rw [if_pos c17] at H
        have c17b0 : decide (0 ≤ x10_2) = true := decide_eq_true c17
        clear c17
        replace H := Option.bind_eq_some_iff.mp H
        obtain ⟨t687, A180, H⟩ := H
        replace H : (r_Partition.l1 k2 l1 (wrap64 (x9_2 + t687)) (wrap64 (x10_2 + 1)) a0_0 a0_1 a0_2 a0_3 a0_4 a0_5) = some r := H
        have A18 := am A180
        clear A180
        have H' := am H
        clear H
        have p686 : 0 ≤ (x10_2 : Int) := of_decide_eq_true (by assumption)
        have q686 : x10_2 < (l1.length : Int) := of_decide_eq_true (by assumption)
        obtain ⟨ad686, e686, hx686_0, hx686_1, hx686_2, hx686_3, hx686_4, hx686_5⟩ := at_T25 HR1.out x10_2 p686 q686
        cases e686
        replace hx686_0 := cl HB hx686_0
        replace hx686_1 := cl HB hx686_1
        replace hx686_2 := cl HB hx686_2
        replace hx686_3 := cl HB hx686_3
        replace hx686_4 := cl HB hx686_4
        replace hx686_5 := cl HB hx686_5
        replace p686 := eq_true p686
        replace q686 := eq_true q686
        go_wp2_with (first | ((with_reducible refine gate_callee (f := 24) rfl ?_); refine goesL_ (some 42) rfl rfl Try.func24 (by kernel_rfl) rfl #[.agg #[.int .i64 ((rd_T25 l1 x10_2).f0.f0), .int .i64 ((rd_T25 l1 x10_2).f0.f1), .int .i64 ((rd_T25 l1 x10_2).f0.f2), .int .i64 ((rd_T25 l1 x10_2).f1.f0), .int .i64 ((rd_T25 l1 x10_2).f1.f1), .int .i64 ((rd_T25 l1 x10_2).f1.f2)]] rfl (by (try simp only [pml]); first | done | rfl | (simp only [pdt]; rfl)) ?_; (with_reducible refine (r_Volume.calls ((rd_T25 l1 x10_2).f0.f0) ((rd_T25 l1 x10_2).f0.f1) ((rd_T25 l1 x10_2).f0.f2) ((rd_T25 l1 x10_2).f1.f0) ((rd_T25 l1 x10_2).f1.f1) ((rd_T25 l1 x10_2).f1.f2) t687 _ A18.out).mono ?_); rintro e w19 ⟨rfl, hb⟩; refine ⟨_, rfl, ?_⟩; replace BK680 := bB BK680 hb; replace HB := bS HB hb; (try clear hb); (try clear hb2); (try clear hk); (try clear hi)))
        go_roundg k2
        case measure => have := HK1.out; have := HK2.out; omega
        case rel => exact ⟨(wrap64 (x9_2 + t687)), (wrap64 (x10_2 + 1)), sqD, sqD, H', ⟨by have := HK1.out; have := HK2.out; omega⟩, ⟨fb BK680.out⟩, ⟨fW HB.out⟩⟩
       ·rw [if_neg c16] at H
        have c16b0 : decide (x10_2 < (l1.length : Int)) = false := decide_eq_false c16
        clear c16
        replace H := Option.bind_eq_some_iff.mp H
        obtain ⟨t688, A200, H⟩ := H
        replace H : (if x9_2 = t688 then (some 0) else (some 9)) = some r := H
        have A20 := am A200
        clear A200
        by_cases c21 : x9_2 = t688
        ·rw [if_pos c21] at H
         have c21b0 : (x9_2 == t688) = true := beq_iff_eq.mpr c21
         have c21b1 : (x9_2 != t688) = false := bne_eq_false_iff_eq.mpr c21
         clear c21
         obtain rfl := Option.some.inj H
         have := yC1 BK680
         have := kC1 BK680
         have := kC2 BK680
         have := kC3 BK680
         have := kC4 BK680
         have := kC5 BK680
         have := bf BK680.out 0
         have := bf BK680.out 1
         have := bf BK680.out 2
         have := bf BK680.out 3
         have := bf BK680.out 4
         have := bf BK680.out 5
         go_wp2_with (first | ((with_reducible refine gate_callee (f := 24) rfl ?_); refine goesL_ (some 46) rfl rfl Try.func24 (by kernel_rfl) rfl #[.agg #[.int .i64 a0_0, .int .i64 a0_1, .int .i64 a0_2, .int .i64 a0_3, .int .i64 a0_4, .int .i64 a0_5]] rfl (by (try simp only [pml]); first | done | rfl | (simp only [pdt]; rfl)) ?_; (with_reducible refine (r_Volume.calls a0_0 a0_1 a0_2 a0_3 a0_4 a0_5 t688 _ A20.out).mono ?_); rintro e w23 ⟨rfl, hb⟩; refine ⟨_, rfl, ?_⟩; replace BK680 := bB BK680 hb; replace HB := bS HB hb; (try clear hb); (try clear hb2); (try clear hk); (try clear hi)))
         go_ret
         exact ⟨sqE, fW HB.out⟩
        ·rw [if_neg c21] at H
         have c21b0 : (x9_2 == t688) = false := beq_eq_false_iff_ne.mpr c21
         have c21b1 : (x9_2 != t688) = true := bne_iff_ne.mpr c21
         obtain rfl := Option.some.inj H
         have := yC1 BK680
         have := kC1 BK680
         have := kC2 BK680
         have := kC3 BK680
         have := kC4 BK680
         have := kC5 BK680
         have := bf BK680.out 0
         have := bf BK680.out 1
         have := bf BK680.out 2
         have := bf BK680.out 3
         have := bf BK680.out 4
         have := bf BK680.out 5
         go_wp2_with (first | ((with_reducible refine gate_callee (f := 24) rfl ?_); refine goesL_ (some 46) rfl rfl Try.func24 (by kernel_rfl) rfl #[.agg #[.int .i64 a0_0, .int .i64 a0_1, .int .i64 a0_2, .int .i64 a0_3, .int .i64 a0_4, .int .i64 a0_5]] rfl (by (try simp only [pml]); first | done | rfl | (simp only [pdt]; rfl)) ?_; (with_reducible refine (r_Volume.calls a0_0 a0_1 a0_2 a0_3 a0_4 a0_5 t688 _ A20.out).mono ?_); rintro e w25 ⟨rfl, hb⟩; refine ⟨_, rfl, ?_⟩; replace BK680 := bB BK680 hb; replace HB := bS HB hb; (try clear hb); (try clear hb2); (try clear hk); (try clear hi)))
         go_ret
         exact ⟨sqE, fW HB.out⟩

end Go.Proofs.Ytmmdikhmlmoolaa.QA
