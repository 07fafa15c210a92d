import Derived.Test.YtcembjgpcbodcaaZQAx0
import Derived.Test.YtcembjgpcbodcaaZQAx1
import Derived.Test.YtcembjgpcbodcaaZQAx11
import Derived.Test.YtcembjgpcbodcaaZQAx18
namespace Go.Proofs.Ytcembjgpcbodcaa.QA
open Go.RowKit Go.Proofs.YtcembjgpcbodcaaW.PrintWords Go.Proofs.YtcembjgpcbodcaaW.PrintLast Go.Proofs.YtcembjgpcbodcaaW.PrintMore
open Go.Proofs.YtcembjgpcbodcaaW.PrintWords renaming blk_drewN → bN, blk_drew → bd, blk_alloc → ba, below_drew1 → wd, blk_frozen → bf, blk_cell → bc, blk_far → bF, box_event → be
open Aside0 renaming mk → am
open World renaming block_lt_of_cell? → bq
attribute [local go_sem] max2_int min2_int max_two min_two max_three min_three max_four min_four
set_option linter.unusedVariables false
set_option linter.unusedSimpArgs false

attribute [local go_sem high] eqA23
mutual
def r_Hull.l0 : Nat → List (S23) → Int → Int → Int → Option ((List (S23)))
 | 0, _, _, _, _ => none
 | k + 1, x0, x4, x349000, x349001 => if x4 < (x0.length : Int) then (if 0 ≤ x4 then ((r_Less.f k ((rd_T23 x0 x4).f0) ((rd_T23 x0 x4).f1) x349000 x349001).bind fun t350 => (if t350 = true then (r_Hull.l0 k x0 (wrap64 (x4 + 1)) ((rd_T23 x0 x4).f0) ((rd_T23 x0 x4).f1)) else (r_Hull.l0 k x0 (wrap64 (x4 + 1)) x349000 x349001))) else (none)) else (r_Hull.l1 k x0 (([(⟨x349000, x349001⟩ : S23)] : List (S23))) x349000 x349001)
def r_Hull.l1 : Nat → List (S23) → List (S23) → Int → Int → Option ((List (S23)))
 | 0, _, _, _, _ => none
 | k + 1, x0, x5, x349000, x349001 => if (x5.length : Int) ≤ (x0.length : Int) then (if 0 ≤ (wrap64 ((x5.length : Int) - 1)) then (if (wrap64 ((x5.length : Int) - 1)) < (x5.length : Int) then (r_Hull.l2 k x0 x5 0 x349000 x349001 ((rd_T23 x5 (wrap64 ((x5.length : Int) - 1))).f0) ((rd_T23 x5 (wrap64 ((x5.length : Int) - 1))).f1) ((rd_T23 x5 (wrap64 ((x5.length : Int) - 1))).f0) ((rd_T23 x5 (wrap64 ((x5.length : Int) - 1))).f1)) else (none)) else (none)) else (some x5)
def r_Hull.l2 : Nat → List (S23) → List (S23) → Int → Int → Int → Int → Int → Int → Int → Option ((List (S23)))
 | 0, _, _, _, _, _, _, _, _, _ => none
 | k + 1, x0, x5, x8, x349000, x349001, x357000, x357001, x358000, x358001 => if x8 < (x0.length : Int) then (if 0 ≤ x8 then (if (((rd_T23 x0 x8).f0) == x357000 && (((rd_T23 x0 x8).f1) == x357001)) = true then (r_Hull.l2 k x0 x5 (wrap64 (x8 + 1)) x349000 x349001 x357000 x357001 x358000 x358001) else ((r_Orient.f x357000 x357001 x358000 x358001 ((rd_T23 x0 x8).f0) ((rd_T23 x0 x8).f1)).bind fun t363 => (if (x358000 == x357000 && (x358001 == x357001)) = true then (r_Hull.l2 k x0 x5 (wrap64 (x8 + 1)) x349000 x349001 x357000 x357001 ((rd_T23 x0 x8).f0) ((rd_T23 x0 x8).f1)) else (if t363 < 0 then (r_Hull.l2 k x0 x5 (wrap64 (x8 + 1)) x349000 x349001 x357000 x357001 ((rd_T23 x0 x8).f0) ((rd_T23 x0 x8).f1)) else (if t363 = 0 then ((r_far.f x357000 x357001 ((rd_T23 x0 x8).f0) ((rd_T23 x0 x8).f1)).bind fun t364 => ((r_far.f x357000 x357001 x358000 x358001).bind fun t365 => (if t364 > t365 then (r_Hull.l2 k x0 x5 (wrap64 (x8 + 1)) x349000 x349001 x357000 x357001 ((rd_T23 x0 x8).f0) ((rd_T23 x0 x8).f1)) else (r_Hull.l2 k x0 x5 (wrap64 (x8 + 1)) x349000 x349001 x357000 x357001 x358000 x358001)))) else (r_Hull.l2 k x0 x5 (wrap64 (x8 + 1)) x349000 x349001 x357000 x357001 x358000 x358001)))))) else (none)) else (if (x358000 == x349000 && (x358001 == x349001)) = true then (some x5) else (if x5.length < 8796093022208 then (r_Hull.l1 k x0 (x5 ++ [(⟨x358000, x358001⟩ : S23)]) x349000 x349001) else (none)))
end
def r_Hull.f (k : Nat) (l0 : List (S23)) : Option ((List (S23))) := if 0 < (l0.length : Int) then (r_Hull.l0 k l0 0 ((rd_T23 l0 0).f0) ((rd_T23 l0 0).f1)) else (none)
def r_Hull.T17 : Bool × List (List Nat × List Nat) := (true, [([], []), ([], []), ([0, 1], [0, 1]), ([2], [2]), ([3], [3]), ([4, 3], [3, 4]), ([3, 5], [3, 5]), ([6, 3], [6]), ([7], [7]), ([8, 7], [7, 8]), ([9, 7, 7], [7, 9]), ([10], [10]), ([10], [10]), ([11, 12, 10, 10], [10, 11, 12]), ([10], [10]), ([10], [10]), ([14, 15, 13, 10], [10, 14, 15]), ([13, 16, 10], [10, 13, 16]), ([10, 17, 7], [7, 10, 17]), ([7, 18], [7, 18])])
def r_Hull.B17 : List Nat := [0, 0, 3, 7, 15, 31, 63, 127, 255, 511, 1023, 2047, 2047, 8191, 2047, 2047, 65535, 131071, 262143, 524287]
theorem r_Hull.tab17 : rtab .any (opsOf Try.f23 17) = r_Hull.T17 := by kernel_rfl
theorem r_Hull.bits17 : waitsOk r_Hull.T17.2 r_Hull.B17 = true := by kernel_rfl
set_option maxHeartbeats 8000000 in
set_option maxRecDepth 100000 in
theorem r_Hull.calls (k : Nat) (A0 : Option Addr) (c0 : Nat) (l0 : List (S23)) (r : List (S23)) (w : World) (hr0 : Kd.C k23 w A0 l0.length l0) (hc0 : l0.length ≤ c0) (h : r_Hull.f k l0 = some r) :
  Calls Try.prog 23 #[.slice A0 l0.length c0] w fun e w' => ∃ v0_ : Value, e = .returned (v0_) ∧ Kd.R k23 23 w' w.heap.size (fun _ => True) v0_ r ∧ Below w.heap.size w w' := by
 have hu23 := Try.underlying23
 have HR0 := am hr0
 have HC0 := am hc0
 clear hr0 hc0
 have HB := am (Below.refl w.heap.size w)
 have H : (if 0 < (l0.length : Int) then (r_Hull.l0 k l0 0 ((rd_T23 l0 0).f0) ((rd_T23 l0 0).f1)) else (none)) = some r := h
 clear h
 by_cases c2 : 0 < (l0.length : Int)
 ·rw [if_pos c2] at H
  have c2b0 : decide (0 < (l0.length : Int)) = true := decide_eq_true c2
  have c2b1 : decide (0 < l0.length) = true := decide_eq_true (by omega)
  clear c2
  have H' := am H
  clear H
  have p347 : 0 ≤ (0 : Int) := (by omega)
  have q347 : 0 < (l0.length : Int) := of_decide_eq_true (by assumption)
  obtain ⟨ad347, e347, hx347_0, hx347_1⟩ := at_T23 HR0.out 0 p347 q347
  cases e347
  have qi347 : (0 < l0.length) = True := eq_true (by omega)
  (try rw [show ((0 : Int)).toNat = 0 from rfl] at hx347_0)
  (try rw [show 0 * 2 = 0 from rfl] at hx347_0)
  (try rw [Addr.add_zero'] at hx347_0)
  (try rw [show ((0 : Int)).toNat = 0 from rfl] at hx347_1)
  (try rw [show 0 * 2 = 0 from rfl] at hx347_1)
  (try rw [Addr.add_zero'] at hx347_1)
  replace p347 := eq_true p347
  replace q347 := eq_true q347
  go_enter Try.func23, Try.ntmps23
  go_wp2_with (first | ((with_reducible refine gate_dst (N := 3) rfl ?_); refine be ?hg (N := 3) ?hd (cs := #[.int .i64 0, .int .i64 0]) (t := 23) ?hr ?_; (case hd | hg => rfl); (case hr => first | (go_simp; done) | (go_simp; rfl)); intro gb348 hg w3 hbox hb; have BK348 := am hbox; have GW348 := sG HB hg; have GE348 := sG HB hg; replace HB := bS HB hb; clear hb hbox hg; obtain ⟨_, _, _, _⟩ := zC2 BK348))
  go_loopg [4] k (fun kq v4 w' => ∃ (x4_1 : Int) (x349000_1 : Int) (x349001_1 : Int), v4 = .int .i64 x4_1 ∧ Aside0 (r_Hull.l0 kq l0 x4_1 x349000_1 x349001_1 = some r) ∧ Aside0 (kq ≤ k) ∧ Aside0 (w'.heap[gb348]? = some (.cells #[.int .i64 x349000_1, .int .i64 x349001_1] 23 (0, 0))) ∧ Aside0 (Below w.heap.size w w'))
  case atStart => exact ⟨(0), ((rd_T23 l0 0).f0), ((rd_T23 l0 0).f1), sqD, H', ⟨Nat.le_refl _⟩, ⟨by (with_reducible repeat first | apply bN | apply bd | apply ba); refine blk_put (cs := #[.int .i64 ((rd_T23 l0 0).f0), .int .i64 0]) ?_ 1 _ rfl; (with_reducible repeat first | apply bN | apply bd | apply ba); refine blk_put (cs := #[.int .i64 0, .int .i64 0]) ?_ 0 _ rfl; (with_reducible repeat first | apply bN | apply bd | apply ba); exact BK348.out⟩, ⟨fW HB.out⟩⟩
  case round =>
   clear H'
   try clear c2;try clear c2b0;try clear c2b1;try clear p2;try clear p3;try clear q3;try clear hx3;try clear qi3;try clear hx347_0;try clear hx347_1;try clear p347;try clear q347
   obtain ⟨x4_1, x349000_1, x349001_1, rfl, HA, HK1, BK348, HB⟩ := hrel
   cases gk with
   | zero => exact absurd HA.out (by simp [r_Hull.l0])
   | succ k1 =>
    have H := HA.out
    clear HA
    simp only [r_Hull.l0] at H
    by_cases c5 : x4_1 < (l0.length : Int)
    ·rw [if_pos c5] at H
     have c5b0 : decide (x4_1 < (l0.length : Int)) = true := decide_eq_true c5
     clear c5
     by_cases c6 : 0 ≤ x4_1
     rotate_left
     ·rw [if_neg c6] at H
      exact absurd H (by simp)
     rw [if_pos c6] at H
     have c6b0 : decide (0 ≤ x4_1) = true := decide_eq_true c6
     clear c6
     replace H := Option.bind_eq_some_iff.mp H
     obtain ⟨t350, A70, H⟩ := H
     replace H : (if t350 = true then (r_Hull.l0 k1 l0 (wrap64 (x4_1 + 1)) ((rd_T23 l0 x4_1).f0) ((rd_T23 l0 x4_1).f1)) else (r_Hull.l0 k1 l0 (wrap64 (x4_1 + 1)) x349000_1 x349001_1)) = some r := H
     have A7 := am A70
     clear A70
     by_cases c8 : t350 = true
     rotate_left
     ·replace c8 := Bool.eq_false_iff.mpr c8
      subst c8
      have H1 : (r_Hull.l0 k1 l0 (wrap64 (x4_1 + 1)) x349000_1 x349001_1) = some r := by rw [if_neg (show ¬ (false = true) by decide)] at H; exact H
      clear H
      have H := H1
      clear H1
      have H' := am H
      clear H
      try go_wp2
      have n0_ := am (bd BK348.out)
      have n1_ := am (wd HB.out)
      clear BK348 HB
      have BK348 := n0_
      have HB := n1_
      clear n0_ n1_
      have p349 : 0 ≤ (x4_1 : Int) := of_decide_eq_true (by assumption)
      have q349 : x4_1 < (l0.length : Int) := of_decide_eq_true (by assumption)
      obtain ⟨ad349, e349, hx349_0, hx349_1⟩ := at_T23 HR0.out x4_1 p349 q349
      have hw349_1 := hx349_1
      have hw349_0 := hx349_0
      obtain rfl : ad347 = ad349 := (by injection e349)
      replace hx349_0 := cl HB hx349_0
      replace hx349_1 := cl HB hx349_1
      replace p349 := eq_true p349
      replace q349 := eq_true q349
      refine start_ (n := 6) (S := fun w' => w'.cell? ⟨gb348, 0, none⟩ = some (.int .i64 x349000_1) ∧ w'.cell? ⟨gb348, 1, none⟩ = some (.int .i64 x349001_1) ∧ w'.cell? (ad347.add ((x4_1).toNat * 2)) = some (.int .i64 ((rd_T23 l0 x4_1).f0)) ∧ w'.cell? ⟨(ad347.add ((x4_1).toNat * 2)).block, (ad347.add ((x4_1).toNat * 2)).off + 1, none⟩ = some (.int .i64 ((rd_T23 l0 x4_1).f1))) (ds := []) #[F,F,F,F,F,F] (by kernel_rfl) rfl rfl ⟨(bc BK348.out 0).trans rfl, (bc BK348.out 1).trans rfl, ((HB.out.cell (bq w _ hw349_0)).trans hw349_0), ((HB.out.cell (bq w _ hw349_1)).trans hw349_1)⟩ (fun hHeld => ?_)
      generalize wr.drew = w12 at BK348 HB hx349_0 hx349_1 hHeld ⊢
      refine pure_ (i := 0) (N := some 20) (v := ?_) (a' := ?_) #[T,F,F,F,F,F] rfl rfl (by kernel_rfl) (fun _ _ _ h => h) (Or.inl ⟨by rfl, ?_⟩) ?_ ?_
      rotate_left
      ·intro w'
       go_simp
       with_reducible rfl
      rotate_left
      ·simp only [Act.put, psl, i64_w, i32_w]
       rfl
      refine pure_ (i := 1) (N := some 21) (v := ?_) (a' := ?_) #[T,T,F,F,F,F] rfl rfl (by kernel_rfl) (fun _ _ _ h => h) (Or.inl ⟨by rfl, ?_⟩) ?_ ?_
      rotate_left
      ·intro w'
       go_simp
       with_reducible rfl
      rotate_left
      ·simp only [Act.put, psl, i64_w, i32_w]
       rfl
      refine pure_ (i := 2) (N := some 22) (v := ?_) (a' := ?_) #[T,T,T,F,F,F] rfl rfl (by kernel_rfl) (fun _ _ _ h => h) (Or.inl ⟨by rfl, ?_⟩) ?_ ?_
      rotate_left
      ·intro w'
       go_simp
       with_reducible rfl
      rotate_left
      ·simp only [Act.put, psl, i64_w, i32_w]
       rfl
      refine take_ (i := 3) (N := some 23) (v := ?_) (a' := ?_) #[T,T,T,T,F,F] rfl rfl (by kernel_rfl) (fun _ _ _ h => h) (Or.inl ⟨by rfl, ?_⟩) hHeld ?_ ?_
      rotate_left
      ·rintro w' ⟨s0, s1, s2, s3⟩
       go_simp
       with_reducible rfl
      rotate_left
      ·simp only [Act.put, psl, i64_w, i32_w]
       rfl
      refine take_ (i := 4) (N := some 24) (v := ?_) (a' := ?_) #[T,T,T,T,T,F] rfl rfl (by kernel_rfl) (fun _ _ _ h => h) (Or.inl ⟨by rfl, ?_⟩) hHeld ?_ ?_
      rotate_left
      ·rintro w' ⟨s0, s1, s2, s3⟩
       go_simp
       with_reducible rfl
      rotate_left
      ·simp only [Act.put, psl, i64_w, i32_w]
       rfl
      refine one_ (i := 5) (N := some 25) (fl 6 6 []) rfl rfl (by kernel_rfl) (by decide) (fun K hK => ?_)
      refine goes_ Try.func54 (by kernel_rfl) rfl #[.agg #[.int .i64 ((rd_T23 l0 x4_1).f0), .int .i64 ((rd_T23 l0 x4_1).f1)], .agg #[.int .i64 x349000_1, .int .i64 x349001_1]] (by rfl) rfl rfl (by (try simp only [pml]); first | done | rfl | (simp only [pdt]; rfl)) ?_
      with_reducible refine (r_Less.calls k1 ((rd_T23 l0 x4_1).f0) ((rd_T23 l0 x4_1).f1) x349000_1 x349001_1 false _ A7.out).mono ?_
      rintro e w13 ⟨rfl, hb⟩
      refine ⟨_, rfl, ?_⟩
      have n0_ := bB BK348 hb
      have n1_ := bS HB hb
      clear BK348 HB
      have BK348 := n0_
      have HB := n1_
      clear n0_ n1_
      (try clear hb)
      (try clear hb2)
      (try clear hk)
      (try clear hi)
      refine hK.out _ _ ⟨(bc BK348.out 0).trans rfl, (bc BK348.out 1).trans rfl, ((HB.out.cell (bq w _ hw349_0)).trans hw349_0), ((HB.out.cell (bq w _ hw349_1)).trans hw349_1)⟩ (fun hHeld => ?_)
      clear hK K
      refine norm_ (a' := ?_) ?_ ?_
      rotate_left
      ·show Act.put _ (some 25) _ = _
       simp only [Act.put, psl, i64_w, i32_w]
       rfl
      refine done_ (by kernel_rfl) ?_
      try go_wp2
      go_roundg k1
      case measure => have := HK1.out; omega
      case rel => exact ⟨(wrap64 (x4_1 + 1)), (x349000_1), (x349001_1), sqD, H', ⟨by have := HK1.out; omega⟩, ⟨fb BK348.out⟩, ⟨fW HB.out⟩⟩
     subst c8
     have H1 : (r_Hull.l0 k1 l0 (wrap64 (x4_1 + 1)) ((rd_T23 l0 x4_1).f0) ((rd_T23 l0 x4_1).f1)) = some r := by rw [if_pos rfl] at H; exact H
     clear H
     have H := H1
     clear H1
     have H' := am H
     clear H
     try go_wp2
     have n0_ := am (bd BK348.out)
     have n1_ := am (wd HB.out)
     clear BK348 HB
     have BK348 := n0_
     have HB := n1_
     clear n0_ n1_
     have p349 : 0 ≤ (x4_1 : Int) := of_decide_eq_true (by assumption)
     have q349 : x4_1 < (l0.length : Int) := of_decide_eq_true (by assumption)
     obtain ⟨ad349, e349, hx349_0, hx349_1⟩ := at_T23 HR0.out x4_1 p349 q349
     have hw349_1 := hx349_1
     have hw349_0 := hx349_0
     obtain rfl : ad347 = ad349 := (by injection e349)
     replace hx349_0 := cl HB hx349_0
     replace hx349_1 := cl HB hx349_1
     replace p349 := eq_true p349
     replace q349 := eq_true q349
     refine start_ (n := 6) (S := fun w' => w'.cell? ⟨gb348, 0, none⟩ = some (.int .i64 x349000_1) ∧ w'.cell? ⟨gb348, 1, none⟩ = some (.int .i64 x349001_1) ∧ w'.cell? (ad347.add ((x4_1).toNat * 2)) = some (.int .i64 ((rd_T23 l0 x4_1).f0)) ∧ w'.cell? ⟨(ad347.add ((x4_1).toNat * 2)).block, (ad347.add ((x4_1).toNat * 2)).off + 1, none⟩ = some (.int .i64 ((rd_T23 l0 x4_1).f1))) (ds := []) #[F,F,F,F,F,F] (by kernel_rfl) rfl rfl ⟨(bc BK348.out 0).trans rfl, (bc BK348.out 1).trans rfl, ((HB.out.cell (bq w _ hw349_0)).trans hw349_0), ((HB.out.cell (bq w _ hw349_1)).trans hw349_1)⟩ (fun hHeld => ?_)
     generalize wr.drew = w9 at BK348 HB hx349_0 hx349_1 hHeld ⊢
     refine pure_ (i := 0) (N := some 20) (v := ?_) (a' := ?_) #[T,F,F,F,F,F] rfl rfl (by kernel_rfl) (fun _ _ _ h => h) (Or.inl ⟨by rfl, ?_⟩) ?_ ?_
     rotate_left
     ·intro w'
      go_simp
      with_reducible rfl
     rotate_left
     ·simp only [Act.put, psl, i64_w, i32_w]
      rfl
     refine pure_ (i := 1) (N := some 21) (v := ?_) (a' := ?_) #[T,T,F,F,F,F] rfl rfl (by kernel_rfl) (fun _ _ _ h => h) (Or.inl ⟨by rfl, ?_⟩) ?_ ?_
     rotate_left
     ·intro w'
      go_simp
      with_reducible rfl
     rotate_left
     ·simp only [Act.put, psl, i64_w, i32_w]
      rfl
     refine pure_ (i := 2) (N := some 22) (v := ?_) (a' := ?_) #[T,T,T,F,F,F] rfl rfl (by kernel_rfl) (fun _ _ _ h => h) (Or.inl ⟨by rfl, ?_⟩) ?_ ?_
     rotate_left
     ·intro w'
      go_simp
      with_reducible rfl
     rotate_left
     ·simp only [Act.put, psl, i64_w, i32_w]
      rfl
     refine take_ (i := 3) (N := some 23) (v := ?_) (a' := ?_) #[T,T,T,T,F,F] rfl rfl (by kernel_rfl) (fun _ _ _ h => h) (Or.inl ⟨by rfl, ?_⟩) hHeld ?_ ?_
     rotate_left
     ·rintro w' ⟨s0, s1, s2, s3⟩
      go_simp
      with_reducible rfl
     rotate_left
     ·simp only [Act.put, psl, i64_w, i32_w]
      rfl
     refine take_ (i := 4) (N := some 24) (v := ?_) (a' := ?_) #[T,T,T,T,T,F] rfl rfl (by kernel_rfl) (fun _ _ _ h => h) (Or.inl ⟨by rfl, ?_⟩) hHeld ?_ ?_
     rotate_left
     ·rintro w' ⟨s0, s1, s2, s3⟩
      go_simp
      with_reducible rfl
     rotate_left
     ·simp only [Act.put, psl, i64_w, i32_w]
      rfl
     refine one_ (i := 5) (N := some 25) (fl 6 6 []) rfl rfl (by kernel_rfl) (by decide) (fun K hK => ?_)
     refine goes_ Try.func54 (by kernel_rfl) rfl #[.agg #[.int .i64 ((rd_T23 l0 x4_1).f0), .int .i64 ((rd_T23 l0 x4_1).f1)], .agg #[.int .i64 x349000_1, .int .i64 x349001_1]] (by rfl) rfl rfl (by (try simp only [pml]); first | done | rfl | (simp only [pdt]; rfl)) ?_
     with_reducible refine (r_Less.calls k1 ((rd_T23 l0 x4_1).f0) ((rd_T23 l0 x4_1).f1) x349000_1 x349001_1 true _ A7.out).mono ?_
     rintro e w10 ⟨rfl, hb⟩
     refine ⟨_, rfl, ?_⟩
     have n0_ := bB BK348 hb
     have n1_ := bS HB hb
     clear BK348 HB
     have BK348 := n0_
     have HB := n1_
     clear n0_ n1_
     (try clear hb)
     (try clear hb2)
     (try clear hk)
     (try clear hi)
     refine hK.out _ _ ⟨(bc BK348.out 0).trans rfl, (bc BK348.out 1).trans rfl, ((HB.out.cell (bq w _ hw349_0)).trans hw349_0), ((HB.out.cell (bq w _ hw349_1)).trans hw349_1)⟩ (fun hHeld => ?_)
     clear hK K
     refine norm_ (a' := ?_) ?_ ?_
     rotate_left
     ·show Act.put _ (some 25) _ = _
      simp only [Act.put, psl, i64_w, i32_w]
      rfl
     refine done_ (by kernel_rfl) ?_
     have p351 : 0 ≤ (x4_1 : Int) := of_decide_eq_true (by assumption)
     have q351 : x4_1 < (l0.length : Int) := of_decide_eq_true (by assumption)
     obtain ⟨ad351, e351, hx351_0, hx351_1⟩ := at_T23 HR0.out x4_1 p351 q351
     obtain rfl : ad347 = ad351 := (by injection e351)
     replace hx351_0 := cl HB hx351_0
     replace hx351_1 := cl HB hx351_1
     replace p351 := eq_true p351
     replace q351 := eq_true q351
     have := yC1 BK348
     have := kC1 BK348
     have := bf BK348.out 0
     have := bf BK348.out 1
     try go_wp2
     go_roundg k1
     case measure => have := HK1.out; omega
     case rel => exact ⟨(wrap64 (x4_1 + 1)), ((rd_T23 l0 x4_1).f0), ((rd_T23 l0 x4_1).f1), sqD, H', ⟨by have := HK1.out; omega⟩, ⟨by (with_reducible repeat first | apply bN | apply bd | apply ba); refine blk_put (cs := #[.int .i64 ((rd_T23 l0 x4_1).f0), .int .i64 x349001_1]) ?_ 1 _ rfl; (with_reducible repeat first | apply bN | apply bd | apply ba); refine blk_put (cs := #[.int .i64 x349000_1, .int .i64 x349001_1]) ?_ 0 _ rfl; (with_reducible repeat first | apply bN | apply bd | apply ba); exact BK348.out⟩, ⟨fW HB.out⟩⟩
    rw [if_neg c5] at H
    have c5b0 : decide (x4_1 < (l0.length : Int)) = false := decide_eq_false c5
    clear c5
    obtain ⟨y352, hy352⟩ : ∃ y_ : List (S23), y_ = (([(⟨x349000_1, x349001_1⟩ : S23)] : List (S23))) := ⟨_, rfl⟩
    replace H : (r_Hull.l1 k1 l0 y352 x349000_1 x349001_1) = some r := by first | (rw [hy352]; with_reducible exact H) | (have H2_ := (Option.bind_some _ _).symm.trans H; rw [hy352]; with_reducible exact H2_) | (have H2_ := (Option.bind_some _ _).symm.trans H; with_reducible exact H2_) | with_reducible exact H | (rw [hy352]; exact H) | exact H
    have Ny352 := am hy352
    clear hy352
    have H' := am H
    clear H
    have := yC1 BK348
    have := kC1 BK348
    have := bf BK348.out 0
    have := bf BK348.out 1
    go_wp2_with (first | ((with_reducible refine gate_dst (N := 31) rfl ?_); refine Kd.R_lit k23 _ 23 ?hg (N := 31) ?hd (xs := ([(⟨x349000_1, x349001_1⟩ : S23)] : List (S23))) (inner := [.int .i64 x349000_1, .int .i64 x349001_1]) (ok := fun _ => True) (okp := fun _ => True) ?hr ?hp (fun _ hk => hk) trivial (Below.refl _ _) (Nat.le_refl _) (by simp) ?_; (case hd | hg => rfl); (case hr => first | (go_simp; done) | (go_simp; rfl)); (case hp => exact (Reps.c2 (show Kd.M k23 _ _ _ (⟨x349000_1, x349001_1⟩ : S23) [.int .i64 x349000_1, .int .i64 x349001_1] from (k23_mkM _ _ _ (⟨x349000_1, x349001_1⟩ : S23) )) (Reps.none _ _))); intro v353 w15 ho16 hb hg_ hnew_; clear hg_ hnew_; (first | rw [← Ny352.out] at ho16 | (simp only [Int.reduceToNat] at ho16; rw [← Ny352.out] at ho16)); have HO354 := am (Kd.R_lower (Kd.R_newB ho16 (g := gb348) (o := .cells #[.int .i64 x349000_1, .int .i64 x349001_1] 23 (0, 0)) (fb BK348.out)) (below_size (fW HB.out))); replace BK348 := bB BK348 hb; replace HB := bS HB hb; clear hb ho16))
    go_loopg [5] k1 (fun kq v5 w' => ∃ (x5_2 : List (S23)), Aside0 (r_Hull.l1 kq l0 x5_2 x349000_1 x349001_1 = some r) ∧ Aside0 (kq ≤ k1) ∧ Aside0 (Kd.R k23 23 w' w.heap.size (fun k_ => k_ ≠ gb348) v5 x5_2) ∧ Aside0 (w'.heap[gb348]? = some (.cells #[.int .i64 x349000_1, .int .i64 x349001_1] 23 (0, 0))) ∧ Aside0 (Below w.heap.size w w'))
    case atStart => exact ⟨(y352), H', ⟨Nat.le_refl _⟩, ⟨by (with_reducible repeat (first | apply Kd.R_alloc | apply Kd.R_drewN | apply Kd.R_drew)); exact Kd.R_mono HO354.out (fun _ hk => hk.2)⟩, ⟨fb BK348.out⟩, ⟨fW HB.out⟩⟩
    case round =>
     clear H'
     try clear c2;try clear c2b0;try clear c2b1;try clear p2;try clear p3;try clear q3;try clear hx3;try clear qi3;try clear c5;try clear c5b0;try clear c6;try clear c6b0;try clear p6;try clear c8;try clear hx347_0;try clear hx347_1;try clear hx349_0;try clear hx349_1;try clear hx351_0;try clear hx351_1;try clear p2;try clear p3;try clear p347;try clear p349;try clear p351;try clear q3;try clear q347;try clear q349;try clear q351
     obtain ⟨x5_2, HA, HK2, HO_5, BK348, HB⟩ := hrel
     cases gk with
     | zero => exact absurd HA.out (by simp [r_Hull.l1])
     | succ k2 =>
      have H := HA.out
      clear HA
      simp only [r_Hull.l1] at H
      by_cases c17 : (x5_2.length : Int) ≤ (l0.length : Int)
      rotate_left
      ·rw [if_neg c17] at H
       have c17b0 : decide ((x5_2.length : Int) ≤ (l0.length : Int)) = false := decide_eq_false c17
       have c17b1 : decide (x5_2.length ≤ l0.length) = false := decide_eq_false (fun h => c17 (Int.ofNat_le.mpr h))
       clear c17
       obtain rfl := Option.some.inj H
       obtain ⟨Ao130, co130, eo130⟩ := Kd.R_slice HO_5.out
       subst eo130
       go_wp2
       go_ret
       exact ⟨_, sqE, by (with_reducible repeat (first | apply Kd.R_alloc | apply Kd.R_drewN | apply Kd.R_drew)); exact Kd.R_mono HO_5.out (fun _ hk => trivial), fW HB.out⟩
      rw [if_pos c17] at H
      have c17b0 : decide ((x5_2.length : Int) ≤ (l0.length : Int)) = true := decide_eq_true c17
      have c17b1 : decide (x5_2.length ≤ l0.length) = true := decide_eq_true (Int.ofNat_le.mp c17)
      clear c17
      obtain ⟨ji18, hji18⟩ : ∃ j_ : Int, (wrap64 ((x5_2.length : Int) - 1)) = j_ := ⟨_, rfl⟩
      replace H : (if 0 ≤ (ji18) then (if (ji18) < (x5_2.length : Int) then (r_Hull.l2 k2 l0 x5_2 0 x349000_1 x349001_1 ((rd_T23 x5_2 (ji18)).f0) ((rd_T23 x5_2 (ji18)).f1) ((rd_T23 x5_2 (ji18)).f0) ((rd_T23 x5_2 (ji18)).f1)) else (none)) else (none)) = some r := by first | (rw [hji18] at H; exact H) | (simp only [hji18] at H ⊢; exact H)
      have hji18w : (IntKind.i64.wrap ((x5_2.length : Int) - 1)) = ji18 := (i64_w _).trans hji18
      by_cases c19 : 0 ≤ (ji18)
      rotate_left
      ·rw [if_neg c19] at H
       exact absurd H (by simp)
      rw [if_pos c19] at H
      have c19b0 : decide (0 ≤ (ji18)) = true := decide_eq_true c19
      clear c19
      by_cases c20 : (ji18) < (x5_2.length : Int)
      rotate_left
      ·rw [if_neg c20] at H
       exact absurd H (by simp)
      rw [if_pos c20] at H
      have c20b0 : decide ((ji18) < (x5_2.length : Int)) = true := decide_eq_true c20
      clear c20
      have H' := am H
      clear H
      obtain ⟨Ao21, co21, eo21⟩ := Kd.R_slice HO_5.out
      subst eo21
      have p355 : 0 ≤ ((ji18) : Int) := of_decide_eq_true (by assumption)
      have q355 : (ji18) < (x5_2.length : Int) := of_decide_eq_true (by assumption)
      obtain ⟨ad355, e355, hx355_0, hx355_1⟩ := at_T23 (Kd.R_reads' HO_5.out).2.2 (ji18) p355 q355
      cases e355
      replace p355 := eq_true p355
      replace q355 := eq_true q355
      go_wp2_with (first | ((with_reducible refine gate_dst (N := 6) rfl ?_); refine be ?hg (N := 6) ?hd (cs := #[.int .i64 0, .int .i64 0]) (t := 23) ?hr ?_; (case hd | hg => rfl); (case hr => first | (go_simp; done) | (go_simp; rfl)); intro gb356 hg w22 hbox hb; replace HO_5 := eR HO_5 hg hb; have BK356 := am hbox; have GW356 := sG HB hg; have GE356 := sG HB hg; replace HB := bS HB hb; have NB348_356 := nL BK348 hg; have NB356_348 := nG BK348 hg; replace BK348 := bB BK348 hb; clear hb hbox hg; have hnb23 := NB356_348.out; have hnc23 := NB348_356.out; obtain ⟨_, _, _, _⟩ := zC2 BK356) | ((with_reducible refine gate_dst (N := 7) rfl ?_); refine be ?hg (N := 7) ?hd (cs := #[.int .i64 0, .int .i64 0]) (t := 23) ?hr ?_; (case hd | hg => rfl); (case hr => first | (go_simp; done) | (go_simp; rfl)); intro gb357 hg w25 hbox hb; replace HO_5 := am (Kd.R_below (Kd.R_elderB (by (with_reducible repeat (first | apply Kd.R_alloc | apply Kd.R_drewN | apply Kd.R_drew)); exact (Kd.R_mono (Kd.R_far (p := ⟨gb356, 1, none⟩) (Kd.R_far (p := ⟨gb356, 0, none⟩) (Kd.R_mono HO_5.out (fun k_ hk => (⟨hk, hk.2⟩ : _ ∧ k_ ≠ gb356))) (fun _ hk => hk.2) (.int .i64 ((rd_T23 x5_2 (ji18)).f0))) (fun _ hk => hk.2) (.int .i64 ((rd_T23 x5_2 (ji18)).f1))) (fun _ h_ => h_.1))) gb357 (Nat.le_of_eq hg.symm)) hb); have BK357 := am hbox; have GW357 := sG HB hg; have GE357 := sG HB hg; replace HB := bS HB hb; replace BK348 := xC3 (kfC BK348.out) hg hb; obtain ⟨NB348_357, NB357_348, BK348⟩ := BK348; replace BK356 := xC3 (o := .cells #[.int .i64 ((rd_T23 x5_2 (ji18)).f0), .int .i64 ((rd_T23 x5_2 (ji18)).f1)] 23 (0, 0)) (kkC BK356.out) hg hb; obtain ⟨NB356_357, NB357_356, BK356⟩ := BK356; clear hb hbox hg; have hnb26 := NB357_348.out; have hnc26 := NB348_357.out; have hnb27 := NB357_356.out; have hnc27 := NB356_357.out; obtain ⟨_, _, _, _⟩ := zC2 BK357))
      go_loopg [8] k2 (fun kq v8 w' => ∃ (x8_3 : Int) (x358000_3 : Int) (x358001_3 : Int), v8 = .int .i64 x8_3 ∧ Aside0 (r_Hull.l2 kq l0 x5_2 x8_3 x349000_1 x349001_1 ((rd_T23 x5_2 (ji18)).f0) ((rd_T23 x5_2 (ji18)).f1) x358000_3 x358001_3 = some r) ∧ Aside0 (kq ≤ k2) ∧ Aside0 (Kd.R k23 23 w' w.heap.size (fun k_ => k_ ≠ gb348 ∧ k_ ≠ gb356 ∧ k_ ≠ gb357) (.slice (some ad355) x5_2.length co21) x5_2) ∧ Aside0 (w'.heap[gb348]? = some (.cells #[.int .i64 x349000_1, .int .i64 x349001_1] 23 (0, 0))) ∧ Aside0 (w'.heap[gb356]? = some (.cells #[.int .i64 ((rd_T23 x5_2 (ji18)).f0), .int .i64 ((rd_T23 x5_2 (ji18)).f1)] 23 (0, 0))) ∧ Aside0 (w'.heap[gb357]? = some (.cells #[.int .i64 x358000_3, .int .i64 x358001_3] 23 (0, 0))) ∧ Aside0 (Below w.heap.size w w'))
      case atStart => exact ⟨(0), ((rd_T23 x5_2 (ji18)).f0), ((rd_T23 x5_2 (ji18)).f1), sqD, H', ⟨Nat.le_refl _⟩, ⟨by (with_reducible repeat (first | apply Kd.R_alloc | apply Kd.R_drewN | apply Kd.R_drew)); exact Kd.R_mono (Kd.R_far (p := ⟨gb357, 1, none⟩) (Kd.R_far (p := ⟨gb357, 0, none⟩) (Kd.R_mono HO_5.out (fun k_ hk => (⟨hk, hk.2⟩ : _ ∧ k_ ≠ gb357))) (fun _ hk => hk.2) (.int .i64 ((rd_T23 x5_2 (ji18)).f0))) (fun _ hk => hk.2) (.int .i64 ((rd_T23 x5_2 (ji18)).f1))) (fun _ hk => ⟨hk.1.1.1, ⟨hk.1.1.2, hk.1.2⟩⟩)⟩, ⟨by (with_reducible repeat first | apply bN | apply bd | apply ba); refine bF ?_ NB348_357.out _; (with_reducible repeat first | apply bN | apply bd | apply ba); refine bF ?_ NB348_357.out _; (with_reducible repeat first | apply bN | apply bd | apply ba); exact BK348.out⟩, ⟨by (with_reducible repeat first | apply bN | apply bd | apply ba); refine bF ?_ NB356_357.out _; (with_reducible repeat first | apply bN | apply bd | apply ba); refine bF ?_ NB356_357.out _; (with_reducible repeat first | apply bN | apply bd | apply ba); exact BK356.out⟩, ⟨by (with_reducible repeat first | apply bN | apply bd | apply ba); refine blk_put (cs := #[.int .i64 ((rd_T23 x5_2 (ji18)).f0), .int .i64 0]) ?_ 1 _ rfl; (with_reducible repeat first | apply bN | apply bd | apply ba); refine blk_put (cs := #[.int .i64 0, .int .i64 0]) ?_ 0 _ rfl; (with_reducible repeat first | apply bN | apply bd | apply ba); exact BK357.out⟩, ⟨fW HB.out⟩⟩
      case round =>
       clear H'
       try clear c1;try clear c2;try clear c2b0;try clear c2b1;try clear p2;try clear p3;try clear q3;try clear hx3;try clear qi3;try clear c5;try clear c5b0;try clear c6;try clear c6b0;try clear p6;try clear c8;try clear c17;try clear c17b0;try clear c17b1;try clear c19;try clear c19b0;try clear c20;try clear c20b0;try clear c23;try clear c26;try clear c27;try clear hx347_0;try clear hx347_1;try clear hx349_0;try clear hx349_1;try clear hx351_0;try clear hx351_1;try clear hx355_0;try clear hx355_1;try clear p2;try clear p3;try clear p347;try clear p349;try clear p351;try clear p355;try clear p6;try clear q3;try clear q347;try clear q349;try clear q351;try clear q355
       obtain ⟨x8_3, x358000_3, x358001_3, rfl, HA, HK3, HO_5, BK348, BK356, BK357, HB⟩ := hrel
       cases gk with
       | zero => exact absurd HA.out (by simp [r_Hull.l2])
       | succ k3 =>
        have H := HA.out
        clear HA
        simp only [r_Hull.l2] at H
        by_cases c29 : x8_3 < (l0.length : Int)
        rotate_left
        ·rw [if_neg c29] at H
         have c29b0 : decide (x8_3 < (l0.length : Int)) = false := decide_eq_false c29
         clear c29
         by_cases c117 : (x358000_3 == x349000_1 && (x358001_3 == x349001_1)) = true
         ·rw [if_pos c117] at H
          have c117b0 : (x358000_3 == x349000_1 && (x358001_3 == x349001_1)) = true := c117
          (try (have c117b1 : decide (x358000_3 = x349000_1 && (x358001_3 == x349001_1)) = true := by simpa using c117))
          (try (have c117b2 : (x358000_3 == x349000_1 && (x358001_3 == x349001_1)) = true := by simpa using c117))
          clear c117
          obtain rfl := Option.some.inj H
          have hnb118 := NB357_348.out
          have hnc118 := NB348_357.out
          have hnb119 := NB357_356.out
          have hnc119 := NB356_357.out
          have := yC1 BK357
          have := kC1 BK357
          have := bf BK357.out 0
          have := bf BK357.out 1
          have hnb121 := NB348_356.out
          have hnc121 := NB356_348.out
          have := yC1 BK348
          have := kC1 BK348
          have := bf BK348.out 0
          have := bf BK348.out 1
          go_wp2
          go_ret
          exact ⟨_, by first | rfl | (simp [errW_none, errW_some] <;> rfl) | (simp only [← hji18]; first | rfl | (simp [errW_none, errW_some] <;> rfl)) | (simp [*, errW_none, errW_some] <;> rfl), by (with_reducible repeat (first | apply Kd.R_alloc | apply Kd.R_drewN | apply Kd.R_drew)); exact Kd.R_mono HO_5.out (fun _ hk => trivial), fW HB.out⟩
         rw [if_neg c117] at H
         have c117b0 : (x358000_3 == x349000_1 && (x358001_3 == x349001_1)) = false := by simpa using c117
         (try (have c117b1 : decide (x358000_3 = x349000_1 && (x358001_3 == x349001_1)) = false := by simpa using c117))
         (try (have c117b2 : (x358000_3 == x349000_1 && (x358001_3 == x349001_1)) = false := by simpa using c117))
         (try (have c117b3 : ¬ (x358000_3 = x349000_1 && (x358001_3 == x349001_1)) := by simpa using c117))
         clear c117
         by_cases c123 : x5_2.length < 8796093022208
         rotate_left
         ·rw [if_neg c123] at H
          exact absurd H (by simp)
         rw [if_pos c123] at H
         have LMc123 := am c123
         clear c123
         obtain ⟨y358, hy358⟩ : ∃ y_ : List (S23), y_ = (x5_2 ++ [(⟨x358000_3, x358001_3⟩ : S23)]) := ⟨_, rfl⟩
         replace H : (r_Hull.l1 k3 l0 y358 x349000_1 x349001_1) = some r := by first | (rw [hy358]; with_reducible exact H) | (have H2_ := (Option.bind_some _ _).symm.trans H; rw [hy358]; with_reducible exact H2_) | (have H2_ := (Option.bind_some _ _).symm.trans H; with_reducible exact H2_) | with_reducible exact H | (rw [hy358]; exact H) | exact H
         have Ny358 := am hy358
         clear hy358
         have H' := am H
         clear H
         have hnb124 := NB357_348.out
         have hnc124 := NB348_357.out
         have hnb125 := NB357_356.out
         have hnc125 := NB356_357.out
         have := yC1 BK357
         have := kC1 BK357
         have := bf BK357.out 0
         have := bf BK357.out 1
         have hnb127 := NB348_356.out
         have hnc127 := NB356_348.out
         have := yC1 BK348
         have := kC1 BK348
         have := bf BK348.out 0
         have := bf BK348.out 1
         go_wp2_with (first | ((with_reducible refine gate_builtin (b := .append) (xs := #[.tmp 85, .tmp 87]) rfl ?_); at_builtin; refine Kd.R_append k23 (w0 := w) w.heap.size rfl (.tmp 85) (.tmp 87) 29 23 (.agg #[(.int .i64 0), (.int .i64 0)]) 16 rfl Try.underlying29 info23 rfl (by decide) (by omega) (.slice (some ad355) x5_2.length co21) x5_2 (⟨x358000_3, x358001_3⟩ : S23) [.int .i64 x358000_3, .int .i64 x358001_3] (fun k_ => k_ ≠ gb348 ∧ k_ ≠ gb356 ∧ k_ ≠ gb357) (fun _ => False) rfl rfl ?aP (fun _ hk => hk.elim) ?aF ?aO ?aB ?aS ?aL ?_; (case aP => exact k23_mkM _ _ _ (⟨x358000_3, x358001_3⟩ : S23)); (case aB => exact (fW HB.out)); (case aF => exact (fun k_ hk => ⟨Kd.freshB (g := gb348) (o := .cells #[.int .i64 x349000_1, .int .i64 x349001_1] 23 (0, 0)) (fb BK348.out) k_ hk, Kd.freshB (g := gb356) (o := .cells #[.int .i64 ((rd_T23 x5_2 (ji18)).f0), .int .i64 ((rd_T23 x5_2 (ji18)).f1)] 23 (0, 0)) (fb BK356.out) k_ hk, Kd.freshB (g := gb357) (o := .cells #[.int .i64 x358000_3, .int .i64 x358001_3] 23 (0, 0)) (fb BK357.out) k_ hk⟩)); (case aO => exact (fR HO_5.out)); (case aS => exact (below_size (fW HB.out))); (case aL => have := LMc123.out; omega); intro v359 w129 ho hb hg hat; rw [← Ny358.out] at ho; replace BK348 := am (blk_grown (g := gb348) (o := .cells #[.int .i64 x349000_1, .int .i64 x349001_1] 23 (0, 0)) (fb BK348.out) hg (Kd.R_away HO_5.out (fun _ hk => hk.1))); replace BK356 := am (blk_grown (g := gb356) (o := .cells #[.int .i64 ((rd_T23 x5_2 (ji18)).f0), .int .i64 ((rd_T23 x5_2 (ji18)).f1)] 23 (0, 0)) (fb BK356.out) hg (Kd.R_away HO_5.out (fun _ hk => hk.2.1))); replace BK357 := am (blk_grown (g := gb357) (o := .cells #[.int .i64 x358000_3, .int .i64 x358001_3] 23 (0, 0)) (fb BK357.out) hg (Kd.R_away HO_5.out (fun _ hk => hk.2.2))); replace HB := am (hb); have HO360 := am (ho); clear HO_5 ho hb hg hat))
         go_roundg k3
         case measure => have := HK1.out; have := HK2.out; have := HK3.out; omega
         case rel => exact ⟨(y358), H', ⟨by have := HK1.out; have := HK2.out; have := HK3.out; omega⟩, ⟨by (with_reducible repeat (first | apply Kd.R_alloc | apply Kd.R_drewN | apply Kd.R_drew)); exact Kd.R_mono HO360.out (fun _ hk => hk.1)⟩, ⟨fb BK348.out⟩, ⟨fW HB.out⟩⟩
        rw [if_pos c29] at H
        have c29b0 : decide (x8_3 < (l0.length : Int)) = true := decide_eq_true c29
        clear c29
        by_cases c30 : 0 ≤ x8_3
        rotate_left
        ·rw [if_neg c30] at H
         exact absurd H (by simp)
        rw [if_pos c30] at H
        have c30b0 : decide (0 ≤ x8_3) = true := decide_eq_true c30
        clear c30
        by_cases c31 : (((rd_T23 l0 x8_3).f0) == ((rd_T23 x5_2 (ji18)).f0) && (((rd_T23 l0 x8_3).f1) == ((rd_T23 x5_2 (ji18)).f1))) = true
        ·rw [if_pos c31] at H
         have c31b0 : (((rd_T23 l0 x8_3).f0) == ((rd_T23 x5_2 (ji18)).f0) && (((rd_T23 l0 x8_3).f1) == ((rd_T23 x5_2 (ji18)).f1))) = true := c31
         (try (have c31b1 : decide (((rd_T23 l0 x8_3).f0) = ((rd_T23 x5_2 (ji18)).f0) && (((rd_T23 l0 x8_3).f1) == ((rd_T23 x5_2 (ji18)).f1))) = true := by simpa using c31))
         (try (have c31b2 : (((rd_T23 l0 x8_3).f0) == ((rd_T23 x5_2 (ji18)).f0) && (((rd_T23 l0 x8_3).f1) == ((rd_T23 x5_2 (ji18)).f1))) = true := by simpa using c31))
         clear c31
         have H' := am H
         clear H
         have p361 : 0 ≤ (x8_3 : Int) := of_decide_eq_true (by assumption)
         have q361 : x8_3 < (l0.length : Int) := of_decide_eq_true (by assumption)
         obtain ⟨ad361, e361, hx361_0, hx361_1⟩ := at_T23 HR0.out x8_3 p361 q361
         obtain rfl : ad347 = ad361 := (by injection e361)
         replace hx361_0 := cl HB hx361_0
         replace hx361_1 := cl HB hx361_1
         replace p361 := eq_true p361
         replace q361 := eq_true q361
         go_wp2_with (first | ((with_reducible refine gate_dst (N := 9) rfl ?_); refine be ?hg (N := 9) ?hd (cs := #[.int .i64 0, .int .i64 0]) (t := 23) ?hr ?_; (case hd | hg => rfl); (case hr => first | (go_simp; done) | (go_simp; rfl)); intro gb362 hg w32 hbox hb; replace HO_5 := eR HO_5 hg hb; have BK362 := am hbox; have GW362 := sG HB hg; have GE362 := sG HB hg; replace HB := bS HB hb; have NB348_362 := nL BK348 hg; have NB362_348 := nG BK348 hg; replace BK348 := bB BK348 hb; have NB356_362 := nL BK356 hg; have NB362_356 := nG BK356 hg; replace BK356 := bB BK356 hb; have NB357_362 := nL BK357 hg; have NB362_357 := nG BK357 hg; replace BK357 := bB BK357 hb; clear hb hbox hg; have hnb33 := NB362_348.out; have hnc33 := NB348_362.out; have hnb34 := NB362_356.out; have hnc34 := NB356_362.out; have hnb35 := NB362_357.out; have hnc35 := NB357_362.out; obtain ⟨_, _, _, _⟩ := zC2 BK362; have hnb37 := NB356_348.out; have hnc37 := NB348_356.out; have hnb38 := NB356_357.out; have hnc38 := NB357_356.out; obtain ⟨_, _, _, _⟩ := zC2 BK356))
         go_roundg k3
         case measure => have := HK1.out; have := HK2.out; have := HK3.out; omega
         case rel => exact ⟨(wrap64 (x8_3 + 1)), (x358000_3), (x358001_3), sqD, H', ⟨by have := HK1.out; have := HK2.out; have := HK3.out; omega⟩, ⟨by (with_reducible repeat (first | apply Kd.R_alloc | apply Kd.R_drewN | apply Kd.R_drew)); exact Kd.R_mono (Kd.R_far (p := ⟨gb362, 1, none⟩) (Kd.R_far (p := ⟨gb362, 0, none⟩) (Kd.R_mono HO_5.out (fun k_ hk => (⟨hk, hk.2⟩ : _ ∧ k_ ≠ gb362))) (fun _ hk => hk.2) (.int .i64 ((rd_T23 l0 x8_3).f0))) (fun _ hk => hk.2) (.int .i64 ((rd_T23 l0 x8_3).f1))) (fun _ hk => ⟨hk.1.1.1, ⟨hk.1.1.2.1, hk.1.1.2.2⟩⟩)⟩, ⟨by (with_reducible repeat first | apply bN | apply bd | apply ba); refine bF ?_ NB348_362.out _; (with_reducible repeat first | apply bN | apply bd | apply ba); refine bF ?_ NB348_362.out _; (with_reducible repeat first | apply bN | apply bd | apply ba); exact BK348.out⟩, ⟨by (with_reducible repeat first | apply bN | apply bd | apply ba); refine bF ?_ NB356_362.out _; (with_reducible repeat first | apply bN | apply bd | apply ba); refine bF ?_ NB356_362.out _; (with_reducible repeat first | apply bN | apply bd | apply ba); exact BK356.out⟩, ⟨by (with_reducible repeat first | apply bN | apply bd | apply ba); refine bF ?_ NB357_362.out _; (with_reducible repeat first | apply bN | apply bd | apply ba); refine bF ?_ NB357_362.out _; (with_reducible repeat first | apply bN | apply bd | apply ba); exact BK357.out⟩, ⟨fW HB.out⟩⟩
        rw [if_neg c31] at H
        have c31b0 : (((rd_T23 l0 x8_3).f0) == ((rd_T23 x5_2 (ji18)).f0) && (((rd_T23 l0 x8_3).f1) == ((rd_T23 x5_2 (ji18)).f1))) = false := by simpa using c31
        (try (have c31b1 : decide (((rd_T23 l0 x8_3).f0) = ((rd_T23 x5_2 (ji18)).f0) && (((rd_T23 l0 x8_3).f1) == ((rd_T23 x5_2 (ji18)).f1))) = false := by simpa using c31))
        (try (have c31b2 : (((rd_T23 l0 x8_3).f0) == ((rd_T23 x5_2 (ji18)).f0) && (((rd_T23 l0 x8_3).f1) == ((rd_T23 x5_2 (ji18)).f1))) = false := by simpa using c31))
        (try (have c31b3 : ¬ (((rd_T23 l0 x8_3).f0) = ((rd_T23 x5_2 (ji18)).f0) && (((rd_T23 l0 x8_3).f1) == ((rd_T23 x5_2 (ji18)).f1))) := by simpa using c31))
        clear c31
        replace H := Option.bind_eq_some_iff.mp H
        obtain ⟨t363, A400, H⟩ := H
        replace H : (if (x358000_3 == ((rd_T23 x5_2 (ji18)).f0) && (x358001_3 == ((rd_T23 x5_2 (ji18)).f1))) = true then (r_Hull.l2 k3 l0 x5_2 (wrap64 (x8_3 + 1)) x349000_1 x349001_1 ((rd_T23 x5_2 (ji18)).f0) ((rd_T23 x5_2 (ji18)).f1) ((rd_T23 l0 x8_3).f0) ((rd_T23 l0 x8_3).f1)) else (if t363 < 0 then (r_Hull.l2 k3 l0 x5_2 (wrap64 (x8_3 + 1)) x349000_1 x349001_1 ((rd_T23 x5_2 (ji18)).f0) ((rd_T23 x5_2 (ji18)).f1) ((rd_T23 l0 x8_3).f0) ((rd_T23 l0 x8_3).f1)) else (if t363 = 0 then ((r_far.f ((rd_T23 x5_2 (ji18)).f0) ((rd_T23 x5_2 (ji18)).f1) ((rd_T23 l0 x8_3).f0) ((rd_T23 l0 x8_3).f1)).bind fun t364 => ((r_far.f ((rd_T23 x5_2 (ji18)).f0) ((rd_T23 x5_2 (ji18)).f1) x358000_3 x358001_3).bind fun t365 => (if t364 > t365 then (r_Hull.l2 k3 l0 x5_2 (wrap64 (x8_3 + 1)) x349000_1 x349001_1 ((rd_T23 x5_2 (ji18)).f0) ((rd_T23 x5_2 (ji18)).f1) ((rd_T23 l0 x8_3).f0) ((rd_T23 l0 x8_3).f1)) else (r_Hull.l2 k3 l0 x5_2 (wrap64 (x8_3 + 1)) x349000_1 x349001_1 ((rd_T23 x5_2 (ji18)).f0) ((rd_T23 x5_2 (ji18)).f1) x358000_3 x358001_3)))) else (r_Hull.l2 k3 l0 x5_2 (wrap64 (x8_3 + 1)) x349000_1 x349001_1 ((rd_T23 x5_2 (ji18)).f0) ((rd_T23 x5_2 (ji18)).f1) x358000_3 x358001_3)))) = some r := H
        have A40 := am A400
        clear A400
        by_cases c41 : (x358000_3 == ((rd_T23 x5_2 (ji18)).f0) && (x358001_3 == ((rd_T23 x5_2 (ji18)).f1))) = true
        ·rw [if_pos c41] at H
         have c41b0 : (x358000_3 == ((rd_T23 x5_2 (ji18)).f0) && (x358001_3 == ((rd_T23 x5_2 (ji18)).f1))) = true := c41
         (try (have c41b1 : decide (x358000_3 = ((rd_T23 x5_2 (ji18)).f0) && (x358001_3 == ((rd_T23 x5_2 (ji18)).f1))) = true := by simpa using c41))
         (try (have c41b2 : (x358000_3 == ((rd_T23 x5_2 (ji18)).f0) && (x358001_3 == ((rd_T23 x5_2 (ji18)).f1))) = true := by simpa using c41))
         clear c41
         have H' := am H
         clear H
         have p361 : 0 ≤ (x8_3 : Int) := of_decide_eq_true (by assumption)
         have q361 : x8_3 < (l0.length : Int) := of_decide_eq_true (by assumption)
         obtain ⟨ad361, e361, hx361_0, hx361_1⟩ := at_T23 HR0.out x8_3 p361 q361
         obtain rfl : ad347 = ad361 := (by injection e361)
         replace hx361_0 := cl HB hx361_0
         replace hx361_1 := cl HB hx361_1
         replace p361 := eq_true p361
         replace q361 := eq_true q361
         try go_wp2_with (first | ((with_reducible refine gate_dst (N := 9) rfl ?_); refine be ?hg (N := 9) ?hd (cs := #[.int .i64 0, .int .i64 0]) (t := 23) ?hr ?_; (case hd | hg => rfl); (case hr => first | (go_simp; done) | (go_simp; rfl)); intro gb362 hg w42 hbox hb; replace HO_5 := eR HO_5 hg hb; have BK362 := am hbox; have GW362 := sG HB hg; have GE362 := sG HB hg; replace HB := bS HB hb; have NB348_362 := nL BK348 hg; have NB362_348 := nG BK348 hg; replace BK348 := bB BK348 hb; have NB356_362 := nL BK356 hg; have NB362_356 := nG BK356 hg; replace BK356 := bB BK356 hb; have NB357_362 := nL BK357 hg; have NB362_357 := nG BK357 hg; replace BK357 := bB BK357 hb; clear hb hbox hg; have hnb43 := NB362_348.out; have hnc43 := NB348_362.out; have hnb44 := NB362_356.out; have hnc44 := NB356_362.out; have hnb45 := NB362_357.out; have hnc45 := NB357_362.out; obtain ⟨_, _, _, _⟩ := zC2 BK362; have hnb47 := NB356_348.out; have hnc47 := NB348_356.out; have hnb48 := NB356_357.out; have hnc48 := NB357_356.out; obtain ⟨_, _, _, _⟩ := zC2 BK356; have hnb50 := NB357_348.out; have hnc50 := NB348_357.out; obtain ⟨_, _, _, _⟩ := zC2 BK357) | ((with_reducible refine gate_callee (f := 14) rfl ?_); refine goesL_ (some 60) rfl rfl Try.func14 (by kernel_rfl) rfl #[.agg #[.int .i64 ((rd_T23 x5_2 (ji18)).f0), .int .i64 ((rd_T23 x5_2 (ji18)).f1)], .agg #[.int .i64 x358000_3, .int .i64 x358001_3], .agg #[.int .i64 ((rd_T23 l0 x8_3).f0), .int .i64 ((rd_T23 l0 x8_3).f1)]] rfl (by (try simp only [pml]); first | done | (simp only [hji18]; rfl) | rfl | (simp only [pdt]; rfl)) ?_; (with_reducible refine (r_Orient.calls ((rd_T23 x5_2 (ji18)).f0) ((rd_T23 x5_2 (ji18)).f1) x358000_3 x358001_3 ((rd_T23 l0 x8_3).f0) ((rd_T23 l0 x8_3).f1) t363 _ A40.out).mono ?_); rintro e w52 ⟨rfl, hb⟩; refine ⟨_, rfl, ?_⟩; replace HO_5 := am (Kd.R_below (by (with_reducible repeat (first | apply Kd.R_alloc | apply Kd.R_drewN | apply Kd.R_drew)); exact (Kd.R_mono (Kd.R_far (p := ⟨gb362, 1, none⟩) (Kd.R_far (p := ⟨gb362, 0, none⟩) (Kd.R_mono HO_5.out (fun k_ hk => (⟨hk, hk.2⟩ : _ ∧ k_ ≠ gb362))) (fun _ hk => hk.2) (.int .i64 ((rd_T23 l0 x8_3).f0))) (fun _ hk => hk.2) (.int .i64 ((rd_T23 l0 x8_3).f1))) (fun _ h_ => h_.1))) hb); replace BK348 := xC1 (kfC BK348.out) hb; replace BK356 := xC1 (kfC BK356.out) hb; replace BK357 := xC1 (kfC BK357.out) hb; replace BK362 := xC1 (o := .cells #[.int .i64 ((rd_T23 l0 x8_3).f0), .int .i64 ((rd_T23 l0 x8_3).f1)] 23 (0, 0)) (kkC BK362.out) hb; replace HB := bS HB hb; (try clear hb); (try clear hb2); (try clear hk); (try clear hi)))
         have n0_ := am (Kd.R_drew HO_5.out)
         have n1_ := am (bd BK348.out)
         have n2_ := am (bd BK356.out)
         have n3_ := am (bd BK357.out)
         have n4_ := am (bd BK362.out)
         have n5_ := am (wd HB.out)
         clear HO_5 BK348 BK356 BK357 BK362 HB
         have HO_5 := n0_
         have BK348 := n1_
         have BK356 := n2_
         have BK357 := n3_
         have BK362 := n4_
         have HB := n5_
         clear n0_ n1_ n2_ n3_ n4_ n5_
         refine start_ (n := 20) (S := fun w' => w'.cell? ⟨gb357, 0, none⟩ = some (.int .i64 x358000_3) ∧ w'.cell? ⟨gb357, 1, none⟩ = some (.int .i64 x358001_3) ∧ w'.cell? ⟨gb356, 0, none⟩ = some (.int .i64 ((rd_T23 x5_2 (ji18)).f0)) ∧ w'.cell? ⟨gb356, 1, none⟩ = some (.int .i64 ((rd_T23 x5_2 (ji18)).f1))) (ds := []) #[F,F,F,F,F,F,F,F,F,F,F,F,F,F,F,F,F,F,F,F] (by kernel_rfl) rfl rfl ⟨(bc BK357.out 0).trans rfl, (bc BK357.out 1).trans rfl, (bc BK356.out 0).trans rfl, (bc BK356.out 1).trans rfl⟩ (fun hHeld => ?_); refine with_tabW r_Hull.tab17 r_Hull.bits17 (fun HT_ HW_ => ?_)
         generalize w52.drew = w53 at HO_5 BK348 BK356 BK357 BK362 HB hHeld ⊢
         refine tk (i := 0) (N := some 61) (fl 20 1 []) HT_ HW_ hHeld ?_
         refine tk (i := 1) (N := some 62) (fl 20 2 []) HT_ HW_ hHeld ?_
         refine pu (i := 2) (N := some 63) (fl 20 3 []) HT_ ?_
         refine pu (i := 3) (N := some 64) (fl 20 4 []) HT_ ?_
         refine pure_ (i := 4) (N := some 65) (v := undef) (a' := ?_) #[T,T,T,T,T,F,F,F,F,F,F,F,F,F,F,F,F,F,F,F] rfl rfl (any_of HT_.out (by kernel_rfl)) (fun _ _ _ h => h) (Or.inr ⟨by rfl, rfl⟩) ?_ ?_
         rotate_left
         ·simp only [Act.put, psl, i64_w, i32_w]
          rfl
         refine pure_ (i := 5) (N := some 66) (v := undef) (a' := ?_) #[T,T,T,T,T,T,F,F,F,F,F,F,F,F,F,F,F,F,F,F] rfl rfl (any_of HT_.out (by kernel_rfl)) (fun _ _ _ h => h) (Or.inr ⟨by rfl, rfl⟩) ?_ ?_
         rotate_left
         ·simp only [Act.put, psl, i64_w, i32_w]
          rfl
         refine pu (i := 6) (N := some 67) (fl 20 7 []) HT_ ?_
         refine pu (i := 7) (N := some 68) (fl 20 8 []) HT_ ?_
         refine pure_ (i := 8) (N := some 69) (v := undef) (a' := ?_) #[T,T,T,T,T,T,T,T,T,F,F,F,F,F,F,F,F,F,F,F] rfl rfl (any_of HT_.out (by kernel_rfl)) (fun _ _ _ h => h) (Or.inr ⟨by rfl, rfl⟩) ?_ ?_
         rotate_left
         ·simp only [Act.put, psl, i64_w, i32_w]
          rfl
         refine pure_ (i := 9) (N := some 70) (v := undef) (a' := ?_) #[T,T,T,T,T,T,T,T,T,T,F,F,F,F,F,F,F,F,F,F] rfl rfl (any_of HT_.out (by kernel_rfl)) (fun _ _ _ h => h) (Or.inr ⟨by rfl, rfl⟩) ?_ ?_
         rotate_left
         ·simp only [Act.put, psl, i64_w, i32_w]
          rfl
         refine pure_ (i := 10) (N := some 71) (v := undef) (a' := ?_) #[T,T,T,T,T,T,T,T,T,T,T,F,F,F,F,F,F,F,F,F] rfl rfl (any_of HT_.out (by kernel_rfl)) (fun _ _ _ h => h) (Or.inr ⟨by rfl, rfl⟩) ?_ ?_
         rotate_left
         ·simp only [Act.put, psl, i64_w, i32_w]
          rfl
         refine pure_ (i := 11) (N := some 72) (v := undef) (a' := ?_) #[T,T,T,T,T,T,T,T,T,T,T,T,F,F,F,F,F,F,F,F] rfl rfl (any_of HT_.out (by kernel_rfl)) (fun _ _ _ h => h) (Or.inr ⟨by rfl, rfl⟩) ?_ ?_
         rotate_left
         ·simp only [Act.put, psl, i64_w, i32_w]
          rfl
         refine pure_ (i := 12) (N := some 73) (v := undef) (a' := ?_) #[T,T,T,T,T,T,T,T,T,T,T,T,T,F,F,F,F,F,F,F] rfl rfl (any_of HT_.out (by kernel_rfl)) (fun _ _ _ h => h) (Or.inr ⟨by rfl, rfl⟩) ?_ ?_
         rotate_left
         ·simp only [Act.put, psl, i64_w, i32_w]
          rfl
         refine pure_ (i := 13) (N := some 74) (v := undef) (a' := ?_) #[T,T,T,T,T,T,T,T,T,T,T,T,T,T,F,F,F,F,F,F] rfl rfl (any_of HT_.out (by kernel_rfl)) (fun _ _ _ h => h) (Or.inr ⟨by rfl, rfl⟩) ?_ ?_
         rotate_left
         ·simp only [Act.put, psl, i64_w, i32_w]
          rfl
         refine pure_ (i := 14) (N := some 75) (v := undef) (a' := ?_) #[T,T,T,T,T,T,T,T,T,T,T,T,T,T,T,F,F,F,F,F] rfl rfl (any_of HT_.out (by kernel_rfl)) (fun _ _ _ h => h) (Or.inr ⟨by rfl, rfl⟩) ?_ ?_
         rotate_left
         ·simp only [Act.put, psl, i64_w, i32_w]
          rfl
         refine pure_ (i := 15) (N := some 76) (v := undef) (a' := ?_) #[T,T,T,T,T,T,T,T,T,T,T,T,T,T,T,T,F,F,F,F] rfl rfl (any_of HT_.out (by kernel_rfl)) (fun _ _ _ h => h) (Or.inr ⟨by rfl, rfl⟩) ?_ ?_
         rotate_left
         ·simp only [Act.put, psl, i64_w, i32_w]
          rfl
         refine pure_ (i := 16) (N := some 77) (v := undef) (a' := ?_) #[T,T,T,T,T,T,T,T,T,T,T,T,T,T,T,T,T,F,F,F] rfl rfl (any_of HT_.out (by kernel_rfl)) (fun _ _ _ h => h) (Or.inr ⟨by rfl, rfl⟩) ?_ ?_
         rotate_left
         ·simp only [Act.put, psl, i64_w, i32_w]
          rfl
         refine pure_ (i := 17) (N := some 78) (v := undef) (a' := ?_) #[T,T,T,T,T,T,T,T,T,T,T,T,T,T,T,T,T,T,F,F] rfl rfl (any_of HT_.out (by kernel_rfl)) (fun _ _ _ h => h) (Or.inr ⟨by rfl, rfl⟩) ?_ ?_
         rotate_left
         ·simp only [Act.put, psl, i64_w, i32_w]
          rfl
         refine pure_ (i := 18) (N := some 79) (v := undef) (a' := ?_) #[T,T,T,T,T,T,T,T,T,T,T,T,T,T,T,T,T,T,T,F] rfl rfl (any_of HT_.out (by kernel_rfl)) (fun _ _ _ h => h) (Or.inr ⟨by rfl, rfl⟩) ?_ ?_
         rotate_left
         ·simp only [Act.put, psl, i64_w, i32_w]
          rfl
         refine pu (i := 19) (N := some 80) (fl 20 20 []) HT_ ?_
         refine done_ (done_of HT_.out (by kernel_rfl)) ?_
         have := yC1 BK362
         have := kC1 BK362
         have := bf BK362.out 0
         have := bf BK362.out 1
         have := yC1 BK357
         have := kC1 BK357
         have := bf BK357.out 0
         have := bf BK357.out 1
         try go_wp2
         go_roundg k3
         case measure => have := HK1.out; have := HK2.out; have := HK3.out; omega
         case rel => exact ⟨(wrap64 (x8_3 + 1)), ((rd_T23 l0 x8_3).f0), ((rd_T23 l0 x8_3).f1), sqD, H', ⟨by have := HK1.out; have := HK2.out; have := HK3.out; omega⟩, ⟨by (with_reducible repeat (first | apply Kd.R_alloc | apply Kd.R_drewN | apply Kd.R_drew)); exact Kd.R_mono (Kd.R_far (p := ⟨gb357, 1, none⟩) (Kd.R_far (p := ⟨gb357, 0, none⟩) (Kd.R_mono HO_5.out (fun k_ hk => (⟨hk, hk.1.2.2⟩ : _ ∧ k_ ≠ gb357))) (fun _ hk => hk.2) (.int .i64 ((rd_T23 l0 x8_3).f0))) (fun _ hk => hk.2) (.int .i64 ((rd_T23 l0 x8_3).f1))) (fun _ hk => ⟨hk.1.1.1, ⟨hk.1.1.2.1, hk.1.1.2.2⟩⟩)⟩, ⟨by (with_reducible repeat first | apply bN | apply bd | apply ba); refine bF ?_ NB348_357.out _; (with_reducible repeat first | apply bN | apply bd | apply ba); refine bF ?_ NB348_357.out _; (with_reducible repeat first | apply bN | apply bd | apply ba); exact BK348.out⟩, ⟨by (with_reducible repeat first | apply bN | apply bd | apply ba); refine bF ?_ NB356_357.out _; (with_reducible repeat first | apply bN | apply bd | apply ba); refine bF ?_ NB356_357.out _; (with_reducible repeat first | apply bN | apply bd | apply ba); exact BK356.out⟩, ⟨by (with_reducible repeat first | apply bN | apply bd | apply ba); refine blk_put (cs := #[.int .i64 ((rd_T23 l0 x8_3).f0), .int .i64 x358001_3]) ?_ 1 _ rfl; (with_reducible repeat first | apply bN | apply bd | apply ba); refine blk_put (cs := #[.int .i64 x358000_3, .int .i64 x358001_3]) ?_ 0 _ rfl; (with_reducible repeat first | apply bN | apply bd | apply ba); exact BK357.out⟩, ⟨fW HB.out⟩⟩
        rw [if_neg c41] at H
        have c41b0 : (x358000_3 == ((rd_T23 x5_2 (ji18)).f0) && (x358001_3 == ((rd_T23 x5_2 (ji18)).f1))) = false := by simpa using c41
        (try (have c41b1 : decide (x358000_3 = ((rd_T23 x5_2 (ji18)).f0) && (x358001_3 == ((rd_T23 x5_2 (ji18)).f1))) = false := by simpa using c41))
        (try (have c41b2 : (x358000_3 == ((rd_T23 x5_2 (ji18)).f0) && (x358001_3 == ((rd_T23 x5_2 (ji18)).f1))) = false := by simpa using c41))
        (try (have c41b3 : ¬ (x358000_3 = ((rd_T23 x5_2 (ji18)).f0) && (x358001_3 == ((rd_T23 x5_2 (ji18)).f1))) := by simpa using c41))
        clear c41
        by_cases c56 : t363 < 0
        ·rw [if_pos c56] at H
         have c56b0 : decide (t363 < 0) = true := decide_eq_true c56
         clear c56
         have H' := am H
         clear H
         have p361 : 0 ≤ (x8_3 : Int) := of_decide_eq_true (by assumption)
         have q361 : x8_3 < (l0.length : Int) := of_decide_eq_true (by assumption)
         obtain ⟨ad361, e361, hx361_0, hx361_1⟩ := at_T23 HR0.out x8_3 p361 q361
         obtain rfl : ad347 = ad361 := (by injection e361)
         replace hx361_0 := cl HB hx361_0
         replace hx361_1 := cl HB hx361_1
         replace p361 := eq_true p361
         replace q361 := eq_true q361
         try go_wp2_with (first | ((with_reducible refine gate_dst (N := 9) rfl ?_); refine be ?hg (N := 9) ?hd (cs := #[.int .i64 0, .int .i64 0]) (t := 23) ?hr ?_; (case hd | hg => rfl); (case hr => first | (go_simp; done) | (go_simp; rfl)); intro gb362 hg w57 hbox hb; replace HO_5 := eR HO_5 hg hb; have BK362 := am hbox; have GW362 := sG HB hg; have GE362 := sG HB hg; replace HB := bS HB hb; have NB348_362 := nL BK348 hg; have NB362_348 := nG BK348 hg; replace BK348 := bB BK348 hb; have NB356_362 := nL BK356 hg; have NB362_356 := nG BK356 hg; replace BK356 := bB BK356 hb; have NB357_362 := nL BK357 hg; have NB362_357 := nG BK357 hg; replace BK357 := bB BK357 hb; clear hb hbox hg; have hnb58 := NB362_348.out; have hnc58 := NB348_362.out; have hnb59 := NB362_356.out; have hnc59 := NB356_362.out; have hnb60 := NB362_357.out; have hnc60 := NB357_362.out; obtain ⟨_, _, _, _⟩ := zC2 BK362; have hnb62 := NB356_348.out; have hnc62 := NB348_356.out; have hnb63 := NB356_357.out; have hnc63 := NB357_356.out; obtain ⟨_, _, _, _⟩ := zC2 BK356; have hnb65 := NB357_348.out; have hnc65 := NB348_357.out; obtain ⟨_, _, _, _⟩ := zC2 BK357) | ((with_reducible refine gate_callee (f := 14) rfl ?_); refine goesL_ (some 60) rfl rfl Try.func14 (by kernel_rfl) rfl #[.agg #[.int .i64 ((rd_T23 x5_2 (ji18)).f0), .int .i64 ((rd_T23 x5_2 (ji18)).f1)], .agg #[.int .i64 x358000_3, .int .i64 x358001_3], .agg #[.int .i64 ((rd_T23 l0 x8_3).f0), .int .i64 ((rd_T23 l0 x8_3).f1)]] rfl (by (try simp only [pml]); first | done | (simp only [hji18]; rfl) | rfl | (simp only [pdt]; rfl)) ?_; (with_reducible refine (r_Orient.calls ((rd_T23 x5_2 (ji18)).f0) ((rd_T23 x5_2 (ji18)).f1) x358000_3 x358001_3 ((rd_T23 l0 x8_3).f0) ((rd_T23 l0 x8_3).f1) t363 _ A40.out).mono ?_); rintro e w67 ⟨rfl, hb⟩; refine ⟨_, rfl, ?_⟩; replace HO_5 := am (Kd.R_below (by (with_reducible repeat (first | apply Kd.R_alloc | apply Kd.R_drewN | apply Kd.R_drew)); exact (Kd.R_mono (Kd.R_far (p := ⟨gb362, 1, none⟩) (Kd.R_far (p := ⟨gb362, 0, none⟩) (Kd.R_mono HO_5.out (fun k_ hk => (⟨hk, hk.2⟩ : _ ∧ k_ ≠ gb362))) (fun _ hk => hk.2) (.int .i64 ((rd_T23 l0 x8_3).f0))) (fun _ hk => hk.2) (.int .i64 ((rd_T23 l0 x8_3).f1))) (fun _ h_ => h_.1))) hb); replace BK348 := xC1 (kfC BK348.out) hb; replace BK356 := xC1 (kfC BK356.out) hb; replace BK357 := xC1 (kfC BK357.out) hb; replace BK362 := xC1 (o := .cells #[.int .i64 ((rd_T23 l0 x8_3).f0), .int .i64 ((rd_T23 l0 x8_3).f1)] 23 (0, 0)) (kkC BK362.out) hb; replace HB := bS HB hb; (try clear hb); (try clear hb2); (try clear hk); (try clear hi)))
         have n0_ := am (Kd.R_drew HO_5.out)
         have n1_ := am (bd BK348.out)
         have n2_ := am (bd BK356.out)
         have n3_ := am (bd BK357.out)
         have n4_ := am (bd BK362.out)
         have n5_ := am (wd HB.out)
         clear HO_5 BK348 BK356 BK357 BK362 HB
         have HO_5 := n0_
         have BK348 := n1_
         have BK356 := n2_
         have BK357 := n3_
         have BK362 := n4_
         have HB := n5_
         clear n0_ n1_ n2_ n3_ n4_ n5_
         refine start_ (n := 20) (S := fun w' => w'.cell? ⟨gb357, 0, none⟩ = some (.int .i64 x358000_3) ∧ w'.cell? ⟨gb357, 1, none⟩ = some (.int .i64 x358001_3) ∧ w'.cell? ⟨gb356, 0, none⟩ = some (.int .i64 ((rd_T23 x5_2 (ji18)).f0)) ∧ w'.cell? ⟨gb356, 1, none⟩ = some (.int .i64 ((rd_T23 x5_2 (ji18)).f1))) (ds := []) #[F,F,F,F,F,F,F,F,F,F,F,F,F,F,F,F,F,F,F,F] (by kernel_rfl) rfl rfl ⟨(bc BK357.out 0).trans rfl, (bc BK357.out 1).trans rfl, (bc BK356.out 0).trans rfl, (bc BK356.out 1).trans rfl⟩ (fun hHeld => ?_); refine with_tabW r_Hull.tab17 r_Hull.bits17 (fun HT_ HW_ => ?_)
         generalize w67.drew = w68 at HO_5 BK348 BK356 BK357 BK362 HB hHeld ⊢
         refine tk (i := 0) (N := some 61) (fl 20 1 []) HT_ HW_ hHeld ?_
         refine tk (i := 1) (N := some 62) (fl 20 2 []) HT_ HW_ hHeld ?_
         refine pu (i := 2) (N := some 63) (fl 20 3 []) HT_ ?_
         refine pu (i := 3) (N := some 64) (fl 20 4 []) HT_ ?_
         refine pu (i := 4) (N := some 65) (fl 20 5 []) HT_ ?_
         refine pu (i := 5) (N := some 66) (fl 20 6 []) HT_ ?_
         refine pu (i := 6) (N := some 67) (fl 20 7 []) HT_ ?_
         refine pu (i := 7) (N := some 68) (fl 20 8 []) HT_ ?_
         refine pure_ (i := 8) (N := some 69) (v := undef) (a' := ?_) #[T,T,T,T,T,T,T,T,T,F,F,F,F,F,F,F,F,F,F,F] rfl rfl (any_of HT_.out (by kernel_rfl)) (fun _ _ _ h => h) (Or.inr ⟨by rfl, rfl⟩) ?_ ?_
         rotate_left
         ·simp only [Act.put, psl, i64_w, i32_w]
          rfl
         refine pure_ (i := 9) (N := some 70) (v := undef) (a' := ?_) #[T,T,T,T,T,T,T,T,T,T,F,F,F,F,F,F,F,F,F,F] rfl rfl (any_of HT_.out (by kernel_rfl)) (fun _ _ _ h => h) (Or.inr ⟨by rfl, rfl⟩) ?_ ?_
         rotate_left
         ·simp only [Act.put, psl, i64_w, i32_w]
          rfl
         refine pure_ (i := 10) (N := some 71) (v := undef) (a' := ?_) #[T,T,T,T,T,T,T,T,T,T,T,F,F,F,F,F,F,F,F,F] rfl rfl (any_of HT_.out (by kernel_rfl)) (fun _ _ _ h => h) (Or.inr ⟨by rfl, rfl⟩) ?_ ?_
         rotate_left
         ·simp only [Act.put, psl, i64_w, i32_w]
          rfl
         refine pure_ (i := 11) (N := some 72) (v := undef) (a' := ?_) #[T,T,T,T,T,T,T,T,T,T,T,T,F,F,F,F,F,F,F,F] rfl rfl (any_of HT_.out (by kernel_rfl)) (fun _ _ _ h => h) (Or.inr ⟨by rfl, rfl⟩) ?_ ?_
         rotate_left
         ·simp only [Act.put, psl, i64_w, i32_w]
          rfl
         refine pure_ (i := 12) (N := some 73) (v := undef) (a' := ?_) #[T,T,T,T,T,T,T,T,T,T,T,T,T,F,F,F,F,F,F,F] rfl rfl (any_of HT_.out (by kernel_rfl)) (fun _ _ _ h => h) (Or.inr ⟨by rfl, rfl⟩) ?_ ?_
         rotate_left
         ·simp only [Act.put, psl, i64_w, i32_w]
          rfl
         refine pure_ (i := 13) (N := some 74) (v := undef) (a' := ?_) #[T,T,T,T,T,T,T,T,T,T,T,T,T,T,F,F,F,F,F,F] rfl rfl (any_of HT_.out (by kernel_rfl)) (fun _ _ _ h => h) (Or.inr ⟨by rfl, rfl⟩) ?_ ?_
         rotate_left
         ·simp only [Act.put, psl, i64_w, i32_w]
          rfl
         refine pure_ (i := 14) (N := some 75) (v := undef) (a' := ?_) #[T,T,T,T,T,T,T,T,T,T,T,T,T,T,T,F,F,F,F,F] rfl rfl (any_of HT_.out (by kernel_rfl)) (fun _ _ _ h => h) (Or.inr ⟨by rfl, rfl⟩) ?_ ?_
         rotate_left
         ·simp only [Act.put, psl, i64_w, i32_w]
          rfl
         refine pure_ (i := 15) (N := some 76) (v := undef) (a' := ?_) #[T,T,T,T,T,T,T,T,T,T,T,T,T,T,T,T,F,F,F,F] rfl rfl (any_of HT_.out (by kernel_rfl)) (fun _ _ _ h => h) (Or.inr ⟨by rfl, rfl⟩) ?_ ?_
         rotate_left
         ·simp only [Act.put, psl, i64_w, i32_w]
          rfl
         refine pure_ (i := 16) (N := some 77) (v := undef) (a' := ?_) #[T,T,T,T,T,T,T,T,T,T,T,T,T,T,T,T,T,F,F,F] rfl rfl (any_of HT_.out (by kernel_rfl)) (fun _ _ _ h => h) (Or.inr ⟨by rfl, rfl⟩) ?_ ?_
         rotate_left
         ·simp only [Act.put, psl, i64_w, i32_w]
          rfl
         refine pure_ (i := 17) (N := some 78) (v := undef) (a' := ?_) #[T,T,T,T,T,T,T,T,T,T,T,T,T,T,T,T,T,T,F,F] rfl rfl (any_of HT_.out (by kernel_rfl)) (fun _ _ _ h => h) (Or.inr ⟨by rfl, rfl⟩) ?_ ?_
         rotate_left
         ·simp only [Act.put, psl, i64_w, i32_w]
          rfl
         refine pure_ (i := 18) (N := some 79) (v := undef) (a' := ?_) #[T,T,T,T,T,T,T,T,T,T,T,T,T,T,T,T,T,T,T,F] rfl rfl (any_of HT_.out (by kernel_rfl)) (fun _ _ _ h => h) (Or.inr ⟨by rfl, rfl⟩) ?_ ?_
         rotate_left
         ·simp only [Act.put, psl, i64_w, i32_w]
          rfl
         refine pu (i := 19) (N := some 80) (fl 20 20 []) HT_ ?_
         refine done_ (done_of HT_.out (by kernel_rfl)) ?_
         have := yC1 BK362
         have := kC1 BK362
         have := bf BK362.out 0
         have := bf BK362.out 1
         have := yC1 BK357
         have := kC1 BK357
         have := bf BK357.out 0
         have := bf BK357.out 1
         try go_wp2
         go_roundg k3
         case measure => have := HK1.out; have := HK2.out; have := HK3.out; omega
         case rel => exact ⟨(wrap64 (x8_3 + 1)), ((rd_T23 l0 x8_3).f0), ((rd_T23 l0 x8_3).f1), sqD, H', ⟨by have := HK1.out; have := HK2.out; have := HK3.out; omega⟩, ⟨by (with_reducible repeat (first | apply Kd.R_alloc | apply Kd.R_drewN | apply Kd.R_drew)); exact Kd.R_mono (Kd.R_far (p := ⟨gb357, 1, none⟩) (Kd.R_far (p := ⟨gb357, 0, none⟩) (Kd.R_mono HO_5.out (fun k_ hk => (⟨hk, hk.1.2.2⟩ : _ ∧ k_ ≠ gb357))) (fun _ hk => hk.2) (.int .i64 ((rd_T23 l0 x8_3).f0))) (fun _ hk => hk.2) (.int .i64 ((rd_T23 l0 x8_3).f1))) (fun _ hk => ⟨hk.1.1.1, ⟨hk.1.1.2.1, hk.1.1.2.2⟩⟩)⟩, ⟨by (with_reducible repeat first | apply bN | apply bd | apply ba); refine bF ?_ NB348_357.out _; (with_reducible repeat first | apply bN | apply bd | apply ba); refine bF ?_ NB348_357.out _; (with_reducible repeat first | apply bN | apply bd | apply ba); exact BK348.out⟩, ⟨by (with_reducible repeat first | apply bN | apply bd | apply ba); refine bF ?_ NB356_357.out _; (with_reducible repeat first | apply bN | apply bd | apply ba); refine bF ?_ NB356_357.out _; (with_reducible repeat first | apply bN | apply bd | apply ba); exact BK356.out⟩, ⟨by (with_reducible repeat first | apply bN | apply bd | apply ba); refine blk_put (cs := #[.int .i64 ((rd_T23 l0 x8_3).f0), .int .i64 x358001_3]) ?_ 1 _ rfl; (with_reducible repeat first | apply bN | apply bd | apply ba); refine blk_put (cs := #[.int .i64 x358000_3, .int .i64 x358001_3]) ?_ 0 _ rfl; (with_reducible repeat first | apply bN | apply bd | apply ba); exact BK357.out⟩, ⟨fW HB.out⟩⟩
        rw [if_neg c56] at H
        have c56b0 : decide (t363 < 0) = false := decide_eq_false c56
        clear c56
        by_cases c71 : t363 = 0
        rotate_left
        ·rw [if_neg c71] at H
         have c71b0 : (t363 == 0) = false := beq_eq_false_iff_ne.mpr c71
         have c71b1 : (t363 != 0) = true := bne_iff_ne.mpr c71
         have H' := am H
         clear H
         have p361 : 0 ≤ (x8_3 : Int) := of_decide_eq_true (by assumption)
         have q361 : x8_3 < (l0.length : Int) := of_decide_eq_true (by assumption)
         obtain ⟨ad361, e361, hx361_0, hx361_1⟩ := at_T23 HR0.out x8_3 p361 q361
         obtain rfl : ad347 = ad361 := (by injection e361)
         replace hx361_0 := cl HB hx361_0
         replace hx361_1 := cl HB hx361_1
         replace p361 := eq_true p361
         replace q361 := eq_true q361
         try go_wp2_with (first | ((with_reducible refine gate_dst (N := 9) rfl ?_); refine be ?hg (N := 9) ?hd (cs := #[.int .i64 0, .int .i64 0]) (t := 23) ?hr ?_; (case hd | hg => rfl); (case hr => first | (go_simp; done) | (go_simp; rfl)); intro gb362 hg w105 hbox hb; replace HO_5 := eR HO_5 hg hb; have BK362 := am hbox; have GW362 := sG HB hg; have GE362 := sG HB hg; replace HB := bS HB hb; have NB348_362 := nL BK348 hg; have NB362_348 := nG BK348 hg; replace BK348 := bB BK348 hb; have NB356_362 := nL BK356 hg; have NB362_356 := nG BK356 hg; replace BK356 := bB BK356 hb; have NB357_362 := nL BK357 hg; have NB362_357 := nG BK357 hg; replace BK357 := bB BK357 hb; clear hb hbox hg; have hnb106 := NB362_348.out; have hnc106 := NB348_362.out; have hnb107 := NB362_356.out; have hnc107 := NB356_362.out; have hnb108 := NB362_357.out; have hnc108 := NB357_362.out; obtain ⟨_, _, _, _⟩ := zC2 BK362; have hnb110 := NB356_348.out; have hnc110 := NB348_356.out; have hnb111 := NB356_357.out; have hnc111 := NB357_356.out; obtain ⟨_, _, _, _⟩ := zC2 BK356; have hnb113 := NB357_348.out; have hnc113 := NB348_357.out; obtain ⟨_, _, _, _⟩ := zC2 BK357) | ((with_reducible refine gate_callee (f := 14) rfl ?_); refine goesL_ (some 60) rfl rfl Try.func14 (by kernel_rfl) rfl #[.agg #[.int .i64 ((rd_T23 x5_2 (ji18)).f0), .int .i64 ((rd_T23 x5_2 (ji18)).f1)], .agg #[.int .i64 x358000_3, .int .i64 x358001_3], .agg #[.int .i64 ((rd_T23 l0 x8_3).f0), .int .i64 ((rd_T23 l0 x8_3).f1)]] rfl (by (try simp only [pml]); first | done | (simp only [hji18]; rfl) | rfl | (simp only [pdt]; rfl)) ?_; (with_reducible refine (r_Orient.calls ((rd_T23 x5_2 (ji18)).f0) ((rd_T23 x5_2 (ji18)).f1) x358000_3 x358001_3 ((rd_T23 l0 x8_3).f0) ((rd_T23 l0 x8_3).f1) t363 _ A40.out).mono ?_); rintro e w115 ⟨rfl, hb⟩; refine ⟨_, rfl, ?_⟩; replace HO_5 := am (Kd.R_below (by (with_reducible repeat (first | apply Kd.R_alloc | apply Kd.R_drewN | apply Kd.R_drew)); exact (Kd.R_mono (Kd.R_far (p := ⟨gb362, 1, none⟩) (Kd.R_far (p := ⟨gb362, 0, none⟩) (Kd.R_mono HO_5.out (fun k_ hk => (⟨hk, hk.2⟩ : _ ∧ k_ ≠ gb362))) (fun _ hk => hk.2) (.int .i64 ((rd_T23 l0 x8_3).f0))) (fun _ hk => hk.2) (.int .i64 ((rd_T23 l0 x8_3).f1))) (fun _ h_ => h_.1))) hb); replace BK348 := xC1 (kfC BK348.out) hb; replace BK356 := xC1 (kfC BK356.out) hb; replace BK357 := xC1 (kfC BK357.out) hb; replace BK362 := xC1 (o := .cells #[.int .i64 ((rd_T23 l0 x8_3).f0), .int .i64 ((rd_T23 l0 x8_3).f1)] 23 (0, 0)) (kkC BK362.out) hb; replace HB := bS HB hb; (try clear hb); (try clear hb2); (try clear hk); (try clear hi)))
         have n0_ := am (Kd.R_drew HO_5.out)
         have n1_ := am (bd BK348.out)
         have n2_ := am (bd BK356.out)
         have n3_ := am (bd BK357.out)
         have n4_ := am (bd BK362.out)
         have n5_ := am (wd HB.out)
         clear HO_5 BK348 BK356 BK357 BK362 HB
         have HO_5 := n0_
         have BK348 := n1_
         have BK356 := n2_
         have BK357 := n3_
         have BK362 := n4_
         have HB := n5_
         clear n0_ n1_ n2_ n3_ n4_ n5_
         refine start_ (n := 20) (S := fun w' => w'.cell? ⟨gb357, 0, none⟩ = some (.int .i64 x358000_3) ∧ w'.cell? ⟨gb357, 1, none⟩ = some (.int .i64 x358001_3) ∧ w'.cell? ⟨gb356, 0, none⟩ = some (.int .i64 ((rd_T23 x5_2 (ji18)).f0)) ∧ w'.cell? ⟨gb356, 1, none⟩ = some (.int .i64 ((rd_T23 x5_2 (ji18)).f1))) (ds := []) #[F,F,F,F,F,F,F,F,F,F,F,F,F,F,F,F,F,F,F,F] (by kernel_rfl) rfl rfl ⟨(bc BK357.out 0).trans rfl, (bc BK357.out 1).trans rfl, (bc BK356.out 0).trans rfl, (bc BK356.out 1).trans rfl⟩ (fun hHeld => ?_); refine with_tabW r_Hull.tab17 r_Hull.bits17 (fun HT_ HW_ => ?_)
         generalize w115.drew = w116 at HO_5 BK348 BK356 BK357 BK362 HB hHeld ⊢
         refine tk (i := 0) (N := some 61) (fl 20 1 []) HT_ HW_ hHeld ?_
         refine tk (i := 1) (N := some 62) (fl 20 2 []) HT_ HW_ hHeld ?_
         refine pu (i := 2) (N := some 63) (fl 20 3 []) HT_ ?_
         refine pu (i := 3) (N := some 64) (fl 20 4 []) HT_ ?_
         refine pu (i := 4) (N := some 65) (fl 20 5 []) HT_ ?_
         refine pu (i := 5) (N := some 66) (fl 20 6 []) HT_ ?_
         refine pu (i := 6) (N := some 67) (fl 20 7 []) HT_ ?_
         refine pu (i := 7) (N := some 68) (fl 20 8 []) HT_ ?_
         refine pu (i := 8) (N := some 69) (fl 20 9 []) HT_ ?_
         refine pu (i := 9) (N := some 70) (fl 20 10 []) HT_ ?_
         refine pu (i := 10) (N := some 71) (fl 20 11 []) HT_ ?_
         refine pure_ (i := 11) (N := some 72) (v := undef) (a' := ?_) #[T,T,T,T,T,T,T,T,T,T,T,T,F,F,F,F,F,F,F,F] rfl rfl (any_of HT_.out (by kernel_rfl)) (fun _ _ _ h => h) (Or.inr ⟨by rfl, rfl⟩) ?_ ?_
         rotate_left
         ·simp only [Act.put, psl, i64_w, i32_w]
          rfl
         refine pure_ (i := 12) (N := some 73) (v := undef) (a' := ?_) #[T,T,T,T,T,T,T,T,T,T,T,T,T,F,F,F,F,F,F,F] rfl rfl (any_of HT_.out (by kernel_rfl)) (fun _ _ _ h => h) (Or.inr ⟨by rfl, rfl⟩) ?_ ?_
         rotate_left
         ·simp only [Act.put, psl, i64_w, i32_w]
          rfl
         refine pure_ (i := 13) (N := some 74) (v := undef) (a' := ?_) #[T,T,T,T,T,T,T,T,T,T,T,T,T,T,F,F,F,F,F,F] rfl rfl (any_of HT_.out (by kernel_rfl)) (fun _ _ _ h => h) (Or.inr ⟨by rfl, rfl⟩) ?_ ?_
         rotate_left
         ·simp only [Act.put, psl, i64_w, i32_w]
          rfl
         refine pure_ (i := 14) (N := some 75) (v := undef) (a' := ?_) #[T,T,T,T,T,T,T,T,T,T,T,T,T,T,T,F,F,F,F,F] rfl rfl (any_of HT_.out (by kernel_rfl)) (fun _ _ _ h => h) (Or.inr ⟨by rfl, rfl⟩) ?_ ?_
         rotate_left
         ·simp only [Act.put, psl, i64_w, i32_w]
          rfl
         refine pure_ (i := 15) (N := some 76) (v := undef) (a' := ?_) #[T,T,T,T,T,T,T,T,T,T,T,T,T,T,T,T,F,F,F,F] rfl rfl (any_of HT_.out (by kernel_rfl)) (fun _ _ _ h => h) (Or.inr ⟨by rfl, rfl⟩) ?_ ?_
         rotate_left
         ·simp only [Act.put, psl, i64_w, i32_w]
          rfl
         refine pure_ (i := 16) (N := some 77) (v := undef) (a' := ?_) #[T,T,T,T,T,T,T,T,T,T,T,T,T,T,T,T,T,F,F,F] rfl rfl (any_of HT_.out (by kernel_rfl)) (fun _ _ _ h => h) (Or.inr ⟨by rfl, rfl⟩) ?_ ?_
         rotate_left
         ·simp only [Act.put, psl, i64_w, i32_w]
          rfl
         refine pure_ (i := 17) (N := some 78) (v := undef) (a' := ?_) #[T,T,T,T,T,T,T,T,T,T,T,T,T,T,T,T,T,T,F,F] rfl rfl (any_of HT_.out (by kernel_rfl)) (fun _ _ _ h => h) (Or.inr ⟨by rfl, rfl⟩) ?_ ?_
         rotate_left
         ·simp only [Act.put, psl, i64_w, i32_w]
          rfl
         refine pu (i := 18) (N := some 79) (fl 20 19 []) HT_ ?_
         refine pu (i := 19) (N := some 80) (fl 20 20 []) HT_ ?_
         refine done_ (done_of HT_.out (by kernel_rfl)) ?_
         try go_wp2
         go_roundg k3
         case measure => have := HK1.out; have := HK2.out; have := HK3.out; omega
         case rel => exact ⟨(wrap64 (x8_3 + 1)), (x358000_3), (x358001_3), sqD, H', ⟨by have := HK1.out; have := HK2.out; have := HK3.out; omega⟩, ⟨by (with_reducible repeat (first | apply Kd.R_alloc | apply Kd.R_drewN | apply Kd.R_drew)); exact Kd.R_mono HO_5.out (fun _ hk => ⟨hk.1.1, ⟨hk.1.2.1, hk.1.2.2⟩⟩)⟩, ⟨fb BK348.out⟩, ⟨fb BK356.out⟩, ⟨fb BK357.out⟩, ⟨fW HB.out⟩⟩
        rw [if_pos c71] at H
        have c71b0 : (t363 == 0) = true := beq_iff_eq.mpr c71
        have c71b1 : (t363 != 0) = false := bne_eq_false_iff_eq.mpr c71
        clear c71
        replace H := Option.bind_eq_some_iff.mp H
        obtain ⟨t364, A720, H⟩ := H
        replace H : ((r_far.f ((rd_T23 x5_2 (ji18)).f0) ((rd_T23 x5_2 (ji18)).f1) x358000_3 x358001_3).bind fun t365 => (if t364 > t365 then (r_Hull.l2 k3 l0 x5_2 (wrap64 (x8_3 + 1)) x349000_1 x349001_1 ((rd_T23 x5_2 (ji18)).f0) ((rd_T23 x5_2 (ji18)).f1) ((rd_T23 l0 x8_3).f0) ((rd_T23 l0 x8_3).f1)) else (r_Hull.l2 k3 l0 x5_2 (wrap64 (x8_3 + 1)) x349000_1 x349001_1 ((rd_T23 x5_2 (ji18)).f0) ((rd_T23 x5_2 (ji18)).f1) x358000_3 x358001_3))) = some r := H
        have A72 := am A720
        clear A720
        replace H := Option.bind_eq_some_iff.mp H
        obtain ⟨t365, A730, H⟩ := H
        replace H : (if t364 > t365 then (r_Hull.l2 k3 l0 x5_2 (wrap64 (x8_3 + 1)) x349000_1 x349001_1 ((rd_T23 x5_2 (ji18)).f0) ((rd_T23 x5_2 (ji18)).f1) ((rd_T23 l0 x8_3).f0) ((rd_T23 l0 x8_3).f1)) else (r_Hull.l2 k3 l0 x5_2 (wrap64 (x8_3 + 1)) x349000_1 x349001_1 ((rd_T23 x5_2 (ji18)).f0) ((rd_T23 x5_2 (ji18)).f1) x358000_3 x358001_3)) = some r := H
        have A73 := am A730
        clear A730
        by_cases c74 : t364 > t365
        ·rw [if_pos c74] at H
         have c74b0 : decide (t365 < t364) = true := decide_eq_true c74
         clear c74
         have H' := am H
         clear H
         have p361 : 0 ≤ (x8_3 : Int) := of_decide_eq_true (by assumption)
         have q361 : x8_3 < (l0.length : Int) := of_decide_eq_true (by assumption)
         obtain ⟨ad361, e361, hx361_0, hx361_1⟩ := at_T23 HR0.out x8_3 p361 q361
         obtain rfl : ad347 = ad361 := (by injection e361)
         replace hx361_0 := cl HB hx361_0
         replace hx361_1 := cl HB hx361_1
         replace p361 := eq_true p361
         replace q361 := eq_true q361
         try go_wp2_with (first | ((with_reducible refine gate_dst (N := 9) rfl ?_); refine be ?hg (N := 9) ?hd (cs := #[.int .i64 0, .int .i64 0]) (t := 23) ?hr ?_; (case hd | hg => rfl); (case hr => first | (go_simp; done) | (go_simp; rfl)); intro gb362 hg w75 hbox hb; replace HO_5 := eR HO_5 hg hb; have BK362 := am hbox; have GW362 := sG HB hg; have GE362 := sG HB hg; replace HB := bS HB hb; have NB348_362 := nL BK348 hg; have NB362_348 := nG BK348 hg; replace BK348 := bB BK348 hb; have NB356_362 := nL BK356 hg; have NB362_356 := nG BK356 hg; replace BK356 := bB BK356 hb; have NB357_362 := nL BK357 hg; have NB362_357 := nG BK357 hg; replace BK357 := bB BK357 hb; clear hb hbox hg; have hnb76 := NB362_348.out; have hnc76 := NB348_362.out; have hnb77 := NB362_356.out; have hnc77 := NB356_362.out; have hnb78 := NB362_357.out; have hnc78 := NB357_362.out; obtain ⟨_, _, _, _⟩ := zC2 BK362; have hnb80 := NB356_348.out; have hnc80 := NB348_356.out; have hnb81 := NB356_357.out; have hnc81 := NB357_356.out; obtain ⟨_, _, _, _⟩ := zC2 BK356; have hnb83 := NB357_348.out; have hnc83 := NB348_357.out; obtain ⟨_, _, _, _⟩ := zC2 BK357) | ((with_reducible refine gate_callee (f := 14) rfl ?_); refine goesL_ (some 60) rfl rfl Try.func14 (by kernel_rfl) rfl #[.agg #[.int .i64 ((rd_T23 x5_2 (ji18)).f0), .int .i64 ((rd_T23 x5_2 (ji18)).f1)], .agg #[.int .i64 x358000_3, .int .i64 x358001_3], .agg #[.int .i64 ((rd_T23 l0 x8_3).f0), .int .i64 ((rd_T23 l0 x8_3).f1)]] rfl (by (try simp only [pml]); first | done | (simp only [hji18]; rfl) | rfl | (simp only [pdt]; rfl)) ?_; (with_reducible refine (r_Orient.calls ((rd_T23 x5_2 (ji18)).f0) ((rd_T23 x5_2 (ji18)).f1) x358000_3 x358001_3 ((rd_T23 l0 x8_3).f0) ((rd_T23 l0 x8_3).f1) t363 _ A40.out).mono ?_); rintro e w85 ⟨rfl, hb⟩; refine ⟨_, rfl, ?_⟩; replace HO_5 := am (Kd.R_below (by (with_reducible repeat (first | apply Kd.R_alloc | apply Kd.R_drewN | apply Kd.R_drew)); exact (Kd.R_mono (Kd.R_far (p := ⟨gb362, 1, none⟩) (Kd.R_far (p := ⟨gb362, 0, none⟩) (Kd.R_mono HO_5.out (fun k_ hk => (⟨hk, hk.2⟩ : _ ∧ k_ ≠ gb362))) (fun _ hk => hk.2) (.int .i64 ((rd_T23 l0 x8_3).f0))) (fun _ hk => hk.2) (.int .i64 ((rd_T23 l0 x8_3).f1))) (fun _ h_ => h_.1))) hb); replace BK348 := xC1 (kfC BK348.out) hb; replace BK356 := xC1 (kfC BK356.out) hb; replace BK357 := xC1 (kfC BK357.out) hb; replace BK362 := xC1 (o := .cells #[.int .i64 ((rd_T23 l0 x8_3).f0), .int .i64 ((rd_T23 l0 x8_3).f1)] 23 (0, 0)) (kkC BK362.out) hb; replace HB := bS HB hb; (try clear hb); (try clear hb2); (try clear hk); (try clear hi)))
         have n0_ := am (Kd.R_drew HO_5.out)
         have n1_ := am (bd BK348.out)
         have n2_ := am (bd BK356.out)
         have n3_ := am (bd BK357.out)
         have n4_ := am (bd BK362.out)
         have n5_ := am (wd HB.out)
         clear HO_5 BK348 BK356 BK357 BK362 HB
         have HO_5 := n0_
         have BK348 := n1_
         have BK356 := n2_
         have BK357 := n3_
         have BK362 := n4_
         have HB := n5_
         clear n0_ n1_ n2_ n3_ n4_ n5_
         refine start_ (n := 20) (S := fun w' => w'.cell? ⟨gb357, 0, none⟩ = some (.int .i64 x358000_3) ∧ w'.cell? ⟨gb357, 1, none⟩ = some (.int .i64 x358001_3) ∧ w'.cell? ⟨gb356, 0, none⟩ = some (.int .i64 ((rd_T23 x5_2 (ji18)).f0)) ∧ w'.cell? ⟨gb356, 1, none⟩ = some (.int .i64 ((rd_T23 x5_2 (ji18)).f1)) ∧ w'.cell? ⟨gb362, 0, none⟩ = some (.int .i64 ((rd_T23 l0 x8_3).f0)) ∧ w'.cell? ⟨gb362, 1, none⟩ = some (.int .i64 ((rd_T23 l0 x8_3).f1))) (ds := []) #[F,F,F,F,F,F,F,F,F,F,F,F,F,F,F,F,F,F,F,F] (by kernel_rfl) rfl rfl ⟨(bc BK357.out 0).trans rfl, (bc BK357.out 1).trans rfl, (bc BK356.out 0).trans rfl, (bc BK356.out 1).trans rfl, (bc BK362.out 0).trans rfl, (bc BK362.out 1).trans rfl⟩ (fun hHeld => ?_); refine with_tabW r_Hull.tab17 r_Hull.bits17 (fun HT_ HW_ => ?_)
         generalize w85.drew = w86 at HO_5 BK348 BK356 BK357 BK362 HB hHeld ⊢
         refine tk (i := 0) (N := some 61) (fl 20 1 []) HT_ HW_ hHeld ?_
         refine tk (i := 1) (N := some 62) (fl 20 2 []) HT_ HW_ hHeld ?_
         refine pu (i := 2) (N := some 63) (fl 20 3 []) HT_ ?_
         refine pu (i := 3) (N := some 64) (fl 20 4 []) HT_ ?_
         refine pu (i := 4) (N := some 65) (fl 20 5 []) HT_ ?_
         refine pu (i := 5) (N := some 66) (fl 20 6 []) HT_ ?_
         refine pu (i := 6) (N := some 67) (fl 20 7 []) HT_ ?_
         refine pu (i := 7) (N := some 68) (fl 20 8 []) HT_ ?_
         refine pu (i := 8) (N := some 69) (fl 20 9 []) HT_ ?_
         refine pu (i := 9) (N := some 70) (fl 20 10 []) HT_ ?_
         refine pu (i := 10) (N := some 71) (fl 20 11 []) HT_ ?_
         refine tk (i := 11) (N := some 72) (fl 20 12 []) HT_ HW_ hHeld ?_
         refine tk (i := 12) (N := some 73) (fl 20 13 []) HT_ HW_ hHeld ?_
         refine tk (i := 14) (N := some 75) (fl 20 13 [14]) HT_ HW_ hHeld ?_
         refine tk (i := 15) (N := some 76) (fl 20 13 [14, 15]) HT_ HW_ hHeld ?_
         refine one_ (i := 13) (N := some 74) (fl 20 16 []) rfl rfl (one_of HT_.out (by kernel_rfl)) (by decide) (fun K hK => ?_)
         refine goes_ Try.func55 (by kernel_rfl) rfl #[.agg #[.int .i64 ((rd_T23 x5_2 (ji18)).f0), .int .i64 ((rd_T23 x5_2 (ji18)).f1)], .agg #[.int .i64 ((rd_T23 l0 x8_3).f0), .int .i64 ((rd_T23 l0 x8_3).f1)]] (by rfl) rfl rfl (by (try simp only [pml]); first | done | (simp only [hji18]; rfl) | rfl | (simp only [pdt]; rfl)) ?_
         with_reducible refine (r_far.calls ((rd_T23 x5_2 (ji18)).f0) ((rd_T23 x5_2 (ji18)).f1) ((rd_T23 l0 x8_3).f0) ((rd_T23 l0 x8_3).f1) t364 _ A72.out).mono ?_
         rintro e w87 ⟨rfl, hb⟩
         refine ⟨_, rfl, ?_⟩
         have n0_ := dR HO_5 hb
         have n1_ := bB BK348 hb
         have n2_ := bB BK356 hb
         have n3_ := bB BK357 hb
         have n4_ := bB BK362 hb
         have n5_ := bS HB hb
         clear HO_5 BK348 BK356 BK357 BK362 HB
         have HO_5 := n0_
         have BK348 := n1_
         have BK356 := n2_
         have BK357 := n3_
         have BK362 := n4_
         have HB := n5_
         clear n0_ n1_ n2_ n3_ n4_ n5_
         (try clear hb)
         (try clear hb2)
         (try clear hk)
         (try clear hi)
         refine hK.out _ _ ⟨(bc BK357.out 0).trans rfl, (bc BK357.out 1).trans rfl, (bc BK356.out 0).trans rfl, (bc BK356.out 1).trans rfl, (bc BK362.out 0).trans rfl, (bc BK362.out 1).trans rfl⟩ (fun hHeld => ?_)
         clear hK K
         refine norm_ (a' := ?_) ?_ ?_
         rotate_left
         ·show Act.put _ (some 74) _ = _
          simp only [Act.put, psl, i64_w, i32_w]
          rfl
         refine one_ (i := 16) (N := some 77) (fl 20 17 []) rfl rfl (one_of HT_.out (by kernel_rfl)) (by decide) (fun K hK => ?_)
         refine goes_ Try.func55 (by kernel_rfl) rfl #[.agg #[.int .i64 ((rd_T23 x5_2 (ji18)).f0), .int .i64 ((rd_T23 x5_2 (ji18)).f1)], .agg #[.int .i64 x358000_3, .int .i64 x358001_3]] (by rfl) rfl rfl (by (try simp only [pml]); first | done | (simp only [hji18]; rfl) | rfl | (simp only [pdt]; rfl)) ?_
         with_reducible refine (r_far.calls ((rd_T23 x5_2 (ji18)).f0) ((rd_T23 x5_2 (ji18)).f1) x358000_3 x358001_3 t365 _ A73.out).mono ?_
         rintro e w88 ⟨rfl, hb⟩
         refine ⟨_, rfl, ?_⟩
         have n0_ := dR HO_5 hb
         have n1_ := bB BK348 hb
         have n2_ := bB BK356 hb
         have n3_ := bB BK357 hb
         have n4_ := bB BK362 hb
         have n5_ := bS HB hb
         clear HO_5 BK348 BK356 BK357 BK362 HB
         have HO_5 := n0_
         have BK348 := n1_
         have BK356 := n2_
         have BK357 := n3_
         have BK362 := n4_
         have HB := n5_
         clear n0_ n1_ n2_ n3_ n4_ n5_
         (try clear hb)
         (try clear hb2)
         (try clear hk)
         (try clear hi)
         refine hK.out _ _ ⟨(bc BK357.out 0).trans rfl, (bc BK357.out 1).trans rfl, (bc BK356.out 0).trans rfl, (bc BK356.out 1).trans rfl, (bc BK362.out 0).trans rfl, (bc BK362.out 1).trans rfl⟩ (fun hHeld => ?_)
         clear hK K
         refine norm_ (a' := ?_) ?_ ?_
         rotate_left
         ·show Act.put _ (some 77) _ = _
          simp only [Act.put, psl, i64_w, i32_w]
          rfl
         refine pu (i := 17) (N := some 78) (fl 20 18 []) HT_ ?_
         refine pu (i := 18) (N := some 79) (fl 20 19 []) HT_ ?_
         refine pu (i := 19) (N := some 80) (fl 20 20 []) HT_ ?_
         refine done_ (done_of HT_.out (by kernel_rfl)) ?_
         have := yC1 BK362
         have := kC1 BK362
         have := bf BK362.out 0
         have := bf BK362.out 1
         have := yC1 BK357
         have := kC1 BK357
         have := bf BK357.out 0
         have := bf BK357.out 1
         try go_wp2
         go_roundg k3
         case measure => have := HK1.out; have := HK2.out; have := HK3.out; omega
         case rel => exact ⟨(wrap64 (x8_3 + 1)), ((rd_T23 l0 x8_3).f0), ((rd_T23 l0 x8_3).f1), sqD, H', ⟨by have := HK1.out; have := HK2.out; have := HK3.out; omega⟩, ⟨by (with_reducible repeat (first | apply Kd.R_alloc | apply Kd.R_drewN | apply Kd.R_drew)); exact Kd.R_mono (Kd.R_far (p := ⟨gb357, 1, none⟩) (Kd.R_far (p := ⟨gb357, 0, none⟩) (Kd.R_mono HO_5.out (fun k_ hk => (⟨hk, hk.1.2.2⟩ : _ ∧ k_ ≠ gb357))) (fun _ hk => hk.2) (.int .i64 ((rd_T23 l0 x8_3).f0))) (fun _ hk => hk.2) (.int .i64 ((rd_T23 l0 x8_3).f1))) (fun _ hk => ⟨hk.1.1.1, ⟨hk.1.1.2.1, hk.1.1.2.2⟩⟩)⟩, ⟨by (with_reducible repeat first | apply bN | apply bd | apply ba); refine bF ?_ NB348_357.out _; (with_reducible repeat first | apply bN | apply bd | apply ba); refine bF ?_ NB348_357.out _; (with_reducible repeat first | apply bN | apply bd | apply ba); exact BK348.out⟩, ⟨by (with_reducible repeat first | apply bN | apply bd | apply ba); refine bF ?_ NB356_357.out _; (with_reducible repeat first | apply bN | apply bd | apply ba); refine bF ?_ NB356_357.out _; (with_reducible repeat first | apply bN | apply bd | apply ba); exact BK356.out⟩, ⟨by (with_reducible repeat first | apply bN | apply bd | apply ba); refine blk_put (cs := #[.int .i64 ((rd_T23 l0 x8_3).f0), .int .i64 x358001_3]) ?_ 1 _ rfl; (with_reducible repeat first | apply bN | apply bd | apply ba); refine blk_put (cs := #[.int .i64 x358000_3, .int .i64 x358001_3]) ?_ 0 _ rfl; (with_reducible repeat first | apply bN | apply bd | apply ba); exact BK357.out⟩, ⟨fW HB.out⟩⟩
        rw [if_neg c74] at H
        have c74b0 : decide (t365 < t364) = false := decide_eq_false c74
        clear c74
        have H' := am H
        clear H
        have p361 : 0 ≤ (x8_3 : Int) := of_decide_eq_true (by assumption)
        have q361 : x8_3 < (l0.length : Int) := of_decide_eq_true (by assumption)
        obtain ⟨ad361, e361, hx361_0, hx361_1⟩ := at_T23 HR0.out x8_3 p361 q361
        obtain rfl : ad347 = ad361 := (by injection e361)
        replace hx361_0 := cl HB hx361_0
        replace hx361_1 := cl HB hx361_1
        replace p361 := eq_true p361
        replace q361 := eq_true q361
        try go_wp2_with (first | ((with_reducible refine gate_dst (N := 9) rfl ?_); refine be ?hg (N := 9) ?hd (cs := #[.int .i64 0, .int .i64 0]) (t := 23) ?hr ?_; (case hd | hg => rfl); (case hr => first | (go_simp; done) | (go_simp; rfl)); intro gb362 hg w91 hbox hb; replace HO_5 := eR HO_5 hg hb; have BK362 := am hbox; have GW362 := sG HB hg; have GE362 := sG HB hg; replace HB := bS HB hb; have NB348_362 := nL BK348 hg; have NB362_348 := nG BK348 hg; replace BK348 := bB BK348 hb; have NB356_362 := nL BK356 hg; have NB362_356 := nG BK356 hg; replace BK356 := bB BK356 hb; have NB357_362 := nL BK357 hg; have NB362_357 := nG BK357 hg; replace BK357 := bB BK357 hb; clear hb hbox hg; have hnb92 := NB362_348.out; have hnc92 := NB348_362.out; have hnb93 := NB362_356.out; have hnc93 := NB356_362.out; have hnb94 := NB362_357.out; have hnc94 := NB357_362.out; obtain ⟨_, _, _, _⟩ := zC2 BK362; have hnb96 := NB356_348.out; have hnc96 := NB348_356.out; have hnb97 := NB356_357.out; have hnc97 := NB357_356.out; obtain ⟨_, _, _, _⟩ := zC2 BK356; have hnb99 := NB357_348.out; have hnc99 := NB348_357.out; obtain ⟨_, _, _, _⟩ := zC2 BK357) | ((with_reducible refine gate_callee (f := 14) rfl ?_); refine goesL_ (some 60) rfl rfl Try.func14 (by kernel_rfl) rfl #[.agg #[.int .i64 ((rd_T23 x5_2 (ji18)).f0), .int .i64 ((rd_T23 x5_2 (ji18)).f1)], .agg #[.int .i64 x358000_3, .int .i64 x358001_3], .agg #[.int .i64 ((rd_T23 l0 x8_3).f0), .int .i64 ((rd_T23 l0 x8_3).f1)]] rfl (by (try simp only [pml]); first | done | (simp only [hji18]; rfl) | rfl | (simp only [pdt]; rfl)) ?_; (with_reducible refine (r_Orient.calls ((rd_T23 x5_2 (ji18)).f0) ((rd_T23 x5_2 (ji18)).f1) x358000_3 x358001_3 ((rd_T23 l0 x8_3).f0) ((rd_T23 l0 x8_3).f1) t363 _ A40.out).mono ?_); rintro e w101 ⟨rfl, hb⟩; refine ⟨_, rfl, ?_⟩; replace HO_5 := am (Kd.R_below (by (with_reducible repeat (first | apply Kd.R_alloc | apply Kd.R_drewN | apply Kd.R_drew)); exact (Kd.R_mono (Kd.R_far (p := ⟨gb362, 1, none⟩) (Kd.R_far (p := ⟨gb362, 0, none⟩) (Kd.R_mono HO_5.out (fun k_ hk => (⟨hk, hk.2⟩ : _ ∧ k_ ≠ gb362))) (fun _ hk => hk.2) (.int .i64 ((rd_T23 l0 x8_3).f0))) (fun _ hk => hk.2) (.int .i64 ((rd_T23 l0 x8_3).f1))) (fun _ h_ => h_.1))) hb); replace BK348 := xC1 (kfC BK348.out) hb; replace BK356 := xC1 (kfC BK356.out) hb; replace BK357 := xC1 (kfC BK357.out) hb; replace BK362 := xC1 (o := .cells #[.int .i64 ((rd_T23 l0 x8_3).f0), .int .i64 ((rd_T23 l0 x8_3).f1)] 23 (0, 0)) (kkC BK362.out) hb; replace HB := bS HB hb; (try clear hb); (try clear hb2); (try clear hk); (try clear hi)))
        have n0_ := am (Kd.R_drew HO_5.out)
        have n1_ := am (bd BK348.out)
        have n2_ := am (bd BK356.out)
        have n3_ := am (bd BK357.out)
        have n4_ := am (bd BK362.out)
        have n5_ := am (wd HB.out)
        clear HO_5 BK348 BK356 BK357 BK362 HB
        have HO_5 := n0_
        have BK348 := n1_
        have BK356 := n2_
        have BK357 := n3_
        have BK362 := n4_
        have HB := n5_
        clear n0_ n1_ n2_ n3_ n4_ n5_
        refine start_ (n := 20) (S := fun w' => w'.cell? ⟨gb357, 0, none⟩ = some (.int .i64 x358000_3) ∧ w'.cell? ⟨gb357, 1, none⟩ = some (.int .i64 x358001_3) ∧ w'.cell? ⟨gb356, 0, none⟩ = some (.int .i64 ((rd_T23 x5_2 (ji18)).f0)) ∧ w'.cell? ⟨gb356, 1, none⟩ = some (.int .i64 ((rd_T23 x5_2 (ji18)).f1)) ∧ w'.cell? ⟨gb362, 0, none⟩ = some (.int .i64 ((rd_T23 l0 x8_3).f0)) ∧ w'.cell? ⟨gb362, 1, none⟩ = some (.int .i64 ((rd_T23 l0 x8_3).f1))) (ds := []) #[F,F,F,F,F,F,F,F,F,F,F,F,F,F,F,F,F,F,F,F] (by kernel_rfl) rfl rfl ⟨(bc BK357.out 0).trans rfl, (bc BK357.out 1).trans rfl, (bc BK356.out 0).trans rfl, (bc BK356.out 1).trans rfl, (bc BK362.out 0).trans rfl, (bc BK362.out 1).trans rfl⟩ (fun hHeld => ?_); refine with_tabW r_Hull.tab17 r_Hull.bits17 (fun HT_ HW_ => ?_)
        generalize w101.drew = w102 at HO_5 BK348 BK356 BK357 BK362 HB hHeld ⊢
        refine tk (i := 0) (N := some 61) (fl 20 1 []) HT_ HW_ hHeld ?_
        refine tk (i := 1) (N := some 62) (fl 20 2 []) HT_ HW_ hHeld ?_
        refine pu (i := 2) (N := some 63) (fl 20 3 []) HT_ ?_
        refine pu (i := 3) (N := some 64) (fl 20 4 []) HT_ ?_
        refine pu (i := 4) (N := some 65) (fl 20 5 []) HT_ ?_
        refine pu (i := 5) (N := some 66) (fl 20 6 []) HT_ ?_
        refine pu (i := 6) (N := some 67) (fl 20 7 []) HT_ ?_
        refine pu (i := 7) (N := some 68) (fl 20 8 []) HT_ ?_
        refine pu (i := 8) (N := some 69) (fl 20 9 []) HT_ ?_
        refine pu (i := 9) (N := some 70) (fl 20 10 []) HT_ ?_
        refine pu (i := 10) (N := some 71) (fl 20 11 []) HT_ ?_
        refine tk (i := 11) (N := some 72) (fl 20 12 []) HT_ HW_ hHeld ?_
        refine tk (i := 12) (N := some 73) (fl 20 13 []) HT_ HW_ hHeld ?_
        refine tk (i := 14) (N := some 75) (fl 20 13 [14]) HT_ HW_ hHeld ?_
        refine tk (i := 15) (N := some 76) (fl 20 13 [14, 15]) HT_ HW_ hHeld ?_
        refine one_ (i := 13) (N := some 74) (fl 20 16 []) rfl rfl (one_of HT_.out (by kernel_rfl)) (by decide) (fun K hK => ?_)
        refine goes_ Try.func55 (by kernel_rfl) rfl #[.agg #[.int .i64 ((rd_T23 x5_2 (ji18)).f0), .int .i64 ((rd_T23 x5_2 (ji18)).f1)], .agg #[.int .i64 ((rd_T23 l0 x8_3).f0), .int .i64 ((rd_T23 l0 x8_3).f1)]] (by rfl) rfl rfl (by (try simp only [pml]); first | done | (simp only [hji18]; rfl) | rfl | (simp only [pdt]; rfl)) ?_
        with_reducible refine (r_far.calls ((rd_T23 x5_2 (ji18)).f0) ((rd_T23 x5_2 (ji18)).f1) ((rd_T23 l0 x8_3).f0) ((rd_T23 l0 x8_3).f1) t364 _ A72.out).mono ?_
        rintro e w103 ⟨rfl, hb⟩
        refine ⟨_, rfl, ?_⟩
        have n0_ := dR HO_5 hb
        have n1_ := bB BK348 hb
        have n2_ := bB BK356 hb
        have n3_ := bB BK357 hb
        have n4_ := bB BK362 hb
        have n5_ := bS HB hb
        clear HO_5 BK348 BK356 BK357 BK362 HB
        have HO_5 := n0_
        have BK348 := n1_
        have BK356 := n2_
        have BK357 := n3_
        have BK362 := n4_
        have HB := n5_
        clear n0_ n1_ n2_ n3_ n4_ n5_
        (try clear hb)
        (try clear hb2)
        (try clear hk)
        (try clear hi)
        refine hK.out _ _ ⟨(bc BK357.out 0).trans rfl, (bc BK357.out 1).trans rfl, (bc BK356.out 0).trans rfl, (bc BK356.out 1).trans rfl, (bc BK362.out 0).trans rfl, (bc BK362.out 1).trans rfl⟩ (fun hHeld => ?_)
        clear hK K
        refine norm_ (a' := ?_) ?_ ?_
        rotate_left
        ·show Act.put _ (some 74) _ = _
         simp only [Act.put, psl, i64_w, i32_w]
         rfl
        refine one_ (i := 16) (N := some 77) (fl 20 17 []) rfl rfl (one_of HT_.out (by kernel_rfl)) (by decide) (fun K hK => ?_)
        refine goes_ Try.func55 (by kernel_rfl) rfl #[.agg #[.int .i64 ((rd_T23 x5_2 (ji18)).f0), .int .i64 ((rd_T23 x5_2 (ji18)).f1)], .agg #[.int .i64 x358000_3, .int .i64 x358001_3]] (by rfl) rfl rfl (by (try simp only [pml]); first | done | (simp only [hji18]; rfl) | rfl | (simp only [pdt]; rfl)) ?_
        with_reducible refine (r_far.calls ((rd_T23 x5_2 (ji18)).f0) ((rd_T23 x5_2 (ji18)).f1) x358000_3 x358001_3 t365 _ A73.out).mono ?_
        rintro e w104 ⟨rfl, hb⟩
        refine ⟨_, rfl, ?_⟩
        have n0_ := dR HO_5 hb
        have n1_ := bB BK348 hb
        have n2_ := bB BK356 hb
        have n3_ := bB BK357 hb
        have n4_ := bB BK362 hb
        have n5_ := bS HB hb
        clear HO_5 BK348 BK356 BK357 BK362 HB
        have HO_5 := n0_
        have BK348 := n1_
        have BK356 := n2_
        have BK357 := n3_
        have BK362 := n4_
        have HB := n5_
        clear n0_ n1_ n2_ n3_ n4_ n5_
        (try clear hb)
        (try clear hb2)
        (try clear hk)
        (try clear hi)
        refine hK.out _ _ ⟨(bc BK357.out 0).trans rfl, (bc BK357.out 1).trans rfl, (bc BK356.out 0).trans rfl, (bc BK356.out 1).trans rfl, (bc BK362.out 0).trans rfl, (bc BK362.out 1).trans rfl⟩ (fun hHeld => ?_)
        clear hK K
        refine norm_ (a' := ?_) ?_ ?_
        rotate_left
        ·show Act.put _ (some 77) _ = _
         simp only [Act.put, psl, i64_w, i32_w]
         rfl
        refine pu (i := 17) (N := some 78) (fl 20 18 []) HT_ ?_
        refine pu (i := 18) (N := some 79) (fl 20 19 []) HT_ ?_
        refine pu (i := 19) (N := some 80) (fl 20 20 []) HT_ ?_
        refine done_ (done_of HT_.out (by kernel_rfl)) ?_
        try go_wp2
        go_roundg k3
        case measure => have := HK1.out; have := HK2.out; have := HK3.out; omega
        case rel => exact ⟨(wrap64 (x8_3 + 1)), (x358000_3), (x358001_3), sqD, H', ⟨by have := HK1.out; have := HK2.out; have := HK3.out; omega⟩, ⟨by (with_reducible repeat (first | apply Kd.R_alloc | apply Kd.R_drewN | apply Kd.R_drew)); exact Kd.R_mono HO_5.out (fun _ hk => ⟨hk.1.1, ⟨hk.1.2.1, hk.1.2.2⟩⟩)⟩, ⟨fb BK348.out⟩, ⟨fb BK356.out⟩, ⟨fb BK357.out⟩, ⟨fW HB.out⟩⟩
 ·rw [if_neg c2] at H
  exact absurd H (by simp)

end Go.Proofs.Ytcembjgpcbodcaa.QA
