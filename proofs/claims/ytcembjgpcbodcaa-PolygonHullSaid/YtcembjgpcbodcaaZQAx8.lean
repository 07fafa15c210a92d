import Derived.Test.YtcembjgpcbodcaaZQAx0
import Derived.Test.YtcembjgpcbodcaaZQAx2
namespace Go.Proofs.Ytcembjgpcbodcaa.QA
open Go.RowKit Go.Proofs.YtcembjgpcbodcaaW.PrintWords Go.Proofs.YtcembjgpcbodcaaW.PrintLast Go.Proofs.YtcembjgpcbodcaaW.PrintMore
open Aside0 renaming mk → am
open World renaming block_lt_of_cell? → bq
attribute [local go_sem] max2_int min2_int max_two min_two max_three min_three max_four min_four
set_option linter.unusedVariables false
set_option linter.unusedSimpArgs false

mutual
def polygon_chain.l0 : Nat → List (S23) → List (S23) → Int → Int → Option ((List (S23)))
 | 0, _, _, _, _ => none
 | k + 1, x3, x6, x7, x8 => if x8 < x7 then (if 0 ≤ x8 then (if x8 < (x6.length : Int) then (polygon_chain.l1 k x3 x6 x7 x8 ((rd_T23 x6 x8).f0) ((rd_T23 x6 x8).f1)) else (none)) else (none)) else (some x3)
def polygon_chain.j2 : Nat → List (S23) → List (S23) → Int → Int → Int → Int → Option ((List (S23)))
 | 0, _, _, _, _, _, _ => none
 | k + 1, x3, x6, x7, x8, x177000, x177001 => if x3.length < 8796093022208 then (polygon_chain.l0 k (x3 ++ [(⟨x177000, x177001⟩ : S23)]) x6 x7 (wrap64 (x8 + 1))) else (none)
def polygon_chain.l1 : Nat → List (S23) → List (S23) → Int → Int → Int → Int → Option ((List (S23)))
 | 0, _, _, _, _, _, _ => none
 | k + 1, x3, x6, x7, x8, x177000, x177001 => if (x3.length : Int) > 1 then (if 0 ≤ (wrap64 ((x3.length : Int) - 2)) then (if (wrap64 ((x3.length : Int) - 2)) < (x3.length : Int) then (if 0 ≤ (wrap64 ((x3.length : Int) - 1)) then (if (wrap64 ((x3.length : Int) - 1)) < (x3.length : Int) then ((polygon_Orient.f ((rd_T23 x3 (wrap64 ((x3.length : Int) - 2))).f0) ((rd_T23 x3 (wrap64 ((x3.length : Int) - 2))).f1) ((rd_T23 x3 (wrap64 ((x3.length : Int) - 1))).f0) ((rd_T23 x3 (wrap64 ((x3.length : Int) - 1))).f1) x177000 x177001).bind fun t179 => (if t179 ≤ 0 then (if (wrap64 ((x3.length : Int) - 1)) ≤ (x3.length : Int) then (polygon_chain.l1 k (x3.take ((wrap64 ((x3.length : Int) - 1)) : Int).toNat) x6 x7 x8 x177000 x177001) else (none)) else (polygon_chain.j2 k x3 x6 x7 x8 x177000 x177001))) else (none)) else (none)) else (none)) else (none)) else (polygon_chain.j2 k x3 x6 x7 x8 x177000 x177001)
end
def polygon_chain.f (k : Nat) (l0 : List (S23)) : Option ((List (S23))) := polygon_chain.l0 k ([] : List (S23)) l0 (l0.length : Int) 0
theorem polygon_chain.mono_l : ∀ k, (∀ y0 y1 y2 y3, LeO (polygon_chain.l0 k y0 y1 y2 y3) (polygon_chain.l0 (k + 1) y0 y1 y2 y3)) ∧ (∀ y0 y1 y2 y3 y4 y5, LeO (polygon_chain.j2 k y0 y1 y2 y3 y4 y5) (polygon_chain.j2 (k + 1) y0 y1 y2 y3 y4 y5)) ∧ (∀ y0 y1 y2 y3 y4 y5, LeO (polygon_chain.l1 k y0 y1 y2 y3 y4 y5) (polygon_chain.l1 (k + 1) y0 y1 y2 y3 y4 y5))
 | 0 => ⟨fun _ _ _ _ r h => by simp [polygon_chain.l0] at h, fun _ _ _ _ _ _ r h => by simp [polygon_chain.j2] at h, fun _ _ _ _ _ _ r h => by simp [polygon_chain.l1] at h⟩
 | k + 1 => by
  obtain ⟨ih0, ih1, ih2⟩ := polygon_chain.mono_l k
  refine ⟨?_, ?_, ?_⟩
  ·intro y0 y1 y2 y3
   unfold polygon_chain.l0
   repeat' first
   | (with_reducible exact ih0 _ _ _ _)
   | (with_reducible exact ih1 _ _ _ _ _ _)
   | (with_reducible exact ih2 _ _ _ _ _ _)
   | (with_reducible exact LeO.refl _)
   | (with_reducible exact LeO.none _)
   | (with_reducible refine LeO.ite ?_ ?_)
   | (with_reducible refine LeO.bind ?_ (fun _ => ?_))
   | exact ih0 _ _ _ _
   | exact ih1 _ _ _ _ _ _
   | exact ih2 _ _ _ _ _ _
   | exact LeO.none _
   | refine LeO.ite ?_ ?_
   | refine LeO.bind ?_ (fun _ => ?_)
  ·intro y0 y1 y2 y3 y4 y5
   unfold polygon_chain.j2
   repeat' first
   | (with_reducible exact ih0 _ _ _ _)
   | (with_reducible exact ih1 _ _ _ _ _ _)
   | (with_reducible exact ih2 _ _ _ _ _ _)
   | (with_reducible exact LeO.refl _)
   | (with_reducible exact LeO.none _)
   | (with_reducible refine LeO.ite ?_ ?_)
   | (with_reducible refine LeO.bind ?_ (fun _ => ?_))
   | exact ih0 _ _ _ _
   | exact ih1 _ _ _ _ _ _
   | exact ih2 _ _ _ _ _ _
   | exact LeO.none _
   | refine LeO.ite ?_ ?_
   | refine LeO.bind ?_ (fun _ => ?_)
  intro y0 y1 y2 y3 y4 y5
  unfold polygon_chain.l1
  repeat' first
  | (with_reducible exact ih0 _ _ _ _)
  | (with_reducible exact ih1 _ _ _ _ _ _)
  | (with_reducible exact ih2 _ _ _ _ _ _)
  | (with_reducible exact LeO.refl _)
  | (with_reducible exact LeO.none _)
  | (with_reducible refine LeO.ite ?_ ?_)
  | (with_reducible refine LeO.bind ?_ (fun _ => ?_))
  | exact ih0 _ _ _ _
  | exact ih1 _ _ _ _ _ _
  | exact ih2 _ _ _ _ _ _
  | exact LeO.none _
  | refine LeO.ite ?_ ?_
  | refine LeO.bind ?_ (fun _ => ?_)
theorem polygon_chain.mono : ∀ a0 k, LeO (polygon_chain.f k a0) (polygon_chain.f (k + 1) a0) := by
 intro a0 k
 obtain ⟨ih0, ih1, ih2⟩ := polygon_chain.mono_l k
 unfold polygon_chain.f
 repeat' first
   | (with_reducible exact ih0 _ _ _ _)
   | (with_reducible exact ih1 _ _ _ _ _ _)
   | (with_reducible exact ih2 _ _ _ _ _ _)
   | (with_reducible exact LeO.refl _)
   | (with_reducible exact LeO.none _)
   | (with_reducible refine LeO.ite ?_ ?_)
   | (with_reducible refine LeO.bind ?_ (fun _ => ?_))
   | exact ih0 _ _ _ _
   | exact ih1 _ _ _ _ _ _
   | exact ih2 _ _ _ _ _ _
   | exact LeO.none _
   | refine LeO.ite ?_ ?_
   | refine LeO.bind ?_ (fun _ => ?_)
def polygon_chain.T5 : Bool × List (List Nat × List Nat) := (true, [([], []), ([0], [0]), ([1], [1]), ([2], [2]), ([3], [3]), ([3], [3]), ([5, 3], [3, 5]), ([6, 3], [3, 6]), ([4, 7, 3], [3, 4, 7]), ([8, 3], [3, 8]), ([3], [3]), ([3], [3]), ([11, 3], [3, 11]), ([12, 3], [3, 12]), ([10, 13, 3], [3, 10, 13]), ([14, 3], [3, 14]), ([3], [3]), ([9, 15, 16, 3, 3], [3, 9, 15, 16]), ([17, 3], [3, 17]), ([3, 18], [3, 18])])
def polygon_chain.B5 : List Nat := [0, 1, 3, 7, 15, 15, 47, 111, 255, 511, 15, 15, 2063, 6159, 15375, 31759, 15, 131071, 262143, 524287]
theorem polygon_chain.tab5 : rtab .any (opsOf Try.f51 5) = polygon_chain.T5 := by kernel_rfl
theorem polygon_chain.bits5 : waitsOk polygon_chain.T5.2 polygon_chain.B5 = true := by kernel_rfl
set_option maxHeartbeats 8000000 in
set_option maxRecDepth 100000 in
theorem polygon_chain.calls (k : Nat) (A0 : Option Addr) (c0 : Nat) (l0 : List (S23)) (r : List (S23)) (w : World) (hr0 : Kd.C k23 w A0 l0.length l0) (hc0 : l0.length ≤ c0) (h : polygon_chain.f k l0 = some r) :
  Calls Try.prog 51 #[.slice A0 l0.length c0] w fun e w' => ∃ v0_ : Value, e = .returned (v0_) ∧ Kd.R k23 23 w' w.heap.size (fun _ => True) v0_ r ∧ Below w.heap.size w w' := by
 have hu23 := Try.underlying23
 have HR0 := am hr0
 have HC0 := am hc0
 clear hr0 hc0
 have HB := am (Below.refl w.heap.size w)
 have H : (polygon_chain.l0 k ([] : List (S23)) l0 (l0.length : Int) 0) = some r := h
 clear h
 have H' := am H
 clear H
 go_enter Try.func51, Try.ntmps51
 go_wp2
 go_loopg [3, 8] k (fun kq v3 v8 w' => ∃ (x3_1 : List (S23)) (x8_1 : Int), v8 = .int .i64 x8_1 ∧ Aside0 (polygon_chain.l0 kq x3_1 l0 (l0.length : Int) x8_1 = some r) ∧ Aside0 (kq ≤ k) ∧ Aside0 (Kd.R k23 23 w' w.heap.size (fun _ => True) v3 x3_1) ∧ Aside0 (Below w.heap.size w w'))
 case atStart => exact ⟨(([] : List (S23))), (0), sqD, H', ⟨Nat.le_refl _⟩, ⟨by first | exact Kd.R_nil _ _ _ _ _ | exact Kd.N_nil _ _ _ _ _ | exact Kd.V_nil _ _ _ _ _ | exact Kd.Q_nil _ _ _ _ _ | exact Kd.S_nil _ _ _ _ _⟩, ⟨fW HB.out⟩⟩
 case round =>
  clear H'
  obtain ⟨x3_1, x8_1, rfl, HA, HK1, HO_3, HB⟩ := hrel
  cases gk with
  | zero => exact absurd HA.out (by simp [polygon_chain.l0])
  | succ k1 =>
   have H := HA.out
   clear HA
   simp only [polygon_chain.l0] at H
   by_cases c2 : x8_1 < (l0.length : Int)
   ·rw [if_pos c2] at H
    have c2b0 : decide (x8_1 < (l0.length : Int)) = true := decide_eq_true c2
    clear c2
    by_cases c3 : 0 ≤ x8_1
    rotate_left
    ·rw [if_neg c3] at H
     exact absurd H (by simp)
    rw [if_pos c3] at H
    have c3b0 : decide (0 ≤ x8_1) = true := decide_eq_true c3
    clear c3
    by_cases c4 : x8_1 < (l0.length : Int)
    rotate_left
    ·rw [if_neg c4] at H
     exact absurd H (by simp)
    rw [if_pos c4] at H
    have c4b0 : decide (x8_1 < (l0.length : Int)) = true := decide_eq_true c4
    clear c4
    have HC5 := am H
    clear H
    have p175 : 0 ≤ (x8_1 : Int) := of_decide_eq_true (by assumption)
    have q175 : x8_1 < (l0.length : Int) := of_decide_eq_true (by assumption)
    obtain ⟨ad175, e175, hx175_0, hx175_1⟩ := at_T23 HR0.out x8_1 p175 q175
    cases e175
    replace hx175_0 := cl HB hx175_0
    replace hx175_1 := cl HB hx175_1
    replace p175 := eq_true p175
    replace q175 := eq_true q175
    go_upto_block 2 with (first | ((with_reducible refine gate_dst (N := 5) rfl ?_); (try (refine gate_guard (by rfl) ?_; dsimp only)); refine box_event ?hg (N := 5) ?hd (cs := #[.int .i64 0, .int .i64 0]) (t := 23) ?hr ?_; (case hd | hg => rfl); (case hr => first | (go_simp; done) | (go_simp; rfl)); intro gb176 hg w6 hbox hb; replace HO_3 := eR HO_3 hg hb; have BK176 := am hbox; have GW176 := sG HB hg; have GE176 := sG HB hg; replace HB := bS HB hb; clear hb hbox hg; obtain ⟨_, _, _, _⟩ := zC2 BK176))
    (try simp only [Act.put, psl])
    go_cut [3] (fun v3 wc => ∃ (kq : Nat) (x3_4 : List (S23)), Aside0 (polygon_chain.j2 kq x3_4 l0 (l0.length : Int) x8_1 ((rd_T23 l0 x8_1).f0) ((rd_T23 l0 x8_1).f1) = some r) ∧ Aside0 (kq ≤ k1) ∧ Aside0 (Kd.R k23 23 wc w.heap.size (fun k_ => k_ ≠ gb176) v3 x3_4) ∧ Aside0 (wc.heap[gb176]? = some (.cells #[.int .i64 ((rd_T23 l0 x8_1).f0), .int .i64 ((rd_T23 l0 x8_1).f1)] 23 (0, 0))) ∧ Aside0 (Below w.heap.size w wc))
    case first =>
     have H := HC5.out
     clear HC5
     have H' := am H
     clear H
     go_wp2
     go_loopg [3] k1 (fun kq v3 w' => ∃ (x3_2 : List (S23)), Aside0 (polygon_chain.l1 kq x3_2 l0 (l0.length : Int) x8_1 ((rd_T23 l0 x8_1).f0) ((rd_T23 l0 x8_1).f1) = some r) ∧ Aside0 (kq ≤ k1) ∧ Aside0 (Kd.R k23 23 w' w.heap.size (fun k_ => k_ ≠ gb176) v3 x3_2) ∧ Aside0 (w'.heap[gb176]? = some (.cells #[.int .i64 ((rd_T23 l0 x8_1).f0), .int .i64 ((rd_T23 l0 x8_1).f1)] 23 (0, 0))) ∧ Aside0 (Below w.heap.size w w'))
     case atStart => exact ⟨(x3_1), H', ⟨Nat.le_refl _⟩, ⟨by (with_reducible repeat (first | apply Kd.R_alloc | apply Kd.R_drewN | apply Kd.R_drew)); exact Kd.R_mono (Kd.R_far (p := ⟨gb176, 1, none⟩) (Kd.R_far (p := ⟨gb176, 0, none⟩) (Kd.R_mono HO_3.out (fun k_ hk => (⟨hk, hk.2⟩ : _ ∧ k_ ≠ gb176))) (fun _ hk => hk.2) (.int .i64 ((rd_T23 l0 x8_1).f0))) (fun _ hk => hk.2) (.int .i64 ((rd_T23 l0 x8_1).f1))) (fun _ hk => hk.1.2)⟩, ⟨by (with_reducible repeat first | apply blk_drewN | apply blk_drew | apply blk_alloc); refine blk_put (cs := #[.int .i64 ((rd_T23 l0 x8_1).f0), .int .i64 0]) ?_ 1 _ rfl; (with_reducible repeat first | apply blk_drewN | apply blk_drew | apply blk_alloc); refine blk_put (cs := #[.int .i64 0, .int .i64 0]) ?_ 0 _ rfl; (with_reducible repeat first | apply blk_drewN | apply blk_drew | apply blk_alloc); exact BK176.out⟩, ⟨fW HB.out⟩⟩
     case round =>
      clear H'
      try clear p1;try clear q1;try clear hx1;try clear c2;try clear c2b0;try clear p2;try clear c3;try clear c3b0;try clear c4;try clear c4b0;try clear c5;try clear hx175_0;try clear hx175_1;try clear p175;try clear q175
      obtain ⟨x3_2, HA, HK2, HO_3, BK176, HB⟩ := hrel
      cases gk with
      | zero => exact absurd HA.out (by simp [polygon_chain.l1])
      | succ k2 =>
       have H := HA.out
       clear HA
       simp only [polygon_chain.l1] at H
       by_cases c8 : (x3_2.length : Int) > 1
       rotate_left
       ·rw [if_neg c8] at H
        have c8b0 : decide (1 < (x3_2.length : Int)) = false := decide_eq_false c8
        have c8b1 : decide (1 < x3_2.length) = false := decide_eq_false (by omega)
        clear c8
        (first | rw [c8b0] | (simp only [i64_w, i32_w]; rw [c8b0]) | skip)
        have H' := am H
        clear H
        try go_wp2
        have n0_ := am (Kd.R_drew HO_3.out)
        have n1_ := am (blk_drew BK176.out)
        have n2_ := am (below_drew1 HB.out)
        clear HO_3 BK176 HB
        have HO_3 := n0_
        have BK176 := n1_
        have HB := n2_
        clear n0_ n1_ n2_
        obtain ⟨Ao26, co26, eo26⟩ := Kd.R_slice HO_3.out
        (first | subst eo26 | (injection eo26 with f1_ f2_ f3_; have f4_ := f1_.symm; have f5_ := f3_.symm; clear f1_ f2_ f3_; subst f4_; subst f5_))
        refine start_ (n := 20) (S := fun w' => True) (ds := []) #[F,F,F,F,F,F,F,F,F,F,F,F,F,F,F,F,F,F,F,F] (by kernel_rfl) rfl rfl trivial (fun hHeld => ?_); refine with_tabW polygon_chain.tab5 polygon_chain.bits5 (fun HT_ HW_ => ?_)
        generalize wr.drew = w25 at HO_3 BK176 HB hHeld ⊢
        refine pu (i := 0) (N := some 12) (fl 20 1 []) HT_ ?_
        refine pu (i := 1) (N := some 13) (fl 20 2 []) HT_ ?_
        refine pu (i := 2) (N := some 14) (fl 20 3 []) HT_ ?_
        refine pu (i := 3) (N := some 15) (fl 20 4 []) HT_ ?_
        refine pure_ (i := 4) (N := some 16) (v := undef) (a' := ?_) #[T,T,T,T,T,F,F,F,F,F,F,F,F,F,F,F,F,F,F,F] rfl rfl (any_of HT_.out (by kernel_rfl)) (fun _ _ _ h => h) (Or.inr ⟨by rfl, rfl⟩) ?_ ?_
        rotate_left
        ·simp only [Act.put, psl, i64_w, i32_w]
         rfl
        refine pure_ (i := 5) (N := some 17) (v := undef) (a' := ?_) #[T,T,T,T,T,T,F,F,F,F,F,F,F,F,F,F,F,F,F,F] rfl rfl (any_of HT_.out (by kernel_rfl)) (fun _ _ _ h => h) (Or.inr ⟨by rfl, rfl⟩) ?_ ?_
        rotate_left
        ·simp only [Act.put, psl, i64_w, i32_w]
         rfl
        refine pure_ (i := 6) (N := some 18) (v := undef) (a' := ?_) #[T,T,T,T,T,T,T,F,F,F,F,F,F,F,F,F,F,F,F,F] rfl rfl (any_of HT_.out (by kernel_rfl)) (fun _ _ _ h => h) (Or.inr ⟨by rfl, rfl⟩) ?_ ?_
        rotate_left
        ·simp only [Act.put, psl, i64_w, i32_w]
         rfl
        refine pure_ (i := 7) (N := some 19) (v := undef) (a' := ?_) #[T,T,T,T,T,T,T,T,F,F,F,F,F,F,F,F,F,F,F,F] rfl rfl (any_of HT_.out (by kernel_rfl)) (fun _ _ _ h => h) (Or.inr ⟨by rfl, rfl⟩) ?_ ?_
        rotate_left
        ·simp only [Act.put, psl, i64_w, i32_w]
         rfl
        refine pure_ (i := 8) (N := some 20) (v := undef) (a' := ?_) #[T,T,T,T,T,T,T,T,T,F,F,F,F,F,F,F,F,F,F,F] rfl rfl (any_of HT_.out (by kernel_rfl)) (fun _ _ _ h => h) (Or.inr ⟨by rfl, rfl⟩) ?_ ?_
        rotate_left
        ·simp only [Act.put, psl, i64_w, i32_w]
         rfl
        refine pure_ (i := 9) (N := some 21) (v := undef) (a' := ?_) #[T,T,T,T,T,T,T,T,T,T,F,F,F,F,F,F,F,F,F,F] rfl rfl (any_of HT_.out (by kernel_rfl)) (fun _ _ _ h => h) (Or.inr ⟨by rfl, rfl⟩) ?_ ?_
        rotate_left
        ·simp only [Act.put, psl, i64_w, i32_w]
         rfl
        refine pure_ (i := 10) (N := some 22) (v := undef) (a' := ?_) #[T,T,T,T,T,T,T,T,T,T,T,F,F,F,F,F,F,F,F,F] rfl rfl (any_of HT_.out (by kernel_rfl)) (fun _ _ _ h => h) (Or.inr ⟨by rfl, rfl⟩) ?_ ?_
        rotate_left
        ·simp only [Act.put, psl, i64_w, i32_w]
         rfl
        refine pure_ (i := 11) (N := some 23) (v := undef) (a' := ?_) #[T,T,T,T,T,T,T,T,T,T,T,T,F,F,F,F,F,F,F,F] rfl rfl (any_of HT_.out (by kernel_rfl)) (fun _ _ _ h => h) (Or.inr ⟨by rfl, rfl⟩) ?_ ?_
        rotate_left
        ·simp only [Act.put, psl, i64_w, i32_w]
         rfl
        refine pure_ (i := 12) (N := some 24) (v := undef) (a' := ?_) #[T,T,T,T,T,T,T,T,T,T,T,T,T,F,F,F,F,F,F,F] rfl rfl (any_of HT_.out (by kernel_rfl)) (fun _ _ _ h => h) (Or.inr ⟨by rfl, rfl⟩) ?_ ?_
        rotate_left
        ·simp only [Act.put, psl, i64_w, i32_w]
         rfl
        refine pure_ (i := 13) (N := some 25) (v := undef) (a' := ?_) #[T,T,T,T,T,T,T,T,T,T,T,T,T,T,F,F,F,F,F,F] rfl rfl (any_of HT_.out (by kernel_rfl)) (fun _ _ _ h => h) (Or.inr ⟨by rfl, rfl⟩) ?_ ?_
        rotate_left
        ·simp only [Act.put, psl, i64_w, i32_w]
         rfl
        refine pure_ (i := 14) (N := some 26) (v := undef) (a' := ?_) #[T,T,T,T,T,T,T,T,T,T,T,T,T,T,T,F,F,F,F,F] rfl rfl (any_of HT_.out (by kernel_rfl)) (fun _ _ _ h => h) (Or.inr ⟨by rfl, rfl⟩) ?_ ?_
        rotate_left
        ·simp only [Act.put, psl, i64_w, i32_w]
         rfl
        refine pure_ (i := 15) (N := some 27) (v := undef) (a' := ?_) #[T,T,T,T,T,T,T,T,T,T,T,T,T,T,T,T,F,F,F,F] rfl rfl (any_of HT_.out (by kernel_rfl)) (fun _ _ _ h => h) (Or.inr ⟨by rfl, rfl⟩) ?_ ?_
        rotate_left
        ·simp only [Act.put, psl, i64_w, i32_w]
         rfl
        refine pure_ (i := 16) (N := some 28) (v := undef) (a' := ?_) #[T,T,T,T,T,T,T,T,T,T,T,T,T,T,T,T,T,F,F,F] rfl rfl (any_of HT_.out (by kernel_rfl)) (fun _ _ _ h => h) (Or.inr ⟨by rfl, rfl⟩) ?_ ?_
        rotate_left
        ·simp only [Act.put, psl, i64_w, i32_w]
         rfl
        refine pure_ (i := 17) (N := some 29) (v := undef) (a' := ?_) #[T,T,T,T,T,T,T,T,T,T,T,T,T,T,T,T,T,T,F,F] rfl rfl (any_of HT_.out (by kernel_rfl)) (fun _ _ _ h => h) (Or.inr ⟨by rfl, rfl⟩) ?_ ?_
        rotate_left
        ·simp only [Act.put, psl, i64_w, i32_w]
         rfl
        refine pure_ (i := 18) (N := some 30) (v := undef) (a' := ?_) #[T,T,T,T,T,T,T,T,T,T,T,T,T,T,T,T,T,T,T,F] rfl rfl (any_of HT_.out (by kernel_rfl)) (fun _ _ _ h => h) (Or.inr ⟨by rfl, rfl⟩) ?_ ?_
        rotate_left
        ·simp only [Act.put, psl, i64_w, i32_w]
         rfl
        refine pu (i := 19) (N := some 31) (fl 20 20 []) HT_ ?_
        refine done_ (done_of HT_.out (by kernel_rfl)) ?_
        try go_wp2
        go_meet
        case rel => exact ⟨_, (x3_2), H', ⟨by have := HK1.out; have := HK2.out; first | omega | exact Nat.le_refl _⟩, ⟨fR HO_3.out⟩, ⟨fb BK176.out⟩, ⟨fW HB.out⟩⟩
       rw [if_pos c8] at H
       have c8b0 : decide (1 < (x3_2.length : Int)) = true := decide_eq_true c8
       have c8b1 : decide (1 < x3_2.length) = true := decide_eq_true (by omega)
       clear c8
       (first | rw [c8b0] | (simp only [i64_w, i32_w]; rw [c8b0]) | skip)
       obtain ⟨ji9, hji9⟩ : ∃ j_ : Int, (wrap64 ((x3_2.length : Int) - 2)) = j_ := ⟨_, rfl⟩
       replace H : (if 0 ≤ (ji9) then (if (ji9) < (x3_2.length : Int) then (if 0 ≤ (wrap64 ((x3_2.length : Int) - 1)) then (if (wrap64 ((x3_2.length : Int) - 1)) < (x3_2.length : Int) then ((polygon_Orient.f ((rd_T23 x3_2 (ji9)).f0) ((rd_T23 x3_2 (ji9)).f1) ((rd_T23 x3_2 (wrap64 ((x3_2.length : Int) - 1))).f0) ((rd_T23 x3_2 (wrap64 ((x3_2.length : Int) - 1))).f1) ((rd_T23 l0 x8_1).f0) ((rd_T23 l0 x8_1).f1)).bind fun t179 => (if t179 ≤ 0 then (if (wrap64 ((x3_2.length : Int) - 1)) ≤ (x3_2.length : Int) then (polygon_chain.l1 k2 (x3_2.take ((wrap64 ((x3_2.length : Int) - 1)) : Int).toNat) l0 (l0.length : Int) x8_1 ((rd_T23 l0 x8_1).f0) ((rd_T23 l0 x8_1).f1)) else (none)) else (polygon_chain.j2 k2 x3_2 l0 (l0.length : Int) x8_1 ((rd_T23 l0 x8_1).f0) ((rd_T23 l0 x8_1).f1)))) else (none)) else (none)) else (none)) else (none)) = some r := by first | (rw [hji9] at H; exact H) | (simp only [hji9] at H ⊢; exact H)
       have hji9w : (IntKind.i64.wrap ((x3_2.length : Int) - 2)) = ji9 := (i64_w _).trans hji9
       by_cases c10 : 0 ≤ (ji9)
       rotate_left
       ·rw [if_neg c10] at H
        exact absurd H (by simp)
       rw [if_pos c10] at H
       have c10b0 : decide (0 ≤ (ji9)) = true := decide_eq_true c10
       clear c10
       by_cases c11 : (ji9) < (x3_2.length : Int)
       rotate_left
       ·rw [if_neg c11] at H
        exact absurd H (by simp)
       rw [if_pos c11] at H
       have c11b0 : decide ((ji9) < (x3_2.length : Int)) = true := decide_eq_true c11
       clear c11
       obtain ⟨ji12, hji12⟩ : ∃ j_ : Int, (wrap64 ((x3_2.length : Int) - 1)) = j_ := ⟨_, rfl⟩
       replace H : (if 0 ≤ (ji12) then (if (ji12) < (x3_2.length : Int) then ((polygon_Orient.f ((rd_T23 x3_2 (ji9)).f0) ((rd_T23 x3_2 (ji9)).f1) ((rd_T23 x3_2 (ji12)).f0) ((rd_T23 x3_2 (ji12)).f1) ((rd_T23 l0 x8_1).f0) ((rd_T23 l0 x8_1).f1)).bind fun t179 => (if t179 ≤ 0 then (if (ji12) ≤ (x3_2.length : Int) then (polygon_chain.l1 k2 (x3_2.take ((ji12) : Int).toNat) l0 (l0.length : Int) x8_1 ((rd_T23 l0 x8_1).f0) ((rd_T23 l0 x8_1).f1)) else (none)) else (polygon_chain.j2 k2 x3_2 l0 (l0.length : Int) x8_1 ((rd_T23 l0 x8_1).f0) ((rd_T23 l0 x8_1).f1)))) else (none)) else (none)) = some r := by first | (rw [hji12] at H; exact H) | (simp only [hji12] at H ⊢; exact H)
       have hji12w : (IntKind.i64.wrap ((x3_2.length : Int) - 1)) = ji12 := (i64_w _).trans hji12
       by_cases c13 : 0 ≤ (ji12)
       rotate_left
       ·rw [if_neg c13] at H
        exact absurd H (by simp)
       rw [if_pos c13] at H
       have c13b0 : decide (0 ≤ (ji12)) = true := decide_eq_true c13
       clear c13
       by_cases c14 : (ji12) < (x3_2.length : Int)
       rotate_left
       ·rw [if_neg c14] at H
        exact absurd H (by simp)
       rw [if_pos c14] at H
       have c14b0 : decide ((ji12) < (x3_2.length : Int)) = true := decide_eq_true c14
       clear c14
       replace H := Option.bind_eq_some_iff.mp H
       obtain ⟨t179, A150, H⟩ := H
       replace H : (if t179 ≤ 0 then (if (ji12) ≤ (x3_2.length : Int) then (polygon_chain.l1 k2 (x3_2.take ((ji12) : Int).toNat) l0 (l0.length : Int) x8_1 ((rd_T23 l0 x8_1).f0) ((rd_T23 l0 x8_1).f1)) else (none)) else (polygon_chain.j2 k2 x3_2 l0 (l0.length : Int) x8_1 ((rd_T23 l0 x8_1).f0) ((rd_T23 l0 x8_1).f1))) = some r := H
       have A15 := am A150
       clear A150
       by_cases c16 : t179 ≤ 0
       rotate_left
       ·rw [if_neg c16] at H
        have c16b0 : decide (t179 ≤ 0) = false := decide_eq_false c16
        clear c16
        have H' := am H
        clear H
        try go_wp2
        have n0_ := am (Kd.R_drew HO_3.out)
        have n1_ := am (blk_drew BK176.out)
        have n2_ := am (below_drew1 HB.out)
        clear HO_3 BK176 HB
        have HO_3 := n0_
        have BK176 := n1_
        have HB := n2_
        clear n0_ n1_ n2_
        obtain ⟨Ao23, co23, eo23⟩ := Kd.R_slice HO_3.out
        (first | subst eo23 | (injection eo23 with f1_ f2_ f3_; have f4_ := f1_.symm; have f5_ := f3_.symm; clear f1_ f2_ f3_; subst f4_; subst f5_))
        have p177 : 0 ≤ ((ji9) : Int) := of_decide_eq_true (by assumption)
        have q177 : (ji9) < (x3_2.length : Int) := of_decide_eq_true (by assumption)
        obtain ⟨ad177, e177, hx177_0, hx177_1⟩ := at_T23 (Kd.R_reads' HO_3.out).2.2 (ji9) p177 q177
        cases e177
        replace p177 := eq_true p177
        replace q177 := eq_true q177
        have p178 : 0 ≤ ((ji12) : Int) := of_decide_eq_true (by assumption)
        have q178 : (ji12) < (x3_2.length : Int) := of_decide_eq_true (by assumption)
        obtain ⟨ad178, e178, hx178_0, hx178_1⟩ := at_T23 (Kd.R_reads' HO_3.out).2.2 (ji12) p178 q178
        obtain rfl : ad177 = ad178 := (by injection e178)
        replace p178 := eq_true p178
        replace q178 := eq_true q178
        refine start_ (n := 20) (S := fun w' => w'.cell? ⟨gb176, 0, none⟩ = some (.int .i64 ((rd_T23 l0 x8_1).f0)) ∧ w'.cell? ⟨gb176, 1, none⟩ = some (.int .i64 ((rd_T23 l0 x8_1).f1)) ∧ w'.cell? (ad177.add (((ji9)).toNat * 2)) = some (.int .i64 ((rd_T23 x3_2 (ji9)).f0)) ∧ w'.cell? ⟨(ad177.add (((ji9)).toNat * 2)).block, (ad177.add (((ji9)).toNat * 2)).off + 1, none⟩ = some (.int .i64 ((rd_T23 x3_2 (ji9)).f1)) ∧ w'.cell? (ad177.add (((ji12)).toNat * 2)) = some (.int .i64 ((rd_T23 x3_2 (ji12)).f0)) ∧ w'.cell? ⟨(ad177.add (((ji12)).toNat * 2)).block, (ad177.add (((ji12)).toNat * 2)).off + 1, none⟩ = some (.int .i64 ((rd_T23 x3_2 (ji12)).f1))) (ds := []) #[F,F,F,F,F,F,F,F,F,F,F,F,F,F,F,F,F,F,F,F] (by kernel_rfl) rfl rfl ⟨(blk_cell BK176.out 0).trans rfl, (blk_cell BK176.out 1).trans rfl, hx177_0, hx177_1, hx178_0, hx178_1⟩ (fun hHeld => ?_); refine with_tabW polygon_chain.tab5 polygon_chain.bits5 (fun HT_ HW_ => ?_)
        generalize wr.drew = w22 at HO_3 BK176 HB hx177_0 hx177_1 hx178_0 hx178_1 hHeld ⊢
        refine pu (i := 0) (N := some 12) (fl 20 1 []) HT_ ?_
        refine pu (i := 1) (N := some 13) (fl 20 2 []) HT_ ?_
        refine pu (i := 2) (N := some 14) (fl 20 3 []) HT_ ?_
        refine pu (i := 3) (N := some 15) (fl 20 4 []) HT_ ?_
        refine pu (i := 4) (N := some 16) (fl 20 5 []) HT_ ?_
        refine pu (i := 5) (N := some 17) (fl 20 6 []) HT_ ?_
        refine pu (i := 6) (N := some 18) (fl 20 7 []) HT_ ?_
        refine pu (i := 7) (N := some 19) (fl 20 8 []) HT_ ?_
        refine pu (i := 8) (N := some 20) (fl 20 9 []) HT_ ?_
        refine pu (i := 10) (N := some 22) (fl 20 9 [10]) HT_ ?_
        refine pu (i := 11) (N := some 23) (fl 20 9 [10, 11]) HT_ ?_
        refine pu (i := 12) (N := some 24) (fl 20 9 [10, 11, 12]) HT_ ?_
        refine pu (i := 13) (N := some 25) (fl 20 9 [10, 11, 12, 13]) HT_ ?_
        refine pu (i := 14) (N := some 26) (fl 20 9 [10, 11, 12, 13, 14]) HT_ ?_
        refine tk (i := 9) (N := some 21) (fl 20 15 []) HT_ HW_ hHeld ?_
        refine tk (i := 15) (N := some 27) (fl 20 16 []) HT_ HW_ hHeld ?_
        refine tk (i := 16) (N := some 28) (fl 20 17 []) HT_ HW_ hHeld ?_
        refine one_ (i := 17) (N := some 29) (fl 20 18 []) rfl rfl (one_of HT_.out (by kernel_rfl)) (by decide) (fun K hK => ?_)
        refine goes_ Try.func13 (by kernel_rfl) rfl #[.agg #[.int .i64 ((rd_T23 x3_2 (ji9)).f0), .int .i64 ((rd_T23 x3_2 (ji9)).f1)], .agg #[.int .i64 ((rd_T23 x3_2 (ji12)).f0), .int .i64 ((rd_T23 x3_2 (ji12)).f1)], .agg #[.int .i64 ((rd_T23 l0 x8_1).f0), .int .i64 ((rd_T23 l0 x8_1).f1)]] (by rfl) rfl rfl (by (try simp only [pml]); first | done | (simp only [hji12, hji9]; rfl) | rfl | (simp only [pdt]; rfl)) ?_
        with_reducible refine (polygon_Orient.calls ((rd_T23 x3_2 (ji9)).f0) ((rd_T23 x3_2 (ji9)).f1) ((rd_T23 x3_2 (ji12)).f0) ((rd_T23 x3_2 (ji12)).f1) ((rd_T23 l0 x8_1).f0) ((rd_T23 l0 x8_1).f1) t179 _ A15.out).mono ?_
        rintro e w24 ⟨rfl, hb⟩
        have HS2_ := (hb.cell (bq _ _ (hHeld.2.2.1))).trans (hHeld.2.2.1)
        have HS3_ := (hb.cell (bq _ _ (hHeld.2.2.2.1))).trans (hHeld.2.2.2.1)
        have HS4_ := (hb.cell (bq _ _ (hHeld.2.2.2.2.1))).trans (hHeld.2.2.2.2.1)
        have HS5_ := (hb.cell (bq _ _ (hHeld.2.2.2.2.2))).trans (hHeld.2.2.2.2.2)
        refine ⟨_, rfl, ?_⟩
        have n0_ := dR HO_3 hb
        have n1_ := bB BK176 hb
        have n2_ := bS HB hb
        clear HO_3 BK176 HB
        have HO_3 := n0_
        have BK176 := n1_
        have HB := n2_
        clear n0_ n1_ n2_
        (try clear hb)
        (try clear hb2)
        (try clear hk)
        (try clear hi)
        refine hK.out _ _ ⟨(blk_cell BK176.out 0).trans rfl, (blk_cell BK176.out 1).trans rfl, HS2_, HS3_, HS4_, HS5_⟩ (fun hHeld => ?_)
        clear hK K
        refine norm_ (a' := ?_) ?_ ?_
        rotate_left
        ·show Act.put _ (some 29) _ = _
         simp only [Act.put, psl, i64_w, i32_w]
         rfl
        refine pu (i := 18) (N := some 30) (fl 20 19 []) HT_ ?_
        refine pu (i := 19) (N := some 31) (fl 20 20 []) HT_ ?_
        refine done_ (done_of HT_.out (by kernel_rfl)) ?_
        try go_wp2
        go_meet
        case rel => exact ⟨_, (x3_2), H', ⟨by have := HK1.out; have := HK2.out; first | omega | exact Nat.le_refl _⟩, ⟨fR HO_3.out⟩, ⟨fb BK176.out⟩, ⟨fW HB.out⟩⟩
       rw [if_pos c16] at H
       have c16b0 : decide (t179 ≤ 0) = true := decide_eq_true c16
       clear c16
       by_cases c17 : (ji12) ≤ (x3_2.length : Int)
       rotate_left
       ·rw [if_neg c17] at H
        exact absurd H (by simp)
       rw [if_pos c17] at H
       have c17b0 := eq_true c17
       have c17b1 : decide ((ji12) ≤ (x3_2.length : Int)) = true := decide_eq_true c17
       clear c17
       obtain ⟨y180, hy180⟩ : ∃ y_ : List (S23), y_ = (x3_2.take ((ji12) : Int).toNat) := ⟨_, rfl⟩
       replace H : (polygon_chain.l1 k2 y180 l0 (l0.length : Int) x8_1 ((rd_T23 l0 x8_1).f0) ((rd_T23 l0 x8_1).f1)) = some r := by first | (rw [hy180]; with_reducible exact H) | (have H2_ := (Option.bind_some _ _).symm.trans H; rw [hy180]; with_reducible exact H2_) | (have H2_ := (Option.bind_some _ _).symm.trans H; with_reducible exact H2_) | with_reducible exact H | (rw [hy180]; exact H) | exact H
       have Ny180 := am hy180
       clear hy180
       have H' := am H
       clear H
       try go_wp2
       have n0_ := am (Kd.R_drew HO_3.out)
       have n1_ := am (blk_drew BK176.out)
       have n2_ := am (below_drew1 HB.out)
       clear HO_3 BK176 HB
       have HO_3 := n0_
       have BK176 := n1_
       have HB := n2_
       clear n0_ n1_ n2_
       obtain ⟨Ao19, co19, eo19⟩ := Kd.R_slice HO_3.out
       (first | subst eo19 | (injection eo19 with f1_ f2_ f3_; have f4_ := f1_.symm; have f5_ := f3_.symm; clear f1_ f2_ f3_; subst f4_; subst f5_))
       have p177 : 0 ≤ ((ji9) : Int) := of_decide_eq_true (by assumption)
       have q177 : (ji9) < (x3_2.length : Int) := of_decide_eq_true (by assumption)
       obtain ⟨ad177, e177, hx177_0, hx177_1⟩ := at_T23 (Kd.R_reads' HO_3.out).2.2 (ji9) p177 q177
       cases e177
       replace p177 := eq_true p177
       replace q177 := eq_true q177
       have p178 : 0 ≤ ((ji12) : Int) := of_decide_eq_true (by assumption)
       have q178 : (ji12) < (x3_2.length : Int) := of_decide_eq_true (by assumption)
       obtain ⟨ad178, e178, hx178_0, hx178_1⟩ := at_T23 (Kd.R_reads' HO_3.out).2.2 (ji12) p178 q178
       obtain rfl : ad177 = ad178 := (by injection e178)
       replace p178 := eq_true p178
       replace q178 := eq_true q178
       refine start_ (n := 20) (S := fun w' => w'.cell? ⟨gb176, 0, none⟩ = some (.int .i64 ((rd_T23 l0 x8_1).f0)) ∧ w'.cell? ⟨gb176, 1, none⟩ = some (.int .i64 ((rd_T23 l0 x8_1).f1)) ∧ w'.cell? (ad177.add (((ji9)).toNat * 2)) = some (.int .i64 ((rd_T23 x3_2 (ji9)).f0)) ∧ w'.cell? ⟨(ad177.add (((ji9)).toNat * 2)).block, (ad177.add (((ji9)).toNat * 2)).off + 1, none⟩ = some (.int .i64 ((rd_T23 x3_2 (ji9)).f1)) ∧ w'.cell? (ad177.add (((ji12)).toNat * 2)) = some (.int .i64 ((rd_T23 x3_2 (ji12)).f0)) ∧ w'.cell? ⟨(ad177.add (((ji12)).toNat * 2)).block, (ad177.add (((ji12)).toNat * 2)).off + 1, none⟩ = some (.int .i64 ((rd_T23 x3_2 (ji12)).f1))) (ds := []) #[F,F,F,F,F,F,F,F,F,F,F,F,F,F,F,F,F,F,F,F] (by kernel_rfl) rfl rfl ⟨(blk_cell BK176.out 0).trans rfl, (blk_cell BK176.out 1).trans rfl, hx177_0, hx177_1, hx178_0, hx178_1⟩ (fun hHeld => ?_); refine with_tabW polygon_chain.tab5 polygon_chain.bits5 (fun HT_ HW_ => ?_)
       generalize wr.drew = w18 at HO_3 BK176 HB hx177_0 hx177_1 hx178_0 hx178_1 hHeld ⊢
       refine pu (i := 0) (N := some 12) (fl 20 1 []) HT_ ?_
       refine pu (i := 1) (N := some 13) (fl 20 2 []) HT_ ?_
       refine pu (i := 2) (N := some 14) (fl 20 3 []) HT_ ?_
       refine pu (i := 3) (N := some 15) (fl 20 4 []) HT_ ?_
       refine pu (i := 4) (N := some 16) (fl 20 5 []) HT_ ?_
       refine pu (i := 5) (N := some 17) (fl 20 6 []) HT_ ?_
       refine pu (i := 6) (N := some 18) (fl 20 7 []) HT_ ?_
       refine pu (i := 7) (N := some 19) (fl 20 8 []) HT_ ?_
       refine pu (i := 8) (N := some 20) (fl 20 9 []) HT_ ?_
       refine pu (i := 10) (N := some 22) (fl 20 9 [10]) HT_ ?_
       refine pu (i := 11) (N := some 23) (fl 20 9 [10, 11]) HT_ ?_
       refine pu (i := 12) (N := some 24) (fl 20 9 [10, 11, 12]) HT_ ?_
       refine pu (i := 13) (N := some 25) (fl 20 9 [10, 11, 12, 13]) HT_ ?_
       refine pu (i := 14) (N := some 26) (fl 20 9 [10, 11, 12, 13, 14]) HT_ ?_
       refine tk (i := 9) (N := some 21) (fl 20 15 []) HT_ HW_ hHeld ?_
       refine tk (i := 15) (N := some 27) (fl 20 16 []) HT_ HW_ hHeld ?_
       refine tk (i := 16) (N := some 28) (fl 20 17 []) HT_ HW_ hHeld ?_
       refine one_ (i := 17) (N := some 29) (fl 20 18 []) rfl rfl (one_of HT_.out (by kernel_rfl)) (by decide) (fun K hK => ?_)
       refine goes_ Try.func13 (by kernel_rfl) rfl #[.agg #[.int .i64 ((rd_T23 x3_2 (ji9)).f0), .int .i64 ((rd_T23 x3_2 (ji9)).f1)], .agg #[.int .i64 ((rd_T23 x3_2 (ji12)).f0), .int .i64 ((rd_T23 x3_2 (ji12)).f1)], .agg #[.int .i64 ((rd_T23 l0 x8_1).f0), .int .i64 ((rd_T23 l0 x8_1).f1)]] (by rfl) rfl rfl (by (try simp only [pml]); first | done | (simp only [hji12, hji9]; rfl) | rfl | (simp only [pdt]; rfl)) ?_
       with_reducible refine (polygon_Orient.calls ((rd_T23 x3_2 (ji9)).f0) ((rd_T23 x3_2 (ji9)).f1) ((rd_T23 x3_2 (ji12)).f0) ((rd_T23 x3_2 (ji12)).f1) ((rd_T23 l0 x8_1).f0) ((rd_T23 l0 x8_1).f1) t179 _ A15.out).mono ?_
       rintro e w20 ⟨rfl, hb⟩
       have HS2_ := (hb.cell (bq _ _ (hHeld.2.2.1))).trans (hHeld.2.2.1)
       have HS3_ := (hb.cell (bq _ _ (hHeld.2.2.2.1))).trans (hHeld.2.2.2.1)
       have HS4_ := (hb.cell (bq _ _ (hHeld.2.2.2.2.1))).trans (hHeld.2.2.2.2.1)
       have HS5_ := (hb.cell (bq _ _ (hHeld.2.2.2.2.2))).trans (hHeld.2.2.2.2.2)
       refine ⟨_, rfl, ?_⟩
       have n0_ := dR HO_3 hb
       have n1_ := bB BK176 hb
       have n2_ := bS HB hb
       clear HO_3 BK176 HB
       have HO_3 := n0_
       have BK176 := n1_
       have HB := n2_
       clear n0_ n1_ n2_
       (try clear hb)
       (try clear hb2)
       (try clear hk)
       (try clear hi)
       refine hK.out _ _ ⟨(blk_cell BK176.out 0).trans rfl, (blk_cell BK176.out 1).trans rfl, HS2_, HS3_, HS4_, HS5_⟩ (fun hHeld => ?_)
       clear hK K
       refine norm_ (a' := ?_) ?_ ?_
       rotate_left
       ·show Act.put _ (some 29) _ = _
        simp only [Act.put, psl, i64_w, i32_w]
        rfl
       refine pu (i := 18) (N := some 30) (fl 20 19 []) HT_ ?_
       refine pu (i := 19) (N := some 31) (fl 20 20 []) HT_ ?_
       refine done_ (done_of HT_.out (by kernel_rfl)) ?_
       have q21 : ((ji12) : Int) ≤ ((x3_2.length : Int) : Int) := of_decide_eq_true (by assumption)
       obtain ⟨i021, hi021, _, hsz21, _⟩ := info_parts info23
       have hcut21 := cut_to (P := Try.prog) 28 23 .i64 Try.underlying28 hi021 (some ad177) x3_2.length co19 (ji12) (of_decide_eq_true (by assumption)) q21 (Kd.R_reads' HO_3.out).2.1
       have hr21 := Kd.R_take (m := ((ji12) : Int).toNat) HO_3.out (by omega)
       have hy21 : y180.length = ((ji12) : Int).toNat := (by rw [Ny180.out, List.length_take]; omega)
       rw [← Ny180.out] at hr21
       rw [← hy21] at hr21 hcut21
       clear hy21 hi021 hsz21 HO_3
       have HO182 := am hr21
       clear hr21
       replace q21 := eq_true q21
       try go_wp2
       go_roundg k2
       case measure => have := HK1.out; have := HK2.out; omega
       case rel => exact ⟨(y180), H', ⟨by have := HK1.out; have := HK2.out; omega⟩, ⟨fR HO182.out⟩, ⟨fb BK176.out⟩, ⟨fW HB.out⟩⟩
    case rest =>
     clear HC5
     try clear c1;try clear p1;try clear q1;try clear hx1;try clear p2;try clear q2;try clear c8;try clear c8b0;try clear c8b1;try clear c10;try clear c11;try clear c13;try clear c14;try clear c16;try clear c16b0;try clear c17;try clear c17b0;try clear c17b1;try clear p17;try clear q17;try clear hx17;try clear q21;try clear hx177_0;try clear hx177_1;try clear hx178_0;try clear hx178_1;try clear p177;try clear p178;try clear q177;try clear q178;try clear q21
     obtain ⟨kq, x3_4, HA, HJ4, HO_3, BK176, HB⟩ := hcut
     cases kq with
     | zero => exact absurd HA.out (by simp [polygon_chain.j2])
     | succ kj4 =>
      have H := HA.out
      clear HA
      simp only [polygon_chain.j2] at H
      by_cases c27 : x3_4.length < 8796093022208
      rotate_left
      ·rw [if_neg c27] at H
       exact absurd H (by simp)
      rw [if_pos c27] at H
      have LMc27 := am c27
      clear c27
      obtain ⟨y183, hy183⟩ : ∃ y_ : List (S23), y_ = (x3_4 ++ [(⟨((rd_T23 l0 x8_1).f0), ((rd_T23 l0 x8_1).f1)⟩ : S23)]) := ⟨_, rfl⟩
      replace H : (polygon_chain.l0 kj4 y183 l0 (l0.length : Int) (wrap64 (x8_1 + 1))) = some r := by first | (rw [hy183]; with_reducible exact H) | (have H2_ := (Option.bind_some _ _).symm.trans H; rw [hy183]; with_reducible exact H2_) | (have H2_ := (Option.bind_some _ _).symm.trans H; with_reducible exact H2_) | with_reducible exact H | (rw [hy183]; exact H) | exact H
      have Ny183 := am hy183
      clear hy183
      have H' := am H
      clear H
      have := yC1 BK176
      have := kC1 BK176
      have := blk_frozen BK176.out 0
      have := blk_frozen BK176.out 1
      go_wp2_with (first | ((with_reducible refine gate_builtin (b := .append) (xs := #[.tmp 37, .tmp 39]) rfl ?_); (try (refine gate_guard (by rfl) ?_; dsimp only)); at_builtin; refine Kd.R_append k23 (w0 := w) w.heap.size rfl (.tmp 37) (.tmp 39) 28 23 (.agg #[(.int .i64 0), (.int .i64 0)]) 16 rfl Try.underlying28 info23 rfl (by decide) (by omega) u3 x3_4 (⟨((rd_T23 l0 x8_1).f0), ((rd_T23 l0 x8_1).f1)⟩ : S23) [.int .i64 ((rd_T23 l0 x8_1).f0), .int .i64 ((rd_T23 l0 x8_1).f1)] (fun k_ => k_ ≠ gb176) (fun _ => False) rfl rfl ?aP (fun _ hk => hk.elim) ?aF ?aO ?aB ?aS ?aL ?_; (case aP => exact k23_mkM _ _ _ (⟨((rd_T23 l0 x8_1).f0), ((rd_T23 l0 x8_1).f1)⟩ : S23)); (case aB => exact (fW HB.out)); (case aF => exact (fun k_ hk => Kd.freshB (g := gb176) (o := .cells #[.int .i64 ((rd_T23 l0 x8_1).f0), .int .i64 ((rd_T23 l0 x8_1).f1)] 23 (0, 0)) (fb BK176.out) k_ hk)); (case aO => exact (fR HO_3.out)); (case aS => exact (below_size (fW HB.out))); (case aL => have := LMc27.out; omega); intro v184 w29 ho hb hg hat; rw [← Ny183.out] at ho; replace BK176 := am (blk_grown (g := gb176) (o := .cells #[.int .i64 ((rd_T23 l0 x8_1).f0), .int .i64 ((rd_T23 l0 x8_1).f1)] 23 (0, 0)) (fb BK176.out) hg (Kd.R_away HO_3.out (fun _ hk => hk))); replace HB := am (hb); have HO185 := am (ho); clear HO_3 ho hb hg hat))
      go_roundg kj4
      case measure => have := HK1.out; have := HJ4.out; omega
      case rel => exact ⟨(y183), (wrap64 (x8_1 + 1)), sqD, H', ⟨by have := HK1.out; have := HJ4.out; omega⟩, ⟨by (with_reducible repeat (first | apply Kd.R_alloc | apply Kd.R_drewN | apply Kd.R_drew)); exact Kd.R_mono HO185.out (fun _ hk => trivial)⟩, ⟨fW HB.out⟩⟩
   ·rw [if_neg c2] at H
    have c2b0 : decide (x8_1 < (l0.length : Int)) = false := decide_eq_false c2
    clear c2
    obtain rfl := Option.some.inj H
    go_wp2
    go_ret
    exact ⟨_, sqE, fR HO_3.out, fW HB.out⟩

end Go.Proofs.Ytcembjgpcbodcaa.QA
