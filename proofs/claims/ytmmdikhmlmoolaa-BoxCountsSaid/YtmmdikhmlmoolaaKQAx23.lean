import Derived.Test.YtmmdikhmlmoolaaKQAx0
import Derived.Test.YtmmdikhmlmoolaaKQAx18
import Derived.Test.YtmmdikhmlmoolaaKQAx20
namespace Go.Proofs.Ytmmdikhmlmoolaa.QA
open Go.RowKit Go.Proofs.YtmmdikhmlmoolaaW.PrintWords Go.Proofs.YtmmdikhmlmoolaaW.PrintLast Go.Proofs.YtmmdikhmlmoolaaW.PrintMore
open Go.Proofs.YtmmdikhmlmoolaaW.PrintWords renaming blk_cell → bc
open Aside0 renaming mk → am
attribute [local go_sem] max2_int min2_int max_two min_two max_three min_three max_four min_four
set_option linter.unusedVariables false
set_option linter.unusedSimpArgs false

def r_Inside.l0 : Nat → Int → Int → Int → Int → Int → Int → Int → Int → Int → Int → Int → Int → Int → Option (Bool)
 | 0, _, _, _, _, _, _, _, _, _, _, _, _, _ => none
 | k + 1, x5, x556000, x556001, x556002, x556003, x556004, x556005, x557000, x557001, x557002, x557003, x557004, x557005 => if x5 < 3 then ((r_At.f x556000 x556001 x556002 x5).bind fun t557 => ((r_At.f x557000 x557001 x557002 x5).bind fun t558 => (if t557 < t558 then (some false) else ((r_At.f x556003 x556004 x556005 x5).bind fun t559 => ((r_At.f x557003 x557004 x557005 x5).bind fun t560 => (if t559 > t560 then (some false) else (r_Inside.l0 k (wrap64 (x5 + 1)) x556000 x556001 x556002 x556003 x556004 x556005 x557000 x557001 x557002 x557003 x557004 x557005))))))) else (some true)
def r_Inside.f (k : Nat) (a0_0 : Int) (a0_1 : Int) (a0_2 : Int) (a0_3 : Int) (a0_4 : Int) (a0_5 : Int) (a1_0 : Int) (a1_1 : Int) (a1_2 : Int) (a1_3 : Int) (a1_4 : Int) (a1_5 : Int) : Option (Bool) := r_Inside.l0 k 0 a0_0 a0_1 a0_2 a0_3 a0_4 a0_5 a1_0 a1_1 a1_2 a1_3 a1_4 a1_5
def r_Inside.T4 : Bool × List (List Nat × List Nat) := (true, [([], []), ([0], [0]), ([], []), ([1, 2], [1, 2]), ([], []), ([4], [4]), ([], []), ([5, 6, 3], [5, 6]), ([3, 7], [3, 7]), ([8, 7], [8]), ([9], [9]), ([10, 9], [9, 10]), ([9], [9]), ([11, 12, 9, 9], [9, 11, 12]), ([9], [9]), ([14, 9], [9, 14]), ([9], [9]), ([15, 16, 13, 9], [9, 15, 16]), ([13, 17, 9], [9, 13, 17]), ([9, 18], [9, 18])])
def r_Inside.B4 : List Nat := [0, 1, 0, 7, 0, 16, 0, 127, 255, 511, 1023, 2047, 1023, 8191, 1023, 17407, 1023, 131071, 262143, 524287]
theorem r_Inside.tab4 : rtab .any (opsOf Try.f32 4) = r_Inside.T4 := by kernel_rfl
theorem r_Inside.bits4 : waitsOk r_Inside.T4.2 r_Inside.B4 = true := by kernel_rfl
set_option maxHeartbeats 8000000 in
set_option maxRecDepth 100000 in
theorem r_Inside.calls (k : Nat) (a0_0 : Int) (a0_1 : Int) (a0_2 : Int) (a0_3 : Int) (a0_4 : Int) (a0_5 : Int) (a1_0 : Int) (a1_1 : Int) (a1_2 : Int) (a1_3 : Int) (a1_4 : Int) (a1_5 : Int) (r : Bool) (w : World) (h : r_Inside.f k a0_0 a0_1 a0_2 a0_3 a0_4 a0_5 a1_0 a1_1 a1_2 a1_3 a1_4 a1_5 = some r) :
  Calls Try.prog 32 #[.agg #[.int .i64 a0_0, .int .i64 a0_1, .int .i64 a0_2, .int .i64 a0_3, .int .i64 a0_4, .int .i64 a0_5], .agg #[.int .i64 a1_0, .int .i64 a1_1, .int .i64 a1_2, .int .i64 a1_3, .int .i64 a1_4, .int .i64 a1_5]] w fun e w' => e = .returned (.bool r) ∧ Below w.heap.size w w' := by
 have hu25 := Try.underlying25
 have hu23 := Try.underlying23
 have HB := am (Below.refl w.heap.size w)
 have H : (r_Inside.l0 k 0 a0_0 a0_1 a0_2 a0_3 a0_4 a0_5 a1_0 a1_1 a1_2 a1_3 a1_4 a1_5) = some r := h
 clear h
 have H' := am H
 clear H
 go_enter Try.func32, Try.ntmps32
 go_wp2_with (first | ((with_reducible refine gate_dst (N := 2) rfl ?_); refine box_event ?hg (N := 2) ?hd (cs := #[.int .i64 a0_0, .int .i64 a0_1, .int .i64 a0_2, .int .i64 a0_3, .int .i64 a0_4, .int .i64 a0_5]) (t := 25) ?hr ?_; (case hd | hg => rfl); (case hr => first | (go_simp; done) | (go_simp; rfl)); intro gb555 hg w3 hbox hb; have BK555 := am hbox; have GW555 := sG HB hg; have GE555 := sG HB hg; replace HB := bS HB hb; clear hb hbox hg) | ((with_reducible refine gate_dst (N := 3) rfl ?_); refine box_event ?hg (N := 3) ?hd (cs := #[.int .i64 a1_0, .int .i64 a1_1, .int .i64 a1_2, .int .i64 a1_3, .int .i64 a1_4, .int .i64 a1_5]) (t := 25) ?hr ?_; (case hd | hg => rfl); (case hr => first | (go_simp; done) | (go_simp; rfl)); intro gb556 hg w4 hbox hb; have BK556 := am hbox; have GW556 := sG HB hg; have GE556 := sG HB hg; replace HB := bS HB hb; have NB555_556 := nL BK555 hg; have NB556_555 := nG BK555 hg; replace BK555 := bB BK555 hb; clear hb hbox hg))
 go_loopg [5] k (fun kq v5 w' => ∃ (x5_1 : Int), v5 = .int .i64 x5_1 ∧ Aside0 (r_Inside.l0 kq x5_1 a0_0 a0_1 a0_2 a0_3 a0_4 a0_5 a1_0 a1_1 a1_2 a1_3 a1_4 a1_5 = some r) ∧ Aside0 (kq ≤ k) ∧ Aside0 (w'.heap[gb555]? = some (.cells #[.int .i64 a0_0, .int .i64 a0_1, .int .i64 a0_2, .int .i64 a0_3, .int .i64 a0_4, .int .i64 a0_5] 25 (0, 0))) ∧ Aside0 (w'.heap[gb556]? = some (.cells #[.int .i64 a1_0, .int .i64 a1_1, .int .i64 a1_2, .int .i64 a1_3, .int .i64 a1_4, .int .i64 a1_5] 25 (0, 0))) ∧ Aside0 (Below w.heap.size w w'))
 case atStart => exact ⟨(0), sqD, H', ⟨Nat.le_refl _⟩, ⟨fb BK555.out⟩, ⟨fb BK556.out⟩, ⟨fW HB.out⟩⟩
 case round =>
  clear H'
  try clear p2;try clear c3
  obtain ⟨x5_1, rfl, HA, HK1, BK555, BK556, HB⟩ := hrel
  cases gk with
  | zero => exact absurd HA.out (by simp [r_Inside.l0])
  | succ k1 =>
   have H := HA.out
   clear HA
   simp only [r_Inside.l0] at H
   by_cases c5 : x5_1 < 3
   ·rw [if_pos c5] at H
    have c5b0 : decide (x5_1 < 3) = true := decide_eq_true c5
    clear c5
    replace H := Option.bind_eq_some_iff.mp H
    obtain ⟨t557, A60, H⟩ := H
    replace H : ((r_At.f a1_0 a1_1 a1_2 x5_1).bind fun t558 => (if t557 < t558 then (some false) else ((r_At.f a0_3 a0_4 a0_5 x5_1).bind fun t559 => ((r_At.f a1_3 a1_4 a1_5 x5_1).bind fun t560 => (if t559 > t560 then (some false) else (r_Inside.l0 k1 (wrap64 (x5_1 + 1)) a0_0 a0_1 a0_2 a0_3 a0_4 a0_5 a1_0 a1_1 a1_2 a1_3 a1_4 a1_5)))))) = some r := H
    have A6 := am A60
    clear A60
    replace H := Option.bind_eq_some_iff.mp H
    obtain ⟨t558, A70, H⟩ := H
    replace H : (if t557 < t558 then (some false) else ((r_At.f a0_3 a0_4 a0_5 x5_1).bind fun t559 => ((r_At.f a1_3 a1_4 a1_5 x5_1).bind fun t560 => (if t559 > t560 then (some false) else (r_Inside.l0 k1 (wrap64 (x5_1 + 1)) a0_0 a0_1 a0_2 a0_3 a0_4 a0_5 a1_0 a1_1 a1_2 a1_3 a1_4 a1_5))))) = some r := H
    have A7 := am A70
    clear A70
    by_cases c8 : t557 < t558
    ·rw [if_pos c8] at H
     have c8b0 : decide (t557 < t558) = true := decide_eq_true c8
     clear c8
     obtain rfl := Option.some.inj H
     try go_wp2
     have n0_ := am (blk_drew BK555.out)
     have n1_ := am (blk_drew BK556.out)
     have n2_ := am (below_drew1 HB.out)
     clear BK555 BK556 HB
     have BK555 := n0_
     have BK556 := n1_
     have HB := n2_
     clear n0_ n1_ n2_
     refine start_ (n := 20) (S := fun w' => w'.cell? ⟨gb555, 0, none⟩ = some (.int .i64 a0_0) ∧ w'.cell? ⟨gb555, 1, none⟩ = some (.int .i64 a0_1) ∧ w'.cell? ⟨gb555, 2, none⟩ = some (.int .i64 a0_2) ∧ w'.cell? ⟨gb555, 3, none⟩ = some (.int .i64 a0_3) ∧ w'.cell? ⟨gb555, 4, none⟩ = some (.int .i64 a0_4) ∧ w'.cell? ⟨gb555, 5, none⟩ = some (.int .i64 a0_5) ∧ w'.cell? ⟨gb556, 0, none⟩ = some (.int .i64 a1_0) ∧ w'.cell? ⟨gb556, 1, none⟩ = some (.int .i64 a1_1) ∧ w'.cell? ⟨gb556, 2, none⟩ = some (.int .i64 a1_2) ∧ w'.cell? ⟨gb556, 3, none⟩ = some (.int .i64 a1_3) ∧ w'.cell? ⟨gb556, 4, none⟩ = some (.int .i64 a1_4) ∧ w'.cell? ⟨gb556, 5, none⟩ = some (.int .i64 a1_5)) (ds := []) #[F,F,F,F,F,F,F,F,F,F,F,F,F,F,F,F,F,F,F,F] (by kernel_rfl) rfl rfl ⟨(bc BK555.out 0).trans rfl, (bc BK555.out 1).trans rfl, (bc BK555.out 2).trans rfl, (bc BK555.out 3).trans rfl, (bc BK555.out 4).trans rfl, (bc BK555.out 5).trans rfl, (bc BK556.out 0).trans rfl, (bc BK556.out 1).trans rfl, (bc BK556.out 2).trans rfl, (bc BK556.out 3).trans rfl, (bc BK556.out 4).trans rfl, (bc BK556.out 5).trans rfl⟩ (fun hHeld => ?_); refine with_tabW r_Inside.tab4 r_Inside.bits4 (fun HT_ HW_ => ?_)
     generalize wr.drew = w9 at BK555 BK556 HB hHeld ⊢
     refine pu (i := 0) (N := some 10) (fl 20 1 []) HT_ ?_
     refine pu (i := 2) (N := some 12) (fl 20 1 [2]) HT_ ?_
     refine pu (i := 4) (N := some 14) (fl 20 1 [2, 4]) HT_ ?_
     refine pu (i := 6) (N := some 16) (fl 20 1 [2, 4, 6]) HT_ ?_
     refine tk (i := 1) (N := some 11) (fl 20 3 [4, 6]) HT_ HW_ hHeld ?_
     refine tk (i := 5) (N := some 15) (fl 20 3 [4, 5, 6]) HT_ HW_ hHeld ?_
     refine one_ (i := 3) (N := some 13) (fl 20 7 []) rfl rfl (one_of HT_.out (by kernel_rfl)) (by decide) (fun K hK => ?_)
     refine goes_ Try.func59 (by kernel_rfl) rfl #[.agg #[.int .i64 a0_0, .int .i64 a0_1, .int .i64 a0_2], .int .i64 x5_1] (by rfl) rfl rfl (by (try simp only [pml]); first | done | rfl | (simp only [pdt]; rfl)) ?_
     with_reducible refine (r_At.calls a0_0 a0_1 a0_2 x5_1 t557 _ A6.out).mono ?_
     rintro e w10 ⟨rfl, hb⟩
     refine ⟨_, rfl, ?_⟩
     have n0_ := bB BK555 hb
     have n1_ := bB BK556 hb
     have n2_ := bS HB hb
     clear BK555 BK556 HB
     have BK555 := n0_
     have BK556 := n1_
     have HB := n2_
     clear n0_ n1_ n2_
     (try clear hb)
     (try clear hb2)
     (try clear hk)
     (try clear hi)
     refine hK.out _ _ ⟨(bc BK555.out 0).trans rfl, (bc BK555.out 1).trans rfl, (bc BK555.out 2).trans rfl, (bc BK555.out 3).trans rfl, (bc BK555.out 4).trans rfl, (bc BK555.out 5).trans rfl, (bc BK556.out 0).trans rfl, (bc BK556.out 1).trans rfl, (bc BK556.out 2).trans rfl, (bc BK556.out 3).trans rfl, (bc BK556.out 4).trans rfl, (bc BK556.out 5).trans rfl⟩ (fun hHeld => ?_)
     clear hK K
     refine norm_ (a' := ?_) ?_ ?_
     rotate_left
     ·show Act.put _ (some 13) _ = _
      simp only [Act.put, psl, i64_w, i32_w]
      rfl
     refine one_ (i := 7) (N := some 17) (fl 20 8 []) rfl rfl (one_of HT_.out (by kernel_rfl)) (by decide) (fun K hK => ?_)
     refine goes_ Try.func59 (by kernel_rfl) rfl #[.agg #[.int .i64 a1_0, .int .i64 a1_1, .int .i64 a1_2], .int .i64 x5_1] (by rfl) rfl rfl (by (try simp only [pml]); first | done | rfl | (simp only [pdt]; rfl)) ?_
     with_reducible refine (r_At.calls a1_0 a1_1 a1_2 x5_1 t558 _ A7.out).mono ?_
     rintro e w11 ⟨rfl, hb⟩
     refine ⟨_, rfl, ?_⟩
     have n0_ := bB BK555 hb
     have n1_ := bB BK556 hb
     have n2_ := bS HB hb
     clear BK555 BK556 HB
     have BK555 := n0_
     have BK556 := n1_
     have HB := n2_
     clear n0_ n1_ n2_
     (try clear hb)
     (try clear hb2)
     (try clear hk)
     (try clear hi)
     refine hK.out _ _ ⟨(bc BK555.out 0).trans rfl, (bc BK555.out 1).trans rfl, (bc BK555.out 2).trans rfl, (bc BK555.out 3).trans rfl, (bc BK555.out 4).trans rfl, (bc BK555.out 5).trans rfl, (bc BK556.out 0).trans rfl, (bc BK556.out 1).trans rfl, (bc BK556.out 2).trans rfl, (bc BK556.out 3).trans rfl, (bc BK556.out 4).trans rfl, (bc BK556.out 5).trans rfl⟩ (fun hHeld => ?_)
     clear hK K
     refine norm_ (a' := ?_) ?_ ?_
     rotate_left
     ·show Act.put _ (some 17) _ = _
      simp only [Act.put, psl, i64_w, i32_w]
      rfl
     refine pu (i := 8) (N := some 18) (fl 20 9 []) HT_ ?_
     refine pu (i := 9) (N := some 19) (fl 20 10 []) HT_ ?_
     refine pure_ (i := 10) (N := some 20) (v := undef) (a' := ?_) #[T,T,T,T,T,T,T,T,T,T,T,F,F,F,F,F,F,F,F,F] rfl rfl (any_of HT_.out (by kernel_rfl)) (fun _ _ _ h => h) (Or.inr ⟨by rfl, rfl⟩) ?_ ?_
     rotate_left
     ·simp only [Act.put, psl, i64_w, i32_w]
      rfl
     refine pure_ (i := 11) (N := some 21) (v := undef) (a' := ?_) #[T,T,T,T,T,T,T,T,T,T,T,T,F,F,F,F,F,F,F,F] rfl rfl (any_of HT_.out (by kernel_rfl)) (fun _ _ _ h => h) (Or.inr ⟨by rfl, rfl⟩) ?_ ?_
     rotate_left
     ·simp only [Act.put, psl, i64_w, i32_w]
      rfl
     refine pure_ (i := 12) (N := some 22) (v := undef) (a' := ?_) #[T,T,T,T,T,T,T,T,T,T,T,T,T,F,F,F,F,F,F,F] rfl rfl (any_of HT_.out (by kernel_rfl)) (fun _ _ _ h => h) (Or.inr ⟨by rfl, rfl⟩) ?_ ?_
     rotate_left
     ·simp only [Act.put, psl, i64_w, i32_w]
      rfl
     refine pure_ (i := 13) (N := some 23) (v := undef) (a' := ?_) #[T,T,T,T,T,T,T,T,T,T,T,T,T,T,F,F,F,F,F,F] rfl rfl (any_of HT_.out (by kernel_rfl)) (fun _ _ _ h => h) (Or.inr ⟨by rfl, rfl⟩) ?_ ?_
     rotate_left
     ·simp only [Act.put, psl, i64_w, i32_w]
      rfl
     refine pure_ (i := 14) (N := some 24) (v := undef) (a' := ?_) #[T,T,T,T,T,T,T,T,T,T,T,T,T,T,T,F,F,F,F,F] rfl rfl (any_of HT_.out (by kernel_rfl)) (fun _ _ _ h => h) (Or.inr ⟨by rfl, rfl⟩) ?_ ?_
     rotate_left
     ·simp only [Act.put, psl, i64_w, i32_w]
      rfl
     refine pure_ (i := 15) (N := some 25) (v := undef) (a' := ?_) #[T,T,T,T,T,T,T,T,T,T,T,T,T,T,T,T,F,F,F,F] rfl rfl (any_of HT_.out (by kernel_rfl)) (fun _ _ _ h => h) (Or.inr ⟨by rfl, rfl⟩) ?_ ?_
     rotate_left
     ·simp only [Act.put, psl, i64_w, i32_w]
      rfl
     refine pure_ (i := 16) (N := some 26) (v := undef) (a' := ?_) #[T,T,T,T,T,T,T,T,T,T,T,T,T,T,T,T,T,F,F,F] rfl rfl (any_of HT_.out (by kernel_rfl)) (fun _ _ _ h => h) (Or.inr ⟨by rfl, rfl⟩) ?_ ?_
     rotate_left
     ·simp only [Act.put, psl, i64_w, i32_w]
      rfl
     refine pure_ (i := 17) (N := some 27) (v := undef) (a' := ?_) #[T,T,T,T,T,T,T,T,T,T,T,T,T,T,T,T,T,T,F,F] rfl rfl (any_of HT_.out (by kernel_rfl)) (fun _ _ _ h => h) (Or.inr ⟨by rfl, rfl⟩) ?_ ?_
     rotate_left
     ·simp only [Act.put, psl, i64_w, i32_w]
      rfl
     refine pure_ (i := 18) (N := some 28) (v := undef) (a' := ?_) #[T,T,T,T,T,T,T,T,T,T,T,T,T,T,T,T,T,T,T,F] rfl rfl (any_of HT_.out (by kernel_rfl)) (fun _ _ _ h => h) (Or.inr ⟨by rfl, rfl⟩) ?_ ?_
     rotate_left
     ·simp only [Act.put, psl, i64_w, i32_w]
      rfl
     refine pu (i := 19) (N := some 29) (fl 20 20 []) HT_ ?_
     refine done_ (done_of HT_.out (by kernel_rfl)) ?_
     try go_wp2
     go_ret
     exact ⟨sqE, fW HB.out⟩
    rw [if_neg c8] at H
    have c8b0 : decide (t557 < t558) = false := decide_eq_false c8
    clear c8
    replace H := Option.bind_eq_some_iff.mp H
    obtain ⟨t559, A120, H⟩ := H
    replace H : ((r_At.f a1_3 a1_4 a1_5 x5_1).bind fun t560 => (if t559 > t560 then (some false) else (r_Inside.l0 k1 (wrap64 (x5_1 + 1)) a0_0 a0_1 a0_2 a0_3 a0_4 a0_5 a1_0 a1_1 a1_2 a1_3 a1_4 a1_5))) = some r := H
    have A12 := am A120
    clear A120
    replace H := Option.bind_eq_some_iff.mp H
    obtain ⟨t560, A130, H⟩ := H
    replace H : (if t559 > t560 then (some false) else (r_Inside.l0 k1 (wrap64 (x5_1 + 1)) a0_0 a0_1 a0_2 a0_3 a0_4 a0_5 a1_0 a1_1 a1_2 a1_3 a1_4 a1_5)) = some r := H
    have A13 := am A130
    clear A130
    by_cases c14 : t559 > t560
    ·rw [if_pos c14] at H
     have c14b0 : decide (t560 < t559) = true := decide_eq_true c14
     clear c14
     obtain rfl := Option.some.inj H
     try go_wp2
     have n0_ := am (blk_drew BK555.out)
     have n1_ := am (blk_drew BK556.out)
     have n2_ := am (below_drew1 HB.out)
     clear BK555 BK556 HB
     have BK555 := n0_
     have BK556 := n1_
     have HB := n2_
     clear n0_ n1_ n2_
     refine start_ (n := 20) (S := fun w' => w'.cell? ⟨gb555, 0, none⟩ = some (.int .i64 a0_0) ∧ w'.cell? ⟨gb555, 1, none⟩ = some (.int .i64 a0_1) ∧ w'.cell? ⟨gb555, 2, none⟩ = some (.int .i64 a0_2) ∧ w'.cell? ⟨gb555, 3, none⟩ = some (.int .i64 a0_3) ∧ w'.cell? ⟨gb555, 4, none⟩ = some (.int .i64 a0_4) ∧ w'.cell? ⟨gb555, 5, none⟩ = some (.int .i64 a0_5) ∧ w'.cell? ⟨gb556, 0, none⟩ = some (.int .i64 a1_0) ∧ w'.cell? ⟨gb556, 1, none⟩ = some (.int .i64 a1_1) ∧ w'.cell? ⟨gb556, 2, none⟩ = some (.int .i64 a1_2) ∧ w'.cell? ⟨gb556, 3, none⟩ = some (.int .i64 a1_3) ∧ w'.cell? ⟨gb556, 4, none⟩ = some (.int .i64 a1_4) ∧ w'.cell? ⟨gb556, 5, none⟩ = some (.int .i64 a1_5)) (ds := []) #[F,F,F,F,F,F,F,F,F,F,F,F,F,F,F,F,F,F,F,F] (by kernel_rfl) rfl rfl ⟨(bc BK555.out 0).trans rfl, (bc BK555.out 1).trans rfl, (bc BK555.out 2).trans rfl, (bc BK555.out 3).trans rfl, (bc BK555.out 4).trans rfl, (bc BK555.out 5).trans rfl, (bc BK556.out 0).trans rfl, (bc BK556.out 1).trans rfl, (bc BK556.out 2).trans rfl, (bc BK556.out 3).trans rfl, (bc BK556.out 4).trans rfl, (bc BK556.out 5).trans rfl⟩ (fun hHeld => ?_); refine with_tabW r_Inside.tab4 r_Inside.bits4 (fun HT_ HW_ => ?_)
     generalize wr.drew = w15 at BK555 BK556 HB hHeld ⊢
     refine pu (i := 0) (N := some 10) (fl 20 1 []) HT_ ?_
     refine pu (i := 2) (N := some 12) (fl 20 1 [2]) HT_ ?_
     refine pu (i := 4) (N := some 14) (fl 20 1 [2, 4]) HT_ ?_
     refine pu (i := 6) (N := some 16) (fl 20 1 [2, 4, 6]) HT_ ?_
     refine tk (i := 1) (N := some 11) (fl 20 3 [4, 6]) HT_ HW_ hHeld ?_
     refine tk (i := 5) (N := some 15) (fl 20 3 [4, 5, 6]) HT_ HW_ hHeld ?_
     refine one_ (i := 3) (N := some 13) (fl 20 7 []) rfl rfl (one_of HT_.out (by kernel_rfl)) (by decide) (fun K hK => ?_)
     refine goes_ Try.func59 (by kernel_rfl) rfl #[.agg #[.int .i64 a0_0, .int .i64 a0_1, .int .i64 a0_2], .int .i64 x5_1] (by rfl) rfl rfl (by (try simp only [pml]); first | done | rfl | (simp only [pdt]; rfl)) ?_
     with_reducible refine (r_At.calls a0_0 a0_1 a0_2 x5_1 t557 _ A6.out).mono ?_
     rintro e w16 ⟨rfl, hb⟩
     refine ⟨_, rfl, ?_⟩
     have n0_ := bB BK555 hb
     have n1_ := bB BK556 hb
     have n2_ := bS HB hb
     clear BK555 BK556 HB
     have BK555 := n0_
     have BK556 := n1_
     have HB := n2_
     clear n0_ n1_ n2_
     (try clear hb)
     (try clear hb2)
     (try clear hk)
     (try clear hi)
     refine hK.out _ _ ⟨(bc BK555.out 0).trans rfl, (bc BK555.out 1).trans rfl, (bc BK555.out 2).trans rfl, (bc BK555.out 3).trans rfl, (bc BK555.out 4).trans rfl, (bc BK555.out 5).trans rfl, (bc BK556.out 0).trans rfl, (bc BK556.out 1).trans rfl, (bc BK556.out 2).trans rfl, (bc BK556.out 3).trans rfl, (bc BK556.out 4).trans rfl, (bc BK556.out 5).trans rfl⟩ (fun hHeld => ?_)
     clear hK K
     refine norm_ (a' := ?_) ?_ ?_
     rotate_left
     ·show Act.put _ (some 13) _ = _
      simp only [Act.put, psl, i64_w, i32_w]
      rfl
     refine one_ (i := 7) (N := some 17) (fl 20 8 []) rfl rfl (one_of HT_.out (by kernel_rfl)) (by decide) (fun K hK => ?_)
     refine goes_ Try.func59 (by kernel_rfl) rfl #[.agg #[.int .i64 a1_0, .int .i64 a1_1, .int .i64 a1_2], .int .i64 x5_1] (by rfl) rfl rfl (by (try simp only [pml]); first | done | rfl | (simp only [pdt]; rfl)) ?_
     with_reducible refine (r_At.calls a1_0 a1_1 a1_2 x5_1 t558 _ A7.out).mono ?_
     rintro e w17 ⟨rfl, hb⟩
     refine ⟨_, rfl, ?_⟩
     have n0_ := bB BK555 hb
     have n1_ := bB BK556 hb
     have n2_ := bS HB hb
     clear BK555 BK556 HB
     have BK555 := n0_
     have BK556 := n1_
     have HB := n2_
     clear n0_ n1_ n2_
     (try clear hb)
     (try clear hb2)
     (try clear hk)
     (try clear hi)
     refine hK.out _ _ ⟨(bc BK555.out 0).trans rfl, (bc BK555.out 1).trans rfl, (bc BK555.out 2).trans rfl, (bc BK555.out 3).trans rfl, (bc BK555.out 4).trans rfl, (bc BK555.out 5).trans rfl, (bc BK556.out 0).trans rfl, (bc BK556.out 1).trans rfl, (bc BK556.out 2).trans rfl, (bc BK556.out 3).trans rfl, (bc BK556.out 4).trans rfl, (bc BK556.out 5).trans rfl⟩ (fun hHeld => ?_)
     clear hK K
     refine norm_ (a' := ?_) ?_ ?_
     rotate_left
     ·show Act.put _ (some 17) _ = _
      simp only [Act.put, psl, i64_w, i32_w]
      rfl
     refine pu (i := 8) (N := some 18) (fl 20 9 []) HT_ ?_
     refine pu (i := 9) (N := some 19) (fl 20 10 []) HT_ ?_
     refine pu (i := 10) (N := some 20) (fl 20 11 []) HT_ ?_
     refine pu (i := 12) (N := some 22) (fl 20 11 [12]) HT_ ?_
     refine pu (i := 14) (N := some 24) (fl 20 11 [12, 14]) HT_ ?_
     refine pu (i := 16) (N := some 26) (fl 20 11 [12, 14, 16]) HT_ ?_
     refine tk (i := 11) (N := some 21) (fl 20 13 [14, 16]) HT_ HW_ hHeld ?_
     refine tk (i := 15) (N := some 25) (fl 20 13 [14, 15, 16]) HT_ HW_ hHeld ?_
     refine one_ (i := 13) (N := some 23) (fl 20 17 []) rfl rfl (one_of HT_.out (by kernel_rfl)) (by decide) (fun K hK => ?_)
     refine goes_ Try.func59 (by kernel_rfl) rfl #[.agg #[.int .i64 a0_3, .int .i64 a0_4, .int .i64 a0_5], .int .i64 x5_1] (by rfl) rfl rfl (by (try simp only [pml]); first | done | rfl | (simp only [pdt]; rfl)) ?_
     with_reducible refine (r_At.calls a0_3 a0_4 a0_5 x5_1 t559 _ A12.out).mono ?_
     rintro e w18 ⟨rfl, hb⟩
     refine ⟨_, rfl, ?_⟩
     have n0_ := bB BK555 hb
     have n1_ := bB BK556 hb
     have n2_ := bS HB hb
     clear BK555 BK556 HB
     have BK555 := n0_
     have BK556 := n1_
     have HB := n2_
     clear n0_ n1_ n2_
     (try clear hb)
     (try clear hb2)
     (try clear hk)
     (try clear hi)
     refine hK.out _ _ ⟨(bc BK555.out 0).trans rfl, (bc BK555.out 1).trans rfl, (bc BK555.out 2).trans rfl, (bc BK555.out 3).trans rfl, (bc BK555.out 4).trans rfl, (bc BK555.out 5).trans rfl, (bc BK556.out 0).trans rfl, (bc BK556.out 1).trans rfl, (bc BK556.out 2).trans rfl, (bc BK556.out 3).trans rfl, (bc BK556.out 4).trans rfl, (bc BK556.out 5).trans rfl⟩ (fun hHeld => ?_)
     clear hK K
     refine norm_ (a' := ?_) ?_ ?_
     rotate_left
     ·show Act.put _ (some 23) _ = _
      simp only [Act.put, psl, i64_w, i32_w]
      rfl
     refine one_ (i := 17) (N := some 27) (fl 20 18 []) rfl rfl (one_of HT_.out (by kernel_rfl)) (by decide) (fun K hK => ?_)
     refine goes_ Try.func59 (by kernel_rfl) rfl #[.agg #[.int .i64 a1_3, .int .i64 a1_4, .int .i64 a1_5], .int .i64 x5_1] (by rfl) rfl rfl (by (try simp only [pml]); first | done | rfl | (simp only [pdt]; rfl)) ?_
     with_reducible refine (r_At.calls a1_3 a1_4 a1_5 x5_1 t560 _ A13.out).mono ?_
     rintro e w19 ⟨rfl, hb⟩
     refine ⟨_, rfl, ?_⟩
     have n0_ := bB BK555 hb
     have n1_ := bB BK556 hb
     have n2_ := bS HB hb
     clear BK555 BK556 HB
     have BK555 := n0_
     have BK556 := n1_
     have HB := n2_
     clear n0_ n1_ n2_
     (try clear hb)
     (try clear hb2)
     (try clear hk)
     (try clear hi)
     refine hK.out _ _ ⟨(bc BK555.out 0).trans rfl, (bc BK555.out 1).trans rfl, (bc BK555.out 2).trans rfl, (bc BK555.out 3).trans rfl, (bc BK555.out 4).trans rfl, (bc BK555.out 5).trans rfl, (bc BK556.out 0).trans rfl, (bc BK556.out 1).trans rfl, (bc BK556.out 2).trans rfl, (bc BK556.out 3).trans rfl, (bc BK556.out 4).trans rfl, (bc BK556.out 5).trans rfl⟩ (fun hHeld => ?_)
     clear hK K
     refine norm_ (a' := ?_) ?_ ?_
     rotate_left
     ·show Act.put _ (some 27) _ = _
      simp only [Act.put, psl, i64_w, i32_w]
      rfl
     refine pu (i := 18) (N := some 28) (fl 20 19 []) HT_ ?_
     refine pu (i := 19) (N := some 29) (fl 20 20 []) HT_ ?_
     refine done_ (done_of HT_.out (by kernel_rfl)) ?_
     try go_wp2
     go_ret
     exact ⟨sqE, fW HB.out⟩
    rw [if_neg c14] at H
    have c14b0 : decide (t560 < t559) = false := decide_eq_false c14
    clear c14
    have H' := am H
    clear H
    try go_wp2
    have n0_ := am (blk_drew BK555.out)
    have n1_ := am (blk_drew BK556.out)
    have n2_ := am (below_drew1 HB.out)
    clear BK555 BK556 HB
    have BK555 := n0_
    have BK556 := n1_
    have HB := n2_
    clear n0_ n1_ n2_
    refine start_ (n := 20) (S := fun w' => w'.cell? ⟨gb555, 0, none⟩ = some (.int .i64 a0_0) ∧ w'.cell? ⟨gb555, 1, none⟩ = some (.int .i64 a0_1) ∧ w'.cell? ⟨gb555, 2, none⟩ = some (.int .i64 a0_2) ∧ w'.cell? ⟨gb555, 3, none⟩ = some (.int .i64 a0_3) ∧ w'.cell? ⟨gb555, 4, none⟩ = some (.int .i64 a0_4) ∧ w'.cell? ⟨gb555, 5, none⟩ = some (.int .i64 a0_5) ∧ w'.cell? ⟨gb556, 0, none⟩ = some (.int .i64 a1_0) ∧ w'.cell? ⟨gb556, 1, none⟩ = some (.int .i64 a1_1) ∧ w'.cell? ⟨gb556, 2, none⟩ = some (.int .i64 a1_2) ∧ w'.cell? ⟨gb556, 3, none⟩ = some (.int .i64 a1_3) ∧ w'.cell? ⟨gb556, 4, none⟩ = some (.int .i64 a1_4) ∧ w'.cell? ⟨gb556, 5, none⟩ = some (.int .i64 a1_5)) (ds := []) #[F,F,F,F,F,F,F,F,F,F,F,F,F,F,F,F,F,F,F,F] (by kernel_rfl) rfl rfl ⟨(bc BK555.out 0).trans rfl, (bc BK555.out 1).trans rfl, (bc BK555.out 2).trans rfl, (bc BK555.out 3).trans rfl, (bc BK555.out 4).trans rfl, (bc BK555.out 5).trans rfl, (bc BK556.out 0).trans rfl, (bc BK556.out 1).trans rfl, (bc BK556.out 2).trans rfl, (bc BK556.out 3).trans rfl, (bc BK556.out 4).trans rfl, (bc BK556.out 5).trans rfl⟩ (fun hHeld => ?_); refine with_tabW r_Inside.tab4 r_Inside.bits4 (fun HT_ HW_ => ?_)
    generalize wr.drew = w20 at BK555 BK556 HB hHeld ⊢
    refine pu (i := 0) (N := some 10) (fl 20 1 []) HT_ ?_
    refine pu (i := 2) (N := some 12) (fl 20 1 [2]) HT_ ?_
    refine pu (i := 4) (N := some 14) (fl 20 1 [2, 4]) HT_ ?_
    refine pu (i := 6) (N := some 16) (fl 20 1 [2, 4, 6]) HT_ ?_
    refine tk (i := 1) (N := some 11) (fl 20 3 [4, 6]) HT_ HW_ hHeld ?_
    refine tk (i := 5) (N := some 15) (fl 20 3 [4, 5, 6]) HT_ HW_ hHeld ?_
    refine one_ (i := 3) (N := some 13) (fl 20 7 []) rfl rfl (one_of HT_.out (by kernel_rfl)) (by decide) (fun K hK => ?_)
    refine goes_ Try.func59 (by kernel_rfl) rfl #[.agg #[.int .i64 a0_0, .int .i64 a0_1, .int .i64 a0_2], .int .i64 x5_1] (by rfl) rfl rfl (by (try simp only [pml]); first | done | rfl | (simp only [pdt]; rfl)) ?_
    with_reducible refine (r_At.calls a0_0 a0_1 a0_2 x5_1 t557 _ A6.out).mono ?_
    rintro e w21 ⟨rfl, hb⟩
    refine ⟨_, rfl, ?_⟩
    have n0_ := bB BK555 hb
    have n1_ := bB BK556 hb
    have n2_ := bS HB hb
    clear BK555 BK556 HB
    have BK555 := n0_
    have BK556 := n1_
    have HB := n2_
    clear n0_ n1_ n2_
    (try clear hb)
    (try clear hb2)
    (try clear hk)
    (try clear hi)
    refine hK.out _ _ ⟨(bc BK555.out 0).trans rfl, (bc BK555.out 1).trans rfl, (bc BK555.out 2).trans rfl, (bc BK555.out 3).trans rfl, (bc BK555.out 4).trans rfl, (bc BK555.out 5).trans rfl, (bc BK556.out 0).trans rfl, (bc BK556.out 1).trans rfl, (bc BK556.out 2).trans rfl, (bc BK556.out 3).trans rfl, (bc BK556.out 4).trans rfl, (bc BK556.out 5).trans rfl⟩ (fun hHeld => ?_)
    clear hK K
    refine norm_ (a' := ?_) ?_ ?_
    rotate_left
    ·show Act.put _ (some 13) _ = _
     simp only [Act.put, psl, i64_w, i32_w]
     rfl
    refine one_ (i := 7) (N := some 17) (fl 20 8 []) rfl rfl (one_of HT_.out (by kernel_rfl)) (by decide) (fun K hK => ?_)
    refine goes_ Try.func59 (by kernel_rfl) rfl #[.agg #[.int .i64 a1_0, .int .i64 a1_1, .int .i64 a1_2], .int .i64 x5_1] (by rfl) rfl rfl (by (try simp only [pml]); first | done | rfl | (simp only [pdt]; rfl)) ?_
    with_reducible refine (r_At.calls a1_0 a1_1 a1_2 x5_1 t558 _ A7.out).mono ?_
    rintro e w22 ⟨rfl, hb⟩
    refine ⟨_, rfl, ?_⟩
    have n0_ := bB BK555 hb
    have n1_ := bB BK556 hb
    have n2_ := bS HB hb
    clear BK555 BK556 HB
    have BK555 := n0_
    have BK556 := n1_
    have HB := n2_
    clear n0_ n1_ n2_
    (try clear hb)
    (try clear hb2)
    (try clear hk)
    (try clear hi)
    refine hK.out _ _ ⟨(bc BK555.out 0).trans rfl, (bc BK555.out 1).trans rfl, (bc BK555.out 2).trans rfl, (bc BK555.out 3).trans rfl, (bc BK555.out 4).trans rfl, (bc BK555.out 5).trans rfl, (bc BK556.out 0).trans rfl, (bc BK556.out 1).trans rfl, (bc BK556.out 2).trans rfl, (bc BK556.out 3).trans rfl, (bc BK556.out 4).trans rfl, (bc BK556.out 5).trans rfl⟩ (fun hHeld => ?_)
    clear hK K
    refine norm_ (a' := ?_) ?_ ?_
    rotate_left
    ·show Act.put _ (some 17) _ = _
     simp only [Act.put, psl, i64_w, i32_w]
     rfl
    refine pu (i := 8) (N := some 18) (fl 20 9 []) HT_ ?_
    refine pu (i := 9) (N := some 19) (fl 20 10 []) HT_ ?_
    refine pu (i := 10) (N := some 20) (fl 20 11 []) HT_ ?_
    refine pu (i := 12) (N := some 22) (fl 20 11 [12]) HT_ ?_
    refine pu (i := 14) (N := some 24) (fl 20 11 [12, 14]) HT_ ?_
    refine pu (i := 16) (N := some 26) (fl 20 11 [12, 14, 16]) HT_ ?_
    refine tk (i := 11) (N := some 21) (fl 20 13 [14, 16]) HT_ HW_ hHeld ?_
    refine tk (i := 15) (N := some 25) (fl 20 13 [14, 15, 16]) HT_ HW_ hHeld ?_
    refine one_ (i := 13) (N := some 23) (fl 20 17 []) rfl rfl (one_of HT_.out (by kernel_rfl)) (by decide) (fun K hK => ?_)
    refine goes_ Try.func59 (by kernel_rfl) rfl #[.agg #[.int .i64 a0_3, .int .i64 a0_4, .int .i64 a0_5], .int .i64 x5_1] (by rfl) rfl rfl (by (try simp only [pml]); first | done | rfl | (simp only [pdt]; rfl)) ?_
    with_reducible refine (r_At.calls a0_3 a0_4 a0_5 x5_1 t559 _ A12.out).mono ?_
    rintro e w23 ⟨rfl, hb⟩
    refine ⟨_, rfl, ?_⟩
    have n0_ := bB BK555 hb
    have n1_ := bB BK556 hb
    have n2_ := bS HB hb
    clear BK555 BK556 HB
    have BK555 := n0_
    have BK556 := n1_
    have HB := n2_
    clear n0_ n1_ n2_
    (try clear hb)
    (try clear hb2)
    (try clear hk)
    (try clear hi)
    refine hK.out _ _ ⟨(bc BK555.out 0).trans rfl, (bc BK555.out 1).trans rfl, (bc BK555.out 2).trans rfl, (bc BK555.out 3).trans rfl, (bc BK555.out 4).trans rfl, (bc BK555.out 5).trans rfl, (bc BK556.out 0).trans rfl, (bc BK556.out 1).trans rfl, (bc BK556.out 2).trans rfl, (bc BK556.out 3).trans rfl, (bc BK556.out 4).trans rfl, (bc BK556.out 5).trans rfl⟩ (fun hHeld => ?_)
    clear hK K
    refine norm_ (a' := ?_) ?_ ?_
    rotate_left
    ·show Act.put _ (some 23) _ = _
     simp only [Act.put, psl, i64_w, i32_w]
     rfl
    refine one_ (i := 17) (N := some 27) (fl 20 18 []) rfl rfl (one_of HT_.out (by kernel_rfl)) (by decide) (fun K hK => ?_)
    refine goes_ Try.func59 (by kernel_rfl) rfl #[.agg #[.int .i64 a1_3, .int .i64 a1_4, .int .i64 a1_5], .int .i64 x5_1] (by rfl) rfl rfl (by (try simp only [pml]); first | done | rfl | (simp only [pdt]; rfl)) ?_
    with_reducible refine (r_At.calls a1_3 a1_4 a1_5 x5_1 t560 _ A13.out).mono ?_
    rintro e w24 ⟨rfl, hb⟩
    refine ⟨_, rfl, ?_⟩
    have n0_ := bB BK555 hb
    have n1_ := bB BK556 hb
    have n2_ := bS HB hb
    clear BK555 BK556 HB
    have BK555 := n0_
    have BK556 := n1_
    have HB := n2_
    clear n0_ n1_ n2_
    (try clear hb)
    (try clear hb2)
    (try clear hk)
    (try clear hi)
    refine hK.out _ _ ⟨(bc BK555.out 0).trans rfl, (bc BK555.out 1).trans rfl, (bc BK555.out 2).trans rfl, (bc BK555.out 3).trans rfl, (bc BK555.out 4).trans rfl, (bc BK555.out 5).trans rfl, (bc BK556.out 0).trans rfl, (bc BK556.out 1).trans rfl, (bc BK556.out 2).trans rfl, (bc BK556.out 3).trans rfl, (bc BK556.out 4).trans rfl, (bc BK556.out 5).trans rfl⟩ (fun hHeld => ?_)
    clear hK K
    refine norm_ (a' := ?_) ?_ ?_
    rotate_left
    ·show Act.put _ (some 27) _ = _
     simp only [Act.put, psl, i64_w, i32_w]
     rfl
    refine pu (i := 18) (N := some 28) (fl 20 19 []) HT_ ?_
    refine pu (i := 19) (N := some 29) (fl 20 20 []) HT_ ?_
    refine done_ (done_of HT_.out (by kernel_rfl)) ?_
    try go_wp2
    go_roundg k1
    case measure => have := HK1.out; omega
    case rel => exact ⟨(wrap64 (x5_1 + 1)), sqD, H', ⟨by have := HK1.out; omega⟩, ⟨fb BK555.out⟩, ⟨fb BK556.out⟩, ⟨fW HB.out⟩⟩
   ·rw [if_neg c5] at H
    have c5b0 : decide (x5_1 < 3) = false := decide_eq_false c5
    clear c5
    obtain rfl := Option.some.inj H
    go_wp2
    go_ret
    exact ⟨sqE, fW HB.out⟩

def r_Overlap.f (k : Nat) (a0_0 : Int) (a0_1 : Int) (a0_2 : Int) (a0_3 : Int) (a0_4 : Int) (a0_5 : Int) (a1_0 : Int) (a1_1 : Int) (a1_2 : Int) (a1_3 : Int) (a1_4 : Int) (a1_5 : Int) : Option (Bool) := (r_common.f a0_0 a0_1 a0_2 a0_3 a0_4 a0_5 a1_0 a1_1 a1_2 a1_3 a1_4 a1_5).bind fun bt563 => ((r_full.f k bt563.1 bt563.2.1 bt563.2.2.1 bt563.2.2.2.1 bt563.2.2.2.2.1 bt563.2.2.2.2.2).bind fun t569 => (some t569))
set_option maxHeartbeats 8000000 in
set_option maxRecDepth 100000 in
theorem r_Overlap.calls (k : Nat) (a0_0 : Int) (a0_1 : Int) (a0_2 : Int) (a0_3 : Int) (a0_4 : Int) (a0_5 : Int) (a1_0 : Int) (a1_1 : Int) (a1_2 : Int) (a1_3 : Int) (a1_4 : Int) (a1_5 : Int) (r : Bool) (w : World) (h : r_Overlap.f k a0_0 a0_1 a0_2 a0_3 a0_4 a0_5 a1_0 a1_1 a1_2 a1_3 a1_4 a1_5 = some r) :
  Calls Try.prog 33 #[.agg #[.int .i64 a0_0, .int .i64 a0_1, .int .i64 a0_2, .int .i64 a0_3, .int .i64 a0_4, .int .i64 a0_5], .agg #[.int .i64 a1_0, .int .i64 a1_1, .int .i64 a1_2, .int .i64 a1_3, .int .i64 a1_4, .int .i64 a1_5]] w fun e w' => e = .returned (.bool r) ∧ Below w.heap.size w w' := by
 have hu25 := Try.underlying25
 have HB := am (Below.refl w.heap.size w)
 have H : ((r_common.f a0_0 a0_1 a0_2 a0_3 a0_4 a0_5 a1_0 a1_1 a1_2 a1_3 a1_4 a1_5).bind fun bt563 => ((r_full.f k bt563.1 bt563.2.1 bt563.2.2.1 bt563.2.2.2.1 bt563.2.2.2.2.1 bt563.2.2.2.2.2).bind fun t569 => (some t569))) = some r := h
 clear h
 replace H := Option.bind_eq_some_iff.mp H
 obtain ⟨⟨t563, t564, t565, t566, t567, t568⟩, A30, H⟩ := H
 replace H : ((r_full.f k t563 t564 t565 t566 t567 t568).bind fun t569 => (some t569)) = some r := H
 have A3 := am A30
 clear A30
 replace H := Option.bind_eq_some_iff.mp H
 obtain ⟨t569, A40, H⟩ := H
 replace H : (some t569) = some r := H
 have A4 := am A40
 clear A40
 obtain rfl := Option.some.inj H
 go_enter Try.func33, Try.ntmps33
 go_wp2_with (first | ((with_reducible refine gate_dst (N := 2) rfl ?_); refine box_event ?hg (N := 2) ?hd (cs := #[.int .i64 a0_0, .int .i64 a0_1, .int .i64 a0_2, .int .i64 a0_3, .int .i64 a0_4, .int .i64 a0_5]) (t := 25) ?hr ?_; (case hd | hg => rfl); (case hr => first | (go_simp; done) | (go_simp; rfl)); intro gb561 hg w5 hbox hb; have BK561 := am hbox; have GW561 := sG HB hg; have GE561 := sG HB hg; replace HB := bS HB hb; clear hb hbox hg) | ((with_reducible refine gate_dst (N := 3) rfl ?_); refine box_event ?hg (N := 3) ?hd (cs := #[.int .i64 a1_0, .int .i64 a1_1, .int .i64 a1_2, .int .i64 a1_3, .int .i64 a1_4, .int .i64 a1_5]) (t := 25) ?hr ?_; (case hd | hg => rfl); (case hr => first | (go_simp; done) | (go_simp; rfl)); intro gb562 hg w6 hbox hb; have BK562 := am hbox; have GW562 := sG HB hg; have GE562 := sG HB hg; replace HB := bS HB hb; have NB561_562 := nL BK561 hg; have NB562_561 := nG BK561 hg; replace BK561 := bB BK561 hb; clear hb hbox hg; have hnb7 := NB561_562.out; have hnc7 := NB562_561.out; obtain ⟨_, _, _, _, _, _, _, _, _, _, _, _⟩ := zC6 BK561; obtain ⟨_, _, _, _, _, _, _, _, _, _, _, _⟩ := zC6 BK562) | ((with_reducible refine gate_callee (f := 61) rfl ?_); refine goesL_ (some 7) rfl rfl Try.func61 (by kernel_rfl) rfl #[.agg #[.int .i64 a0_0, .int .i64 a0_1, .int .i64 a0_2, .int .i64 a0_3, .int .i64 a0_4, .int .i64 a0_5], .agg #[.int .i64 a1_0, .int .i64 a1_1, .int .i64 a1_2, .int .i64 a1_3, .int .i64 a1_4, .int .i64 a1_5]] rfl (by (try simp only [pml]); first | done | rfl | (simp only [pdt]; rfl)) ?_; (with_reducible refine (r_common.calls a0_0 a0_1 a0_2 a0_3 a0_4 a0_5 a1_0 a1_1 a1_2 a1_3 a1_4 a1_5 t563 t564 t565 t566 t567 t568 _ A3.out).mono ?_); rintro e w10 ⟨rfl, hb⟩; refine ⟨_, rfl, ?_⟩; replace BK561 := bB BK561 hb; replace BK562 := bB BK562 hb; replace HB := bS HB hb; (try clear hb); (try clear hb2); (try clear hk); (try clear hi)) | ((with_reducible refine gate_callee (f := 62) rfl ?_); refine goesL_ (some 8) rfl rfl Try.func62 (by kernel_rfl) rfl #[.agg #[.int .i64 t563, .int .i64 t564, .int .i64 t565, .int .i64 t566, .int .i64 t567, .int .i64 t568]] rfl (by (try simp only [pml]); first | done | rfl | (simp only [pdt]; rfl)) ?_; (with_reducible refine (r_full.calls k t563 t564 t565 t566 t567 t568 t569 _ A4.out).mono ?_); rintro e w11 ⟨rfl, hb⟩; refine ⟨_, rfl, ?_⟩; replace BK561 := bB BK561 hb; replace BK562 := bB BK562 hb; replace HB := bS HB hb; (try clear hb); (try clear hb2); (try clear hk); (try clear hi)))
 go_ret
 exact ⟨sqE, fW HB.out⟩

end Go.Proofs.Ytmmdikhmlmoolaa.QA
