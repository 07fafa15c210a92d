import Derived.Test.YtmmdikhmlmoolaaZQAx0
import Derived.Test.YtmmdikhmlmoolaaZQAx18
namespace Go.Proofs.Ytmmdikhmlmoolaa.QA
open Go.RowKit Go.Proofs.YtmmdikhmlmoolaaW.PrintWords Go.Proofs.YtmmdikhmlmoolaaW.PrintLast Go.Proofs.YtmmdikhmlmoolaaW.PrintMore
open Go.Proofs.YtmmdikhmlmoolaaW.PrintWords renaming blk_drewN → bN, blk_drew → bd, blk_alloc → ba, below_alloc → wa, pw_below_drewN → wN, below_drew1 → wd, below_set → ws, blk_cell → bc
open Aside0 renaming mk → am
attribute [local go_sem] max2_int min2_int max_two min_two max_three min_three max_four min_four
set_option linter.unusedVariables false
set_option linter.unusedSimpArgs false

mutual
def r_Touch.l0 : Nat → Int → Int → Int → Int → Int → Int → Int → Int → Int → Int → Int → Int → Int → Option (Int)
 | 0, _, _, _, _, _, _, _, _, _, _, _, _, _ => none
 | k + 1, x5, x571000, x571001, x571002, x571003, x571004, x571005, x572000, x572001, x572002, x572003, x572004, x572005 => if x5 < 3 then (r_Touch.l1 k x5 true 0 x571000 x571001 x571002 x571003 x571004 x571005 x572000 x572001 x572002 x572003 x572004 x572005) else (some (-1))
def r_Touch.l1 : Nat → Int → Bool → Int → Int → Int → Int → Int → Int → Int → Int → Int → Int → Int → Int → Int → Option (Int)
 | 0, _, _, _, _, _, _, _, _, _, _, _, _, _, _, _ => none
 | k + 1, x5, x6, x7, x571000, x571001, x571002, x571003, x571004, x571005, x572000, x572001, x572002, x572003, x572004, x572005 => if x7 < 3 then (if x7 = x5 then (r_Touch.l1 k x5 x6 (wrap64 (x7 + 1)) x571000 x571001 x571002 x571003 x571004 x571005 x572000 x572001 x572002 x572003 x572004 x572005) else ((r_At.f x571000 x571001 x571002 x7).bind fun t572 => ((r_At.f x572000 x572001 x572002 x7).bind fun t573 => ((r_At.f x571003 x571004 x571005 x7).bind fun t574 => ((r_At.f x572003 x572004 x572005 x7).bind fun t575 => (if (mx t572 t573) ≥ (mn t574 t575) then (r_Touch.l1 k x5 false (wrap64 (x7 + 1)) x571000 x571001 x571002 x571003 x571004 x571005 x572000 x572001 x572002 x572003 x572004 x572005) else (r_Touch.l1 k x5 x6 (wrap64 (x7 + 1)) x571000 x571001 x571002 x571003 x571004 x571005 x572000 x572001 x572002 x572003 x572004 x572005))))))) else (if x6 = true then ((r_At.f x572000 x572001 x572002 x5).bind fun t576 => ((r_At.f x571003 x571004 x571005 x5).bind fun t577 => (r_Touch.j2 k x5 x6 (t576 == t577) x571000 x571001 x571002 x571003 x571004 x571005 x572000 x572001 x572002 x572003 x572004 x572005))) else (r_Touch.j2 k x5 x6 false x571000 x571001 x571002 x571003 x571004 x571005 x572000 x572001 x572002 x572003 x572004 x572005))
def r_Touch.j2 : Nat → Int → Bool → Bool → Int → Int → Int → Int → Int → Int → Int → Int → Int → Int → Int → Int → Option (Int)
 | 0, _, _, _, _, _, _, _, _, _, _, _, _, _, _, _ => none
 | k + 1, x5, x6, x51, x571000, x571001, x571002, x571003, x571004, x571005, x572000, x572001, x572002, x572003, x572004, x572005 => if x51 = true then (some (wrap64 (2 * x5))) else (if x6 = true then ((r_At.f x572003 x572004 x572005 x5).bind fun t578 => ((r_At.f x571000 x571001 x571002 x5).bind fun t579 => (if t578 = t579 then (some (wrap64 ((wrap64 (2 * x5)) + 1))) else (r_Touch.l0 k (wrap64 (x5 + 1)) x571000 x571001 x571002 x571003 x571004 x571005 x572000 x572001 x572002 x572003 x572004 x572005)))) else (r_Touch.l0 k (wrap64 (x5 + 1)) x571000 x571001 x571002 x571003 x571004 x571005 x572000 x572001 x572002 x572003 x572004 x572005))
end
def r_Touch.f (k : Nat) (a0_0 : Int) (a0_1 : Int) (a0_2 : Int) (a0_3 : Int) (a0_4 : Int) (a0_5 : Int) (a1_0 : Int) (a1_1 : Int) (a1_2 : Int) (a1_3 : Int) (a1_4 : Int) (a1_5 : Int) : Option (Int) := r_Touch.l0 k 0 a0_0 a0_1 a0_2 a0_3 a0_4 a0_5 a1_0 a1_1 a1_2 a1_3 a1_4 a1_5
def r_Touch.T8 : Bool × List (List Nat × List Nat) := (true, [([], []), ([], []), ([0, 1], [0, 1]), ([2], [2]), ([3], [3]), ([4, 3], [3, 4]), ([3], [3]), ([5, 6, 3, 3], [3, 5, 6]), ([3], [3]), ([8, 3], [3, 8]), ([3], [3]), ([9, 10, 7, 3], [3, 9, 10]), ([7, 11, 3], [3, 7, 11]), ([3], [3]), ([13, 3], [3, 13]), ([3], [3]), ([14, 15, 11, 3], [3, 14, 15]), ([3], [3]), ([17, 3], [3, 17]), ([3], [3]), ([18, 19, 16, 3], [3, 18, 19]), ([16, 20, 3], [3, 16, 20]), ([12, 21, 3], [3, 12, 21]), ([3, 22], [3, 22])])
def r_Touch.B8 : List Nat := [0, 0, 3, 7, 15, 31, 15, 127, 15, 271, 15, 2047, 4095, 15, 8207, 15, 61439, 15, 131087, 15, 1044479, 2093055, 4194303, 8388607]
theorem r_Touch.tab8 : rtab .any (opsOf Try.f34 8) = r_Touch.T8 := by kernel_rfl
theorem r_Touch.bits8 : waitsOk r_Touch.T8.2 r_Touch.B8 = true := by kernel_rfl
def r_Touch.T10 : Bool × List (List Nat × List Nat) := (true, [([], []), ([0], [0]), ([1], [1]), ([2, 1], [1, 2]), ([1], [1]), ([3, 4, 1, 1], [1, 3, 4]), ([1], [1]), ([6, 1], [1, 6]), ([1], [1]), ([7, 8, 5, 1], [1, 7, 8]), ([5, 9, 1], [1, 5, 9]), ([1, 10], [1, 10])])
def r_Touch.B10 : List Nat := [0, 1, 3, 7, 3, 31, 3, 67, 3, 511, 1023, 2047]
theorem r_Touch.tab10 : rtab .any (opsOf Try.f34 10) = r_Touch.T10 := by kernel_rfl
theorem r_Touch.bits10 : waitsOk r_Touch.T10.2 r_Touch.B10 = true := by kernel_rfl
def r_Touch.T12 : Bool × List (List Nat × List Nat) := (true, [([], []), ([0], [0]), ([1], [1]), ([2, 1], [1, 2]), ([1], [1]), ([3, 4, 1, 1], [1, 3, 4]), ([1], [1]), ([6, 1], [1, 6]), ([1], [1]), ([7, 8, 5, 1], [1, 7, 8]), ([5, 9, 1], [1, 5, 9]), ([1, 10], [1, 10])])
def r_Touch.B12 : List Nat := [0, 1, 3, 7, 3, 31, 3, 67, 3, 511, 1023, 2047]
theorem r_Touch.tab12 : rtab .any (opsOf Try.f34 12) = r_Touch.T12 := by kernel_rfl
theorem r_Touch.bits12 : waitsOk r_Touch.T12.2 r_Touch.B12 = true := by kernel_rfl
set_option maxHeartbeats 8000000 in
set_option maxRecDepth 100000 in
theorem r_Touch.calls (k : Nat) (a0_0 : Int) (a0_1 : Int) (a0_2 : Int) (a0_3 : Int) (a0_4 : Int) (a0_5 : Int) (a1_0 : Int) (a1_1 : Int) (a1_2 : Int) (a1_3 : Int) (a1_4 : Int) (a1_5 : Int) (r : Int) (w : World) (h : r_Touch.f k a0_0 a0_1 a0_2 a0_3 a0_4 a0_5 a1_0 a1_1 a1_2 a1_3 a1_4 a1_5 = some r) :
  Calls Try.prog 34 #[.agg #[.int .i64 a0_0, .int .i64 a0_1, .int .i64 a0_2, .int .i64 a0_3, .int .i64 a0_4, .int .i64 a0_5], .agg #[.int .i64 a1_0, .int .i64 a1_1, .int .i64 a1_2, .int .i64 a1_3, .int .i64 a1_4, .int .i64 a1_5]] w fun e w' => e = .returned (.int .i64 r) ∧ Below w.heap.size w w' := by
 have hu25 := Try.underlying25
 have hu23 := Try.underlying23
 have HB := am (Below.refl w.heap.size w)
 have H : (r_Touch.l0 k 0 a0_0 a0_1 a0_2 a0_3 a0_4 a0_5 a1_0 a1_1 a1_2 a1_3 a1_4 a1_5) = some r := h
 clear h
 have H' := am H
 clear H
 go_enter Try.func34, Try.ntmps34
 go_wp2_with (first | ((with_reducible refine gate_dst (N := 2) rfl ?_); (try (refine gate_guard (by rfl) ?_; dsimp only)); refine box_event ?hg (N := 2) ?hd (cs := #[.int .i64 a0_0, .int .i64 a0_1, .int .i64 a0_2, .int .i64 a0_3, .int .i64 a0_4, .int .i64 a0_5]) (t := 25) ?hr ?_; (case hd | hg => rfl); (case hr => first | (go_simp; done) | (go_simp; rfl)); intro gb570 hg w3 hbox hb; have BK570 := am hbox; have GW570 := sG HB hg; have GE570 := sG HB hg; replace HB := bS HB hb; clear hb hbox hg) | ((with_reducible refine gate_dst (N := 3) rfl ?_); (try (refine gate_guard (by rfl) ?_; dsimp only)); refine box_event ?hg (N := 3) ?hd (cs := #[.int .i64 a1_0, .int .i64 a1_1, .int .i64 a1_2, .int .i64 a1_3, .int .i64 a1_4, .int .i64 a1_5]) (t := 25) ?hr ?_; (case hd | hg => rfl); (case hr => first | (go_simp; done) | (go_simp; rfl)); intro gb571 hg w4 hbox hb; have BK571 := am hbox; have GW571 := sG HB hg; have GE571 := sG HB hg; replace HB := bS HB hb; have NB570_571 := nL BK570 hg; have NB571_570 := nG BK570 hg; replace BK570 := bB BK570 hb; clear hb hbox hg))
 go_loopg [5] k (fun kq v5 w' => ∃ (x5_1 : Int), v5 = .int .i64 x5_1 ∧ Aside0 (r_Touch.l0 kq x5_1 a0_0 a0_1 a0_2 a0_3 a0_4 a0_5 a1_0 a1_1 a1_2 a1_3 a1_4 a1_5 = some r) ∧ Aside0 (kq ≤ k) ∧ Aside0 (w'.heap[gb570]? = some (.cells #[.int .i64 a0_0, .int .i64 a0_1, .int .i64 a0_2, .int .i64 a0_3, .int .i64 a0_4, .int .i64 a0_5] 25 (0, 0))) ∧ Aside0 (w'.heap[gb571]? = some (.cells #[.int .i64 a1_0, .int .i64 a1_1, .int .i64 a1_2, .int .i64 a1_3, .int .i64 a1_4, .int .i64 a1_5] 25 (0, 0))) ∧ Aside0 (Below w.heap.size w w'))
 case atStart => exact ⟨(0), (by first | rfl | (simp; done) | (simp [*]; done)), H', ⟨Nat.le_refl _⟩, ⟨by (with_reducible repeat first | apply bN | apply bd | apply ba); exact BK570.out⟩, ⟨by (with_reducible repeat first | apply bN | apply bd | apply ba); exact BK571.out⟩, ⟨by repeat (first | (with_reducible first | exact HB.out | apply wa | apply wN | apply wd | refine ws ?_ GE570.out | refine ws ?_ GE571.out) | exact HB.out)⟩⟩
 case round =>
  clear H'
  try clear p2;try clear c3
  obtain ⟨x5_1, rfl, HA, HK1, BK570, BK571, HB⟩ := hrel
  cases gk with
  | zero => exact absurd HA.out (by simp [r_Touch.l0])
  | succ k1 =>
   have H := HA.out
   clear HA
   simp only [r_Touch.l0] at H
   by_cases c5 : x5_1 < 3
   ·rw [if_pos c5] at H
    have c5b0 : decide (x5_1 < 3) = true := decide_eq_true c5
    clear c5
    have H' := am H
    clear H
    go_wp2
    go_loopg [6, 7] k1 (fun kq v6 v7 w' => ∃ (x6_2 : Bool) (x7_2 : Int), v6 = .bool x6_2 ∧ v7 = .int .i64 x7_2 ∧ Aside0 (r_Touch.l1 kq x5_1 x6_2 x7_2 a0_0 a0_1 a0_2 a0_3 a0_4 a0_5 a1_0 a1_1 a1_2 a1_3 a1_4 a1_5 = some r) ∧ Aside0 (kq ≤ k1) ∧ Aside0 (w'.heap[gb570]? = some (.cells #[.int .i64 a0_0, .int .i64 a0_1, .int .i64 a0_2, .int .i64 a0_3, .int .i64 a0_4, .int .i64 a0_5] 25 (0, 0))) ∧ Aside0 (w'.heap[gb571]? = some (.cells #[.int .i64 a1_0, .int .i64 a1_1, .int .i64 a1_2, .int .i64 a1_3, .int .i64 a1_4, .int .i64 a1_5] 25 (0, 0))) ∧ Aside0 (Below w.heap.size w w'))
    case atStart => exact ⟨(true), (0), (by first | rfl | (simp; done) | (simp [*]; done)), (by first | rfl | (simp; done) | (simp [*]; done)), H', ⟨Nat.le_refl _⟩, ⟨by (with_reducible repeat first | apply bN | apply bd | apply ba); exact BK570.out⟩, ⟨by (with_reducible repeat first | apply bN | apply bd | apply ba); exact BK571.out⟩, ⟨by repeat (first | (with_reducible first | exact HB.out | apply wa | apply wN | apply wd | refine ws ?_ GE570.out | refine ws ?_ GE571.out) | exact HB.out)⟩⟩
    case round =>
     clear H'
     try clear p2;try clear c3;try clear c5;try clear c5b0;try clear p2
     obtain ⟨x6_2, x7_2, rfl, rfl, HA, HK2, BK570, BK571, HB⟩ := hrel
     cases gk with
     | zero => exact absurd HA.out (by simp [r_Touch.l1])
     | succ k2 =>
      have H := HA.out
      clear HA
      simp only [r_Touch.l1] at H
      by_cases c6 : x7_2 < 3
      ·rw [if_pos c6] at H
       have c6b0 : decide (x7_2 < 3) = true := decide_eq_true c6
       clear c6
       by_cases c7 : x7_2 = x5_1
       ·rw [if_pos c7] at H
        have c7b0 : (x7_2 == x5_1) = true := beq_iff_eq.mpr c7
        have c7b1 : (x7_2 != x5_1) = false := bne_eq_false_iff_eq.mpr c7
        clear c7
        have H' := am H
        clear H
        try go_wp2
        have n0_ := am (bd BK570.out)
        have n1_ := am (bd BK571.out)
        have n2_ := am (wd HB.out)
        clear BK570 BK571 HB
        have BK570 := n0_
        have BK571 := n1_
        have HB := n2_
        clear n0_ n1_ n2_
        refine start_ (n := 24) (S := fun w' => True) (ds := []) #[F,F,F,F,F,F,F,F,F,F,F,F,F,F,F,F,F,F,F,F,F,F,F,F] (by kernel_rfl) rfl rfl trivial (fun hHeld => ?_); refine with_tabW r_Touch.tab8 r_Touch.bits8 (fun HT_ HW_ => ?_)
        generalize wr.drew = w8 at BK570 BK571 HB hHeld ⊢
        refine pu (i := 0) (N := some 16) (fl 24 1 []) HT_ ?_
        refine pu (i := 1) (N := some 17) (fl 24 2 []) HT_ ?_
        refine pu (i := 2) (N := some 18) (fl 24 3 []) HT_ ?_
        refine pu (i := 3) (N := some 19) (fl 24 4 []) HT_ ?_
        refine pure_ (i := 4) (N := some 20) (v := undef) (a' := ?_) #[T,T,T,T,T,F,F,F,F,F,F,F,F,F,F,F,F,F,F,F,F,F,F,F] rfl rfl (any_of HT_.out (by kernel_rfl)) (fun _ _ _ h => h) (Or.inr ⟨by rfl, rfl⟩) ?_ ?_
        rotate_left
        ·simp only [Act.put, psl, i64_w, i32_w]
         rfl
        refine pure_ (i := 5) (N := some 21) (v := undef) (a' := ?_) #[T,T,T,T,T,T,F,F,F,F,F,F,F,F,F,F,F,F,F,F,F,F,F,F] rfl rfl (any_of HT_.out (by kernel_rfl)) (fun _ _ _ h => h) (Or.inr ⟨by rfl, rfl⟩) ?_ ?_
        rotate_left
        ·simp only [Act.put, psl, i64_w, i32_w]
         rfl
        refine pure_ (i := 6) (N := some 22) (v := undef) (a' := ?_) #[T,T,T,T,T,T,T,F,F,F,F,F,F,F,F,F,F,F,F,F,F,F,F,F] rfl rfl (any_of HT_.out (by kernel_rfl)) (fun _ _ _ h => h) (Or.inr ⟨by rfl, rfl⟩) ?_ ?_
        rotate_left
        ·simp only [Act.put, psl, i64_w, i32_w]
         rfl
        refine pure_ (i := 7) (N := some 23) (v := undef) (a' := ?_) #[T,T,T,T,T,T,T,T,F,F,F,F,F,F,F,F,F,F,F,F,F,F,F,F] rfl rfl (any_of HT_.out (by kernel_rfl)) (fun _ _ _ h => h) (Or.inr ⟨by rfl, rfl⟩) ?_ ?_
        rotate_left
        ·simp only [Act.put, psl, i64_w, i32_w]
         rfl
        refine pure_ (i := 8) (N := some 24) (v := undef) (a' := ?_) #[T,T,T,T,T,T,T,T,T,F,F,F,F,F,F,F,F,F,F,F,F,F,F,F] rfl rfl (any_of HT_.out (by kernel_rfl)) (fun _ _ _ h => h) (Or.inr ⟨by rfl, rfl⟩) ?_ ?_
        rotate_left
        ·simp only [Act.put, psl, i64_w, i32_w]
         rfl
        refine pure_ (i := 9) (N := some 25) (v := undef) (a' := ?_) #[T,T,T,T,T,T,T,T,T,T,F,F,F,F,F,F,F,F,F,F,F,F,F,F] rfl rfl (any_of HT_.out (by kernel_rfl)) (fun _ _ _ h => h) (Or.inr ⟨by rfl, rfl⟩) ?_ ?_
        rotate_left
        ·simp only [Act.put, psl, i64_w, i32_w]
         rfl
        refine pure_ (i := 10) (N := some 26) (v := undef) (a' := ?_) #[T,T,T,T,T,T,T,T,T,T,T,F,F,F,F,F,F,F,F,F,F,F,F,F] rfl rfl (any_of HT_.out (by kernel_rfl)) (fun _ _ _ h => h) (Or.inr ⟨by rfl, rfl⟩) ?_ ?_
        rotate_left
        ·simp only [Act.put, psl, i64_w, i32_w]
         rfl
        refine pure_ (i := 11) (N := some 27) (v := undef) (a' := ?_) #[T,T,T,T,T,T,T,T,T,T,T,T,F,F,F,F,F,F,F,F,F,F,F,F] rfl rfl (any_of HT_.out (by kernel_rfl)) (fun _ _ _ h => h) (Or.inr ⟨by rfl, rfl⟩) ?_ ?_
        rotate_left
        ·simp only [Act.put, psl, i64_w, i32_w]
         rfl
        refine pure_ (i := 12) (N := some 28) (v := undef) (a' := ?_) #[T,T,T,T,T,T,T,T,T,T,T,T,T,F,F,F,F,F,F,F,F,F,F,F] rfl rfl (any_of HT_.out (by kernel_rfl)) (fun _ _ _ h => h) (Or.inr ⟨by rfl, rfl⟩) ?_ ?_
        rotate_left
        ·simp only [Act.put, psl, i64_w, i32_w]
         rfl
        refine pure_ (i := 13) (N := some 29) (v := undef) (a' := ?_) #[T,T,T,T,T,T,T,T,T,T,T,T,T,T,F,F,F,F,F,F,F,F,F,F] rfl rfl (any_of HT_.out (by kernel_rfl)) (fun _ _ _ h => h) (Or.inr ⟨by rfl, rfl⟩) ?_ ?_
        rotate_left
        ·simp only [Act.put, psl, i64_w, i32_w]
         rfl
        refine pure_ (i := 14) (N := some 30) (v := undef) (a' := ?_) #[T,T,T,T,T,T,T,T,T,T,T,T,T,T,T,F,F,F,F,F,F,F,F,F] rfl rfl (any_of HT_.out (by kernel_rfl)) (fun _ _ _ h => h) (Or.inr ⟨by rfl, rfl⟩) ?_ ?_
        rotate_left
        ·simp only [Act.put, psl, i64_w, i32_w]
         rfl
        refine pure_ (i := 15) (N := some 31) (v := undef) (a' := ?_) #[T,T,T,T,T,T,T,T,T,T,T,T,T,T,T,T,F,F,F,F,F,F,F,F] rfl rfl (any_of HT_.out (by kernel_rfl)) (fun _ _ _ h => h) (Or.inr ⟨by rfl, rfl⟩) ?_ ?_
        rotate_left
        ·simp only [Act.put, psl, i64_w, i32_w]
         rfl
        refine pure_ (i := 16) (N := some 32) (v := undef) (a' := ?_) #[T,T,T,T,T,T,T,T,T,T,T,T,T,T,T,T,T,F,F,F,F,F,F,F] rfl rfl (any_of HT_.out (by kernel_rfl)) (fun _ _ _ h => h) (Or.inr ⟨by rfl, rfl⟩) ?_ ?_
        rotate_left
        ·simp only [Act.put, psl, i64_w, i32_w]
         rfl
        refine pure_ (i := 17) (N := some 33) (v := undef) (a' := ?_) #[T,T,T,T,T,T,T,T,T,T,T,T,T,T,T,T,T,T,F,F,F,F,F,F] rfl rfl (any_of HT_.out (by kernel_rfl)) (fun _ _ _ h => h) (Or.inr ⟨by rfl, rfl⟩) ?_ ?_
        rotate_left
        ·simp only [Act.put, psl, i64_w, i32_w]
         rfl
        refine pure_ (i := 18) (N := some 34) (v := undef) (a' := ?_) #[T,T,T,T,T,T,T,T,T,T,T,T,T,T,T,T,T,T,T,F,F,F,F,F] rfl rfl (any_of HT_.out (by kernel_rfl)) (fun _ _ _ h => h) (Or.inr ⟨by rfl, rfl⟩) ?_ ?_
        rotate_left
        ·simp only [Act.put, psl, i64_w, i32_w]
         rfl
        refine pure_ (i := 19) (N := some 35) (v := undef) (a' := ?_) #[T,T,T,T,T,T,T,T,T,T,T,T,T,T,T,T,T,T,T,T,F,F,F,F] rfl rfl (any_of HT_.out (by kernel_rfl)) (fun _ _ _ h => h) (Or.inr ⟨by rfl, rfl⟩) ?_ ?_
        rotate_left
        ·simp only [Act.put, psl, i64_w, i32_w]
         rfl
        refine pure_ (i := 20) (N := some 36) (v := undef) (a' := ?_) #[T,T,T,T,T,T,T,T,T,T,T,T,T,T,T,T,T,T,T,T,T,F,F,F] rfl rfl (any_of HT_.out (by kernel_rfl)) (fun _ _ _ h => h) (Or.inr ⟨by rfl, rfl⟩) ?_ ?_
        rotate_left
        ·simp only [Act.put, psl, i64_w, i32_w]
         rfl
        refine pure_ (i := 21) (N := some 37) (v := undef) (a' := ?_) #[T,T,T,T,T,T,T,T,T,T,T,T,T,T,T,T,T,T,T,T,T,T,F,F] rfl rfl (any_of HT_.out (by kernel_rfl)) (fun _ _ _ h => h) (Or.inr ⟨by rfl, rfl⟩) ?_ ?_
        rotate_left
        ·simp only [Act.put, psl, i64_w, i32_w]
         rfl
        refine pure_ (i := 22) (N := some 38) (v := undef) (a' := ?_) #[T,T,T,T,T,T,T,T,T,T,T,T,T,T,T,T,T,T,T,T,T,T,T,F] rfl rfl (any_of HT_.out (by kernel_rfl)) (fun _ _ _ h => h) (Or.inr ⟨by rfl, rfl⟩) ?_ ?_
        rotate_left
        ·simp only [Act.put, psl, i64_w, i32_w]
         rfl
        refine pu (i := 23) (N := some 39) (fl 24 24 []) HT_ ?_
        refine done_ (done_of HT_.out (by kernel_rfl)) ?_
        try go_wp2
        go_roundg k2
        case measure => have := HK1.out; have := HK2.out; omega
        case rel => exact ⟨(x6_2), (wrap64 (x7_2 + 1)), (by first | rfl | (simp; done) | (simp [*]; done)), (by first | rfl | (simp; done) | (simp [*]; done)), H', ⟨by have := HK1.out; have := HK2.out; omega⟩, ⟨by (with_reducible repeat first | apply bN | apply bd | apply ba); exact BK570.out⟩, ⟨by (with_reducible repeat first | apply bN | apply bd | apply ba); exact BK571.out⟩, ⟨by repeat (first | (with_reducible first | exact HB.out | apply wa | apply wN | apply wd | refine ws ?_ GE570.out | refine ws ?_ GE571.out) | exact HB.out)⟩⟩
       rw [if_neg c7] at H
       have c7b0 : (x7_2 == x5_1) = false := beq_eq_false_iff_ne.mpr c7
       have c7b1 : (x7_2 != x5_1) = true := bne_iff_ne.mpr c7
       replace H := Option.bind_eq_some_iff.mp H
       obtain ⟨t572, A90, H⟩ := H
       replace H : ((r_At.f a1_0 a1_1 a1_2 x7_2).bind fun t573 => ((r_At.f a0_3 a0_4 a0_5 x7_2).bind fun t574 => ((r_At.f a1_3 a1_4 a1_5 x7_2).bind fun t575 => (if (mx t572 t573) ≥ (mn t574 t575) then (r_Touch.l1 k2 x5_1 false (wrap64 (x7_2 + 1)) a0_0 a0_1 a0_2 a0_3 a0_4 a0_5 a1_0 a1_1 a1_2 a1_3 a1_4 a1_5) else (r_Touch.l1 k2 x5_1 x6_2 (wrap64 (x7_2 + 1)) a0_0 a0_1 a0_2 a0_3 a0_4 a0_5 a1_0 a1_1 a1_2 a1_3 a1_4 a1_5))))) = some r := H
       have A9 := am A90
       clear A90
       replace H := Option.bind_eq_some_iff.mp H
       obtain ⟨t573, A100, H⟩ := H
       replace H : ((r_At.f a0_3 a0_4 a0_5 x7_2).bind fun t574 => ((r_At.f a1_3 a1_4 a1_5 x7_2).bind fun t575 => (if (mx t572 t573) ≥ (mn t574 t575) then (r_Touch.l1 k2 x5_1 false (wrap64 (x7_2 + 1)) a0_0 a0_1 a0_2 a0_3 a0_4 a0_5 a1_0 a1_1 a1_2 a1_3 a1_4 a1_5) else (r_Touch.l1 k2 x5_1 x6_2 (wrap64 (x7_2 + 1)) a0_0 a0_1 a0_2 a0_3 a0_4 a0_5 a1_0 a1_1 a1_2 a1_3 a1_4 a1_5)))) = some r := H
       have A10 := am A100
       clear A100
       obtain ⟨ji11, hji11⟩ : ∃ j_ : Int, (mx t572 t573) = j_ := ⟨_, rfl⟩
       replace H : ((r_At.f a0_3 a0_4 a0_5 x7_2).bind fun t574 => ((r_At.f a1_3 a1_4 a1_5 x7_2).bind fun t575 => (if (ji11) ≥ (mn t574 t575) then (r_Touch.l1 k2 x5_1 false (wrap64 (x7_2 + 1)) a0_0 a0_1 a0_2 a0_3 a0_4 a0_5 a1_0 a1_1 a1_2 a1_3 a1_4 a1_5) else (r_Touch.l1 k2 x5_1 x6_2 (wrap64 (x7_2 + 1)) a0_0 a0_1 a0_2 a0_3 a0_4 a0_5 a1_0 a1_1 a1_2 a1_3 a1_4 a1_5)))) = some r := by first | (rw [hji11] at H; exact H) | (simp only [hji11] at H ⊢; exact H)
       (try rw [hji11] at A9)
       (try rw [hji11] at A10)
       have hji11_ : (if t572 < t573 then t573 else t572) = ji11 := hji11
       replace H := Option.bind_eq_some_iff.mp H
       obtain ⟨t574, A120, H⟩ := H
       replace H : ((r_At.f a1_3 a1_4 a1_5 x7_2).bind fun t575 => (if (ji11) ≥ (mn t574 t575) then (r_Touch.l1 k2 x5_1 false (wrap64 (x7_2 + 1)) a0_0 a0_1 a0_2 a0_3 a0_4 a0_5 a1_0 a1_1 a1_2 a1_3 a1_4 a1_5) else (r_Touch.l1 k2 x5_1 x6_2 (wrap64 (x7_2 + 1)) a0_0 a0_1 a0_2 a0_3 a0_4 a0_5 a1_0 a1_1 a1_2 a1_3 a1_4 a1_5))) = some r := H
       have A12 := am A120
       clear A120
       replace H := Option.bind_eq_some_iff.mp H
       obtain ⟨t575, A130, H⟩ := H
       replace H : (if (ji11) ≥ (mn t574 t575) then (r_Touch.l1 k2 x5_1 false (wrap64 (x7_2 + 1)) a0_0 a0_1 a0_2 a0_3 a0_4 a0_5 a1_0 a1_1 a1_2 a1_3 a1_4 a1_5) else (r_Touch.l1 k2 x5_1 x6_2 (wrap64 (x7_2 + 1)) a0_0 a0_1 a0_2 a0_3 a0_4 a0_5 a1_0 a1_1 a1_2 a1_3 a1_4 a1_5)) = some r := H
       have A13 := am A130
       clear A130
       obtain ⟨ji14, hji14⟩ : ∃ j_ : Int, (mn t574 t575) = j_ := ⟨_, rfl⟩
       replace H : (if (ji11) ≥ (ji14) then (r_Touch.l1 k2 x5_1 false (wrap64 (x7_2 + 1)) a0_0 a0_1 a0_2 a0_3 a0_4 a0_5 a1_0 a1_1 a1_2 a1_3 a1_4 a1_5) else (r_Touch.l1 k2 x5_1 x6_2 (wrap64 (x7_2 + 1)) a0_0 a0_1 a0_2 a0_3 a0_4 a0_5 a1_0 a1_1 a1_2 a1_3 a1_4 a1_5)) = some r := by first | (rw [hji14] at H; exact H) | (simp only [hji14] at H ⊢; exact H)
       (try rw [hji14] at A9)
       (try rw [hji14] at A10)
       (try rw [hji14] at A12)
       (try rw [hji14] at A13)
       have hji14_ : (if t575 < t574 then t575 else t574) = ji14 := hji14
       by_cases c15 : (ji11) ≥ (ji14)
       ·rw [if_pos c15] at H
        have c15b0 : decide ((ji14) ≤ (ji11)) = true := decide_eq_true c15
        clear c15
        have H' := am H
        clear H
        try go_wp2
        have n0_ := am (bd BK570.out)
        have n1_ := am (bd BK571.out)
        have n2_ := am (wd HB.out)
        clear BK570 BK571 HB
        have BK570 := n0_
        have BK571 := n1_
        have HB := n2_
        clear n0_ n1_ n2_
        refine start_ (n := 24) (S := fun w' => w'.cell? ⟨gb570, 0, none⟩ = some (.int .i64 a0_0) ∧ w'.cell? ⟨gb570, 1, none⟩ = some (.int .i64 a0_1) ∧ w'.cell? ⟨gb570, 2, none⟩ = some (.int .i64 a0_2) ∧ w'.cell? ⟨gb570, 3, none⟩ = some (.int .i64 a0_3) ∧ w'.cell? ⟨gb570, 4, none⟩ = some (.int .i64 a0_4) ∧ w'.cell? ⟨gb570, 5, none⟩ = some (.int .i64 a0_5) ∧ w'.cell? ⟨gb571, 0, none⟩ = some (.int .i64 a1_0) ∧ w'.cell? ⟨gb571, 1, none⟩ = some (.int .i64 a1_1) ∧ w'.cell? ⟨gb571, 2, none⟩ = some (.int .i64 a1_2) ∧ w'.cell? ⟨gb571, 3, none⟩ = some (.int .i64 a1_3) ∧ w'.cell? ⟨gb571, 4, none⟩ = some (.int .i64 a1_4) ∧ w'.cell? ⟨gb571, 5, none⟩ = some (.int .i64 a1_5)) (ds := []) #[F,F,F,F,F,F,F,F,F,F,F,F,F,F,F,F,F,F,F,F,F,F,F,F] (by kernel_rfl) rfl rfl ⟨(bc BK570.out 0).trans rfl, (bc BK570.out 1).trans rfl, (bc BK570.out 2).trans rfl, (bc BK570.out 3).trans rfl, (bc BK570.out 4).trans rfl, (bc BK570.out 5).trans rfl, (bc BK571.out 0).trans rfl, (bc BK571.out 1).trans rfl, (bc BK571.out 2).trans rfl, (bc BK571.out 3).trans rfl, (bc BK571.out 4).trans rfl, (bc BK571.out 5).trans rfl⟩ (fun hHeld => ?_); refine with_tabW r_Touch.tab8 r_Touch.bits8 (fun HT_ HW_ => ?_)
        generalize wr.drew = w16 at BK570 BK571 HB hHeld ⊢
        refine pu (i := 0) (N := some 16) (fl 24 1 []) HT_ ?_
        refine pu (i := 1) (N := some 17) (fl 24 2 []) HT_ ?_
        refine pu (i := 2) (N := some 18) (fl 24 3 []) HT_ ?_
        refine pu (i := 3) (N := some 19) (fl 24 4 []) HT_ ?_
        refine pu (i := 4) (N := some 20) (fl 24 5 []) HT_ ?_
        refine pu (i := 6) (N := some 22) (fl 24 5 [6]) HT_ ?_
        refine pu (i := 8) (N := some 24) (fl 24 5 [6, 8]) HT_ ?_
        refine pu (i := 10) (N := some 26) (fl 24 5 [6, 8, 10]) HT_ ?_
        refine pu (i := 13) (N := some 29) (fl 24 5 [6, 8, 10, 13]) HT_ ?_
        refine pu (i := 15) (N := some 31) (fl 24 5 [6, 8, 10, 13, 15]) HT_ ?_
        refine pu (i := 17) (N := some 33) (fl 24 5 [6, 8, 10, 13, 15, 17]) HT_ ?_
        refine pu (i := 19) (N := some 35) (fl 24 5 [6, 8, 10, 13, 15, 17, 19]) HT_ ?_
        refine tk (i := 5) (N := some 21) (fl 24 7 [8, 10, 13, 15, 17, 19]) HT_ HW_ hHeld ?_
        refine tk (i := 9) (N := some 25) (fl 24 7 [8, 9, 10, 13, 15, 17, 19]) HT_ HW_ hHeld ?_
        refine tk (i := 14) (N := some 30) (fl 24 7 [8, 9, 10, 13, 14, 15, 17, 19]) HT_ HW_ hHeld ?_
        refine tk (i := 18) (N := some 34) (fl 24 7 [8, 9, 10, 13, 14, 15, 17, 18, 19]) HT_ HW_ hHeld ?_
        refine one_ (i := 7) (N := some 23) (fl 24 11 [13, 14, 15, 17, 18, 19]) rfl rfl (one_of HT_.out (by kernel_rfl)) (by decide) (fun K hK => ?_)
        refine goes_ Try.func59 (by kernel_rfl) rfl #[.agg #[.int .i64 a0_0, .int .i64 a0_1, .int .i64 a0_2], .int .i64 x7_2] (by rfl) rfl rfl (by (try simp only [pml]); first | done | rfl | (simp only [pdt]; rfl)) ?_
        with_reducible refine (r_At.calls a0_0 a0_1 a0_2 x7_2 t572 _ A9.out).mono ?_
        rintro e w17 ⟨rfl, hb⟩
        refine ⟨_, rfl, ?_⟩
        have n0_ := bB BK570 hb
        have n1_ := bB BK571 hb
        have n2_ := bS HB hb
        clear BK570 BK571 HB
        have BK570 := n0_
        have BK571 := n1_
        have HB := n2_
        clear n0_ n1_ n2_
        (try clear hb)
        (try clear hb2)
        (try clear hk)
        (try clear hi)
        refine hK.out _ _ ⟨(bc BK570.out 0).trans rfl, (bc BK570.out 1).trans rfl, (bc BK570.out 2).trans rfl, (bc BK570.out 3).trans rfl, (bc BK570.out 4).trans rfl, (bc BK570.out 5).trans rfl, (bc BK571.out 0).trans rfl, (bc BK571.out 1).trans rfl, (bc BK571.out 2).trans rfl, (bc BK571.out 3).trans rfl, (bc BK571.out 4).trans rfl, (bc BK571.out 5).trans rfl⟩ (fun hHeld => ?_)
        clear hK K
        refine norm_ (a' := ?_) ?_ ?_
        rotate_left
        ·show Act.put _ (some 23) _ = _
         simp only [Act.put, psl, i64_w, i32_w]
         rfl
        refine one_ (i := 11) (N := some 27) (fl 24 12 [13, 14, 15, 17, 18, 19]) rfl rfl (one_of HT_.out (by kernel_rfl)) (by decide) (fun K hK => ?_)
        refine goes_ Try.func59 (by kernel_rfl) rfl #[.agg #[.int .i64 a1_0, .int .i64 a1_1, .int .i64 a1_2], .int .i64 x7_2] (by rfl) rfl rfl (by (try simp only [pml]); first | done | rfl | (simp only [pdt]; rfl)) ?_
        with_reducible refine (r_At.calls a1_0 a1_1 a1_2 x7_2 t573 _ A10.out).mono ?_
        rintro e w18 ⟨rfl, hb⟩
        refine ⟨_, rfl, ?_⟩
        have n0_ := bB BK570 hb
        have n1_ := bB BK571 hb
        have n2_ := bS HB hb
        clear BK570 BK571 HB
        have BK570 := n0_
        have BK571 := n1_
        have HB := n2_
        clear n0_ n1_ n2_
        (try clear hb)
        (try clear hb2)
        (try clear hk)
        (try clear hi)
        refine hK.out _ _ ⟨(bc BK570.out 0).trans rfl, (bc BK570.out 1).trans rfl, (bc BK570.out 2).trans rfl, (bc BK570.out 3).trans rfl, (bc BK570.out 4).trans rfl, (bc BK570.out 5).trans rfl, (bc BK571.out 0).trans rfl, (bc BK571.out 1).trans rfl, (bc BK571.out 2).trans rfl, (bc BK571.out 3).trans rfl, (bc BK571.out 4).trans rfl, (bc BK571.out 5).trans rfl⟩ (fun hHeld => ?_)
        clear hK K
        refine norm_ (a' := ?_) ?_ ?_
        rotate_left
        ·show Act.put _ (some 27) _ = _
         simp only [Act.put, psl, i64_w, i32_w]
         rfl
        refine pu (i := 12) (N := some 28) (fl 24 16 [17, 18, 19]) HT_ ?_
        refine one_ (i := 16) (N := some 32) (fl 24 20 []) rfl rfl (one_of HT_.out (by kernel_rfl)) (by decide) (fun K hK => ?_)
        refine goes_ Try.func59 (by kernel_rfl) rfl #[.agg #[.int .i64 a0_3, .int .i64 a0_4, .int .i64 a0_5], .int .i64 x7_2] (by rfl) rfl rfl (by (try simp only [pml]); first | done | rfl | (simp only [pdt]; rfl)) ?_
        with_reducible refine (r_At.calls a0_3 a0_4 a0_5 x7_2 t574 _ A12.out).mono ?_
        rintro e w19 ⟨rfl, hb⟩
        refine ⟨_, rfl, ?_⟩
        have n0_ := bB BK570 hb
        have n1_ := bB BK571 hb
        have n2_ := bS HB hb
        clear BK570 BK571 HB
        have BK570 := n0_
        have BK571 := n1_
        have HB := n2_
        clear n0_ n1_ n2_
        (try clear hb)
        (try clear hb2)
        (try clear hk)
        (try clear hi)
        refine hK.out _ _ ⟨(bc BK570.out 0).trans rfl, (bc BK570.out 1).trans rfl, (bc BK570.out 2).trans rfl, (bc BK570.out 3).trans rfl, (bc BK570.out 4).trans rfl, (bc BK570.out 5).trans rfl, (bc BK571.out 0).trans rfl, (bc BK571.out 1).trans rfl, (bc BK571.out 2).trans rfl, (bc BK571.out 3).trans rfl, (bc BK571.out 4).trans rfl, (bc BK571.out 5).trans rfl⟩ (fun hHeld => ?_)
        clear hK K
        refine norm_ (a' := ?_) ?_ ?_
        rotate_left
        ·show Act.put _ (some 32) _ = _
         simp only [Act.put, psl, i64_w, i32_w]
         rfl
        refine one_ (i := 20) (N := some 36) (fl 24 21 []) rfl rfl (one_of HT_.out (by kernel_rfl)) (by decide) (fun K hK => ?_)
        refine goes_ Try.func59 (by kernel_rfl) rfl #[.agg #[.int .i64 a1_3, .int .i64 a1_4, .int .i64 a1_5], .int .i64 x7_2] (by rfl) rfl rfl (by (try simp only [pml]); first | done | rfl | (simp only [pdt]; rfl)) ?_
        with_reducible refine (r_At.calls a1_3 a1_4 a1_5 x7_2 t575 _ A13.out).mono ?_
        rintro e w20 ⟨rfl, hb⟩
        refine ⟨_, rfl, ?_⟩
        have n0_ := bB BK570 hb
        have n1_ := bB BK571 hb
        have n2_ := bS HB hb
        clear BK570 BK571 HB
        have BK570 := n0_
        have BK571 := n1_
        have HB := n2_
        clear n0_ n1_ n2_
        (try clear hb)
        (try clear hb2)
        (try clear hk)
        (try clear hi)
        refine hK.out _ _ ⟨(bc BK570.out 0).trans rfl, (bc BK570.out 1).trans rfl, (bc BK570.out 2).trans rfl, (bc BK570.out 3).trans rfl, (bc BK570.out 4).trans rfl, (bc BK570.out 5).trans rfl, (bc BK571.out 0).trans rfl, (bc BK571.out 1).trans rfl, (bc BK571.out 2).trans rfl, (bc BK571.out 3).trans rfl, (bc BK571.out 4).trans rfl, (bc BK571.out 5).trans rfl⟩ (fun hHeld => ?_)
        clear hK K
        refine norm_ (a' := ?_) ?_ ?_
        rotate_left
        ·show Act.put _ (some 36) _ = _
         simp only [Act.put, psl, i64_w, i32_w]
         rfl
        refine pu (i := 21) (N := some 37) (fl 24 22 []) HT_ ?_
        refine pu (i := 22) (N := some 38) (fl 24 23 []) HT_ ?_
        refine pu (i := 23) (N := some 39) (fl 24 24 []) HT_ ?_
        refine done_ (done_of HT_.out (by kernel_rfl)) ?_
        try go_wp2
        go_roundg k2
        case measure => have := HK1.out; have := HK2.out; omega
        case rel => exact ⟨(false), (wrap64 (x7_2 + 1)), (by first | rfl | (simp; done) | (simp [*]; done)), (by first | rfl | (simp; done) | (simp [*]; done)), H', ⟨by have := HK1.out; have := HK2.out; omega⟩, ⟨by (with_reducible repeat first | apply bN | apply bd | apply ba); exact BK570.out⟩, ⟨by (with_reducible repeat first | apply bN | apply bd | apply ba); exact BK571.out⟩, ⟨by repeat (first | (with_reducible first | exact HB.out | apply wa | apply wN | apply wd | refine ws ?_ GE570.out | refine ws ?_ GE571.out) | exact HB.out)⟩⟩
       rw [if_neg c15] at H
       have c15b0 : decide ((ji14) ≤ (ji11)) = false := decide_eq_false c15
       clear c15
       have H' := am H
       clear H
       try go_wp2
       have n0_ := am (bd BK570.out)
       have n1_ := am (bd BK571.out)
       have n2_ := am (wd HB.out)
       clear BK570 BK571 HB
       have BK570 := n0_
       have BK571 := n1_
       have HB := n2_
       clear n0_ n1_ n2_
       refine start_ (n := 24) (S := fun w' => w'.cell? ⟨gb570, 0, none⟩ = some (.int .i64 a0_0) ∧ w'.cell? ⟨gb570, 1, none⟩ = some (.int .i64 a0_1) ∧ w'.cell? ⟨gb570, 2, none⟩ = some (.int .i64 a0_2) ∧ w'.cell? ⟨gb570, 3, none⟩ = some (.int .i64 a0_3) ∧ w'.cell? ⟨gb570, 4, none⟩ = some (.int .i64 a0_4) ∧ w'.cell? ⟨gb570, 5, none⟩ = some (.int .i64 a0_5) ∧ w'.cell? ⟨gb571, 0, none⟩ = some (.int .i64 a1_0) ∧ w'.cell? ⟨gb571, 1, none⟩ = some (.int .i64 a1_1) ∧ w'.cell? ⟨gb571, 2, none⟩ = some (.int .i64 a1_2) ∧ w'.cell? ⟨gb571, 3, none⟩ = some (.int .i64 a1_3) ∧ w'.cell? ⟨gb571, 4, none⟩ = some (.int .i64 a1_4) ∧ w'.cell? ⟨gb571, 5, none⟩ = some (.int .i64 a1_5)) (ds := []) #[F,F,F,F,F,F,F,F,F,F,F,F,F,F,F,F,F,F,F,F,F,F,F,F] (by kernel_rfl) rfl rfl ⟨(bc BK570.out 0).trans rfl, (bc BK570.out 1).trans rfl, (bc BK570.out 2).trans rfl, (bc BK570.out 3).trans rfl, (bc BK570.out 4).trans rfl, (bc BK570.out 5).trans rfl, (bc BK571.out 0).trans rfl, (bc BK571.out 1).trans rfl, (bc BK571.out 2).trans rfl, (bc BK571.out 3).trans rfl, (bc BK571.out 4).trans rfl, (bc BK571.out 5).trans rfl⟩ (fun hHeld => ?_); refine with_tabW r_Touch.tab8 r_Touch.bits8 (fun HT_ HW_ => ?_)
       generalize wr.drew = w21 at BK570 BK571 HB hHeld ⊢
       refine pu (i := 0) (N := some 16) (fl 24 1 []) HT_ ?_
       refine pu (i := 1) (N := some 17) (fl 24 2 []) HT_ ?_
       refine pu (i := 2) (N := some 18) (fl 24 3 []) HT_ ?_
       refine pu (i := 3) (N := some 19) (fl 24 4 []) HT_ ?_
       refine pu (i := 4) (N := some 20) (fl 24 5 []) HT_ ?_
       refine pu (i := 6) (N := some 22) (fl 24 5 [6]) HT_ ?_
       refine pu (i := 8) (N := some 24) (fl 24 5 [6, 8]) HT_ ?_
       refine pu (i := 10) (N := some 26) (fl 24 5 [6, 8, 10]) HT_ ?_
       refine pu (i := 13) (N := some 29) (fl 24 5 [6, 8, 10, 13]) HT_ ?_
       refine pu (i := 15) (N := some 31) (fl 24 5 [6, 8, 10, 13, 15]) HT_ ?_
       refine pu (i := 17) (N := some 33) (fl 24 5 [6, 8, 10, 13, 15, 17]) HT_ ?_
       refine pu (i := 19) (N := some 35) (fl 24 5 [6, 8, 10, 13, 15, 17, 19]) HT_ ?_
       refine tk (i := 5) (N := some 21) (fl 24 7 [8, 10, 13, 15, 17, 19]) HT_ HW_ hHeld ?_
       refine tk (i := 9) (N := some 25) (fl 24 7 [8, 9, 10, 13, 15, 17, 19]) HT_ HW_ hHeld ?_
       refine tk (i := 14) (N := some 30) (fl 24 7 [8, 9, 10, 13, 14, 15, 17, 19]) HT_ HW_ hHeld ?_
       refine tk (i := 18) (N := some 34) (fl 24 7 [8, 9, 10, 13, 14, 15, 17, 18, 19]) HT_ HW_ hHeld ?_
       refine one_ (i := 7) (N := some 23) (fl 24 11 [13, 14, 15, 17, 18, 19]) rfl rfl (one_of HT_.out (by kernel_rfl)) (by decide) (fun K hK => ?_)
       refine goes_ Try.func59 (by kernel_rfl) rfl #[.agg #[.int .i64 a0_0, .int .i64 a0_1, .int .i64 a0_2], .int .i64 x7_2] (by rfl) rfl rfl (by (try simp only [pml]); first | done | rfl | (simp only [pdt]; rfl)) ?_
       with_reducible refine (r_At.calls a0_0 a0_1 a0_2 x7_2 t572 _ A9.out).mono ?_
       rintro e w22 ⟨rfl, hb⟩
       refine ⟨_, rfl, ?_⟩
       have n0_ := bB BK570 hb
       have n1_ := bB BK571 hb
       have n2_ := bS HB hb
       clear BK570 BK571 HB
       have BK570 := n0_
       have BK571 := n1_
       have HB := n2_
       clear n0_ n1_ n2_
       (try clear hb)
       (try clear hb2)
       (try clear hk)
       (try clear hi)
       refine hK.out _ _ ⟨(bc BK570.out 0).trans rfl, (bc BK570.out 1).trans rfl, (bc BK570.out 2).trans rfl, (bc BK570.out 3).trans rfl, (bc BK570.out 4).trans rfl, (bc BK570.out 5).trans rfl, (bc BK571.out 0).trans rfl, (bc BK571.out 1).trans rfl, (bc BK571.out 2).trans rfl, (bc BK571.out 3).trans rfl, (bc BK571.out 4).trans rfl, (bc BK571.out 5).trans rfl⟩ (fun hHeld => ?_)
       clear hK K
       refine norm_ (a' := ?_) ?_ ?_
       rotate_left
       ·show Act.put _ (some 23) _ = _
        simp only [Act.put, psl, i64_w, i32_w]
        rfl
       refine one_ (i := 11) (N := some 27) (fl 24 12 [13, 14, 15, 17, 18, 19]) rfl rfl (one_of HT_.out (by kernel_rfl)) (by decide) (fun K hK => ?_)
       refine goes_ Try.func59 (by kernel_rfl) rfl #[.agg #[.int .i64 a1_0, .int .i64 a1_1, .int .i64 a1_2], .int .i64 x7_2] (by rfl) rfl rfl (by (try simp only [pml]); first | done | rfl | (simp only [pdt]; rfl)) ?_
       with_reducible refine (r_At.calls a1_0 a1_1 a1_2 x7_2 t573 _ A10.out).mono ?_
       rintro e w23 ⟨rfl, hb⟩
       refine ⟨_, rfl, ?_⟩
       have n0_ := bB BK570 hb
       have n1_ := bB BK571 hb
       have n2_ := bS HB hb
       clear BK570 BK571 HB
       have BK570 := n0_
       have BK571 := n1_
       have HB := n2_
       clear n0_ n1_ n2_
       (try clear hb)
       (try clear hb2)
       (try clear hk)
       (try clear hi)
       refine hK.out _ _ ⟨(bc BK570.out 0).trans rfl, (bc BK570.out 1).trans rfl, (bc BK570.out 2).trans rfl, (bc BK570.out 3).trans rfl, (bc BK570.out 4).trans rfl, (bc BK570.out 5).trans rfl, (bc BK571.out 0).trans rfl, (bc BK571.out 1).trans rfl, (bc BK571.out 2).trans rfl, (bc BK571.out 3).trans rfl, (bc BK571.out 4).trans rfl, (bc BK571.out 5).trans rfl⟩ (fun hHeld => ?_)
       clear hK K
       refine norm_ (a' := ?_) ?_ ?_
       rotate_left
       ·show Act.put _ (some 27) _ = _
        simp only [Act.put, psl, i64_w, i32_w]
        rfl
       refine pu (i := 12) (N := some 28) (fl 24 16 [17, 18, 19]) HT_ ?_
       refine one_ (i := 16) (N := some 32) (fl 24 20 []) rfl rfl (one_of HT_.out (by kernel_rfl)) (by decide) (fun K hK => ?_)
       refine goes_ Try.func59 (by kernel_rfl) rfl #[.agg #[.int .i64 a0_3, .int .i64 a0_4, .int .i64 a0_5], .int .i64 x7_2] (by rfl) rfl rfl (by (try simp only [pml]); first | done | rfl | (simp only [pdt]; rfl)) ?_
       with_reducible refine (r_At.calls a0_3 a0_4 a0_5 x7_2 t574 _ A12.out).mono ?_
       rintro e w24 ⟨rfl, hb⟩
       refine ⟨_, rfl, ?_⟩
       have n0_ := bB BK570 hb
       have n1_ := bB BK571 hb
       have n2_ := bS HB hb
       clear BK570 BK571 HB
       have BK570 := n0_
       have BK571 := n1_
       have HB := n2_
       clear n0_ n1_ n2_
       (try clear hb)
       (try clear hb2)
       (try clear hk)
       (try clear hi)
       refine hK.out _ _ ⟨(bc BK570.out 0).trans rfl, (bc BK570.out 1).trans rfl, (bc BK570.out 2).trans rfl, (bc BK570.out 3).trans rfl, (bc BK570.out 4).trans rfl, (bc BK570.out 5).trans rfl, (bc BK571.out 0).trans rfl, (bc BK571.out 1).trans rfl, (bc BK571.out 2).trans rfl, (bc BK571.out 3).trans rfl, (bc BK571.out 4).trans rfl, (bc BK571.out 5).trans rfl⟩ (fun hHeld => ?_)
       clear hK K
       refine norm_ (a' := ?_) ?_ ?_
       rotate_left
       ·show Act.put _ (some 32) _ = _
        simp only [Act.put, psl, i64_w, i32_w]
        rfl
       refine one_ (i := 20) (N := some 36) (fl 24 21 []) rfl rfl (one_of HT_.out (by kernel_rfl)) (by decide) (fun K hK => ?_)
       refine goes_ Try.func59 (by kernel_rfl) rfl #[.agg #[.int .i64 a1_3, .int .i64 a1_4, .int .i64 a1_5], .int .i64 x7_2] (by rfl) rfl rfl (by (try simp only [pml]); first | done | rfl | (simp only [pdt]; rfl)) ?_
       with_reducible refine (r_At.calls a1_3 a1_4 a1_5 x7_2 t575 _ A13.out).mono ?_
       rintro e w25 ⟨rfl, hb⟩
       refine ⟨_, rfl, ?_⟩
       have n0_ := bB BK570 hb
       have n1_ := bB BK571 hb
       have n2_ := bS HB hb
       clear BK570 BK571 HB
       have BK570 := n0_
       have BK571 := n1_
       have HB := n2_
       clear n0_ n1_ n2_
       (try clear hb)
       (try clear hb2)
       (try clear hk)
       (try clear hi)
       refine hK.out _ _ ⟨(bc BK570.out 0).trans rfl, (bc BK570.out 1).trans rfl, (bc BK570.out 2).trans rfl, (bc BK570.out 3).trans rfl, (bc BK570.out 4).trans rfl, (bc BK570.out 5).trans rfl, (bc BK571.out 0).trans rfl, (bc BK571.out 1).trans rfl, (bc BK571.out 2).trans rfl, (bc BK571.out 3).trans rfl, (bc BK571.out 4).trans rfl, (bc BK571.out 5).trans rfl⟩ (fun hHeld => ?_)
       clear hK K
       refine norm_ (a' := ?_) ?_ ?_
       rotate_left
       ·show Act.put _ (some 36) _ = _
        simp only [Act.put, psl, i64_w, i32_w]
        rfl
       refine pu (i := 21) (N := some 37) (fl 24 22 []) HT_ ?_
       refine pu (i := 22) (N := some 38) (fl 24 23 []) HT_ ?_
       refine pu (i := 23) (N := some 39) (fl 24 24 []) HT_ ?_
       refine done_ (done_of HT_.out (by kernel_rfl)) ?_
       try go_wp2
       go_roundg k2
       case measure => have := HK1.out; have := HK2.out; omega
       case rel => exact ⟨(x6_2), (wrap64 (x7_2 + 1)), (by first | rfl | (simp; done) | (simp [*]; done)), (by first | rfl | (simp; done) | (simp [*]; done)), H', ⟨by have := HK1.out; have := HK2.out; omega⟩, ⟨by (with_reducible repeat first | apply bN | apply bd | apply ba); exact BK570.out⟩, ⟨by (with_reducible repeat first | apply bN | apply bd | apply ba); exact BK571.out⟩, ⟨by repeat (first | (with_reducible first | exact HB.out | apply wa | apply wN | apply wd | refine ws ?_ GE570.out | refine ws ?_ GE571.out) | exact HB.out)⟩⟩
      rw [if_neg c6] at H
      have c6b0 : decide (x7_2 < 3) = false := decide_eq_false c6
      clear c6
      have HC26 := am H
      clear H
      go_upto_region 10 with (fail)
      go_cut [51] (fun v51 wc => ∃ (kq : Nat) (x51_25 : Bool), v51 = .bool x51_25 ∧ Aside0 (r_Touch.j2 kq x5_1 x6_2 x51_25 a0_0 a0_1 a0_2 a0_3 a0_4 a0_5 a1_0 a1_1 a1_2 a1_3 a1_4 a1_5 = some r) ∧ Aside0 (kq ≤ k2) ∧ Aside0 (wc.heap[gb570]? = some (.cells #[.int .i64 a0_0, .int .i64 a0_1, .int .i64 a0_2, .int .i64 a0_3, .int .i64 a0_4, .int .i64 a0_5] 25 (0, 0))) ∧ Aside0 (wc.heap[gb571]? = some (.cells #[.int .i64 a1_0, .int .i64 a1_1, .int .i64 a1_2, .int .i64 a1_3, .int .i64 a1_4, .int .i64 a1_5] 25 (0, 0))) ∧ Aside0 (Below w.heap.size w wc))
      case first =>
       have H := HC26.out
       clear HC26
       by_cases c27 : x6_2 = true
       rotate_left
       ·replace c27 := Bool.eq_false_iff.mpr c27
        subst c27
        have H1 : (r_Touch.j2 k2 x5_1 false false a0_0 a0_1 a0_2 a0_3 a0_4 a0_5 a1_0 a1_1 a1_2 a1_3 a1_4 a1_5) = some r := by rw [if_neg (show ¬ (false = true) by decide)] at H; exact H
        clear H
        have H := H1
        clear H1
        have H' := am H
        clear H
        try go_wp2
        have n0_ := am (bd BK570.out)
        have n1_ := am (bd BK571.out)
        have n2_ := am (wd HB.out)
        clear BK570 BK571 HB
        have BK570 := n0_
        have BK571 := n1_
        have HB := n2_
        clear n0_ n1_ n2_
        refine start_ (n := 12) (S := fun w' => True) (ds := []) #[F,F,F,F,F,F,F,F,F,F,F,F] (by kernel_rfl) rfl rfl trivial (fun hHeld => ?_); refine with_tabW r_Touch.tab10 r_Touch.bits10 (fun HT_ HW_ => ?_)
        generalize wr.drew = w33 at BK570 BK571 HB hHeld ⊢
        refine pu (i := 0) (N := some 40) (fl 12 1 []) HT_ ?_
        refine pu (i := 1) (N := some 41) (fl 12 2 []) HT_ ?_
        refine pure_ (i := 2) (N := some 42) (v := undef) (a' := ?_) #[T,T,T,F,F,F,F,F,F,F,F,F] rfl rfl (any_of HT_.out (by kernel_rfl)) (fun _ _ _ h => h) (Or.inr ⟨by rfl, rfl⟩) ?_ ?_
        rotate_left
        ·simp only [Act.put, psl, i64_w, i32_w]
         rfl
        refine pure_ (i := 3) (N := some 43) (v := undef) (a' := ?_) #[T,T,T,T,F,F,F,F,F,F,F,F] rfl rfl (any_of HT_.out (by kernel_rfl)) (fun _ _ _ h => h) (Or.inr ⟨by rfl, rfl⟩) ?_ ?_
        rotate_left
        ·simp only [Act.put, psl, i64_w, i32_w]
         rfl
        refine pure_ (i := 4) (N := some 44) (v := undef) (a' := ?_) #[T,T,T,T,T,F,F,F,F,F,F,F] rfl rfl (any_of HT_.out (by kernel_rfl)) (fun _ _ _ h => h) (Or.inr ⟨by rfl, rfl⟩) ?_ ?_
        rotate_left
        ·simp only [Act.put, psl, i64_w, i32_w]
         rfl
        refine pure_ (i := 5) (N := some 45) (v := undef) (a' := ?_) #[T,T,T,T,T,T,F,F,F,F,F,F] rfl rfl (any_of HT_.out (by kernel_rfl)) (fun _ _ _ h => h) (Or.inr ⟨by rfl, rfl⟩) ?_ ?_
        rotate_left
        ·simp only [Act.put, psl, i64_w, i32_w]
         rfl
        refine pure_ (i := 6) (N := some 46) (v := undef) (a' := ?_) #[T,T,T,T,T,T,T,F,F,F,F,F] rfl rfl (any_of HT_.out (by kernel_rfl)) (fun _ _ _ h => h) (Or.inr ⟨by rfl, rfl⟩) ?_ ?_
        rotate_left
        ·simp only [Act.put, psl, i64_w, i32_w]
         rfl
        refine pure_ (i := 7) (N := some 47) (v := undef) (a' := ?_) #[T,T,T,T,T,T,T,T,F,F,F,F] rfl rfl (any_of HT_.out (by kernel_rfl)) (fun _ _ _ h => h) (Or.inr ⟨by rfl, rfl⟩) ?_ ?_
        rotate_left
        ·simp only [Act.put, psl, i64_w, i32_w]
         rfl
        refine pure_ (i := 8) (N := some 48) (v := undef) (a' := ?_) #[T,T,T,T,T,T,T,T,T,F,F,F] rfl rfl (any_of HT_.out (by kernel_rfl)) (fun _ _ _ h => h) (Or.inr ⟨by rfl, rfl⟩) ?_ ?_
        rotate_left
        ·simp only [Act.put, psl, i64_w, i32_w]
         rfl
        refine pure_ (i := 9) (N := some 49) (v := undef) (a' := ?_) #[T,T,T,T,T,T,T,T,T,T,F,F] rfl rfl (any_of HT_.out (by kernel_rfl)) (fun _ _ _ h => h) (Or.inr ⟨by rfl, rfl⟩) ?_ ?_
        rotate_left
        ·simp only [Act.put, psl, i64_w, i32_w]
         rfl
        refine pure_ (i := 10) (N := some 50) (v := undef) (a' := ?_) #[T,T,T,T,T,T,T,T,T,T,T,F] rfl rfl (any_of HT_.out (by kernel_rfl)) (fun _ _ _ h => h) (Or.inr ⟨by rfl, rfl⟩) ?_ ?_
        rotate_left
        ·simp only [Act.put, psl, i64_w, i32_w]
         rfl
        refine pu (i := 11) (N := some 51) (fl 12 12 []) HT_ ?_
        refine done_ (done_of HT_.out (by kernel_rfl)) ?_
        try go_wp2
        go_meet
        case rel => exact ⟨_, (false), (by first | rfl | (simp; done) | (simp [*]; done)), H', ⟨by have := HK1.out; have := HK2.out; first | omega | exact Nat.le_refl _⟩, ⟨by (with_reducible repeat first | apply bN | apply bd | apply ba); exact BK570.out⟩, ⟨by (with_reducible repeat first | apply bN | apply bd | apply ba); exact BK571.out⟩, ⟨by repeat (first | (with_reducible first | exact HB.out | apply wa | apply wN | apply wd | refine ws ?_ GE570.out | refine ws ?_ GE571.out) | exact HB.out)⟩⟩
       subst c27
       have H1 : ((r_At.f a1_0 a1_1 a1_2 x5_1).bind fun t576 => ((r_At.f a0_3 a0_4 a0_5 x5_1).bind fun t577 => (r_Touch.j2 k2 x5_1 true (t576 == t577) a0_0 a0_1 a0_2 a0_3 a0_4 a0_5 a1_0 a1_1 a1_2 a1_3 a1_4 a1_5))) = some r := by rw [if_pos rfl] at H; exact H
       clear H
       have H := H1
       clear H1
       replace H := Option.bind_eq_some_iff.mp H
       obtain ⟨t576, A280, H⟩ := H
       replace H : ((r_At.f a0_3 a0_4 a0_5 x5_1).bind fun t577 => (r_Touch.j2 k2 x5_1 true (t576 == t577) a0_0 a0_1 a0_2 a0_3 a0_4 a0_5 a1_0 a1_1 a1_2 a1_3 a1_4 a1_5)) = some r := H
       have A28 := am A280
       clear A280
       replace H := Option.bind_eq_some_iff.mp H
       obtain ⟨t577, A290, H⟩ := H
       replace H : (r_Touch.j2 k2 x5_1 true (t576 == t577) a0_0 a0_1 a0_2 a0_3 a0_4 a0_5 a1_0 a1_1 a1_2 a1_3 a1_4 a1_5) = some r := H
       have A29 := am A290
       clear A290
       have H' := am H
       clear H
       try go_wp2
       have n0_ := am (bd BK570.out)
       have n1_ := am (bd BK571.out)
       have n2_ := am (wd HB.out)
       clear BK570 BK571 HB
       have BK570 := n0_
       have BK571 := n1_
       have HB := n2_
       clear n0_ n1_ n2_
       refine start_ (n := 12) (S := fun w' => w'.cell? ⟨gb571, 0, none⟩ = some (.int .i64 a1_0) ∧ w'.cell? ⟨gb571, 1, none⟩ = some (.int .i64 a1_1) ∧ w'.cell? ⟨gb571, 2, none⟩ = some (.int .i64 a1_2) ∧ w'.cell? ⟨gb571, 3, none⟩ = some (.int .i64 a1_3) ∧ w'.cell? ⟨gb571, 4, none⟩ = some (.int .i64 a1_4) ∧ w'.cell? ⟨gb571, 5, none⟩ = some (.int .i64 a1_5) ∧ w'.cell? ⟨gb570, 0, none⟩ = some (.int .i64 a0_0) ∧ w'.cell? ⟨gb570, 1, none⟩ = some (.int .i64 a0_1) ∧ w'.cell? ⟨gb570, 2, none⟩ = some (.int .i64 a0_2) ∧ w'.cell? ⟨gb570, 3, none⟩ = some (.int .i64 a0_3) ∧ w'.cell? ⟨gb570, 4, none⟩ = some (.int .i64 a0_4) ∧ w'.cell? ⟨gb570, 5, none⟩ = some (.int .i64 a0_5)) (ds := []) #[F,F,F,F,F,F,F,F,F,F,F,F] (by kernel_rfl) rfl rfl ⟨(bc BK571.out 0).trans rfl, (bc BK571.out 1).trans rfl, (bc BK571.out 2).trans rfl, (bc BK571.out 3).trans rfl, (bc BK571.out 4).trans rfl, (bc BK571.out 5).trans rfl, (bc BK570.out 0).trans rfl, (bc BK570.out 1).trans rfl, (bc BK570.out 2).trans rfl, (bc BK570.out 3).trans rfl, (bc BK570.out 4).trans rfl, (bc BK570.out 5).trans rfl⟩ (fun hHeld => ?_); refine with_tabW r_Touch.tab10 r_Touch.bits10 (fun HT_ HW_ => ?_)
       generalize wr.drew = w30 at BK570 BK571 HB hHeld ⊢
       refine pu (i := 0) (N := some 40) (fl 12 1 []) HT_ ?_
       refine pu (i := 1) (N := some 41) (fl 12 2 []) HT_ ?_
       refine pu (i := 2) (N := some 42) (fl 12 3 []) HT_ ?_
       refine pu (i := 4) (N := some 44) (fl 12 3 [4]) HT_ ?_
       refine pu (i := 6) (N := some 46) (fl 12 3 [4, 6]) HT_ ?_
       refine pu (i := 8) (N := some 48) (fl 12 3 [4, 6, 8]) HT_ ?_
       refine tk (i := 3) (N := some 43) (fl 12 5 [6, 8]) HT_ HW_ hHeld ?_
       refine tk (i := 7) (N := some 47) (fl 12 5 [6, 7, 8]) HT_ HW_ hHeld ?_
       refine one_ (i := 5) (N := some 45) (fl 12 9 []) rfl rfl (one_of HT_.out (by kernel_rfl)) (by decide) (fun K hK => ?_)
       refine goes_ Try.func59 (by kernel_rfl) rfl #[.agg #[.int .i64 a1_0, .int .i64 a1_1, .int .i64 a1_2], .int .i64 x5_1] (by rfl) rfl rfl (by (try simp only [pml]); first | done | rfl | (simp only [pdt]; rfl)) ?_
       with_reducible refine (r_At.calls a1_0 a1_1 a1_2 x5_1 t576 _ A28.out).mono ?_
       rintro e w31 ⟨rfl, hb⟩
       refine ⟨_, rfl, ?_⟩
       have n0_ := bB BK570 hb
       have n1_ := bB BK571 hb
       have n2_ := bS HB hb
       clear BK570 BK571 HB
       have BK570 := n0_
       have BK571 := n1_
       have HB := n2_
       clear n0_ n1_ n2_
       (try clear hb)
       (try clear hb2)
       (try clear hk)
       (try clear hi)
       refine hK.out _ _ ⟨(bc BK571.out 0).trans rfl, (bc BK571.out 1).trans rfl, (bc BK571.out 2).trans rfl, (bc BK571.out 3).trans rfl, (bc BK571.out 4).trans rfl, (bc BK571.out 5).trans rfl, (bc BK570.out 0).trans rfl, (bc BK570.out 1).trans rfl, (bc BK570.out 2).trans rfl, (bc BK570.out 3).trans rfl, (bc BK570.out 4).trans rfl, (bc BK570.out 5).trans rfl⟩ (fun hHeld => ?_)
       clear hK K
       refine norm_ (a' := ?_) ?_ ?_
       rotate_left
       ·show Act.put _ (some 45) _ = _
        simp only [Act.put, psl, i64_w, i32_w]
        rfl
       refine one_ (i := 9) (N := some 49) (fl 12 10 []) rfl rfl (one_of HT_.out (by kernel_rfl)) (by decide) (fun K hK => ?_)
       refine goes_ Try.func59 (by kernel_rfl) rfl #[.agg #[.int .i64 a0_3, .int .i64 a0_4, .int .i64 a0_5], .int .i64 x5_1] (by rfl) rfl rfl (by (try simp only [pml]); first | done | rfl | (simp only [pdt]; rfl)) ?_
       with_reducible refine (r_At.calls a0_3 a0_4 a0_5 x5_1 t577 _ A29.out).mono ?_
       rintro e w32 ⟨rfl, hb⟩
       refine ⟨_, rfl, ?_⟩
       have n0_ := bB BK570 hb
       have n1_ := bB BK571 hb
       have n2_ := bS HB hb
       clear BK570 BK571 HB
       have BK570 := n0_
       have BK571 := n1_
       have HB := n2_
       clear n0_ n1_ n2_
       (try clear hb)
       (try clear hb2)
       (try clear hk)
       (try clear hi)
       refine hK.out _ _ ⟨(bc BK571.out 0).trans rfl, (bc BK571.out 1).trans rfl, (bc BK571.out 2).trans rfl, (bc BK571.out 3).trans rfl, (bc BK571.out 4).trans rfl, (bc BK571.out 5).trans rfl, (bc BK570.out 0).trans rfl, (bc BK570.out 1).trans rfl, (bc BK570.out 2).trans rfl, (bc BK570.out 3).trans rfl, (bc BK570.out 4).trans rfl, (bc BK570.out 5).trans rfl⟩ (fun hHeld => ?_)
       clear hK K
       refine norm_ (a' := ?_) ?_ ?_
       rotate_left
       ·show Act.put _ (some 49) _ = _
        simp only [Act.put, psl, i64_w, i32_w]
        rfl
       refine pu (i := 10) (N := some 50) (fl 12 11 []) HT_ ?_
       refine pu (i := 11) (N := some 51) (fl 12 12 []) HT_ ?_
       refine done_ (done_of HT_.out (by kernel_rfl)) ?_
       try go_wp2
       go_meet
       case rel => exact ⟨_, ((t576 == t577)), (by first | rfl | (simp; done) | (simp [*]; done)), H', ⟨by have := HK1.out; have := HK2.out; first | omega | exact Nat.le_refl _⟩, ⟨by (with_reducible repeat first | apply bN | apply bd | apply ba); exact BK570.out⟩, ⟨by (with_reducible repeat first | apply bN | apply bd | apply ba); exact BK571.out⟩, ⟨by repeat (first | (with_reducible first | exact HB.out | apply wa | apply wN | apply wd | refine ws ?_ GE570.out | refine ws ?_ GE571.out) | exact HB.out)⟩⟩
      case rest =>
       clear HC26
       try clear c1;try clear c2;try clear p2;try clear c5;try clear c6;try clear c6b0;try clear p6;try clear c15;try clear c15b0;try clear c27
       obtain ⟨kq, x51_25, rfl, HA, HJ25, BK570, BK571, HB⟩ := hcut
       cases kq with
       | zero => exact absurd HA.out (by simp [r_Touch.j2])
       | succ kj25 =>
        have H := HA.out
        clear HA
        simp only [r_Touch.j2] at H
        by_cases c34 : x51_25 = true
        ·subst c34
         have H1 : (some (wrap64 (2 * x5_1))) = some r := by rw [if_pos rfl] at H; exact H
         clear H
         have H := H1
         clear H1
         obtain rfl := Option.some.inj H
         go_wp2
         go_ret
         exact ⟨by first | rfl | (simp [errW_none, errW_some] <;> rfl) | (simp [*, errW_none, errW_some] <;> rfl), by repeat (first | (with_reducible first | exact HB.out | apply wa | apply wN | apply wd | refine ws ?_ GE570.out | refine ws ?_ GE571.out) | exact HB.out)⟩
        replace c34 := Bool.eq_false_iff.mpr c34
        subst c34
        have H1 : (if x6_2 = true then ((r_At.f a1_3 a1_4 a1_5 x5_1).bind fun t578 => ((r_At.f a0_0 a0_1 a0_2 x5_1).bind fun t579 => (if t578 = t579 then (some (wrap64 ((wrap64 (2 * x5_1)) + 1))) else (r_Touch.l0 kj25 (wrap64 (x5_1 + 1)) a0_0 a0_1 a0_2 a0_3 a0_4 a0_5 a1_0 a1_1 a1_2 a1_3 a1_4 a1_5)))) else (r_Touch.l0 kj25 (wrap64 (x5_1 + 1)) a0_0 a0_1 a0_2 a0_3 a0_4 a0_5 a1_0 a1_1 a1_2 a1_3 a1_4 a1_5)) = some r := by rw [if_neg (show ¬ (false = true) by decide)] at H; exact H
        clear H
        have H := H1
        clear H1
        by_cases c35 : x6_2 = true
        rotate_left
        ·replace c35 := Bool.eq_false_iff.mpr c35
         subst c35
         have H1 : (r_Touch.l0 kj25 (wrap64 (x5_1 + 1)) a0_0 a0_1 a0_2 a0_3 a0_4 a0_5 a1_0 a1_1 a1_2 a1_3 a1_4 a1_5) = some r := by rw [if_neg (show ¬ (false = true) by decide)] at H; exact H
         clear H
         have H := H1
         clear H1
         have H' := am H
         clear H
         try go_wp2
         have n0_ := am (bd BK570.out)
         have n1_ := am (bd BK571.out)
         have n2_ := am (wd HB.out)
         clear BK570 BK571 HB
         have BK570 := n0_
         have BK571 := n1_
         have HB := n2_
         clear n0_ n1_ n2_
         refine start_ (n := 12) (S := fun w' => True) (ds := []) #[F,F,F,F,F,F,F,F,F,F,F,F] (by kernel_rfl) rfl rfl trivial (fun hHeld => ?_); refine with_tabW r_Touch.tab12 r_Touch.bits12 (fun HT_ HW_ => ?_)
         generalize wc.drew = w45 at BK570 BK571 HB hHeld ⊢
         refine pu (i := 0) (N := some 54) (fl 12 1 []) HT_ ?_
         refine pu (i := 1) (N := some 55) (fl 12 2 []) HT_ ?_
         refine pure_ (i := 2) (N := some 56) (v := undef) (a' := ?_) #[T,T,T,F,F,F,F,F,F,F,F,F] rfl rfl (any_of HT_.out (by kernel_rfl)) (fun _ _ _ h => h) (Or.inr ⟨by rfl, rfl⟩) ?_ ?_
         rotate_left
         ·simp only [Act.put, psl, i64_w, i32_w]
          rfl
         refine pure_ (i := 3) (N := some 57) (v := undef) (a' := ?_) #[T,T,T,T,F,F,F,F,F,F,F,F] rfl rfl (any_of HT_.out (by kernel_rfl)) (fun _ _ _ h => h) (Or.inr ⟨by rfl, rfl⟩) ?_ ?_
         rotate_left
         ·simp only [Act.put, psl, i64_w, i32_w]
          rfl
         refine pure_ (i := 4) (N := some 58) (v := undef) (a' := ?_) #[T,T,T,T,T,F,F,F,F,F,F,F] rfl rfl (any_of HT_.out (by kernel_rfl)) (fun _ _ _ h => h) (Or.inr ⟨by rfl, rfl⟩) ?_ ?_
         rotate_left
         ·simp only [Act.put, psl, i64_w, i32_w]
          rfl
         refine pure_ (i := 5) (N := some 59) (v := undef) (a' := ?_) #[T,T,T,T,T,T,F,F,F,F,F,F] rfl rfl (any_of HT_.out (by kernel_rfl)) (fun _ _ _ h => h) (Or.inr ⟨by rfl, rfl⟩) ?_ ?_
         rotate_left
         ·simp only [Act.put, psl, i64_w, i32_w]
          rfl
         refine pure_ (i := 6) (N := some 60) (v := undef) (a' := ?_) #[T,T,T,T,T,T,T,F,F,F,F,F] rfl rfl (any_of HT_.out (by kernel_rfl)) (fun _ _ _ h => h) (Or.inr ⟨by rfl, rfl⟩) ?_ ?_
         rotate_left
         ·simp only [Act.put, psl, i64_w, i32_w]
          rfl
         refine pure_ (i := 7) (N := some 61) (v := undef) (a' := ?_) #[T,T,T,T,T,T,T,T,F,F,F,F] rfl rfl (any_of HT_.out (by kernel_rfl)) (fun _ _ _ h => h) (Or.inr ⟨by rfl, rfl⟩) ?_ ?_
         rotate_left
         ·simp only [Act.put, psl, i64_w, i32_w]
          rfl
         refine pure_ (i := 8) (N := some 62) (v := undef) (a' := ?_) #[T,T,T,T,T,T,T,T,T,F,F,F] rfl rfl (any_of HT_.out (by kernel_rfl)) (fun _ _ _ h => h) (Or.inr ⟨by rfl, rfl⟩) ?_ ?_
         rotate_left
         ·simp only [Act.put, psl, i64_w, i32_w]
          rfl
         refine pure_ (i := 9) (N := some 63) (v := undef) (a' := ?_) #[T,T,T,T,T,T,T,T,T,T,F,F] rfl rfl (any_of HT_.out (by kernel_rfl)) (fun _ _ _ h => h) (Or.inr ⟨by rfl, rfl⟩) ?_ ?_
         rotate_left
         ·simp only [Act.put, psl, i64_w, i32_w]
          rfl
         refine pure_ (i := 10) (N := some 64) (v := undef) (a' := ?_) #[T,T,T,T,T,T,T,T,T,T,T,F] rfl rfl (any_of HT_.out (by kernel_rfl)) (fun _ _ _ h => h) (Or.inr ⟨by rfl, rfl⟩) ?_ ?_
         rotate_left
         ·simp only [Act.put, psl, i64_w, i32_w]
          rfl
         refine pu (i := 11) (N := some 65) (fl 12 12 []) HT_ ?_
         refine done_ (done_of HT_.out (by kernel_rfl)) ?_
         try go_wp2
         go_roundg kj25
         case measure => have := HK1.out; have := HK2.out; have := HJ25.out; omega
         case rel => exact ⟨(wrap64 (x5_1 + 1)), (by first | rfl | (simp; done) | (simp [*]; done)), H', ⟨by have := HK1.out; have := HK2.out; have := HJ25.out; omega⟩, ⟨by (with_reducible repeat first | apply bN | apply bd | apply ba); exact BK570.out⟩, ⟨by (with_reducible repeat first | apply bN | apply bd | apply ba); exact BK571.out⟩, ⟨by repeat (first | (with_reducible first | exact HB.out | apply wa | apply wN | apply wd | refine ws ?_ GE570.out | refine ws ?_ GE571.out) | exact HB.out)⟩⟩
        subst c35
        have H1 : ((r_At.f a1_3 a1_4 a1_5 x5_1).bind fun t578 => ((r_At.f a0_0 a0_1 a0_2 x5_1).bind fun t579 => (if t578 = t579 then (some (wrap64 ((wrap64 (2 * x5_1)) + 1))) else (r_Touch.l0 kj25 (wrap64 (x5_1 + 1)) a0_0 a0_1 a0_2 a0_3 a0_4 a0_5 a1_0 a1_1 a1_2 a1_3 a1_4 a1_5)))) = some r := by rw [if_pos rfl] at H; exact H
        clear H
        have H := H1
        clear H1
        replace H := Option.bind_eq_some_iff.mp H
        obtain ⟨t578, A360, H⟩ := H
        replace H : ((r_At.f a0_0 a0_1 a0_2 x5_1).bind fun t579 => (if t578 = t579 then (some (wrap64 ((wrap64 (2 * x5_1)) + 1))) else (r_Touch.l0 kj25 (wrap64 (x5_1 + 1)) a0_0 a0_1 a0_2 a0_3 a0_4 a0_5 a1_0 a1_1 a1_2 a1_3 a1_4 a1_5))) = some r := H
        have A36 := am A360
        clear A360
        replace H := Option.bind_eq_some_iff.mp H
        obtain ⟨t579, A370, H⟩ := H
        replace H : (if t578 = t579 then (some (wrap64 ((wrap64 (2 * x5_1)) + 1))) else (r_Touch.l0 kj25 (wrap64 (x5_1 + 1)) a0_0 a0_1 a0_2 a0_3 a0_4 a0_5 a1_0 a1_1 a1_2 a1_3 a1_4 a1_5)) = some r := H
        have A37 := am A370
        clear A370
        by_cases c38 : t578 = t579
        ·rw [if_pos c38] at H
         have c38b0 : (t578 == t579) = true := beq_iff_eq.mpr c38
         have c38b1 : (t578 != t579) = false := bne_eq_false_iff_eq.mpr c38
         clear c38
         obtain rfl := Option.some.inj H
         try go_wp2
         have n0_ := am (bd BK570.out)
         have n1_ := am (bd BK571.out)
         have n2_ := am (wd HB.out)
         clear BK570 BK571 HB
         have BK570 := n0_
         have BK571 := n1_
         have HB := n2_
         clear n0_ n1_ n2_
         refine start_ (n := 12) (S := fun w' => w'.cell? ⟨gb571, 0, none⟩ = some (.int .i64 a1_0) ∧ w'.cell? ⟨gb571, 1, none⟩ = some (.int .i64 a1_1) ∧ w'.cell? ⟨gb571, 2, none⟩ = some (.int .i64 a1_2) ∧ w'.cell? ⟨gb571, 3, none⟩ = some (.int .i64 a1_3) ∧ w'.cell? ⟨gb571, 4, none⟩ = some (.int .i64 a1_4) ∧ w'.cell? ⟨gb571, 5, none⟩ = some (.int .i64 a1_5) ∧ w'.cell? ⟨gb570, 0, none⟩ = some (.int .i64 a0_0) ∧ w'.cell? ⟨gb570, 1, none⟩ = some (.int .i64 a0_1) ∧ w'.cell? ⟨gb570, 2, none⟩ = some (.int .i64 a0_2) ∧ w'.cell? ⟨gb570, 3, none⟩ = some (.int .i64 a0_3) ∧ w'.cell? ⟨gb570, 4, none⟩ = some (.int .i64 a0_4) ∧ w'.cell? ⟨gb570, 5, none⟩ = some (.int .i64 a0_5)) (ds := []) #[F,F,F,F,F,F,F,F,F,F,F,F] (by kernel_rfl) rfl rfl ⟨(bc BK571.out 0).trans rfl, (bc BK571.out 1).trans rfl, (bc BK571.out 2).trans rfl, (bc BK571.out 3).trans rfl, (bc BK571.out 4).trans rfl, (bc BK571.out 5).trans rfl, (bc BK570.out 0).trans rfl, (bc BK570.out 1).trans rfl, (bc BK570.out 2).trans rfl, (bc BK570.out 3).trans rfl, (bc BK570.out 4).trans rfl, (bc BK570.out 5).trans rfl⟩ (fun hHeld => ?_); refine with_tabW r_Touch.tab12 r_Touch.bits12 (fun HT_ HW_ => ?_)
         generalize wc.drew = w39 at BK570 BK571 HB hHeld ⊢
         refine pu (i := 0) (N := some 54) (fl 12 1 []) HT_ ?_
         refine pu (i := 1) (N := some 55) (fl 12 2 []) HT_ ?_
         refine pu (i := 2) (N := some 56) (fl 12 3 []) HT_ ?_
         refine pu (i := 4) (N := some 58) (fl 12 3 [4]) HT_ ?_
         refine pu (i := 6) (N := some 60) (fl 12 3 [4, 6]) HT_ ?_
         refine pu (i := 8) (N := some 62) (fl 12 3 [4, 6, 8]) HT_ ?_
         refine tk (i := 3) (N := some 57) (fl 12 5 [6, 8]) HT_ HW_ hHeld ?_
         refine tk (i := 7) (N := some 61) (fl 12 5 [6, 7, 8]) HT_ HW_ hHeld ?_
         refine one_ (i := 5) (N := some 59) (fl 12 9 []) rfl rfl (one_of HT_.out (by kernel_rfl)) (by decide) (fun K hK => ?_)
         refine goes_ Try.func59 (by kernel_rfl) rfl #[.agg #[.int .i64 a1_3, .int .i64 a1_4, .int .i64 a1_5], .int .i64 x5_1] (by rfl) rfl rfl (by (try simp only [pml]); first | done | rfl | (simp only [pdt]; rfl)) ?_
         with_reducible refine (r_At.calls a1_3 a1_4 a1_5 x5_1 t578 _ A36.out).mono ?_
         rintro e w40 ⟨rfl, hb⟩
         refine ⟨_, rfl, ?_⟩
         have n0_ := bB BK570 hb
         have n1_ := bB BK571 hb
         have n2_ := bS HB hb
         clear BK570 BK571 HB
         have BK570 := n0_
         have BK571 := n1_
         have HB := n2_
         clear n0_ n1_ n2_
         (try clear hb)
         (try clear hb2)
         (try clear hk)
         (try clear hi)
         refine hK.out _ _ ⟨(bc BK571.out 0).trans rfl, (bc BK571.out 1).trans rfl, (bc BK571.out 2).trans rfl, (bc BK571.out 3).trans rfl, (bc BK571.out 4).trans rfl, (bc BK571.out 5).trans rfl, (bc BK570.out 0).trans rfl, (bc BK570.out 1).trans rfl, (bc BK570.out 2).trans rfl, (bc BK570.out 3).trans rfl, (bc BK570.out 4).trans rfl, (bc BK570.out 5).trans rfl⟩ (fun hHeld => ?_)
         clear hK K
         refine norm_ (a' := ?_) ?_ ?_
         rotate_left
         ·show Act.put _ (some 59) _ = _
          simp only [Act.put, psl, i64_w, i32_w]
          rfl
         refine one_ (i := 9) (N := some 63) (fl 12 10 []) rfl rfl (one_of HT_.out (by kernel_rfl)) (by decide) (fun K hK => ?_)
         refine goes_ Try.func59 (by kernel_rfl) rfl #[.agg #[.int .i64 a0_0, .int .i64 a0_1, .int .i64 a0_2], .int .i64 x5_1] (by rfl) rfl rfl (by (try simp only [pml]); first | done | rfl | (simp only [pdt]; rfl)) ?_
         with_reducible refine (r_At.calls a0_0 a0_1 a0_2 x5_1 t579 _ A37.out).mono ?_
         rintro e w41 ⟨rfl, hb⟩
         refine ⟨_, rfl, ?_⟩
         have n0_ := bB BK570 hb
         have n1_ := bB BK571 hb
         have n2_ := bS HB hb
         clear BK570 BK571 HB
         have BK570 := n0_
         have BK571 := n1_
         have HB := n2_
         clear n0_ n1_ n2_
         (try clear hb)
         (try clear hb2)
         (try clear hk)
         (try clear hi)
         refine hK.out _ _ ⟨(bc BK571.out 0).trans rfl, (bc BK571.out 1).trans rfl, (bc BK571.out 2).trans rfl, (bc BK571.out 3).trans rfl, (bc BK571.out 4).trans rfl, (bc BK571.out 5).trans rfl, (bc BK570.out 0).trans rfl, (bc BK570.out 1).trans rfl, (bc BK570.out 2).trans rfl, (bc BK570.out 3).trans rfl, (bc BK570.out 4).trans rfl, (bc BK570.out 5).trans rfl⟩ (fun hHeld => ?_)
         clear hK K
         refine norm_ (a' := ?_) ?_ ?_
         rotate_left
         ·show Act.put _ (some 63) _ = _
          simp only [Act.put, psl, i64_w, i32_w]
          rfl
         refine pu (i := 10) (N := some 64) (fl 12 11 []) HT_ ?_
         refine pu (i := 11) (N := some 65) (fl 12 12 []) HT_ ?_
         refine done_ (done_of HT_.out (by kernel_rfl)) ?_
         try go_wp2
         go_ret
         exact ⟨by first | rfl | (simp [errW_none, errW_some] <;> rfl) | (simp [*, errW_none, errW_some] <;> rfl), by repeat (first | (with_reducible first | exact HB.out | apply wa | apply wN | apply wd | refine ws ?_ GE570.out | refine ws ?_ GE571.out) | exact HB.out)⟩
        rw [if_neg c38] at H
        have c38b0 : (t578 == t579) = false := beq_eq_false_iff_ne.mpr c38
        have c38b1 : (t578 != t579) = true := bne_iff_ne.mpr c38
        have H' := am H
        clear H
        try go_wp2
        have n0_ := am (bd BK570.out)
        have n1_ := am (bd BK571.out)
        have n2_ := am (wd HB.out)
        clear BK570 BK571 HB
        have BK570 := n0_
        have BK571 := n1_
        have HB := n2_
        clear n0_ n1_ n2_
        refine start_ (n := 12) (S := fun w' => w'.cell? ⟨gb571, 0, none⟩ = some (.int .i64 a1_0) ∧ w'.cell? ⟨gb571, 1, none⟩ = some (.int .i64 a1_1) ∧ w'.cell? ⟨gb571, 2, none⟩ = some (.int .i64 a1_2) ∧ w'.cell? ⟨gb571, 3, none⟩ = some (.int .i64 a1_3) ∧ w'.cell? ⟨gb571, 4, none⟩ = some (.int .i64 a1_4) ∧ w'.cell? ⟨gb571, 5, none⟩ = some (.int .i64 a1_5) ∧ w'.cell? ⟨gb570, 0, none⟩ = some (.int .i64 a0_0) ∧ w'.cell? ⟨gb570, 1, none⟩ = some (.int .i64 a0_1) ∧ w'.cell? ⟨gb570, 2, none⟩ = some (.int .i64 a0_2) ∧ w'.cell? ⟨gb570, 3, none⟩ = some (.int .i64 a0_3) ∧ w'.cell? ⟨gb570, 4, none⟩ = some (.int .i64 a0_4) ∧ w'.cell? ⟨gb570, 5, none⟩ = some (.int .i64 a0_5)) (ds := []) #[F,F,F,F,F,F,F,F,F,F,F,F] (by kernel_rfl) rfl rfl ⟨(bc BK571.out 0).trans rfl, (bc BK571.out 1).trans rfl, (bc BK571.out 2).trans rfl, (bc BK571.out 3).trans rfl, (bc BK571.out 4).trans rfl, (bc BK571.out 5).trans rfl, (bc BK570.out 0).trans rfl, (bc BK570.out 1).trans rfl, (bc BK570.out 2).trans rfl, (bc BK570.out 3).trans rfl, (bc BK570.out 4).trans rfl, (bc BK570.out 5).trans rfl⟩ (fun hHeld => ?_); refine with_tabW r_Touch.tab12 r_Touch.bits12 (fun HT_ HW_ => ?_)
        generalize wc.drew = w42 at BK570 BK571 HB hHeld ⊢
        refine pu (i := 0) (N := some 54) (fl 12 1 []) HT_ ?_
        refine pu (i := 1) (N := some 55) (fl 12 2 []) HT_ ?_
        refine pu (i := 2) (N := some 56) (fl 12 3 []) HT_ ?_
        refine pu (i := 4) (N := some 58) (fl 12 3 [4]) HT_ ?_
        refine pu (i := 6) (N := some 60) (fl 12 3 [4, 6]) HT_ ?_
        refine pu (i := 8) (N := some 62) (fl 12 3 [4, 6, 8]) HT_ ?_
        refine tk (i := 3) (N := some 57) (fl 12 5 [6, 8]) HT_ HW_ hHeld ?_
        refine tk (i := 7) (N := some 61) (fl 12 5 [6, 7, 8]) HT_ HW_ hHeld ?_
        refine one_ (i := 5) (N := some 59) (fl 12 9 []) rfl rfl (one_of HT_.out (by kernel_rfl)) (by decide) (fun K hK => ?_)
        refine goes_ Try.func59 (by kernel_rfl) rfl #[.agg #[.int .i64 a1_3, .int .i64 a1_4, .int .i64 a1_5], .int .i64 x5_1] (by rfl) rfl rfl (by (try simp only [pml]); first | done | rfl | (simp only [pdt]; rfl)) ?_
        with_reducible refine (r_At.calls a1_3 a1_4 a1_5 x5_1 t578 _ A36.out).mono ?_
        rintro e w43 ⟨rfl, hb⟩
        refine ⟨_, rfl, ?_⟩
        have n0_ := bB BK570 hb
        have n1_ := bB BK571 hb
        have n2_ := bS HB hb
        clear BK570 BK571 HB
        have BK570 := n0_
        have BK571 := n1_
        have HB := n2_
        clear n0_ n1_ n2_
        (try clear hb)
        (try clear hb2)
        (try clear hk)
        (try clear hi)
        refine hK.out _ _ ⟨(bc BK571.out 0).trans rfl, (bc BK571.out 1).trans rfl, (bc BK571.out 2).trans rfl, (bc BK571.out 3).trans rfl, (bc BK571.out 4).trans rfl, (bc BK571.out 5).trans rfl, (bc BK570.out 0).trans rfl, (bc BK570.out 1).trans rfl, (bc BK570.out 2).trans rfl, (bc BK570.out 3).trans rfl, (bc BK570.out 4).trans rfl, (bc BK570.out 5).trans rfl⟩ (fun hHeld => ?_)
        clear hK K
        refine norm_ (a' := ?_) ?_ ?_
        rotate_left
        ·show Act.put _ (some 59) _ = _
         simp only [Act.put, psl, i64_w, i32_w]
         rfl
        refine one_ (i := 9) (N := some 63) (fl 12 10 []) rfl rfl (one_of HT_.out (by kernel_rfl)) (by decide) (fun K hK => ?_)
        refine goes_ Try.func59 (by kernel_rfl) rfl #[.agg #[.int .i64 a0_0, .int .i64 a0_1, .int .i64 a0_2], .int .i64 x5_1] (by rfl) rfl rfl (by (try simp only [pml]); first | done | rfl | (simp only [pdt]; rfl)) ?_
        with_reducible refine (r_At.calls a0_0 a0_1 a0_2 x5_1 t579 _ A37.out).mono ?_
        rintro e w44 ⟨rfl, hb⟩
        refine ⟨_, rfl, ?_⟩
        have n0_ := bB BK570 hb
        have n1_ := bB BK571 hb
        have n2_ := bS HB hb
        clear BK570 BK571 HB
        have BK570 := n0_
        have BK571 := n1_
        have HB := n2_
        clear n0_ n1_ n2_
        (try clear hb)
        (try clear hb2)
        (try clear hk)
        (try clear hi)
        refine hK.out _ _ ⟨(bc BK571.out 0).trans rfl, (bc BK571.out 1).trans rfl, (bc BK571.out 2).trans rfl, (bc BK571.out 3).trans rfl, (bc BK571.out 4).trans rfl, (bc BK571.out 5).trans rfl, (bc BK570.out 0).trans rfl, (bc BK570.out 1).trans rfl, (bc BK570.out 2).trans rfl, (bc BK570.out 3).trans rfl, (bc BK570.out 4).trans rfl, (bc BK570.out 5).trans rfl⟩ (fun hHeld => ?_)
        clear hK K
        refine norm_ (a' := ?_) ?_ ?_
        rotate_left
        ·show Act.put _ (some 63) _ = _
         simp only [Act.put, psl, i64_w, i32_w]
         rfl
        refine pu (i := 10) (N := some 64) (fl 12 11 []) HT_ ?_
        refine pu (i := 11) (N := some 65) (fl 12 12 []) HT_ ?_
        refine done_ (done_of HT_.out (by kernel_rfl)) ?_
        try go_wp2
        go_roundg kj25
        case measure => have := HK1.out; have := HK2.out; have := HJ25.out; omega
        case rel => exact ⟨(wrap64 (x5_1 + 1)), (by first | rfl | (simp; done) | (simp [*]; done)), H', ⟨by have := HK1.out; have := HK2.out; have := HJ25.out; omega⟩, ⟨by (with_reducible repeat first | apply bN | apply bd | apply ba); exact BK570.out⟩, ⟨by (with_reducible repeat first | apply bN | apply bd | apply ba); exact BK571.out⟩, ⟨by repeat (first | (with_reducible first | exact HB.out | apply wa | apply wN | apply wd | refine ws ?_ GE570.out | refine ws ?_ GE571.out) | exact HB.out)⟩⟩
   ·rw [if_neg c5] at H
    have c5b0 : decide (x5_1 < 3) = false := decide_eq_false c5
    clear c5
    obtain rfl := Option.some.inj H
    go_wp2
    go_ret
    exact ⟨by first | rfl | (simp [errW_none, errW_some] <;> rfl) | (simp [*, errW_none, errW_some] <;> rfl), by repeat (first | (with_reducible first | exact HB.out | apply wa | apply wN | apply wd | refine ws ?_ GE570.out | refine ws ?_ GE571.out) | exact HB.out)⟩

end Go.Proofs.Ytmmdikhmlmoolaa.QA
