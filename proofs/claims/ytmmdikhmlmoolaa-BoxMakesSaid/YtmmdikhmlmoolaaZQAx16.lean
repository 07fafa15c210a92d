import Derived.Test.YtmmdikhmlmoolaaZQAx0
import Derived.Test.YtmmdikhmlmoolaaZQAx15
namespace Go.Proofs.Ytmmdikhmlmoolaa.QA
open Go.RowKit Go.Proofs.YtmmdikhmlmoolaaW.PrintWords Go.Proofs.YtmmdikhmlmoolaaW.PrintLast Go.Proofs.YtmmdikhmlmoolaaW.PrintMore
open Go.Proofs.YtmmdikhmlmoolaaW.PrintWords renaming blk_cell → bc
open Aside0 renaming mk → am
attribute [local go_sem] max2_int min2_int max_two min_two max_three min_three max_four min_four
set_option linter.unusedVariables false
set_option linter.unusedSimpArgs false

mutual
def r_Check.l0 : Nat → Int → Int → Int → Int → Int → Int → Int → Option (Int)
 | 0, _, _, _, _, _, _, _ => none
 | k + 1, x3, x375000, x375001, x375002, x375003, x375004, x375005 => if x3 < 3 then ((r_At.f x375000 x375001 x375002 x3).bind fun t375 => ((r_At.f x375003 x375004 x375005 x3).bind fun t376 => (if t375 < (-1000000) then (r_Check.j1 k x3 true x375000 x375001 x375002 x375003 x375004 x375005) else (if t375 > 1000000 then (r_Check.j1 k x3 true x375000 x375001 x375002 x375003 x375004 x375005) else (if t376 < (-1000000) then (r_Check.j1 k x3 true x375000 x375001 x375002 x375003 x375004 x375005) else (r_Check.j1 k x3 (decide (t376 > 1000000)) x375000 x375001 x375002 x375003 x375004 x375005)))))) else (r_Check.l1 k 0 x375000 x375001 x375002 x375003 x375004 x375005)
def r_Check.j1 : Nat → Int → Bool → Int → Int → Int → Int → Int → Int → Option (Int)
 | 0, _, _, _, _, _, _, _, _ => none
 | k + 1, x3, x32, x375000, x375001, x375002, x375003, x375004, x375005 => if x32 = true then (some 6) else (r_Check.l0 k (wrap64 (x3 + 1)) x375000 x375001 x375002 x375003 x375004 x375005)
def r_Check.l1 : Nat → Int → Int → Int → Int → Int → Int → Int → Option (Int)
 | 0, _, _, _, _, _, _, _ => none
 | k + 1, x6, x375000, x375001, x375002, x375003, x375004, x375005 => if x6 < 3 then ((r_At.f x375000 x375001 x375002 x6).bind fun t377 => ((r_At.f x375003 x375004 x375005 x6).bind fun t378 => (if t377 ≥ t378 then (some 1) else (r_Check.l1 k (wrap64 (x6 + 1)) x375000 x375001 x375002 x375003 x375004 x375005)))) else (some 0)
end
def r_Check.f (k : Nat) (a0_0 : Int) (a0_1 : Int) (a0_2 : Int) (a0_3 : Int) (a0_4 : Int) (a0_5 : Int) : Option (Int) := r_Check.l0 k 0 a0_0 a0_1 a0_2 a0_3 a0_4 a0_5
def r_Check.T4 : Bool × List (List Nat × List Nat) := (true, [([], []), ([0], [0]), ([], []), ([1, 2], [1, 2]), ([], []), ([4], [4]), ([], []), ([5, 6, 3], [5, 6]), ([3, 7, 0, 1, 2, 3], [3]), ([7, 8, 0, 1, 2, 3, 4, 5, 6, 7, 8], [7])])
def r_Check.B4 : List Nat := [0, 1, 0, 7, 0, 16, 0, 127, 255, 511]
theorem r_Check.tab4 : rtab .any (opsOf Try.f19 4) = r_Check.T4 := by kernel_rfl
theorem r_Check.bits4 : waitsOk r_Check.T4.2 r_Check.B4 = true := by kernel_rfl
def r_Check.T10 : Bool × List (List Nat × List Nat) := (true, [([], []), ([0], [0]), ([], []), ([1, 2], [1, 2]), ([], []), ([4], [4]), ([], []), ([5, 6, 3], [5, 6]), ([3, 7], [3, 7])])
def r_Check.B10 : List Nat := [0, 1, 0, 7, 0, 16, 0, 127, 255]
theorem r_Check.tab10 : rtab .any (opsOf Try.f19 10) = r_Check.T10 := by kernel_rfl
theorem r_Check.bits10 : waitsOk r_Check.T10.2 r_Check.B10 = true := by kernel_rfl
set_option maxHeartbeats 8000000 in
set_option maxRecDepth 100000 in
theorem r_Check.calls (k : Nat) (a0_0 : Int) (a0_1 : Int) (a0_2 : Int) (a0_3 : Int) (a0_4 : Int) (a0_5 : Int) (r : Int) (w : World) (h : r_Check.f k a0_0 a0_1 a0_2 a0_3 a0_4 a0_5 = some r) :
  Calls Try.prog 19 #[.agg #[.int .i64 a0_0, .int .i64 a0_1, .int .i64 a0_2, .int .i64 a0_3, .int .i64 a0_4, .int .i64 a0_5]] w fun e w' => e = .returned (.int .i64 r) ∧ Below w.heap.size w w' := by
 have hu25 := Try.underlying25
 have hu23 := Try.underlying23
 have HB := am (Below.refl w.heap.size w)
 have H : (r_Check.l0 k 0 a0_0 a0_1 a0_2 a0_3 a0_4 a0_5) = some r := h
 clear h
 have H' := am H
 clear H
 go_enter Try.func19, Try.ntmps19
 go_wp2_with (first | ((with_reducible refine gate_dst (N := 1) rfl ?_); refine box_event ?hg (N := 1) ?hd (cs := #[.int .i64 a0_0, .int .i64 a0_1, .int .i64 a0_2, .int .i64 a0_3, .int .i64 a0_4, .int .i64 a0_5]) (t := 25) ?hr ?_; (case hd | hg => rfl); (case hr => first | (go_simp; done) | (go_simp; rfl)); intro gb374 hg w2 hbox hb; have BK374 := am hbox; have GW374 := sG HB hg; have GE374 := sG HB hg; replace HB := bS HB hb; clear hb hbox hg))
 go_loopg [3] k (fun kq v3 w' => ∃ (x3_1 : Int), v3 = .int .i64 x3_1 ∧ Aside0 (r_Check.l0 kq x3_1 a0_0 a0_1 a0_2 a0_3 a0_4 a0_5 = some r) ∧ Aside0 (kq ≤ k) ∧ Aside0 (w'.heap[gb374]? = some (.cells #[.int .i64 a0_0, .int .i64 a0_1, .int .i64 a0_2, .int .i64 a0_3, .int .i64 a0_4, .int .i64 a0_5] 25 (0, 0))) ∧ Aside0 (Below w.heap.size w w'))
 case atStart => exact ⟨(0), sqD, H', ⟨Nat.le_refl _⟩, ⟨fb BK374.out⟩, ⟨fW HB.out⟩⟩
 case round =>
  clear H'
  try clear c1;try clear p2
  obtain ⟨x3_1, rfl, HA, HK1, BK374, HB⟩ := hrel
  cases gk with
  | zero => exact absurd HA.out (by simp [r_Check.l0])
  | succ k1 =>
   have H := HA.out
   clear HA
   simp only [r_Check.l0] at H
   by_cases c3 : x3_1 < 3
   ·rw [if_pos c3] at H
    have c3b0 : decide (x3_1 < 3) = true := decide_eq_true c3
    clear c3
    replace H := Option.bind_eq_some_iff.mp H
    obtain ⟨t375, A40, H⟩ := H
    replace H : ((r_At.f a0_3 a0_4 a0_5 x3_1).bind fun t376 => (if t375 < (-1000000) then (r_Check.j1 k1 x3_1 true a0_0 a0_1 a0_2 a0_3 a0_4 a0_5) else (if t375 > 1000000 then (r_Check.j1 k1 x3_1 true a0_0 a0_1 a0_2 a0_3 a0_4 a0_5) else (if t376 < (-1000000) then (r_Check.j1 k1 x3_1 true a0_0 a0_1 a0_2 a0_3 a0_4 a0_5) else (r_Check.j1 k1 x3_1 (decide (t376 > 1000000)) a0_0 a0_1 a0_2 a0_3 a0_4 a0_5))))) = some r := H
    have A4 := am A40
    clear A40
    replace H := Option.bind_eq_some_iff.mp H
    obtain ⟨t376, A50, H⟩ := H
    replace H : (if t375 < (-1000000) then (r_Check.j1 k1 x3_1 true a0_0 a0_1 a0_2 a0_3 a0_4 a0_5) else (if t375 > 1000000 then (r_Check.j1 k1 x3_1 true a0_0 a0_1 a0_2 a0_3 a0_4 a0_5) else (if t376 < (-1000000) then (r_Check.j1 k1 x3_1 true a0_0 a0_1 a0_2 a0_3 a0_4 a0_5) else (r_Check.j1 k1 x3_1 (decide (t376 > 1000000)) a0_0 a0_1 a0_2 a0_3 a0_4 a0_5)))) = some r := H
    have A5 := am A50
    clear A50
    have HC6 := am H
    clear H
    try go_wp2
    have n0_ := am (blk_drew BK374.out)
    have n1_ := am (below_drew1 HB.out)
    clear BK374 HB
    have BK374 := n0_
    have HB := n1_
    clear n0_ n1_
    refine start_ (n := 10) (S := fun w' => w'.cell? ⟨gb374, 0, none⟩ = some (.int .i64 a0_0) ∧ w'.cell? ⟨gb374, 1, none⟩ = some (.int .i64 a0_1) ∧ w'.cell? ⟨gb374, 2, none⟩ = some (.int .i64 a0_2) ∧ w'.cell? ⟨gb374, 3, none⟩ = some (.int .i64 a0_3) ∧ w'.cell? ⟨gb374, 4, none⟩ = some (.int .i64 a0_4) ∧ w'.cell? ⟨gb374, 5, none⟩ = some (.int .i64 a0_5)) (ds := []) #[F,F,F,F,F,F,F,F,F,F] (by kernel_rfl) rfl rfl ⟨(bc BK374.out 0).trans rfl, (bc BK374.out 1).trans rfl, (bc BK374.out 2).trans rfl, (bc BK374.out 3).trans rfl, (bc BK374.out 4).trans rfl, (bc BK374.out 5).trans rfl⟩ (fun hHeld => ?_); refine with_tabW r_Check.tab4 r_Check.bits4 (fun HT_ HW_ => ?_)
    generalize wr.drew = w7 at BK374 HB hHeld ⊢
    refine pu (i := 0) (N := some 11) (fl 10 1 []) HT_ ?_
    refine pu (i := 2) (N := some 13) (fl 10 1 [2]) HT_ ?_
    refine pu (i := 4) (N := some 15) (fl 10 1 [2, 4]) HT_ ?_
    refine pu (i := 6) (N := some 17) (fl 10 1 [2, 4, 6]) HT_ ?_
    refine tk (i := 1) (N := some 12) (fl 10 3 [4, 6]) HT_ HW_ hHeld ?_
    refine tk (i := 5) (N := some 16) (fl 10 3 [4, 5, 6]) HT_ HW_ hHeld ?_
    refine one_ (i := 3) (N := some 14) (fl 10 7 []) rfl rfl (one_of HT_.out (by kernel_rfl)) (by decide) (fun K hK => ?_)
    refine goes_ Try.func59 (by kernel_rfl) rfl #[.agg #[.int .i64 a0_0, .int .i64 a0_1, .int .i64 a0_2], .int .i64 x3_1] (by rfl) rfl rfl (by (try simp only [pml]); first | done | rfl | (simp only [pdt]; rfl)) ?_
    with_reducible refine (r_At.calls a0_0 a0_1 a0_2 x3_1 t375 _ A4.out).mono ?_
    rintro e w8 ⟨rfl, hb⟩
    refine ⟨_, rfl, ?_⟩
    have n0_ := bB BK374 hb
    have n1_ := bS HB hb
    clear BK374 HB
    have BK374 := n0_
    have HB := n1_
    clear n0_ n1_
    (try clear hb)
    (try clear hb2)
    (try clear hk)
    (try clear hi)
    refine hK.out _ _ ⟨(bc BK374.out 0).trans rfl, (bc BK374.out 1).trans rfl, (bc BK374.out 2).trans rfl, (bc BK374.out 3).trans rfl, (bc BK374.out 4).trans rfl, (bc BK374.out 5).trans rfl⟩ (fun hHeld => ?_)
    clear hK K
    refine norm_ (a' := ?_) ?_ ?_
    rotate_left
    ·show Act.put _ (some 14) _ = _
     simp only [Act.put, psl, i64_w, i32_w]
     rfl
    refine one_ (i := 7) (N := some 18) (fl 10 8 []) rfl rfl (one_of HT_.out (by kernel_rfl)) (by decide) (fun K hK => ?_)
    refine goes_ Try.func59 (by kernel_rfl) rfl #[.agg #[.int .i64 a0_3, .int .i64 a0_4, .int .i64 a0_5], .int .i64 x3_1] (by rfl) rfl rfl (by (try simp only [pml]); first | done | rfl | (simp only [pdt]; rfl)) ?_
    with_reducible refine (r_At.calls a0_3 a0_4 a0_5 x3_1 t376 _ A5.out).mono ?_
    rintro e w9 ⟨rfl, hb⟩
    refine ⟨_, rfl, ?_⟩
    have n0_ := bB BK374 hb
    have n1_ := bS HB hb
    clear BK374 HB
    have BK374 := n0_
    have HB := n1_
    clear n0_ n1_
    (try clear hb)
    (try clear hb2)
    (try clear hk)
    (try clear hi)
    refine hK.out _ _ ⟨(bc BK374.out 0).trans rfl, (bc BK374.out 1).trans rfl, (bc BK374.out 2).trans rfl, (bc BK374.out 3).trans rfl, (bc BK374.out 4).trans rfl, (bc BK374.out 5).trans rfl⟩ (fun hHeld => ?_)
    clear hK K
    refine norm_ (a' := ?_) ?_ ?_
    rotate_left
    ·show Act.put _ (some 18) _ = _
     simp only [Act.put, psl, i64_w, i32_w]
     rfl
    refine pu (i := 8) (N := some 4) (fl 10 9 []) HT_ ?_
    refine pu (i := 9) (N := some 5) (fl 10 10 []) HT_ ?_
    refine done_ (done_of HT_.out (by kernel_rfl)) ?_
    go_upto_region 5 with (fail)
    go_cut [32] (fun v32 wc => ∃ (kq : Nat) (x32_5 : Bool), v32 = .bool x32_5 ∧ Aside0 (r_Check.j1 kq x3_1 x32_5 a0_0 a0_1 a0_2 a0_3 a0_4 a0_5 = some r) ∧ Aside0 (kq ≤ k1) ∧ Aside0 (wc.heap[gb374]? = some (.cells #[.int .i64 a0_0, .int .i64 a0_1, .int .i64 a0_2, .int .i64 a0_3, .int .i64 a0_4, .int .i64 a0_5] 25 (0, 0))) ∧ Aside0 (Below w.heap.size w wc))
    case first =>
     have H := HC6.out
     clear HC6
     by_cases c10 : t375 < (-1000000)
     ·rw [if_pos c10] at H
      have c10b0 : decide (t375 < (-1000000)) = true := decide_eq_true c10
      clear c10
      (first | rw [c10b0] | (simp only [i64_w, i32_w]; rw [c10b0]) | skip)
      have H' := am H
      clear H
      go_wp2
      go_meet
      case rel => exact ⟨_, (true), sqD, H', ⟨by have := HK1.out; first | omega | exact Nat.le_refl _⟩, ⟨fb BK374.out⟩, ⟨fW HB.out⟩⟩
     rw [if_neg c10] at H
     have c10b0 : decide (t375 < (-1000000)) = false := decide_eq_false c10
     clear c10
     (first | rw [c10b0] | (simp only [i64_w, i32_w]; rw [c10b0]) | skip)
     by_cases c11 : t375 > 1000000
     ·rw [if_pos c11] at H
      have c11b0 : decide (1000000 < t375) = true := decide_eq_true c11
      clear c11
      have H' := am H
      clear H
      go_wp2
      go_meet
      case rel => exact ⟨_, (true), sqD, H', ⟨by have := HK1.out; first | omega | exact Nat.le_refl _⟩, ⟨fb BK374.out⟩, ⟨fW HB.out⟩⟩
     rw [if_neg c11] at H
     have c11b0 : decide (1000000 < t375) = false := decide_eq_false c11
     clear c11
     by_cases c12 : t376 < (-1000000)
     ·rw [if_pos c12] at H
      have c12b0 : decide (t376 < (-1000000)) = true := decide_eq_true c12
      clear c12
      have H' := am H
      clear H
      go_wp2
      go_meet
      case rel => exact ⟨_, (true), sqD, H', ⟨by have := HK1.out; first | omega | exact Nat.le_refl _⟩, ⟨fb BK374.out⟩, ⟨fW HB.out⟩⟩
     rw [if_neg c12] at H
     have c12b0 : decide (t376 < (-1000000)) = false := decide_eq_false c12
     clear c12
     have H' := am H
     clear H
     go_wp2
     go_meet
     case rel => exact ⟨_, (decide (t376 > 1000000)), sqD, H', ⟨by have := HK1.out; first | omega | exact Nat.le_refl _⟩, ⟨fb BK374.out⟩, ⟨fW HB.out⟩⟩
    case rest =>
     clear HC6
     try clear c1;try clear p2;try clear c3;try clear c3b0;try clear c5;try clear c10;try clear c10b0;try clear c11;try clear c11b0;try clear c12;try clear c12b0;try clear p2
     obtain ⟨kq, x32_5, rfl, HA, HJ5, BK374, HB⟩ := hcut
     cases kq with
     | zero => exact absurd HA.out (by simp [r_Check.j1])
     | succ kj5 =>
      have H := HA.out
      clear HA
      simp only [r_Check.j1] at H
      by_cases c13 : x32_5 = true
      ·subst c13
       have H1 : (some 6) = some r := by rw [if_pos rfl] at H; exact H
       clear H
       have H := H1
       clear H1
       obtain rfl := Option.some.inj H
       go_wp2
       go_ret
       exact ⟨sqE, fW HB.out⟩
      replace c13 := Bool.eq_false_iff.mpr c13
      subst c13
      have H1 : (r_Check.l0 kj5 (wrap64 (x3_1 + 1)) a0_0 a0_1 a0_2 a0_3 a0_4 a0_5) = some r := by rw [if_neg (show ¬ (false = true) by decide)] at H; exact H
      clear H
      have H := H1
      clear H1
      have H' := am H
      clear H
      go_wp2
      go_roundg kj5
      case measure => have := HK1.out; have := HJ5.out; omega
      case rel => exact ⟨(wrap64 (x3_1 + 1)), sqD, H', ⟨by have := HK1.out; have := HJ5.out; omega⟩, ⟨fb BK374.out⟩, ⟨fW HB.out⟩⟩
   ·rw [if_neg c3] at H
    have c3b0 : decide (x3_1 < 3) = false := decide_eq_false c3
    clear c3
    have H' := am H
    clear H
    go_wp2
    go_loopg [6] k1 (fun kq v6 w' => ∃ (x6_2 : Int), v6 = .int .i64 x6_2 ∧ Aside0 (r_Check.l1 kq x6_2 a0_0 a0_1 a0_2 a0_3 a0_4 a0_5 = some r) ∧ Aside0 (kq ≤ k1) ∧ Aside0 (w'.heap[gb374]? = some (.cells #[.int .i64 a0_0, .int .i64 a0_1, .int .i64 a0_2, .int .i64 a0_3, .int .i64 a0_4, .int .i64 a0_5] 25 (0, 0))) ∧ Aside0 (Below w.heap.size w w'))
    case atStart => exact ⟨(0), sqD, H', ⟨Nat.le_refl _⟩, ⟨fb BK374.out⟩, ⟨fW HB.out⟩⟩
    case round =>
     clear H'
     try clear c1;try clear p2;try clear c3;try clear c3b0;try clear c5;try clear p6;try clear c10;try clear c10b0;try clear c11;try clear c11b0;try clear c12;try clear c12b0;try clear c13;try clear p2
     obtain ⟨x6_2, rfl, HA, HK2, BK374, HB⟩ := hrel
     cases gk with
     | zero => exact absurd HA.out (by simp [r_Check.l1])
     | succ k2 =>
      have H := HA.out
      clear HA
      simp only [r_Check.l1] at H
      by_cases c14 : x6_2 < 3
      ·rw [if_pos c14] at H
       have c14b0 : decide (x6_2 < 3) = true := decide_eq_true c14
       clear c14
       replace H := Option.bind_eq_some_iff.mp H
       obtain ⟨t377, A150, H⟩ := H
       replace H : ((r_At.f a0_3 a0_4 a0_5 x6_2).bind fun t378 => (if t377 ≥ t378 then (some 1) else (r_Check.l1 k2 (wrap64 (x6_2 + 1)) a0_0 a0_1 a0_2 a0_3 a0_4 a0_5))) = some r := H
       have A15 := am A150
       clear A150
       replace H := Option.bind_eq_some_iff.mp H
       obtain ⟨t378, A160, H⟩ := H
       replace H : (if t377 ≥ t378 then (some 1) else (r_Check.l1 k2 (wrap64 (x6_2 + 1)) a0_0 a0_1 a0_2 a0_3 a0_4 a0_5)) = some r := H
       have A16 := am A160
       clear A160
       by_cases c17 : t377 ≥ t378
       ·rw [if_pos c17] at H
        have c17b0 : decide (t378 ≤ t377) = true := decide_eq_true c17
        clear c17
        obtain rfl := Option.some.inj H
        try go_wp2
        have n0_ := am (blk_drew BK374.out)
        have n1_ := am (below_drew1 HB.out)
        clear BK374 HB
        have BK374 := n0_
        have HB := n1_
        clear n0_ n1_
        refine start_ (n := 9) (S := fun w' => w'.cell? ⟨gb374, 0, none⟩ = some (.int .i64 a0_0) ∧ w'.cell? ⟨gb374, 1, none⟩ = some (.int .i64 a0_1) ∧ w'.cell? ⟨gb374, 2, none⟩ = some (.int .i64 a0_2) ∧ w'.cell? ⟨gb374, 3, none⟩ = some (.int .i64 a0_3) ∧ w'.cell? ⟨gb374, 4, none⟩ = some (.int .i64 a0_4) ∧ w'.cell? ⟨gb374, 5, none⟩ = some (.int .i64 a0_5)) (ds := []) #[F,F,F,F,F,F,F,F,F] (by kernel_rfl) rfl rfl ⟨(bc BK374.out 0).trans rfl, (bc BK374.out 1).trans rfl, (bc BK374.out 2).trans rfl, (bc BK374.out 3).trans rfl, (bc BK374.out 4).trans rfl, (bc BK374.out 5).trans rfl⟩ (fun hHeld => ?_); refine with_tabW r_Check.tab10 r_Check.bits10 (fun HT_ HW_ => ?_)
        generalize wr.drew = w18 at BK374 HB hHeld ⊢
        refine pu (i := 0) (N := some 37) (fl 9 1 []) HT_ ?_
        refine pu (i := 2) (N := some 39) (fl 9 1 [2]) HT_ ?_
        refine pu (i := 4) (N := some 41) (fl 9 1 [2, 4]) HT_ ?_
        refine pu (i := 6) (N := some 43) (fl 9 1 [2, 4, 6]) HT_ ?_
        refine tk (i := 1) (N := some 38) (fl 9 3 [4, 6]) HT_ HW_ hHeld ?_
        refine tk (i := 5) (N := some 42) (fl 9 3 [4, 5, 6]) HT_ HW_ hHeld ?_
        refine one_ (i := 3) (N := some 40) (fl 9 7 []) rfl rfl (one_of HT_.out (by kernel_rfl)) (by decide) (fun K hK => ?_)
        refine goes_ Try.func59 (by kernel_rfl) rfl #[.agg #[.int .i64 a0_0, .int .i64 a0_1, .int .i64 a0_2], .int .i64 x6_2] (by rfl) rfl rfl (by (try simp only [pml]); first | done | rfl | (simp only [pdt]; rfl)) ?_
        with_reducible refine (r_At.calls a0_0 a0_1 a0_2 x6_2 t377 _ A15.out).mono ?_
        rintro e w19 ⟨rfl, hb⟩
        refine ⟨_, rfl, ?_⟩
        have n0_ := bB BK374 hb
        have n1_ := bS HB hb
        clear BK374 HB
        have BK374 := n0_
        have HB := n1_
        clear n0_ n1_
        (try clear hb)
        (try clear hb2)
        (try clear hk)
        (try clear hi)
        refine hK.out _ _ ⟨(bc BK374.out 0).trans rfl, (bc BK374.out 1).trans rfl, (bc BK374.out 2).trans rfl, (bc BK374.out 3).trans rfl, (bc BK374.out 4).trans rfl, (bc BK374.out 5).trans rfl⟩ (fun hHeld => ?_)
        clear hK K
        refine norm_ (a' := ?_) ?_ ?_
        rotate_left
        ·show Act.put _ (some 40) _ = _
         simp only [Act.put, psl, i64_w, i32_w]
         rfl
        refine one_ (i := 7) (N := some 44) (fl 9 8 []) rfl rfl (one_of HT_.out (by kernel_rfl)) (by decide) (fun K hK => ?_)
        refine goes_ Try.func59 (by kernel_rfl) rfl #[.agg #[.int .i64 a0_3, .int .i64 a0_4, .int .i64 a0_5], .int .i64 x6_2] (by rfl) rfl rfl (by (try simp only [pml]); first | done | rfl | (simp only [pdt]; rfl)) ?_
        with_reducible refine (r_At.calls a0_3 a0_4 a0_5 x6_2 t378 _ A16.out).mono ?_
        rintro e w20 ⟨rfl, hb⟩
        refine ⟨_, rfl, ?_⟩
        have n0_ := bB BK374 hb
        have n1_ := bS HB hb
        clear BK374 HB
        have BK374 := n0_
        have HB := n1_
        clear n0_ n1_
        (try clear hb)
        (try clear hb2)
        (try clear hk)
        (try clear hi)
        refine hK.out _ _ ⟨(bc BK374.out 0).trans rfl, (bc BK374.out 1).trans rfl, (bc BK374.out 2).trans rfl, (bc BK374.out 3).trans rfl, (bc BK374.out 4).trans rfl, (bc BK374.out 5).trans rfl⟩ (fun hHeld => ?_)
        clear hK K
        refine norm_ (a' := ?_) ?_ ?_
        rotate_left
        ·show Act.put _ (some 44) _ = _
         simp only [Act.put, psl, i64_w, i32_w]
         rfl
        refine pu (i := 8) (N := some 45) (fl 9 9 []) HT_ ?_
        refine done_ (done_of HT_.out (by kernel_rfl)) ?_
        try go_wp2
        go_ret
        exact ⟨sqE, fW HB.out⟩
       rw [if_neg c17] at H
       have c17b0 : decide (t378 ≤ t377) = false := decide_eq_false c17
       clear c17
       have H' := am H
       clear H
       try go_wp2
       have n0_ := am (blk_drew BK374.out)
       have n1_ := am (below_drew1 HB.out)
       clear BK374 HB
       have BK374 := n0_
       have HB := n1_
       clear n0_ n1_
       refine start_ (n := 9) (S := fun w' => w'.cell? ⟨gb374, 0, none⟩ = some (.int .i64 a0_0) ∧ w'.cell? ⟨gb374, 1, none⟩ = some (.int .i64 a0_1) ∧ w'.cell? ⟨gb374, 2, none⟩ = some (.int .i64 a0_2) ∧ w'.cell? ⟨gb374, 3, none⟩ = some (.int .i64 a0_3) ∧ w'.cell? ⟨gb374, 4, none⟩ = some (.int .i64 a0_4) ∧ w'.cell? ⟨gb374, 5, none⟩ = some (.int .i64 a0_5)) (ds := []) #[F,F,F,F,F,F,F,F,F] (by kernel_rfl) rfl rfl ⟨(bc BK374.out 0).trans rfl, (bc BK374.out 1).trans rfl, (bc BK374.out 2).trans rfl, (bc BK374.out 3).trans rfl, (bc BK374.out 4).trans rfl, (bc BK374.out 5).trans rfl⟩ (fun hHeld => ?_); refine with_tabW r_Check.tab10 r_Check.bits10 (fun HT_ HW_ => ?_)
       generalize wr.drew = w21 at BK374 HB hHeld ⊢
       refine pu (i := 0) (N := some 37) (fl 9 1 []) HT_ ?_
       refine pu (i := 2) (N := some 39) (fl 9 1 [2]) HT_ ?_
       refine pu (i := 4) (N := some 41) (fl 9 1 [2, 4]) HT_ ?_
       refine pu (i := 6) (N := some 43) (fl 9 1 [2, 4, 6]) HT_ ?_
       refine tk (i := 1) (N := some 38) (fl 9 3 [4, 6]) HT_ HW_ hHeld ?_
       refine tk (i := 5) (N := some 42) (fl 9 3 [4, 5, 6]) HT_ HW_ hHeld ?_
       refine one_ (i := 3) (N := some 40) (fl 9 7 []) rfl rfl (one_of HT_.out (by kernel_rfl)) (by decide) (fun K hK => ?_)
       refine goes_ Try.func59 (by kernel_rfl) rfl #[.agg #[.int .i64 a0_0, .int .i64 a0_1, .int .i64 a0_2], .int .i64 x6_2] (by rfl) rfl rfl (by (try simp only [pml]); first | done | rfl | (simp only [pdt]; rfl)) ?_
       with_reducible refine (r_At.calls a0_0 a0_1 a0_2 x6_2 t377 _ A15.out).mono ?_
       rintro e w22 ⟨rfl, hb⟩
       refine ⟨_, rfl, ?_⟩
       have n0_ := bB BK374 hb
       have n1_ := bS HB hb
       clear BK374 HB
       have BK374 := n0_
       have HB := n1_
       clear n0_ n1_
       (try clear hb)
       (try clear hb2)
       (try clear hk)
       (try clear hi)
       refine hK.out _ _ ⟨(bc BK374.out 0).trans rfl, (bc BK374.out 1).trans rfl, (bc BK374.out 2).trans rfl, (bc BK374.out 3).trans rfl, (bc BK374.out 4).trans rfl, (bc BK374.out 5).trans rfl⟩ (fun hHeld => ?_)
       clear hK K
       refine norm_ (a' := ?_) ?_ ?_
       rotate_left
       ·show Act.put _ (some 40) _ = _
        simp only [Act.put, psl, i64_w, i32_w]
        rfl
       refine one_ (i := 7) (N := some 44) (fl 9 8 []) rfl rfl (one_of HT_.out (by kernel_rfl)) (by decide) (fun K hK => ?_)
       refine goes_ Try.func59 (by kernel_rfl) rfl #[.agg #[.int .i64 a0_3, .int .i64 a0_4, .int .i64 a0_5], .int .i64 x6_2] (by rfl) rfl rfl (by (try simp only [pml]); first | done | rfl | (simp only [pdt]; rfl)) ?_
       with_reducible refine (r_At.calls a0_3 a0_4 a0_5 x6_2 t378 _ A16.out).mono ?_
       rintro e w23 ⟨rfl, hb⟩
       refine ⟨_, rfl, ?_⟩
       have n0_ := bB BK374 hb
       have n1_ := bS HB hb
       clear BK374 HB
       have BK374 := n0_
       have HB := n1_
       clear n0_ n1_
       (try clear hb)
       (try clear hb2)
       (try clear hk)
       (try clear hi)
       refine hK.out _ _ ⟨(bc BK374.out 0).trans rfl, (bc BK374.out 1).trans rfl, (bc BK374.out 2).trans rfl, (bc BK374.out 3).trans rfl, (bc BK374.out 4).trans rfl, (bc BK374.out 5).trans rfl⟩ (fun hHeld => ?_)
       clear hK K
       refine norm_ (a' := ?_) ?_ ?_
       rotate_left
       ·show Act.put _ (some 44) _ = _
        simp only [Act.put, psl, i64_w, i32_w]
        rfl
       refine pu (i := 8) (N := some 45) (fl 9 9 []) HT_ ?_
       refine done_ (done_of HT_.out (by kernel_rfl)) ?_
       try go_wp2
       go_roundg k2
       case measure => have := HK1.out; have := HK2.out; omega
       case rel => exact ⟨(wrap64 (x6_2 + 1)), sqD, H', ⟨by have := HK1.out; have := HK2.out; omega⟩, ⟨fb BK374.out⟩, ⟨fW HB.out⟩⟩
      ·rw [if_neg c14] at H
       have c14b0 : decide (x6_2 < 3) = false := decide_eq_false c14
       clear c14
       obtain rfl := Option.some.inj H
       go_wp2
       go_ret
       exact ⟨sqE, fW HB.out⟩

def r_Size.f (a0_0 : Int) (a0_1 : Int) (a0_2 : Int) (a0_3 : Int) (a0_4 : Int) (a0_5 : Int) : Option (Int × Int × Int) := some (wrap64 (a0_3 - a0_0), wrap64 (a0_4 - a0_1), wrap64 (a0_5 - a0_2))
set_option maxHeartbeats 8000000 in
set_option maxRecDepth 100000 in
theorem r_Size.calls (a0_0 : Int) (a0_1 : Int) (a0_2 : Int) (a0_3 : Int) (a0_4 : Int) (a0_5 : Int) (r1 : Int) (r2 : Int) (r3 : Int) (w : World) (h : r_Size.f a0_0 a0_1 a0_2 a0_3 a0_4 a0_5 = some (r1, r2, r3)) :
  Calls Try.prog 22 #[.agg #[.int .i64 a0_0, .int .i64 a0_1, .int .i64 a0_2, .int .i64 a0_3, .int .i64 a0_4, .int .i64 a0_5]] w fun e w' => e = .returned (.agg #[.int .i64 r1, .int .i64 r2, .int .i64 r3]) ∧ Below w.heap.size w w' := by
 have hu25 := Try.underlying25
 have hu23 := Try.underlying23
 have HB := am (Below.refl w.heap.size w)
 have H : (some (wrap64 (a0_3 - a0_0), wrap64 (a0_4 - a0_1), wrap64 (a0_5 - a0_2))) = some (r1, r2, r3) := h
 clear h
 simp only [Option.some.injEq, Prod.mk.injEq] at H
 obtain ⟨rfl, rfl, rfl⟩ := H
 go_enter Try.func22, Try.ntmps22
 go_wp2_with (first | ((with_reducible refine gate_dst (N := 1) rfl ?_); refine box_event ?hg (N := 1) ?hd (cs := #[.int .i64 a0_0, .int .i64 a0_1, .int .i64 a0_2, .int .i64 a0_3, .int .i64 a0_4, .int .i64 a0_5]) (t := 25) ?hr ?_; (case hd | hg => rfl); (case hr => first | (go_simp; done) | (go_simp; rfl)); intro gb379 hg w2 hbox hb; have BK379 := am hbox; have GW379 := sG HB hg; have GE379 := sG HB hg; replace HB := bS HB hb; clear hb hbox hg) | ((with_reducible refine gate_dst (N := 2) rfl ?_); refine box_event ?hg (N := 2) ?hd (cs := #[.int .i64 0, .int .i64 0, .int .i64 0]) (t := 23) ?hr ?_; (case hd | hg => rfl); (case hr => first | (go_simp; done) | (go_simp; rfl)); intro gb380 hg w3 hbox hb; have BK380 := am hbox; have GW380 := sG HB hg; have GE380 := sG HB hg; replace HB := bS HB hb; have NB379_380 := nL BK379 hg; have NB380_379 := nG BK379 hg; replace BK379 := bB BK379 hb; clear hb hbox hg; have hnb4 := NB379_380.out; have hnc4 := NB380_379.out; obtain ⟨_, _, _, _, _, _, _, _, _, _, _, _⟩ := zC6 BK379; obtain ⟨_, _, _, _, _, _⟩ := zC3 BK380))
 refine bodyPost_ret (results_cell_row rfl _ _ gb380 23 #[.int .i64 (wrap64 (a0_3 - a0_0)), .int .i64 (wrap64 (a0_4 - a0_1)), .int .i64 (wrap64 (a0_5 - a0_2))] (0, 0) _ rfl (kkC BK380.out) Try.underlying23 rfl (by kernel_rfl)) rfl ?_
 exact ⟨sqE, fW HB.out⟩

def r_Add.f (a0_0 : Int) (a0_1 : Int) (a0_2 : Int) (a1_0 : Int) (a1_1 : Int) (a1_2 : Int) : Option (Int × Int × Int) := some (wrap64 (a0_0 + a1_0), wrap64 (a0_1 + a1_1), wrap64 (a0_2 + a1_2))
set_option maxHeartbeats 8000000 in
set_option maxRecDepth 100000 in
theorem r_Add.calls (a0_0 : Int) (a0_1 : Int) (a0_2 : Int) (a1_0 : Int) (a1_1 : Int) (a1_2 : Int) (r1 : Int) (r2 : Int) (r3 : Int) (w : World) (h : r_Add.f a0_0 a0_1 a0_2 a1_0 a1_1 a1_2 = some (r1, r2, r3)) :
  Calls Try.prog 60 #[.agg #[.int .i64 a0_0, .int .i64 a0_1, .int .i64 a0_2], .agg #[.int .i64 a1_0, .int .i64 a1_1, .int .i64 a1_2]] w fun e w' => e = .returned (.agg #[.int .i64 r1, .int .i64 r2, .int .i64 r3]) ∧ Below w.heap.size w w' := by
 have hu23 := Try.underlying23
 have HB := am (Below.refl w.heap.size w)
 have H : (some (wrap64 (a0_0 + a1_0), wrap64 (a0_1 + a1_1), wrap64 (a0_2 + a1_2))) = some (r1, r2, r3) := h
 clear h
 simp only [Option.some.injEq, Prod.mk.injEq] at H
 obtain ⟨rfl, rfl, rfl⟩ := H
 go_enter Try.func60, Try.ntmps60
 go_wp2_with (first | ((with_reducible refine gate_dst (N := 2) rfl ?_); refine box_event ?hg (N := 2) ?hd (cs := #[.int .i64 a0_0, .int .i64 a0_1, .int .i64 a0_2]) (t := 23) ?hr ?_; (case hd | hg => rfl); (case hr => first | (go_simp; done) | (go_simp; rfl)); intro gb381 hg w3 hbox hb; have BK381 := am hbox; have GW381 := sG HB hg; have GE381 := sG HB hg; replace HB := bS HB hb; clear hb hbox hg) | ((with_reducible refine gate_dst (N := 3) rfl ?_); refine box_event ?hg (N := 3) ?hd (cs := #[.int .i64 a1_0, .int .i64 a1_1, .int .i64 a1_2]) (t := 23) ?hr ?_; (case hd | hg => rfl); (case hr => first | (go_simp; done) | (go_simp; rfl)); intro gb382 hg w4 hbox hb; have BK382 := am hbox; have GW382 := sG HB hg; have GE382 := sG HB hg; replace HB := bS HB hb; have NB381_382 := nL BK381 hg; have NB382_381 := nG BK381 hg; replace BK381 := bB BK381 hb; clear hb hbox hg) | ((with_reducible refine gate_dst (N := 4) rfl ?_); refine box_event ?hg (N := 4) ?hd (cs := #[.int .i64 0, .int .i64 0, .int .i64 0]) (t := 23) ?hr ?_; (case hd | hg => rfl); (case hr => first | (go_simp; done) | (go_simp; rfl)); intro gb383 hg w5 hbox hb; have BK383 := am hbox; have GW383 := sG HB hg; have GE383 := sG HB hg; replace HB := bS HB hb; have NB381_383 := nL BK381 hg; have NB383_381 := nG BK381 hg; replace BK381 := bB BK381 hb; have NB382_383 := nL BK382 hg; have NB383_382 := nG BK382 hg; replace BK382 := bB BK382 hb; clear hb hbox hg; have hnb6 := NB381_382.out; have hnc6 := NB382_381.out; have hnb7 := NB381_383.out; have hnc7 := NB383_381.out; obtain ⟨_, _, _, _, _, _⟩ := zC3 BK381; have hnb9 := NB382_383.out; have hnc9 := NB383_382.out; obtain ⟨_, _, _, _, _, _⟩ := zC3 BK382; obtain ⟨_, _, _, _, _, _⟩ := zC3 BK383))
 refine bodyPost_ret (results_cell_row rfl _ _ gb383 23 #[.int .i64 (wrap64 (a0_0 + a1_0)), .int .i64 (wrap64 (a0_1 + a1_1)), .int .i64 (wrap64 (a0_2 + a1_2))] (0, 0) _ rfl (kkC BK383.out) Try.underlying23 rfl (by kernel_rfl)) rfl ?_
 exact ⟨sqE, fW HB.out⟩

end Go.Proofs.Ytmmdikhmlmoolaa.QA
