import Derived.Test.YtmmdikhmlmoolaaZQAx0
import Derived.Test.YtmmdikhmlmoolaaZQAx15
import Derived.Test.YtmmdikhmlmoolaaZQAx16
namespace Go.Proofs.Ytmmdikhmlmoolaa.QA
open Go.RowKit Go.Proofs.YtmmdikhmlmoolaaW.PrintWords Go.Proofs.YtmmdikhmlmoolaaW.PrintLast Go.Proofs.YtmmdikhmlmoolaaW.PrintMore
open Go.Proofs.YtmmdikhmlmoolaaW.PrintWords renaming blk_frozen → bf, blk_cell → bc, cell_far → cf
open Aside0 renaming mk → am
attribute [local go_sem] max2_int min2_int max_two min_two max_three min_three max_four min_four
set_option linter.unusedVariables false
set_option linter.unusedSimpArgs false

def r_Move.l0 : Nat → Int → Int → Int → Int → Int → Int → Int → Int → Int → Int → Option (Int × Int × Int × Int × Int × Int × Int)
 | 0, _, _, _, _, _, _, _, _, _, _ => none
 | k + 1, x6, x385000, x385001, x385002, x385003, x385004, x385005, x386000, x386001, x386002 => if x6 < 3 then ((r_At.f x386000 x386001 x386002 x6).bind fun t387 => (if t387 < (-2000000) then (some (0, 0, 0, 0, 0, 0, 6)) else ((r_At.f x386000 x386001 x386002 x6).bind fun t388 => (if t388 > 2000000 then (some (0, 0, 0, 0, 0, 0, 6)) else (r_Move.l0 k (wrap64 (x6 + 1)) x385000 x385001 x385002 x385003 x385004 x385005 x386000 x386001 x386002))))) else ((r_Add.f x385000 x385001 x385002 x386000 x386001 x386002).bind fun bt389 => ((r_Add.f x385003 x385004 x385005 x386000 x386001 x386002).bind fun bt392 => ((r_Check.f k bt389.1 bt389.2.1 bt389.2.2 bt392.1 bt392.2.1 bt392.2.2).bind fun t396 => (if t396 = 0 then (some (bt389.1, bt389.2.1, bt389.2.2, bt392.1, bt392.2.1, bt392.2.2, 0)) else (some (0, 0, 0, 0, 0, 0, t396))))))
def r_Move.f (k : Nat) (a0_0 : Int) (a0_1 : Int) (a0_2 : Int) (a0_3 : Int) (a0_4 : Int) (a0_5 : Int) (a1_0 : Int) (a1_1 : Int) (a1_2 : Int) : Option (Int × Int × Int × Int × Int × Int × Int) := r_Move.l0 k 0 a0_0 a0_1 a0_2 a0_3 a0_4 a0_5 a1_0 a1_1 a1_2
def r_Move.T6 : Bool × List (List Nat × List Nat) := (true, [([], []), ([0], [0]), ([], []), ([1, 2], [1, 2]), ([], []), ([4], [4]), ([], []), ([5, 6, 3], [5, 6]), ([3, 7], [3, 7]), ([], []), ([9, 8, 7, 0, 1, 2, 3, 4, 5, 6, 7, 8, 9], [8, 9])])
def r_Move.B6 : List Nat := [0, 1, 0, 7, 0, 16, 0, 127, 255, 0, 1023]
theorem r_Move.tab6 : rtab .any (opsOf Try.f23 6) = r_Move.T6 := by kernel_rfl
theorem r_Move.bits6 : waitsOk r_Move.T6.2 r_Move.B6 = true := by kernel_rfl
set_option maxHeartbeats 8000000 in
set_option maxRecDepth 100000 in
theorem r_Move.calls (k : Nat) (a0_0 : Int) (a0_1 : Int) (a0_2 : Int) (a0_3 : Int) (a0_4 : Int) (a0_5 : Int) (a1_0 : Int) (a1_1 : Int) (a1_2 : Int) (r1 : Int) (r2 : Int) (r3 : Int) (r4 : Int) (r5 : Int) (r6 : Int) (r7 : Int) (w : World) (h : r_Move.f k a0_0 a0_1 a0_2 a0_3 a0_4 a0_5 a1_0 a1_1 a1_2 = some (r1, r2, r3, r4, r5, r6, r7)) :
  Calls Try.prog 23 #[.agg #[.int .i64 a0_0, .int .i64 a0_1, .int .i64 a0_2, .int .i64 a0_3, .int .i64 a0_4, .int .i64 a0_5], .agg #[.int .i64 a1_0, .int .i64 a1_1, .int .i64 a1_2]] w fun e w' => e = .returned (.tuple #[.agg #[.int .i64 r1, .int .i64 r2, .int .i64 r3, .int .i64 r4, .int .i64 r5, .int .i64 r6], .int .i64 r7]) ∧ Below w.heap.size w w' := by
 have hu25 := Try.underlying25
 have hu23 := Try.underlying23
 have HB := am (Below.refl w.heap.size w)
 have H : (r_Move.l0 k 0 a0_0 a0_1 a0_2 a0_3 a0_4 a0_5 a1_0 a1_1 a1_2) = some (r1, r2, r3, r4, r5, r6, r7) := h
 clear h
 have H' := am H
 clear H
 go_enter Try.func23, Try.ntmps23
 go_wp2_with (first | ((with_reducible refine gate_dst (N := 2) rfl ?_); refine box_event ?hg (N := 2) ?hd (cs := #[.int .i64 a0_0, .int .i64 a0_1, .int .i64 a0_2, .int .i64 a0_3, .int .i64 a0_4, .int .i64 a0_5]) (t := 25) ?hr ?_; (case hd | hg => rfl); (case hr => first | (go_simp; done) | (go_simp; rfl)); intro gb384 hg w3 hbox hb; have BK384 := am hbox; have GW384 := sG HB hg; have GE384 := sG HB hg; replace HB := bS HB hb; clear hb hbox hg) | ((with_reducible refine gate_dst (N := 3) rfl ?_); refine box_event ?hg (N := 3) ?hd (cs := #[.int .i64 a1_0, .int .i64 a1_1, .int .i64 a1_2]) (t := 23) ?hr ?_; (case hd | hg => rfl); (case hr => first | (go_simp; done) | (go_simp; rfl)); intro gb385 hg w4 hbox hb; have BK385 := am hbox; have GW385 := sG HB hg; have GE385 := sG HB hg; replace HB := bS HB hb; have NB384_385 := nL BK384 hg; have NB385_384 := nG BK384 hg; replace BK384 := bB BK384 hb; clear hb hbox hg) | ((with_reducible refine gate_dst (N := 4) rfl ?_); refine box_event ?hg (N := 4) ?hd (cs := #[.int .i64 0, .int .i64 0, .int .i64 0, .int .i64 0, .int .i64 0, .int .i64 0]) (t := 25) ?hr ?_; (case hd | hg => rfl); (case hr => first | (go_simp; done) | (go_simp; rfl)); intro gb386 hg w5 hbox hb; have BK386 := am hbox; have GW386 := sG HB hg; have GE386 := sG HB hg; replace HB := bS HB hb; have NB384_386 := nL BK384 hg; have NB386_384 := nG BK384 hg; replace BK384 := bB BK384 hb; have NB385_386 := nL BK385 hg; have NB386_385 := nG BK385 hg; replace BK385 := bB BK385 hb; clear hb hbox hg))
 go_loopg [6] k (fun kq v6 w' => ∃ (x6_1 : Int) (x387000_1 : Int) (x387001_1 : Int) (x387002_1 : Int) (x387003_1 : Int) (x387004_1 : Int) (x387005_1 : Int), v6 = .int .i64 x6_1 ∧ Aside0 (r_Move.l0 kq x6_1 a0_0 a0_1 a0_2 a0_3 a0_4 a0_5 a1_0 a1_1 a1_2 = some (r1, r2, r3, r4, r5, r6, r7)) ∧ Aside0 (kq ≤ k) ∧ Aside0 (w'.heap[gb384]? = some (.cells #[.int .i64 a0_0, .int .i64 a0_1, .int .i64 a0_2, .int .i64 a0_3, .int .i64 a0_4, .int .i64 a0_5] 25 (0, 0))) ∧ Aside0 (w'.heap[gb385]? = some (.cells #[.int .i64 a1_0, .int .i64 a1_1, .int .i64 a1_2] 23 (0, 0))) ∧ Aside0 (w'.heap[gb386]? = some (.cells #[.int .i64 x387000_1, .int .i64 x387001_1, .int .i64 x387002_1, .int .i64 x387003_1, .int .i64 x387004_1, .int .i64 x387005_1] 25 (0, 0))) ∧ Aside0 (Below w.heap.size w w'))
 case atStart => exact ⟨(0), (0), (0), (0), (0), (0), (0), sqD, H', ⟨Nat.le_refl _⟩, ⟨fb BK384.out⟩, ⟨fb BK385.out⟩, ⟨fb BK386.out⟩, ⟨fW HB.out⟩⟩
 case round =>
  clear H'
  try clear c2;try clear p2
  obtain ⟨x6_1, x387000_1, x387001_1, x387002_1, x387003_1, x387004_1, x387005_1, rfl, HA, HK1, BK384, BK385, BK386, HB⟩ := hrel
  cases gk with
  | zero => exact absurd HA.out (by simp [r_Move.l0])
  | succ k1 =>
   have H := HA.out
   clear HA
   simp only [r_Move.l0] at H
   by_cases c6 : x6_1 < 3
   ·rw [if_pos c6] at H
    have c6b0 : decide (x6_1 < 3) = true := decide_eq_true c6
    clear c6
    replace H := Option.bind_eq_some_iff.mp H
    obtain ⟨t387, A70, H⟩ := H
    replace H : (if t387 < (-2000000) then (some (0, 0, 0, 0, 0, 0, 6)) else ((r_At.f a1_0 a1_1 a1_2 x6_1).bind fun t388 => (if t388 > 2000000 then (some (0, 0, 0, 0, 0, 0, 6)) else (r_Move.l0 k1 (wrap64 (x6_1 + 1)) a0_0 a0_1 a0_2 a0_3 a0_4 a0_5 a1_0 a1_1 a1_2)))) = some (r1, r2, r3, r4, r5, r6, r7) := H
    have A7 := am A70
    clear A70
    by_cases c8 : t387 < (-2000000)
    ·rw [if_pos c8] at H
     have c8b0 : decide (t387 < (-2000000)) = true := decide_eq_true c8
     clear c8
     simp only [Option.some.injEq, Prod.mk.injEq] at H
     obtain ⟨rfl, rfl, rfl, rfl, rfl, rfl, rfl⟩ := H
     have hnb9 := NB385_384.out
     have hnc9 := NB384_385.out
     have hnb10 := NB385_386.out
     have hnc10 := NB386_385.out
     have := yC1 BK385
     have := kC1 BK385
     have := kC2 BK385
     have := bf BK385.out 0
     have := bf BK385.out 1
     have := bf BK385.out 2
     go_wp2_with (first | ((with_reducible refine gate_callee (f := 59) rfl ?_); refine goesL_ (some 15) rfl rfl Try.func59 (by kernel_rfl) rfl #[.agg #[.int .i64 a1_0, .int .i64 a1_1, .int .i64 a1_2], .int .i64 x6_1] rfl (by (try simp only [pml]); first | done | rfl | (simp only [pdt]; rfl)) ?_; (with_reducible refine (r_At.calls a1_0 a1_1 a1_2 x6_1 t387 _ A7.out).mono ?_); rintro e w12 ⟨rfl, hb⟩; refine ⟨_, rfl, ?_⟩; replace BK384 := bB BK384 hb; replace BK385 := bB BK385 hb; replace BK386 := bB BK386 hb; replace HB := bS HB hb; (try clear hb); (try clear hb2); (try clear hk); (try clear hi); have hnb13 := NB386_384.out; have hnc13 := NB384_386.out; obtain ⟨_, _, _, _, _, _, _, _, _, _, _, _⟩ := zC6 BK386))
     refine bodyPost_ret (results_ct rfl _ _ gb386 25 #[.int .i64 0, .int .i64 0, .int .i64 0, .int .i64 0, .int .i64 0, .int .i64 0] (0, 0) _ rfl (kkC BK386.out) Try.underlying25 rfl (by kernel_rfl)) rfl ?_
     exact ⟨sqE, fW HB.out⟩
    rw [if_neg c8] at H
    have c8b0 : decide (t387 < (-2000000)) = false := decide_eq_false c8
    clear c8
    replace H := Option.bind_eq_some_iff.mp H
    obtain ⟨t388, A150, H⟩ := H
    replace H : (if t388 > 2000000 then (some (0, 0, 0, 0, 0, 0, 6)) else (r_Move.l0 k1 (wrap64 (x6_1 + 1)) a0_0 a0_1 a0_2 a0_3 a0_4 a0_5 a1_0 a1_1 a1_2)) = some (r1, r2, r3, r4, r5, r6, r7) := H
    have A15 := am A150
    clear A150
    by_cases c16 : t388 > 2000000
    ·rw [if_pos c16] at H
     have c16b0 : decide (2000000 < t388) = true := decide_eq_true c16
     clear c16
     simp only [Option.some.injEq, Prod.mk.injEq] at H
     obtain ⟨rfl, rfl, rfl, rfl, rfl, rfl, rfl⟩ := H
     have hnb17 := NB385_384.out
     have hnc17 := NB384_385.out
     have hnb18 := NB385_386.out
     have hnc18 := NB386_385.out
     have := yC1 BK385
     have := kC1 BK385
     have := kC2 BK385
     have := bf BK385.out 0
     have := bf BK385.out 1
     have := bf BK385.out 2
     go_wp2_with (first | ((with_reducible refine gate_callee (f := 59) rfl ?_); refine goesL_ (some 15) rfl rfl Try.func59 (by kernel_rfl) rfl #[.agg #[.int .i64 a1_0, .int .i64 a1_1, .int .i64 a1_2], .int .i64 x6_1] rfl (by (try simp only [pml]); first | done | rfl | (simp only [pdt]; rfl)) ?_; (with_reducible refine (r_At.calls a1_0 a1_1 a1_2 x6_1 t387 _ A7.out).mono ?_); rintro e w20 ⟨rfl, hb⟩; refine ⟨_, rfl, ?_⟩; replace BK384 := bB BK384 hb; replace BK385 := bB BK385 hb; replace BK386 := bB BK386 hb; replace HB := bS HB hb; (try clear hb); (try clear hb2); (try clear hk); (try clear hi); obtain ⟨_, _, _, _, _, _⟩ := zC3 BK385) | (go_at_call 59; (with_reducible refine (r_At.calls a1_0 a1_1 a1_2 x6_1 t388 _ A15.out).mono ?_); rintro e w22 ⟨rfl, hb⟩; replace BK384 := bB BK384 hb; replace BK385 := bB BK385 hb; replace BK386 := bB BK386 hb; replace HB := bS HB hb; (try clear hb); (try clear hb2); (try clear hk); (try clear hi); have hnb23 := NB386_384.out; have hnc23 := NB384_386.out; obtain ⟨_, _, _, _, _, _, _, _, _, _, _, _⟩ := zC6 BK386))
     refine bodyPost_ret (results_ct rfl _ _ gb386 25 #[.int .i64 0, .int .i64 0, .int .i64 0, .int .i64 0, .int .i64 0, .int .i64 0] (0, 0) _ rfl (kkC BK386.out) Try.underlying25 rfl (by kernel_rfl)) rfl ?_
     exact ⟨sqE, fW HB.out⟩
    rw [if_neg c16] at H
    have c16b0 : decide (2000000 < t388) = false := decide_eq_false c16
    clear c16
    have H' := am H
    clear H
    have hnb25 := NB385_384.out
    have hnc25 := NB384_385.out
    have hnb26 := NB385_386.out
    have hnc26 := NB386_385.out
    have := yC1 BK385
    have := kC1 BK385
    have := kC2 BK385
    have := bf BK385.out 0
    have := bf BK385.out 1
    have := bf BK385.out 2
    go_wp2_with (first | ((with_reducible refine gate_callee (f := 59) rfl ?_); refine goesL_ (some 15) rfl rfl Try.func59 (by kernel_rfl) rfl #[.agg #[.int .i64 a1_0, .int .i64 a1_1, .int .i64 a1_2], .int .i64 x6_1] rfl (by (try simp only [pml]); first | done | rfl | (simp only [pdt]; rfl)) ?_; (with_reducible refine (r_At.calls a1_0 a1_1 a1_2 x6_1 t387 _ A7.out).mono ?_); rintro e w28 ⟨rfl, hb⟩; refine ⟨_, rfl, ?_⟩; replace BK384 := bB BK384 hb; replace BK385 := bB BK385 hb; replace BK386 := bB BK386 hb; replace HB := bS HB hb; (try clear hb); (try clear hb2); (try clear hk); (try clear hi); obtain ⟨_, _, _, _, _, _⟩ := zC3 BK385) | (go_at_call 59; (with_reducible refine (r_At.calls a1_0 a1_1 a1_2 x6_1 t388 _ A15.out).mono ?_); rintro e w30 ⟨rfl, hb⟩; replace BK384 := bB BK384 hb; replace BK385 := bB BK385 hb; replace BK386 := bB BK386 hb; replace HB := bS HB hb; (try clear hb); (try clear hb2); (try clear hk); (try clear hi)))
    go_roundg k1
    case measure => have := HK1.out; omega
    case rel => exact ⟨(wrap64 (x6_1 + 1)), (x387000_1), (x387001_1), (x387002_1), (x387003_1), (x387004_1), (x387005_1), sqD, H', ⟨by have := HK1.out; omega⟩, ⟨fb BK384.out⟩, ⟨fb BK385.out⟩, ⟨fb BK386.out⟩, ⟨fW HB.out⟩⟩
   ·rw [if_neg c6] at H
    have c6b0 : decide (x6_1 < 3) = false := decide_eq_false c6
    clear c6
    replace H := Option.bind_eq_some_iff.mp H
    obtain ⟨⟨t389, t390, t391⟩, A310, H⟩ := H
    replace H : ((r_Add.f a0_3 a0_4 a0_5 a1_0 a1_1 a1_2).bind fun bt392 => ((r_Check.f k1 t389 t390 t391 bt392.1 bt392.2.1 bt392.2.2).bind fun t396 => (if t396 = 0 then (some (t389, t390, t391, bt392.1, bt392.2.1, bt392.2.2, 0)) else (some (0, 0, 0, 0, 0, 0, t396))))) = some (r1, r2, r3, r4, r5, r6, r7) := H
    have A31 := am A310
    clear A310
    replace H := Option.bind_eq_some_iff.mp H
    obtain ⟨⟨t392, t393, t394⟩, A320, H⟩ := H
    replace H : ((r_Check.f k1 t389 t390 t391 t392 t393 t394).bind fun t396 => (if t396 = 0 then (some (t389, t390, t391, t392, t393, t394, 0)) else (some (0, 0, 0, 0, 0, 0, t396)))) = some (r1, r2, r3, r4, r5, r6, r7) := H
    have A32 := am A320
    clear A320
    replace H := Option.bind_eq_some_iff.mp H
    obtain ⟨t396, A330, H⟩ := H
    replace H : (if t396 = 0 then (some (t389, t390, t391, t392, t393, t394, 0)) else (some (0, 0, 0, 0, 0, 0, t396))) = some (r1, r2, r3, r4, r5, r6, r7) := H
    have A33 := am A330
    clear A330
    by_cases c34 : t396 = 0
    ·rw [if_pos c34] at H
     have c34b0 : (t396 == 0) = true := beq_iff_eq.mpr c34
     have c34b1 : (t396 != 0) = false := bne_eq_false_iff_eq.mpr c34
     clear c34
     simp only [Option.some.injEq, Prod.mk.injEq] at H
     obtain ⟨rfl, rfl, rfl, rfl, rfl, rfl, rfl⟩ := H
     try go_wp2
     have n0_ := am (blk_drew BK384.out)
     have n1_ := am (blk_drew BK385.out)
     have n2_ := am (blk_drew BK386.out)
     have n3_ := am (below_drew1 HB.out)
     clear BK384 BK385 BK386 HB
     have BK384 := n0_
     have BK385 := n1_
     have BK386 := n2_
     have HB := n3_
     clear n0_ n1_ n2_ n3_
     refine start_ (n := 11) (S := fun w' => w'.cell? ⟨gb384, 0, none⟩ = some (.int .i64 a0_0) ∧ w'.cell? ⟨gb384, 1, none⟩ = some (.int .i64 a0_1) ∧ w'.cell? ⟨gb384, 2, none⟩ = some (.int .i64 a0_2) ∧ w'.cell? ⟨gb384, 3, none⟩ = some (.int .i64 a0_3) ∧ w'.cell? ⟨gb384, 4, none⟩ = some (.int .i64 a0_4) ∧ w'.cell? ⟨gb384, 5, none⟩ = some (.int .i64 a0_5) ∧ w'.cell? ⟨gb385, 0, none⟩ = some (.int .i64 a1_0) ∧ w'.cell? ⟨gb385, 1, none⟩ = some (.int .i64 a1_1) ∧ w'.cell? ⟨gb385, 2, none⟩ = some (.int .i64 a1_2)) (ds := []) #[F,F,F,F,F,F,F,F,F,F,F] (by kernel_rfl) rfl rfl ⟨(bc BK384.out 0).trans rfl, (bc BK384.out 1).trans rfl, (bc BK384.out 2).trans rfl, (bc BK384.out 3).trans rfl, (bc BK384.out 4).trans rfl, (bc BK384.out 5).trans rfl, (bc BK385.out 0).trans rfl, (bc BK385.out 1).trans rfl, (bc BK385.out 2).trans rfl⟩ (fun hHeld => ?_); refine with_tabW r_Move.tab6 r_Move.bits6 (fun HT_ HW_ => ?_)
     generalize wr.drew = w35 at BK384 BK385 BK386 HB hHeld ⊢
     refine pu (i := 0) (N := some 24) (fl 11 1 []) HT_ ?_
     refine pu (i := 4) (N := some 28) (fl 11 1 [4]) HT_ ?_
     refine tk (i := 1) (N := some 25) (fl 11 2 [4]) HT_ HW_ hHeld ?_
     refine tk (i := 2) (N := some 26) (fl 11 3 [4]) HT_ HW_ hHeld ?_
     refine tk (i := 5) (N := some 29) (fl 11 3 [4, 5]) HT_ HW_ hHeld ?_
     refine tk (i := 6) (N := some 30) (fl 11 3 [4, 5, 6]) HT_ HW_ hHeld ?_
     refine join_ (σ := Nat) 1 #[T,T,T,T,T,T,T,T,T,T,F] (fun s_ => [(27, .agg #[.int .i64 t389, .int .i64 t390, .int .i64 t391]), (31, .agg #[.int .i64 t392, .int .i64 t393, .int .i64 t394]), (7, .pointer (some ⟨s_, 0, none⟩)), (32, .agg #[.int .i64 t389, .int .i64 t390, .int .i64 t391, .int .i64 t392, .int .i64 t393, .int .i64 t394])]) (fun s_ w' => (w'.cell? ⟨gb384, 0, none⟩ = some (.int .i64 a0_0) ∧ w'.cell? ⟨gb384, 1, none⟩ = some (.int .i64 a0_1) ∧ w'.cell? ⟨gb384, 2, none⟩ = some (.int .i64 a0_2) ∧ w'.cell? ⟨gb384, 3, none⟩ = some (.int .i64 a0_3) ∧ w'.cell? ⟨gb384, 4, none⟩ = some (.int .i64 a0_4) ∧ w'.cell? ⟨gb384, 5, none⟩ = some (.int .i64 a0_5) ∧ w'.cell? ⟨gb385, 0, none⟩ = some (.int .i64 a1_0) ∧ w'.cell? ⟨gb385, 1, none⟩ = some (.int .i64 a1_1) ∧ w'.cell? ⟨gb385, 2, none⟩ = some (.int .i64 a1_2)) ∧ (w'.heap[gb384]? = some (.cells #[.int .i64 a0_0, .int .i64 a0_1, .int .i64 a0_2, .int .i64 a0_3, .int .i64 a0_4, .int .i64 a0_5] 25 (0, 0))) ∧ (w'.heap[gb385]? = some (.cells #[.int .i64 a1_0, .int .i64 a1_1, .int .i64 a1_2] 23 (0, 0))) ∧ (w'.heap[gb386]? = some (.cells #[.int .i64 x387000_1, .int .i64 x387001_1, .int .i64 x387002_1, .int .i64 x387003_1, .int .i64 x387004_1, .int .i64 x387005_1] 25 (0, 0))) ∧ (w'.heap[s_]? = some (.cells #[.int .i64 0, .int .i64 0, .int .i64 0, .int .i64 0, .int .i64 0, .int .i64 0] 25 (0, 0))) ∧ (w.heap.size ≤ s_) ∧ (w.heap.size ≤ s_) ∧ (gb384 ≠ s_) ∧ (s_ ≠ gb384) ∧ (gb385 ≠ s_) ∧ (s_ ≠ gb385) ∧ (gb386 ≠ s_) ∧ (s_ ≠ gb386) ∧ (Below w.heap.size w w')) ?_ ?_
     rotate_left
     ·intro hCont
      refine two_ (i := 3) (j := 9) (Ni := some 27) (Nj := some 7) #[T,T,T,T,T,T,T,F,F,F,F] (fl 11 3 [4, 5, 6, 9]) rfl rfl rfl rfl (two_of HT_.out (by kernel_rfl)) (by decide) (by decide) (fun K hK => ?_) (fun K hK => ?_)
      ·skip
       refine goes_ Try.func60 (by kernel_rfl) rfl #[.agg #[.int .i64 a0_0, .int .i64 a0_1, .int .i64 a0_2], .agg #[.int .i64 a1_0, .int .i64 a1_1, .int .i64 a1_2]] (by rfl) rfl rfl (by (try simp only [pml]); first | done | rfl | (simp only [pdt]; rfl)) ?_
       with_reducible refine (r_Add.calls a0_0 a0_1 a0_2 a1_0 a1_1 a1_2 t389 t390 t391 _ A31.out).mono ?_
       rintro e w36 ⟨rfl, hb⟩
       refine ⟨_, rfl, ?_⟩
       have n0_ := bB BK384 hb
       have n1_ := bB BK385 hb
       have n2_ := bB BK386 hb
       have n3_ := bS HB hb
       clear BK384 BK385 BK386 HB
       have BK384 := n0_
       have BK385 := n1_
       have BK386 := n2_
       have HB := n3_
       clear n0_ n1_ n2_ n3_
       (try clear hb)
       (try clear hb2)
       (try clear hk)
       (try clear hi)
       refine hK.out _ _ ⟨(bc BK384.out 0).trans rfl, (bc BK384.out 1).trans rfl, (bc BK384.out 2).trans rfl, (bc BK384.out 3).trans rfl, (bc BK384.out 4).trans rfl, (bc BK384.out 5).trans rfl, (bc BK385.out 0).trans rfl, (bc BK385.out 1).trans rfl, (bc BK385.out 2).trans rfl⟩ (fun hHeld => ?_)
       clear hK K
       refine norm_ (a' := ?_) ?_ ?_
       rotate_left
       ·show Act.put _ (some 27) _ = _
        simp only [Act.put, psl, i64_w, i32_w]
        rfl
       refine two_ (i := 7) (j := 9) (Ni := some 31) (Nj := some 7) #[T,T,T,T,T,T,T,T,F,F,F] (fl 11 7 [9]) rfl rfl rfl rfl (two_of HT_.out (by kernel_rfl)) (by decide) (by decide) (fun K hK => ?_) (fun K hK => ?_)
       ·skip
        refine goes_ Try.func60 (by kernel_rfl) rfl #[.agg #[.int .i64 a0_3, .int .i64 a0_4, .int .i64 a0_5], .agg #[.int .i64 a1_0, .int .i64 a1_1, .int .i64 a1_2]] (by rfl) rfl rfl (by (try simp only [pml]); first | done | rfl | (simp only [pdt]; rfl)) ?_
        with_reducible refine (r_Add.calls a0_3 a0_4 a0_5 a1_0 a1_1 a1_2 t392 t393 t394 _ A32.out).mono ?_
        rintro e w37 ⟨rfl, hb⟩
        refine ⟨_, rfl, ?_⟩
        have n0_ := bB BK384 hb
        have n1_ := bB BK385 hb
        have n2_ := bB BK386 hb
        have n3_ := bS HB hb
        clear BK384 BK385 BK386 HB
        have BK384 := n0_
        have BK385 := n1_
        have BK386 := n2_
        have HB := n3_
        clear n0_ n1_ n2_ n3_
        (try clear hb)
        (try clear hb2)
        (try clear hk)
        (try clear hi)
        refine hK.out _ _ ⟨(bc BK384.out 0).trans rfl, (bc BK384.out 1).trans rfl, (bc BK384.out 2).trans rfl, (bc BK384.out 3).trans rfl, (bc BK384.out 4).trans rfl, (bc BK384.out 5).trans rfl, (bc BK385.out 0).trans rfl, (bc BK385.out 1).trans rfl, (bc BK385.out 2).trans rfl⟩ (fun hHeld => ?_)
        clear hK K
        refine norm_ (a' := ?_) ?_ ?_
        rotate_left
        ·show Act.put _ (some 31) _ = _
         simp only [Act.put, psl, i64_w, i32_w]
         rfl
        refine pu (i := 8) (N := some 32) (fl 11 9 []) HT_ ?_
        refine one_ (i := 9) (N := some 7) (fl 11 10 []) rfl rfl (one_of HT_.out (by kernel_rfl)) (by decide) (fun K hK => ?_)
        refine box_step ?hg (N := 7) ?hd (cs := #[.int .i64 0, .int .i64 0, .int .i64 0, .int .i64 0, .int .i64 0, .int .i64 0]) (t := 25) ?hr ?_; (case hd | hg => rfl); (case hr => first | (go_simp; done) | (go_simp; rfl))
        intro gb395 hg w38 hbox hb
        have n0_ := bB BK384 hb
        have n1_ := bB BK385 hb
        have n2_ := bB BK386 hb
        have n3_ := bS HB hb
        have n4_ := am hbox
        have n5_ := sG HB hg
        have n6_ := sG HB hg
        have n7_ := nL BK384 hg
        have n8_ := nG BK384 hg
        have n9_ := nL BK385 hg
        have n10_ := nG BK385 hg
        have n11_ := nL BK386 hg
        have n12_ := nG BK386 hg
        clear BK384 BK385 BK386 HB
        have BK384 := n0_
        have BK385 := n1_
        have BK386 := n2_
        have HB := n3_
        have BK395 := n4_
        have GW395 := n5_
        have GE395 := n6_
        have NB384_395 := n7_
        have NB395_384 := n8_
        have NB385_395 := n9_
        have NB395_385 := n10_
        have NB386_395 := n11_
        have NB395_386 := n12_
        clear n0_ n1_ n2_ n3_ n4_ n5_ n6_ n7_ n8_ n9_ n10_ n11_ n12_ hb hbox hg
        refine hK.out _ _ ⟨(bc BK384.out 0).trans rfl, (bc BK384.out 1).trans rfl, (bc BK384.out 2).trans rfl, (bc BK384.out 3).trans rfl, (bc BK384.out 4).trans rfl, (bc BK384.out 5).trans rfl, (bc BK385.out 0).trans rfl, (bc BK385.out 1).trans rfl, (bc BK385.out 2).trans rfl⟩ (fun hHeld => ?_)
        clear hK K
        refine norm_ (a' := ?_) ?_ ?_
        rotate_left
        ·show Act.put _ (some 7) _ = _
         simp only [Act.put, psl, i64_w, i32_w]
         rfl
        exact norm_ (by simp only [putAll, Act.put, psl]) (hCont (gb395) _ ⟨hHeld, (fb BK384.out), (fb BK385.out), (fb BK386.out), (fb BK395.out), GW395.out, GE395.out, NB384_395.out, NB395_384.out, NB385_395.out, NB395_385.out, NB386_395.out, NB395_386.out, (fW HB.out)⟩)
       skip
       refine box_step ?hg (N := 7) ?hd (cs := #[.int .i64 0, .int .i64 0, .int .i64 0, .int .i64 0, .int .i64 0, .int .i64 0]) (t := 25) ?hr ?_; (case hd | hg => rfl); (case hr => first | (go_simp; done) | (go_simp; rfl))
       intro gb395 hg w37 hbox hb
       have n0_ := bB BK384 hb
       have n1_ := bB BK385 hb
       have n2_ := bB BK386 hb
       have n3_ := bS HB hb
       have n4_ := am hbox
       have n5_ := sG HB hg
       have n6_ := sG HB hg
       have n7_ := nL BK384 hg
       have n8_ := nG BK384 hg
       have n9_ := nL BK385 hg
       have n10_ := nG BK385 hg
       have n11_ := nL BK386 hg
       have n12_ := nG BK386 hg
       clear BK384 BK385 BK386 HB
       have BK384 := n0_
       have BK385 := n1_
       have BK386 := n2_
       have HB := n3_
       have BK395 := n4_
       have GW395 := n5_
       have GE395 := n6_
       have NB384_395 := n7_
       have NB395_384 := n8_
       have NB385_395 := n9_
       have NB395_385 := n10_
       have NB386_395 := n11_
       have NB395_386 := n12_
       clear n0_ n1_ n2_ n3_ n4_ n5_ n6_ n7_ n8_ n9_ n10_ n11_ n12_ hb hbox hg
       refine hK.out _ _ ⟨(bc BK384.out 0).trans rfl, (bc BK384.out 1).trans rfl, (bc BK384.out 2).trans rfl, (bc BK384.out 3).trans rfl, (bc BK384.out 4).trans rfl, (bc BK384.out 5).trans rfl, (bc BK385.out 0).trans rfl, (bc BK385.out 1).trans rfl, (bc BK385.out 2).trans rfl⟩ (fun hHeld => ?_)
       clear hK K
       refine norm_ (a' := ?_) ?_ ?_
       rotate_left
       ·show Act.put _ (some 7) _ = _
        simp only [Act.put, psl, i64_w, i32_w]
        rfl
       refine one_ (i := 7) (N := some 31) (fl 11 8 [9]) rfl rfl (one_of HT_.out (by kernel_rfl)) (by decide) (fun K hK => ?_)
       refine goes_ Try.func60 (by kernel_rfl) rfl #[.agg #[.int .i64 a0_3, .int .i64 a0_4, .int .i64 a0_5], .agg #[.int .i64 a1_0, .int .i64 a1_1, .int .i64 a1_2]] (by rfl) rfl rfl (by (try simp only [pml]); first | done | rfl | (simp only [pdt]; rfl)) ?_
       with_reducible refine (r_Add.calls a0_3 a0_4 a0_5 a1_0 a1_1 a1_2 t392 t393 t394 _ A32.out).mono ?_
       rintro e w38 ⟨rfl, hb⟩
       refine ⟨_, rfl, ?_⟩
       have n0_ := bB BK384 hb
       have n1_ := bB BK385 hb
       have n2_ := bB BK386 hb
       have n3_ := bB BK395 hb
       have n4_ := bS HB hb
       clear BK384 BK385 BK386 BK395 HB
       have BK384 := n0_
       have BK385 := n1_
       have BK386 := n2_
       have BK395 := n3_
       have HB := n4_
       clear n0_ n1_ n2_ n3_ n4_
       (try clear hb)
       (try clear hb2)
       (try clear hk)
       (try clear hi)
       refine hK.out _ _ ⟨(bc BK384.out 0).trans rfl, (bc BK384.out 1).trans rfl, (bc BK384.out 2).trans rfl, (bc BK384.out 3).trans rfl, (bc BK384.out 4).trans rfl, (bc BK384.out 5).trans rfl, (bc BK385.out 0).trans rfl, (bc BK385.out 1).trans rfl, (bc BK385.out 2).trans rfl⟩ (fun hHeld => ?_)
       clear hK K
       refine norm_ (a' := ?_) ?_ ?_
       rotate_left
       ·show Act.put _ (some 31) _ = _
        simp only [Act.put, psl, i64_w, i32_w]
        rfl
       refine pu (i := 8) (N := some 32) (fl 11 10 []) HT_ ?_
       exact norm_ (by simp only [putAll, Act.put, psl]) (hCont (gb395) _ ⟨hHeld, (fb BK384.out), (fb BK385.out), (fb BK386.out), (fb BK395.out), GW395.out, GE395.out, NB384_395.out, NB395_384.out, NB385_395.out, NB395_385.out, NB386_395.out, NB395_386.out, (fW HB.out)⟩)
      skip
      refine box_step ?hg (N := 7) ?hd (cs := #[.int .i64 0, .int .i64 0, .int .i64 0, .int .i64 0, .int .i64 0, .int .i64 0]) (t := 25) ?hr ?_; (case hd | hg => rfl); (case hr => first | (go_simp; done) | (go_simp; rfl))
      intro gb395 hg w36 hbox hb
      have n0_ := bB BK384 hb
      have n1_ := bB BK385 hb
      have n2_ := bB BK386 hb
      have n3_ := bS HB hb
      have n4_ := am hbox
      have n5_ := sG HB hg
      have n6_ := sG HB hg
      have n7_ := nL BK384 hg
      have n8_ := nG BK384 hg
      have n9_ := nL BK385 hg
      have n10_ := nG BK385 hg
      have n11_ := nL BK386 hg
      have n12_ := nG BK386 hg
      clear BK384 BK385 BK386 HB
      have BK384 := n0_
      have BK385 := n1_
      have BK386 := n2_
      have HB := n3_
      have BK395 := n4_
      have GW395 := n5_
      have GE395 := n6_
      have NB384_395 := n7_
      have NB395_384 := n8_
      have NB385_395 := n9_
      have NB395_385 := n10_
      have NB386_395 := n11_
      have NB395_386 := n12_
      clear n0_ n1_ n2_ n3_ n4_ n5_ n6_ n7_ n8_ n9_ n10_ n11_ n12_ hb hbox hg
      refine hK.out _ _ ⟨(bc BK384.out 0).trans rfl, (bc BK384.out 1).trans rfl, (bc BK384.out 2).trans rfl, (bc BK384.out 3).trans rfl, (bc BK384.out 4).trans rfl, (bc BK384.out 5).trans rfl, (bc BK385.out 0).trans rfl, (bc BK385.out 1).trans rfl, (bc BK385.out 2).trans rfl⟩ (fun hHeld => ?_)
      clear hK K
      refine norm_ (a' := ?_) ?_ ?_
      rotate_left
      ·show Act.put _ (some 7) _ = _
       simp only [Act.put, psl, i64_w, i32_w]
       rfl
      refine one_ (i := 3) (N := some 27) (fl 11 7 [9]) rfl rfl (one_of HT_.out (by kernel_rfl)) (by decide) (fun K hK => ?_)
      refine goes_ Try.func60 (by kernel_rfl) rfl #[.agg #[.int .i64 a0_0, .int .i64 a0_1, .int .i64 a0_2], .agg #[.int .i64 a1_0, .int .i64 a1_1, .int .i64 a1_2]] (by rfl) rfl rfl (by (try simp only [pml]); first | done | rfl | (simp only [pdt]; rfl)) ?_
      with_reducible refine (r_Add.calls a0_0 a0_1 a0_2 a1_0 a1_1 a1_2 t389 t390 t391 _ A31.out).mono ?_
      rintro e w37 ⟨rfl, hb⟩
      refine ⟨_, rfl, ?_⟩
      have n0_ := bB BK384 hb
      have n1_ := bB BK385 hb
      have n2_ := bB BK386 hb
      have n3_ := bB BK395 hb
      have n4_ := bS HB hb
      clear BK384 BK385 BK386 BK395 HB
      have BK384 := n0_
      have BK385 := n1_
      have BK386 := n2_
      have BK395 := n3_
      have HB := n4_
      clear n0_ n1_ n2_ n3_ n4_
      (try clear hb)
      (try clear hb2)
      (try clear hk)
      (try clear hi)
      refine hK.out _ _ ⟨(bc BK384.out 0).trans rfl, (bc BK384.out 1).trans rfl, (bc BK384.out 2).trans rfl, (bc BK384.out 3).trans rfl, (bc BK384.out 4).trans rfl, (bc BK384.out 5).trans rfl, (bc BK385.out 0).trans rfl, (bc BK385.out 1).trans rfl, (bc BK385.out 2).trans rfl⟩ (fun hHeld => ?_)
      clear hK K
      refine norm_ (a' := ?_) ?_ ?_
      rotate_left
      ·show Act.put _ (some 27) _ = _
       simp only [Act.put, psl, i64_w, i32_w]
       rfl
      refine one_ (i := 7) (N := some 31) (fl 11 8 [9]) rfl rfl (one_of HT_.out (by kernel_rfl)) (by decide) (fun K hK => ?_)
      refine goes_ Try.func60 (by kernel_rfl) rfl #[.agg #[.int .i64 a0_3, .int .i64 a0_4, .int .i64 a0_5], .agg #[.int .i64 a1_0, .int .i64 a1_1, .int .i64 a1_2]] (by rfl) rfl rfl (by (try simp only [pml]); first | done | rfl | (simp only [pdt]; rfl)) ?_
      with_reducible refine (r_Add.calls a0_3 a0_4 a0_5 a1_0 a1_1 a1_2 t392 t393 t394 _ A32.out).mono ?_
      rintro e w38 ⟨rfl, hb⟩
      refine ⟨_, rfl, ?_⟩
      have n0_ := bB BK384 hb
      have n1_ := bB BK385 hb
      have n2_ := bB BK386 hb
      have n3_ := bB BK395 hb
      have n4_ := bS HB hb
      clear BK384 BK385 BK386 BK395 HB
      have BK384 := n0_
      have BK385 := n1_
      have BK386 := n2_
      have BK395 := n3_
      have HB := n4_
      clear n0_ n1_ n2_ n3_ n4_
      (try clear hb)
      (try clear hb2)
      (try clear hk)
      (try clear hi)
      refine hK.out _ _ ⟨(bc BK384.out 0).trans rfl, (bc BK384.out 1).trans rfl, (bc BK384.out 2).trans rfl, (bc BK384.out 3).trans rfl, (bc BK384.out 4).trans rfl, (bc BK384.out 5).trans rfl, (bc BK385.out 0).trans rfl, (bc BK385.out 1).trans rfl, (bc BK385.out 2).trans rfl⟩ (fun hHeld => ?_)
      clear hK K
      refine norm_ (a' := ?_) ?_ ?_
      rotate_left
      ·show Act.put _ (some 31) _ = _
       simp only [Act.put, psl, i64_w, i32_w]
       rfl
      refine pu (i := 8) (N := some 32) (fl 11 10 []) HT_ ?_
      exact norm_ (by simp only [putAll, Act.put, psl]) (hCont (gb395) _ ⟨hHeld, (fb BK384.out), (fb BK385.out), (fb BK386.out), (fb BK395.out), GW395.out, GE395.out, NB384_395.out, NB395_384.out, NB385_395.out, NB395_385.out, NB386_395.out, NB395_386.out, (fW HB.out)⟩)
     rintro gb395 w39 ⟨hS_, h0_, h1_, h2_, h3_, h4_, h5_, h6_, h7_, h8_, h9_, h10_, h11_, h12_⟩
     have n0_ : Aside0 (w39.heap[gb384]? = some (.cells #[.int .i64 a0_0, .int .i64 a0_1, .int .i64 a0_2, .int .i64 a0_3, .int .i64 a0_4, .int .i64 a0_5] 25 (0, 0))) := ⟨h0_⟩
     have n1_ : Aside0 (w39.heap[gb385]? = some (.cells #[.int .i64 a1_0, .int .i64 a1_1, .int .i64 a1_2] 23 (0, 0))) := ⟨h1_⟩
     have n2_ : Aside0 (w39.heap[gb386]? = some (.cells #[.int .i64 x387000_1, .int .i64 x387001_1, .int .i64 x387002_1, .int .i64 x387003_1, .int .i64 x387004_1, .int .i64 x387005_1] 25 (0, 0))) := ⟨h2_⟩
     have n3_ : Aside0 (w39.heap[gb395]? = some (.cells #[.int .i64 0, .int .i64 0, .int .i64 0, .int .i64 0, .int .i64 0, .int .i64 0] 25 (0, 0))) := ⟨h3_⟩
     have n4_ : Aside0 (w.heap.size ≤ gb395) := ⟨h4_⟩
     have n5_ : Aside0 (w.heap.size ≤ gb395) := ⟨h5_⟩
     have n6_ : Aside0 (gb384 ≠ gb395) := ⟨h6_⟩
     have n7_ : Aside0 (gb395 ≠ gb384) := ⟨h7_⟩
     have n8_ : Aside0 (gb385 ≠ gb395) := ⟨h8_⟩
     have n9_ : Aside0 (gb395 ≠ gb385) := ⟨h9_⟩
     have n10_ : Aside0 (gb386 ≠ gb395) := ⟨h10_⟩
     have n11_ : Aside0 (gb395 ≠ gb386) := ⟨h11_⟩
     have n12_ : Aside0 (Below w.heap.size w w39) := ⟨h12_⟩
     clear BK384 BK385 BK386 HB h0_ h1_ h2_ h3_ h4_ h5_ h6_ h7_ h8_ h9_ h10_ h11_ h12_
     have BK384 := n0_
     have BK385 := n1_
     have BK386 := n2_
     have BK395 := n3_
     have GW395 := n4_
     have GE395 := n5_
     have NB384_395 := n6_
     have NB395_384 := n7_
     have NB385_395 := n8_
     have NB395_385 := n9_
     have NB386_395 := n10_
     have NB395_386 := n11_
     have HB := n12_
     clear n0_ n1_ n2_ n3_ n4_ n5_ n6_ n7_ n8_ n9_ n10_ n11_ n12_
     have hHeld : w39.cell? ⟨gb384, 0, none⟩ = some (.int .i64 a0_0) ∧ w39.cell? ⟨gb384, 1, none⟩ = some (.int .i64 a0_1) ∧ w39.cell? ⟨gb384, 2, none⟩ = some (.int .i64 a0_2) ∧ w39.cell? ⟨gb384, 3, none⟩ = some (.int .i64 a0_3) ∧ w39.cell? ⟨gb384, 4, none⟩ = some (.int .i64 a0_4) ∧ w39.cell? ⟨gb384, 5, none⟩ = some (.int .i64 a0_5) ∧ w39.cell? ⟨gb385, 0, none⟩ = some (.int .i64 a1_0) ∧ w39.cell? ⟨gb385, 1, none⟩ = some (.int .i64 a1_1) ∧ w39.cell? ⟨gb385, 2, none⟩ = some (.int .i64 a1_2) := hS_
     refine norm_ (a' := ?_) ?_ ?_
     rotate_left
     ·simp only [putAll, Act.put, psl]
      rfl
     refine one_ (i := 10) (N := none) (fl 11 11 []) rfl rfl (one_of HT_.out (by kernel_rfl)) (by decide) (fun K hK => ?_)
     have hs40 : w39.cell? ⟨gb395, 0, none⟩ = some (.int .i64 0) := (bc BK395.out 0).trans rfl
     have hfs40 := bf BK395.out 0
     have hns40_0 := NB384_395.out
     have hns40_1 := NB385_395.out
     have hns40_2 := NB386_395.out
     have hms40_0 := NB395_384.out
     have hms40_1 := NB395_385.out
     have hms40_2 := NB395_386.out
     have hs41 : w39.cell? ⟨gb395, 1, none⟩ = some (.int .i64 0) := (bc BK395.out 1).trans rfl
     have hfs41 := bf BK395.out 1
     have hns41_0 := NB384_395.out
     have hns41_1 := NB385_395.out
     have hns41_2 := NB386_395.out
     have hms41_0 := NB395_384.out
     have hms41_1 := NB395_385.out
     have hms41_2 := NB395_386.out
     have hs42 : w39.cell? ⟨gb395, 2, none⟩ = some (.int .i64 0) := (bc BK395.out 2).trans rfl
     have hfs42 := bf BK395.out 2
     have hns42_0 := NB384_395.out
     have hns42_1 := NB385_395.out
     have hns42_2 := NB386_395.out
     have hms42_0 := NB395_384.out
     have hms42_1 := NB395_385.out
     have hms42_2 := NB395_386.out
     have hs43 : w39.cell? ⟨gb395, 3, none⟩ = some (.int .i64 0) := (bc BK395.out 3).trans rfl
     have hfs43 := bf BK395.out 3
     have hns43_0 := NB384_395.out
     have hns43_1 := NB385_395.out
     have hns43_2 := NB386_395.out
     have hms43_0 := NB395_384.out
     have hms43_1 := NB395_385.out
     have hms43_2 := NB395_386.out
     have hs44 : w39.cell? ⟨gb395, 4, none⟩ = some (.int .i64 0) := (bc BK395.out 4).trans rfl
     have hfs44 := bf BK395.out 4
     have hns44_0 := NB384_395.out
     have hns44_1 := NB385_395.out
     have hns44_2 := NB386_395.out
     have hms44_0 := NB395_384.out
     have hms44_1 := NB395_385.out
     have hms44_2 := NB395_386.out
     have hs45 : w39.cell? ⟨gb395, 5, none⟩ = some (.int .i64 0) := (bc BK395.out 5).trans rfl
     have hfs45 := bf BK395.out 5
     have hns45_0 := NB384_395.out
     have hns45_1 := NB385_395.out
     have hns45_2 := NB386_395.out
     have hms45_0 := NB395_384.out
     have hms45_1 := NB395_385.out
     have hms45_2 := NB395_386.out
     refine skip_ (w1 := ?_) (by rfl) rfl ?_ ?_
     rotate_left
     ·go_simp
      rfl
     refine hK.out _ _ ⟨((cf (p := ⟨gb395, _, none⟩) NB384_395.out _).trans (((cf (p := ⟨gb395, _, none⟩) NB384_395.out _).trans (((cf (p := ⟨gb395, _, none⟩) NB384_395.out _).trans (((cf (p := ⟨gb395, _, none⟩) NB384_395.out _).trans (((cf (p := ⟨gb395, _, none⟩) NB384_395.out _).trans (((cf (p := ⟨gb395, _, none⟩) NB384_395.out _).trans (hHeld.1)))))))))))), ((cf (p := ⟨gb395, _, none⟩) NB384_395.out _).trans (((cf (p := ⟨gb395, _, none⟩) NB384_395.out _).trans (((cf (p := ⟨gb395, _, none⟩) NB384_395.out _).trans (((cf (p := ⟨gb395, _, none⟩) NB384_395.out _).trans (((cf (p := ⟨gb395, _, none⟩) NB384_395.out _).trans (((cf (p := ⟨gb395, _, none⟩) NB384_395.out _).trans (hHeld.2.1)))))))))))), ((cf (p := ⟨gb395, _, none⟩) NB384_395.out _).trans (((cf (p := ⟨gb395, _, none⟩) NB384_395.out _).trans (((cf (p := ⟨gb395, _, none⟩) NB384_395.out _).trans (((cf (p := ⟨gb395, _, none⟩) NB384_395.out _).trans (((cf (p := ⟨gb395, _, none⟩) NB384_395.out _).trans (((cf (p := ⟨gb395, _, none⟩) NB384_395.out _).trans (hHeld.2.2.1)))))))))))), ((cf (p := ⟨gb395, _, none⟩) NB384_395.out _).trans (((cf (p := ⟨gb395, _, none⟩) NB384_395.out _).trans (((cf (p := ⟨gb395, _, none⟩) NB384_395.out _).trans (((cf (p := ⟨gb395, _, none⟩) NB384_395.out _).trans (((cf (p := ⟨gb395, _, none⟩) NB384_395.out _).trans (((cf (p := ⟨gb395, _, none⟩) NB384_395.out _).trans (hHeld.2.2.2.1)))))))))))), ((cf (p := ⟨gb395, _, none⟩) NB384_395.out _).trans (((cf (p := ⟨gb395, _, none⟩) NB384_395.out _).trans (((cf (p := ⟨gb395, _, none⟩) NB384_395.out _).trans (((cf (p := ⟨gb395, _, none⟩) NB384_395.out _).trans (((cf (p := ⟨gb395, _, none⟩) NB384_395.out _).trans (((cf (p := ⟨gb395, _, none⟩) NB384_395.out _).trans (hHeld.2.2.2.2.1)))))))))))), ((cf (p := ⟨gb395, _, none⟩) NB384_395.out _).trans (((cf (p := ⟨gb395, _, none⟩) NB384_395.out _).trans (((cf (p := ⟨gb395, _, none⟩) NB384_395.out _).trans (((cf (p := ⟨gb395, _, none⟩) NB384_395.out _).trans (((cf (p := ⟨gb395, _, none⟩) NB384_395.out _).trans (((cf (p := ⟨gb395, _, none⟩) NB384_395.out _).trans (hHeld.2.2.2.2.2.1)))))))))))), ((cf (p := ⟨gb395, _, none⟩) NB385_395.out _).trans (((cf (p := ⟨gb395, _, none⟩) NB385_395.out _).trans (((cf (p := ⟨gb395, _, none⟩) NB385_395.out _).trans (((cf (p := ⟨gb395, _, none⟩) NB385_395.out _).trans (((cf (p := ⟨gb395, _, none⟩) NB385_395.out _).trans (((cf (p := ⟨gb395, _, none⟩) NB385_395.out _).trans (hHeld.2.2.2.2.2.2.1)))))))))))), ((cf (p := ⟨gb395, _, none⟩) NB385_395.out _).trans (((cf (p := ⟨gb395, _, none⟩) NB385_395.out _).trans (((cf (p := ⟨gb395, _, none⟩) NB385_395.out _).trans (((cf (p := ⟨gb395, _, none⟩) NB385_395.out _).trans (((cf (p := ⟨gb395, _, none⟩) NB385_395.out _).trans (((cf (p := ⟨gb395, _, none⟩) NB385_395.out _).trans (hHeld.2.2.2.2.2.2.2.1)))))))))))), ((cf (p := ⟨gb395, _, none⟩) NB385_395.out _).trans (((cf (p := ⟨gb395, _, none⟩) NB385_395.out _).trans (((cf (p := ⟨gb395, _, none⟩) NB385_395.out _).trans (((cf (p := ⟨gb395, _, none⟩) NB385_395.out _).trans (((cf (p := ⟨gb395, _, none⟩) NB385_395.out _).trans (((cf (p := ⟨gb395, _, none⟩) NB385_395.out _).trans (hHeld.2.2.2.2.2.2.2.2))))))))))))⟩ (fun hHeld => ?_)
     clear hK K
     refine done_ (done_of HT_.out (by kernel_rfl)) ?_
     have hnb46 := NB395_384.out
     have hnc46 := NB384_395.out
     have hnb47 := NB395_385.out
     have hnc47 := NB385_395.out
     have hnb48 := NB395_386.out
     have hnc48 := NB386_395.out
     have := yC1 BK395
     have := kC1 BK395
     have := kC2 BK395
     have := kC3 BK395
     have := kC4 BK395
     have := kC5 BK395
     have := bf BK395.out 0
     have := bf BK395.out 1
     have := bf BK395.out 2
     have := bf BK395.out 3
     have := bf BK395.out 4
     have := bf BK395.out 5
     try go_wp2_with (first | ((with_reducible refine gate_callee (f := 19) rfl ?_); refine goesL_ (some 34) rfl rfl Try.func19 (by kernel_rfl) rfl #[.agg #[.int .i64 t389, .int .i64 t390, .int .i64 t391, .int .i64 t392, .int .i64 t393, .int .i64 t394]] rfl (by (try simp only [pml]); first | done | rfl | (simp only [pdt]; rfl)) ?_; (with_reducible refine (r_Check.calls k1 t389 t390 t391 t392 t393 t394 t396 _ A33.out).mono ?_); rintro e w50 ⟨rfl, hb⟩; refine ⟨_, rfl, ?_⟩; replace BK384 := xC1 (kfC BK384.out) hb; replace BK385 := xC1 (kfC BK385.out) hb; replace BK386 := xC1 (kfC BK386.out) hb; replace BK395 := xC1 (o := .cells #[.int .i64 t389, .int .i64 t390, .int .i64 t391, .int .i64 t392, .int .i64 t393, .int .i64 t394] 25 (0, 0)) (kkC BK395.out) hb; replace HB := bS HB hb; (try clear hb); (try clear hb2); (try clear hk); (try clear hi); obtain ⟨_, _, _, _, _, _, _, _, _, _, _, _⟩ := zC6 BK395; have hnb52 := NB386_384.out; have hnc52 := NB384_386.out; have hnb53 := NB386_385.out; have hnc53 := NB385_386.out; obtain ⟨_, _, _, _, _, _, _, _, _, _, _, _⟩ := zC6 BK386))
     refine bodyPost_ret (results_ct rfl _ _ gb386 25 #[.int .i64 t389, .int .i64 t390, .int .i64 t391, .int .i64 t392, .int .i64 t393, .int .i64 t394] (0, 0) _ rfl (kkC BK386.out) Try.underlying25 rfl (by kernel_rfl)) rfl ?_
     exact ⟨sqE, fW HB.out⟩
    ·rw [if_neg c34] at H
     have c34b0 : (t396 == 0) = false := beq_eq_false_iff_ne.mpr c34
     have c34b1 : (t396 != 0) = true := bne_iff_ne.mpr c34
     simp only [Option.some.injEq, Prod.mk.injEq] at H
     obtain ⟨rfl, rfl, rfl, rfl, rfl, rfl, rfl⟩ := H
     try go_wp2
     have n0_ := am (blk_drew BK384.out)
     have n1_ := am (blk_drew BK385.out)
     have n2_ := am (blk_drew BK386.out)
     have n3_ := am (below_drew1 HB.out)
     clear BK384 BK385 BK386 HB
     have BK384 := n0_
     have BK385 := n1_
     have BK386 := n2_
     have HB := n3_
     clear n0_ n1_ n2_ n3_
     refine start_ (n := 11) (S := fun w' => w'.cell? ⟨gb384, 0, none⟩ = some (.int .i64 a0_0) ∧ w'.cell? ⟨gb384, 1, none⟩ = some (.int .i64 a0_1) ∧ w'.cell? ⟨gb384, 2, none⟩ = some (.int .i64 a0_2) ∧ w'.cell? ⟨gb384, 3, none⟩ = some (.int .i64 a0_3) ∧ w'.cell? ⟨gb384, 4, none⟩ = some (.int .i64 a0_4) ∧ w'.cell? ⟨gb384, 5, none⟩ = some (.int .i64 a0_5) ∧ w'.cell? ⟨gb385, 0, none⟩ = some (.int .i64 a1_0) ∧ w'.cell? ⟨gb385, 1, none⟩ = some (.int .i64 a1_1) ∧ w'.cell? ⟨gb385, 2, none⟩ = some (.int .i64 a1_2)) (ds := []) #[F,F,F,F,F,F,F,F,F,F,F] (by kernel_rfl) rfl rfl ⟨(bc BK384.out 0).trans rfl, (bc BK384.out 1).trans rfl, (bc BK384.out 2).trans rfl, (bc BK384.out 3).trans rfl, (bc BK384.out 4).trans rfl, (bc BK384.out 5).trans rfl, (bc BK385.out 0).trans rfl, (bc BK385.out 1).trans rfl, (bc BK385.out 2).trans rfl⟩ (fun hHeld => ?_); refine with_tabW r_Move.tab6 r_Move.bits6 (fun HT_ HW_ => ?_)
     generalize wr.drew = w55 at BK384 BK385 BK386 HB hHeld ⊢
     refine pu (i := 0) (N := some 24) (fl 11 1 []) HT_ ?_
     refine pu (i := 4) (N := some 28) (fl 11 1 [4]) HT_ ?_
     refine tk (i := 1) (N := some 25) (fl 11 2 [4]) HT_ HW_ hHeld ?_
     refine tk (i := 2) (N := some 26) (fl 11 3 [4]) HT_ HW_ hHeld ?_
     refine tk (i := 5) (N := some 29) (fl 11 3 [4, 5]) HT_ HW_ hHeld ?_
     refine tk (i := 6) (N := some 30) (fl 11 3 [4, 5, 6]) HT_ HW_ hHeld ?_
     refine join_ (σ := Nat) 1 #[T,T,T,T,T,T,T,T,T,T,F] (fun s_ => [(27, .agg #[.int .i64 t389, .int .i64 t390, .int .i64 t391]), (31, .agg #[.int .i64 t392, .int .i64 t393, .int .i64 t394]), (7, .pointer (some ⟨s_, 0, none⟩)), (32, .agg #[.int .i64 t389, .int .i64 t390, .int .i64 t391, .int .i64 t392, .int .i64 t393, .int .i64 t394])]) (fun s_ w' => (w'.cell? ⟨gb384, 0, none⟩ = some (.int .i64 a0_0) ∧ w'.cell? ⟨gb384, 1, none⟩ = some (.int .i64 a0_1) ∧ w'.cell? ⟨gb384, 2, none⟩ = some (.int .i64 a0_2) ∧ w'.cell? ⟨gb384, 3, none⟩ = some (.int .i64 a0_3) ∧ w'.cell? ⟨gb384, 4, none⟩ = some (.int .i64 a0_4) ∧ w'.cell? ⟨gb384, 5, none⟩ = some (.int .i64 a0_5) ∧ w'.cell? ⟨gb385, 0, none⟩ = some (.int .i64 a1_0) ∧ w'.cell? ⟨gb385, 1, none⟩ = some (.int .i64 a1_1) ∧ w'.cell? ⟨gb385, 2, none⟩ = some (.int .i64 a1_2)) ∧ (w'.heap[gb384]? = some (.cells #[.int .i64 a0_0, .int .i64 a0_1, .int .i64 a0_2, .int .i64 a0_3, .int .i64 a0_4, .int .i64 a0_5] 25 (0, 0))) ∧ (w'.heap[gb385]? = some (.cells #[.int .i64 a1_0, .int .i64 a1_1, .int .i64 a1_2] 23 (0, 0))) ∧ (w'.heap[gb386]? = some (.cells #[.int .i64 x387000_1, .int .i64 x387001_1, .int .i64 x387002_1, .int .i64 x387003_1, .int .i64 x387004_1, .int .i64 x387005_1] 25 (0, 0))) ∧ (w'.heap[s_]? = some (.cells #[.int .i64 0, .int .i64 0, .int .i64 0, .int .i64 0, .int .i64 0, .int .i64 0] 25 (0, 0))) ∧ (w.heap.size ≤ s_) ∧ (w.heap.size ≤ s_) ∧ (gb384 ≠ s_) ∧ (s_ ≠ gb384) ∧ (gb385 ≠ s_) ∧ (s_ ≠ gb385) ∧ (gb386 ≠ s_) ∧ (s_ ≠ gb386) ∧ (Below w.heap.size w w')) ?_ ?_
     rotate_left
     ·intro hCont
      refine two_ (i := 3) (j := 9) (Ni := some 27) (Nj := some 7) #[T,T,T,T,T,T,T,F,F,F,F] (fl 11 3 [4, 5, 6, 9]) rfl rfl rfl rfl (two_of HT_.out (by kernel_rfl)) (by decide) (by decide) (fun K hK => ?_) (fun K hK => ?_)
      ·skip
       refine goes_ Try.func60 (by kernel_rfl) rfl #[.agg #[.int .i64 a0_0, .int .i64 a0_1, .int .i64 a0_2], .agg #[.int .i64 a1_0, .int .i64 a1_1, .int .i64 a1_2]] (by rfl) rfl rfl (by (try simp only [pml]); first | done | rfl | (simp only [pdt]; rfl)) ?_
       with_reducible refine (r_Add.calls a0_0 a0_1 a0_2 a1_0 a1_1 a1_2 t389 t390 t391 _ A31.out).mono ?_
       rintro e w56 ⟨rfl, hb⟩
       refine ⟨_, rfl, ?_⟩
       have n0_ := bB BK384 hb
       have n1_ := bB BK385 hb
       have n2_ := bB BK386 hb
       have n3_ := bS HB hb
       clear BK384 BK385 BK386 HB
       have BK384 := n0_
       have BK385 := n1_
       have BK386 := n2_
       have HB := n3_
       clear n0_ n1_ n2_ n3_
       (try clear hb)
       (try clear hb2)
       (try clear hk)
       (try clear hi)
       refine hK.out _ _ ⟨(bc BK384.out 0).trans rfl, (bc BK384.out 1).trans rfl, (bc BK384.out 2).trans rfl, (bc BK384.out 3).trans rfl, (bc BK384.out 4).trans rfl, (bc BK384.out 5).trans rfl, (bc BK385.out 0).trans rfl, (bc BK385.out 1).trans rfl, (bc BK385.out 2).trans rfl⟩ (fun hHeld => ?_)
       clear hK K
       refine norm_ (a' := ?_) ?_ ?_
       rotate_left
       ·show Act.put _ (some 27) _ = _
        simp only [Act.put, psl, i64_w, i32_w]
        rfl
       refine two_ (i := 7) (j := 9) (Ni := some 31) (Nj := some 7) #[T,T,T,T,T,T,T,T,F,F,F] (fl 11 7 [9]) rfl rfl rfl rfl (two_of HT_.out (by kernel_rfl)) (by decide) (by decide) (fun K hK => ?_) (fun K hK => ?_)
       ·skip
        refine goes_ Try.func60 (by kernel_rfl) rfl #[.agg #[.int .i64 a0_3, .int .i64 a0_4, .int .i64 a0_5], .agg #[.int .i64 a1_0, .int .i64 a1_1, .int .i64 a1_2]] (by rfl) rfl rfl (by (try simp only [pml]); first | done | rfl | (simp only [pdt]; rfl)) ?_
        with_reducible refine (r_Add.calls a0_3 a0_4 a0_5 a1_0 a1_1 a1_2 t392 t393 t394 _ A32.out).mono ?_
        rintro e w57 ⟨rfl, hb⟩
        refine ⟨_, rfl, ?_⟩
        have n0_ := bB BK384 hb
        have n1_ := bB BK385 hb
        have n2_ := bB BK386 hb
        have n3_ := bS HB hb
        clear BK384 BK385 BK386 HB
        have BK384 := n0_
        have BK385 := n1_
        have BK386 := n2_
        have HB := n3_
        clear n0_ n1_ n2_ n3_
        (try clear hb)
        (try clear hb2)
        (try clear hk)
        (try clear hi)
        refine hK.out _ _ ⟨(bc BK384.out 0).trans rfl, (bc BK384.out 1).trans rfl, (bc BK384.out 2).trans rfl, (bc BK384.out 3).trans rfl, (bc BK384.out 4).trans rfl, (bc BK384.out 5).trans rfl, (bc BK385.out 0).trans rfl, (bc BK385.out 1).trans rfl, (bc BK385.out 2).trans rfl⟩ (fun hHeld => ?_)
        clear hK K
        refine norm_ (a' := ?_) ?_ ?_
        rotate_left
        ·show Act.put _ (some 31) _ = _
         simp only [Act.put, psl, i64_w, i32_w]
         rfl
        refine pu (i := 8) (N := some 32) (fl 11 9 []) HT_ ?_
        refine one_ (i := 9) (N := some 7) (fl 11 10 []) rfl rfl (one_of HT_.out (by kernel_rfl)) (by decide) (fun K hK => ?_)
        refine box_step ?hg (N := 7) ?hd (cs := #[.int .i64 0, .int .i64 0, .int .i64 0, .int .i64 0, .int .i64 0, .int .i64 0]) (t := 25) ?hr ?_; (case hd | hg => rfl); (case hr => first | (go_simp; done) | (go_simp; rfl))
        intro gb395 hg w58 hbox hb
        have n0_ := bB BK384 hb
        have n1_ := bB BK385 hb
        have n2_ := bB BK386 hb
        have n3_ := bS HB hb
        have n4_ := am hbox
        have n5_ := sG HB hg
        have n6_ := sG HB hg
        have n7_ := nL BK384 hg
        have n8_ := nG BK384 hg
        have n9_ := nL BK385 hg
        have n10_ := nG BK385 hg
        have n11_ := nL BK386 hg
        have n12_ := nG BK386 hg
        clear BK384 BK385 BK386 HB
        have BK384 := n0_
        have BK385 := n1_
        have BK386 := n2_
        have HB := n3_
        have BK395 := n4_
        have GW395 := n5_
        have GE395 := n6_
        have NB384_395 := n7_
        have NB395_384 := n8_
        have NB385_395 := n9_
        have NB395_385 := n10_
        have NB386_395 := n11_
        have NB395_386 := n12_
        clear n0_ n1_ n2_ n3_ n4_ n5_ n6_ n7_ n8_ n9_ n10_ n11_ n12_ hb hbox hg
        refine hK.out _ _ ⟨(bc BK384.out 0).trans rfl, (bc BK384.out 1).trans rfl, (bc BK384.out 2).trans rfl, (bc BK384.out 3).trans rfl, (bc BK384.out 4).trans rfl, (bc BK384.out 5).trans rfl, (bc BK385.out 0).trans rfl, (bc BK385.out 1).trans rfl, (bc BK385.out 2).trans rfl⟩ (fun hHeld => ?_)
        clear hK K
        refine norm_ (a' := ?_) ?_ ?_
        rotate_left
        ·show Act.put _ (some 7) _ = _
         simp only [Act.put, psl, i64_w, i32_w]
         rfl
        exact norm_ (by simp only [putAll, Act.put, psl]) (hCont (gb395) _ ⟨hHeld, (fb BK384.out), (fb BK385.out), (fb BK386.out), (fb BK395.out), GW395.out, GE395.out, NB384_395.out, NB395_384.out, NB385_395.out, NB395_385.out, NB386_395.out, NB395_386.out, (fW HB.out)⟩)
       skip
       refine box_step ?hg (N := 7) ?hd (cs := #[.int .i64 0, .int .i64 0, .int .i64 0, .int .i64 0, .int .i64 0, .int .i64 0]) (t := 25) ?hr ?_; (case hd | hg => rfl); (case hr => first | (go_simp; done) | (go_simp; rfl))
       intro gb395 hg w57 hbox hb
       have n0_ := bB BK384 hb
       have n1_ := bB BK385 hb
       have n2_ := bB BK386 hb
       have n3_ := bS HB hb
       have n4_ := am hbox
       have n5_ := sG HB hg
       have n6_ := sG HB hg
       have n7_ := nL BK384 hg
       have n8_ := nG BK384 hg
       have n9_ := nL BK385 hg
       have n10_ := nG BK385 hg
       have n11_ := nL BK386 hg
       have n12_ := nG BK386 hg
       clear BK384 BK385 BK386 HB
       have BK384 := n0_
       have BK385 := n1_
       have BK386 := n2_
       have HB := n3_
       have BK395 := n4_
       have GW395 := n5_
       have GE395 := n6_
       have NB384_395 := n7_
       have NB395_384 := n8_
       have NB385_395 := n9_
       have NB395_385 := n10_
       have NB386_395 := n11_
       have NB395_386 := n12_
       clear n0_ n1_ n2_ n3_ n4_ n5_ n6_ n7_ n8_ n9_ n10_ n11_ n12_ hb hbox hg
       refine hK.out _ _ ⟨(bc BK384.out 0).trans rfl, (bc BK384.out 1).trans rfl, (bc BK384.out 2).trans rfl, (bc BK384.out 3).trans rfl, (bc BK384.out 4).trans rfl, (bc BK384.out 5).trans rfl, (bc BK385.out 0).trans rfl, (bc BK385.out 1).trans rfl, (bc BK385.out 2).trans rfl⟩ (fun hHeld => ?_)
       clear hK K
       refine norm_ (a' := ?_) ?_ ?_
       rotate_left
       ·show Act.put _ (some 7) _ = _
        simp only [Act.put, psl, i64_w, i32_w]
        rfl
       refine one_ (i := 7) (N := some 31) (fl 11 8 [9]) rfl rfl (one_of HT_.out (by kernel_rfl)) (by decide) (fun K hK => ?_)
       refine goes_ Try.func60 (by kernel_rfl) rfl #[.agg #[.int .i64 a0_3, .int .i64 a0_4, .int .i64 a0_5], .agg #[.int .i64 a1_0, .int .i64 a1_1, .int .i64 a1_2]] (by rfl) rfl rfl (by (try simp only [pml]); first | done | rfl | (simp only [pdt]; rfl)) ?_
       with_reducible refine (r_Add.calls a0_3 a0_4 a0_5 a1_0 a1_1 a1_2 t392 t393 t394 _ A32.out).mono ?_
       rintro e w58 ⟨rfl, hb⟩
       refine ⟨_, rfl, ?_⟩
       have n0_ := bB BK384 hb
       have n1_ := bB BK385 hb
       have n2_ := bB BK386 hb
       have n3_ := bB BK395 hb
       have n4_ := bS HB hb
       clear BK384 BK385 BK386 BK395 HB
       have BK384 := n0_
       have BK385 := n1_
       have BK386 := n2_
       have BK395 := n3_
       have HB := n4_
       clear n0_ n1_ n2_ n3_ n4_
       (try clear hb)
       (try clear hb2)
       (try clear hk)
       (try clear hi)
       refine hK.out _ _ ⟨(bc BK384.out 0).trans rfl, (bc BK384.out 1).trans rfl, (bc BK384.out 2).trans rfl, (bc BK384.out 3).trans rfl, (bc BK384.out 4).trans rfl, (bc BK384.out 5).trans rfl, (bc BK385.out 0).trans rfl, (bc BK385.out 1).trans rfl, (bc BK385.out 2).trans rfl⟩ (fun hHeld => ?_)
       clear hK K
       refine norm_ (a' := ?_) ?_ ?_
       rotate_left
       ·show Act.put _ (some 31) _ = _
        simp only [Act.put, psl, i64_w, i32_w]
        rfl
       refine pu (i := 8) (N := some 32) (fl 11 10 []) HT_ ?_
       exact norm_ (by simp only [putAll, Act.put, psl]) (hCont (gb395) _ ⟨hHeld, (fb BK384.out), (fb BK385.out), (fb BK386.out), (fb BK395.out), GW395.out, GE395.out, NB384_395.out, NB395_384.out, NB385_395.out, NB395_385.out, NB386_395.out, NB395_386.out, (fW HB.out)⟩)
      skip
      refine box_step ?hg (N := 7) ?hd (cs := #[.int .i64 0, .int .i64 0, .int .i64 0, .int .i64 0, .int .i64 0, .int .i64 0]) (t := 25) ?hr ?_; (case hd | hg => rfl); (case hr => first | (go_simp; done) | (go_simp; rfl))
      intro gb395 hg w56 hbox hb
      have n0_ := bB BK384 hb
      have n1_ := bB BK385 hb
      have n2_ := bB BK386 hb
      have n3_ := bS HB hb
      have n4_ := am hbox
      have n5_ := sG HB hg
      have n6_ := sG HB hg
      have n7_ := nL BK384 hg
      have n8_ := nG BK384 hg
      have n9_ := nL BK385 hg
      have n10_ := nG BK385 hg
      have n11_ := nL BK386 hg
      have n12_ := nG BK386 hg
      clear BK384 BK385 BK386 HB
      have BK384 := n0_
      have BK385 := n1_
      have BK386 := n2_
      have HB := n3_
      have BK395 := n4_
      have GW395 := n5_
      have GE395 := n6_
      have NB384_395 := n7_
      have NB395_384 := n8_
      have NB385_395 := n9_
      have NB395_385 := n10_
      have NB386_395 := n11_
      have NB395_386 := n12_
      clear n0_ n1_ n2_ n3_ n4_ n5_ n6_ n7_ n8_ n9_ n10_ n11_ n12_ hb hbox hg
      refine hK.out _ _ ⟨(bc BK384.out 0).trans rfl, (bc BK384.out 1).trans rfl, (bc BK384.out 2).trans rfl, (bc BK384.out 3).trans rfl, (bc BK384.out 4).trans rfl, (bc BK384.out 5).trans rfl, (bc BK385.out 0).trans rfl, (bc BK385.out 1).trans rfl, (bc BK385.out 2).trans rfl⟩ (fun hHeld => ?_)
      clear hK K
      refine norm_ (a' := ?_) ?_ ?_
      rotate_left
      ·show Act.put _ (some 7) _ = _
       simp only [Act.put, psl, i64_w, i32_w]
       rfl
      refine one_ (i := 3) (N := some 27) (fl 11 7 [9]) rfl rfl (one_of HT_.out (by kernel_rfl)) (by decide) (fun K hK => ?_)
      refine goes_ Try.func60 (by kernel_rfl) rfl #[.agg #[.int .i64 a0_0, .int .i64 a0_1, .int .i64 a0_2], .agg #[.int .i64 a1_0, .int .i64 a1_1, .int .i64 a1_2]] (by rfl) rfl rfl (by (try simp only [pml]); first | done | rfl | (simp only [pdt]; rfl)) ?_
      with_reducible refine (r_Add.calls a0_0 a0_1 a0_2 a1_0 a1_1 a1_2 t389 t390 t391 _ A31.out).mono ?_
      rintro e w57 ⟨rfl, hb⟩
      refine ⟨_, rfl, ?_⟩
      have n0_ := bB BK384 hb
      have n1_ := bB BK385 hb
      have n2_ := bB BK386 hb
      have n3_ := bB BK395 hb
      have n4_ := bS HB hb
      clear BK384 BK385 BK386 BK395 HB
      have BK384 := n0_
      have BK385 := n1_
      have BK386 := n2_
      have BK395 := n3_
      have HB := n4_
      clear n0_ n1_ n2_ n3_ n4_
      (try clear hb)
      (try clear hb2)
      (try clear hk)
      (try clear hi)
      refine hK.out _ _ ⟨(bc BK384.out 0).trans rfl, (bc BK384.out 1).trans rfl, (bc BK384.out 2).trans rfl, (bc BK384.out 3).trans rfl, (bc BK384.out 4).trans rfl, (bc BK384.out 5).trans rfl, (bc BK385.out 0).trans rfl, (bc BK385.out 1).trans rfl, (bc BK385.out 2).trans rfl⟩ (fun hHeld => ?_)
      clear hK K
      refine norm_ (a' := ?_) ?_ ?_
      rotate_left
      ·show Act.put _ (some 27) _ = _
       simp only [Act.put, psl, i64_w, i32_w]
       rfl
      refine one_ (i := 7) (N := some 31) (fl 11 8 [9]) rfl rfl (one_of HT_.out (by kernel_rfl)) (by decide) (fun K hK => ?_)
      refine goes_ Try.func60 (by kernel_rfl) rfl #[.agg #[.int .i64 a0_3, .int .i64 a0_4, .int .i64 a0_5], .agg #[.int .i64 a1_0, .int .i64 a1_1, .int .i64 a1_2]] (by rfl) rfl rfl (by (try simp only [pml]); first | done | rfl | (simp only [pdt]; rfl)) ?_
      with_reducible refine (r_Add.calls a0_3 a0_4 a0_5 a1_0 a1_1 a1_2 t392 t393 t394 _ A32.out).mono ?_
      rintro e w58 ⟨rfl, hb⟩
      refine ⟨_, rfl, ?_⟩
      have n0_ := bB BK384 hb
      have n1_ := bB BK385 hb
      have n2_ := bB BK386 hb
      have n3_ := bB BK395 hb
      have n4_ := bS HB hb
      clear BK384 BK385 BK386 BK395 HB
      have BK384 := n0_
      have BK385 := n1_
      have BK386 := n2_
      have BK395 := n3_
      have HB := n4_
      clear n0_ n1_ n2_ n3_ n4_
      (try clear hb)
      (try clear hb2)
      (try clear hk)
      (try clear hi)
      refine hK.out _ _ ⟨(bc BK384.out 0).trans rfl, (bc BK384.out 1).trans rfl, (bc BK384.out 2).trans rfl, (bc BK384.out 3).trans rfl, (bc BK384.out 4).trans rfl, (bc BK384.out 5).trans rfl, (bc BK385.out 0).trans rfl, (bc BK385.out 1).trans rfl, (bc BK385.out 2).trans rfl⟩ (fun hHeld => ?_)
      clear hK K
      refine norm_ (a' := ?_) ?_ ?_
      rotate_left
      ·show Act.put _ (some 31) _ = _
       simp only [Act.put, psl, i64_w, i32_w]
       rfl
      refine pu (i := 8) (N := some 32) (fl 11 10 []) HT_ ?_
      exact norm_ (by simp only [putAll, Act.put, psl]) (hCont (gb395) _ ⟨hHeld, (fb BK384.out), (fb BK385.out), (fb BK386.out), (fb BK395.out), GW395.out, GE395.out, NB384_395.out, NB395_384.out, NB385_395.out, NB395_385.out, NB386_395.out, NB395_386.out, (fW HB.out)⟩)
     rintro gb395 w59 ⟨hS_, h0_, h1_, h2_, h3_, h4_, h5_, h6_, h7_, h8_, h9_, h10_, h11_, h12_⟩
     have n0_ : Aside0 (w59.heap[gb384]? = some (.cells #[.int .i64 a0_0, .int .i64 a0_1, .int .i64 a0_2, .int .i64 a0_3, .int .i64 a0_4, .int .i64 a0_5] 25 (0, 0))) := ⟨h0_⟩
     have n1_ : Aside0 (w59.heap[gb385]? = some (.cells #[.int .i64 a1_0, .int .i64 a1_1, .int .i64 a1_2] 23 (0, 0))) := ⟨h1_⟩
     have n2_ : Aside0 (w59.heap[gb386]? = some (.cells #[.int .i64 x387000_1, .int .i64 x387001_1, .int .i64 x387002_1, .int .i64 x387003_1, .int .i64 x387004_1, .int .i64 x387005_1] 25 (0, 0))) := ⟨h2_⟩
     have n3_ : Aside0 (w59.heap[gb395]? = some (.cells #[.int .i64 0, .int .i64 0, .int .i64 0, .int .i64 0, .int .i64 0, .int .i64 0] 25 (0, 0))) := ⟨h3_⟩
     have n4_ : Aside0 (w.heap.size ≤ gb395) := ⟨h4_⟩
     have n5_ : Aside0 (w.heap.size ≤ gb395) := ⟨h5_⟩
     have n6_ : Aside0 (gb384 ≠ gb395) := ⟨h6_⟩
     have n7_ : Aside0 (gb395 ≠ gb384) := ⟨h7_⟩
     have n8_ : Aside0 (gb385 ≠ gb395) := ⟨h8_⟩
     have n9_ : Aside0 (gb395 ≠ gb385) := ⟨h9_⟩
     have n10_ : Aside0 (gb386 ≠ gb395) := ⟨h10_⟩
     have n11_ : Aside0 (gb395 ≠ gb386) := ⟨h11_⟩
     have n12_ : Aside0 (Below w.heap.size w w59) := ⟨h12_⟩
     clear BK384 BK385 BK386 HB h0_ h1_ h2_ h3_ h4_ h5_ h6_ h7_ h8_ h9_ h10_ h11_ h12_
     have BK384 := n0_
     have BK385 := n1_
     have BK386 := n2_
     have BK395 := n3_
     have GW395 := n4_
     have GE395 := n5_
     have NB384_395 := n6_
     have NB395_384 := n7_
     have NB385_395 := n8_
     have NB395_385 := n9_
     have NB386_395 := n10_
     have NB395_386 := n11_
     have HB := n12_
     clear n0_ n1_ n2_ n3_ n4_ n5_ n6_ n7_ n8_ n9_ n10_ n11_ n12_
     have hHeld : w59.cell? ⟨gb384, 0, none⟩ = some (.int .i64 a0_0) ∧ w59.cell? ⟨gb384, 1, none⟩ = some (.int .i64 a0_1) ∧ w59.cell? ⟨gb384, 2, none⟩ = some (.int .i64 a0_2) ∧ w59.cell? ⟨gb384, 3, none⟩ = some (.int .i64 a0_3) ∧ w59.cell? ⟨gb384, 4, none⟩ = some (.int .i64 a0_4) ∧ w59.cell? ⟨gb384, 5, none⟩ = some (.int .i64 a0_5) ∧ w59.cell? ⟨gb385, 0, none⟩ = some (.int .i64 a1_0) ∧ w59.cell? ⟨gb385, 1, none⟩ = some (.int .i64 a1_1) ∧ w59.cell? ⟨gb385, 2, none⟩ = some (.int .i64 a1_2) := hS_
     refine norm_ (a' := ?_) ?_ ?_
     rotate_left
     ·simp only [putAll, Act.put, psl]
      rfl
     refine one_ (i := 10) (N := none) (fl 11 11 []) rfl rfl (one_of HT_.out (by kernel_rfl)) (by decide) (fun K hK => ?_)
     have hs60 : w59.cell? ⟨gb395, 0, none⟩ = some (.int .i64 0) := (bc BK395.out 0).trans rfl
     have hfs60 := bf BK395.out 0
     have hns60_0 := NB384_395.out
     have hns60_1 := NB385_395.out
     have hns60_2 := NB386_395.out
     have hms60_0 := NB395_384.out
     have hms60_1 := NB395_385.out
     have hms60_2 := NB395_386.out
     have hs61 : w59.cell? ⟨gb395, 1, none⟩ = some (.int .i64 0) := (bc BK395.out 1).trans rfl
     have hfs61 := bf BK395.out 1
     have hns61_0 := NB384_395.out
     have hns61_1 := NB385_395.out
     have hns61_2 := NB386_395.out
     have hms61_0 := NB395_384.out
     have hms61_1 := NB395_385.out
     have hms61_2 := NB395_386.out
     have hs62 : w59.cell? ⟨gb395, 2, none⟩ = some (.int .i64 0) := (bc BK395.out 2).trans rfl
     have hfs62 := bf BK395.out 2
     have hns62_0 := NB384_395.out
     have hns62_1 := NB385_395.out
     have hns62_2 := NB386_395.out
     have hms62_0 := NB395_384.out
     have hms62_1 := NB395_385.out
     have hms62_2 := NB395_386.out
     have hs63 : w59.cell? ⟨gb395, 3, none⟩ = some (.int .i64 0) := (bc BK395.out 3).trans rfl
     have hfs63 := bf BK395.out 3
     have hns63_0 := NB384_395.out
     have hns63_1 := NB385_395.out
     have hns63_2 := NB386_395.out
     have hms63_0 := NB395_384.out
     have hms63_1 := NB395_385.out
     have hms63_2 := NB395_386.out
     have hs64 : w59.cell? ⟨gb395, 4, none⟩ = some (.int .i64 0) := (bc BK395.out 4).trans rfl
     have hfs64 := bf BK395.out 4
     have hns64_0 := NB384_395.out
     have hns64_1 := NB385_395.out
     have hns64_2 := NB386_395.out
     have hms64_0 := NB395_384.out
     have hms64_1 := NB395_385.out
     have hms64_2 := NB395_386.out
     have hs65 : w59.cell? ⟨gb395, 5, none⟩ = some (.int .i64 0) := (bc BK395.out 5).trans rfl
     have hfs65 := bf BK395.out 5
     have hns65_0 := NB384_395.out
     have hns65_1 := NB385_395.out
     have hns65_2 := NB386_395.out
     have hms65_0 := NB395_384.out
     have hms65_1 := NB395_385.out
     have hms65_2 := NB395_386.out
     refine skip_ (w1 := ?_) (by rfl) rfl ?_ ?_
     rotate_left
     ·go_simp
      rfl
     refine hK.out _ _ ⟨((cf (p := ⟨gb395, _, none⟩) NB384_395.out _).trans (((cf (p := ⟨gb395, _, none⟩) NB384_395.out _).trans (((cf (p := ⟨gb395, _, none⟩) NB384_395.out _).trans (((cf (p := ⟨gb395, _, none⟩) NB384_395.out _).trans (((cf (p := ⟨gb395, _, none⟩) NB384_395.out _).trans (((cf (p := ⟨gb395, _, none⟩) NB384_395.out _).trans (hHeld.1)))))))))))), ((cf (p := ⟨gb395, _, none⟩) NB384_395.out _).trans (((cf (p := ⟨gb395, _, none⟩) NB384_395.out _).trans (((cf (p := ⟨gb395, _, none⟩) NB384_395.out _).trans (((cf (p := ⟨gb395, _, none⟩) NB384_395.out _).trans (((cf (p := ⟨gb395, _, none⟩) NB384_395.out _).trans (((cf (p := ⟨gb395, _, none⟩) NB384_395.out _).trans (hHeld.2.1)))))))))))), ((cf (p := ⟨gb395, _, none⟩) NB384_395.out _).trans (((cf (p := ⟨gb395, _, none⟩) NB384_395.out _).trans (((cf (p := ⟨gb395, _, none⟩) NB384_395.out _).trans (((cf (p := ⟨gb395, _, none⟩) NB384_395.out _).trans (((cf (p := ⟨gb395, _, none⟩) NB384_395.out _).trans (((cf (p := ⟨gb395, _, none⟩) NB384_395.out _).trans (hHeld.2.2.1)))))))))))), ((cf (p := ⟨gb395, _, none⟩) NB384_395.out _).trans (((cf (p := ⟨gb395, _, none⟩) NB384_395.out _).trans (((cf (p := ⟨gb395, _, none⟩) NB384_395.out _).trans (((cf (p := ⟨gb395, _, none⟩) NB384_395.out _).trans (((cf (p := ⟨gb395, _, none⟩) NB384_395.out _).trans (((cf (p := ⟨gb395, _, none⟩) NB384_395.out _).trans (hHeld.2.2.2.1)))))))))))), ((cf (p := ⟨gb395, _, none⟩) NB384_395.out _).trans (((cf (p := ⟨gb395, _, none⟩) NB384_395.out _).trans (((cf (p := ⟨gb395, _, none⟩) NB384_395.out _).trans (((cf (p := ⟨gb395, _, none⟩) NB384_395.out _).trans (((cf (p := ⟨gb395, _, none⟩) NB384_395.out _).trans (((cf (p := ⟨gb395, _, none⟩) NB384_395.out _).trans (hHeld.2.2.2.2.1)))))))))))), ((cf (p := ⟨gb395, _, none⟩) NB384_395.out _).trans (((cf (p := ⟨gb395, _, none⟩) NB384_395.out _).trans (((cf (p := ⟨gb395, _, none⟩) NB384_395.out _).trans (((cf (p := ⟨gb395, _, none⟩) NB384_395.out _).trans (((cf (p := ⟨gb395, _, none⟩) NB384_395.out _).trans (((cf (p := ⟨gb395, _, none⟩) NB384_395.out _).trans (hHeld.2.2.2.2.2.1)))))))))))), ((cf (p := ⟨gb395, _, none⟩) NB385_395.out _).trans (((cf (p := ⟨gb395, _, none⟩) NB385_395.out _).trans (((cf (p := ⟨gb395, _, none⟩) NB385_395.out _).trans (((cf (p := ⟨gb395, _, none⟩) NB385_395.out _).trans (((cf (p := ⟨gb395, _, none⟩) NB385_395.out _).trans (((cf (p := ⟨gb395, _, none⟩) NB385_395.out _).trans (hHeld.2.2.2.2.2.2.1)))))))))))), ((cf (p := ⟨gb395, _, none⟩) NB385_395.out _).trans (((cf (p := ⟨gb395, _, none⟩) NB385_395.out _).trans (((cf (p := ⟨gb395, _, none⟩) NB385_395.out _).trans (((cf (p := ⟨gb395, _, none⟩) NB385_395.out _).trans (((cf (p := ⟨gb395, _, none⟩) NB385_395.out _).trans (((cf (p := ⟨gb395, _, none⟩) NB385_395.out _).trans (hHeld.2.2.2.2.2.2.2.1)))))))))))), ((cf (p := ⟨gb395, _, none⟩) NB385_395.out _).trans (((cf (p := ⟨gb395, _, none⟩) NB385_395.out _).trans (((cf (p := ⟨gb395, _, none⟩) NB385_395.out _).trans (((cf (p := ⟨gb395, _, none⟩) NB385_395.out _).trans (((cf (p := ⟨gb395, _, none⟩) NB385_395.out _).trans (((cf (p := ⟨gb395, _, none⟩) NB385_395.out _).trans (hHeld.2.2.2.2.2.2.2.2))))))))))))⟩ (fun hHeld => ?_)
     clear hK K
     refine done_ (done_of HT_.out (by kernel_rfl)) ?_
     have hnb66 := NB395_384.out
     have hnc66 := NB384_395.out
     have hnb67 := NB395_385.out
     have hnc67 := NB385_395.out
     have hnb68 := NB395_386.out
     have hnc68 := NB386_395.out
     have := yC1 BK395
     have := kC1 BK395
     have := kC2 BK395
     have := kC3 BK395
     have := kC4 BK395
     have := kC5 BK395
     have := bf BK395.out 0
     have := bf BK395.out 1
     have := bf BK395.out 2
     have := bf BK395.out 3
     have := bf BK395.out 4
     have := bf BK395.out 5
     try go_wp2_with (first | ((with_reducible refine gate_callee (f := 19) rfl ?_); refine goesL_ (some 34) rfl rfl Try.func19 (by kernel_rfl) rfl #[.agg #[.int .i64 t389, .int .i64 t390, .int .i64 t391, .int .i64 t392, .int .i64 t393, .int .i64 t394]] rfl (by (try simp only [pml]); first | done | rfl | (simp only [pdt]; rfl)) ?_; (with_reducible refine (r_Check.calls k1 t389 t390 t391 t392 t393 t394 t396 _ A33.out).mono ?_); rintro e w70 ⟨rfl, hb⟩; refine ⟨_, rfl, ?_⟩; replace BK384 := xC1 (kfC BK384.out) hb; replace BK385 := xC1 (kfC BK385.out) hb; replace BK386 := xC1 (kfC BK386.out) hb; replace BK395 := xC1 (o := .cells #[.int .i64 t389, .int .i64 t390, .int .i64 t391, .int .i64 t392, .int .i64 t393, .int .i64 t394] 25 (0, 0)) (kkC BK395.out) hb; replace HB := bS HB hb; (try clear hb); (try clear hb2); (try clear hk); (try clear hi); have hnb71 := NB386_384.out; have hnc71 := NB384_386.out; have hnb72 := NB386_385.out; have hnc72 := NB385_386.out; obtain ⟨_, _, _, _, _, _, _, _, _, _, _, _⟩ := zC6 BK386))
     refine bodyPost_ret (results_ct rfl _ _ gb386 25 #[.int .i64 0, .int .i64 0, .int .i64 0, .int .i64 0, .int .i64 0, .int .i64 0] (0, 0) _ rfl (kkC BK386.out) Try.underlying25 rfl (by kernel_rfl)) rfl ?_
     exact ⟨sqE, fW HB.out⟩

end Go.Proofs.Ytmmdikhmlmoolaa.QA
