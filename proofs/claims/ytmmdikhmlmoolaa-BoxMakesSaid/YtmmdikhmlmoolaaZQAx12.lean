import Derived.Test.YtmmdikhmlmoolaaZQAx0
import Derived.Test.YtmmdikhmlmoolaaZQAx3
namespace Go.Proofs.Ytmmdikhmlmoolaa.QA
open Go.RowKit Go.Proofs.YtmmdikhmlmoolaaW.PrintWords Go.Proofs.YtmmdikhmlmoolaaW.PrintLast Go.Proofs.YtmmdikhmlmoolaaW.PrintMore
open Go.Proofs.YtmmdikhmlmoolaaW.PrintWords renaming blk_drewN → bN, blk_drew → bd, blk_alloc → ba, blk_frozen → bf, blk_cell → bc, blk_far → bF
open Aside0 renaming mk → am
attribute [local go_sem] max2_int min2_int max_two min_two max_three min_three max_four min_four
set_option linter.unusedVariables false
set_option linter.unusedSimpArgs false

def box_Move.f (a0_0 : Int) (a0_1 : Int) (a0_2 : Int) (a0_3 : Int) (a0_4 : Int) (a0_5 : Int) (a1_0 : Int) (a1_1 : Int) (a1_2 : Int) : Option (Int × Int × Int × Int × Int × Int × Int) := (box_Check.f a0_0 a0_1 a0_2 a0_3 a0_4 a0_5).bind fun t319 => (if t319 = 0 then ((box_sides.f a0_0 a0_1 a0_2 a0_3 a0_4 a0_5).bind fun bt320 => (if a1_0 < (-2000000) then (some (0, 0, 0, 0, 0, 0, 6)) else (if a1_0 > 2000000 then (some (0, 0, 0, 0, 0, 0, 6)) else ((box_in.f (wrap64 (bt320.1 + a1_0))).bind fun t327 => (if t327 = true then ((box_in.f (wrap64 (bt320.2.1 + a1_0))).bind fun t328 => (if t328 = true then (if a1_1 < (-2000000) then (some (0, 0, 0, 0, 0, 0, 6)) else (if a1_1 > 2000000 then (some (0, 0, 0, 0, 0, 0, 6)) else ((box_in.f (wrap64 (bt320.2.2.1 + a1_1))).bind fun t329 => (if t329 = true then ((box_in.f (wrap64 (bt320.2.2.2.1 + a1_1))).bind fun t330 => (if t330 = true then (if a1_2 < (-2000000) then (some (0, 0, 0, 0, 0, 0, 6)) else (if a1_2 > 2000000 then (some (0, 0, 0, 0, 0, 0, 6)) else ((box_in.f (wrap64 (bt320.2.2.2.2.1 + a1_2))).bind fun t331 => (if t331 = true then ((box_in.f (wrap64 (bt320.2.2.2.2.2 + a1_2))).bind fun t332 => (if t332 = true then ((box_join.f (wrap64 (bt320.1 + a1_0)) (wrap64 (bt320.2.1 + a1_0)) (wrap64 (bt320.2.2.1 + a1_1)) (wrap64 (bt320.2.2.2.1 + a1_1)) (wrap64 (bt320.2.2.2.2.1 + a1_2)) (wrap64 (bt320.2.2.2.2.2 + a1_2))).bind fun bt333 => (some (bt333.1, bt333.2.1, bt333.2.2.1, bt333.2.2.2.1, bt333.2.2.2.2.1, bt333.2.2.2.2.2, 0))) else (some (0, 0, 0, 0, 0, 0, 6)))) else (some (0, 0, 0, 0, 0, 0, 6)))))) else (some (0, 0, 0, 0, 0, 0, 6)))) else (some (0, 0, 0, 0, 0, 0, 6)))))) else (some (0, 0, 0, 0, 0, 0, 6)))) else (some (0, 0, 0, 0, 0, 0, 6))))))) else (some (0, 0, 0, 0, 0, 0, t319)))
def box_Move.T10 : Bool × List (List Nat × List Nat) := (true, [([], []), ([], []), ([1], [1]), ([2], [2]), ([3], [3]), ([], []), ([4, 5], [4, 5]), ([], []), ([7], [7]), ([8], [8]), ([9], [9]), ([], []), ([10, 11], [10, 11]), ([6, 12], [6, 12]), ([0, 0, 1, 2, 3, 4, 5, 6, 7, 8, 9, 10, 11, 12, 13], [0]), ([14, 13, 0, 1, 2, 3, 4, 5, 6, 7, 8, 9, 10, 11, 12, 13], [13, 14])])
def box_Move.B10 : List Nat := [0, 0, 2, 6, 14, 0, 62, 0, 128, 384, 896, 0, 3968, 8190, 16383, 32767]
theorem box_Move.tab10 : rtab .any (opsOf Try.f15 10) = box_Move.T10 := by kernel_rfl
theorem box_Move.bits10 : waitsOk box_Move.T10.2 box_Move.B10 = true := by kernel_rfl
set_option maxHeartbeats 8000000 in
set_option maxRecDepth 100000 in
theorem box_Move.calls (a0_0 : Int) (a0_1 : Int) (a0_2 : Int) (a0_3 : Int) (a0_4 : Int) (a0_5 : Int) (a1_0 : Int) (a1_1 : Int) (a1_2 : Int) (r1 : Int) (r2 : Int) (r3 : Int) (r4 : Int) (r5 : Int) (r6 : Int) (r7 : Int) (w : World) (h : box_Move.f a0_0 a0_1 a0_2 a0_3 a0_4 a0_5 a1_0 a1_1 a1_2 = some (r1, r2, r3, r4, r5, r6, r7)) :
  Calls Try.prog 15 #[.agg #[.int .i64 a0_0, .int .i64 a0_1, .int .i64 a0_2, .int .i64 a0_3, .int .i64 a0_4, .int .i64 a0_5], .agg #[.int .i64 a1_0, .int .i64 a1_1, .int .i64 a1_2]] w fun e w' => e = .returned (.tuple #[.agg #[.int .i64 r1, .int .i64 r2, .int .i64 r3, .int .i64 r4, .int .i64 r5, .int .i64 r6], .int .i64 r7]) ∧ Below w.heap.size w w' := by
 have hu25 := Try.underlying25
 have hu23 := Try.underlying23
 have hu73 := Try.underlying73
 have hu75 := Try.underlying75
 have hu72 := Try.underlying72
 have hix75_0 : ∀ (e0_ e1_ e2_ : Value) (W_ : World), Sem.run Try.prog (Instr.index 75 (.agg #[e0_, e1_, e2_]) (.int .i64 0)) W_ = .ok e0_ W_ := fun _ _ _ _  => by kernel_rfl
 have hix75_1 : ∀ (e0_ e1_ e2_ : Value) (W_ : World), Sem.run Try.prog (Instr.index 75 (.agg #[e0_, e1_, e2_]) (.int .i64 1)) W_ = .ok e1_ W_ := fun _ _ _ _  => by kernel_rfl
 have hix75_2 : ∀ (e0_ e1_ e2_ : Value) (W_ : World), Sem.run Try.prog (Instr.index 75 (.agg #[e0_, e1_, e2_]) (.int .i64 2)) W_ = .ok e2_ W_ := fun _ _ _ _  => by kernel_rfl
 have HB := am (Below.refl w.heap.size w)
 have H : ((box_Check.f a0_0 a0_1 a0_2 a0_3 a0_4 a0_5).bind fun t319 => (if t319 = 0 then ((box_sides.f a0_0 a0_1 a0_2 a0_3 a0_4 a0_5).bind fun bt320 => (if a1_0 < (-2000000) then (some (0, 0, 0, 0, 0, 0, 6)) else (if a1_0 > 2000000 then (some (0, 0, 0, 0, 0, 0, 6)) else ((box_in.f (wrap64 (bt320.1 + a1_0))).bind fun t327 => (if t327 = true then ((box_in.f (wrap64 (bt320.2.1 + a1_0))).bind fun t328 => (if t328 = true then (if a1_1 < (-2000000) then (some (0, 0, 0, 0, 0, 0, 6)) else (if a1_1 > 2000000 then (some (0, 0, 0, 0, 0, 0, 6)) else ((box_in.f (wrap64 (bt320.2.2.1 + a1_1))).bind fun t329 => (if t329 = true then ((box_in.f (wrap64 (bt320.2.2.2.1 + a1_1))).bind fun t330 => (if t330 = true then (if a1_2 < (-2000000) then (some (0, 0, 0, 0, 0, 0, 6)) else (if a1_2 > 2000000 then (some (0, 0, 0, 0, 0, 0, 6)) else ((box_in.f (wrap64 (bt320.2.2.2.2.1 + a1_2))).bind fun t331 => (if t331 = true then ((box_in.f (wrap64 (bt320.2.2.2.2.2 + a1_2))).bind fun t332 => (if t332 = true then ((box_join.f (wrap64 (bt320.1 + a1_0)) (wrap64 (bt320.2.1 + a1_0)) (wrap64 (bt320.2.2.1 + a1_1)) (wrap64 (bt320.2.2.2.1 + a1_1)) (wrap64 (bt320.2.2.2.2.1 + a1_2)) (wrap64 (bt320.2.2.2.2.2 + a1_2))).bind fun bt333 => (some (bt333.1, bt333.2.1, bt333.2.2.1, bt333.2.2.2.1, bt333.2.2.2.2.1, bt333.2.2.2.2.2, 0))) else (some (0, 0, 0, 0, 0, 0, 6)))) else (some (0, 0, 0, 0, 0, 0, 6)))))) else (some (0, 0, 0, 0, 0, 0, 6)))) else (some (0, 0, 0, 0, 0, 0, 6)))))) else (some (0, 0, 0, 0, 0, 0, 6)))) else (some (0, 0, 0, 0, 0, 0, 6))))))) else (some (0, 0, 0, 0, 0, 0, t319)))) = some (r1, r2, r3, r4, r5, r6, r7) := h
 clear h
 replace H := Option.bind_eq_some_iff.mp H
 obtain ⟨t319, A30, H⟩ := H
 replace H : (if t319 = 0 then ((box_sides.f a0_0 a0_1 a0_2 a0_3 a0_4 a0_5).bind fun bt320 => (if a1_0 < (-2000000) then (some (0, 0, 0, 0, 0, 0, 6)) else (if a1_0 > 2000000 then (some (0, 0, 0, 0, 0, 0, 6)) else ((box_in.f (wrap64 (bt320.1 + a1_0))).bind fun t327 => (if t327 = true then ((box_in.f (wrap64 (bt320.2.1 + a1_0))).bind fun t328 => (if t328 = true then (if a1_1 < (-2000000) then (some (0, 0, 0, 0, 0, 0, 6)) else (if a1_1 > 2000000 then (some (0, 0, 0, 0, 0, 0, 6)) else ((box_in.f (wrap64 (bt320.2.2.1 + a1_1))).bind fun t329 => (if t329 = true then ((box_in.f (wrap64 (bt320.2.2.2.1 + a1_1))).bind fun t330 => (if t330 = true then (if a1_2 < (-2000000) then (some (0, 0, 0, 0, 0, 0, 6)) else (if a1_2 > 2000000 then (some (0, 0, 0, 0, 0, 0, 6)) else ((box_in.f (wrap64 (bt320.2.2.2.2.1 + a1_2))).bind fun t331 => (if t331 = true then ((box_in.f (wrap64 (bt320.2.2.2.2.2 + a1_2))).bind fun t332 => (if t332 = true then ((box_join.f (wrap64 (bt320.1 + a1_0)) (wrap64 (bt320.2.1 + a1_0)) (wrap64 (bt320.2.2.1 + a1_1)) (wrap64 (bt320.2.2.2.1 + a1_1)) (wrap64 (bt320.2.2.2.2.1 + a1_2)) (wrap64 (bt320.2.2.2.2.2 + a1_2))).bind fun bt333 => (some (bt333.1, bt333.2.1, bt333.2.2.1, bt333.2.2.2.1, bt333.2.2.2.2.1, bt333.2.2.2.2.2, 0))) else (some (0, 0, 0, 0, 0, 0, 6)))) else (some (0, 0, 0, 0, 0, 0, 6)))))) else (some (0, 0, 0, 0, 0, 0, 6)))) else (some (0, 0, 0, 0, 0, 0, 6)))))) else (some (0, 0, 0, 0, 0, 0, 6)))) else (some (0, 0, 0, 0, 0, 0, 6))))))) else (some (0, 0, 0, 0, 0, 0, t319))) = some (r1, r2, r3, r4, r5, r6, r7) := H
 have A3 := am A30
 clear A30
 by_cases c4 : t319 = 0
 ·rw [if_pos c4] at H
  have c4b0 : (t319 == 0) = true := beq_iff_eq.mpr c4
  have c4b1 : (t319 != 0) = false := bne_eq_false_iff_eq.mpr c4
  clear c4
  replace H := Option.bind_eq_some_iff.mp H
  obtain ⟨⟨t320, t321, t322, t323, t324, t325⟩, A50, H⟩ := H
  replace H : (if a1_0 < (-2000000) then (some (0, 0, 0, 0, 0, 0, 6)) else (if a1_0 > 2000000 then (some (0, 0, 0, 0, 0, 0, 6)) else ((box_in.f (wrap64 (t320 + a1_0))).bind fun t327 => (if t327 = true then ((box_in.f (wrap64 (t321 + a1_0))).bind fun t328 => (if t328 = true then (if a1_1 < (-2000000) then (some (0, 0, 0, 0, 0, 0, 6)) else (if a1_1 > 2000000 then (some (0, 0, 0, 0, 0, 0, 6)) else ((box_in.f (wrap64 (t322 + a1_1))).bind fun t329 => (if t329 = true then ((box_in.f (wrap64 (t323 + a1_1))).bind fun t330 => (if t330 = true then (if a1_2 < (-2000000) then (some (0, 0, 0, 0, 0, 0, 6)) else (if a1_2 > 2000000 then (some (0, 0, 0, 0, 0, 0, 6)) else ((box_in.f (wrap64 (t324 + a1_2))).bind fun t331 => (if t331 = true then ((box_in.f (wrap64 (t325 + a1_2))).bind fun t332 => (if t332 = true then ((box_join.f (wrap64 (t320 + a1_0)) (wrap64 (t321 + a1_0)) (wrap64 (t322 + a1_1)) (wrap64 (t323 + a1_1)) (wrap64 (t324 + a1_2)) (wrap64 (t325 + a1_2))).bind fun bt333 => (some (bt333.1, bt333.2.1, bt333.2.2.1, bt333.2.2.2.1, bt333.2.2.2.2.1, bt333.2.2.2.2.2, 0))) else (some (0, 0, 0, 0, 0, 0, 6)))) else (some (0, 0, 0, 0, 0, 0, 6)))))) else (some (0, 0, 0, 0, 0, 0, 6)))) else (some (0, 0, 0, 0, 0, 0, 6)))))) else (some (0, 0, 0, 0, 0, 0, 6)))) else (some (0, 0, 0, 0, 0, 0, 6)))))) = some (r1, r2, r3, r4, r5, r6, r7) := H
  have A5 := am A50
  clear A50
  have HC6 := am H
  clear H
  go_enter Try.func15, Try.ntmps15
  go_wp2_with (first | ((with_reducible refine gate_dst (N := 2) rfl ?_); refine box_event ?hg (N := 2) ?hd (cs := #[.int .i64 a0_0, .int .i64 a0_1, .int .i64 a0_2, .int .i64 a0_3, .int .i64 a0_4, .int .i64 a0_5]) (t := 25) ?hr ?_; (case hd | hg => rfl); (case hr => first | (go_simp; done) | (go_simp; rfl)); intro gb316 hg w7 hbox hb; have BK316 := am hbox; have GW316 := sG HB hg; have GE316 := sG HB hg; replace HB := bS HB hb; clear hb hbox hg) | ((with_reducible refine gate_dst (N := 3) rfl ?_); refine box_event ?hg (N := 3) ?hd (cs := #[.int .i64 a1_0, .int .i64 a1_1, .int .i64 a1_2]) (t := 23) ?hr ?_; (case hd | hg => rfl); (case hr => first | (go_simp; done) | (go_simp; rfl)); intro gb317 hg w8 hbox hb; have BK317 := am hbox; have GW317 := sG HB hg; have GE317 := sG HB hg; replace HB := bS HB hb; have NB316_317 := nL BK316 hg; have NB317_316 := nG BK316 hg; replace BK316 := bB BK316 hb; clear hb hbox hg) | ((with_reducible refine gate_dst (N := 4) rfl ?_); refine box_event ?hg (N := 4) ?hd (cs := #[.int .i64 0, .int .i64 0, .int .i64 0, .int .i64 0, .int .i64 0, .int .i64 0]) (t := 25) ?hr ?_; (case hd | hg => rfl); (case hr => first | (go_simp; done) | (go_simp; rfl)); intro gb318 hg w9 hbox hb; have BK318 := am hbox; have GW318 := sG HB hg; have GE318 := sG HB hg; replace HB := bS HB hb; have NB316_318 := nL BK316 hg; have NB318_316 := nG BK316 hg; replace BK316 := bB BK316 hb; have NB317_318 := nL BK317 hg; have NB318_317 := nG BK317 hg; replace BK317 := bB BK317 hb; clear hb hbox hg; have hnb10 := NB316_317.out; have hnc10 := NB317_316.out; have hnb11 := NB316_318.out; have hnc11 := NB318_316.out; obtain ⟨_, _, _, _, _, _, _, _, _, _, _, _⟩ := zC6 BK316) | ((with_reducible refine gate_callee (f := 20) rfl ?_); refine goesL_ (some 11) rfl rfl Try.func20 (by kernel_rfl) rfl #[.agg #[.int .i64 a0_0, .int .i64 a0_1, .int .i64 a0_2, .int .i64 a0_3, .int .i64 a0_4, .int .i64 a0_5]] rfl (by (try simp only [pml]); first | done | rfl | (simp only [pdt]; rfl)) ?_; (with_reducible refine (box_Check.calls a0_0 a0_1 a0_2 a0_3 a0_4 a0_5 t319 _ A3.out).mono ?_); rintro e w13 ⟨rfl, hb⟩; refine ⟨_, rfl, ?_⟩; replace BK316 := bB BK316 hb; replace BK317 := bB BK317 hb; replace BK318 := bB BK318 hb; replace HB := bS HB hb; (try clear hb); (try clear hb2); (try clear hk); (try clear hi); obtain ⟨_, _, _, _, _, _, _, _, _, _, _, _⟩ := zC6 BK316) | ((with_reducible refine gate_callee (f := 52) rfl ?_); refine goesL_ (some 17) rfl rfl Try.func52 (by kernel_rfl) rfl #[.agg #[.int .i64 a0_0, .int .i64 a0_1, .int .i64 a0_2, .int .i64 a0_3, .int .i64 a0_4, .int .i64 a0_5]] rfl (by (try simp only [pml]); first | done | rfl | (simp only [pdt]; rfl)) ?_; (with_reducible refine (box_sides.calls a0_0 a0_1 a0_2 a0_3 a0_4 a0_5 t320 t321 t322 t323 t324 t325 _ A5.out).mono ?_); rintro e w15 ⟨rfl, hb⟩; refine ⟨_, rfl, ?_⟩; replace BK316 := bB BK316 hb; replace BK317 := bB BK317 hb; replace BK318 := bB BK318 hb; replace HB := bS HB hb; (try clear hb); (try clear hb2); (try clear hk); (try clear hi)) | ((with_reducible refine gate_dst (N := 7) rfl ?_); refine box_event ?hg (N := 7) ?hd (cs := #[.int .i64 0, .int .i64 0, .int .i64 0, .int .i64 0, .int .i64 0, .int .i64 0]) (t := 73) ?hr ?_; (case hd | hg => rfl); (case hr => first | (go_simp; done) | (go_simp; rfl)); intro gb326 hg w16 hbox hb; have BK326 := am hbox; have GW326 := sG HB hg; have GE326 := sG HB hg; replace HB := bS HB hb; have NB316_326 := nL BK316 hg; have NB326_316 := nG BK316 hg; replace BK316 := bB BK316 hb; have NB317_326 := nL BK317 hg; have NB326_317 := nG BK317 hg; replace BK317 := bB BK317 hb; have NB318_326 := nL BK318 hg; have NB326_318 := nG BK318 hg; replace BK318 := bB BK318 hb; clear hb hbox hg; have hnb17 := NB326_316.out; have hnc17 := NB316_326.out; have hnb18 := NB326_317.out; have hnc18 := NB317_326.out; have hnb19 := NB326_318.out; have hnc19 := NB318_326.out; obtain ⟨_, _, _, _, _, _, _, _, _, _, _, _⟩ := zC6 BK326; have hnb21 := NB317_318.out; have hnc21 := NB318_317.out; obtain ⟨_, _, _, _, _, _⟩ := zC3 BK317))
  refine wp_loop_rounds 9 ?_
  rw [rounds_succ]
  have H := HC6.out
  clear HC6
  by_cases c23 : a1_0 < (-2000000)
  ·rw [if_pos c23] at H
   have c23b0 : decide (a1_0 < (-2000000)) = true := decide_eq_true c23
   clear c23
   simp only [Option.some.injEq, Prod.mk.injEq] at H
   obtain ⟨rfl, rfl, rfl, rfl, rfl, rfl, rfl⟩ := H
   have hnb24 := NB318_316.out
   have hnc24 := NB316_318.out
   have hnb25 := NB318_317.out
   have hnc25 := NB317_318.out
   have hnb26 := NB318_326.out
   have hnc26 := NB326_318.out
   have := yC1 BK318
   have := kC1 BK318
   have := kC2 BK318
   have := kC3 BK318
   have := kC4 BK318
   have := kC5 BK318
   have := bf BK318.out 0
   have := bf BK318.out 1
   have := bf BK318.out 2
   have := bf BK318.out 3
   have := bf BK318.out 4
   have := bf BK318.out 5
   go_wp2
   refine bodyPost_ret (results_ct rfl _ _ gb318 25 #[.int .i64 0, .int .i64 0, .int .i64 0, .int .i64 0, .int .i64 0, .int .i64 0] (0, 0) _ rfl (kkC BK318.out) Try.underlying25 rfl (by kernel_rfl)) rfl ?_
   exact ⟨sqE, fW HB.out⟩
  rw [if_neg c23] at H
  have c23b0 : decide (a1_0 < (-2000000)) = false := decide_eq_false c23
  clear c23
  by_cases c28 : a1_0 > 2000000
  ·rw [if_pos c28] at H
   have c28b0 : decide (2000000 < a1_0) = true := decide_eq_true c28
   clear c28
   simp only [Option.some.injEq, Prod.mk.injEq] at H
   obtain ⟨rfl, rfl, rfl, rfl, rfl, rfl, rfl⟩ := H
   have hnb29 := NB318_316.out
   have hnc29 := NB316_318.out
   have hnb30 := NB318_317.out
   have hnc30 := NB317_318.out
   have hnb31 := NB318_326.out
   have hnc31 := NB326_318.out
   have := yC1 BK318
   have := kC1 BK318
   have := kC2 BK318
   have := kC3 BK318
   have := kC4 BK318
   have := kC5 BK318
   have := bf BK318.out 0
   have := bf BK318.out 1
   have := bf BK318.out 2
   have := bf BK318.out 3
   have := bf BK318.out 4
   have := bf BK318.out 5
   go_wp2
   refine bodyPost_ret (results_ct rfl _ _ gb318 25 #[.int .i64 0, .int .i64 0, .int .i64 0, .int .i64 0, .int .i64 0, .int .i64 0] (0, 0) _ rfl (kkC BK318.out) Try.underlying25 rfl (by kernel_rfl)) rfl ?_
   exact ⟨sqE, fW HB.out⟩
  rw [if_neg c28] at H
  have c28b0 : decide (2000000 < a1_0) = false := decide_eq_false c28
  clear c28
  replace H := Option.bind_eq_some_iff.mp H
  obtain ⟨t327, A330, H⟩ := H
  replace H : (if t327 = true then ((box_in.f (wrap64 (t321 + a1_0))).bind fun t328 => (if t328 = true then (if a1_1 < (-2000000) then (some (0, 0, 0, 0, 0, 0, 6)) else (if a1_1 > 2000000 then (some (0, 0, 0, 0, 0, 0, 6)) else ((box_in.f (wrap64 (t322 + a1_1))).bind fun t329 => (if t329 = true then ((box_in.f (wrap64 (t323 + a1_1))).bind fun t330 => (if t330 = true then (if a1_2 < (-2000000) then (some (0, 0, 0, 0, 0, 0, 6)) else (if a1_2 > 2000000 then (some (0, 0, 0, 0, 0, 0, 6)) else ((box_in.f (wrap64 (t324 + a1_2))).bind fun t331 => (if t331 = true then ((box_in.f (wrap64 (t325 + a1_2))).bind fun t332 => (if t332 = true then ((box_join.f (wrap64 (t320 + a1_0)) (wrap64 (t321 + a1_0)) (wrap64 (t322 + a1_1)) (wrap64 (t323 + a1_1)) (wrap64 (t324 + a1_2)) (wrap64 (t325 + a1_2))).bind fun bt333 => (some (bt333.1, bt333.2.1, bt333.2.2.1, bt333.2.2.2.1, bt333.2.2.2.2.1, bt333.2.2.2.2.2, 0))) else (some (0, 0, 0, 0, 0, 0, 6)))) else (some (0, 0, 0, 0, 0, 0, 6)))))) else (some (0, 0, 0, 0, 0, 0, 6)))) else (some (0, 0, 0, 0, 0, 0, 6)))))) else (some (0, 0, 0, 0, 0, 0, 6)))) else (some (0, 0, 0, 0, 0, 0, 6))) = some (r1, r2, r3, r4, r5, r6, r7) := H
  have A33 := am A330
  clear A330
  by_cases c34 : t327 = true
  rotate_left
  ·replace c34 := Bool.eq_false_iff.mpr c34
   subst c34
   have H1 : (some (0, 0, 0, 0, 0, 0, 6)) = some (r1, r2, r3, r4, r5, r6, r7) := by rw [if_neg (show ¬ (false = true) by decide)] at H; exact H
   clear H
   have H := H1
   clear H1
   simp only [Option.some.injEq, Prod.mk.injEq] at H
   obtain ⟨rfl, rfl, rfl, rfl, rfl, rfl, rfl⟩ := H
   have hnb136 := NB326_316.out
   have hnc136 := NB316_326.out
   have hnb137 := NB326_317.out
   have hnc137 := NB317_326.out
   have hnb138 := NB326_318.out
   have hnc138 := NB318_326.out
   have := yC1 BK326
   have := kC1 BK326
   have := kC2 BK326
   have := kC3 BK326
   have := kC4 BK326
   have := kC5 BK326
   have := bf BK326.out 0
   have := bf BK326.out 1
   have := bf BK326.out 2
   have := bf BK326.out 3
   have := bf BK326.out 4
   have := bf BK326.out 5
   go_wp2_with (first | (go_at_call 53; (with_reducible refine (box_in.calls (wrap64 (t320 + a1_0)) false _ A33.out).mono ?_); rintro e w' ⟨rfl, ⟨nd, rfl⟩⟩; have hnb140 := NB318_316.out; have hnc140 := NB316_318.out; have hnb141 := NB318_317.out; have hnc141 := NB317_318.out; obtain ⟨_, _, _, _, _, _, _, _, _, _, _, _⟩ := zC6 BK318))
   refine bodyPost_ret (results_ct rfl _ _ gb318 25 #[.int .i64 0, .int .i64 0, .int .i64 0, .int .i64 0, .int .i64 0, .int .i64 0] (0, 0) _ rfl (kkC BK318.out) Try.underlying25 rfl (by kernel_rfl)) rfl ?_
   exact ⟨sqE, fW HB.out⟩
  subst c34
  have H1 : ((box_in.f (wrap64 (t321 + a1_0))).bind fun t328 => (if t328 = true then (if a1_1 < (-2000000) then (some (0, 0, 0, 0, 0, 0, 6)) else (if a1_1 > 2000000 then (some (0, 0, 0, 0, 0, 0, 6)) else ((box_in.f (wrap64 (t322 + a1_1))).bind fun t329 => (if t329 = true then ((box_in.f (wrap64 (t323 + a1_1))).bind fun t330 => (if t330 = true then (if a1_2 < (-2000000) then (some (0, 0, 0, 0, 0, 0, 6)) else (if a1_2 > 2000000 then (some (0, 0, 0, 0, 0, 0, 6)) else ((box_in.f (wrap64 (t324 + a1_2))).bind fun t331 => (if t331 = true then ((box_in.f (wrap64 (t325 + a1_2))).bind fun t332 => (if t332 = true then ((box_join.f (wrap64 (t320 + a1_0)) (wrap64 (t321 + a1_0)) (wrap64 (t322 + a1_1)) (wrap64 (t323 + a1_1)) (wrap64 (t324 + a1_2)) (wrap64 (t325 + a1_2))).bind fun bt333 => (some (bt333.1, bt333.2.1, bt333.2.2.1, bt333.2.2.2.1, bt333.2.2.2.2.1, bt333.2.2.2.2.2, 0))) else (some (0, 0, 0, 0, 0, 0, 6)))) else (some (0, 0, 0, 0, 0, 0, 6)))))) else (some (0, 0, 0, 0, 0, 0, 6)))) else (some (0, 0, 0, 0, 0, 0, 6)))))) else (some (0, 0, 0, 0, 0, 0, 6)))) = some (r1, r2, r3, r4, r5, r6, r7) := by rw [if_pos rfl] at H; exact H
  clear H
  have H := H1
  clear H1
  replace H := Option.bind_eq_some_iff.mp H
  obtain ⟨t328, A350, H⟩ := H
  replace H : (if t328 = true then (if a1_1 < (-2000000) then (some (0, 0, 0, 0, 0, 0, 6)) else (if a1_1 > 2000000 then (some (0, 0, 0, 0, 0, 0, 6)) else ((box_in.f (wrap64 (t322 + a1_1))).bind fun t329 => (if t329 = true then ((box_in.f (wrap64 (t323 + a1_1))).bind fun t330 => (if t330 = true then (if a1_2 < (-2000000) then (some (0, 0, 0, 0, 0, 0, 6)) else (if a1_2 > 2000000 then (some (0, 0, 0, 0, 0, 0, 6)) else ((box_in.f (wrap64 (t324 + a1_2))).bind fun t331 => (if t331 = true then ((box_in.f (wrap64 (t325 + a1_2))).bind fun t332 => (if t332 = true then ((box_join.f (wrap64 (t320 + a1_0)) (wrap64 (t321 + a1_0)) (wrap64 (t322 + a1_1)) (wrap64 (t323 + a1_1)) (wrap64 (t324 + a1_2)) (wrap64 (t325 + a1_2))).bind fun bt333 => (some (bt333.1, bt333.2.1, bt333.2.2.1, bt333.2.2.2.1, bt333.2.2.2.2.1, bt333.2.2.2.2.2, 0))) else (some (0, 0, 0, 0, 0, 0, 6)))) else (some (0, 0, 0, 0, 0, 0, 6)))))) else (some (0, 0, 0, 0, 0, 0, 6)))) else (some (0, 0, 0, 0, 0, 0, 6)))))) else (some (0, 0, 0, 0, 0, 0, 6))) = some (r1, r2, r3, r4, r5, r6, r7) := H
  have A35 := am A350
  clear A350
  by_cases c36 : t328 = true
  rotate_left
  ·replace c36 := Bool.eq_false_iff.mpr c36
   subst c36
   have H1 : (some (0, 0, 0, 0, 0, 0, 6)) = some (r1, r2, r3, r4, r5, r6, r7) := by rw [if_neg (show ¬ (false = true) by decide)] at H; exact H
   clear H
   have H := H1
   clear H1
   simp only [Option.some.injEq, Prod.mk.injEq] at H
   obtain ⟨rfl, rfl, rfl, rfl, rfl, rfl, rfl⟩ := H
   have hnb129 := NB326_316.out
   have hnc129 := NB316_326.out
   have hnb130 := NB326_317.out
   have hnc130 := NB317_326.out
   have hnb131 := NB326_318.out
   have hnc131 := NB318_326.out
   have := yC1 BK326
   have := kC1 BK326
   have := kC2 BK326
   have := kC3 BK326
   have := kC4 BK326
   have := kC5 BK326
   have := bf BK326.out 0
   have := bf BK326.out 1
   have := bf BK326.out 2
   have := bf BK326.out 3
   have := bf BK326.out 4
   have := bf BK326.out 5
   go_wp2_with (first | (go_at_call 53; (with_reducible refine (box_in.calls (wrap64 (t320 + a1_0)) true _ A33.out).mono ?_); rintro e w' ⟨rfl, ⟨nd, rfl⟩⟩) | (go_at_call 53; (with_reducible refine (box_in.calls (wrap64 (t321 + a1_0)) false _ A35.out).mono ?_); rintro e w' ⟨rfl, ⟨nd, rfl⟩⟩; have hnb133 := NB318_316.out; have hnc133 := NB316_318.out; have hnb134 := NB318_317.out; have hnc134 := NB317_318.out; obtain ⟨_, _, _, _, _, _, _, _, _, _, _, _⟩ := zC6 BK318))
   refine bodyPost_ret (results_ct rfl _ _ gb318 25 #[.int .i64 0, .int .i64 0, .int .i64 0, .int .i64 0, .int .i64 0, .int .i64 0] (0, 0) _ rfl (kkC BK318.out) Try.underlying25 rfl (by kernel_rfl)) rfl ?_
   exact ⟨sqE, fW HB.out⟩
  subst c36
  have H1 : (if a1_1 < (-2000000) then (some (0, 0, 0, 0, 0, 0, 6)) else (if a1_1 > 2000000 then (some (0, 0, 0, 0, 0, 0, 6)) else ((box_in.f (wrap64 (t322 + a1_1))).bind fun t329 => (if t329 = true then ((box_in.f (wrap64 (t323 + a1_1))).bind fun t330 => (if t330 = true then (if a1_2 < (-2000000) then (some (0, 0, 0, 0, 0, 0, 6)) else (if a1_2 > 2000000 then (some (0, 0, 0, 0, 0, 0, 6)) else ((box_in.f (wrap64 (t324 + a1_2))).bind fun t331 => (if t331 = true then ((box_in.f (wrap64 (t325 + a1_2))).bind fun t332 => (if t332 = true then ((box_join.f (wrap64 (t320 + a1_0)) (wrap64 (t321 + a1_0)) (wrap64 (t322 + a1_1)) (wrap64 (t323 + a1_1)) (wrap64 (t324 + a1_2)) (wrap64 (t325 + a1_2))).bind fun bt333 => (some (bt333.1, bt333.2.1, bt333.2.2.1, bt333.2.2.2.1, bt333.2.2.2.2.1, bt333.2.2.2.2.2, 0))) else (some (0, 0, 0, 0, 0, 0, 6)))) else (some (0, 0, 0, 0, 0, 0, 6)))))) else (some (0, 0, 0, 0, 0, 0, 6)))) else (some (0, 0, 0, 0, 0, 0, 6)))))) = some (r1, r2, r3, r4, r5, r6, r7) := by rw [if_pos rfl] at H; exact H
  clear H
  have H := H1
  clear H1
  have HC37 := am H
  clear H
  have hnb38 := NB326_316.out
  have hnc38 := NB316_326.out
  have hnb39 := NB326_317.out
  have hnc39 := NB317_326.out
  have hnb40 := NB326_318.out
  have hnc40 := NB318_326.out
  have := yC1 BK326
  have := kC1 BK326
  have := kC2 BK326
  have := kC3 BK326
  have := kC4 BK326
  have := kC5 BK326
  have := bf BK326.out 0
  have := bf BK326.out 1
  have := bf BK326.out 2
  have := bf BK326.out 3
  have := bf BK326.out 4
  have := bf BK326.out 5
  try go_wp2_with (first | (go_at_call 53; (with_reducible refine (box_in.calls (wrap64 (t320 + a1_0)) true _ A33.out).mono ?_); rintro e w' ⟨rfl, ⟨nd, rfl⟩⟩) | (go_at_call 53; (with_reducible refine (box_in.calls (wrap64 (t321 + a1_0)) true _ A35.out).mono ?_); rintro e w' ⟨rfl, ⟨nd, rfl⟩⟩))
  have n0_ : Aside0 (((((((w16.setCell ⟨gb326, 0, none⟩ (.int .i64 t320)).setCell ⟨gb326, 1, none⟩ (.int .i64 t321)).setCell ⟨gb326, 2, none⟩ (.int .i64 t322)).setCell ⟨gb326, 3, none⟩ (.int .i64 t323)).setCell ⟨gb326, 4, none⟩ (.int .i64 t324)).setCell ⟨gb326, 5, none⟩ (.int .i64 t325)).heap[gb316]? = some (.cells #[.int .i64 a0_0, .int .i64 a0_1, .int .i64 a0_2, .int .i64 a0_3, .int .i64 a0_4, .int .i64 a0_5] 25 (0, 0))) := ⟨by (with_reducible repeat first | apply bN | apply bd | apply ba); refine bF ?_ NB316_326.out _; (with_reducible repeat first | apply bN | apply bd | apply ba); refine bF ?_ NB316_326.out _; (with_reducible repeat first | apply bN | apply bd | apply ba); refine bF ?_ NB316_326.out _; (with_reducible repeat first | apply bN | apply bd | apply ba); refine bF ?_ NB316_326.out _; (with_reducible repeat first | apply bN | apply bd | apply ba); refine bF ?_ NB316_326.out _; (with_reducible repeat first | apply bN | apply bd | apply ba); refine bF ?_ NB316_326.out _; (with_reducible repeat first | apply bN | apply bd | apply ba); exact BK316.out⟩
  have n1_ : Aside0 (((((((w16.setCell ⟨gb326, 0, none⟩ (.int .i64 t320)).setCell ⟨gb326, 1, none⟩ (.int .i64 t321)).setCell ⟨gb326, 2, none⟩ (.int .i64 t322)).setCell ⟨gb326, 3, none⟩ (.int .i64 t323)).setCell ⟨gb326, 4, none⟩ (.int .i64 t324)).setCell ⟨gb326, 5, none⟩ (.int .i64 t325)).heap[gb317]? = some (.cells #[.int .i64 a1_0, .int .i64 a1_1, .int .i64 a1_2] 23 (0, 0))) := ⟨by (with_reducible repeat first | apply bN | apply bd | apply ba); refine bF ?_ NB317_326.out _; (with_reducible repeat first | apply bN | apply bd | apply ba); refine bF ?_ NB317_326.out _; (with_reducible repeat first | apply bN | apply bd | apply ba); refine bF ?_ NB317_326.out _; (with_reducible repeat first | apply bN | apply bd | apply ba); refine bF ?_ NB317_326.out _; (with_reducible repeat first | apply bN | apply bd | apply ba); refine bF ?_ NB317_326.out _; (with_reducible repeat first | apply bN | apply bd | apply ba); refine bF ?_ NB317_326.out _; (with_reducible repeat first | apply bN | apply bd | apply ba); exact BK317.out⟩
  have n2_ : Aside0 (((((((w16.setCell ⟨gb326, 0, none⟩ (.int .i64 t320)).setCell ⟨gb326, 1, none⟩ (.int .i64 t321)).setCell ⟨gb326, 2, none⟩ (.int .i64 t322)).setCell ⟨gb326, 3, none⟩ (.int .i64 t323)).setCell ⟨gb326, 4, none⟩ (.int .i64 t324)).setCell ⟨gb326, 5, none⟩ (.int .i64 t325)).heap[gb318]? = some (.cells #[.int .i64 0, .int .i64 0, .int .i64 0, .int .i64 0, .int .i64 0, .int .i64 0] 25 (0, 0))) := ⟨by (with_reducible repeat first | apply bN | apply bd | apply ba); refine bF ?_ NB318_326.out _; (with_reducible repeat first | apply bN | apply bd | apply ba); refine bF ?_ NB318_326.out _; (with_reducible repeat first | apply bN | apply bd | apply ba); refine bF ?_ NB318_326.out _; (with_reducible repeat first | apply bN | apply bd | apply ba); refine bF ?_ NB318_326.out _; (with_reducible repeat first | apply bN | apply bd | apply ba); refine bF ?_ NB318_326.out _; (with_reducible repeat first | apply bN | apply bd | apply ba); refine bF ?_ NB318_326.out _; (with_reducible repeat first | apply bN | apply bd | apply ba); exact BK318.out⟩
  have n3_ : Aside0 (((((((w16.setCell ⟨gb326, 0, none⟩ (.int .i64 t320)).setCell ⟨gb326, 1, none⟩ (.int .i64 t321)).setCell ⟨gb326, 2, none⟩ (.int .i64 t322)).setCell ⟨gb326, 3, none⟩ (.int .i64 t323)).setCell ⟨gb326, 4, none⟩ (.int .i64 t324)).setCell ⟨gb326, 5, none⟩ (.int .i64 t325)).heap[gb326]? = some (.cells #[.int .i64 t320, .int .i64 t321, .int .i64 t322, .int .i64 t323, .int .i64 t324, .int .i64 t325] 73 (0, 0))) := ⟨by (with_reducible repeat first | apply bN | apply bd | apply ba); refine blk_put (cs := #[.int .i64 t320, .int .i64 t321, .int .i64 t322, .int .i64 t323, .int .i64 t324, .int .i64 0]) ?_ 5 _ rfl; (with_reducible repeat first | apply bN | apply bd | apply ba); refine blk_put (cs := #[.int .i64 t320, .int .i64 t321, .int .i64 t322, .int .i64 t323, .int .i64 0, .int .i64 0]) ?_ 4 _ rfl; (with_reducible repeat first | apply bN | apply bd | apply ba); refine blk_put (cs := #[.int .i64 t320, .int .i64 t321, .int .i64 t322, .int .i64 0, .int .i64 0, .int .i64 0]) ?_ 3 _ rfl; (with_reducible repeat first | apply bN | apply bd | apply ba); refine blk_put (cs := #[.int .i64 t320, .int .i64 t321, .int .i64 0, .int .i64 0, .int .i64 0, .int .i64 0]) ?_ 2 _ rfl; (with_reducible repeat first | apply bN | apply bd | apply ba); refine blk_put (cs := #[.int .i64 t320, .int .i64 0, .int .i64 0, .int .i64 0, .int .i64 0, .int .i64 0]) ?_ 1 _ rfl; (with_reducible repeat first | apply bN | apply bd | apply ba); refine blk_put (cs := #[.int .i64 0, .int .i64 0, .int .i64 0, .int .i64 0, .int .i64 0, .int .i64 0]) ?_ 0 _ rfl; (with_reducible repeat first | apply bN | apply bd | apply ba); exact BK326.out⟩
  have n4_ : Aside0 (Below w.heap.size w ((((((w16.setCell ⟨gb326, 0, none⟩ (.int .i64 t320)).setCell ⟨gb326, 1, none⟩ (.int .i64 t321)).setCell ⟨gb326, 2, none⟩ (.int .i64 t322)).setCell ⟨gb326, 3, none⟩ (.int .i64 t323)).setCell ⟨gb326, 4, none⟩ (.int .i64 t324)).setCell ⟨gb326, 5, none⟩ (.int .i64 t325))) := ⟨fW HB.out⟩
  (try clear BK316)
  (try clear BK317)
  (try clear BK318)
  (try clear BK326)
  (try clear HB)
  generalize ((((((w16.setCell ⟨gb326, 0, none⟩ (.int .i64 t320)).setCell ⟨gb326, 1, none⟩ (.int .i64 t321)).setCell ⟨gb326, 2, none⟩ (.int .i64 t322)).setCell ⟨gb326, 3, none⟩ (.int .i64 t323)).setCell ⟨gb326, 4, none⟩ (.int .i64 t324)).setCell ⟨gb326, 5, none⟩ (.int .i64 t325)) = w42 at n0_ n1_ n2_ n3_ n4_ ⊢
  have BK316 := n0_
  have BK317 := n1_
  have BK318 := n2_
  have BK326 := n3_
  have HB := n4_
  clear n0_ n1_ n2_ n3_ n4_
  (try (rw [drewN_self w42]; generalize hq_ : World.drewN w42 _ = w42; have n0_ : Aside0 (w42.heap[gb316]? = some (.cells #[.int .i64 a0_0, .int .i64 a0_1, .int .i64 a0_2, .int .i64 a0_3, .int .i64 a0_4, .int .i64 a0_5] 25 (0, 0))) := ⟨by rw [← hq_]; exact (fb BK316.out)⟩; have n1_ : Aside0 (w42.heap[gb317]? = some (.cells #[.int .i64 a1_0, .int .i64 a1_1, .int .i64 a1_2] 23 (0, 0))) := ⟨by rw [← hq_]; exact (fb BK317.out)⟩; have n2_ : Aside0 (w42.heap[gb318]? = some (.cells #[.int .i64 0, .int .i64 0, .int .i64 0, .int .i64 0, .int .i64 0, .int .i64 0] 25 (0, 0))) := ⟨by rw [← hq_]; exact (fb BK318.out)⟩; have n3_ : Aside0 (w42.heap[gb326]? = some (.cells #[.int .i64 t320, .int .i64 t321, .int .i64 t322, .int .i64 t323, .int .i64 t324, .int .i64 t325] 73 (0, 0))) := ⟨by rw [← hq_]; exact (fb BK326.out)⟩; have n4_ : Aside0 (Below w.heap.size w w42) := ⟨by rw [← hq_]; exact (fW HB.out)⟩; clear BK316 BK317 BK318 BK326 HB hq_; have BK316 := n0_; have BK317 := n1_; have BK318 := n2_; have BK326 := n3_; have HB := n4_; clear n0_ n1_ n2_ n3_ n4_))
  have n0_ := am (bd BK316.out)
  have n1_ := am (bd BK317.out)
  have n2_ := am (bd BK318.out)
  have n3_ := am (bd BK326.out)
  have n4_ := am (below_drew1 HB.out)
  clear BK316 BK317 BK318 BK326 HB
  have BK316 := n0_
  have BK317 := n1_
  have BK318 := n2_
  have BK326 := n3_
  have HB := n4_
  clear n0_ n1_ n2_ n3_ n4_
  refine start_ (n := 16) (S := fun w' => w'.cell? ⟨gb326, 0, none⟩ = some (.int .i64 t320) ∧ w'.cell? ⟨gb326, 1, none⟩ = some (.int .i64 t321) ∧ w'.cell? ⟨gb326, 2, none⟩ = some (.int .i64 t322) ∧ w'.cell? ⟨gb326, 3, none⟩ = some (.int .i64 t323) ∧ w'.cell? ⟨gb326, 4, none⟩ = some (.int .i64 t324) ∧ w'.cell? ⟨gb326, 5, none⟩ = some (.int .i64 t325)) (ds := [15]) #[F,F,F,F,F,F,F,F,F,F,F,F,F,F,F,F] (by kernel_rfl) rfl rfl ⟨(bc BK326.out 0).trans rfl, (bc BK326.out 1).trans rfl, (bc BK326.out 2).trans rfl, (bc BK326.out 3).trans rfl, (bc BK326.out 4).trans rfl, (bc BK326.out 5).trans rfl⟩ (fun hHeld => ?_); refine with_tabW box_Move.tab10 box_Move.bits10 (fun HT_ HW_ => ?_)
  generalize w42.drew = w43 at BK316 BK317 BK318 BK326 HB hHeld ⊢
  refine pu (i := 0) (N := some 56) (fl 16 1 []) HT_ ?_
  refine pu (i := 1) (N := some 57) (fl 16 2 []) HT_ ?_
  refine pu (i := 2) (N := some 58) (fl 16 3 []) HT_ ?_
  refine pu (i := 3) (N := some 59) (fl 16 4 []) HT_ ?_
  refine pu (i := 5) (N := some 61) (fl 16 4 [5]) HT_ ?_
  refine pu (i := 7) (N := some 63) (fl 16 4 [5, 7]) HT_ ?_
  refine pu (i := 8) (N := some 64) (fl 16 4 [5, 7, 8]) HT_ ?_
  refine pu (i := 9) (N := some 65) (fl 16 4 [5, 7, 8, 9]) HT_ ?_
  refine pu (i := 11) (N := some 67) (fl 16 4 [5, 7, 8, 9, 11]) HT_ ?_
  refine tk (i := 4) (N := some 60) (fl 16 6 [7, 8, 9, 11]) HT_ HW_ hHeld ?_
  refine pu (i := 6) (N := some 62) (fl 16 10 [11]) HT_ ?_
  refine tk (i := 10) (N := some 66) (fl 16 12 []) HT_ HW_ hHeld ?_
  refine pu (i := 12) (N := some 68) (fl 16 13 []) HT_ ?_
  refine pu (i := 13) (N := some 69) (fl 16 14 []) HT_ ?_
  refine pu (i := 14) (N := some 70) (fl 16 15 []) HT_ ?_
  refine last_ (i := 15) (N := none) #[T,T,T,T,T,T,T,T,T,T,T,T,T,T,T,T] rfl rfl (one_of HT_.out (by kernel_rfl)) (by decide) (fun K hK => ?_)
  have hs44 : w43.cell? ⟨gb326, 0, none⟩ = some (.int .i64 t320) := (bc BK326.out 0).trans rfl
  have hfs44 := bf BK326.out 0
  have hns44_0 := NB316_326.out
  have hns44_1 := NB317_326.out
  have hns44_2 := NB318_326.out
  have hms44_0 := NB326_316.out
  have hms44_1 := NB326_317.out
  have hms44_2 := NB326_318.out
  have hs45 : w43.cell? ⟨gb326, 1, none⟩ = some (.int .i64 t321) := (bc BK326.out 1).trans rfl
  have hfs45 := bf BK326.out 1
  have hns45_0 := NB316_326.out
  have hns45_1 := NB317_326.out
  have hns45_2 := NB318_326.out
  have hms45_0 := NB326_316.out
  have hms45_1 := NB326_317.out
  have hms45_2 := NB326_318.out
  refine skip_ (w1 := ?_) (by rfl) rfl ?_ ?_
  rotate_left
  ·go_simp
   rfl
  refine hK.out _ _ ?_
  clear hK K
  refine done_ (done_of HT_.out (by kernel_rfl)) ?_
  try go_wp2
  rw [rounds_succ]
  have H := HC37.out
  clear HC37
  by_cases c46 : a1_1 < (-2000000)
  ·rw [if_pos c46] at H
   have c46b0 : decide (a1_1 < (-2000000)) = true := decide_eq_true c46
   clear c46
   simp only [Option.some.injEq, Prod.mk.injEq] at H
   obtain ⟨rfl, rfl, rfl, rfl, rfl, rfl, rfl⟩ := H
   have hnb47 := NB318_316.out
   have hnc47 := NB316_318.out
   have hnb48 := NB318_317.out
   have hnc48 := NB317_318.out
   have hnb49 := NB318_326.out
   have hnc49 := NB326_318.out
   have := yC1 BK318
   have := kC1 BK318
   have := kC2 BK318
   have := kC3 BK318
   have := kC4 BK318
   have := kC5 BK318
   have := bf BK318.out 0
   have := bf BK318.out 1
   have := bf BK318.out 2
   have := bf BK318.out 3
   have := bf BK318.out 4
   have := bf BK318.out 5
   go_wp2
   refine bodyPost_ret (results_ct rfl _ _ gb318 25 #[.int .i64 0, .int .i64 0, .int .i64 0, .int .i64 0, .int .i64 0, .int .i64 0] (0, 0) _ rfl (kkC BK318.out) Try.underlying25 rfl (by kernel_rfl)) rfl ?_
   exact ⟨sqE, fW HB.out⟩
  rw [if_neg c46] at H
  have c46b0 : decide (a1_1 < (-2000000)) = false := decide_eq_false c46
  clear c46
  by_cases c51 : a1_1 > 2000000
  ·rw [if_pos c51] at H
   have c51b0 : decide (2000000 < a1_1) = true := decide_eq_true c51
   clear c51
   simp only [Option.some.injEq, Prod.mk.injEq] at H
   obtain ⟨rfl, rfl, rfl, rfl, rfl, rfl, rfl⟩ := H
   have hnb52 := NB318_316.out
   have hnc52 := NB316_318.out
   have hnb53 := NB318_317.out
   have hnc53 := NB317_318.out
   have hnb54 := NB318_326.out
   have hnc54 := NB326_318.out
   have := yC1 BK318
   have := kC1 BK318
   have := kC2 BK318
   have := kC3 BK318
   have := kC4 BK318
   have := kC5 BK318
   have := bf BK318.out 0
   have := bf BK318.out 1
   have := bf BK318.out 2
   have := bf BK318.out 3
   have := bf BK318.out 4
   have := bf BK318.out 5
   go_wp2
   refine bodyPost_ret (results_ct rfl _ _ gb318 25 #[.int .i64 0, .int .i64 0, .int .i64 0, .int .i64 0, .int .i64 0, .int .i64 0] (0, 0) _ rfl (kkC BK318.out) Try.underlying25 rfl (by kernel_rfl)) rfl ?_
   exact ⟨sqE, fW HB.out⟩
  rw [if_neg c51] at H
  have c51b0 : decide (2000000 < a1_1) = false := decide_eq_false c51
  clear c51
  replace H := Option.bind_eq_some_iff.mp H
  obtain ⟨t329, A560, H⟩ := H
  replace H : (if t329 = true then ((box_in.f (wrap64 (t323 + a1_1))).bind fun t330 => (if t330 = true then (if a1_2 < (-2000000) then (some (0, 0, 0, 0, 0, 0, 6)) else (if a1_2 > 2000000 then (some (0, 0, 0, 0, 0, 0, 6)) else ((box_in.f (wrap64 (t324 + a1_2))).bind fun t331 => (if t331 = true then ((box_in.f (wrap64 (t325 + a1_2))).bind fun t332 => (if t332 = true then ((box_join.f (wrap64 (t320 + a1_0)) (wrap64 (t321 + a1_0)) (wrap64 (t322 + a1_1)) (wrap64 (t323 + a1_1)) (wrap64 (t324 + a1_2)) (wrap64 (t325 + a1_2))).bind fun bt333 => (some (bt333.1, bt333.2.1, bt333.2.2.1, bt333.2.2.2.1, bt333.2.2.2.2.1, bt333.2.2.2.2.2, 0))) else (some (0, 0, 0, 0, 0, 0, 6)))) else (some (0, 0, 0, 0, 0, 0, 6)))))) else (some (0, 0, 0, 0, 0, 0, 6)))) else (some (0, 0, 0, 0, 0, 0, 6))) = some (r1, r2, r3, r4, r5, r6, r7) := H
  have A56 := am A560
  clear A560
  by_cases c57 : t329 = true
  rotate_left
  ·replace c57 := Bool.eq_false_iff.mpr c57
   subst c57
   have H1 : (some (0, 0, 0, 0, 0, 0, 6)) = some (r1, r2, r3, r4, r5, r6, r7) := by rw [if_neg (show ¬ (false = true) by decide)] at H; exact H
   clear H
   have H := H1
   clear H1
   simp only [Option.some.injEq, Prod.mk.injEq] at H
   obtain ⟨rfl, rfl, rfl, rfl, rfl, rfl, rfl⟩ := H
   have hnb122 := NB326_316.out
   have hnc122 := NB316_326.out
   have hnb123 := NB326_317.out
   have hnc123 := NB317_326.out
   have hnb124 := NB326_318.out
   have hnc124 := NB318_326.out
   have := yC1 BK326
   have := kC1 BK326
   have := kC2 BK326
   have := kC3 BK326
   have := kC4 BK326
   have := kC5 BK326
   have := bf BK326.out 0
   have := bf BK326.out 1
   have := bf BK326.out 2
   have := bf BK326.out 3
   have := bf BK326.out 4
   have := bf BK326.out 5
   go_wp2_with (first | (go_at_call 53; (with_reducible refine (box_in.calls (wrap64 (t322 + a1_1)) false _ A56.out).mono ?_); rintro e w' ⟨rfl, ⟨nd, rfl⟩⟩; have hnb126 := NB318_316.out; have hnc126 := NB316_318.out; have hnb127 := NB318_317.out; have hnc127 := NB317_318.out; obtain ⟨_, _, _, _, _, _, _, _, _, _, _, _⟩ := zC6 BK318))
   refine bodyPost_ret (results_ct rfl _ _ gb318 25 #[.int .i64 0, .int .i64 0, .int .i64 0, .int .i64 0, .int .i64 0, .int .i64 0] (0, 0) _ rfl (kkC BK318.out) Try.underlying25 rfl (by kernel_rfl)) rfl ?_
   exact ⟨sqE, fW HB.out⟩
  subst c57
  have H1 : ((box_in.f (wrap64 (t323 + a1_1))).bind fun t330 => (if t330 = true then (if a1_2 < (-2000000) then (some (0, 0, 0, 0, 0, 0, 6)) else (if a1_2 > 2000000 then (some (0, 0, 0, 0, 0, 0, 6)) else ((box_in.f (wrap64 (t324 + a1_2))).bind fun t331 => (if t331 = true then ((box_in.f (wrap64 (t325 + a1_2))).bind fun t332 => (if t332 = true then ((box_join.f (wrap64 (t320 + a1_0)) (wrap64 (t321 + a1_0)) (wrap64 (t322 + a1_1)) (wrap64 (t323 + a1_1)) (wrap64 (t324 + a1_2)) (wrap64 (t325 + a1_2))).bind fun bt333 => (some (bt333.1, bt333.2.1, bt333.2.2.1, bt333.2.2.2.1, bt333.2.2.2.2.1, bt333.2.2.2.2.2, 0))) else (some (0, 0, 0, 0, 0, 0, 6)))) else (some (0, 0, 0, 0, 0, 0, 6)))))) else (some (0, 0, 0, 0, 0, 0, 6)))) = some (r1, r2, r3, r4, r5, r6, r7) := by rw [if_pos rfl] at H; exact H
  clear H
  have H := H1
  clear H1
  replace H := Option.bind_eq_some_iff.mp H
  obtain ⟨t330, A580, H⟩ := H
  replace H : (if t330 = true then (if a1_2 < (-2000000) then (some (0, 0, 0, 0, 0, 0, 6)) else (if a1_2 > 2000000 then (some (0, 0, 0, 0, 0, 0, 6)) else ((box_in.f (wrap64 (t324 + a1_2))).bind fun t331 => (if t331 = true then ((box_in.f (wrap64 (t325 + a1_2))).bind fun t332 => (if t332 = true then ((box_join.f (wrap64 (t320 + a1_0)) (wrap64 (t321 + a1_0)) (wrap64 (t322 + a1_1)) (wrap64 (t323 + a1_1)) (wrap64 (t324 + a1_2)) (wrap64 (t325 + a1_2))).bind fun bt333 => (some (bt333.1, bt333.2.1, bt333.2.2.1, bt333.2.2.2.1, bt333.2.2.2.2.1, bt333.2.2.2.2.2, 0))) else (some (0, 0, 0, 0, 0, 0, 6)))) else (some (0, 0, 0, 0, 0, 0, 6)))))) else (some (0, 0, 0, 0, 0, 0, 6))) = some (r1, r2, r3, r4, r5, r6, r7) := H
  have A58 := am A580
  clear A580
  by_cases c59 : t330 = true
  rotate_left
  ·replace c59 := Bool.eq_false_iff.mpr c59
   subst c59
   have H1 : (some (0, 0, 0, 0, 0, 0, 6)) = some (r1, r2, r3, r4, r5, r6, r7) := by rw [if_neg (show ¬ (false = true) by decide)] at H; exact H
   clear H
   have H := H1
   clear H1
   simp only [Option.some.injEq, Prod.mk.injEq] at H
   obtain ⟨rfl, rfl, rfl, rfl, rfl, rfl, rfl⟩ := H
   have hnb115 := NB326_316.out
   have hnc115 := NB316_326.out
   have hnb116 := NB326_317.out
   have hnc116 := NB317_326.out
   have hnb117 := NB326_318.out
   have hnc117 := NB318_326.out
   have := yC1 BK326
   have := kC1 BK326
   have := kC2 BK326
   have := kC3 BK326
   have := kC4 BK326
   have := kC5 BK326
   have := bf BK326.out 0
   have := bf BK326.out 1
   have := bf BK326.out 2
   have := bf BK326.out 3
   have := bf BK326.out 4
   have := bf BK326.out 5
   go_wp2_with (first | (go_at_call 53; (with_reducible refine (box_in.calls (wrap64 (t322 + a1_1)) true _ A56.out).mono ?_); rintro e w' ⟨rfl, ⟨nd, rfl⟩⟩) | (go_at_call 53; (with_reducible refine (box_in.calls (wrap64 (t323 + a1_1)) false _ A58.out).mono ?_); rintro e w' ⟨rfl, ⟨nd, rfl⟩⟩; have hnb119 := NB318_316.out; have hnc119 := NB316_318.out; have hnb120 := NB318_317.out; have hnc120 := NB317_318.out; obtain ⟨_, _, _, _, _, _, _, _, _, _, _, _⟩ := zC6 BK318))
   refine bodyPost_ret (results_ct rfl _ _ gb318 25 #[.int .i64 0, .int .i64 0, .int .i64 0, .int .i64 0, .int .i64 0, .int .i64 0] (0, 0) _ rfl (kkC BK318.out) Try.underlying25 rfl (by kernel_rfl)) rfl ?_
   exact ⟨sqE, fW HB.out⟩
  subst c59
  have H1 : (if a1_2 < (-2000000) then (some (0, 0, 0, 0, 0, 0, 6)) else (if a1_2 > 2000000 then (some (0, 0, 0, 0, 0, 0, 6)) else ((box_in.f (wrap64 (t324 + a1_2))).bind fun t331 => (if t331 = true then ((box_in.f (wrap64 (t325 + a1_2))).bind fun t332 => (if t332 = true then ((box_join.f (wrap64 (t320 + a1_0)) (wrap64 (t321 + a1_0)) (wrap64 (t322 + a1_1)) (wrap64 (t323 + a1_1)) (wrap64 (t324 + a1_2)) (wrap64 (t325 + a1_2))).bind fun bt333 => (some (bt333.1, bt333.2.1, bt333.2.2.1, bt333.2.2.2.1, bt333.2.2.2.2.1, bt333.2.2.2.2.2, 0))) else (some (0, 0, 0, 0, 0, 0, 6)))) else (some (0, 0, 0, 0, 0, 0, 6)))))) = some (r1, r2, r3, r4, r5, r6, r7) := by rw [if_pos rfl] at H; exact H
  clear H
  have H := H1
  clear H1
  have HC60 := am H
  clear H
  have hnb61 := NB326_316.out
  have hnc61 := NB316_326.out
  have hnb62 := NB326_317.out
  have hnc62 := NB317_326.out
  have hnb63 := NB326_318.out
  have hnc63 := NB318_326.out
  have := yC1 BK326
  have := kC1 BK326
  have := kC2 BK326
  have := kC3 BK326
  have := kC4 BK326
  have := kC5 BK326
  have := bf BK326.out 0
  have := bf BK326.out 1
  have := bf BK326.out 2
  have := bf BK326.out 3
  have := bf BK326.out 4
  have := bf BK326.out 5
  try go_wp2_with (first | (go_at_call 53; (with_reducible refine (box_in.calls (wrap64 (t322 + a1_1)) true _ A56.out).mono ?_); rintro e w' ⟨rfl, ⟨nd, rfl⟩⟩) | (go_at_call 53; (with_reducible refine (box_in.calls (wrap64 (t323 + a1_1)) true _ A58.out).mono ?_); rintro e w' ⟨rfl, ⟨nd, rfl⟩⟩))
  have n0_ : Aside0 (((w43.setCell ⟨gb326, 0, none⟩ (.int .i64 (wrap64 (t320 + a1_0)))).setCell ⟨gb326, 1, none⟩ (.int .i64 (wrap64 (t321 + a1_0)))).heap[gb316]? = some (.cells #[.int .i64 a0_0, .int .i64 a0_1, .int .i64 a0_2, .int .i64 a0_3, .int .i64 a0_4, .int .i64 a0_5] 25 (0, 0))) := ⟨by (with_reducible repeat first | apply bN | apply bd | apply ba); refine bF ?_ NB316_326.out _; (with_reducible repeat first | apply bN | apply bd | apply ba); refine bF ?_ NB316_326.out _; (with_reducible repeat first | apply bN | apply bd | apply ba); exact BK316.out⟩
  have n1_ : Aside0 (((w43.setCell ⟨gb326, 0, none⟩ (.int .i64 (wrap64 (t320 + a1_0)))).setCell ⟨gb326, 1, none⟩ (.int .i64 (wrap64 (t321 + a1_0)))).heap[gb317]? = some (.cells #[.int .i64 a1_0, .int .i64 a1_1, .int .i64 a1_2] 23 (0, 0))) := ⟨by (with_reducible repeat first | apply bN | apply bd | apply ba); refine bF ?_ NB317_326.out _; (with_reducible repeat first | apply bN | apply bd | apply ba); refine bF ?_ NB317_326.out _; (with_reducible repeat first | apply bN | apply bd | apply ba); exact BK317.out⟩
  have n2_ : Aside0 (((w43.setCell ⟨gb326, 0, none⟩ (.int .i64 (wrap64 (t320 + a1_0)))).setCell ⟨gb326, 1, none⟩ (.int .i64 (wrap64 (t321 + a1_0)))).heap[gb318]? = some (.cells #[.int .i64 0, .int .i64 0, .int .i64 0, .int .i64 0, .int .i64 0, .int .i64 0] 25 (0, 0))) := ⟨by (with_reducible repeat first | apply bN | apply bd | apply ba); refine bF ?_ NB318_326.out _; (with_reducible repeat first | apply bN | apply bd | apply ba); refine bF ?_ NB318_326.out _; (with_reducible repeat first | apply bN | apply bd | apply ba); exact BK318.out⟩
  have n3_ : Aside0 (((w43.setCell ⟨gb326, 0, none⟩ (.int .i64 (wrap64 (t320 + a1_0)))).setCell ⟨gb326, 1, none⟩ (.int .i64 (wrap64 (t321 + a1_0)))).heap[gb326]? = some (.cells #[.int .i64 (wrap64 (t320 + a1_0)), .int .i64 (wrap64 (t321 + a1_0)), .int .i64 t322, .int .i64 t323, .int .i64 t324, .int .i64 t325] 73 (0, 0))) := ⟨by (with_reducible repeat first | apply bN | apply bd | apply ba); refine blk_put (cs := #[.int .i64 (wrap64 (t320 + a1_0)), .int .i64 t321, .int .i64 t322, .int .i64 t323, .int .i64 t324, .int .i64 t325]) ?_ 1 _ rfl; (with_reducible repeat first | apply bN | apply bd | apply ba); refine blk_put (cs := #[.int .i64 t320, .int .i64 t321, .int .i64 t322, .int .i64 t323, .int .i64 t324, .int .i64 t325]) ?_ 0 _ rfl; (with_reducible repeat first | apply bN | apply bd | apply ba); exact BK326.out⟩
  have n4_ : Aside0 (Below w.heap.size w ((w43.setCell ⟨gb326, 0, none⟩ (.int .i64 (wrap64 (t320 + a1_0)))).setCell ⟨gb326, 1, none⟩ (.int .i64 (wrap64 (t321 + a1_0))))) := ⟨fW HB.out⟩
  (try clear BK316)
  (try clear BK317)
  (try clear BK318)
  (try clear BK326)
  (try clear HB)
  generalize ((w43.setCell ⟨gb326, 0, none⟩ (.int .i64 (wrap64 (t320 + a1_0)))).setCell ⟨gb326, 1, none⟩ (.int .i64 (wrap64 (t321 + a1_0)))) = w65 at n0_ n1_ n2_ n3_ n4_ ⊢
  have BK316 := n0_
  have BK317 := n1_
  have BK318 := n2_
  have BK326 := n3_
  have HB := n4_
  clear n0_ n1_ n2_ n3_ n4_
  (try (rw [drewN_self w65]; generalize hq_ : World.drewN w65 _ = w65; have n0_ : Aside0 (w65.heap[gb316]? = some (.cells #[.int .i64 a0_0, .int .i64 a0_1, .int .i64 a0_2, .int .i64 a0_3, .int .i64 a0_4, .int .i64 a0_5] 25 (0, 0))) := ⟨by rw [← hq_]; exact (fb BK316.out)⟩; have n1_ : Aside0 (w65.heap[gb317]? = some (.cells #[.int .i64 a1_0, .int .i64 a1_1, .int .i64 a1_2] 23 (0, 0))) := ⟨by rw [← hq_]; exact (fb BK317.out)⟩; have n2_ : Aside0 (w65.heap[gb318]? = some (.cells #[.int .i64 0, .int .i64 0, .int .i64 0, .int .i64 0, .int .i64 0, .int .i64 0] 25 (0, 0))) := ⟨by rw [← hq_]; exact (fb BK318.out)⟩; have n3_ : Aside0 (w65.heap[gb326]? = some (.cells #[.int .i64 (wrap64 (t320 + a1_0)), .int .i64 (wrap64 (t321 + a1_0)), .int .i64 t322, .int .i64 t323, .int .i64 t324, .int .i64 t325] 73 (0, 0))) := ⟨by rw [← hq_]; exact (fb BK326.out)⟩; have n4_ : Aside0 (Below w.heap.size w w65) := ⟨by rw [← hq_]; exact (fW HB.out)⟩; clear BK316 BK317 BK318 BK326 HB hq_; have BK316 := n0_; have BK317 := n1_; have BK318 := n2_; have BK326 := n3_; have HB := n4_; clear n0_ n1_ n2_ n3_ n4_))
  have n0_ := am (bd BK316.out)
  have n1_ := am (bd BK317.out)
  have n2_ := am (bd BK318.out)
  have n3_ := am (bd BK326.out)
  have n4_ := am (below_drew1 HB.out)
  clear BK316 BK317 BK318 BK326 HB
  have BK316 := n0_
  have BK317 := n1_
  have BK318 := n2_
  have BK326 := n3_
  have HB := n4_
  clear n0_ n1_ n2_ n3_ n4_
  refine start_ (n := 16) (S := fun w' => w'.cell? ⟨gb326, 0, none⟩ = some (.int .i64 (wrap64 (t320 + a1_0))) ∧ w'.cell? ⟨gb326, 1, none⟩ = some (.int .i64 (wrap64 (t321 + a1_0))) ∧ w'.cell? ⟨gb326, 2, none⟩ = some (.int .i64 t322) ∧ w'.cell? ⟨gb326, 3, none⟩ = some (.int .i64 t323) ∧ w'.cell? ⟨gb326, 4, none⟩ = some (.int .i64 t324) ∧ w'.cell? ⟨gb326, 5, none⟩ = some (.int .i64 t325)) (ds := [15]) #[F,F,F,F,F,F,F,F,F,F,F,F,F,F,F,F] (by kernel_rfl) rfl rfl ⟨(bc BK326.out 0).trans rfl, (bc BK326.out 1).trans rfl, (bc BK326.out 2).trans rfl, (bc BK326.out 3).trans rfl, (bc BK326.out 4).trans rfl, (bc BK326.out 5).trans rfl⟩ (fun hHeld => ?_); refine with_tabW box_Move.tab10 box_Move.bits10 (fun HT_ HW_ => ?_)
  generalize w65.drew = w66 at BK316 BK317 BK318 BK326 HB hHeld ⊢
  refine pu (i := 0) (N := some 56) (fl 16 1 []) HT_ ?_
  refine pu (i := 1) (N := some 57) (fl 16 2 []) HT_ ?_
  refine pu (i := 2) (N := some 58) (fl 16 3 []) HT_ ?_
  refine pu (i := 3) (N := some 59) (fl 16 4 []) HT_ ?_
  refine pu (i := 5) (N := some 61) (fl 16 4 [5]) HT_ ?_
  refine pu (i := 7) (N := some 63) (fl 16 4 [5, 7]) HT_ ?_
  refine pu (i := 8) (N := some 64) (fl 16 4 [5, 7, 8]) HT_ ?_
  refine pu (i := 9) (N := some 65) (fl 16 4 [5, 7, 8, 9]) HT_ ?_
  refine pu (i := 11) (N := some 67) (fl 16 4 [5, 7, 8, 9, 11]) HT_ ?_
  refine tk (i := 4) (N := some 60) (fl 16 6 [7, 8, 9, 11]) HT_ HW_ hHeld ?_
  refine pu (i := 6) (N := some 62) (fl 16 10 [11]) HT_ ?_
  refine tk (i := 10) (N := some 66) (fl 16 12 []) HT_ HW_ hHeld ?_
  refine pu (i := 12) (N := some 68) (fl 16 13 []) HT_ ?_
  refine pu (i := 13) (N := some 69) (fl 16 14 []) HT_ ?_
  refine pu (i := 14) (N := some 70) (fl 16 15 []) HT_ ?_
  refine last_ (i := 15) (N := none) #[T,T,T,T,T,T,T,T,T,T,T,T,T,T,T,T] rfl rfl (one_of HT_.out (by kernel_rfl)) (by decide) (fun K hK => ?_)
  have hs67 : w66.cell? ⟨gb326, 2, none⟩ = some (.int .i64 t322) := (bc BK326.out 2).trans rfl
  have hfs67 := bf BK326.out 2
  have hns67_0 := NB316_326.out
  have hns67_1 := NB317_326.out
  have hns67_2 := NB318_326.out
  have hms67_0 := NB326_316.out
  have hms67_1 := NB326_317.out
  have hms67_2 := NB326_318.out
  have hs68 : w66.cell? ⟨gb326, 3, none⟩ = some (.int .i64 t323) := (bc BK326.out 3).trans rfl
  have hfs68 := bf BK326.out 3
  have hns68_0 := NB316_326.out
  have hns68_1 := NB317_326.out
  have hns68_2 := NB318_326.out
  have hms68_0 := NB326_316.out
  have hms68_1 := NB326_317.out
  have hms68_2 := NB326_318.out
  refine skip_ (w1 := ?_) (by rfl) rfl ?_ ?_
  rotate_left
  ·go_simp
   rfl
  refine hK.out _ _ ?_
  clear hK K
  refine done_ (done_of HT_.out (by kernel_rfl)) ?_
  try go_wp2
  rw [rounds_succ]
  have H := HC60.out
  clear HC60
  by_cases c69 : a1_2 < (-2000000)
  ·rw [if_pos c69] at H
   have c69b0 : decide (a1_2 < (-2000000)) = true := decide_eq_true c69
   clear c69
   simp only [Option.some.injEq, Prod.mk.injEq] at H
   obtain ⟨rfl, rfl, rfl, rfl, rfl, rfl, rfl⟩ := H
   have hnb70 := NB318_316.out
   have hnc70 := NB316_318.out
   have hnb71 := NB318_317.out
   have hnc71 := NB317_318.out
   have hnb72 := NB318_326.out
   have hnc72 := NB326_318.out
   have := yC1 BK318
   have := kC1 BK318
   have := kC2 BK318
   have := kC3 BK318
   have := kC4 BK318
   have := kC5 BK318
   have := bf BK318.out 0
   have := bf BK318.out 1
   have := bf BK318.out 2
   have := bf BK318.out 3
   have := bf BK318.out 4
   have := bf BK318.out 5
   go_wp2
   refine bodyPost_ret (results_ct rfl _ _ gb318 25 #[.int .i64 0, .int .i64 0, .int .i64 0, .int .i64 0, .int .i64 0, .int .i64 0] (0, 0) _ rfl (kkC BK318.out) Try.underlying25 rfl (by kernel_rfl)) rfl ?_
   exact ⟨sqE, fW HB.out⟩
  rw [if_neg c69] at H
  have c69b0 : decide (a1_2 < (-2000000)) = false := decide_eq_false c69
  clear c69
  by_cases c74 : a1_2 > 2000000
  ·rw [if_pos c74] at H
   have c74b0 : decide (2000000 < a1_2) = true := decide_eq_true c74
   clear c74
   simp only [Option.some.injEq, Prod.mk.injEq] at H
   obtain ⟨rfl, rfl, rfl, rfl, rfl, rfl, rfl⟩ := H
   have hnb75 := NB318_316.out
   have hnc75 := NB316_318.out
   have hnb76 := NB318_317.out
   have hnc76 := NB317_318.out
   have hnb77 := NB318_326.out
   have hnc77 := NB326_318.out
   have := yC1 BK318
   have := kC1 BK318
   have := kC2 BK318
   have := kC3 BK318
   have := kC4 BK318
   have := kC5 BK318
   have := bf BK318.out 0
   have := bf BK318.out 1
   have := bf BK318.out 2
   have := bf BK318.out 3
   have := bf BK318.out 4
   have := bf BK318.out 5
   go_wp2
   refine bodyPost_ret (results_ct rfl _ _ gb318 25 #[.int .i64 0, .int .i64 0, .int .i64 0, .int .i64 0, .int .i64 0, .int .i64 0] (0, 0) _ rfl (kkC BK318.out) Try.underlying25 rfl (by kernel_rfl)) rfl ?_
   exact ⟨sqE, fW HB.out⟩
  rw [if_neg c74] at H
  have c74b0 : decide (2000000 < a1_2) = false := decide_eq_false c74
  clear c74
  replace H := Option.bind_eq_some_iff.mp H
  obtain ⟨t331, A790, H⟩ := H
  replace H : (if t331 = true then ((box_in.f (wrap64 (t325 + a1_2))).bind fun t332 => (if t332 = true then ((box_join.f (wrap64 (t320 + a1_0)) (wrap64 (t321 + a1_0)) (wrap64 (t322 + a1_1)) (wrap64 (t323 + a1_1)) (wrap64 (t324 + a1_2)) (wrap64 (t325 + a1_2))).bind fun bt333 => (some (bt333.1, bt333.2.1, bt333.2.2.1, bt333.2.2.2.1, bt333.2.2.2.2.1, bt333.2.2.2.2.2, 0))) else (some (0, 0, 0, 0, 0, 0, 6)))) else (some (0, 0, 0, 0, 0, 0, 6))) = some (r1, r2, r3, r4, r5, r6, r7) := H
  have A79 := am A790
  clear A790
  by_cases c80 : t331 = true
  rotate_left
  ·replace c80 := Bool.eq_false_iff.mpr c80
   subst c80
   have H1 : (some (0, 0, 0, 0, 0, 0, 6)) = some (r1, r2, r3, r4, r5, r6, r7) := by rw [if_neg (show ¬ (false = true) by decide)] at H; exact H
   clear H
   have H := H1
   clear H1
   simp only [Option.some.injEq, Prod.mk.injEq] at H
   obtain ⟨rfl, rfl, rfl, rfl, rfl, rfl, rfl⟩ := H
   have hnb108 := NB326_316.out
   have hnc108 := NB316_326.out
   have hnb109 := NB326_317.out
   have hnc109 := NB317_326.out
   have hnb110 := NB326_318.out
   have hnc110 := NB318_326.out
   have := yC1 BK326
   have := kC1 BK326
   have := kC2 BK326
   have := kC3 BK326
   have := kC4 BK326
   have := kC5 BK326
   have := bf BK326.out 0
   have := bf BK326.out 1
   have := bf BK326.out 2
   have := bf BK326.out 3
   have := bf BK326.out 4
   have := bf BK326.out 5
   go_wp2_with (first | (go_at_call 53; (with_reducible refine (box_in.calls (wrap64 (t324 + a1_2)) false _ A79.out).mono ?_); rintro e w' ⟨rfl, ⟨nd, rfl⟩⟩; have hnb112 := NB318_316.out; have hnc112 := NB316_318.out; have hnb113 := NB318_317.out; have hnc113 := NB317_318.out; obtain ⟨_, _, _, _, _, _, _, _, _, _, _, _⟩ := zC6 BK318))
   refine bodyPost_ret (results_ct rfl _ _ gb318 25 #[.int .i64 0, .int .i64 0, .int .i64 0, .int .i64 0, .int .i64 0, .int .i64 0] (0, 0) _ rfl (kkC BK318.out) Try.underlying25 rfl (by kernel_rfl)) rfl ?_
   exact ⟨sqE, fW HB.out⟩
  subst c80
  have H1 : ((box_in.f (wrap64 (t325 + a1_2))).bind fun t332 => (if t332 = true then ((box_join.f (wrap64 (t320 + a1_0)) (wrap64 (t321 + a1_0)) (wrap64 (t322 + a1_1)) (wrap64 (t323 + a1_1)) (wrap64 (t324 + a1_2)) (wrap64 (t325 + a1_2))).bind fun bt333 => (some (bt333.1, bt333.2.1, bt333.2.2.1, bt333.2.2.2.1, bt333.2.2.2.2.1, bt333.2.2.2.2.2, 0))) else (some (0, 0, 0, 0, 0, 0, 6)))) = some (r1, r2, r3, r4, r5, r6, r7) := by rw [if_pos rfl] at H; exact H
  clear H
  have H := H1
  clear H1
  replace H := Option.bind_eq_some_iff.mp H
  obtain ⟨t332, A810, H⟩ := H
  replace H : (if t332 = true then ((box_join.f (wrap64 (t320 + a1_0)) (wrap64 (t321 + a1_0)) (wrap64 (t322 + a1_1)) (wrap64 (t323 + a1_1)) (wrap64 (t324 + a1_2)) (wrap64 (t325 + a1_2))).bind fun bt333 => (some (bt333.1, bt333.2.1, bt333.2.2.1, bt333.2.2.2.1, bt333.2.2.2.2.1, bt333.2.2.2.2.2, 0))) else (some (0, 0, 0, 0, 0, 0, 6))) = some (r1, r2, r3, r4, r5, r6, r7) := H
  have A81 := am A810
  clear A810
  by_cases c82 : t332 = true
  rotate_left
  ·replace c82 := Bool.eq_false_iff.mpr c82
   subst c82
   have H1 : (some (0, 0, 0, 0, 0, 0, 6)) = some (r1, r2, r3, r4, r5, r6, r7) := by rw [if_neg (show ¬ (false = true) by decide)] at H; exact H
   clear H
   have H := H1
   clear H1
   simp only [Option.some.injEq, Prod.mk.injEq] at H
   obtain ⟨rfl, rfl, rfl, rfl, rfl, rfl, rfl⟩ := H
   have hnb101 := NB326_316.out
   have hnc101 := NB316_326.out
   have hnb102 := NB326_317.out
   have hnc102 := NB317_326.out
   have hnb103 := NB326_318.out
   have hnc103 := NB318_326.out
   have := yC1 BK326
   have := kC1 BK326
   have := kC2 BK326
   have := kC3 BK326
   have := kC4 BK326
   have := kC5 BK326
   have := bf BK326.out 0
   have := bf BK326.out 1
   have := bf BK326.out 2
   have := bf BK326.out 3
   have := bf BK326.out 4
   have := bf BK326.out 5
   go_wp2_with (first | (go_at_call 53; (with_reducible refine (box_in.calls (wrap64 (t324 + a1_2)) true _ A79.out).mono ?_); rintro e w' ⟨rfl, ⟨nd, rfl⟩⟩) | (go_at_call 53; (with_reducible refine (box_in.calls (wrap64 (t325 + a1_2)) false _ A81.out).mono ?_); rintro e w' ⟨rfl, ⟨nd, rfl⟩⟩; have hnb105 := NB318_316.out; have hnc105 := NB316_318.out; have hnb106 := NB318_317.out; have hnc106 := NB317_318.out; obtain ⟨_, _, _, _, _, _, _, _, _, _, _, _⟩ := zC6 BK318))
   refine bodyPost_ret (results_ct rfl _ _ gb318 25 #[.int .i64 0, .int .i64 0, .int .i64 0, .int .i64 0, .int .i64 0, .int .i64 0] (0, 0) _ rfl (kkC BK318.out) Try.underlying25 rfl (by kernel_rfl)) rfl ?_
   exact ⟨sqE, fW HB.out⟩
  subst c82
  have H1 : ((box_join.f (wrap64 (t320 + a1_0)) (wrap64 (t321 + a1_0)) (wrap64 (t322 + a1_1)) (wrap64 (t323 + a1_1)) (wrap64 (t324 + a1_2)) (wrap64 (t325 + a1_2))).bind fun bt333 => (some (bt333.1, bt333.2.1, bt333.2.2.1, bt333.2.2.2.1, bt333.2.2.2.2.1, bt333.2.2.2.2.2, 0))) = some (r1, r2, r3, r4, r5, r6, r7) := by rw [if_pos rfl] at H; exact H
  clear H
  have H := H1
  clear H1
  have HC83 := am H
  clear H
  have hnb84 := NB326_316.out
  have hnc84 := NB316_326.out
  have hnb85 := NB326_317.out
  have hnc85 := NB317_326.out
  have hnb86 := NB326_318.out
  have hnc86 := NB318_326.out
  have := yC1 BK326
  have := kC1 BK326
  have := kC2 BK326
  have := kC3 BK326
  have := kC4 BK326
  have := kC5 BK326
  have := bf BK326.out 0
  have := bf BK326.out 1
  have := bf BK326.out 2
  have := bf BK326.out 3
  have := bf BK326.out 4
  have := bf BK326.out 5
  try go_wp2_with (first | (go_at_call 53; (with_reducible refine (box_in.calls (wrap64 (t324 + a1_2)) true _ A79.out).mono ?_); rintro e w' ⟨rfl, ⟨nd, rfl⟩⟩) | (go_at_call 53; (with_reducible refine (box_in.calls (wrap64 (t325 + a1_2)) true _ A81.out).mono ?_); rintro e w' ⟨rfl, ⟨nd, rfl⟩⟩))
  have n0_ : Aside0 (((w66.setCell ⟨gb326, 2, none⟩ (.int .i64 (wrap64 (t322 + a1_1)))).setCell ⟨gb326, 3, none⟩ (.int .i64 (wrap64 (t323 + a1_1)))).heap[gb316]? = some (.cells #[.int .i64 a0_0, .int .i64 a0_1, .int .i64 a0_2, .int .i64 a0_3, .int .i64 a0_4, .int .i64 a0_5] 25 (0, 0))) := ⟨by (with_reducible repeat first | apply bN | apply bd | apply ba); refine bF ?_ NB316_326.out _; (with_reducible repeat first | apply bN | apply bd | apply ba); refine bF ?_ NB316_326.out _; (with_reducible repeat first | apply bN | apply bd | apply ba); exact BK316.out⟩
  have n1_ : Aside0 (((w66.setCell ⟨gb326, 2, none⟩ (.int .i64 (wrap64 (t322 + a1_1)))).setCell ⟨gb326, 3, none⟩ (.int .i64 (wrap64 (t323 + a1_1)))).heap[gb317]? = some (.cells #[.int .i64 a1_0, .int .i64 a1_1, .int .i64 a1_2] 23 (0, 0))) := ⟨by (with_reducible repeat first | apply bN | apply bd | apply ba); refine bF ?_ NB317_326.out _; (with_reducible repeat first | apply bN | apply bd | apply ba); refine bF ?_ NB317_326.out _; (with_reducible repeat first | apply bN | apply bd | apply ba); exact BK317.out⟩
  have n2_ : Aside0 (((w66.setCell ⟨gb326, 2, none⟩ (.int .i64 (wrap64 (t322 + a1_1)))).setCell ⟨gb326, 3, none⟩ (.int .i64 (wrap64 (t323 + a1_1)))).heap[gb318]? = some (.cells #[.int .i64 0, .int .i64 0, .int .i64 0, .int .i64 0, .int .i64 0, .int .i64 0] 25 (0, 0))) := ⟨by (with_reducible repeat first | apply bN | apply bd | apply ba); refine bF ?_ NB318_326.out _; (with_reducible repeat first | apply bN | apply bd | apply ba); refine bF ?_ NB318_326.out _; (with_reducible repeat first | apply bN | apply bd | apply ba); exact BK318.out⟩
  have n3_ : Aside0 (((w66.setCell ⟨gb326, 2, none⟩ (.int .i64 (wrap64 (t322 + a1_1)))).setCell ⟨gb326, 3, none⟩ (.int .i64 (wrap64 (t323 + a1_1)))).heap[gb326]? = some (.cells #[.int .i64 (wrap64 (t320 + a1_0)), .int .i64 (wrap64 (t321 + a1_0)), .int .i64 (wrap64 (t322 + a1_1)), .int .i64 (wrap64 (t323 + a1_1)), .int .i64 t324, .int .i64 t325] 73 (0, 0))) := ⟨by (with_reducible repeat first | apply bN | apply bd | apply ba); refine blk_put (cs := #[.int .i64 (wrap64 (t320 + a1_0)), .int .i64 (wrap64 (t321 + a1_0)), .int .i64 (wrap64 (t322 + a1_1)), .int .i64 t323, .int .i64 t324, .int .i64 t325]) ?_ 3 _ rfl; (with_reducible repeat first | apply bN | apply bd | apply ba); refine blk_put (cs := #[.int .i64 (wrap64 (t320 + a1_0)), .int .i64 (wrap64 (t321 + a1_0)), .int .i64 t322, .int .i64 t323, .int .i64 t324, .int .i64 t325]) ?_ 2 _ rfl; (with_reducible repeat first | apply bN | apply bd | apply ba); exact BK326.out⟩
  have n4_ : Aside0 (Below w.heap.size w ((w66.setCell ⟨gb326, 2, none⟩ (.int .i64 (wrap64 (t322 + a1_1)))).setCell ⟨gb326, 3, none⟩ (.int .i64 (wrap64 (t323 + a1_1))))) := ⟨fW HB.out⟩
  (try clear BK316)
  (try clear BK317)
  (try clear BK318)
  (try clear BK326)
  (try clear HB)
  generalize ((w66.setCell ⟨gb326, 2, none⟩ (.int .i64 (wrap64 (t322 + a1_1)))).setCell ⟨gb326, 3, none⟩ (.int .i64 (wrap64 (t323 + a1_1)))) = w88 at n0_ n1_ n2_ n3_ n4_ ⊢
  have BK316 := n0_
  have BK317 := n1_
  have BK318 := n2_
  have BK326 := n3_
  have HB := n4_
  clear n0_ n1_ n2_ n3_ n4_
  (try (rw [drewN_self w88]; generalize hq_ : World.drewN w88 _ = w88; have n0_ : Aside0 (w88.heap[gb316]? = some (.cells #[.int .i64 a0_0, .int .i64 a0_1, .int .i64 a0_2, .int .i64 a0_3, .int .i64 a0_4, .int .i64 a0_5] 25 (0, 0))) := ⟨by rw [← hq_]; exact (fb BK316.out)⟩; have n1_ : Aside0 (w88.heap[gb317]? = some (.cells #[.int .i64 a1_0, .int .i64 a1_1, .int .i64 a1_2] 23 (0, 0))) := ⟨by rw [← hq_]; exact (fb BK317.out)⟩; have n2_ : Aside0 (w88.heap[gb318]? = some (.cells #[.int .i64 0, .int .i64 0, .int .i64 0, .int .i64 0, .int .i64 0, .int .i64 0] 25 (0, 0))) := ⟨by rw [← hq_]; exact (fb BK318.out)⟩; have n3_ : Aside0 (w88.heap[gb326]? = some (.cells #[.int .i64 (wrap64 (t320 + a1_0)), .int .i64 (wrap64 (t321 + a1_0)), .int .i64 (wrap64 (t322 + a1_1)), .int .i64 (wrap64 (t323 + a1_1)), .int .i64 t324, .int .i64 t325] 73 (0, 0))) := ⟨by rw [← hq_]; exact (fb BK326.out)⟩; have n4_ : Aside0 (Below w.heap.size w w88) := ⟨by rw [← hq_]; exact (fW HB.out)⟩; clear BK316 BK317 BK318 BK326 HB hq_; have BK316 := n0_; have BK317 := n1_; have BK318 := n2_; have BK326 := n3_; have HB := n4_; clear n0_ n1_ n2_ n3_ n4_))
  have n0_ := am (bd BK316.out)
  have n1_ := am (bd BK317.out)
  have n2_ := am (bd BK318.out)
  have n3_ := am (bd BK326.out)
  have n4_ := am (below_drew1 HB.out)
  clear BK316 BK317 BK318 BK326 HB
  have BK316 := n0_
  have BK317 := n1_
  have BK318 := n2_
  have BK326 := n3_
  have HB := n4_
  clear n0_ n1_ n2_ n3_ n4_
  refine start_ (n := 16) (S := fun w' => w'.cell? ⟨gb326, 0, none⟩ = some (.int .i64 (wrap64 (t320 + a1_0))) ∧ w'.cell? ⟨gb326, 1, none⟩ = some (.int .i64 (wrap64 (t321 + a1_0))) ∧ w'.cell? ⟨gb326, 2, none⟩ = some (.int .i64 (wrap64 (t322 + a1_1))) ∧ w'.cell? ⟨gb326, 3, none⟩ = some (.int .i64 (wrap64 (t323 + a1_1))) ∧ w'.cell? ⟨gb326, 4, none⟩ = some (.int .i64 t324) ∧ w'.cell? ⟨gb326, 5, none⟩ = some (.int .i64 t325)) (ds := [15]) #[F,F,F,F,F,F,F,F,F,F,F,F,F,F,F,F] (by kernel_rfl) rfl rfl ⟨(bc BK326.out 0).trans rfl, (bc BK326.out 1).trans rfl, (bc BK326.out 2).trans rfl, (bc BK326.out 3).trans rfl, (bc BK326.out 4).trans rfl, (bc BK326.out 5).trans rfl⟩ (fun hHeld => ?_); refine with_tabW box_Move.tab10 box_Move.bits10 (fun HT_ HW_ => ?_)
  generalize w88.drew = w89 at BK316 BK317 BK318 BK326 HB hHeld ⊢
  refine pu (i := 0) (N := some 56) (fl 16 1 []) HT_ ?_
  refine pu (i := 1) (N := some 57) (fl 16 2 []) HT_ ?_
  refine pu (i := 2) (N := some 58) (fl 16 3 []) HT_ ?_
  refine pu (i := 3) (N := some 59) (fl 16 4 []) HT_ ?_
  refine pu (i := 5) (N := some 61) (fl 16 4 [5]) HT_ ?_
  refine pu (i := 7) (N := some 63) (fl 16 4 [5, 7]) HT_ ?_
  refine pu (i := 8) (N := some 64) (fl 16 4 [5, 7, 8]) HT_ ?_
  refine pu (i := 9) (N := some 65) (fl 16 4 [5, 7, 8, 9]) HT_ ?_
  refine pu (i := 11) (N := some 67) (fl 16 4 [5, 7, 8, 9, 11]) HT_ ?_
  refine tk (i := 4) (N := some 60) (fl 16 6 [7, 8, 9, 11]) HT_ HW_ hHeld ?_
  refine pu (i := 6) (N := some 62) (fl 16 10 [11]) HT_ ?_
  refine tk (i := 10) (N := some 66) (fl 16 12 []) HT_ HW_ hHeld ?_
  refine pu (i := 12) (N := some 68) (fl 16 13 []) HT_ ?_
  refine pu (i := 13) (N := some 69) (fl 16 14 []) HT_ ?_
  refine pu (i := 14) (N := some 70) (fl 16 15 []) HT_ ?_
  refine last_ (i := 15) (N := none) #[T,T,T,T,T,T,T,T,T,T,T,T,T,T,T,T] rfl rfl (one_of HT_.out (by kernel_rfl)) (by decide) (fun K hK => ?_)
  have hs90 : w89.cell? ⟨gb326, 4, none⟩ = some (.int .i64 t324) := (bc BK326.out 4).trans rfl
  have hfs90 := bf BK326.out 4
  have hns90_0 := NB316_326.out
  have hns90_1 := NB317_326.out
  have hns90_2 := NB318_326.out
  have hms90_0 := NB326_316.out
  have hms90_1 := NB326_317.out
  have hms90_2 := NB326_318.out
  have hs91 : w89.cell? ⟨gb326, 5, none⟩ = some (.int .i64 t325) := (bc BK326.out 5).trans rfl
  have hfs91 := bf BK326.out 5
  have hns91_0 := NB316_326.out
  have hns91_1 := NB317_326.out
  have hns91_2 := NB318_326.out
  have hms91_0 := NB326_316.out
  have hms91_1 := NB326_317.out
  have hms91_2 := NB326_318.out
  refine skip_ (w1 := ?_) (by rfl) rfl ?_ ?_
  rotate_left
  ·go_simp
   rfl
  refine hK.out _ _ ?_
  clear hK K
  refine done_ (done_of HT_.out (by kernel_rfl)) ?_
  try go_wp2
  rw [rounds_succ]
  have H := HC83.out
  clear HC83
  replace H := Option.bind_eq_some_iff.mp H
  obtain ⟨⟨t333, t334, t335, t336, t337, t338⟩, A920, H⟩ := H
  replace H : (some (t333, t334, t335, t336, t337, t338, 0)) = some (r1, r2, r3, r4, r5, r6, r7) := H
  have A92 := am A920
  clear A920
  simp only [Option.some.injEq, Prod.mk.injEq] at H
  obtain ⟨rfl, rfl, rfl, rfl, rfl, rfl, rfl⟩ := H
  have hnb93 := NB326_316.out
  have hnc93 := NB316_326.out
  have hnb94 := NB326_317.out
  have hnc94 := NB317_326.out
  have hnb95 := NB326_318.out
  have hnc95 := NB318_326.out
  have := yC1 BK326
  have := kC1 BK326
  have := kC2 BK326
  have := kC3 BK326
  have := kC4 BK326
  have := kC5 BK326
  have := bf BK326.out 0
  have := bf BK326.out 1
  have := bf BK326.out 2
  have := bf BK326.out 3
  have := bf BK326.out 4
  have := bf BK326.out 5
  go_wp2_with (first | ((with_reducible refine gate_callee (f := 54) rfl ?_); refine goesL_ (some 73) rfl rfl Try.func54 (by kernel_rfl) rfl #[.agg #[.int .i64 (wrap64 (t320 + a1_0)), .int .i64 (wrap64 (t321 + a1_0)), .int .i64 (wrap64 (t322 + a1_1)), .int .i64 (wrap64 (t323 + a1_1)), .int .i64 (wrap64 (t324 + a1_2)), .int .i64 (wrap64 (t325 + a1_2))]] rfl (by (try simp only [pml]); first | done | rfl | (simp only [pdt]; rfl)) ?_; (with_reducible refine (box_join.calls (wrap64 (t320 + a1_0)) (wrap64 (t321 + a1_0)) (wrap64 (t322 + a1_1)) (wrap64 (t323 + a1_1)) (wrap64 (t324 + a1_2)) (wrap64 (t325 + a1_2)) t333 t334 t335 t336 t337 t338 _ A92.out).mono ?_); rintro e w97 ⟨rfl, hb⟩; refine ⟨_, rfl, ?_⟩; replace BK316 := xC1 (kfC BK316.out) hb; replace BK317 := xC1 (kfC BK317.out) hb; replace BK318 := xC1 (kfC BK318.out) hb; replace BK326 := xC1 (o := .cells #[.int .i64 (wrap64 (t320 + a1_0)), .int .i64 (wrap64 (t321 + a1_0)), .int .i64 (wrap64 (t322 + a1_1)), .int .i64 (wrap64 (t323 + a1_1)), .int .i64 (wrap64 (t324 + a1_2)), .int .i64 (wrap64 (t325 + a1_2))] 73 (0, 0)) (kkC BK326.out) hb; replace HB := bS HB hb; (try clear hb); (try clear hb2); (try clear hk); (try clear hi); have hnb98 := NB318_316.out; have hnc98 := NB316_318.out; have hnb99 := NB318_317.out; have hnc99 := NB317_318.out; obtain ⟨_, _, _, _, _, _, _, _, _, _, _, _⟩ := zC6 BK318))
  refine bodyPost_ret (results_ct rfl _ _ gb318 25 #[.int .i64 t333, .int .i64 t334, .int .i64 t335, .int .i64 t336, .int .i64 t337, .int .i64 t338] (0, 0) _ rfl (kkC BK318.out) Try.underlying25 rfl (by kernel_rfl)) rfl ?_
  exact ⟨sqE, fW HB.out⟩
 ·rw [if_neg c4] at H
  have c4b0 : (t319 == 0) = false := beq_eq_false_iff_ne.mpr c4
  have c4b1 : (t319 != 0) = true := bne_iff_ne.mpr c4
  simp only [Option.some.injEq, Prod.mk.injEq] at H
  obtain ⟨rfl, rfl, rfl, rfl, rfl, rfl, rfl⟩ := H
  go_enter Try.func15, Try.ntmps15
  go_wp2_with (first | ((with_reducible refine gate_dst (N := 2) rfl ?_); refine box_event ?hg (N := 2) ?hd (cs := #[.int .i64 a0_0, .int .i64 a0_1, .int .i64 a0_2, .int .i64 a0_3, .int .i64 a0_4, .int .i64 a0_5]) (t := 25) ?hr ?_; (case hd | hg => rfl); (case hr => first | (go_simp; done) | (go_simp; rfl)); intro gb316 hg w143 hbox hb; have BK316 := am hbox; have GW316 := sG HB hg; have GE316 := sG HB hg; replace HB := bS HB hb; clear hb hbox hg) | ((with_reducible refine gate_dst (N := 3) rfl ?_); refine box_event ?hg (N := 3) ?hd (cs := #[.int .i64 a1_0, .int .i64 a1_1, .int .i64 a1_2]) (t := 23) ?hr ?_; (case hd | hg => rfl); (case hr => first | (go_simp; done) | (go_simp; rfl)); intro gb317 hg w144 hbox hb; have BK317 := am hbox; have GW317 := sG HB hg; have GE317 := sG HB hg; replace HB := bS HB hb; have NB316_317 := nL BK316 hg; have NB317_316 := nG BK316 hg; replace BK316 := bB BK316 hb; clear hb hbox hg) | ((with_reducible refine gate_dst (N := 4) rfl ?_); refine box_event ?hg (N := 4) ?hd (cs := #[.int .i64 0, .int .i64 0, .int .i64 0, .int .i64 0, .int .i64 0, .int .i64 0]) (t := 25) ?hr ?_; (case hd | hg => rfl); (case hr => first | (go_simp; done) | (go_simp; rfl)); intro gb318 hg w145 hbox hb; have BK318 := am hbox; have GW318 := sG HB hg; have GE318 := sG HB hg; replace HB := bS HB hb; have NB316_318 := nL BK316 hg; have NB318_316 := nG BK316 hg; replace BK316 := bB BK316 hb; have NB317_318 := nL BK317 hg; have NB318_317 := nG BK317 hg; replace BK317 := bB BK317 hb; clear hb hbox hg; have hnb146 := NB316_317.out; have hnc146 := NB317_316.out; have hnb147 := NB316_318.out; have hnc147 := NB318_316.out; obtain ⟨_, _, _, _, _, _, _, _, _, _, _, _⟩ := zC6 BK316) | ((with_reducible refine gate_callee (f := 20) rfl ?_); refine goesL_ (some 11) rfl rfl Try.func20 (by kernel_rfl) rfl #[.agg #[.int .i64 a0_0, .int .i64 a0_1, .int .i64 a0_2, .int .i64 a0_3, .int .i64 a0_4, .int .i64 a0_5]] rfl (by (try simp only [pml]); first | done | rfl | (simp only [pdt]; rfl)) ?_; (with_reducible refine (box_Check.calls a0_0 a0_1 a0_2 a0_3 a0_4 a0_5 t319 _ A3.out).mono ?_); rintro e w149 ⟨rfl, hb⟩; refine ⟨_, rfl, ?_⟩; replace BK316 := bB BK316 hb; replace BK317 := bB BK317 hb; replace BK318 := bB BK318 hb; replace HB := bS HB hb; (try clear hb); (try clear hb2); (try clear hk); (try clear hi); have hnb150 := NB318_317.out; have hnc150 := NB317_318.out; obtain ⟨_, _, _, _, _, _, _, _, _, _, _, _⟩ := zC6 BK318))
  refine bodyPost_ret (results_ct rfl _ _ gb318 25 #[.int .i64 0, .int .i64 0, .int .i64 0, .int .i64 0, .int .i64 0, .int .i64 0] (0, 0) _ rfl (kkC BK318.out) Try.underlying25 rfl (by kernel_rfl)) rfl ?_
  exact ⟨sqE, fW HB.out⟩

end Go.Proofs.Ytmmdikhmlmoolaa.QA
