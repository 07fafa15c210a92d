import Derived.Test.YtcofgnbopodahaaJQAx0
import Derived.Test.YtcofgnbopodahaaJQAx4
import Derived.Test.YtcofgnbopodahaaJEvKit
import Derived.Test.YtcofgnbopodahaaJMapKit
import Derived.Carry
import Derived.LoopN
namespace Go.Proofs.Ytcofgnbopodahaa.QA
open Go.RowKit Go.Proofs.YtcofgnbopodahaaW.PrintWords Go.Proofs.YtcofgnbopodahaaW.PrintLast Go.Proofs.YtcofgnbopodahaaW.PrintMore
open Go.Proofs.YtcofgnbopodahaaW.PrintWords renaming blk_drewN → bN, blk_drew → bd, blk_alloc → ba, blk_frozen → bf, blk_put → bp, gate_dst → gd, gate_callee → gc, box_event → be
open Aside0 renaming mk → am
attribute [local go_sem] max2_int min2_int max_two min_two max_three min_three max_four min_four
set_option linter.unusedVariables false
set_option linter.unusedSimpArgs false

def box_Check.f (a0_0 : Int) (a0_1 : Int) (a0_2 : Int) (a0_3 : Int) (a0_4 : Int) (a0_5 : Int) : Option (Int) := (box_sides.f a0_0 a0_1 a0_2 a0_3 a0_4 a0_5).bind fun bt108 => ((box_in.f bt108.1).bind fun t115 => (if t115 = true then ((box_in.f bt108.2.1).bind fun t116 => (if t116 = true then ((box_in.f bt108.2.2.1).bind fun t118 => (if t118 = true then ((box_in.f bt108.2.2.2.1).bind fun t119 => (if t119 = true then ((box_in.f bt108.2.2.2.2.1).bind fun t121 => (if t121 = true then ((box_in.f bt108.2.2.2.2.2).bind fun t122 => (if t122 = true then ((box_sides.f a0_0 a0_1 a0_2 a0_3 a0_4 a0_5).bind fun bt123 => (if bt123.1 ≥ bt123.2.1 then (some 1) else (if bt123.2.2.1 ≥ bt123.2.2.2.1 then (some 1) else (if bt123.2.2.2.2.1 ≥ bt123.2.2.2.2.2 then (some 1) else (some 0))))) else (some 6))) else (some 6))) else (some 6))) else (some 6))) else (some 6))) else (some 6)))
set_option maxHeartbeats 8000000 in
set_option maxRecDepth 100000 in
theorem box_Check.calls (a0_0 : Int) (a0_1 : Int) (a0_2 : Int) (a0_3 : Int) (a0_4 : Int) (a0_5 : Int) (r : Int) (w : World) (h : box_Check.f a0_0 a0_1 a0_2 a0_3 a0_4 a0_5 = some r) :
  Calls Try.prog 43 #[.agg #[.int .i64 a0_0, .int .i64 a0_1, .int .i64 a0_2, .int .i64 a0_3, .int .i64 a0_4, .int .i64 a0_5]] w fun e w' => e = .returned (.int .i64 r) ∧ Below w.heap.size w w' := by
 have hu43 := Try.underlying43
 have hu96 := Try.underlying96
 have hu65 := Try.underlying65
 have hix96_0 : ∀ (e0_ e1_ e2_ e3_ e4_ e5_ : Value) (W_ : World), Sem.run Try.prog (Instr.index 96 (.agg #[e0_, e1_, e2_, e3_, e4_, e5_]) (.int .i64 0)) W_ = .ok (.agg #[e0_, e1_]) W_ := fun _ _ _ _ _ _ _  => by kernel_rfl
 have hix96_1 : ∀ (e0_ e1_ e2_ e3_ e4_ e5_ : Value) (W_ : World), Sem.run Try.prog (Instr.index 96 (.agg #[e0_, e1_, e2_, e3_, e4_, e5_]) (.int .i64 1)) W_ = .ok (.agg #[e2_, e3_]) W_ := fun _ _ _ _ _ _ _  => by kernel_rfl
 have hix96_2 : ∀ (e0_ e1_ e2_ e3_ e4_ e5_ : Value) (W_ : World), Sem.run Try.prog (Instr.index 96 (.agg #[e0_, e1_, e2_, e3_, e4_, e5_]) (.int .i64 2)) W_ = .ok (.agg #[e4_, e5_]) W_ := fun _ _ _ _ _ _ _  => by kernel_rfl
 have HB := am (Below.refl w.heap.size w)
 have H : ((box_sides.f a0_0 a0_1 a0_2 a0_3 a0_4 a0_5).bind fun bt108 => ((box_in.f bt108.1).bind fun t115 => (if t115 = true then ((box_in.f bt108.2.1).bind fun t116 => (if t116 = true then ((box_in.f bt108.2.2.1).bind fun t118 => (if t118 = true then ((box_in.f bt108.2.2.2.1).bind fun t119 => (if t119 = true then ((box_in.f bt108.2.2.2.2.1).bind fun t121 => (if t121 = true then ((box_in.f bt108.2.2.2.2.2).bind fun t122 => (if t122 = true then ((box_sides.f a0_0 a0_1 a0_2 a0_3 a0_4 a0_5).bind fun bt123 => (if bt123.1 ≥ bt123.2.1 then (some 1) else (if bt123.2.2.1 ≥ bt123.2.2.2.1 then (some 1) else (if bt123.2.2.2.2.1 ≥ bt123.2.2.2.2.2 then (some 1) else (some 0))))) else (some 6))) else (some 6))) else (some 6))) else (some 6))) else (some 6))) else (some 6)))) = some r := h
 clear h
 replace H := Option.bind_eq_some_iff.mp H
 obtain ⟨⟨t108, t109, t110, t111, t112, t113⟩, A20, H⟩ := H
 replace H : ((box_in.f t108).bind fun t115 => (if t115 = true then ((box_in.f t109).bind fun t116 => (if t116 = true then ((box_in.f t110).bind fun t118 => (if t118 = true then ((box_in.f t111).bind fun t119 => (if t119 = true then ((box_in.f t112).bind fun t121 => (if t121 = true then ((box_in.f t113).bind fun t122 => (if t122 = true then ((box_sides.f a0_0 a0_1 a0_2 a0_3 a0_4 a0_5).bind fun bt123 => (if bt123.1 ≥ bt123.2.1 then (some 1) else (if bt123.2.2.1 ≥ bt123.2.2.2.1 then (some 1) else (if bt123.2.2.2.2.1 ≥ bt123.2.2.2.2.2 then (some 1) else (some 0))))) else (some 6))) else (some 6))) else (some 6))) else (some 6))) else (some 6))) else (some 6))) = some r := H
 have A2 := am A20
 clear A20
 have HC3 := am H
 clear H
 go_enter Try.func43, Try.ntmps43
 go_wp2_with (first | ((with_reducible refine gd (N := 1) rfl ?_); refine be ?hg (N := 1) ?hd (cs := #[.int .i64 a0_0, .int .i64 a0_1, .int .i64 a0_2, .int .i64 a0_3, .int .i64 a0_4, .int .i64 a0_5]) (t := 43) ?hr ?_; (case hd | hg => rfl); (case hr => first | (go_simp; done) | (go_simp; rfl)); intro gb107 hg w4 hbox hb; have BK107 := am hbox; have GW107 := sG HB hg; have GE107 := sG HB hg; replace HB := bS HB hb; clear hb hbox hg; obtain ⟨_, _, _, _, _, _, _, _, _, _, _, _⟩ := zC6 BK107) | ((with_reducible refine gc (f := 71) rfl ?_); refine goesL_ (some 8) rfl rfl Try.func71 (by kernel_rfl) rfl #[.agg #[.int .i64 a0_0, .int .i64 a0_1, .int .i64 a0_2, .int .i64 a0_3, .int .i64 a0_4, .int .i64 a0_5]] rfl (by (try simp only [pml]); first | done | rfl | (simp only [pdt]; rfl)) ?_; (with_reducible refine (box_sides.calls a0_0 a0_1 a0_2 a0_3 a0_4 a0_5 t108 t109 t110 t111 t112 t113 _ A2.out).mono ?_); rintro e w6 ⟨rfl, hb⟩; refine ⟨_, rfl, ?_⟩; replace BK107 := bB BK107 hb; replace HB := bS HB hb; (try clear hb); (try clear hb2); (try clear hk); (try clear hi)))
 refine wp_loop_rounds 9 ?_
 rw [rounds_succ]
 have H := HC3.out
 clear HC3
 replace H := Option.bind_eq_some_iff.mp H
 obtain ⟨t115, A70, H⟩ := H
 replace H : (if t115 = true then ((box_in.f t109).bind fun t116 => (if t116 = true then ((box_in.f t110).bind fun t118 => (if t118 = true then ((box_in.f t111).bind fun t119 => (if t119 = true then ((box_in.f t112).bind fun t121 => (if t121 = true then ((box_in.f t113).bind fun t122 => (if t122 = true then ((box_sides.f a0_0 a0_1 a0_2 a0_3 a0_4 a0_5).bind fun bt123 => (if bt123.1 ≥ bt123.2.1 then (some 1) else (if bt123.2.2.1 ≥ bt123.2.2.2.1 then (some 1) else (if bt123.2.2.2.2.1 ≥ bt123.2.2.2.2.2 then (some 1) else (some 0))))) else (some 6))) else (some 6))) else (some 6))) else (some 6))) else (some 6))) else (some 6)) = some r := H
 have A7 := am A70
 clear A70
 by_cases c8 : t115 = true
 ·subst c8
  have H1 : ((box_in.f t109).bind fun t116 => (if t116 = true then ((box_in.f t110).bind fun t118 => (if t118 = true then ((box_in.f t111).bind fun t119 => (if t119 = true then ((box_in.f t112).bind fun t121 => (if t121 = true then ((box_in.f t113).bind fun t122 => (if t122 = true then ((box_sides.f a0_0 a0_1 a0_2 a0_3 a0_4 a0_5).bind fun bt123 => (if bt123.1 ≥ bt123.2.1 then (some 1) else (if bt123.2.2.1 ≥ bt123.2.2.2.1 then (some 1) else (if bt123.2.2.2.2.1 ≥ bt123.2.2.2.2.2 then (some 1) else (some 0))))) else (some 6))) else (some 6))) else (some 6))) else (some 6))) else (some 6))) = some r := by rw [if_pos rfl] at H; exact H
  clear H
  have H := H1
  clear H1
  replace H := Option.bind_eq_some_iff.mp H
  obtain ⟨t116, A90, H⟩ := H
  replace H : (if t116 = true then ((box_in.f t110).bind fun t118 => (if t118 = true then ((box_in.f t111).bind fun t119 => (if t119 = true then ((box_in.f t112).bind fun t121 => (if t121 = true then ((box_in.f t113).bind fun t122 => (if t122 = true then ((box_sides.f a0_0 a0_1 a0_2 a0_3 a0_4 a0_5).bind fun bt123 => (if bt123.1 ≥ bt123.2.1 then (some 1) else (if bt123.2.2.1 ≥ bt123.2.2.2.1 then (some 1) else (if bt123.2.2.2.2.1 ≥ bt123.2.2.2.2.2 then (some 1) else (some 0))))) else (some 6))) else (some 6))) else (some 6))) else (some 6))) else (some 6)) = some r := H
  have A9 := am A90
  clear A90
  by_cases c10 : t116 = true
  rotate_left
  ·replace c10 := Bool.eq_false_iff.mpr c10
   subst c10
   have H1 : (some 6) = some r := by rw [if_neg (show ¬ (false = true) by decide)] at H; exact H
   clear H
   have H := H1
   clear H1
   obtain rfl := Option.some.inj H
   go_wp2_with (first | ((with_reducible refine gd (N := 4) rfl ?_); refine be ?hg (N := 4) ?hd (cs := #[.int .i64 0, .int .i64 0]) (t := 65) ?hr ?_; (case hd | hg => rfl); (case hr => first | (go_simp; done) | (go_simp; rfl)); intro gb114 hg w107 hbox hb; have BK114 := am hbox; have GW114 := sG HB hg; have GE114 := sG HB hg; replace HB := bS HB hb; have NB107_114 := nL BK107 hg; have NB114_107 := nG BK107 hg; replace BK107 := bB BK107 hb; clear hb hbox hg; have hnb108 := NB114_107.out; have hnc108 := NB107_114.out; obtain ⟨_, _, _, _⟩ := zC2 BK114) | ((with_reducible refine gc (f := 72) rfl ?_); refine goesL_ (some 14) rfl rfl Try.func72 (by kernel_rfl) rfl #[.int .i64 t108] rfl (by (try simp only [pml]); first | done | rfl | (simp only [pdt]; rfl)) ?_; (with_reducible refine (box_in.calls t108 true _ A7.out).mono ?_); rintro e w' ⟨rfl, ⟨nd, rfl⟩⟩; refine ⟨_, rfl, ?_⟩) | (go_at_call 72; (with_reducible refine (box_in.calls t109 false _ A9.out).mono ?_); rintro e w' ⟨rfl, ⟨nd, rfl⟩⟩))
   go_ret
   exact ⟨sqE, fW HB.out⟩
  subst c10
  have H1 : ((box_in.f t110).bind fun t118 => (if t118 = true then ((box_in.f t111).bind fun t119 => (if t119 = true then ((box_in.f t112).bind fun t121 => (if t121 = true then ((box_in.f t113).bind fun t122 => (if t122 = true then ((box_sides.f a0_0 a0_1 a0_2 a0_3 a0_4 a0_5).bind fun bt123 => (if bt123.1 ≥ bt123.2.1 then (some 1) else (if bt123.2.2.1 ≥ bt123.2.2.2.1 then (some 1) else (if bt123.2.2.2.2.1 ≥ bt123.2.2.2.2.2 then (some 1) else (some 0))))) else (some 6))) else (some 6))) else (some 6))) else (some 6))) = some r := by rw [if_pos rfl] at H; exact H
  clear H
  have H := H1
  clear H1
  have HC11 := am H
  clear H
  go_wp2_with (first | ((with_reducible refine gd (N := 4) rfl ?_); refine be ?hg (N := 4) ?hd (cs := #[.int .i64 0, .int .i64 0]) (t := 65) ?hr ?_; (case hd | hg => rfl); (case hr => first | (go_simp; done) | (go_simp; rfl)); intro gb114 hg w12 hbox hb; have BK114 := am hbox; have GW114 := sG HB hg; have GE114 := sG HB hg; replace HB := bS HB hb; have NB107_114 := nL BK107 hg; have NB114_107 := nG BK107 hg; replace BK107 := bB BK107 hb; clear hb hbox hg; have hnb13 := NB114_107.out; have hnc13 := NB107_114.out; obtain ⟨_, _, _, _⟩ := zC2 BK114) | ((with_reducible refine gc (f := 72) rfl ?_); refine goesL_ (some 14) rfl rfl Try.func72 (by kernel_rfl) rfl #[.int .i64 t108] rfl (by (try simp only [pml]); first | done | rfl | (simp only [pdt]; rfl)) ?_; (with_reducible refine (box_in.calls t108 true _ A7.out).mono ?_); rintro e w' ⟨rfl, ⟨nd, rfl⟩⟩; refine ⟨_, rfl, ?_⟩) | (go_at_call 72; (with_reducible refine (box_in.calls t109 true _ A9.out).mono ?_); rintro e w' ⟨rfl, ⟨nd, rfl⟩⟩))
  rw [rounds_succ]
  have H := HC11.out
  clear HC11
  replace H := Option.bind_eq_some_iff.mp H
  obtain ⟨t118, A150, H⟩ := H
  replace H : (if t118 = true then ((box_in.f t111).bind fun t119 => (if t119 = true then ((box_in.f t112).bind fun t121 => (if t121 = true then ((box_in.f t113).bind fun t122 => (if t122 = true then ((box_sides.f a0_0 a0_1 a0_2 a0_3 a0_4 a0_5).bind fun bt123 => (if bt123.1 ≥ bt123.2.1 then (some 1) else (if bt123.2.2.1 ≥ bt123.2.2.2.1 then (some 1) else (if bt123.2.2.2.2.1 ≥ bt123.2.2.2.2.2 then (some 1) else (some 0))))) else (some 6))) else (some 6))) else (some 6))) else (some 6)) = some r := H
  have A15 := am A150
  clear A150
  by_cases c16 : t118 = true
  rotate_left
  ·replace c16 := Bool.eq_false_iff.mpr c16
   subst c16
   have H1 : (some 6) = some r := by rw [if_neg (show ¬ (false = true) by decide)] at H; exact H
   clear H
   have H := H1
   clear H1
   obtain rfl := Option.some.inj H
   go_wp2_with (first | ((with_reducible refine gd (N := 4) rfl ?_); refine be ?hg (N := 4) ?hd (cs := #[.int .i64 0, .int .i64 0]) (t := 65) ?hr ?_; (case hd | hg => rfl); (case hr => first | (go_simp; done) | (go_simp; rfl)); intro gb117 hg w103 hbox hb; have BK117 := am hbox; have GW117 := sG HB hg; have GE117 := sG HB hg; replace HB := bS HB hb; replace BK107 := xC3 (kfC BK107.out) hg hb; obtain ⟨NB107_117, NB117_107, BK107⟩ := BK107; replace BK114 := xC3 (o := .cells #[.int .i64 t108, .int .i64 t109] 65 (0, 0)) (kkC BK114.out) hg hb; obtain ⟨NB114_117, NB117_114, BK114⟩ := BK114; clear hb hbox hg; have hnb104 := NB117_107.out; have hnc104 := NB107_117.out; have hnb105 := NB117_114.out; have hnc105 := NB114_117.out; obtain ⟨_, _, _, _⟩ := zC2 BK117) | ((with_reducible refine gc (f := 72) rfl ?_); refine goesL_ (some 14) rfl rfl Try.func72 (by kernel_rfl) rfl #[.int .i64 t110] rfl (by (try simp only [pml]); first | done | rfl | (simp only [pdt]; rfl)) ?_; (with_reducible refine (box_in.calls t110 false _ A15.out).mono ?_); rintro e w' ⟨rfl, ⟨nd, rfl⟩⟩; refine ⟨_, rfl, ?_⟩))
   go_ret
   exact ⟨sqE, fW HB.out⟩
  subst c16
  have H1 : ((box_in.f t111).bind fun t119 => (if t119 = true then ((box_in.f t112).bind fun t121 => (if t121 = true then ((box_in.f t113).bind fun t122 => (if t122 = true then ((box_sides.f a0_0 a0_1 a0_2 a0_3 a0_4 a0_5).bind fun bt123 => (if bt123.1 ≥ bt123.2.1 then (some 1) else (if bt123.2.2.1 ≥ bt123.2.2.2.1 then (some 1) else (if bt123.2.2.2.2.1 ≥ bt123.2.2.2.2.2 then (some 1) else (some 0))))) else (some 6))) else (some 6))) else (some 6))) = some r := by rw [if_pos rfl] at H; exact H
  clear H
  have H := H1
  clear H1
  replace H := Option.bind_eq_some_iff.mp H
  obtain ⟨t119, A170, H⟩ := H
  replace H : (if t119 = true then ((box_in.f t112).bind fun t121 => (if t121 = true then ((box_in.f t113).bind fun t122 => (if t122 = true then ((box_sides.f a0_0 a0_1 a0_2 a0_3 a0_4 a0_5).bind fun bt123 => (if bt123.1 ≥ bt123.2.1 then (some 1) else (if bt123.2.2.1 ≥ bt123.2.2.2.1 then (some 1) else (if bt123.2.2.2.2.1 ≥ bt123.2.2.2.2.2 then (some 1) else (some 0))))) else (some 6))) else (some 6))) else (some 6)) = some r := H
  have A17 := am A170
  clear A170
  by_cases c18 : t119 = true
  rotate_left
  ·replace c18 := Bool.eq_false_iff.mpr c18
   subst c18
   have H1 : (some 6) = some r := by rw [if_neg (show ¬ (false = true) by decide)] at H; exact H
   clear H
   have H := H1
   clear H1
   obtain rfl := Option.some.inj H
   go_wp2_with (first | ((with_reducible refine gd (N := 4) rfl ?_); refine be ?hg (N := 4) ?hd (cs := #[.int .i64 0, .int .i64 0]) (t := 65) ?hr ?_; (case hd | hg => rfl); (case hr => first | (go_simp; done) | (go_simp; rfl)); intro gb117 hg w99 hbox hb; have BK117 := am hbox; have GW117 := sG HB hg; have GE117 := sG HB hg; replace HB := bS HB hb; replace BK107 := xC3 (kfC BK107.out) hg hb; obtain ⟨NB107_117, NB117_107, BK107⟩ := BK107; replace BK114 := xC3 (o := .cells #[.int .i64 t108, .int .i64 t109] 65 (0, 0)) (kkC BK114.out) hg hb; obtain ⟨NB114_117, NB117_114, BK114⟩ := BK114; clear hb hbox hg; have hnb100 := NB117_107.out; have hnc100 := NB107_117.out; have hnb101 := NB117_114.out; have hnc101 := NB114_117.out; obtain ⟨_, _, _, _⟩ := zC2 BK117) | ((with_reducible refine gc (f := 72) rfl ?_); refine goesL_ (some 14) rfl rfl Try.func72 (by kernel_rfl) rfl #[.int .i64 t110] rfl (by (try simp only [pml]); first | done | rfl | (simp only [pdt]; rfl)) ?_; (with_reducible refine (box_in.calls t110 true _ A15.out).mono ?_); rintro e w' ⟨rfl, ⟨nd, rfl⟩⟩; refine ⟨_, rfl, ?_⟩) | (go_at_call 72; (with_reducible refine (box_in.calls t111 false _ A17.out).mono ?_); rintro e w' ⟨rfl, ⟨nd, rfl⟩⟩))
   go_ret
   exact ⟨sqE, fW HB.out⟩
  subst c18
  have H1 : ((box_in.f t112).bind fun t121 => (if t121 = true then ((box_in.f t113).bind fun t122 => (if t122 = true then ((box_sides.f a0_0 a0_1 a0_2 a0_3 a0_4 a0_5).bind fun bt123 => (if bt123.1 ≥ bt123.2.1 then (some 1) else (if bt123.2.2.1 ≥ bt123.2.2.2.1 then (some 1) else (if bt123.2.2.2.2.1 ≥ bt123.2.2.2.2.2 then (some 1) else (some 0))))) else (some 6))) else (some 6))) = some r := by rw [if_pos rfl] at H; exact H
  clear H
  have H := H1
  clear H1
  have HC19 := am H
  clear H
  go_wp2_with (first | ((with_reducible refine gd (N := 4) rfl ?_); refine be ?hg (N := 4) ?hd (cs := #[.int .i64 0, .int .i64 0]) (t := 65) ?hr ?_; (case hd | hg => rfl); (case hr => first | (go_simp; done) | (go_simp; rfl)); intro gb117 hg w20 hbox hb; have BK117 := am hbox; have GW117 := sG HB hg; have GE117 := sG HB hg; replace HB := bS HB hb; replace BK107 := xC3 (kfC BK107.out) hg hb; obtain ⟨NB107_117, NB117_107, BK107⟩ := BK107; replace BK114 := xC3 (o := .cells #[.int .i64 t108, .int .i64 t109] 65 (0, 0)) (kkC BK114.out) hg hb; obtain ⟨NB114_117, NB117_114, BK114⟩ := BK114; clear hb hbox hg; have hnb21 := NB117_107.out; have hnc21 := NB107_117.out; have hnb22 := NB117_114.out; have hnc22 := NB114_117.out; obtain ⟨_, _, _, _⟩ := zC2 BK117) | ((with_reducible refine gc (f := 72) rfl ?_); refine goesL_ (some 14) rfl rfl Try.func72 (by kernel_rfl) rfl #[.int .i64 t110] rfl (by (try simp only [pml]); first | done | rfl | (simp only [pdt]; rfl)) ?_; (with_reducible refine (box_in.calls t110 true _ A15.out).mono ?_); rintro e w' ⟨rfl, ⟨nd, rfl⟩⟩; refine ⟨_, rfl, ?_⟩) | (go_at_call 72; (with_reducible refine (box_in.calls t111 true _ A17.out).mono ?_); rintro e w' ⟨rfl, ⟨nd, rfl⟩⟩))
  rw [rounds_succ]
  have H := HC19.out
  clear HC19
  replace H := Option.bind_eq_some_iff.mp H
  obtain ⟨t121, A240, H⟩ := H
  replace H : (if t121 = true then ((box_in.f t113).bind fun t122 => (if t122 = true then ((box_sides.f a0_0 a0_1 a0_2 a0_3 a0_4 a0_5).bind fun bt123 => (if bt123.1 ≥ bt123.2.1 then (some 1) else (if bt123.2.2.1 ≥ bt123.2.2.2.1 then (some 1) else (if bt123.2.2.2.2.1 ≥ bt123.2.2.2.2.2 then (some 1) else (some 0))))) else (some 6))) else (some 6)) = some r := H
  have A24 := am A240
  clear A240
  by_cases c25 : t121 = true
  rotate_left
  ·replace c25 := Bool.eq_false_iff.mpr c25
   subst c25
   have H1 : (some 6) = some r := by rw [if_neg (show ¬ (false = true) by decide)] at H; exact H
   clear H
   have H := H1
   clear H1
   obtain rfl := Option.some.inj H
   go_wp2_with (first | ((with_reducible refine gd (N := 4) rfl ?_); refine be ?hg (N := 4) ?hd (cs := #[.int .i64 0, .int .i64 0]) (t := 65) ?hr ?_; (case hd | hg => rfl); (case hr => first | (go_simp; done) | (go_simp; rfl)); intro gb120 hg w94 hbox hb; have BK120 := am hbox; have GW120 := sG HB hg; have GE120 := sG HB hg; replace HB := bS HB hb; replace BK107 := xC3 (kfC BK107.out) hg hb; obtain ⟨NB107_120, NB120_107, BK107⟩ := BK107; replace BK114 := xC3 (kfC BK114.out) hg hb; obtain ⟨NB114_120, NB120_114, BK114⟩ := BK114; replace BK117 := xC3 (o := .cells #[.int .i64 t110, .int .i64 t111] 65 (0, 0)) (kkC BK117.out) hg hb; obtain ⟨NB117_120, NB120_117, BK117⟩ := BK117; clear hb hbox hg; have hnb95 := NB120_107.out; have hnc95 := NB107_120.out; have hnb96 := NB120_114.out; have hnc96 := NB114_120.out; have hnb97 := NB120_117.out; have hnc97 := NB117_120.out; obtain ⟨_, _, _, _⟩ := zC2 BK120) | ((with_reducible refine gc (f := 72) rfl ?_); refine goesL_ (some 14) rfl rfl Try.func72 (by kernel_rfl) rfl #[.int .i64 t112] rfl (by (try simp only [pml]); first | done | rfl | (simp only [pdt]; rfl)) ?_; (with_reducible refine (box_in.calls t112 false _ A24.out).mono ?_); rintro e w' ⟨rfl, ⟨nd, rfl⟩⟩; refine ⟨_, rfl, ?_⟩))
   go_ret
   exact ⟨sqE, fW HB.out⟩
  subst c25
  have H1 : ((box_in.f t113).bind fun t122 => (if t122 = true then ((box_sides.f a0_0 a0_1 a0_2 a0_3 a0_4 a0_5).bind fun bt123 => (if bt123.1 ≥ bt123.2.1 then (some 1) else (if bt123.2.2.1 ≥ bt123.2.2.2.1 then (some 1) else (if bt123.2.2.2.2.1 ≥ bt123.2.2.2.2.2 then (some 1) else (some 0))))) else (some 6))) = some r := by rw [if_pos rfl] at H; exact H
  clear H
  have H := H1
  clear H1
  replace H := Option.bind_eq_some_iff.mp H
  obtain ⟨t122, A260, H⟩ := H
  replace H : (if t122 = true then ((box_sides.f a0_0 a0_1 a0_2 a0_3 a0_4 a0_5).bind fun bt123 => (if bt123.1 ≥ bt123.2.1 then (some 1) else (if bt123.2.2.1 ≥ bt123.2.2.2.1 then (some 1) else (if bt123.2.2.2.2.1 ≥ bt123.2.2.2.2.2 then (some 1) else (some 0))))) else (some 6)) = some r := H
  have A26 := am A260
  clear A260
  by_cases c27 : t122 = true
  rotate_left
  ·replace c27 := Bool.eq_false_iff.mpr c27
   subst c27
   have H1 : (some 6) = some r := by rw [if_neg (show ¬ (false = true) by decide)] at H; exact H
   clear H
   have H := H1
   clear H1
   obtain rfl := Option.some.inj H
   go_wp2_with (first | ((with_reducible refine gd (N := 4) rfl ?_); refine be ?hg (N := 4) ?hd (cs := #[.int .i64 0, .int .i64 0]) (t := 65) ?hr ?_; (case hd | hg => rfl); (case hr => first | (go_simp; done) | (go_simp; rfl)); intro gb120 hg w89 hbox hb; have BK120 := am hbox; have GW120 := sG HB hg; have GE120 := sG HB hg; replace HB := bS HB hb; replace BK107 := xC3 (kfC BK107.out) hg hb; obtain ⟨NB107_120, NB120_107, BK107⟩ := BK107; replace BK114 := xC3 (kfC BK114.out) hg hb; obtain ⟨NB114_120, NB120_114, BK114⟩ := BK114; replace BK117 := xC3 (o := .cells #[.int .i64 t110, .int .i64 t111] 65 (0, 0)) (kkC BK117.out) hg hb; obtain ⟨NB117_120, NB120_117, BK117⟩ := BK117; clear hb hbox hg; have hnb90 := NB120_107.out; have hnc90 := NB107_120.out; have hnb91 := NB120_114.out; have hnc91 := NB114_120.out; have hnb92 := NB120_117.out; have hnc92 := NB117_120.out; obtain ⟨_, _, _, _⟩ := zC2 BK120) | ((with_reducible refine gc (f := 72) rfl ?_); refine goesL_ (some 14) rfl rfl Try.func72 (by kernel_rfl) rfl #[.int .i64 t112] rfl (by (try simp only [pml]); first | done | rfl | (simp only [pdt]; rfl)) ?_; (with_reducible refine (box_in.calls t112 true _ A24.out).mono ?_); rintro e w' ⟨rfl, ⟨nd, rfl⟩⟩; refine ⟨_, rfl, ?_⟩) | (go_at_call 72; (with_reducible refine (box_in.calls t113 false _ A26.out).mono ?_); rintro e w' ⟨rfl, ⟨nd, rfl⟩⟩))
   go_ret
   exact ⟨sqE, fW HB.out⟩
  subst c27
  have H1 : ((box_sides.f a0_0 a0_1 a0_2 a0_3 a0_4 a0_5).bind fun bt123 => (if bt123.1 ≥ bt123.2.1 then (some 1) else (if bt123.2.2.1 ≥ bt123.2.2.2.1 then (some 1) else (if bt123.2.2.2.2.1 ≥ bt123.2.2.2.2.2 then (some 1) else (some 0))))) = some r := by rw [if_pos rfl] at H; exact H
  clear H
  have H := H1
  clear H1
  have HC28 := am H
  clear H
  go_wp2_with (first | ((with_reducible refine gd (N := 4) rfl ?_); refine be ?hg (N := 4) ?hd (cs := #[.int .i64 0, .int .i64 0]) (t := 65) ?hr ?_; (case hd | hg => rfl); (case hr => first | (go_simp; done) | (go_simp; rfl)); intro gb120 hg w29 hbox hb; have BK120 := am hbox; have GW120 := sG HB hg; have GE120 := sG HB hg; replace HB := bS HB hb; replace BK107 := xC3 (kfC BK107.out) hg hb; obtain ⟨NB107_120, NB120_107, BK107⟩ := BK107; replace BK114 := xC3 (kfC BK114.out) hg hb; obtain ⟨NB114_120, NB120_114, BK114⟩ := BK114; replace BK117 := xC3 (o := .cells #[.int .i64 t110, .int .i64 t111] 65 (0, 0)) (kkC BK117.out) hg hb; obtain ⟨NB117_120, NB120_117, BK117⟩ := BK117; clear hb hbox hg; have hnb30 := NB120_107.out; have hnc30 := NB107_120.out; have hnb31 := NB120_114.out; have hnc31 := NB114_120.out; have hnb32 := NB120_117.out; have hnc32 := NB117_120.out; obtain ⟨_, _, _, _⟩ := zC2 BK120) | ((with_reducible refine gc (f := 72) rfl ?_); refine goesL_ (some 14) rfl rfl Try.func72 (by kernel_rfl) rfl #[.int .i64 t112] rfl (by (try simp only [pml]); first | done | rfl | (simp only [pdt]; rfl)) ?_; (with_reducible refine (box_in.calls t112 true _ A24.out).mono ?_); rintro e w' ⟨rfl, ⟨nd, rfl⟩⟩; refine ⟨_, rfl, ?_⟩) | (go_at_call 72; (with_reducible refine (box_in.calls t113 true _ A26.out).mono ?_); rintro e w' ⟨rfl, ⟨nd, rfl⟩⟩))
  rw [rounds_succ]
  have H := HC28.out
  clear HC28
  replace H := Option.bind_eq_some_iff.mp H
  obtain ⟨⟨t123, t124, t125, t126, t127, t128⟩, A340, H⟩ := H
  replace H : (if t123 ≥ t124 then (some 1) else (if t125 ≥ t126 then (some 1) else (if t127 ≥ t128 then (some 1) else (some 0)))) = some r := H
  have A34 := am A340
  clear A340
  have HC35 := am H
  clear H
  have hnb36 := NB107_114.out
  have hnc36 := NB114_107.out
  have hnb37 := NB107_117.out
  have hnc37 := NB117_107.out
  have hnb38 := NB107_120.out
  have hnc38 := NB120_107.out
  have := yC1 BK107
  have := kC1 BK107
  have := kC2 BK107
  have := kC3 BK107
  have := kC4 BK107
  have := kC5 BK107
  have := bf BK107.out 0
  have := bf BK107.out 1
  have := bf BK107.out 2
  have := bf BK107.out 3
  have := bf BK107.out 4
  have := bf BK107.out 5
  go_wp2_with (first | ((with_reducible refine gc (f := 71) rfl ?_); refine goesL_ (some 24) rfl rfl Try.func71 (by kernel_rfl) rfl #[.agg #[.int .i64 a0_0, .int .i64 a0_1, .int .i64 a0_2, .int .i64 a0_3, .int .i64 a0_4, .int .i64 a0_5]] rfl (by (try simp only [pml]); first | done | rfl | (simp only [pdt]; rfl)) ?_; (with_reducible refine (box_sides.calls a0_0 a0_1 a0_2 a0_3 a0_4 a0_5 t123 t124 t125 t126 t127 t128 _ A34.out).mono ?_); rintro e w40 ⟨rfl, hb⟩; refine ⟨_, rfl, ?_⟩; replace BK107 := xC1 (kfC BK107.out) hb; replace BK114 := xC1 (kfC BK114.out) hb; replace BK117 := xC1 (kfC BK117.out) hb; replace BK120 := xC1 (o := .cells #[.int .i64 t112, .int .i64 t113] 65 (0, 0)) (kkC BK120.out) hb; replace HB := bS HB hb; (try clear hb); (try clear hb2); (try clear hk); (try clear hi)))
  refine wp_loop_rounds 9 ?_
  rw [rounds_succ]
  have H := HC35.out
  clear HC35
  by_cases c41 : t123 ≥ t124
  ·rw [if_pos c41] at H
   have c41b0 : decide (t124 ≤ t123) = true := decide_eq_true c41
   clear c41
   obtain rfl := Option.some.inj H
   go_wp2_with (first | ((with_reducible refine gd (N := 6) rfl ?_); refine be ?hg (N := 6) ?hd (cs := #[.int .i64 0, .int .i64 0]) (t := 65) ?hr ?_; (case hd | hg => rfl); (case hr => first | (go_simp; done) | (go_simp; rfl)); intro gb129 hg w42 hbox hb; have BK129 := am hbox; have GW129 := sG HB hg; have GE129 := sG HB hg; replace HB := bS HB hb; have NB107_129 := nL BK107 hg; have NB129_107 := nG BK107 hg; replace BK107 := bB BK107 hb; have NB114_129 := nL BK114 hg; have NB129_114 := nG BK114 hg; replace BK114 := bB BK114 hb; have NB117_129 := nL BK117 hg; have NB129_117 := nG BK117 hg; replace BK117 := bB BK117 hb; have NB120_129 := nL BK120 hg; have NB129_120 := nG BK120 hg; replace BK120 := bB BK120 hb; clear hb hbox hg; have hnb43 := NB129_107.out; have hnc43 := NB107_129.out; have hnb44 := NB129_114.out; have hnc44 := NB114_129.out; have hnb45 := NB129_117.out; have hnc45 := NB117_129.out; have hnb46 := NB129_120.out; have hnc46 := NB120_129.out; obtain ⟨_, _, _, _⟩ := zC2 BK129))
   go_ret
   exact ⟨sqE, fW HB.out⟩
  rw [if_neg c41] at H
  have c41b0 : decide (t124 ≤ t123) = false := decide_eq_false c41
  clear c41
  have HC48 := am H
  clear H
  go_wp2_with (first | ((with_reducible refine gd (N := 6) rfl ?_); refine be ?hg (N := 6) ?hd (cs := #[.int .i64 0, .int .i64 0]) (t := 65) ?hr ?_; (case hd | hg => rfl); (case hr => first | (go_simp; done) | (go_simp; rfl)); intro gb129 hg w49 hbox hb; have BK129 := am hbox; have GW129 := sG HB hg; have GE129 := sG HB hg; replace HB := bS HB hb; have NB107_129 := nL BK107 hg; have NB129_107 := nG BK107 hg; replace BK107 := bB BK107 hb; have NB114_129 := nL BK114 hg; have NB129_114 := nG BK114 hg; replace BK114 := bB BK114 hb; have NB117_129 := nL BK117 hg; have NB129_117 := nG BK117 hg; replace BK117 := bB BK117 hb; have NB120_129 := nL BK120 hg; have NB129_120 := nG BK120 hg; replace BK120 := bB BK120 hb; clear hb hbox hg; have hnb50 := NB129_107.out; have hnc50 := NB107_129.out; have hnb51 := NB129_114.out; have hnc51 := NB114_129.out; have hnb52 := NB129_117.out; have hnc52 := NB117_129.out; have hnb53 := NB129_120.out; have hnc53 := NB120_129.out; obtain ⟨_, _, _, _⟩ := zC2 BK129))
  rw [rounds_succ]
  have H := HC48.out
  clear HC48
  by_cases c55 : t125 ≥ t126
  ·rw [if_pos c55] at H
   have c55b0 : decide (t126 ≤ t125) = true := decide_eq_true c55
   clear c55
   obtain rfl := Option.some.inj H
   go_wp2_with (first | ((with_reducible refine gd (N := 6) rfl ?_); refine be ?hg (N := 6) ?hd (cs := #[.int .i64 0, .int .i64 0]) (t := 65) ?hr ?_; (case hd | hg => rfl); (case hr => first | (go_simp; done) | (go_simp; rfl)); intro gb130 hg w56 hbox hb; have BK130 := am hbox; have GW130 := sG HB hg; have GE130 := sG HB hg; replace HB := bS HB hb; replace BK107 := xC3 (kfC BK107.out) hg hb; obtain ⟨NB107_130, NB130_107, BK107⟩ := BK107; replace BK114 := xC3 (kfC BK114.out) hg hb; obtain ⟨NB114_130, NB130_114, BK114⟩ := BK114; replace BK117 := xC3 (kfC BK117.out) hg hb; obtain ⟨NB117_130, NB130_117, BK117⟩ := BK117; replace BK120 := xC3 (kfC BK120.out) hg hb; obtain ⟨NB120_130, NB130_120, BK120⟩ := BK120; replace BK129 := xC3 (o := .cells #[.int .i64 t123, .int .i64 t124] 65 (0, 0)) (kkC BK129.out) hg hb; obtain ⟨NB129_130, NB130_129, BK129⟩ := BK129; clear hb hbox hg; have hnb57 := NB130_107.out; have hnc57 := NB107_130.out; have hnb58 := NB130_114.out; have hnc58 := NB114_130.out; have hnb59 := NB130_117.out; have hnc59 := NB117_130.out; have hnb60 := NB130_120.out; have hnc60 := NB120_130.out; have hnb61 := NB130_129.out; have hnc61 := NB129_130.out; obtain ⟨_, _, _, _⟩ := zC2 BK130))
   go_ret
   exact ⟨sqE, fW HB.out⟩
  rw [if_neg c55] at H
  have c55b0 : decide (t126 ≤ t125) = false := decide_eq_false c55
  clear c55
  have HC63 := am H
  clear H
  go_wp2_with (first | ((with_reducible refine gd (N := 6) rfl ?_); refine be ?hg (N := 6) ?hd (cs := #[.int .i64 0, .int .i64 0]) (t := 65) ?hr ?_; (case hd | hg => rfl); (case hr => first | (go_simp; done) | (go_simp; rfl)); intro gb130 hg w64 hbox hb; have BK130 := am hbox; have GW130 := sG HB hg; have GE130 := sG HB hg; replace HB := bS HB hb; replace BK107 := xC3 (kfC BK107.out) hg hb; obtain ⟨NB107_130, NB130_107, BK107⟩ := BK107; replace BK114 := xC3 (kfC BK114.out) hg hb; obtain ⟨NB114_130, NB130_114, BK114⟩ := BK114; replace BK117 := xC3 (kfC BK117.out) hg hb; obtain ⟨NB117_130, NB130_117, BK117⟩ := BK117; replace BK120 := xC3 (kfC BK120.out) hg hb; obtain ⟨NB120_130, NB130_120, BK120⟩ := BK120; replace BK129 := xC3 (o := .cells #[.int .i64 t123, .int .i64 t124] 65 (0, 0)) (kkC BK129.out) hg hb; obtain ⟨NB129_130, NB130_129, BK129⟩ := BK129; clear hb hbox hg; have hnb65 := NB130_107.out; have hnc65 := NB107_130.out; have hnb66 := NB130_114.out; have hnc66 := NB114_130.out; have hnb67 := NB130_117.out; have hnc67 := NB117_130.out; have hnb68 := NB130_120.out; have hnc68 := NB120_130.out; have hnb69 := NB130_129.out; have hnc69 := NB129_130.out; obtain ⟨_, _, _, _⟩ := zC2 BK130))
  rw [rounds_succ]
  have H := HC63.out
  clear HC63
  by_cases c71 : t127 ≥ t128
  ·rw [if_pos c71] at H
   have c71b0 : decide (t128 ≤ t127) = true := decide_eq_true c71
   clear c71
   obtain rfl := Option.some.inj H
   go_wp2_with (first | ((with_reducible refine gd (N := 6) rfl ?_); refine be ?hg (N := 6) ?hd (cs := #[.int .i64 0, .int .i64 0]) (t := 65) ?hr ?_; (case hd | hg => rfl); (case hr => first | (go_simp; done) | (go_simp; rfl)); intro gb131 hg w72 hbox hb; have BK131 := am hbox; have GW131 := sG HB hg; have GE131 := sG HB hg; replace HB := bS HB hb; replace BK107 := xC3 (kfC BK107.out) hg hb; obtain ⟨NB107_131, NB131_107, BK107⟩ := BK107; replace BK114 := xC3 (kfC BK114.out) hg hb; obtain ⟨NB114_131, NB131_114, BK114⟩ := BK114; replace BK117 := xC3 (kfC BK117.out) hg hb; obtain ⟨NB117_131, NB131_117, BK117⟩ := BK117; replace BK120 := xC3 (kfC BK120.out) hg hb; obtain ⟨NB120_131, NB131_120, BK120⟩ := BK120; replace BK129 := xC3 (kfC BK129.out) hg hb; obtain ⟨NB129_131, NB131_129, BK129⟩ := BK129; replace BK130 := xC3 (o := .cells #[.int .i64 t125, .int .i64 t126] 65 (0, 0)) (kkC BK130.out) hg hb; obtain ⟨NB130_131, NB131_130, BK130⟩ := BK130; clear hb hbox hg; have hnb73 := NB131_107.out; have hnc73 := NB107_131.out; have hnb74 := NB131_114.out; have hnc74 := NB114_131.out; have hnb75 := NB131_117.out; have hnc75 := NB117_131.out; have hnb76 := NB131_120.out; have hnc76 := NB120_131.out; have hnb77 := NB131_129.out; have hnc77 := NB129_131.out; have hnb78 := NB131_130.out; have hnc78 := NB130_131.out; obtain ⟨_, _, _, _⟩ := zC2 BK131))
   go_ret
   exact ⟨sqE, fW HB.out⟩
  rw [if_neg c71] at H
  have c71b0 : decide (t128 ≤ t127) = false := decide_eq_false c71
  clear c71
  have HC80 := am H
  clear H
  go_wp2_with (first | ((with_reducible refine gd (N := 6) rfl ?_); refine be ?hg (N := 6) ?hd (cs := #[.int .i64 0, .int .i64 0]) (t := 65) ?hr ?_; (case hd | hg => rfl); (case hr => first | (go_simp; done) | (go_simp; rfl)); intro gb131 hg w81 hbox hb; have BK131 := am hbox; have GW131 := sG HB hg; have GE131 := sG HB hg; replace HB := bS HB hb; replace BK107 := xC3 (kfC BK107.out) hg hb; obtain ⟨NB107_131, NB131_107, BK107⟩ := BK107; replace BK114 := xC3 (kfC BK114.out) hg hb; obtain ⟨NB114_131, NB131_114, BK114⟩ := BK114; replace BK117 := xC3 (kfC BK117.out) hg hb; obtain ⟨NB117_131, NB131_117, BK117⟩ := BK117; replace BK120 := xC3 (kfC BK120.out) hg hb; obtain ⟨NB120_131, NB131_120, BK120⟩ := BK120; replace BK129 := xC3 (kfC BK129.out) hg hb; obtain ⟨NB129_131, NB131_129, BK129⟩ := BK129; replace BK130 := xC3 (o := .cells #[.int .i64 t125, .int .i64 t126] 65 (0, 0)) (kkC BK130.out) hg hb; obtain ⟨NB130_131, NB131_130, BK130⟩ := BK130; clear hb hbox hg; have hnb82 := NB131_107.out; have hnc82 := NB107_131.out; have hnb83 := NB131_114.out; have hnc83 := NB114_131.out; have hnb84 := NB131_117.out; have hnc84 := NB117_131.out; have hnb85 := NB131_120.out; have hnc85 := NB120_131.out; have hnb86 := NB131_129.out; have hnc86 := NB129_131.out; have hnb87 := NB131_130.out; have hnc87 := NB130_131.out; obtain ⟨_, _, _, _⟩ := zC2 BK131))
  rw [rounds_succ]
  have H := HC80.out
  clear HC80
  obtain rfl := Option.some.inj H
  go_wp2
  go_ret
  exact ⟨sqE, fW HB.out⟩
 ·replace c8 := Bool.eq_false_iff.mpr c8
  subst c8
  have H1 : (some 6) = some r := by rw [if_neg (show ¬ (false = true) by decide)] at H; exact H
  clear H
  have H := H1
  clear H1
  obtain rfl := Option.some.inj H
  go_wp2_with (first | ((with_reducible refine gd (N := 4) rfl ?_); refine be ?hg (N := 4) ?hd (cs := #[.int .i64 0, .int .i64 0]) (t := 65) ?hr ?_; (case hd | hg => rfl); (case hr => first | (go_simp; done) | (go_simp; rfl)); intro gb114 hg w110 hbox hb; have BK114 := am hbox; have GW114 := sG HB hg; have GE114 := sG HB hg; replace HB := bS HB hb; have NB107_114 := nL BK107 hg; have NB114_107 := nG BK107 hg; replace BK107 := bB BK107 hb; clear hb hbox hg; have hnb111 := NB114_107.out; have hnc111 := NB107_114.out; obtain ⟨_, _, _, _⟩ := zC2 BK114) | ((with_reducible refine gc (f := 72) rfl ?_); refine goesL_ (some 14) rfl rfl Try.func72 (by kernel_rfl) rfl #[.int .i64 t108] rfl (by (try simp only [pml]); first | done | rfl | (simp only [pdt]; rfl)) ?_; (with_reducible refine (box_in.calls t108 false _ A7.out).mono ?_); rintro e w' ⟨rfl, ⟨nd, rfl⟩⟩; refine ⟨_, rfl, ?_⟩))
  go_ret
  exact ⟨sqE, fW HB.out⟩

def model_Check.l0 : Nat → List (S68) → List (S68) → Int → Int → Option (Int)
 | 0, _, _, _, _ => none
 | k + 1, x0, x11, x12, x13 => if x13 < x12 then (if 0 ≤ x13 then (if x13 < (x11.length : Int) then ((box_Check.f ((rd_T68 x11 x13).f1.f0.f0) ((rd_T68 x11 x13).f1.f0.f1) ((rd_T68 x11 x13).f1.f0.f2) ((rd_T68 x11 x13).f1.f1.f0) ((rd_T68 x11 x13).f1.f1.f1) ((rd_T68 x11 x13).f1.f1.f2)).bind fun t135 => (if t135 = 0 then (model_Check.l0 k x0 x11 x12 (wrap64 (x13 + 1))) else (some t135))) else (none)) else (none)) else ((api_Evidence_40.f k x0 44).bind fun t136 => (if t136 = true then (some 1) else (some 0)))
def model_Check.f (k : Nat) (l0 : List (S68)) : Option (Int) := if (l0.length : Int) > 256 then (some 7) else ((api_Evidence_40.f k l0 41).bind fun t132 => (if t132 = true then (some 4) else (model_Check.l0 k l0 l0 (l0.length : Int) 0)))
set_option maxHeartbeats 8000000 in
set_option maxRecDepth 100000 in
theorem model_Check.calls (k : Nat) (A0 : Option Addr) (c0 : Nat) (l0 : List (S68)) (r : Int) (w : World) (hr0 : Kd.C k68 w A0 l0.length l0) (hc0 : l0.length ≤ c0) (h : model_Check.f k l0 = some r) :
  Calls Try.prog 15 #[.slice A0 l0.length c0] w fun e w' => e = .returned (.int .i64 r) ∧ Below w.heap.size w w' := by
 have hu68 := Try.underlying68
 have hu43 := Try.underlying43
 have HR0 := am hr0
 have HC0 := am hc0
 clear hr0 hc0
 have HB := am (Below.refl w.heap.size w)
 have H : (if (l0.length : Int) > 256 then (some 7) else ((api_Evidence_40.f k l0 41).bind fun t132 => (if t132 = true then (some 4) else (model_Check.l0 k l0 l0 (l0.length : Int) 0)))) = some r := h
 clear h
 by_cases c2 : (l0.length : Int) > 256
 ·rw [if_pos c2] at H
  have c2b0 : decide (256 < (l0.length : Int)) = true := decide_eq_true c2
  have c2b1 : decide (256 < l0.length) = true := decide_eq_true (by omega)
  clear c2
  obtain rfl := Option.some.inj H
  go_enter Try.func15, Try.ntmps15
  go_wp2
  go_ret
  exact ⟨sqE, fW HB.out⟩
 ·rw [if_neg c2] at H
  have c2b0 : decide (256 < (l0.length : Int)) = false := decide_eq_false c2
  have c2b1 : decide (256 < l0.length) = false := decide_eq_false (by omega)
  clear c2
  replace H := Option.bind_eq_some_iff.mp H
  obtain ⟨t132, A30, H⟩ := H
  replace H : (if t132 = true then (some 4) else (model_Check.l0 k l0 l0 (l0.length : Int) 0)) = some r := H
  have A3 := am A30
  clear A30
  by_cases c4 : t132 = true
  ·subst c4
   have H1 : (some 4) = some r := by rw [if_pos rfl] at H; exact H
   clear H
   have H := H1
   clear H1
   obtain rfl := Option.some.inj H
   go_enter Try.func15, Try.ntmps15
   go_wp2_with (first | ((with_reducible refine gc (f := 40) rfl ?_); refine goesL_ (some 10) rfl rfl Try.func40 (by kernel_rfl) rfl #[.slice A0 l0.length c0, .func (.func 41) #[] #[]] rfl (by (try simp only [pml]); first | done | rfl | (simp only [pdt]; rfl)) ?_; (with_reducible refine (api_Evidence_40.calls k _ _ l0 41 true _ ?side1 ?side2 A3.out).mono ?_); (case side1 => repeat (first | exact HR0.out | (with_reducible refine Kd.C_alloc ?_ _) | (with_reducible refine Kd.C_drewN ?_ _) | (with_reducible refine Kd.C_drew ?_))); (case side2 => exact HC0.out); rintro e w5 ⟨rfl, hb⟩; refine ⟨_, rfl, ?_⟩; replace HB := bS HB hb; (try clear hb); (try clear hb2); (try clear hk); (try clear hi)))
   go_ret
   exact ⟨sqE, fW HB.out⟩
  ·replace c4 := Bool.eq_false_iff.mpr c4
   subst c4
   have H1 : (model_Check.l0 k l0 l0 (l0.length : Int) 0) = some r := by rw [if_neg (show ¬ (false = true) by decide)] at H; exact H
   clear H
   have H := H1
   clear H1
   have H' := am H
   clear H
   go_enter Try.func15, Try.ntmps15
   go_wp2_with (first | ((with_reducible refine gc (f := 40) rfl ?_); refine goesL_ (some 10) rfl rfl Try.func40 (by kernel_rfl) rfl #[.slice A0 l0.length c0, .func (.func 41) #[] #[]] rfl (by (try simp only [pml]); first | done | rfl | (simp only [pdt]; rfl)) ?_; (with_reducible refine (api_Evidence_40.calls k _ _ l0 41 false _ ?side1 ?side2 A3.out).mono ?_); (case side1 => repeat (first | exact HR0.out | (with_reducible refine Kd.C_alloc ?_ _) | (with_reducible refine Kd.C_drewN ?_ _) | (with_reducible refine Kd.C_drew ?_))); (case side2 => exact HC0.out); rintro e w6 ⟨rfl, hb⟩; refine ⟨_, rfl, ?_⟩; replace HB := bS HB hb; (try clear hb); (try clear hb2); (try clear hk); (try clear hi)))
   go_loopg [13] k (fun kq v13 w' => ∃ (x13_1 : Int), v13 = .int .i64 x13_1 ∧ Aside0 (model_Check.l0 kq l0 l0 (l0.length : Int) x13_1 = some r) ∧ Aside0 (kq ≤ k) ∧ Aside0 (Below w.heap.size w w'))
   case atStart => exact ⟨(0), sqD, H', ⟨Nat.le_refl _⟩, ⟨fW HB.out⟩⟩
   case round =>
    clear H'
    try clear c1;try clear c2;try clear c2b0;try clear c2b1;try clear p2;try clear c4
    obtain ⟨x13_1, rfl, HA, HK1, HB⟩ := hrel
    cases gk with
    | zero => exact absurd HA.out (by simp [model_Check.l0])
    | succ k1 =>
     have H := HA.out
     clear HA
     simp only [model_Check.l0] at H
     by_cases c7 : x13_1 < (l0.length : Int)
     ·rw [if_pos c7] at H
      have c7b0 : decide (x13_1 < (l0.length : Int)) = true := decide_eq_true c7
      clear c7
      by_cases c8 : 0 ≤ x13_1
      rotate_left
      ·rw [if_neg c8] at H
       exact absurd H (by simp)
      rw [if_pos c8] at H
      have c8b0 : decide (0 ≤ x13_1) = true := decide_eq_true c8
      clear c8
      by_cases c9 : x13_1 < (l0.length : Int)
      rotate_left
      ·rw [if_neg c9] at H
       exact absurd H (by simp)
      rw [if_pos c9] at H
      have c9b0 : decide (x13_1 < (l0.length : Int)) = true := decide_eq_true c9
      clear c9
      replace H := Option.bind_eq_some_iff.mp H
      obtain ⟨t135, A100, H⟩ := H
      replace H : (if t135 = 0 then (model_Check.l0 k1 l0 l0 (l0.length : Int) (wrap64 (x13_1 + 1))) else (some t135)) = some r := H
      have A10 := am A100
      clear A100
      by_cases c11 : t135 = 0
      ·rw [if_pos c11] at H
       have c11b0 : (t135 == 0) = true := beq_iff_eq.mpr c11
       have c11b1 : (t135 != 0) = false := bne_eq_false_iff_eq.mpr c11
       clear c11
       have H' := am H
       clear H
       have p133 : 0 ≤ (x13_1 : Int) := of_decide_eq_true (by assumption)
       have q133 : x13_1 < (l0.length : Int) := of_decide_eq_true (by assumption)
       obtain ⟨ad133, e133, hx133_0, hx133_1, hx133_2, hx133_3, hx133_4, hx133_5, hx133_6, hx133_7⟩ := at_T68 HR0.out x13_1 p133 q133
       cases e133
       replace hx133_0 := cl HB hx133_0
       replace hx133_1 := cl HB hx133_1
       replace hx133_2 := cl HB hx133_2
       replace hx133_3 := cl HB hx133_3
       replace hx133_4 := cl HB hx133_4
       replace hx133_5 := cl HB hx133_5
       replace hx133_6 := cl HB hx133_6
       replace hx133_7 := cl HB hx133_7
       replace p133 := eq_true p133
       replace q133 := eq_true q133
       go_wp2_with (first | ((with_reducible refine gd (N := 4) rfl ?_); refine be ?hg (N := 4) ?hd (cs := #[.string (⟨#[]⟩ : ByteArray), .int .i64 0, .int .i64 0, .int .i64 0, .int .i64 0, .int .i64 0, .int .i64 0, .int .i64 0]) (t := 68) ?hr ?_; (case hd | hg => rfl); (case hr => first | (go_simp; done) | (go_simp; rfl)); intro gb134 hg w12 hbox hb; have BK134 := am hbox; have GW134 := sG HB hg; have GE134 := sG HB hg; replace HB := bS HB hb; clear hb hbox hg; obtain ⟨_, _, _, _, _, _⟩ := yC6 BK134; have hcz13_6 : w12.cell? ⟨gb134, 6, none⟩ = some (.int .i64 0) := (blk_cell BK134.out 6).trans rfl; have hcz13_7 : w12.cell? ⟨gb134, 7, none⟩ = some (.int .i64 0) := (blk_cell BK134.out 7).trans rfl; have := bf BK134.out 0; have := bf BK134.out 1; have := bf BK134.out 2; have := bf BK134.out 3; have := bf BK134.out 4; have := bf BK134.out 5; have := bf BK134.out 6; have := bf BK134.out 7) | ((with_reducible refine gc (f := 43) rfl ?_); refine goesL_ (some 19) rfl rfl Try.func43 (by kernel_rfl) rfl #[.agg #[.int .i64 ((rd_T68 l0 x13_1).f1.f0.f0), .int .i64 ((rd_T68 l0 x13_1).f1.f0.f1), .int .i64 ((rd_T68 l0 x13_1).f1.f0.f2), .int .i64 ((rd_T68 l0 x13_1).f1.f1.f0), .int .i64 ((rd_T68 l0 x13_1).f1.f1.f1), .int .i64 ((rd_T68 l0 x13_1).f1.f1.f2)]] rfl (by (try simp only [pml]); first | done | rfl | (simp only [pdt]; rfl)) ?_; (with_reducible refine (box_Check.calls ((rd_T68 l0 x13_1).f1.f0.f0) ((rd_T68 l0 x13_1).f1.f0.f1) ((rd_T68 l0 x13_1).f1.f0.f2) ((rd_T68 l0 x13_1).f1.f1.f0) ((rd_T68 l0 x13_1).f1.f1.f1) ((rd_T68 l0 x13_1).f1.f1.f2) t135 _ A10.out).mono ?_); rintro e w14 ⟨rfl, hb⟩; refine ⟨_, rfl, ?_⟩; replace BK134 := am (blk_below (g := gb134) (o := .cells #[.string ((rd_T68 l0 x13_1).f0), .int .i64 ((rd_T68 l0 x13_1).f1.f0.f0), .int .i64 ((rd_T68 l0 x13_1).f1.f0.f1), .int .i64 ((rd_T68 l0 x13_1).f1.f0.f2), .int .i64 ((rd_T68 l0 x13_1).f1.f1.f0), .int .i64 ((rd_T68 l0 x13_1).f1.f1.f1), .int .i64 ((rd_T68 l0 x13_1).f1.f1.f2), .int .i64 ((rd_T68 l0 x13_1).f2)] 68 (0, 0)) (by (with_reducible repeat first | apply bN | apply bd | apply ba); refine bp (cs := #[.string ((rd_T68 l0 x13_1).f0), .int .i64 ((rd_T68 l0 x13_1).f1.f0.f0), .int .i64 ((rd_T68 l0 x13_1).f1.f0.f1), .int .i64 ((rd_T68 l0 x13_1).f1.f0.f2), .int .i64 ((rd_T68 l0 x13_1).f1.f1.f0), .int .i64 ((rd_T68 l0 x13_1).f1.f1.f1), .int .i64 ((rd_T68 l0 x13_1).f1.f1.f2), .int .i64 0]) ?_ 7 _ rfl; (with_reducible repeat first | apply bN | apply bd | apply ba); refine bp (cs := #[.string ((rd_T68 l0 x13_1).f0), .int .i64 ((rd_T68 l0 x13_1).f1.f0.f0), .int .i64 ((rd_T68 l0 x13_1).f1.f0.f1), .int .i64 ((rd_T68 l0 x13_1).f1.f0.f2), .int .i64 ((rd_T68 l0 x13_1).f1.f1.f0), .int .i64 ((rd_T68 l0 x13_1).f1.f1.f1), .int .i64 0, .int .i64 0]) ?_ 6 _ rfl; (with_reducible repeat first | apply bN | apply bd | apply ba); refine bp (cs := #[.string ((rd_T68 l0 x13_1).f0), .int .i64 ((rd_T68 l0 x13_1).f1.f0.f0), .int .i64 ((rd_T68 l0 x13_1).f1.f0.f1), .int .i64 ((rd_T68 l0 x13_1).f1.f0.f2), .int .i64 ((rd_T68 l0 x13_1).f1.f1.f0), .int .i64 0, .int .i64 0, .int .i64 0]) ?_ 5 _ rfl; (with_reducible repeat first | apply bN | apply bd | apply ba); refine bp (cs := #[.string ((rd_T68 l0 x13_1).f0), .int .i64 ((rd_T68 l0 x13_1).f1.f0.f0), .int .i64 ((rd_T68 l0 x13_1).f1.f0.f1), .int .i64 ((rd_T68 l0 x13_1).f1.f0.f2), .int .i64 0, .int .i64 0, .int .i64 0, .int .i64 0]) ?_ 4 _ rfl; (with_reducible repeat first | apply bN | apply bd | apply ba); refine bp (cs := #[.string ((rd_T68 l0 x13_1).f0), .int .i64 ((rd_T68 l0 x13_1).f1.f0.f0), .int .i64 ((rd_T68 l0 x13_1).f1.f0.f1), .int .i64 0, .int .i64 0, .int .i64 0, .int .i64 0, .int .i64 0]) ?_ 3 _ rfl; (with_reducible repeat first | apply bN | apply bd | apply ba); refine bp (cs := #[.string ((rd_T68 l0 x13_1).f0), .int .i64 ((rd_T68 l0 x13_1).f1.f0.f0), .int .i64 0, .int .i64 0, .int .i64 0, .int .i64 0, .int .i64 0, .int .i64 0]) ?_ 2 _ rfl; (with_reducible repeat first | apply bN | apply bd | apply ba); refine bp (cs := #[.string ((rd_T68 l0 x13_1).f0), .int .i64 0, .int .i64 0, .int .i64 0, .int .i64 0, .int .i64 0, .int .i64 0, .int .i64 0]) ?_ 1 _ rfl; (with_reducible repeat first | apply bN | apply bd | apply ba); refine bp (cs := #[.string (⟨#[]⟩ : ByteArray), .int .i64 0, .int .i64 0, .int .i64 0, .int .i64 0, .int .i64 0, .int .i64 0, .int .i64 0]) ?_ 0 _ rfl; (with_reducible repeat first | apply bN | apply bd | apply ba); exact BK134.out) hb); replace HB := bS HB hb; (try clear hb); (try clear hb2); (try clear hk); (try clear hi)))
       go_roundg k1
       case measure => have := HK1.out; omega
       case rel => exact ⟨(wrap64 (x13_1 + 1)), sqD, H', ⟨by have := HK1.out; omega⟩, ⟨fW HB.out⟩⟩
      rw [if_neg c11] at H
      have c11b0 : (t135 == 0) = false := beq_eq_false_iff_ne.mpr c11
      have c11b1 : (t135 != 0) = true := bne_iff_ne.mpr c11
      obtain rfl := Option.some.inj H
      have p133 : 0 ≤ (x13_1 : Int) := of_decide_eq_true (by assumption)
      have q133 : x13_1 < (l0.length : Int) := of_decide_eq_true (by assumption)
      obtain ⟨ad133, e133, hx133_0, hx133_1, hx133_2, hx133_3, hx133_4, hx133_5, hx133_6, hx133_7⟩ := at_T68 HR0.out x13_1 p133 q133
      cases e133
      replace hx133_0 := cl HB hx133_0
      replace hx133_1 := cl HB hx133_1
      replace hx133_2 := cl HB hx133_2
      replace hx133_3 := cl HB hx133_3
      replace hx133_4 := cl HB hx133_4
      replace hx133_5 := cl HB hx133_5
      replace hx133_6 := cl HB hx133_6
      replace hx133_7 := cl HB hx133_7
      replace p133 := eq_true p133
      replace q133 := eq_true q133
      go_wp2_with (first | ((with_reducible refine gd (N := 4) rfl ?_); refine be ?hg (N := 4) ?hd (cs := #[.string (⟨#[]⟩ : ByteArray), .int .i64 0, .int .i64 0, .int .i64 0, .int .i64 0, .int .i64 0, .int .i64 0, .int .i64 0]) (t := 68) ?hr ?_; (case hd | hg => rfl); (case hr => first | (go_simp; done) | (go_simp; rfl)); intro gb134 hg w15 hbox hb; have BK134 := am hbox; have GW134 := sG HB hg; have GE134 := sG HB hg; replace HB := bS HB hb; clear hb hbox hg; obtain ⟨_, _, _, _, _, _⟩ := yC6 BK134; have hcz16_6 : w15.cell? ⟨gb134, 6, none⟩ = some (.int .i64 0) := (blk_cell BK134.out 6).trans rfl; have hcz16_7 : w15.cell? ⟨gb134, 7, none⟩ = some (.int .i64 0) := (blk_cell BK134.out 7).trans rfl; have := bf BK134.out 0; have := bf BK134.out 1; have := bf BK134.out 2; have := bf BK134.out 3; have := bf BK134.out 4; have := bf BK134.out 5; have := bf BK134.out 6; have := bf BK134.out 7) | ((with_reducible refine gc (f := 43) rfl ?_); refine goesL_ (some 19) rfl rfl Try.func43 (by kernel_rfl) rfl #[.agg #[.int .i64 ((rd_T68 l0 x13_1).f1.f0.f0), .int .i64 ((rd_T68 l0 x13_1).f1.f0.f1), .int .i64 ((rd_T68 l0 x13_1).f1.f0.f2), .int .i64 ((rd_T68 l0 x13_1).f1.f1.f0), .int .i64 ((rd_T68 l0 x13_1).f1.f1.f1), .int .i64 ((rd_T68 l0 x13_1).f1.f1.f2)]] rfl (by (try simp only [pml]); first | done | rfl | (simp only [pdt]; rfl)) ?_; (with_reducible refine (box_Check.calls ((rd_T68 l0 x13_1).f1.f0.f0) ((rd_T68 l0 x13_1).f1.f0.f1) ((rd_T68 l0 x13_1).f1.f0.f2) ((rd_T68 l0 x13_1).f1.f1.f0) ((rd_T68 l0 x13_1).f1.f1.f1) ((rd_T68 l0 x13_1).f1.f1.f2) t135 _ A10.out).mono ?_); rintro e w17 ⟨rfl, hb⟩; refine ⟨_, rfl, ?_⟩; replace BK134 := am (blk_below (g := gb134) (o := .cells #[.string ((rd_T68 l0 x13_1).f0), .int .i64 ((rd_T68 l0 x13_1).f1.f0.f0), .int .i64 ((rd_T68 l0 x13_1).f1.f0.f1), .int .i64 ((rd_T68 l0 x13_1).f1.f0.f2), .int .i64 ((rd_T68 l0 x13_1).f1.f1.f0), .int .i64 ((rd_T68 l0 x13_1).f1.f1.f1), .int .i64 ((rd_T68 l0 x13_1).f1.f1.f2), .int .i64 ((rd_T68 l0 x13_1).f2)] 68 (0, 0)) (by (with_reducible repeat first | apply bN | apply bd | apply ba); refine bp (cs := #[.string ((rd_T68 l0 x13_1).f0), .int .i64 ((rd_T68 l0 x13_1).f1.f0.f0), .int .i64 ((rd_T68 l0 x13_1).f1.f0.f1), .int .i64 ((rd_T68 l0 x13_1).f1.f0.f2), .int .i64 ((rd_T68 l0 x13_1).f1.f1.f0), .int .i64 ((rd_T68 l0 x13_1).f1.f1.f1), .int .i64 ((rd_T68 l0 x13_1).f1.f1.f2), .int .i64 0]) ?_ 7 _ rfl; (with_reducible repeat first | apply bN | apply bd | apply ba); refine bp (cs := #[.string ((rd_T68 l0 x13_1).f0), .int .i64 ((rd_T68 l0 x13_1).f1.f0.f0), .int .i64 ((rd_T68 l0 x13_1).f1.f0.f1), .int .i64 ((rd_T68 l0 x13_1).f1.f0.f2), .int .i64 ((rd_T68 l0 x13_1).f1.f1.f0), .int .i64 ((rd_T68 l0 x13_1).f1.f1.f1), .int .i64 0, .int .i64 0]) ?_ 6 _ rfl; (with_reducible repeat first | apply bN | apply bd | apply ba); refine bp (cs := #[.string ((rd_T68 l0 x13_1).f0), .int .i64 ((rd_T68 l0 x13_1).f1.f0.f0), .int .i64 ((rd_T68 l0 x13_1).f1.f0.f1), .int .i64 ((rd_T68 l0 x13_1).f1.f0.f2), .int .i64 ((rd_T68 l0 x13_1).f1.f1.f0), .int .i64 0, .int .i64 0, .int .i64 0]) ?_ 5 _ rfl; (with_reducible repeat first | apply bN | apply bd | apply ba); refine bp (cs := #[.string ((rd_T68 l0 x13_1).f0), .int .i64 ((rd_T68 l0 x13_1).f1.f0.f0), .int .i64 ((rd_T68 l0 x13_1).f1.f0.f1), .int .i64 ((rd_T68 l0 x13_1).f1.f0.f2), .int .i64 0, .int .i64 0, .int .i64 0, .int .i64 0]) ?_ 4 _ rfl; (with_reducible repeat first | apply bN | apply bd | apply ba); refine bp (cs := #[.string ((rd_T68 l0 x13_1).f0), .int .i64 ((rd_T68 l0 x13_1).f1.f0.f0), .int .i64 ((rd_T68 l0 x13_1).f1.f0.f1), .int .i64 0, .int .i64 0, .int .i64 0, .int .i64 0, .int .i64 0]) ?_ 3 _ rfl; (with_reducible repeat first | apply bN | apply bd | apply ba); refine bp (cs := #[.string ((rd_T68 l0 x13_1).f0), .int .i64 ((rd_T68 l0 x13_1).f1.f0.f0), .int .i64 0, .int .i64 0, .int .i64 0, .int .i64 0, .int .i64 0, .int .i64 0]) ?_ 2 _ rfl; (with_reducible repeat first | apply bN | apply bd | apply ba); refine bp (cs := #[.string ((rd_T68 l0 x13_1).f0), .int .i64 0, .int .i64 0, .int .i64 0, .int .i64 0, .int .i64 0, .int .i64 0, .int .i64 0]) ?_ 1 _ rfl; (with_reducible repeat first | apply bN | apply bd | apply ba); refine bp (cs := #[.string (⟨#[]⟩ : ByteArray), .int .i64 0, .int .i64 0, .int .i64 0, .int .i64 0, .int .i64 0, .int .i64 0, .int .i64 0]) ?_ 0 _ rfl; (with_reducible repeat first | apply bN | apply bd | apply ba); exact BK134.out) hb); replace HB := bS HB hb; (try clear hb); (try clear hb2); (try clear hk); (try clear hi)))
      go_ret
      exact ⟨sqE, fW HB.out⟩
     ·rw [if_neg c7] at H
      have c7b0 : decide (x13_1 < (l0.length : Int)) = false := decide_eq_false c7
      clear c7
      replace H := Option.bind_eq_some_iff.mp H
      obtain ⟨t136, A180, H⟩ := H
      replace H : (if t136 = true then (some 1) else (some 0)) = some r := H
      have A18 := am A180
      clear A180
      by_cases c19 : t136 = true
      ·subst c19
       have H1 : (some 1) = some r := by rw [if_pos rfl] at H; exact H
       clear H
       have H := H1
       clear H1
       obtain rfl := Option.some.inj H
       go_wp2_with (first | ((with_reducible refine gc (f := 40) rfl ?_); refine goesL_ (some 25) rfl rfl Try.func40 (by kernel_rfl) rfl #[.slice A0 l0.length c0, .func (.func 44) #[] #[]] rfl (by (try simp only [pml]); first | done | rfl | (simp only [pdt]; rfl)) ?_; (with_reducible refine (api_Evidence_40.calls k1 _ _ l0 44 true _ ?side1 ?side2 A18.out).mono ?_); (case side1 => repeat (first | exact (Kd.C_below HR0.out HB.out) | (with_reducible refine Kd.C_alloc ?_ _) | (with_reducible refine Kd.C_drewN ?_ _) | (with_reducible refine Kd.C_drew ?_))); (case side2 => exact HC0.out); rintro e w20 ⟨rfl, hb⟩; refine ⟨_, rfl, ?_⟩; replace HB := bS HB hb; (try clear hb); (try clear hb2); (try clear hk); (try clear hi)))
       go_ret
       exact ⟨sqE, fW HB.out⟩
      ·replace c19 := Bool.eq_false_iff.mpr c19
       subst c19
       have H1 : (some 0) = some r := by rw [if_neg (show ¬ (false = true) by decide)] at H; exact H
       clear H
       have H := H1
       clear H1
       obtain rfl := Option.some.inj H
       go_wp2_with (first | ((with_reducible refine gc (f := 40) rfl ?_); refine goesL_ (some 25) rfl rfl Try.func40 (by kernel_rfl) rfl #[.slice A0 l0.length c0, .func (.func 44) #[] #[]] rfl (by (try simp only [pml]); first | done | rfl | (simp only [pdt]; rfl)) ?_; (with_reducible refine (api_Evidence_40.calls k1 _ _ l0 44 false _ ?side1 ?side2 A18.out).mono ?_); (case side1 => repeat (first | exact (Kd.C_below HR0.out HB.out) | (with_reducible refine Kd.C_alloc ?_ _) | (with_reducible refine Kd.C_drewN ?_ _) | (with_reducible refine Kd.C_drew ?_))); (case side2 => exact HC0.out); rintro e w21 ⟨rfl, hb⟩; refine ⟨_, rfl, ?_⟩; replace HB := bS HB hb; (try clear hb); (try clear hb2); (try clear hk); (try clear hi)))
       go_ret
       exact ⟨sqE, fW HB.out⟩

section
open Go.Proofs.Ytcofgnbopodahaa.EvKit Go.Proofs.Ytcofgnbopodahaa.MapKit
attribute [local go_sem] max2_int min2_int max_two min_two Oper.semAt_some
set_option linter.unusedVariables false
set_option linter.unusedSimpArgs false
def model_cell.f (a0_0 a0_1 a0_2 : Int) : Option Bool := some ((decide (-1000000 ≤ a0_0) && decide (a0_0 < 1000000)) && ((decide (-1000000 ≤ a0_1) && decide (a0_1 < 1000000)) && (decide (-1000000 ≤ a0_2) && decide (a0_2 < 1000000))))
theorem near_calls (n : Int) (w : World) : Calls Try.prog 67 #[.int .i64 n] w fun e w' => e = .returned (.bool (decide (-1000000 ≤ n) && decide (n < 1000000))) ∧ w' = w := by
 by_cases h1 : -1000000 ≤ n
 ·have d1 : decide (n ≥ -1000000) = true := decide_eq_true h1
  by_cases h2 : n < 1000000
  ·have d2 : decide (n < 1000000) = true := decide_eq_true h2
   have H := am (show (decide (-1000000 ≤ n) && decide (n < 1000000)) = true by simp [h1, h2])
   clear h1 h2
   go_enter Try.func67, Try.ntmps67
   go_wp2
   go_ret
   exact ⟨by rw [H.out]; rfl, rfl⟩
  have d2 : decide (n < 1000000) = false := decide_eq_false h2
  have H := am (show (decide (-1000000 ≤ n) && decide (n < 1000000)) = false by simp [h1, h2])
  clear h1 h2
  go_enter Try.func67, Try.ntmps67
  go_wp2
  go_ret
  exact ⟨by rw [H.out]; rfl, rfl⟩
 have d1 : decide (n ≥ -1000000) = false := decide_eq_false h1
 have H := am (show (decide (-1000000 ≤ n) && decide (n < 1000000)) = false by simp [h1])
 clear h1
 go_enter Try.func67, Try.ntmps67
 go_wp2
 go_ret
 exact ⟨by rw [H.out]; rfl, rfl⟩
theorem nearT {n : Int} {b : Bool} (h : (decide (-1000000 ≤ n) && decide (n < 1000000)) = b) (w : World) : Calls Try.prog 67 #[.int .i64 n] w fun e w' => e = .returned (.bool b) ∧ w' = w := h ▸ near_calls n w
set_option maxHeartbeats 2000000 in
theorem model_cell.calls (a0_0 a0_1 a0_2 : Int) (r : Bool) (w : World) (h : model_cell.f a0_0 a0_1 a0_2 = some r) :
  Calls Try.prog 36 #[.agg #[.int .i64 a0_0, .int .i64 a0_1, .int .i64 a0_2]] w fun e w' => e = .returned (.bool r) ∧ Below w.heap.size w w' := by
 obtain rfl := Option.some.inj h
 have N0 := am (fun W => @nearT a0_0 _ rfl W)
 have N1 := am (fun W => @nearT a0_1 _ rfl W)
 have N2 := am (fun W => @nearT a0_2 _ rfl W)
 clear h
 generalize (decide (-1000000 ≤ a0_0) && decide (a0_0 < 1000000)) = b0 at N0 ⊢
 generalize (decide (-1000000 ≤ a0_1) && decide (a0_1 < 1000000)) = b1 at N1 ⊢
 generalize (decide (-1000000 ≤ a0_2) && decide (a0_2 < 1000000)) = b2 at N2 ⊢
 cases b0
 ·go_enter Try.func36, Try.ntmps36
  go_wp2_with (go_at_call 67; refine (N0.out _).mono ?_; rintro e w' ⟨rfl, rfl⟩)
  go_ret
  exact ⟨rfl, below_alloc (Below.refl _ _) _⟩
 cases b1
 ·go_enter Try.func36, Try.ntmps36
  go_wp2_with (go_at_call 67; (first | (with_reducible refine (N0.out _).mono ?_) | (with_reducible refine (N1.out _).mono ?_)); rintro e w' ⟨rfl, rfl⟩)
  go_ret
  exact ⟨rfl, below_alloc (Below.refl _ _) _⟩
 cases b2
 all_goals
  go_enter Try.func36, Try.ntmps36
  go_wp2_with (go_at_call 67; (first | (with_reducible refine (N0.out _).mono ?_) | (with_reducible refine (N1.out _).mono ?_) | (with_reducible refine (N2.out _).mono ?_)); rintro e w' ⟨rfl, rfl⟩)
  go_ret
  exact ⟨rfl, below_alloc (Below.refl _ _) _⟩
end

end Go.Proofs.Ytcofgnbopodahaa.QA
