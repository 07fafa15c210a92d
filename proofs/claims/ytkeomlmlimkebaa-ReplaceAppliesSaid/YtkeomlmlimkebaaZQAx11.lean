import Derived.Test.YtkeomlmlimkebaaZQAx0
import Derived.Test.YtkeomlmlimkebaaZQAx5
namespace Go.Proofs.Ytkeomlmlimkebaa.QA
open Go.RowKit Go.Proofs.YtkeomlmlimkebaaW.PrintWords Go.Proofs.YtkeomlmlimkebaaW.PrintLast Go.Proofs.YtkeomlmlimkebaaW.PrintMore
open Go.Proofs.YtkeomlmlimkebaaW.PrintWords renaming blk_frozen → bf
open Aside0 renaming mk → am
attribute [local go_sem] max2_int min2_int max_two min_two max_three min_three max_four min_four
set_option linter.unusedVariables false
set_option linter.unusedSimpArgs false

mutual
def r_Same.j0 : Nat → Bool → List (List Int) → Int → List Int → List Bool → List (List Int) → Int → List Int → List Bool → Option (Bool)
 | 0, _, _, _, _, _, _, _, _, _ => none
 | k + 1, x37, x238000, x238001, x238002, x238003, x239000, x239001, x239002, x239003 => if x37 = true then (some false) else (r_Same.l0 k 0 x238000 x238001 x238002 x238003 x239000 x239001 x239002 x239003)
def r_Same.l0 : Nat → Int → List (List Int) → Int → List Int → List Bool → List (List Int) → Int → List Int → List Bool → Option (Bool)
 | 0, _, _, _, _, _, _, _, _, _ => none
 | k + 1, x5, x238000, x238001, x238002, x238003, x239000, x239001, x239002, x239003 => if x5 < (x238000.length : Int) then (if 0 ≤ x5 then (if x5 < (x239000.length : Int) then ((r_SameInts.f k (rd_L1 x238000 x5) (rd_L1 x239000 x5)).bind fun t242 => (if t242 = true then (r_Same.l0 k (wrap64 (x5 + 1)) x238000 x238001 x238002 x238003 x239000 x239001 x239002 x239003) else (some false))) else (none)) else (none)) else (r_Same.l1 k 0 x238000 x238001 x238002 x238003 x239000 x239001 x239002 x239003)
def r_Same.l1 : Nat → Int → List (List Int) → Int → List Int → List Bool → List (List Int) → Int → List Int → List Bool → Option (Bool)
 | 0, _, _, _, _, _, _, _, _, _ => none
 | k + 1, x6, x238000, x238001, x238002, x238003, x239000, x239001, x239002, x239003 => if x6 < (x238003.length : Int) then (if 0 ≤ x6 then (if x6 < (x239003.length : Int) then (if ((rdOf false x238003 x6) != (rdOf false x239003 x6)) = true then (some false) else (r_Same.l1 k (wrap64 (x6 + 1)) x238000 x238001 x238002 x238003 x239000 x239001 x239002 x239003)) else (none)) else (none)) else (some true)
end
def r_Same.f (k : Nat) (l0_0 : List (List Int)) (a0_1 : Int) (l0_2 : List Int) (l0_3 : List Bool) (l1_0 : List (List Int)) (a1_1 : Int) (l1_2 : List Int) (l1_3 : List Bool) : Option (Bool) := if (l0_0.length : Int) = (l1_0.length : Int) then (if a0_1 = a1_1 then ((r_SameInts.f k l0_2 l1_2).bind fun t239 => (if t239 = true then (r_Same.j0 k ((l0_3.length : Int) != (l1_3.length : Int)) l0_0 a0_1 l0_2 l0_3 l1_0 a1_1 l1_2 l1_3) else (r_Same.j0 k true l0_0 a0_1 l0_2 l0_3 l1_0 a1_1 l1_2 l1_3))) else (r_Same.j0 k true l0_0 a0_1 l0_2 l0_3 l1_0 a1_1 l1_2 l1_3)) else (r_Same.j0 k true l0_0 a0_1 l0_2 l0_3 l1_0 a1_1 l1_2 l1_3)
set_option maxHeartbeats 8000000 in
set_option maxRecDepth 100000 in
theorem r_Same.calls (k : Nat) (A0_0 : Option Addr) (c0_0 : Nat) (l0_0 : List (List Int)) (a0_1 : Int) (A0_2 : Option Addr) (c0_2 : Nat) (l0_2 : List Int) (A0_3 : Option Addr) (c0_3 : Nat) (l0_3 : List Bool) (A1_0 : Option Addr) (c1_0 : Nat) (l1_0 : List (List Int)) (a1_1 : Int) (A1_2 : Option Addr) (c1_2 : Nat) (l1_2 : List Int) (A1_3 : Option Addr) (c1_3 : Nat) (l1_3 : List Bool) (r : Bool) (w : World) (hr0_0 : Kd.C (Kd.slice 3 (Kd.int .i64)) w A0_0 l0_0.length l0_0) (hc0_0 : l0_0.length ≤ c0_0) (hr0_2 : Kd.C (Kd.int .i64) w A0_2 l0_2.length l0_2) (hc0_2 : l0_2.length ≤ c0_2) (hr0_3 : Kd.C Kd.bool w A0_3 l0_3.length l0_3) (hc0_3 : l0_3.length ≤ c0_3) (hr1_0 : Kd.C (Kd.slice 3 (Kd.int .i64)) w A1_0 l1_0.length l1_0) (hc1_0 : l1_0.length ≤ c1_0) (hr1_2 : Kd.C (Kd.int .i64) w A1_2 l1_2.length l1_2) (hc1_2 : l1_2.length ≤ c1_2) (hr1_3 : Kd.C Kd.bool w A1_3 l1_3.length l1_3) (hc1_3 : l1_3.length ≤ c1_3) (h : r_Same.f k l0_0 a0_1 l0_2 l0_3 l1_0 a1_1 l1_2 l1_3 = some r) :
  Calls Try.prog 26 #[.agg #[.slice A0_0 l0_0.length c0_0, .int .i64 a0_1, .slice A0_2 l0_2.length c0_2, .slice A0_3 l0_3.length c0_3], .agg #[.slice A1_0 l1_0.length c1_0, .int .i64 a1_1, .slice A1_2 l1_2.length c1_2, .slice A1_3 l1_3.length c1_3]] w fun e w' => e = .returned (.bool r) ∧ Below w.heap.size w w' := by
 have hu26 := Try.underlying26
 have HR0_0 := am hr0_0
 have HC0_0 := am hc0_0
 clear hr0_0 hc0_0
 have HR0_2 := am hr0_2
 have HC0_2 := am hc0_2
 clear hr0_2 hc0_2
 have HR0_3 := am hr0_3
 have HC0_3 := am hc0_3
 clear hr0_3 hc0_3
 have HR1_0 := am hr1_0
 have HC1_0 := am hc1_0
 clear hr1_0 hc1_0
 have HR1_2 := am hr1_2
 have HC1_2 := am hc1_2
 clear hr1_2 hc1_2
 have HR1_3 := am hr1_3
 have HC1_3 := am hc1_3
 clear hr1_3 hc1_3
 have HB := am (Below.refl w.heap.size w)
 have H : (if (l0_0.length : Int) = (l1_0.length : Int) then (if a0_1 = a1_1 then ((r_SameInts.f k l0_2 l1_2).bind fun t239 => (if t239 = true then (r_Same.j0 k ((l0_3.length : Int) != (l1_3.length : Int)) l0_0 a0_1 l0_2 l0_3 l1_0 a1_1 l1_2 l1_3) else (r_Same.j0 k true l0_0 a0_1 l0_2 l0_3 l1_0 a1_1 l1_2 l1_3))) else (r_Same.j0 k true l0_0 a0_1 l0_2 l0_3 l1_0 a1_1 l1_2 l1_3)) else (r_Same.j0 k true l0_0 a0_1 l0_2 l0_3 l1_0 a1_1 l1_2 l1_3)) = some r := h
 clear h
 have HC3 := am H
 clear H
 go_enter Try.func26, Try.ntmps26
 go_upto_region 1 with (first | ((with_reducible refine gate_dst (N := 2) rfl ?_); (try (refine gate_guard (by rfl) ?_; dsimp only)); refine box_event ?hg (N := 2) ?hd (cs := #[.slice A0_0 l0_0.length c0_0, .int .i64 a0_1, .slice A0_2 l0_2.length c0_2, .slice A0_3 l0_3.length c0_3]) (t := 26) ?hr ?_; (case hd | hg => rfl); (case hr => first | (go_simp; done) | (go_simp; rfl)); intro gb237 hg w4 hbox hb; have BK237 := am hbox; have GW237 := sG HB hg; have GE237 := sG HB hg; replace HB := bS HB hb; clear hb hbox hg) | ((with_reducible refine gate_dst (N := 3) rfl ?_); (try (refine gate_guard (by rfl) ?_; dsimp only)); refine box_event ?hg (N := 3) ?hd (cs := #[.slice A1_0 l1_0.length c1_0, .int .i64 a1_1, .slice A1_2 l1_2.length c1_2, .slice A1_3 l1_3.length c1_3]) (t := 26) ?hr ?_; (case hd | hg => rfl); (case hr => first | (go_simp; done) | (go_simp; rfl)); intro gb238 hg w5 hbox hb; have BK238 := am hbox; have GW238 := sG HB hg; have GE238 := sG HB hg; replace HB := bS HB hb; have NB237_238 := nL BK237 hg; have NB238_237 := nG BK237 hg; replace BK237 := bB BK237 hb; clear hb hbox hg))
 repeat (go_quiet (first | ((with_reducible refine gate_dst (N := 2) rfl ?_); (try (refine gate_guard (by rfl) ?_; dsimp only)); refine box_event ?hg (N := 2) ?hd (cs := #[.slice A0_0 l0_0.length c0_0, .int .i64 a0_1, .slice A0_2 l0_2.length c0_2, .slice A0_3 l0_3.length c0_3]) (t := 26) ?hr ?_; (case hd | hg => rfl); (case hr => first | (go_simp; done) | (go_simp; rfl)); intro gb237 hg w4 hbox hb; have BK237 := am hbox; have GW237 := sG HB hg; have GE237 := sG HB hg; replace HB := bS HB hb; clear hb hbox hg) | ((with_reducible refine gate_dst (N := 3) rfl ?_); (try (refine gate_guard (by rfl) ?_; dsimp only)); refine box_event ?hg (N := 3) ?hd (cs := #[.slice A1_0 l1_0.length c1_0, .int .i64 a1_1, .slice A1_2 l1_2.length c1_2, .slice A1_3 l1_3.length c1_3]) (t := 26) ?hr ?_; (case hd | hg => rfl); (case hr => first | (go_simp; done) | (go_simp; rfl)); intro gb238 hg w5 hbox hb; have BK238 := am hbox; have GW238 := sG HB hg; have GE238 := sG HB hg; replace HB := bS HB hb; have NB237_238 := nL BK237 hg; have NB238_237 := nG BK237 hg; replace BK237 := bB BK237 hb; clear hb hbox hg)); go_upto_region 1 with (first | ((with_reducible refine gate_dst (N := 2) rfl ?_); (try (refine gate_guard (by rfl) ?_; dsimp only)); refine box_event ?hg (N := 2) ?hd (cs := #[.slice A0_0 l0_0.length c0_0, .int .i64 a0_1, .slice A0_2 l0_2.length c0_2, .slice A0_3 l0_3.length c0_3]) (t := 26) ?hr ?_; (case hd | hg => rfl); (case hr => first | (go_simp; done) | (go_simp; rfl)); intro gb237 hg w4 hbox hb; have BK237 := am hbox; have GW237 := sG HB hg; have GE237 := sG HB hg; replace HB := bS HB hb; clear hb hbox hg) | ((with_reducible refine gate_dst (N := 3) rfl ?_); (try (refine gate_guard (by rfl) ?_; dsimp only)); refine box_event ?hg (N := 3) ?hd (cs := #[.slice A1_0 l1_0.length c1_0, .int .i64 a1_1, .slice A1_2 l1_2.length c1_2, .slice A1_3 l1_3.length c1_3]) (t := 26) ?hr ?_; (case hd | hg => rfl); (case hr => first | (go_simp; done) | (go_simp; rfl)); intro gb238 hg w5 hbox hb; have BK238 := am hbox; have GW238 := sG HB hg; have GE238 := sG HB hg; replace HB := bS HB hb; have NB237_238 := nL BK237 hg; have NB238_237 := nG BK237 hg; replace BK237 := bB BK237 hb; clear hb hbox hg)))
 (try simp only [Act.put, psl])
 go_cut [37] (fun v37 wc => ∃ (kq : Nat) (x37_2 : Bool), v37 = .bool x37_2 ∧ Aside0 (r_Same.j0 kq x37_2 l0_0 a0_1 l0_2 l0_3 l1_0 a1_1 l1_2 l1_3 = some r) ∧ Aside0 (kq ≤ k) ∧ Aside0 (wc.heap[gb237]? = some (.cells #[(.slice A0_0 l0_0.length c0_0), .int .i64 a0_1, (.slice A0_2 l0_2.length c0_2), (.slice A0_3 l0_3.length c0_3)] 26 (0, 0))) ∧ Aside0 (wc.heap[gb238]? = some (.cells #[(.slice A1_0 l1_0.length c1_0), .int .i64 a1_1, (.slice A1_2 l1_2.length c1_2), (.slice A1_3 l1_3.length c1_3)] 26 (0, 0))) ∧ Aside0 (Below w.heap.size w wc))
 case first =>
  have H := HC3.out
  clear HC3
  by_cases c6 : (l0_0.length : Int) = (l1_0.length : Int)
  rotate_left
  ·rw [if_neg c6] at H
   have c6b0 : ((l0_0.length : Int) == (l1_0.length : Int)) = false := beq_eq_false_iff_ne.mpr c6
   have c6b1 : ((l0_0.length : Int) != (l1_0.length : Int)) = true := bne_iff_ne.mpr c6
   have c6b2 : (l0_0.length == l1_0.length) = false := by first | simpa using c6 | (simp at c6 ⊢; omega)
   (first | rw [c6b0] | (simp only [i64_w, i32_w]; rw [c6b0]) | skip)
   have H' := am H
   clear H
   have hnb19 := NB237_238.out
   have hnc19 := NB238_237.out
   have := yC1 BK237
   have := kC1 BK237
   have := kC2 BK237
   have := kC3 BK237
   have := bf BK237.out 0
   have := bf BK237.out 1
   have := bf BK237.out 2
   have := bf BK237.out 3
   have := yC1 BK238
   have := kC1 BK238
   have := kC2 BK238
   have := kC3 BK238
   have := bf BK238.out 0
   have := bf BK238.out 1
   have := bf BK238.out 2
   have := bf BK238.out 3
   go_wp2
   repeat (go_quiet (fail); try go_wp2)
   go_meet
   case rel => exact ⟨_, (true), sqD, H', ⟨by first | omega | exact Nat.le_refl _⟩, ⟨fb BK237.out⟩, ⟨fb BK238.out⟩, ⟨fW HB.out⟩⟩
  rw [if_pos c6] at H
  have c6b0 : ((l0_0.length : Int) == (l1_0.length : Int)) = true := beq_iff_eq.mpr c6
  have c6b1 : ((l0_0.length : Int) != (l1_0.length : Int)) = false := bne_eq_false_iff_eq.mpr c6
  have c6b2 : (l0_0.length == l1_0.length) = true := by first | simpa using c6 | (simp at c6 ⊢; omega)
  clear c6
  (first | rw [c6b0] | (simp only [i64_w, i32_w]; rw [c6b0]) | skip)
  by_cases c7 : a0_1 = a1_1
  rotate_left
  ·rw [if_neg c7] at H
   have c7b0 : (a0_1 == a1_1) = false := beq_eq_false_iff_ne.mpr c7
   have c7b1 : (a0_1 != a1_1) = true := bne_iff_ne.mpr c7
   have H' := am H
   clear H
   have hnb16 := NB237_238.out
   have hnc16 := NB238_237.out
   have := yC1 BK237
   have := kC1 BK237
   have := kC2 BK237
   have := kC3 BK237
   have := bf BK237.out 0
   have := bf BK237.out 1
   have := bf BK237.out 2
   have := bf BK237.out 3
   have := yC1 BK238
   have := kC1 BK238
   have := kC2 BK238
   have := kC3 BK238
   have := bf BK238.out 0
   have := bf BK238.out 1
   have := bf BK238.out 2
   have := bf BK238.out 3
   go_wp2
   repeat (go_quiet (fail); try go_wp2)
   go_meet
   case rel => exact ⟨_, (true), sqD, H', ⟨by first | omega | exact Nat.le_refl _⟩, ⟨fb BK237.out⟩, ⟨fb BK238.out⟩, ⟨fW HB.out⟩⟩
  rw [if_pos c7] at H
  have c7b0 : (a0_1 == a1_1) = true := beq_iff_eq.mpr c7
  have c7b1 : (a0_1 != a1_1) = false := bne_eq_false_iff_eq.mpr c7
  clear c7
  replace H := Option.bind_eq_some_iff.mp H
  obtain ⟨t239, A80, H⟩ := H
  replace H : (if t239 = true then (r_Same.j0 k ((l0_3.length : Int) != (l1_3.length : Int)) l0_0 a0_1 l0_2 l0_3 l1_0 a1_1 l1_2 l1_3) else (r_Same.j0 k true l0_0 a0_1 l0_2 l0_3 l1_0 a1_1 l1_2 l1_3)) = some r := H
  have A8 := am A80
  clear A80
  by_cases c9 : t239 = true
  ·subst c9
   have H1 : (r_Same.j0 k ((l0_3.length : Int) != (l1_3.length : Int)) l0_0 a0_1 l0_2 l0_3 l1_0 a1_1 l1_2 l1_3) = some r := by rw [if_pos rfl] at H; exact H
   clear H
   have H := H1
   clear H1
   have H' := am H
   clear H
   have hnb10 := NB237_238.out
   have hnc10 := NB238_237.out
   have := yC1 BK237
   have := kC1 BK237
   have := kC2 BK237
   have := kC3 BK237
   have := bf BK237.out 0
   have := bf BK237.out 1
   have := bf BK237.out 2
   have := bf BK237.out 3
   have := yC1 BK238
   have := kC1 BK238
   have := kC2 BK238
   have := kC3 BK238
   have := bf BK238.out 0
   have := bf BK238.out 1
   have := bf BK238.out 2
   have := bf BK238.out 3
   go_wp2_with (first | (go_at_call 22; (with_reducible refine (r_SameInts.calls k _ _ l0_2 _ _ l1_2 true _ ?side1 ?side2 ?side3 ?side4 A8.out).mono ?_); (case side1 => repeat (first | exact (Kd.C_below HR0_2.out HB.out) | (with_reducible refine Kd.C_alloc ?_ _) | (with_reducible refine Kd.C_drewN ?_ _) | (with_reducible refine Kd.C_drew ?_))); (case side2 => exact HC0_2.out); (case side3 => repeat (first | exact (Kd.C_below HR1_2.out HB.out) | (with_reducible refine Kd.C_alloc ?_ _) | (with_reducible refine Kd.C_drewN ?_ _) | (with_reducible refine Kd.C_drew ?_))); (case side4 => exact HC1_2.out); rintro e w' ⟨rfl, ⟨nd, rfl⟩⟩; (try first | exact ⟨rfl, _, World.drewN_drewN _ _ _⟩ | exact ⟨rfl, _, Eq.trans (World.drewN_drewN _ _ _) (congrArg (World.drewN _) (Nat.add_assoc _ _ _))⟩)))
   repeat (go_quiet (first | (go_at_call 22; (with_reducible refine (r_SameInts.calls k _ _ l0_2 _ _ l1_2 true _ ?side1 ?side2 ?side3 ?side4 A8.out).mono ?_); (case side1 => repeat (first | exact (Kd.C_below HR0_2.out HB.out) | (with_reducible refine Kd.C_alloc ?_ _) | (with_reducible refine Kd.C_drewN ?_ _) | (with_reducible refine Kd.C_drew ?_))); (case side2 => exact HC0_2.out); (case side3 => repeat (first | exact (Kd.C_below HR1_2.out HB.out) | (with_reducible refine Kd.C_alloc ?_ _) | (with_reducible refine Kd.C_drewN ?_ _) | (with_reducible refine Kd.C_drew ?_))); (case side4 => exact HC1_2.out); rintro e w' ⟨rfl, ⟨nd, rfl⟩⟩; (try first | exact ⟨rfl, _, World.drewN_drewN _ _ _⟩ | exact ⟨rfl, _, Eq.trans (World.drewN_drewN _ _ _) (congrArg (World.drewN _) (Nat.add_assoc _ _ _))⟩))); try go_wp2_with (first | (go_at_call 22; (with_reducible refine (r_SameInts.calls k _ _ l0_2 _ _ l1_2 true _ ?side1 ?side2 ?side3 ?side4 A8.out).mono ?_); (case side1 => repeat (first | exact (Kd.C_below HR0_2.out HB.out) | (with_reducible refine Kd.C_alloc ?_ _) | (with_reducible refine Kd.C_drewN ?_ _) | (with_reducible refine Kd.C_drew ?_))); (case side2 => exact HC0_2.out); (case side3 => repeat (first | exact (Kd.C_below HR1_2.out HB.out) | (with_reducible refine Kd.C_alloc ?_ _) | (with_reducible refine Kd.C_drewN ?_ _) | (with_reducible refine Kd.C_drew ?_))); (case side4 => exact HC1_2.out); rintro e w' ⟨rfl, ⟨nd, rfl⟩⟩; (try first | exact ⟨rfl, _, World.drewN_drewN _ _ _⟩ | exact ⟨rfl, _, Eq.trans (World.drewN_drewN _ _ _) (congrArg (World.drewN _) (Nat.add_assoc _ _ _))⟩))))
   go_meet
   case rel => exact ⟨_, (((l0_3.length : Int) != (l1_3.length : Int))), sqD, H', ⟨by first | omega | exact Nat.le_refl _⟩, ⟨fb BK237.out⟩, ⟨fb BK238.out⟩, ⟨fW HB.out⟩⟩
  replace c9 := Bool.eq_false_iff.mpr c9
  subst c9
  have H1 : (r_Same.j0 k true l0_0 a0_1 l0_2 l0_3 l1_0 a1_1 l1_2 l1_3) = some r := by rw [if_neg (show ¬ (false = true) by decide)] at H; exact H
  clear H
  have H := H1
  clear H1
  have H' := am H
  clear H
  have hnb13 := NB237_238.out
  have hnc13 := NB238_237.out
  have := yC1 BK237
  have := kC1 BK237
  have := kC2 BK237
  have := kC3 BK237
  have := bf BK237.out 0
  have := bf BK237.out 1
  have := bf BK237.out 2
  have := bf BK237.out 3
  have := yC1 BK238
  have := kC1 BK238
  have := kC2 BK238
  have := kC3 BK238
  have := bf BK238.out 0
  have := bf BK238.out 1
  have := bf BK238.out 2
  have := bf BK238.out 3
  go_wp2_with (first | (go_at_call 22; (with_reducible refine (r_SameInts.calls k _ _ l0_2 _ _ l1_2 false _ ?side1 ?side2 ?side3 ?side4 A8.out).mono ?_); (case side1 => repeat (first | exact (Kd.C_below HR0_2.out HB.out) | (with_reducible refine Kd.C_alloc ?_ _) | (with_reducible refine Kd.C_drewN ?_ _) | (with_reducible refine Kd.C_drew ?_))); (case side2 => exact HC0_2.out); (case side3 => repeat (first | exact (Kd.C_below HR1_2.out HB.out) | (with_reducible refine Kd.C_alloc ?_ _) | (with_reducible refine Kd.C_drewN ?_ _) | (with_reducible refine Kd.C_drew ?_))); (case side4 => exact HC1_2.out); rintro e w' ⟨rfl, ⟨nd, rfl⟩⟩; (try first | exact ⟨rfl, _, World.drewN_drewN _ _ _⟩ | exact ⟨rfl, _, Eq.trans (World.drewN_drewN _ _ _) (congrArg (World.drewN _) (Nat.add_assoc _ _ _))⟩)))
  repeat (go_quiet (first | (go_at_call 22; (with_reducible refine (r_SameInts.calls k _ _ l0_2 _ _ l1_2 false _ ?side1 ?side2 ?side3 ?side4 A8.out).mono ?_); (case side1 => repeat (first | exact (Kd.C_below HR0_2.out HB.out) | (with_reducible refine Kd.C_alloc ?_ _) | (with_reducible refine Kd.C_drewN ?_ _) | (with_reducible refine Kd.C_drew ?_))); (case side2 => exact HC0_2.out); (case side3 => repeat (first | exact (Kd.C_below HR1_2.out HB.out) | (with_reducible refine Kd.C_alloc ?_ _) | (with_reducible refine Kd.C_drewN ?_ _) | (with_reducible refine Kd.C_drew ?_))); (case side4 => exact HC1_2.out); rintro e w' ⟨rfl, ⟨nd, rfl⟩⟩; (try first | exact ⟨rfl, _, World.drewN_drewN _ _ _⟩ | exact ⟨rfl, _, Eq.trans (World.drewN_drewN _ _ _) (congrArg (World.drewN _) (Nat.add_assoc _ _ _))⟩))); try go_wp2_with (first | (go_at_call 22; (with_reducible refine (r_SameInts.calls k _ _ l0_2 _ _ l1_2 false _ ?side1 ?side2 ?side3 ?side4 A8.out).mono ?_); (case side1 => repeat (first | exact (Kd.C_below HR0_2.out HB.out) | (with_reducible refine Kd.C_alloc ?_ _) | (with_reducible refine Kd.C_drewN ?_ _) | (with_reducible refine Kd.C_drew ?_))); (case side2 => exact HC0_2.out); (case side3 => repeat (first | exact (Kd.C_below HR1_2.out HB.out) | (with_reducible refine Kd.C_alloc ?_ _) | (with_reducible refine Kd.C_drewN ?_ _) | (with_reducible refine Kd.C_drew ?_))); (case side4 => exact HC1_2.out); rintro e w' ⟨rfl, ⟨nd, rfl⟩⟩; (try first | exact ⟨rfl, _, World.drewN_drewN _ _ _⟩ | exact ⟨rfl, _, Eq.trans (World.drewN_drewN _ _ _) (congrArg (World.drewN _) (Nat.add_assoc _ _ _))⟩))))
  go_meet
  case rel => exact ⟨_, (true), sqD, H', ⟨by first | omega | exact Nat.le_refl _⟩, ⟨fb BK237.out⟩, ⟨fb BK238.out⟩, ⟨fW HB.out⟩⟩
 case rest =>
  clear HC3
  try clear c1;try clear c2;try clear p2;try clear c6;try clear c6b0;try clear c6b1;try clear c6b2;try clear c7;try clear c7b0;try clear c7b1;try clear c9;try clear c10;try clear c13;try clear c16;try clear c19
  obtain ⟨kq, x37_2, rfl, HA, HJ2, BK237, BK238, HB⟩ := hcut
  cases kq with
  | zero => exact absurd HA.out (by simp [r_Same.j0])
  | succ kj2 =>
   have H := HA.out
   clear HA
   simp only [r_Same.j0] at H
   by_cases c22 : x37_2 = true
   ·subst c22
    have H1 : (some false) = some r := by rw [if_pos rfl] at H; exact H
    clear H
    have H := H1
    clear H1
    obtain rfl := Option.some.inj H
    go_wp2
    repeat (go_quiet (fail); try go_wp2)
    go_ret
    exact ⟨sqE, fW HB.out⟩
   ·replace c22 := Bool.eq_false_iff.mpr c22
    subst c22
    have H1 : (r_Same.l0 kj2 0 l0_0 a0_1 l0_2 l0_3 l1_0 a1_1 l1_2 l1_3) = some r := by rw [if_neg (show ¬ (false = true) by decide)] at H; exact H
    clear H
    have H := H1
    clear H1
    have H' := am H
    clear H
    go_wp2
    repeat (go_quiet (fail); try go_wp2)
    go_loopg [5] kj2 (fun kq v5 w' => ∃ (x5_2 : Int), v5 = .int .i64 x5_2 ∧ Aside0 (r_Same.l0 kq x5_2 l0_0 a0_1 l0_2 l0_3 l1_0 a1_1 l1_2 l1_3 = some r) ∧ Aside0 (kq ≤ kj2) ∧ Aside0 (w'.heap[gb237]? = some (.cells #[(.slice A0_0 l0_0.length c0_0), .int .i64 a0_1, (.slice A0_2 l0_2.length c0_2), (.slice A0_3 l0_3.length c0_3)] 26 (0, 0))) ∧ Aside0 (w'.heap[gb238]? = some (.cells #[(.slice A1_0 l1_0.length c1_0), .int .i64 a1_1, (.slice A1_2 l1_2.length c1_2), (.slice A1_3 l1_3.length c1_3)] 26 (0, 0))) ∧ Aside0 (Below w.heap.size w w'))
    case atStart => exact ⟨(0), sqD, H', ⟨Nat.le_refl _⟩, ⟨fb BK237.out⟩, ⟨fb BK238.out⟩, ⟨fW HB.out⟩⟩
    case round =>
     clear H'
     try clear c1;try clear c2;try clear p2;try clear c6;try clear c6b0;try clear c6b1;try clear c6b2;try clear c7;try clear c7b0;try clear c7b1;try clear c9;try clear c10;try clear c13;try clear c16;try clear c19;try clear c22;try clear p2
     obtain ⟨x5_2, rfl, HA, HK2, BK237, BK238, HB⟩ := hrel
     cases gk with
     | zero => exact absurd HA.out (by simp [r_Same.l0])
     | succ k2 =>
      have H := HA.out
      clear HA
      simp only [r_Same.l0] at H
      by_cases c23 : x5_2 < (l0_0.length : Int)
      ·rw [if_pos c23] at H
       have c23b0 : decide (x5_2 < (l0_0.length : Int)) = true := decide_eq_true c23
       clear c23
       by_cases c24 : 0 ≤ x5_2
       rotate_left
       ·rw [if_neg c24] at H
        exact absurd H (by simp)
       rw [if_pos c24] at H
       have c24b0 : decide (0 ≤ x5_2) = true := decide_eq_true c24
       clear c24
       by_cases c25 : x5_2 < (l1_0.length : Int)
       rotate_left
       ·rw [if_neg c25] at H
        exact absurd H (by simp)
       rw [if_pos c25] at H
       have c25b0 : decide (x5_2 < (l1_0.length : Int)) = true := decide_eq_true c25
       clear c25
       replace H := Option.bind_eq_some_iff.mp H
       obtain ⟨t242, A260, H⟩ := H
       replace H : (if t242 = true then (r_Same.l0 k2 (wrap64 (x5_2 + 1)) l0_0 a0_1 l0_2 l0_3 l1_0 a1_1 l1_2 l1_3) else (some false)) = some r := H
       have A26 := am A260
       clear A260
       by_cases c27 : t242 = true
       ·subst c27
        have H1 : (r_Same.l0 k2 (wrap64 (x5_2 + 1)) l0_0 a0_1 l0_2 l0_3 l1_0 a1_1 l1_2 l1_3) = some r := by rw [if_pos rfl] at H; exact H
        clear H
        have H := H1
        clear H1
        have H' := am H
        clear H
        have hnb28 := NB237_238.out
        have hnc28 := NB238_237.out
        have := yC1 BK237
        have := kC1 BK237
        have := kC2 BK237
        have := kC3 BK237
        have := bf BK237.out 0
        have := bf BK237.out 1
        have := bf BK237.out 2
        have := bf BK237.out 3
        have p240 : 0 ≤ (x5_2 : Int) := of_decide_eq_true (by assumption)
        have q240 : x5_2 < (l0_0.length : Int) := of_decide_eq_true (by assumption)
        obtain ⟨ad240, A240_0, c240_0, e240, hx240_0, hl240_0, hi240_0⟩ := at_L1 HR0_0.out x5_2 p240 q240
        cases e240
        replace hx240_0 := cl HB hx240_0
        have HR240_0 := am hi240_0
        have HC240_0 := am hl240_0
        clear hi240_0 hl240_0
        replace p240 := eq_true p240
        replace q240 := eq_true q240
        have := yC1 BK238
        have := kC1 BK238
        have := kC2 BK238
        have := kC3 BK238
        have := bf BK238.out 0
        have := bf BK238.out 1
        have := bf BK238.out 2
        have := bf BK238.out 3
        have p241 : 0 ≤ (x5_2 : Int) := of_decide_eq_true (by assumption)
        have q241 : x5_2 < (l1_0.length : Int) := of_decide_eq_true (by assumption)
        obtain ⟨ad241, A241_0, c241_0, e241, hx241_0, hl241_0, hi241_0⟩ := at_L1 HR1_0.out x5_2 p241 q241
        cases e241
        replace hx241_0 := cl HB hx241_0
        have HR241_0 := am hi241_0
        have HC241_0 := am hl241_0
        clear hi241_0 hl241_0
        replace p241 := eq_true p241
        replace q241 := eq_true q241
        go_wp2_with (first | (go_at_call 22; (with_reducible refine (r_SameInts.calls k2 _ _ (rd_L1 l0_0 x5_2) _ _ (rd_L1 l1_0 x5_2) true _ ?side1 ?side2 ?side3 ?side4 A26.out).mono ?_); (case side1 => repeat (first | exact (Kd.C_below HR240_0.out HB.out) | (with_reducible refine Kd.C_alloc ?_ _) | (with_reducible refine Kd.C_drewN ?_ _) | (with_reducible refine Kd.C_drew ?_))); (case side2 => exact HC240_0.out); (case side3 => repeat (first | exact (Kd.C_below HR241_0.out HB.out) | (with_reducible refine Kd.C_alloc ?_ _) | (with_reducible refine Kd.C_drewN ?_ _) | (with_reducible refine Kd.C_drew ?_))); (case side4 => exact HC241_0.out); rintro e w' ⟨rfl, ⟨nd, rfl⟩⟩; (try first | exact ⟨rfl, _, World.drewN_drewN _ _ _⟩ | exact ⟨rfl, _, Eq.trans (World.drewN_drewN _ _ _) (congrArg (World.drewN _) (Nat.add_assoc _ _ _))⟩)))
        repeat (go_quiet (first | (go_at_call 22; (with_reducible refine (r_SameInts.calls k2 _ _ (rd_L1 l0_0 x5_2) _ _ (rd_L1 l1_0 x5_2) true _ ?side1 ?side2 ?side3 ?side4 A26.out).mono ?_); (case side1 => repeat (first | exact (Kd.C_below HR240_0.out HB.out) | (with_reducible refine Kd.C_alloc ?_ _) | (with_reducible refine Kd.C_drewN ?_ _) | (with_reducible refine Kd.C_drew ?_))); (case side2 => exact HC240_0.out); (case side3 => repeat (first | exact (Kd.C_below HR241_0.out HB.out) | (with_reducible refine Kd.C_alloc ?_ _) | (with_reducible refine Kd.C_drewN ?_ _) | (with_reducible refine Kd.C_drew ?_))); (case side4 => exact HC241_0.out); rintro e w' ⟨rfl, ⟨nd, rfl⟩⟩; (try first | exact ⟨rfl, _, World.drewN_drewN _ _ _⟩ | exact ⟨rfl, _, Eq.trans (World.drewN_drewN _ _ _) (congrArg (World.drewN _) (Nat.add_assoc _ _ _))⟩))); try go_wp2_with (first | (go_at_call 22; (with_reducible refine (r_SameInts.calls k2 _ _ (rd_L1 l0_0 x5_2) _ _ (rd_L1 l1_0 x5_2) true _ ?side1 ?side2 ?side3 ?side4 A26.out).mono ?_); (case side1 => repeat (first | exact (Kd.C_below HR240_0.out HB.out) | (with_reducible refine Kd.C_alloc ?_ _) | (with_reducible refine Kd.C_drewN ?_ _) | (with_reducible refine Kd.C_drew ?_))); (case side2 => exact HC240_0.out); (case side3 => repeat (first | exact (Kd.C_below HR241_0.out HB.out) | (with_reducible refine Kd.C_alloc ?_ _) | (with_reducible refine Kd.C_drewN ?_ _) | (with_reducible refine Kd.C_drew ?_))); (case side4 => exact HC241_0.out); rintro e w' ⟨rfl, ⟨nd, rfl⟩⟩; (try first | exact ⟨rfl, _, World.drewN_drewN _ _ _⟩ | exact ⟨rfl, _, Eq.trans (World.drewN_drewN _ _ _) (congrArg (World.drewN _) (Nat.add_assoc _ _ _))⟩))))
        go_roundg k2
        case measure => have := HJ2.out; have := HK2.out; omega
        case rel => exact ⟨(wrap64 (x5_2 + 1)), sqD, H', ⟨by have := HJ2.out; have := HK2.out; omega⟩, ⟨fb BK237.out⟩, ⟨fb BK238.out⟩, ⟨fW HB.out⟩⟩
       replace c27 := Bool.eq_false_iff.mpr c27
       subst c27
       have H1 : (some false) = some r := by rw [if_neg (show ¬ (false = true) by decide)] at H; exact H
       clear H
       have H := H1
       clear H1
       obtain rfl := Option.some.inj H
       have hnb31 := NB237_238.out
       have hnc31 := NB238_237.out
       have := yC1 BK237
       have := kC1 BK237
       have := kC2 BK237
       have := kC3 BK237
       have := bf BK237.out 0
       have := bf BK237.out 1
       have := bf BK237.out 2
       have := bf BK237.out 3
       have p240 : 0 ≤ (x5_2 : Int) := of_decide_eq_true (by assumption)
       have q240 : x5_2 < (l0_0.length : Int) := of_decide_eq_true (by assumption)
       obtain ⟨ad240, A240_0, c240_0, e240, hx240_0, hl240_0, hi240_0⟩ := at_L1 HR0_0.out x5_2 p240 q240
       cases e240
       replace hx240_0 := cl HB hx240_0
       have HR240_0 := am hi240_0
       have HC240_0 := am hl240_0
       clear hi240_0 hl240_0
       replace p240 := eq_true p240
       replace q240 := eq_true q240
       have := yC1 BK238
       have := kC1 BK238
       have := kC2 BK238
       have := kC3 BK238
       have := bf BK238.out 0
       have := bf BK238.out 1
       have := bf BK238.out 2
       have := bf BK238.out 3
       have p241 : 0 ≤ (x5_2 : Int) := of_decide_eq_true (by assumption)
       have q241 : x5_2 < (l1_0.length : Int) := of_decide_eq_true (by assumption)
       obtain ⟨ad241, A241_0, c241_0, e241, hx241_0, hl241_0, hi241_0⟩ := at_L1 HR1_0.out x5_2 p241 q241
       cases e241
       replace hx241_0 := cl HB hx241_0
       have HR241_0 := am hi241_0
       have HC241_0 := am hl241_0
       clear hi241_0 hl241_0
       replace p241 := eq_true p241
       replace q241 := eq_true q241
       go_wp2_with (first | (go_at_call 22; (with_reducible refine (r_SameInts.calls k2 _ _ (rd_L1 l0_0 x5_2) _ _ (rd_L1 l1_0 x5_2) false _ ?side1 ?side2 ?side3 ?side4 A26.out).mono ?_); (case side1 => repeat (first | exact (Kd.C_below HR240_0.out HB.out) | (with_reducible refine Kd.C_alloc ?_ _) | (with_reducible refine Kd.C_drewN ?_ _) | (with_reducible refine Kd.C_drew ?_))); (case side2 => exact HC240_0.out); (case side3 => repeat (first | exact (Kd.C_below HR241_0.out HB.out) | (with_reducible refine Kd.C_alloc ?_ _) | (with_reducible refine Kd.C_drewN ?_ _) | (with_reducible refine Kd.C_drew ?_))); (case side4 => exact HC241_0.out); rintro e w' ⟨rfl, ⟨nd, rfl⟩⟩; (try first | exact ⟨rfl, _, World.drewN_drewN _ _ _⟩ | exact ⟨rfl, _, Eq.trans (World.drewN_drewN _ _ _) (congrArg (World.drewN _) (Nat.add_assoc _ _ _))⟩)))
       repeat (go_quiet (first | (go_at_call 22; (with_reducible refine (r_SameInts.calls k2 _ _ (rd_L1 l0_0 x5_2) _ _ (rd_L1 l1_0 x5_2) false _ ?side1 ?side2 ?side3 ?side4 A26.out).mono ?_); (case side1 => repeat (first | exact (Kd.C_below HR240_0.out HB.out) | (with_reducible refine Kd.C_alloc ?_ _) | (with_reducible refine Kd.C_drewN ?_ _) | (with_reducible refine Kd.C_drew ?_))); (case side2 => exact HC240_0.out); (case side3 => repeat (first | exact (Kd.C_below HR241_0.out HB.out) | (with_reducible refine Kd.C_alloc ?_ _) | (with_reducible refine Kd.C_drewN ?_ _) | (with_reducible refine Kd.C_drew ?_))); (case side4 => exact HC241_0.out); rintro e w' ⟨rfl, ⟨nd, rfl⟩⟩; (try first | exact ⟨rfl, _, World.drewN_drewN _ _ _⟩ | exact ⟨rfl, _, Eq.trans (World.drewN_drewN _ _ _) (congrArg (World.drewN _) (Nat.add_assoc _ _ _))⟩))); try go_wp2_with (first | (go_at_call 22; (with_reducible refine (r_SameInts.calls k2 _ _ (rd_L1 l0_0 x5_2) _ _ (rd_L1 l1_0 x5_2) false _ ?side1 ?side2 ?side3 ?side4 A26.out).mono ?_); (case side1 => repeat (first | exact (Kd.C_below HR240_0.out HB.out) | (with_reducible refine Kd.C_alloc ?_ _) | (with_reducible refine Kd.C_drewN ?_ _) | (with_reducible refine Kd.C_drew ?_))); (case side2 => exact HC240_0.out); (case side3 => repeat (first | exact (Kd.C_below HR241_0.out HB.out) | (with_reducible refine Kd.C_alloc ?_ _) | (with_reducible refine Kd.C_drewN ?_ _) | (with_reducible refine Kd.C_drew ?_))); (case side4 => exact HC241_0.out); rintro e w' ⟨rfl, ⟨nd, rfl⟩⟩; (try first | exact ⟨rfl, _, World.drewN_drewN _ _ _⟩ | exact ⟨rfl, _, Eq.trans (World.drewN_drewN _ _ _) (congrArg (World.drewN _) (Nat.add_assoc _ _ _))⟩))))
       go_ret
       exact ⟨sqE, fW HB.out⟩
      ·rw [if_neg c23] at H
       have c23b0 : decide (x5_2 < (l0_0.length : Int)) = false := decide_eq_false c23
       clear c23
       have H' := am H
       clear H
       have hnb34 := NB237_238.out
       have hnc34 := NB238_237.out
       have := yC1 BK237
       have := kC1 BK237
       have := kC2 BK237
       have := kC3 BK237
       have := bf BK237.out 0
       have := bf BK237.out 1
       have := bf BK237.out 2
       have := bf BK237.out 3
       go_wp2
       repeat (go_quiet (fail); try go_wp2)
       go_loopg [6] k2 (fun kq v6 w' => ∃ (x6_3 : Int), v6 = .int .i64 x6_3 ∧ Aside0 (r_Same.l1 kq x6_3 l0_0 a0_1 l0_2 l0_3 l1_0 a1_1 l1_2 l1_3 = some r) ∧ Aside0 (kq ≤ k2) ∧ Aside0 (w'.heap[gb237]? = some (.cells #[(.slice A0_0 l0_0.length c0_0), .int .i64 a0_1, (.slice A0_2 l0_2.length c0_2), (.slice A0_3 l0_3.length c0_3)] 26 (0, 0))) ∧ Aside0 (w'.heap[gb238]? = some (.cells #[(.slice A1_0 l1_0.length c1_0), .int .i64 a1_1, (.slice A1_2 l1_2.length c1_2), (.slice A1_3 l1_3.length c1_3)] 26 (0, 0))) ∧ Aside0 (Below w.heap.size w w'))
       case atStart => exact ⟨(0), sqD, H', ⟨Nat.le_refl _⟩, ⟨fb BK237.out⟩, ⟨fb BK238.out⟩, ⟨fW HB.out⟩⟩
       case round =>
        clear H'
        try clear c1;try clear c2;try clear p2;try clear q2;try clear hx2;try clear c3;try clear c6;try clear c6b0;try clear c6b1;try clear c6b2;try clear p6;try clear c7;try clear c7b0;try clear c7b1;try clear c9;try clear c10;try clear c13;try clear c16;try clear c19;try clear c22;try clear c23;try clear c23b0;try clear c24;try clear c24b0;try clear p24;try clear q24;try clear hx24;try clear c25;try clear c25b0;try clear c26;try clear c27;try clear c28;try clear c31;try clear c34;try clear hx240_0;try clear hx241_0;try clear p2;try clear p240;try clear p241;try clear q240;try clear q241
        obtain ⟨x6_3, rfl, HA, HK3, BK237, BK238, HB⟩ := hrel
        cases gk with
        | zero => exact absurd HA.out (by simp [r_Same.l1])
        | succ k3 =>
         have H := HA.out
         clear HA
         simp only [r_Same.l1] at H
         by_cases c36 : x6_3 < (l0_3.length : Int)
         ·rw [if_pos c36] at H
          have c36b0 : decide (x6_3 < (l0_3.length : Int)) = true := decide_eq_true c36
          clear c36
          by_cases c37 : 0 ≤ x6_3
          rotate_left
          ·rw [if_neg c37] at H
           exact absurd H (by simp)
          rw [if_pos c37] at H
          have c37b0 : decide (0 ≤ x6_3) = true := decide_eq_true c37
          clear c37
          by_cases c38 : x6_3 < (l1_3.length : Int)
          rotate_left
          ·rw [if_neg c38] at H
           exact absurd H (by simp)
          rw [if_pos c38] at H
          have c38b0 : decide (x6_3 < (l1_3.length : Int)) = true := decide_eq_true c38
          clear c38
          by_cases c39 : ((rdOf false l0_3 x6_3) != (rdOf false l1_3 x6_3)) = true
          ·rw [if_pos c39] at H
           have c39b0 : ((rdOf false l0_3 x6_3) != (rdOf false l1_3 x6_3)) = true := c39
           (try (have c39b1 : decide ((rdOf false l0_3 x6_3) = (rdOf false l1_3 x6_3)) = false := by simpa using c39))
           (try (have c39b2 : ((rdOf false l0_3 x6_3) == (rdOf false l1_3 x6_3)) = false := by simpa using c39))
           (try (have c39b3 : ¬ ((rdOf false l0_3 x6_3) = (rdOf false l1_3 x6_3)) := by simpa using c39))
           clear c39
           obtain rfl := Option.some.inj H
           have hnb40 := NB237_238.out
           have hnc40 := NB238_237.out
           have := yC1 BK237
           have := kC1 BK237
           have := kC2 BK237
           have := kC3 BK237
           have := bf BK237.out 0
           have := bf BK237.out 1
           have := bf BK237.out 2
           have := bf BK237.out 3
           have p243 : 0 ≤ (x6_3 : Int) := of_decide_eq_true (by assumption)
           have q243 : x6_3 < (l0_3.length : Int) := of_decide_eq_true (by assumption)
           obtain ⟨ad243, e243, hx243_0⟩ := Kd.at_bool HR0_3.out x6_3 p243 q243
           cases e243
           replace hx243_0 := cl HB hx243_0
           replace p243 := eq_true p243
           replace q243 := eq_true q243
           have := yC1 BK238
           have := kC1 BK238
           have := kC2 BK238
           have := kC3 BK238
           have := bf BK238.out 0
           have := bf BK238.out 1
           have := bf BK238.out 2
           have := bf BK238.out 3
           have p244 : 0 ≤ (x6_3 : Int) := of_decide_eq_true (by assumption)
           have q244 : x6_3 < (l1_3.length : Int) := of_decide_eq_true (by assumption)
           obtain ⟨ad244, e244, hx244_0⟩ := Kd.at_bool HR1_3.out x6_3 p244 q244
           cases e244
           replace hx244_0 := cl HB hx244_0
           replace p244 := eq_true p244
           replace q244 := eq_true q244
           go_wp2
           repeat (go_quiet (fail); try go_wp2)
           go_ret
           exact ⟨sqE, fW HB.out⟩
          rw [if_neg c39] at H
          have c39b0 : ((rdOf false l0_3 x6_3) != (rdOf false l1_3 x6_3)) = false := by simpa using c39
          (try (have c39b1 : decide ((rdOf false l0_3 x6_3) = (rdOf false l1_3 x6_3)) = true := by simpa using c39))
          (try (have c39b2 : ((rdOf false l0_3 x6_3) == (rdOf false l1_3 x6_3)) = true := by simpa using c39))
          clear c39
          have H' := am H
          clear H
          have hnb43 := NB237_238.out
          have hnc43 := NB238_237.out
          have := yC1 BK237
          have := kC1 BK237
          have := kC2 BK237
          have := kC3 BK237
          have := bf BK237.out 0
          have := bf BK237.out 1
          have := bf BK237.out 2
          have := bf BK237.out 3
          have p243 : 0 ≤ (x6_3 : Int) := of_decide_eq_true (by assumption)
          have q243 : x6_3 < (l0_3.length : Int) := of_decide_eq_true (by assumption)
          obtain ⟨ad243, e243, hx243_0⟩ := Kd.at_bool HR0_3.out x6_3 p243 q243
          cases e243
          replace hx243_0 := cl HB hx243_0
          replace p243 := eq_true p243
          replace q243 := eq_true q243
          have := yC1 BK238
          have := kC1 BK238
          have := kC2 BK238
          have := kC3 BK238
          have := bf BK238.out 0
          have := bf BK238.out 1
          have := bf BK238.out 2
          have := bf BK238.out 3
          have p244 : 0 ≤ (x6_3 : Int) := of_decide_eq_true (by assumption)
          have q244 : x6_3 < (l1_3.length : Int) := of_decide_eq_true (by assumption)
          obtain ⟨ad244, e244, hx244_0⟩ := Kd.at_bool HR1_3.out x6_3 p244 q244
          cases e244
          replace hx244_0 := cl HB hx244_0
          replace p244 := eq_true p244
          replace q244 := eq_true q244
          go_wp2
          repeat (go_quiet (fail); try go_wp2)
          go_roundg k3
          case measure => have := HJ2.out; have := HK2.out; have := HK3.out; omega
          case rel => exact ⟨(wrap64 (x6_3 + 1)), sqD, H', ⟨by have := HJ2.out; have := HK2.out; have := HK3.out; omega⟩, ⟨fb BK237.out⟩, ⟨fb BK238.out⟩, ⟨fW HB.out⟩⟩
         ·rw [if_neg c36] at H
          have c36b0 : decide (x6_3 < (l0_3.length : Int)) = false := decide_eq_false c36
          clear c36
          obtain rfl := Option.some.inj H
          have hnb46 := NB237_238.out
          have hnc46 := NB238_237.out
          have := yC1 BK237
          have := kC1 BK237
          have := kC2 BK237
          have := kC3 BK237
          have := bf BK237.out 0
          have := bf BK237.out 1
          have := bf BK237.out 2
          have := bf BK237.out 3
          go_wp2
          repeat (go_quiet (fail); try go_wp2)
          go_ret
          exact ⟨sqE, fW HB.out⟩

def w_theirs.f (l0_0 : List (List Int)) (a0_1 : Int) (l0_2 : List Int) (l0_3 : List Bool) : Option ((List (List Int)) × Int × List Int × List Bool) := some (l0_0, a0_1, l0_2, l0_3)
set_option maxHeartbeats 8000000 in
set_option maxRecDepth 100000 in
theorem w_theirs.calls (P0_0_ : Nat → Prop) (A0_0 : Option Addr) (c0_0 : Nat) (l0_0 : List (List Int)) (a0_1 : Int) (P0_2_ : Nat → Prop) (A0_2 : Option Addr) (c0_2 : Nat) (l0_2 : List Int) (P0_3_ : Nat → Prop) (A0_3 : Option Addr) (c0_3 : Nat) (l0_3 : List Bool) (r1 : List (List Int)) (r2 : Int) (r3 : List Int) (r4 : List Bool) (w : World) (hs0_0 : Kd.V (Kd.slice 3 (Kd.int .i64)) 23 w w.heap.size (fun k_ => P0_0_ k_) (.slice A0_0 l0_0.length c0_0) l0_0) (hs0_2 : Kd.V (Kd.int .i64) 3 w w.heap.size (fun k_ => P0_2_ k_) (.slice A0_2 l0_2.length c0_2) l0_2) (hs0_3 : Kd.V Kd.bool 4 w w.heap.size (fun k_ => P0_3_ k_) (.slice A0_3 l0_3.length c0_3) l0_3) (h : w_theirs.f l0_0 a0_1 l0_2 l0_3 = some (r1, r2, r3, r4)) :
  Calls Try.prog 27 #[.agg #[.slice A0_0 l0_0.length c0_0, .int .i64 a0_1, .slice A0_2 l0_2.length c0_2, .slice A0_3 l0_3.length c0_3]] w fun e w' => ∃ v0_ v2_ v3_ : Value, e = .returned (.agg #[v0_, .int .i64 r2, v2_, v3_]) ∧ Kd.V (Kd.slice 3 (Kd.int .i64)) 23 w' w.heap.size (fun k_ => ((P0_0_ k_ ∨ P0_2_ k_ ∨ P0_3_ k_) ∨ w.heap.size ≤ k_)) v0_ r1 ∧ Kd.V (Kd.int .i64) 3 w' w.heap.size (fun k_ => ((P0_0_ k_ ∨ P0_2_ k_ ∨ P0_3_ k_) ∨ w.heap.size ≤ k_)) v2_ r3 ∧ Kd.V Kd.bool 4 w' w.heap.size (fun k_ => ((P0_0_ k_ ∨ P0_2_ k_ ∨ P0_3_ k_) ∨ w.heap.size ≤ k_)) v3_ r4 ∧ Below w.heap.size w w' := by
 have hu33 := Try.underlying33
 have hu26 := Try.underlying26
 have HO0_0 := am (show Kd.V (Kd.slice 3 (Kd.int .i64)) 23 w w.heap.size (fun k_ => ((P0_0_ k_ ∨ P0_2_ k_ ∨ P0_3_ k_) ∨ w.heap.size ≤ k_)) (.slice A0_0 l0_0.length c0_0) l0_0 from Kd.V_mono hs0_0 (fun k_ hk => .inl (.inl hk)))
 have HO0_2 := am (show Kd.V (Kd.int .i64) 3 w w.heap.size (fun k_ => ((P0_0_ k_ ∨ P0_2_ k_ ∨ P0_3_ k_) ∨ w.heap.size ≤ k_)) (.slice A0_2 l0_2.length c0_2) l0_2 from Kd.V_mono hs0_2 (fun k_ hk => .inl (.inr (.inl hk))))
 have HO0_3 := am (show Kd.V Kd.bool 4 w w.heap.size (fun k_ => ((P0_0_ k_ ∨ P0_2_ k_ ∨ P0_3_ k_) ∨ w.heap.size ≤ k_)) (.slice A0_3 l0_3.length c0_3) l0_3 from Kd.V_mono hs0_3 (fun k_ hk => .inl (.inr (.inr hk))))
 have HB := am (Below.refl w.heap.size w)
 have H : (some (l0_0, a0_1, l0_2, l0_3)) = some (r1, r2, r3, r4) := h
 clear h
 simp only [Option.some.injEq, Prod.mk.injEq] at H
 obtain ⟨rfl, rfl, rfl, rfl⟩ := H
 go_enter Try.func27, Try.ntmps27
 go_wp2_with (first | ((with_reducible refine gate_dst (N := 1) rfl ?_); refine box_event ?hg (N := 1) ?hd (cs := #[.slice A0_0 l0_0.length c0_0, .int .i64 a0_1, .slice A0_2 l0_2.length c0_2, .slice A0_3 l0_3.length c0_3]) (t := 33) ?hr ?_; (case hd | hg => rfl); (case hr => first | (go_simp; done) | (go_simp; rfl)); intro gb245 hg w2 hbox hb; replace HO0_0 := eV HO0_0 hg hb; replace HO0_2 := eV HO0_2 hg hb; replace HO0_3 := eV HO0_3 hg hb; have BK245 := am hbox; have GW245 := sG HB hg; have GE245 := sG HB hg; replace HB := bS HB hb; clear hb hbox hg) | ((with_reducible refine gate_dst (N := 2) rfl ?_); refine box_event ?hg (N := 2) ?hd (cs := #[.slice none 0 0, .int .i64 0, .slice none 0 0, .slice none 0 0]) (t := 26) ?hr ?_; (case hd | hg => rfl); (case hr => first | (go_simp; done) | (go_simp; rfl)); intro gb246 hg w3 hbox hb; replace HO0_0 := eV HO0_0 hg hb; replace HO0_2 := eV HO0_2 hg hb; replace HO0_3 := eV HO0_3 hg hb; have BK246 := am hbox; have GW246 := sG HB hg; have GE246 := sG HB hg; replace HB := bS HB hb; have NB245_246 := nL BK245 hg; have NB246_245 := nG BK245 hg; replace BK245 := bB BK245 hb; clear hb hbox hg; have hnb4 := NB245_246.out; have hnc4 := NB246_245.out; obtain ⟨_, _, _, _, _, _, _, _⟩ := zC4 BK245; obtain ⟨_, _, _, _, _, _, _, _⟩ := zC4 BK246))
 refine bodyPost_ret (results_cell_row rfl _ _ gb246 26 #[.slice A0_0 l0_0.length c0_0, .int .i64 a0_1, .slice A0_2 l0_2.length c0_2, .slice A0_3 l0_3.length c0_3] (0, 0) _ rfl (kkC BK246.out) Try.underlying26 rfl (by kernel_rfl)) rfl ?_
 exact ⟨_, _, _, sqE, by (with_reducible repeat (first | apply Kd.V_alloc | apply Kd.V_drewN | apply Kd.V_drew)); exact Kd.V_mono (Kd.V_far (p := ⟨gb246, 3, none⟩) (Kd.V_far (p := ⟨gb246, 2, none⟩) (Kd.V_far (p := ⟨gb246, 1, none⟩) (Kd.V_far (p := ⟨gb246, 0, none⟩) (Kd.V_mono HO0_0.out (fun k_ hk => (⟨hk, hk.2⟩ : _ ∧ k_ ≠ gb246))) (fun _ hk => hk.2) (.slice A0_0 l0_0.length c0_0)) (fun _ hk => hk.2) (.int .i64 a0_1)) (fun _ hk => hk.2) (.slice A0_2 l0_2.length c0_2)) (fun _ hk => hk.2) (.slice A0_3 l0_3.length c0_3)) (fun _ hk => hk.1.1.1), by (with_reducible repeat (first | apply Kd.V_alloc | apply Kd.V_drewN | apply Kd.V_drew)); exact Kd.V_mono (Kd.V_far (p := ⟨gb246, 3, none⟩) (Kd.V_far (p := ⟨gb246, 2, none⟩) (Kd.V_far (p := ⟨gb246, 1, none⟩) (Kd.V_far (p := ⟨gb246, 0, none⟩) (Kd.V_mono HO0_2.out (fun k_ hk => (⟨hk, hk.2⟩ : _ ∧ k_ ≠ gb246))) (fun _ hk => hk.2) (.slice A0_0 l0_0.length c0_0)) (fun _ hk => hk.2) (.int .i64 a0_1)) (fun _ hk => hk.2) (.slice A0_2 l0_2.length c0_2)) (fun _ hk => hk.2) (.slice A0_3 l0_3.length c0_3)) (fun _ hk => hk.1.1.1), by (with_reducible repeat (first | apply Kd.V_alloc | apply Kd.V_drewN | apply Kd.V_drew)); exact Kd.V_mono (Kd.V_far (p := ⟨gb246, 3, none⟩) (Kd.V_far (p := ⟨gb246, 2, none⟩) (Kd.V_far (p := ⟨gb246, 1, none⟩) (Kd.V_far (p := ⟨gb246, 0, none⟩) (Kd.V_mono HO0_3.out (fun k_ hk => (⟨hk, hk.2⟩ : _ ∧ k_ ≠ gb246))) (fun _ hk => hk.2) (.slice A0_0 l0_0.length c0_0)) (fun _ hk => hk.2) (.int .i64 a0_1)) (fun _ hk => hk.2) (.slice A0_2 l0_2.length c0_2)) (fun _ hk => hk.2) (.slice A0_3 l0_3.length c0_3)) (fun _ hk => hk.1.1.1), fW HB.out⟩

end Go.Proofs.Ytkeomlmlimkebaa.QA
