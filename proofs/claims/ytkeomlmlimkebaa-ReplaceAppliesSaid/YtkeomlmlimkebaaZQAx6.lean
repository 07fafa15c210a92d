import Derived.Test.YtkeomlmlimkebaaZQAx0
import Derived.Test.YtkeomlmlimkebaaZQAx5
namespace Go.Proofs.Ytkeomlmlimkebaa.QA
open Go.RowKit Go.Proofs.YtkeomlmlimkebaaW.PrintWords Go.Proofs.YtkeomlmlimkebaaW.PrintLast Go.Proofs.YtkeomlmlimkebaaW.PrintMore
open Go.Proofs.YtkeomlmlimkebaaW.PrintWords renaming blk_drewN → bN, blk_drew → bd, blk_alloc → ba, blk_frozen → bf, blk_cell → bc, cell_far → cf
open Aside0 renaming mk → am
attribute [local go_sem] max2_int min2_int max_two min_two max_three min_three max_four min_four
set_option linter.unusedVariables false
set_option linter.unusedSimpArgs false

def replace_clone.l0 : Nat → List (List Int) → Int → Int → List (List Int) → Int → List Int → List Bool → Option ((List (List Int)) × Int × List Int × List Bool)
 | 0, _, _, _, _, _, _, _ => none
 | k + 1, x16, x17, x18, x133000, x133001, x133002, x133003 => if x18 < x17 then (if 0 ≤ x18 then (if x18 < (x16.length : Int) then ((slices_Clone_int_int.f (rd_L1 x16 x18)).bind fun t134 => (if x133000.length < 5864062014805 then (replace_clone.l0 k x16 x17 (wrap64 (x18 + 1)) (x133000 ++ [t134]) x133001 x133002 x133003) else (none))) else (none)) else (none)) else (some (x133000, x133001, x133002, x133003))
def replace_clone.f (k : Nat) (l0_0 : List (List Int)) (a0_1 : Int) (l0_2 : List Int) (l0_3 : List Bool) : Option ((List (List Int)) × Int × List Int × List Bool) := (slices_Clone_int_int.f l0_2).bind fun t126 => ((slices_Clone_bool_bool.f l0_3).bind fun t129 => (replace_clone.l0 k l0_0 (l0_0.length : Int) 0 ([] : List (List Int)) a0_1 t126 t129))
def replace_clone.T1 : Bool × List (List Nat × List Nat) := (true, [([], []), ([0], [0]), ([], []), ([2], [2]), ([3], [3]), ([], []), ([5], [5]), ([6, 4], [6]), ([1, 4, 7], [1, 4, 7]), ([], []), ([9, 8, 7, 0, 1, 2, 3, 4, 5, 6, 7, 8, 9], [8, 9])])
def replace_clone.B1 : List Nat := [0, 1, 0, 4, 12, 0, 32, 124, 255, 0, 1023]
theorem replace_clone.tab1 : rtab .any (opsOf Try.f48 1) = replace_clone.T1 := by kernel_rfl
theorem replace_clone.bits1 : waitsOk replace_clone.T1.2 replace_clone.B1 = true := by kernel_rfl
def replace_clone.T5 : Bool × List (List Nat × List Nat) := (true, [([], []), ([0], [0]), ([], []), ([2], [2]), ([3], [3]), ([1, 4, 3], [1, 4]), ([0, 1, 2, 3, 4, 5], []), ([6, 5, 5, 0, 1, 2, 3, 4, 5], [5, 6])])
def replace_clone.B5 : List Nat := [0, 1, 0, 4, 12, 31, 63, 127]
theorem replace_clone.tab5 : rtab .any (opsOf Try.f48 5) = replace_clone.T5 := by kernel_rfl
theorem replace_clone.bits5 : waitsOk replace_clone.T5.2 replace_clone.B5 = true := by kernel_rfl
set_option maxHeartbeats 8000000 in
set_option maxRecDepth 100000 in
theorem replace_clone.calls (k : Nat) (A0_0 : Option Addr) (c0_0 : Nat) (l0_0 : List (List Int)) (a0_1 : Int) (A0_2 : Option Addr) (c0_2 : Nat) (l0_2 : List Int) (A0_3 : Option Addr) (c0_3 : Nat) (l0_3 : List Bool) (r1 : List (List Int)) (r2 : Int) (r3 : List Int) (r4 : List Bool) (w : World) (hr0_0 : Kd.C (Kd.slice 3 (Kd.int .i64)) w A0_0 l0_0.length l0_0) (hc0_0 : l0_0.length ≤ c0_0) (hr0_2 : Kd.C (Kd.int .i64) w A0_2 l0_2.length l0_2) (hc0_2 : l0_2.length ≤ c0_2) (hr0_3 : Kd.C Kd.bool w A0_3 l0_3.length l0_3) (hc0_3 : l0_3.length ≤ c0_3) (h : replace_clone.f k l0_0 a0_1 l0_2 l0_3 = some (r1, r2, r3, r4)) :
  Calls Try.prog 48 #[.agg #[.slice A0_0 l0_0.length c0_0, .int .i64 a0_1, .slice A0_2 l0_2.length c0_2, .slice A0_3 l0_3.length c0_3]] w fun e w' => ∃ v0_ v2_ v3_ : Value, e = .returned (.agg #[v0_, .int .i64 r2, v2_, v3_]) ∧ Kd.S (Kd.slice 3 (Kd.int .i64)) 23 w' w.heap.size (fun k_ => some k_ ≠ (v2_ : Value).ownBlock) v0_ r1 ∧ Kd.R (Kd.int .i64) 3 w' w.heap.size (fun _ => True) v2_ r3 ∧ Kd.R Kd.bool 4 w' w.heap.size (fun _ => True) v3_ r4 ∧ Below w.heap.size w w' := by
 have hu33 := Try.underlying33
 have HR0_0 := am hr0_0
 have HC0_0 := am hc0_0
 clear hr0_0 hc0_0
 have HR0_2 := am hr0_2
 have HC0_2 := am hc0_2
 clear hr0_2 hc0_2
 have HR0_3 := am hr0_3
 have HC0_3 := am hc0_3
 clear hr0_3 hc0_3
 have HB := am (Below.refl w.heap.size w)
 have H : ((slices_Clone_int_int.f l0_2).bind fun t126 => ((slices_Clone_bool_bool.f l0_3).bind fun t129 => (replace_clone.l0 k l0_0 (l0_0.length : Int) 0 ([] : List (List Int)) a0_1 t126 t129))) = some (r1, r2, r3, r4) := h
 clear h
 replace H := Option.bind_eq_some_iff.mp H
 obtain ⟨t126, A20, H⟩ := H
 replace H : ((slices_Clone_bool_bool.f l0_3).bind fun t129 => (replace_clone.l0 k l0_0 (l0_0.length : Int) 0 ([] : List (List Int)) a0_1 t126 t129)) = some (r1, r2, r3, r4) := H
 have A2 := am A20
 clear A20
 replace H := Option.bind_eq_some_iff.mp H
 obtain ⟨t129, A30, H⟩ := H
 replace H : (replace_clone.l0 k l0_0 (l0_0.length : Int) 0 ([] : List (List Int)) a0_1 t126 t129) = some (r1, r2, r3, r4) := H
 have A3 := am A30
 clear A30
 have H' := am H
 clear H
 go_enter Try.func48, Try.ntmps48
 try go_wp2_with (first | ((with_reducible refine gate_dst (N := 1) rfl ?_); refine box_event ?hg (N := 1) ?hd (cs := #[.slice A0_0 l0_0.length c0_0, .int .i64 a0_1, .slice A0_2 l0_2.length c0_2, .slice A0_3 l0_3.length c0_3]) (t := 33) ?hr ?_; (case hd | hg => rfl); (case hr => first | (go_simp; done) | (go_simp; rfl)); intro gb124 hg w4 hbox hb; have BK124 := am hbox; have GW124 := sG HB hg; have GE124 := sG HB hg; replace HB := bS HB hb; clear hb hbox hg) | ((with_reducible refine gate_dst (N := 2) rfl ?_); refine box_event ?hg (N := 2) ?hd (cs := #[.slice none 0 0, .int .i64 0, .slice none 0 0, .slice none 0 0]) (t := 33) ?hr ?_; (case hd | hg => rfl); (case hr => first | (go_simp; done) | (go_simp; rfl)); intro gb125 hg w5 hbox hb; have BK125 := am hbox; have GW125 := sG HB hg; have GE125 := sG HB hg; replace HB := bS HB hb; have NB124_125 := nL BK124 hg; have NB125_124 := nG BK124 hg; replace BK124 := bB BK124 hb; clear hb hbox hg))
 have n0_ := am (bd BK124.out)
 have n1_ := am (bd BK125.out)
 have n2_ := am (below_drew1 HB.out)
 clear BK124 BK125 HB
 have BK124 := n0_
 have BK125 := n1_
 have HB := n2_
 clear n0_ n1_ n2_
 refine start_ (n := 11) (S := fun w' => w'.cell? ⟨gb124, 0, none⟩ = some (.slice A0_0 l0_0.length c0_0) ∧ w'.cell? ⟨gb124, 1, none⟩ = some (.int .i64 a0_1) ∧ w'.cell? ⟨gb124, 2, none⟩ = some (.slice A0_2 l0_2.length c0_2) ∧ w'.cell? ⟨gb124, 3, none⟩ = some (.slice A0_3 l0_3.length c0_3)) (ds := []) #[F,F,F,F,F,F,F,F,F,F,F] (by kernel_rfl) rfl rfl ⟨(bc BK124.out 0).trans rfl, (bc BK124.out 1).trans rfl, (bc BK124.out 2).trans rfl, (bc BK124.out 3).trans rfl⟩ (fun hHeld => ?_); refine with_tabW replace_clone.tab1 replace_clone.bits1 (fun HT_ HW_ => ?_)
 generalize w5.drew = w6 at BK124 BK125 HB hHeld ⊢
 refine pu (i := 0) (N := some 6) (fl 11 1 []) HT_ ?_
 refine pu (i := 2) (N := some 8) (fl 11 1 [2]) HT_ ?_
 refine pu (i := 5) (N := some 11) (fl 11 1 [2, 5]) HT_ ?_
 refine tk (i := 1) (N := some 7) (fl 11 3 [5]) HT_ HW_ hHeld ?_
 refine tk (i := 3) (N := some 9) (fl 11 4 [5]) HT_ HW_ hHeld ?_
 refine tk (i := 6) (N := some 12) (fl 11 4 [5, 6]) HT_ HW_ hHeld ?_
 refine join_ (σ := Value × Value × Nat) 1 #[T,T,T,T,T,T,T,T,T,T,F] (fun s_ => [(10, s_.1), (13, s_.2.1), (3, .pointer (some ⟨s_.2.2, 0, none⟩)), (14, .agg #[.slice none 0 0, .int .i64 a0_1, s_.1, s_.2.1])]) (fun s_ w' => (w'.cell? ⟨gb124, 0, none⟩ = some (.slice A0_0 l0_0.length c0_0) ∧ w'.cell? ⟨gb124, 1, none⟩ = some (.int .i64 a0_1) ∧ w'.cell? ⟨gb124, 2, none⟩ = some (.slice A0_2 l0_2.length c0_2) ∧ w'.cell? ⟨gb124, 3, none⟩ = some (.slice A0_3 l0_3.length c0_3)) ∧ (Kd.R (Kd.int .i64) 3 w' w.heap.size (fun _ => True) s_.1 t126) ∧ (Kd.R Kd.bool 4 w' w.heap.size (fun _ => True) s_.2.1 t129) ∧ (w'.heap[gb124]? = some (.cells #[.slice A0_0 l0_0.length c0_0, .int .i64 a0_1, .slice A0_2 l0_2.length c0_2, .slice A0_3 l0_3.length c0_3] 33 (0, 0))) ∧ (w'.heap[gb125]? = some (.cells #[.slice none 0 0, .int .i64 0, .slice none 0 0, .slice none 0 0] 33 (0, 0))) ∧ (w'.heap[s_.2.2]? = some (.cells #[.slice none 0 0, .int .i64 0, .slice none 0 0, .slice none 0 0] 33 (0, 0))) ∧ (w.heap.size ≤ s_.2.2) ∧ (w.heap.size ≤ s_.2.2) ∧ (gb124 ≠ s_.2.2) ∧ (s_.2.2 ≠ gb124) ∧ (gb125 ≠ s_.2.2) ∧ (s_.2.2 ≠ gb125) ∧ (Below w.heap.size w w')) ?_ ?_
 rotate_left
 ·intro hCont
  refine two_ (i := 4) (j := 9) (Ni := some 10) (Nj := some 3) #[T,T,T,T,T,T,T,F,F,F,F] (fl 11 4 [5, 6, 9]) rfl rfl rfl rfl (two_of HT_.out (by kernel_rfl)) (by decide) (by decide) (fun K hK => ?_) (fun K hK => ?_)
  ·skip
   refine goes_ Try.func51 (by kernel_rfl) rfl #[.slice A0_2 l0_2.length c0_2] (by rfl) rfl rfl (by (try simp only [pml]); first | done | rfl | (simp only [pdt]; rfl)) ?_
   with_reducible refine (slices_Clone_int_int.calls _ _ l0_2 t126 _ ?side1 ?side2 A2.out).mono ?_
   (case side1 => repeat (first | exact (Kd.C_below HR0_2.out HB.out) | (with_reducible refine Kd.C_alloc ?_ _) | (with_reducible refine Kd.C_drewN ?_ _) | (with_reducible refine Kd.C_drew ?_)))
   (case side2 => exact HC0_2.out)
   rintro e w7 ⟨v127, rfl, ho0, hb⟩
   refine ⟨_, rfl, ?_⟩
   have n0_ := am (Kd.R_lower ho0 (below_size (fW HB.out)))
   have n1_ := bB BK124 hb
   have n2_ := bB BK125 hb
   have n3_ := bS HB hb
   clear BK124 BK125 HB
   have HO128 := n0_
   have BK124 := n1_
   have BK125 := n2_
   have HB := n3_
   clear n0_ n1_ n2_ n3_
   (try clear hb)
   (try clear hb2)
   (try clear hk)
   (try clear hi)
   (try clear ho0)
   refine hK.out _ _ ⟨(bc BK124.out 0).trans rfl, (bc BK124.out 1).trans rfl, (bc BK124.out 2).trans rfl, (bc BK124.out 3).trans rfl⟩ (fun hHeld => ?_)
   clear hK K
   refine norm_ (a' := ?_) ?_ ?_
   rotate_left
   ·show Act.put _ (some 10) _ = _
    simp only [Act.put, psl, i64_w, i32_w]
    rfl
   refine two_ (i := 7) (j := 9) (Ni := some 13) (Nj := some 3) #[T,T,T,T,T,T,T,T,F,F,F] (fl 11 7 [9]) rfl rfl rfl rfl (two_of HT_.out (by kernel_rfl)) (by decide) (by decide) (fun K hK => ?_) (fun K hK => ?_)
   ·skip
    refine goes_ Try.func58 (by kernel_rfl) rfl #[.slice A0_3 l0_3.length c0_3] (by rfl) rfl rfl (by (try simp only [pml]); first | done | rfl | (simp only [pdt]; rfl)) ?_
    with_reducible refine (slices_Clone_bool_bool.calls _ _ l0_3 t129 _ ?side1 ?side2 A3.out).mono ?_
    (case side1 => repeat (first | exact (Kd.C_below HR0_3.out HB.out) | (with_reducible refine Kd.C_alloc ?_ _) | (with_reducible refine Kd.C_drewN ?_ _) | (with_reducible refine Kd.C_drew ?_)))
    (case side2 => exact HC0_3.out)
    rintro e w8 ⟨v130, rfl, ho0, hb⟩
    refine ⟨_, rfl, ?_⟩
    have n0_ := dR HO128 hb
    have n1_ := am (Kd.R_lower ho0 (below_size (fW HB.out)))
    have n2_ := bB BK124 hb
    have n3_ := bB BK125 hb
    have n4_ := bS HB hb
    clear HO128 BK124 BK125 HB
    have HO128 := n0_
    have HO131 := n1_
    have BK124 := n2_
    have BK125 := n3_
    have HB := n4_
    clear n0_ n1_ n2_ n3_ n4_
    (try clear hb)
    (try clear hb2)
    (try clear hk)
    (try clear hi)
    (try clear ho0)
    obtain ⟨Ao9, co9, eo9⟩ := Kd.R_slice HO131.out
    (first | subst eo9 | (injection eo9 with f1_ f2_ f3_; have f4_ := f1_.symm; have f5_ := f3_.symm; clear f1_ f2_ f3_; subst f4_; subst f5_))
    obtain ⟨Ao10, co10, eo10⟩ := Kd.R_slice HO128.out
    (first | subst eo10 | (injection eo10 with f1_ f2_ f3_; have f4_ := f1_.symm; have f5_ := f3_.symm; clear f1_ f2_ f3_; subst f4_; subst f5_))
    refine hK.out _ _ ⟨(bc BK124.out 0).trans rfl, (bc BK124.out 1).trans rfl, (bc BK124.out 2).trans rfl, (bc BK124.out 3).trans rfl⟩ (fun hHeld => ?_)
    clear hK K
    refine norm_ (a' := ?_) ?_ ?_
    rotate_left
    ·show Act.put _ (some 13) _ = _
     simp only [Act.put, psl, i64_w, i32_w]
     rfl
    refine pu (i := 8) (N := some 14) (fl 11 9 []) HT_ ?_
    refine one_ (i := 9) (N := some 3) (fl 11 10 []) rfl rfl (one_of HT_.out (by kernel_rfl)) (by decide) (fun K hK => ?_)
    refine box_step ?hg (N := 3) ?hd (cs := #[.slice none 0 0, .int .i64 0, .slice none 0 0, .slice none 0 0]) (t := 33) ?hr ?_; (case hd | hg => rfl); (case hr => first | (go_simp; done) | (go_simp; rfl))
    intro gb132 hg w11 hbox hb
    have n0_ := dR HO128 hb
    have n1_ := dR HO131 hb
    have n2_ := bB BK124 hb
    have n3_ := bB BK125 hb
    have n4_ := bS HB hb
    have n5_ := am hbox
    have n6_ := sG HB hg
    have n7_ := sG HB hg
    have n8_ := nL BK124 hg
    have n9_ := nG BK124 hg
    have n10_ := nL BK125 hg
    have n11_ := nG BK125 hg
    clear HO128 HO131 BK124 BK125 HB
    have HO128 := n0_
    have HO131 := n1_
    have BK124 := n2_
    have BK125 := n3_
    have HB := n4_
    have BK132 := n5_
    have GW132 := n6_
    have GE132 := n7_
    have NB124_132 := n8_
    have NB132_124 := n9_
    have NB125_132 := n10_
    have NB132_125 := n11_
    clear n0_ n1_ n2_ n3_ n4_ n5_ n6_ n7_ n8_ n9_ n10_ n11_ hb hbox hg
    refine hK.out _ _ ⟨(bc BK124.out 0).trans rfl, (bc BK124.out 1).trans rfl, (bc BK124.out 2).trans rfl, (bc BK124.out 3).trans rfl⟩ (fun hHeld => ?_)
    clear hK K
    refine norm_ (a' := ?_) ?_ ?_
    rotate_left
    ·show Act.put _ (some 3) _ = _
     simp only [Act.put, psl, i64_w, i32_w]
     rfl
    exact norm_ (by simp only [putAll, Act.put, psl]) (hCont (.slice Ao10 t126.length co10, .slice Ao9 t129.length co9, gb132) _ ⟨hHeld, (fR HO128.out), (fR HO131.out), (fb BK124.out), (fb BK125.out), (fb BK132.out), GW132.out, GE132.out, NB124_132.out, NB132_124.out, NB125_132.out, NB132_125.out, (fW HB.out)⟩)
   skip
   refine box_step ?hg (N := 3) ?hd (cs := #[.slice none 0 0, .int .i64 0, .slice none 0 0, .slice none 0 0]) (t := 33) ?hr ?_; (case hd | hg => rfl); (case hr => first | (go_simp; done) | (go_simp; rfl))
   intro gb132 hg w8 hbox hb
   have n0_ := dR HO128 hb
   have n1_ := bB BK124 hb
   have n2_ := bB BK125 hb
   have n3_ := bS HB hb
   have n4_ := am hbox
   have n5_ := sG HB hg
   have n6_ := sG HB hg
   have n7_ := nL BK124 hg
   have n8_ := nG BK124 hg
   have n9_ := nL BK125 hg
   have n10_ := nG BK125 hg
   clear HO128 BK124 BK125 HB
   have HO128 := n0_
   have BK124 := n1_
   have BK125 := n2_
   have HB := n3_
   have BK132 := n4_
   have GW132 := n5_
   have GE132 := n6_
   have NB124_132 := n7_
   have NB132_124 := n8_
   have NB125_132 := n9_
   have NB132_125 := n10_
   clear n0_ n1_ n2_ n3_ n4_ n5_ n6_ n7_ n8_ n9_ n10_ hb hbox hg
   refine hK.out _ _ ⟨(bc BK124.out 0).trans rfl, (bc BK124.out 1).trans rfl, (bc BK124.out 2).trans rfl, (bc BK124.out 3).trans rfl⟩ (fun hHeld => ?_)
   clear hK K
   refine norm_ (a' := ?_) ?_ ?_
   rotate_left
   ·show Act.put _ (some 3) _ = _
    simp only [Act.put, psl, i64_w, i32_w]
    rfl
   refine one_ (i := 7) (N := some 13) (fl 11 8 [9]) rfl rfl (one_of HT_.out (by kernel_rfl)) (by decide) (fun K hK => ?_)
   refine goes_ Try.func58 (by kernel_rfl) rfl #[.slice A0_3 l0_3.length c0_3] (by rfl) rfl rfl (by (try simp only [pml]); first | done | rfl | (simp only [pdt]; rfl)) ?_
   with_reducible refine (slices_Clone_bool_bool.calls _ _ l0_3 t129 _ ?side1 ?side2 A3.out).mono ?_
   (case side1 => repeat (first | exact (Kd.C_below HR0_3.out HB.out) | (with_reducible refine Kd.C_alloc ?_ _) | (with_reducible refine Kd.C_drewN ?_ _) | (with_reducible refine Kd.C_drew ?_)))
   (case side2 => exact HC0_3.out)
   rintro e w9 ⟨v130, rfl, ho0, hb⟩
   refine ⟨_, rfl, ?_⟩
   have n0_ := dR HO128 hb
   have n1_ := am (Kd.R_lower ho0 (below_size (fW HB.out)))
   have n2_ := bB BK124 hb
   have n3_ := bB BK125 hb
   have n4_ := bB BK132 hb
   have n5_ := bS HB hb
   clear HO128 BK124 BK125 BK132 HB
   have HO128 := n0_
   have HO131 := n1_
   have BK124 := n2_
   have BK125 := n3_
   have BK132 := n4_
   have HB := n5_
   clear n0_ n1_ n2_ n3_ n4_ n5_
   (try clear hb)
   (try clear hb2)
   (try clear hk)
   (try clear hi)
   (try clear ho0)
   obtain ⟨Ao10, co10, eo10⟩ := Kd.R_slice HO131.out
   (first | subst eo10 | (injection eo10 with f1_ f2_ f3_; have f4_ := f1_.symm; have f5_ := f3_.symm; clear f1_ f2_ f3_; subst f4_; subst f5_))
   obtain ⟨Ao11, co11, eo11⟩ := Kd.R_slice HO128.out
   (first | subst eo11 | (injection eo11 with f1_ f2_ f3_; have f4_ := f1_.symm; have f5_ := f3_.symm; clear f1_ f2_ f3_; subst f4_; subst f5_))
   refine hK.out _ _ ⟨(bc BK124.out 0).trans rfl, (bc BK124.out 1).trans rfl, (bc BK124.out 2).trans rfl, (bc BK124.out 3).trans rfl⟩ (fun hHeld => ?_)
   clear hK K
   refine norm_ (a' := ?_) ?_ ?_
   rotate_left
   ·show Act.put _ (some 13) _ = _
    simp only [Act.put, psl, i64_w, i32_w]
    rfl
   refine pu (i := 8) (N := some 14) (fl 11 10 []) HT_ ?_
   exact norm_ (by simp only [putAll, Act.put, psl]) (hCont (.slice Ao11 t126.length co11, .slice Ao10 t129.length co10, gb132) _ ⟨hHeld, (fR HO128.out), (fR HO131.out), (fb BK124.out), (fb BK125.out), (fb BK132.out), GW132.out, GE132.out, NB124_132.out, NB132_124.out, NB125_132.out, NB132_125.out, (fW HB.out)⟩)
  skip
  refine box_step ?hg (N := 3) ?hd (cs := #[.slice none 0 0, .int .i64 0, .slice none 0 0, .slice none 0 0]) (t := 33) ?hr ?_; (case hd | hg => rfl); (case hr => first | (go_simp; done) | (go_simp; rfl))
  intro gb132 hg w7 hbox hb
  have n0_ := bB BK124 hb
  have n1_ := bB BK125 hb
  have n2_ := bS HB hb
  have n3_ := am hbox
  have n4_ := sG HB hg
  have n5_ := sG HB hg
  have n6_ := nL BK124 hg
  have n7_ := nG BK124 hg
  have n8_ := nL BK125 hg
  have n9_ := nG BK125 hg
  clear BK124 BK125 HB
  have BK124 := n0_
  have BK125 := n1_
  have HB := n2_
  have BK132 := n3_
  have GW132 := n4_
  have GE132 := n5_
  have NB124_132 := n6_
  have NB132_124 := n7_
  have NB125_132 := n8_
  have NB132_125 := n9_
  clear n0_ n1_ n2_ n3_ n4_ n5_ n6_ n7_ n8_ n9_ hb hbox hg
  refine hK.out _ _ ⟨(bc BK124.out 0).trans rfl, (bc BK124.out 1).trans rfl, (bc BK124.out 2).trans rfl, (bc BK124.out 3).trans rfl⟩ (fun hHeld => ?_)
  clear hK K
  refine norm_ (a' := ?_) ?_ ?_
  rotate_left
  ·show Act.put _ (some 3) _ = _
   simp only [Act.put, psl, i64_w, i32_w]
   rfl
  refine one_ (i := 4) (N := some 10) (fl 11 7 [9]) rfl rfl (one_of HT_.out (by kernel_rfl)) (by decide) (fun K hK => ?_)
  refine goes_ Try.func51 (by kernel_rfl) rfl #[.slice A0_2 l0_2.length c0_2] (by rfl) rfl rfl (by (try simp only [pml]); first | done | rfl | (simp only [pdt]; rfl)) ?_
  with_reducible refine (slices_Clone_int_int.calls _ _ l0_2 t126 _ ?side1 ?side2 A2.out).mono ?_
  (case side1 => repeat (first | exact (Kd.C_below HR0_2.out HB.out) | (with_reducible refine Kd.C_alloc ?_ _) | (with_reducible refine Kd.C_drewN ?_ _) | (with_reducible refine Kd.C_drew ?_)))
  (case side2 => exact HC0_2.out)
  rintro e w8 ⟨v127, rfl, ho0, hb⟩
  refine ⟨_, rfl, ?_⟩
  have n0_ := am (Kd.R_lower ho0 (below_size (fW HB.out)))
  have n1_ := bB BK124 hb
  have n2_ := bB BK125 hb
  have n3_ := bB BK132 hb
  have n4_ := bS HB hb
  clear BK124 BK125 BK132 HB
  have HO128 := n0_
  have BK124 := n1_
  have BK125 := n2_
  have BK132 := n3_
  have HB := n4_
  clear n0_ n1_ n2_ n3_ n4_
  (try clear hb)
  (try clear hb2)
  (try clear hk)
  (try clear hi)
  (try clear ho0)
  refine hK.out _ _ ⟨(bc BK124.out 0).trans rfl, (bc BK124.out 1).trans rfl, (bc BK124.out 2).trans rfl, (bc BK124.out 3).trans rfl⟩ (fun hHeld => ?_)
  clear hK K
  refine norm_ (a' := ?_) ?_ ?_
  rotate_left
  ·show Act.put _ (some 10) _ = _
   simp only [Act.put, psl, i64_w, i32_w]
   rfl
  refine one_ (i := 7) (N := some 13) (fl 11 8 [9]) rfl rfl (one_of HT_.out (by kernel_rfl)) (by decide) (fun K hK => ?_)
  refine goes_ Try.func58 (by kernel_rfl) rfl #[.slice A0_3 l0_3.length c0_3] (by rfl) rfl rfl (by (try simp only [pml]); first | done | rfl | (simp only [pdt]; rfl)) ?_
  with_reducible refine (slices_Clone_bool_bool.calls _ _ l0_3 t129 _ ?side1 ?side2 A3.out).mono ?_
  (case side1 => repeat (first | exact (Kd.C_below HR0_3.out HB.out) | (with_reducible refine Kd.C_alloc ?_ _) | (with_reducible refine Kd.C_drewN ?_ _) | (with_reducible refine Kd.C_drew ?_)))
  (case side2 => exact HC0_3.out)
  rintro e w9 ⟨v130, rfl, ho0, hb⟩
  refine ⟨_, rfl, ?_⟩
  have n0_ := dR HO128 hb
  have n1_ := am (Kd.R_lower ho0 (below_size (fW HB.out)))
  have n2_ := bB BK124 hb
  have n3_ := bB BK125 hb
  have n4_ := bB BK132 hb
  have n5_ := bS HB hb
  clear HO128 BK124 BK125 BK132 HB
  have HO128 := n0_
  have HO131 := n1_
  have BK124 := n2_
  have BK125 := n3_
  have BK132 := n4_
  have HB := n5_
  clear n0_ n1_ n2_ n3_ n4_ n5_
  (try clear hb)
  (try clear hb2)
  (try clear hk)
  (try clear hi)
  (try clear ho0)
  obtain ⟨Ao10, co10, eo10⟩ := Kd.R_slice HO131.out
  (first | subst eo10 | (injection eo10 with f1_ f2_ f3_; have f4_ := f1_.symm; have f5_ := f3_.symm; clear f1_ f2_ f3_; subst f4_; subst f5_))
  obtain ⟨Ao11, co11, eo11⟩ := Kd.R_slice HO128.out
  (first | subst eo11 | (injection eo11 with f1_ f2_ f3_; have f4_ := f1_.symm; have f5_ := f3_.symm; clear f1_ f2_ f3_; subst f4_; subst f5_))
  refine hK.out _ _ ⟨(bc BK124.out 0).trans rfl, (bc BK124.out 1).trans rfl, (bc BK124.out 2).trans rfl, (bc BK124.out 3).trans rfl⟩ (fun hHeld => ?_)
  clear hK K
  refine norm_ (a' := ?_) ?_ ?_
  rotate_left
  ·show Act.put _ (some 13) _ = _
   simp only [Act.put, psl, i64_w, i32_w]
   rfl
  refine pu (i := 8) (N := some 14) (fl 11 10 []) HT_ ?_
  exact norm_ (by simp only [putAll, Act.put, psl]) (hCont (.slice Ao11 t126.length co11, .slice Ao10 t129.length co10, gb132) _ ⟨hHeld, (fR HO128.out), (fR HO131.out), (fb BK124.out), (fb BK125.out), (fb BK132.out), GW132.out, GE132.out, NB124_132.out, NB132_124.out, NB125_132.out, NB132_125.out, (fW HB.out)⟩)
 rintro ⟨v127, v130, gb132⟩ w12 ⟨hS_, h0_, h1_, h2_, h3_, h4_, h5_, h6_, h7_, h8_, h9_, h10_, h11_⟩
 have n0_ : Aside0 (Kd.R (Kd.int .i64) 3 w12 w.heap.size (fun _ => True) v127 t126) := ⟨h0_⟩
 have n1_ : Aside0 (Kd.R Kd.bool 4 w12 w.heap.size (fun _ => True) v130 t129) := ⟨h1_⟩
 have n2_ : Aside0 (w12.heap[gb124]? = some (.cells #[.slice A0_0 l0_0.length c0_0, .int .i64 a0_1, .slice A0_2 l0_2.length c0_2, .slice A0_3 l0_3.length c0_3] 33 (0, 0))) := ⟨h2_⟩
 have n3_ : Aside0 (w12.heap[gb125]? = some (.cells #[.slice none 0 0, .int .i64 0, .slice none 0 0, .slice none 0 0] 33 (0, 0))) := ⟨h3_⟩
 have n4_ : Aside0 (w12.heap[gb132]? = some (.cells #[.slice none 0 0, .int .i64 0, .slice none 0 0, .slice none 0 0] 33 (0, 0))) := ⟨h4_⟩
 have n5_ : Aside0 (w.heap.size ≤ gb132) := ⟨h5_⟩
 have n6_ : Aside0 (w.heap.size ≤ gb132) := ⟨h6_⟩
 have n7_ : Aside0 (gb124 ≠ gb132) := ⟨h7_⟩
 have n8_ : Aside0 (gb132 ≠ gb124) := ⟨h8_⟩
 have n9_ : Aside0 (gb125 ≠ gb132) := ⟨h9_⟩
 have n10_ : Aside0 (gb132 ≠ gb125) := ⟨h10_⟩
 have n11_ : Aside0 (Below w.heap.size w w12) := ⟨h11_⟩
 clear BK124 BK125 HB h0_ h1_ h2_ h3_ h4_ h5_ h6_ h7_ h8_ h9_ h10_ h11_
 have HO128 := n0_
 have HO131 := n1_
 have BK124 := n2_
 have BK125 := n3_
 have BK132 := n4_
 have GW132 := n5_
 have GE132 := n6_
 have NB124_132 := n7_
 have NB132_124 := n8_
 have NB125_132 := n9_
 have NB132_125 := n10_
 have HB := n11_
 clear n0_ n1_ n2_ n3_ n4_ n5_ n6_ n7_ n8_ n9_ n10_ n11_
 have hHeld : w12.cell? ⟨gb124, 0, none⟩ = some (.slice A0_0 l0_0.length c0_0) ∧ w12.cell? ⟨gb124, 1, none⟩ = some (.int .i64 a0_1) ∧ w12.cell? ⟨gb124, 2, none⟩ = some (.slice A0_2 l0_2.length c0_2) ∧ w12.cell? ⟨gb124, 3, none⟩ = some (.slice A0_3 l0_3.length c0_3) := hS_
 obtain ⟨Ao13, co13, eo13⟩ := Kd.R_slice HO131.out
 (first | subst eo13 | (injection eo13 with f1_ f2_ f3_; have f4_ := f1_.symm; have f5_ := f3_.symm; clear f1_ f2_ f3_; subst f4_; subst f5_))
 obtain ⟨Ao14, co14, eo14⟩ := Kd.R_slice HO128.out
 (first | subst eo14 | (injection eo14 with f1_ f2_ f3_; have f4_ := f1_.symm; have f5_ := f3_.symm; clear f1_ f2_ f3_; subst f4_; subst f5_))
 refine norm_ (a' := ?_) ?_ ?_
 rotate_left
 ·simp only [putAll, Act.put, psl]
  rfl
 refine one_ (i := 10) (N := none) (fl 11 11 []) rfl rfl (one_of HT_.out (by kernel_rfl)) (by decide) (fun K hK => ?_)
 have hs15 : w12.cell? ⟨gb132, 0, none⟩ = some (.slice none 0 0) := (bc BK132.out 0).trans rfl
 have hfs15 := bf BK132.out 0
 have hns15_0 := NB124_132.out
 have hns15_1 := NB125_132.out
 have hms15_0 := NB132_124.out
 have hms15_1 := NB132_125.out
 have hs16 : w12.cell? ⟨gb132, 1, none⟩ = some (.int .i64 0) := (bc BK132.out 1).trans rfl
 have hfs16 := bf BK132.out 1
 have hns16_0 := NB124_132.out
 have hns16_1 := NB125_132.out
 have hms16_0 := NB132_124.out
 have hms16_1 := NB132_125.out
 have hs17 : w12.cell? ⟨gb132, 2, none⟩ = some (.slice none 0 0) := (bc BK132.out 2).trans rfl
 have hfs17 := bf BK132.out 2
 have hns17_0 := NB124_132.out
 have hns17_1 := NB125_132.out
 have hms17_0 := NB132_124.out
 have hms17_1 := NB132_125.out
 have hs18 : w12.cell? ⟨gb132, 3, none⟩ = some (.slice none 0 0) := (bc BK132.out 3).trans rfl
 have hfs18 := bf BK132.out 3
 have hns18_0 := NB124_132.out
 have hns18_1 := NB125_132.out
 have hms18_0 := NB132_124.out
 have hms18_1 := NB132_125.out
 refine skip_ (w1 := ?_) (by rfl) rfl ?_ ?_
 rotate_left
 ·go_simp
  rfl
 refine hK.out _ _ ⟨((cf (p := ⟨gb132, _, none⟩) NB124_132.out _).trans (((cf (p := ⟨gb132, _, none⟩) NB124_132.out _).trans (((cf (p := ⟨gb132, _, none⟩) NB124_132.out _).trans (((cf (p := ⟨gb132, _, none⟩) NB124_132.out _).trans (hHeld.1)))))))), ((cf (p := ⟨gb132, _, none⟩) NB124_132.out _).trans (((cf (p := ⟨gb132, _, none⟩) NB124_132.out _).trans (((cf (p := ⟨gb132, _, none⟩) NB124_132.out _).trans (((cf (p := ⟨gb132, _, none⟩) NB124_132.out _).trans (hHeld.2.1)))))))), ((cf (p := ⟨gb132, _, none⟩) NB124_132.out _).trans (((cf (p := ⟨gb132, _, none⟩) NB124_132.out _).trans (((cf (p := ⟨gb132, _, none⟩) NB124_132.out _).trans (((cf (p := ⟨gb132, _, none⟩) NB124_132.out _).trans (hHeld.2.2.1)))))))), ((cf (p := ⟨gb132, _, none⟩) NB124_132.out _).trans (((cf (p := ⟨gb132, _, none⟩) NB124_132.out _).trans (((cf (p := ⟨gb132, _, none⟩) NB124_132.out _).trans (((cf (p := ⟨gb132, _, none⟩) NB124_132.out _).trans (hHeld.2.2.2))))))))⟩ (fun hHeld => ?_)
 clear hK K
 refine done_ (done_of HT_.out (by kernel_rfl)) ?_
 have hnb19 := NB124_125.out
 have hnc19 := NB125_124.out
 have hnb20 := NB124_132.out
 have hnc20 := NB132_124.out
 have := yC1 BK124
 have := kC1 BK124
 have := kC2 BK124
 have := kC3 BK124
 have := bf BK124.out 0
 have := bf BK124.out 1
 have := bf BK124.out 2
 have := bf BK124.out 3
 try go_wp2
 go_loopg [18] k (fun kq v18 w' => ∃ (x18_1 : Int) (x133000_1 : List (List Int)) (u133000 : Value), v18 = .int .i64 x18_1 ∧ Aside0 (replace_clone.l0 kq l0_0 (l0_0.length : Int) x18_1 x133000_1 a0_1 t126 t129 = some (r1, r2, r3, r4)) ∧ Aside0 (kq ≤ k) ∧ Aside0 (Kd.S (Kd.slice 3 (Kd.int .i64)) 23 w' w.heap.size (fun k_ => some k_ ≠ ((.slice Ao14 t126.length co14) : Value).ownBlock) u133000 x133000_1) ∧ Aside0 (Kd.R (Kd.int .i64) 3 w' w.heap.size (fun _ => True) (.slice Ao14 t126.length co14) t126) ∧ Aside0 (Kd.R Kd.bool 4 w' w.heap.size (fun _ => True) (.slice Ao13 t129.length co13) t129) ∧ Aside0 (w'.heap[gb124]? = some (.cells #[(.slice A0_0 l0_0.length c0_0), .int .i64 a0_1, (.slice A0_2 l0_2.length c0_2), (.slice A0_3 l0_3.length c0_3)] 33 (0, 0))) ∧ Aside0 (w'.heap[gb125]? = some (.cells #[(.slice none 0 0), .int .i64 0, (.slice none 0 0), (.slice none 0 0)] 33 (0, 0))) ∧ Aside0 (w'.heap[gb132]? = some (.cells #[u133000, .int .i64 a0_1, (.slice Ao14 t126.length co14), (.slice Ao13 t129.length co13)] 33 (0, 0))) ∧ Aside0 (Below w.heap.size w w'))
 case atStart => exact ⟨(0), (([] : List (List Int))), (.slice none 0 0), sqD, H', ⟨Nat.le_refl _⟩, ⟨by first | exact Kd.S_nil _ _ _ _ _ | exact Kd.N_nil _ _ _ _ _ | exact Kd.V_nil _ _ _ _ _ | exact Kd.Q_nil _ _ _ _ _ | exact Kd.R_nil _ _ _ _ _⟩, ⟨by (with_reducible repeat (first | apply Kd.R_alloc | apply Kd.R_drewN | apply Kd.R_drew)); exact Kd.R_mono (Kd.R_far (p := ⟨gb132, 3, none⟩) (Kd.R_far (p := ⟨gb132, 2, none⟩) (Kd.R_far (p := ⟨gb132, 1, none⟩) (Kd.R_far (p := ⟨gb132, 0, none⟩) (Kd.R_types HO128.out BK132.out (by decide)) (fun _ hk => hk.2) (.slice none 0 0)) (fun _ hk => hk.2) (.int .i64 a0_1)) (fun _ hk => hk.2) (.slice Ao14 t126.length co14)) (fun _ hk => hk.2) (.slice Ao13 t129.length co13)) (fun _ hk => trivial)⟩, ⟨by (with_reducible repeat (first | apply Kd.R_alloc | apply Kd.R_drewN | apply Kd.R_drew)); exact Kd.R_mono (Kd.R_far (p := ⟨gb132, 3, none⟩) (Kd.R_far (p := ⟨gb132, 2, none⟩) (Kd.R_far (p := ⟨gb132, 1, none⟩) (Kd.R_far (p := ⟨gb132, 0, none⟩) (Kd.R_types HO131.out BK132.out (by decide)) (fun _ hk => hk.2) (.slice none 0 0)) (fun _ hk => hk.2) (.int .i64 a0_1)) (fun _ hk => hk.2) (.slice Ao14 t126.length co14)) (fun _ hk => hk.2) (.slice Ao13 t129.length co13)) (fun _ hk => trivial)⟩, ⟨by (with_reducible repeat first | apply bN | apply bd | apply ba); refine blk_far ?_ NB124_132.out _; (with_reducible repeat first | apply bN | apply bd | apply ba); refine blk_far ?_ NB124_132.out _; (with_reducible repeat first | apply bN | apply bd | apply ba); refine blk_far ?_ NB124_132.out _; (with_reducible repeat first | apply bN | apply bd | apply ba); refine blk_far ?_ NB124_132.out _; (with_reducible repeat first | apply bN | apply bd | apply ba); exact BK124.out⟩, ⟨by (with_reducible repeat first | apply bN | apply bd | apply ba); refine blk_far ?_ NB125_132.out _; (with_reducible repeat first | apply bN | apply bd | apply ba); refine blk_far ?_ NB125_132.out _; (with_reducible repeat first | apply bN | apply bd | apply ba); refine blk_far ?_ NB125_132.out _; (with_reducible repeat first | apply bN | apply bd | apply ba); refine blk_far ?_ NB125_132.out _; (with_reducible repeat first | apply bN | apply bd | apply ba); exact BK125.out⟩, ⟨by (with_reducible repeat first | apply bN | apply bd | apply ba); refine blk_put (cs := #[.slice none 0 0, .int .i64 a0_1, .slice Ao14 t126.length co14, .slice none 0 0]) ?_ 3 _ rfl; (with_reducible repeat first | apply bN | apply bd | apply ba); refine blk_put (cs := #[.slice none 0 0, .int .i64 a0_1, .slice none 0 0, .slice none 0 0]) ?_ 2 _ rfl; (with_reducible repeat first | apply bN | apply bd | apply ba); refine blk_put (cs := #[.slice none 0 0, .int .i64 0, .slice none 0 0, .slice none 0 0]) ?_ 1 _ rfl; (with_reducible repeat first | apply bN | apply bd | apply ba); refine blk_put (cs := #[.slice none 0 0, .int .i64 0, .slice none 0 0, .slice none 0 0]) ?_ 0 _ rfl; (with_reducible repeat first | apply bN | apply bd | apply ba); exact BK132.out⟩, ⟨fW HB.out⟩⟩
 case round =>
  clear H'
  try clear c1;try clear c2;try clear p2;try clear c4;try clear c5;try clear c19;try clear c20
  obtain ⟨x18_1, x133000_1, u133000, rfl, HA, HK1, HO_133000, HO_133002, HO_133003, BK124, BK125, BK132, HB⟩ := hrel
  cases gk with
  | zero => exact absurd HA.out (by simp [replace_clone.l0])
  | succ k1 =>
   have H := HA.out
   clear HA
   simp only [replace_clone.l0] at H
   by_cases c22 : x18_1 < (l0_0.length : Int)
   ·rw [if_pos c22] at H
    have c22b0 : decide (x18_1 < (l0_0.length : Int)) = true := decide_eq_true c22
    clear c22
    by_cases c23 : 0 ≤ x18_1
    rotate_left
    ·rw [if_neg c23] at H
     exact absurd H (by simp)
    rw [if_pos c23] at H
    have c23b0 : decide (0 ≤ x18_1) = true := decide_eq_true c23
    clear c23
    by_cases c24 : x18_1 < (l0_0.length : Int)
    rotate_left
    ·rw [if_neg c24] at H
     exact absurd H (by simp)
    rw [if_pos c24] at H
    have c24b0 : decide (x18_1 < (l0_0.length : Int)) = true := decide_eq_true c24
    clear c24
    replace H := Option.bind_eq_some_iff.mp H
    obtain ⟨t134, A250, H⟩ := H
    replace H : (if x133000_1.length < 5864062014805 then (replace_clone.l0 k1 l0_0 (l0_0.length : Int) (wrap64 (x18_1 + 1)) (x133000_1 ++ [t134]) a0_1 t126 t129) else (none)) = some (r1, r2, r3, r4) := H
    have A25 := am A250
    clear A250
    by_cases c26 : x133000_1.length < 5864062014805
    rotate_left
    ·rw [if_neg c26] at H
     exact absurd H (by simp)
    rw [if_pos c26] at H
    have LMc26 := am c26
    clear c26
    obtain ⟨y137, hy137⟩ : ∃ y_ : List (List Int), y_ = (x133000_1 ++ [t134]) := ⟨_, rfl⟩
    replace H : (replace_clone.l0 k1 l0_0 (l0_0.length : Int) (wrap64 (x18_1 + 1)) y137 a0_1 t126 t129) = some (r1, r2, r3, r4) := by first | (rw [hy137]; with_reducible exact H) | (have H2_ := (Option.bind_some _ _).symm.trans H; rw [hy137]; with_reducible exact H2_) | (have H2_ := (Option.bind_some _ _).symm.trans H; with_reducible exact H2_) | with_reducible exact H | (rw [hy137]; exact H) | exact H
    have Ny137 := am hy137
    clear hy137
    have H' := am H
    clear H
    have p133 : 0 ≤ (x18_1 : Int) := of_decide_eq_true (by assumption)
    have q133 : x18_1 < (l0_0.length : Int) := of_decide_eq_true (by assumption)
    obtain ⟨ad133, A133_0, c133_0, e133, hx133_0, hl133_0, hi133_0⟩ := at_L1 HR0_0.out x18_1 p133 q133
    cases e133
    replace hx133_0 := cl HB hx133_0
    have HR133_0 := am hi133_0
    have HC133_0 := am hl133_0
    clear hi133_0 hl133_0
    replace p133 := eq_true p133
    replace q133 := eq_true q133
    try go_wp2
    have n0_ := am (Kd.S_drew HO_133000.out)
    have n1_ := am (Kd.R_drew HO_133002.out)
    have n2_ := am (Kd.R_drew HO_133003.out)
    have n3_ := am (bd BK124.out)
    have n4_ := am (bd BK125.out)
    have n5_ := am (bd BK132.out)
    have n6_ := am (below_drew1 HB.out)
    clear HO_133000 HO_133002 HO_133003 BK124 BK125 BK132 HB
    have HO_133000 := n0_
    have HO_133002 := n1_
    have HO_133003 := n2_
    have BK124 := n3_
    have BK125 := n4_
    have BK132 := n5_
    have HB := n6_
    clear n0_ n1_ n2_ n3_ n4_ n5_ n6_
    refine start_ (n := 8) (S := fun w' => w'.cell? ⟨gb132, 0, none⟩ = some (u133000) ∧ w'.cell? ⟨gb132, 1, none⟩ = some (.int .i64 a0_1) ∧ w'.cell? ⟨gb132, 2, none⟩ = some (.slice Ao14 t126.length co14) ∧ w'.cell? ⟨gb132, 3, none⟩ = some (.slice Ao13 t129.length co13)) (ds := [7]) #[F,F,F,F,F,F,F,F] (by kernel_rfl) rfl rfl ⟨(bc BK132.out 0).trans rfl, (bc BK132.out 1).trans rfl, (bc BK132.out 2).trans rfl, (bc BK132.out 3).trans rfl⟩ (fun hHeld => ?_); refine with_tabW replace_clone.tab5 replace_clone.bits5 (fun HT_ HW_ => ?_)
    generalize wr.drew = w27 at HO_133000 HO_133002 HO_133003 BK124 BK125 BK132 HB hHeld ⊢
    refine pu (i := 0) (N := some 22) (fl 8 1 []) HT_ ?_
    refine pu (i := 2) (N := some 24) (fl 8 1 [2]) HT_ ?_
    refine tk (i := 1) (N := some 23) (fl 8 3 []) HT_ HW_ hHeld ?_
    refine one_ (i := 3) (N := some 25) (fl 8 4 []) rfl rfl (one_of HT_.out (by kernel_rfl)) (by decide) (fun K hK => ?_)
    refine goes_ Try.func51 (by kernel_rfl) rfl #[.slice A133_0 (rd_L1 l0_0 x18_1).length c133_0] (by rfl) rfl rfl (by (try simp only [pml]); first | done | rfl | (simp only [pdt]; rfl)) ?_
    with_reducible refine (slices_Clone_int_int.calls _ _ (rd_L1 l0_0 x18_1) t134 _ ?side1 ?side2 A25.out).mono ?_
    (case side1 => repeat (first | exact (Kd.C_below HR133_0.out HB.out) | (with_reducible refine Kd.C_alloc ?_ _) | (with_reducible refine Kd.C_drewN ?_ _) | (with_reducible refine Kd.C_drew ?_)))
    (case side2 => exact HC133_0.out)
    rintro e w28 ⟨v135, rfl, ho0, hb⟩
    refine ⟨_, rfl, ?_⟩
    have n0_ := am (Kd.S_elder' (by (with_reducible repeat (first | apply Kd.S_alloc | apply Kd.S_drewN | apply Kd.S_drew)); exact HO_133000.out) (Kd.R_base ho0) hb)
    have n1_ := am (Kd.R_elder' (fR HO_133002.out) (Kd.R_base ho0) hb)
    have n2_ := dR HO_133003 hb
    have n3_ := am (Kd.R_lower (Kd.R_new' ho0 (Kd.R_lt (fR HO_133002.out))) (below_size (fW HB.out)))
    have n4_ := bB BK124 hb
    have n5_ := bB BK125 hb
    have n6_ := bB BK132 hb
    have n7_ := bS HB hb
    clear HO_133000 HO_133002 HO_133003 BK124 BK125 BK132 HB
    have HO_133000 := n0_
    have HO_133002 := n1_
    have HO_133003 := n2_
    have HO136 := n3_
    have BK124 := n4_
    have BK125 := n5_
    have BK132 := n6_
    have HB := n7_
    clear n0_ n1_ n2_ n3_ n4_ n5_ n6_ n7_
    (try clear hb)
    (try clear hb2)
    (try clear hk)
    (try clear hi)
    (try clear ho0)
    obtain ⟨Ao30, co30, eo30⟩ := Kd.R_slice HO136.out
    (first | subst eo30 | (injection eo30 with f1_ f2_ f3_; have f4_ := f1_.symm; have f5_ := f3_.symm; clear f1_ f2_ f3_; subst f4_; subst f5_))
    refine hK.out _ _ ⟨(bc BK132.out 0).trans rfl, (bc BK132.out 1).trans rfl, (bc BK132.out 2).trans rfl, (bc BK132.out 3).trans rfl⟩ (fun hHeld => ?_)
    clear hK K
    refine norm_ (a' := ?_) ?_ ?_
    rotate_left
    ·show Act.put _ (some 25) _ = _
     simp only [Act.put, psl, i64_w, i32_w]
     rfl
    refine one_ (i := 4) (N := some 26) (fl 8 5 []) rfl rfl (one_of HT_.out (by kernel_rfl)) (by decide) (fun K hK => ?_)
    refine value_ (w1 := ?_) (v := ?_) (by rfl) rfl ?_ ?_
    rotate_left 2
    ·go_simp
     constructor
     ·rfl
     rfl
    refine hK.out _ _ ⟨(bc (ba BK132.out _) 0).trans rfl, (bc (ba BK132.out _) 1).trans rfl, (bc (ba BK132.out _) 2).trans rfl, (bc (ba BK132.out _) 3).trans rfl⟩ (fun hHeld => ?_)
    clear hK K
    refine norm_ (a' := ?_) ?_ ?_
    rotate_left
    ·show Act.put _ (some 26) _ = _
     simp only [Act.put, psl, i64_w, i32_w]
     rfl
    refine one_ (i := 5) (N := some 27) (fl 8 6 []) rfl rfl (one_of HT_.out (by kernel_rfl)) (by decide) (fun K hK => ?_)
    refine Kd.S_append_step (Kd.slice 3 (Kd.int .i64)) (w0 := w) w.heap.size (by rfl) (.tmp 23) (.tmp 26) 22 23 (.slice none 0 0) 24 rfl Try.underlying22 info23 rfl (by decide) (by omega) u133000 x133000_1 t134 [.slice Ao30 t134.length co30] (fun k_ => some k_ ≠ (.slice Ao14 t126.length co14 : Value).ownBlock) (fun k_ => some k_ = (.slice Ao30 t134.length co30 : Value).ownBlock) rfl rfl ?aP (fun k_ hk_ => ((Kd.R_mono (ok' := fun k_ => ((fun k_ => some k_ ≠ (.slice Ao14 t126.length co14 : Value).ownBlock)) k_ ∧ some k_ ≠ (u133000 : Value).ownBlock) (Kd.R_apart' (HO136.out) (Kd.S_typed HO_133000.out) (by decide)) (fun k_ hk => ⟨hk.1.2, hk.2⟩))).1 k_ hk_.symm) ?aF ?aO ?aB ?aS ?aL ?_
    (case aP => exact Kd.M_row (Kd.R_mono (Kd.R_tight rfl (Kd.R_mono (ok' := fun k_ => ((fun k_ => some k_ ≠ (.slice Ao14 t126.length co14 : Value).ownBlock)) k_ ∧ some k_ ≠ (u133000 : Value).ownBlock) (Kd.R_apart' (HO136.out) (Kd.S_typed HO_133000.out) (by decide)) (fun k_ hk => ⟨hk.1.2, hk.2⟩))) (fun _ h_ => h_)))
    (case aB => exact (fW HB.out))
    (case aF => exact (fun k_ hk => Kd.fresh' (Kd.R_lt (fR HO_133002.out)) k_ hk))
    (case aO => exact (by (with_reducible repeat (first | apply Kd.S_alloc | apply Kd.S_drewN | apply Kd.S_drew)); exact Kd.S_mono HO_133000.out (fun k_ hk => ⟨hk.1, fun e_ => hk.2 e_⟩)))
    (case aS => exact (below_size (fW HB.out)))
    (case aL => have := LMc26.out; omega)
    intro v138 w29 ho hb hg hat
    rw [← Ny137.out] at ho
    have n0_ := am (Kd.R_over' (fR HO_133002.out) (Kd.S_typed (by (with_reducible repeat (first | apply Kd.S_alloc | apply Kd.S_drewN | apply Kd.S_drew)); exact HO_133000.out)) (by decide) hg)
    have n1_ := am (Kd.R_over' (fR HO_133003.out) (Kd.S_typed (by (with_reducible repeat (first | apply Kd.S_alloc | apply Kd.S_drewN | apply Kd.S_drew)); exact HO_133000.out)) (by decide) hg)
    have n2_ := am (blk_grown (g := gb124) (o := .cells #[.slice (some ad133) l0_0.length c0_0, .int .i64 a0_1, .slice A0_2 l0_2.length c0_2, .slice A0_3 l0_3.length c0_3] 33 (0, 0)) (fb BK124.out) hg (Kd.S_ne HO_133000.out BK124.out (by decide)))
    have n3_ := am (blk_grown (g := gb125) (o := .cells #[.slice none 0 0, .int .i64 0, .slice none 0 0, .slice none 0 0] 33 (0, 0)) (fb BK125.out) hg (Kd.S_ne HO_133000.out BK125.out (by decide)))
    have n4_ := am (blk_grown (g := gb132) (o := .cells #[u133000, .int .i64 a0_1, .slice Ao14 t126.length co14, .slice Ao13 t129.length co13] 33 (0, 0)) (fb BK132.out) hg (Kd.S_ne HO_133000.out BK132.out (by decide)))
    have n5_ := am (hb)
    have n6_ := am (ho)
    clear HO_133002 HO_133003 BK124 BK125 BK132 HB HO_133000 HO136
    have HO_133002 := n0_
    have HO_133003 := n1_
    have BK124 := n2_
    have BK125 := n3_
    have BK132 := n4_
    have HB := n5_
    have HO139 := n6_
    clear n0_ n1_ n2_ n3_ n4_ n5_ n6_ ho hb hg hat
    obtain ⟨Ao31, co31, eo31⟩ := Kd.S_slice HO139.out
    (first | subst eo31 | (injection eo31 with f1_ f2_ f3_; have f4_ := f1_.symm; have f5_ := f3_.symm; clear f1_ f2_ f3_; subst f4_; subst f5_))
    refine hK.out _ _ ⟨(bc BK132.out 0).trans rfl, (bc BK132.out 1).trans rfl, (bc BK132.out 2).trans rfl, (bc BK132.out 3).trans rfl⟩ (fun hHeld => ?_)
    clear hK K
    refine norm_ (a' := ?_) ?_ ?_
    rotate_left
    ·show Act.put _ (some 27) _ = _
     simp only [Act.put, psl, i64_w, i32_w]
     rfl
    refine pu (i := 6) (N := some 28) (fl 8 7 []) HT_ ?_
    refine last_ (i := 7) (N := none) #[T,T,T,T,T,T,T,T] rfl rfl (one_of HT_.out (by kernel_rfl)) (by decide) (fun K hK => ?_)
    have hs32 : w29.cell? ⟨gb132, 0, none⟩ = some (u133000) := (bc BK132.out 0).trans rfl
    have hfs32 := bf BK132.out 0
    have hns32_0 := NB124_132.out
    have hns32_1 := NB125_132.out
    have hms32_0 := NB132_124.out
    have hms32_1 := NB132_125.out
    refine skip_ (w1 := ?_) (by rfl) rfl ?_ ?_
    rotate_left
    ·go_simp
     rfl
    refine hK.out _ _ ?_
    clear hK K
    refine done_ (done_of HT_.out (by kernel_rfl)) ?_
    try go_wp2
    go_roundg k1
    case measure => have := HK1.out; omega
    case rel => exact ⟨(wrap64 (x18_1 + 1)), (y137), (.slice Ao31 y137.length co31), sqD, H', ⟨by have := HK1.out; omega⟩, ⟨by (with_reducible repeat (first | apply Kd.S_alloc | apply Kd.S_drewN | apply Kd.S_drew)); exact Kd.S_mono (Kd.S_far (p := ⟨gb132, 0, none⟩) (Kd.S_types HO139.out BK132.out (by decide)) (fun _ hk => hk.2) (.slice Ao31 y137.length co31)) (fun _ hk => hk.1)⟩, ⟨by (with_reducible repeat (first | apply Kd.R_alloc | apply Kd.R_drewN | apply Kd.R_drew)); exact Kd.R_mono (Kd.R_far (p := ⟨gb132, 0, none⟩) (Kd.R_types HO_133002.out BK132.out (by decide)) (fun _ hk => hk.2) (.slice Ao31 y137.length co31)) (fun _ hk => trivial)⟩, ⟨by (with_reducible repeat (first | apply Kd.R_alloc | apply Kd.R_drewN | apply Kd.R_drew)); exact Kd.R_mono (Kd.R_far (p := ⟨gb132, 0, none⟩) (Kd.R_types HO_133003.out BK132.out (by decide)) (fun _ hk => hk.2) (.slice Ao31 y137.length co31)) (fun _ hk => trivial)⟩, ⟨by (with_reducible repeat first | apply bN | apply bd | apply ba); refine blk_far ?_ NB124_132.out _; (with_reducible repeat first | apply bN | apply bd | apply ba); exact BK124.out⟩, ⟨by (with_reducible repeat first | apply bN | apply bd | apply ba); refine blk_far ?_ NB125_132.out _; (with_reducible repeat first | apply bN | apply bd | apply ba); exact BK125.out⟩, ⟨by (with_reducible repeat first | apply bN | apply bd | apply ba); refine blk_put (cs := #[u133000, .int .i64 a0_1, .slice Ao14 t126.length co14, .slice Ao13 t129.length co13]) ?_ 0 _ rfl; (with_reducible repeat first | apply bN | apply bd | apply ba); exact BK132.out⟩, ⟨fW HB.out⟩⟩
   ·rw [if_neg c22] at H
    have c22b0 : decide (x18_1 < (l0_0.length : Int)) = false := decide_eq_false c22
    clear c22
    simp only [Option.some.injEq, Prod.mk.injEq] at H
    obtain ⟨rfl, rfl, rfl, rfl⟩ := H
    have hnb33 := NB132_124.out
    have hnc33 := NB124_132.out
    have hnb34 := NB132_125.out
    have hnc34 := NB125_132.out
    have := yC1 BK132
    have := kC1 BK132
    have := kC2 BK132
    have := kC3 BK132
    have := bf BK132.out 0
    have := bf BK132.out 1
    have := bf BK132.out 2
    have := bf BK132.out 3
    obtain ⟨Ao36, co36, eo36⟩ := Kd.S_slice HO_133000.out
    subst eo36
    have hnb37 := NB125_124.out
    have hnc37 := NB124_125.out
    have := yC1 BK125
    have := kC1 BK125
    have := kC2 BK125
    have := kC3 BK125
    have := bf BK125.out 0
    have := bf BK125.out 1
    have := bf BK125.out 2
    have := bf BK125.out 3
    go_wp2
    refine bodyPost_ret (results_cell_row rfl _ _ gb125 33 #[.slice Ao36 x133000_1.length co36, .int .i64 a0_1, .slice Ao14 t126.length co14, .slice Ao13 t129.length co13] (0, 0) _ rfl (kkC BK125.out) Try.underlying33 rfl (by kernel_rfl)) rfl ?_
    exact ⟨_, _, _, sqE, by (with_reducible repeat (first | apply Kd.S_alloc | apply Kd.S_drewN | apply Kd.S_drew)); exact Kd.S_mono (Kd.S_far (p := ⟨gb125, 3, none⟩) (Kd.S_far (p := ⟨gb125, 2, none⟩) (Kd.S_far (p := ⟨gb125, 1, none⟩) (Kd.S_far (p := ⟨gb125, 0, none⟩) (Kd.S_types HO_133000.out BK125.out (by decide)) (fun _ hk => hk.2) (.slice Ao36 x133000_1.length co36)) (fun _ hk => hk.2) (.int .i64 a0_1)) (fun _ hk => hk.2) (.slice Ao14 t126.length co14)) (fun _ hk => hk.2) (.slice Ao13 t129.length co13)) (fun _ hk => hk.1), by (with_reducible repeat (first | apply Kd.R_alloc | apply Kd.R_drewN | apply Kd.R_drew)); exact Kd.R_mono (Kd.R_far (p := ⟨gb125, 3, none⟩) (Kd.R_far (p := ⟨gb125, 2, none⟩) (Kd.R_far (p := ⟨gb125, 1, none⟩) (Kd.R_far (p := ⟨gb125, 0, none⟩) (Kd.R_types HO_133002.out BK125.out (by decide)) (fun _ hk => hk.2) (.slice Ao36 x133000_1.length co36)) (fun _ hk => hk.2) (.int .i64 a0_1)) (fun _ hk => hk.2) (.slice Ao14 t126.length co14)) (fun _ hk => hk.2) (.slice Ao13 t129.length co13)) (fun _ hk => trivial), by (with_reducible repeat (first | apply Kd.R_alloc | apply Kd.R_drewN | apply Kd.R_drew)); exact Kd.R_mono (Kd.R_far (p := ⟨gb125, 3, none⟩) (Kd.R_far (p := ⟨gb125, 2, none⟩) (Kd.R_far (p := ⟨gb125, 1, none⟩) (Kd.R_far (p := ⟨gb125, 0, none⟩) (Kd.R_types HO_133003.out BK125.out (by decide)) (fun _ hk => hk.2) (.slice Ao36 x133000_1.length co36)) (fun _ hk => hk.2) (.int .i64 a0_1)) (fun _ hk => hk.2) (.slice Ao14 t126.length co14)) (fun _ hk => hk.2) (.slice Ao13 t129.length co13)) (fun _ hk => trivial), fW HB.out⟩

end Go.Proofs.Ytkeomlmlimkebaa.QA
