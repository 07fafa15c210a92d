import Derived.Test.YtpjgmlnnhcnelaaDYQAx0
import Derived.Test.YtpjgmlnnhcnelaaDYQAx2
import Derived.Test.YtpjgmlnnhcnelaaDYQAx3
import Derived.Test.YtpjgmlnnhcnelaaDYQAx5
import Derived.Test.YtpjgmlnnhcnelaaDYQAx8
import Derived.Test.YtpjgmlnnhcnelaaDYQAx23
namespace Go.Proofs.Ytpjgmlnnhcnelaa.QA
open Go.RowKit Go.Proofs.YtpjgmlnnhcnelaaW.PrintWords Go.Proofs.YtpjgmlnnhcnelaaW.PrintLast Go.Proofs.YtpjgmlnnhcnelaaW.PrintMore
open Go.Proofs.YtpjgmlnnhcnelaaW.PrintWords renaming blk_drewN → bN, blk_drew → bd, blk_alloc → ba, blk_frozen → bf, blk_cell → bc, below_size → wz, cell_far → cf, gate_callee → gc
open Aside0 renaming mk → am
attribute [local go_sem] max2_int min2_int max_two min_two max_three min_three max_four min_four
set_option linter.unusedVariables false
set_option linter.unusedSimpArgs false

mutual
def w_ShiftBoth.j0 : Nat → Int → Bool → List (S54) → List Int → List (S54) → List Int → Option (Bool)
 | 0, _, _, _, _, _, _ => none
 | k + 1, x2, x22, x565000, x565001, x566000, x566001 => if x22 = true then ((w_awake.f k).bind fun t568 => (some t568)) else ((w_ours.f x565000 x565001).bind fun bt569 => ((w_ours.f x566000 x566001).bind fun bt575 => ((shift_Common.f k bt569.1 bt569.2 bt575.1 bt575.2).bind fun bt581 => (if bt581.2.2 = 0 then ((w_ours.f x565000 x565001).bind fun bt590 => ((shift_Open.f k bt590.1 bt590.2 x2).bind fun bt596 => ((w_ours.f x566000 x566001).bind fun bt598 => ((shift_Open.f k bt598.1 bt598.2 x2).bind fun bt604 => ((shift_Open.f k bt581.1 bt581.2.1 x2).bind fun bt606 => ((w_awake.f k).bind fun t608 => (if t608 = true then (if bt596.2 = bt604.2 then (if bt604.2 = bt606.2 then (if bt596.1 = true then (if (bt606.1 == bt604.1) = true then ((shift_Check.f k bt581.1 bt581.2.1).bind fun t609 => (w_ShiftBoth.j1 k (t609 == 0))) else (w_ShiftBoth.j1 k false)) else (if (bt606.1 == false) = true then ((shift_Check.f k bt581.1 bt581.2.1).bind fun t610 => (w_ShiftBoth.j1 k (t610 == 0))) else (w_ShiftBoth.j1 k false))) else (w_ShiftBoth.j1 k false)) else (w_ShiftBoth.j1 k false)) else (w_ShiftBoth.j1 k false)))))))) else ((w_awake.f k).bind fun t589 => (some t589))))))
def w_ShiftBoth.j1 : Nat → Bool → Option (Bool)
 | 0, _ => none
 | k + 1, x6 => some x6
end
def w_ShiftBoth.f (k : Nat) (l0_0 : List (S54)) (l0_1 : List Int) (l1_0 : List (S54)) (l1_1 : List Int) (a2 : Int) : Option (Bool) := (w_few.f l0_0 l0_1).bind fun t566 => (if t566 = true then ((w_few.f l1_0 l1_1).bind fun t567 => (w_ShiftBoth.j0 k a2 (!t567) l0_0 l0_1 l1_0 l1_1)) else (w_ShiftBoth.j0 k a2 true l0_0 l0_1 l1_0 l1_1))
def w_ShiftBoth.T3 : Bool × List (List Nat × List Nat) := (true, [([], []), ([0], [0]), ([], []), ([2, 1], [2]), ([1, 3, 3], [1, 3]), ([4], [4]), ([5], [5]), ([5], [5]), ([], []), ([8, 6, 4, 0, 1, 2, 3, 4, 5, 6, 8], [6, 8]), ([7, 9, 0, 1, 2, 3, 4, 5, 6, 7, 8, 9], [7])])
def w_ShiftBoth.B3 : List Nat := [0, 1, 0, 7, 15, 31, 63, 63, 0, 383, 1023]
theorem w_ShiftBoth.tab3 : rtab .any (opsOf Try.f10 3) = w_ShiftBoth.T3 := by kernel_rfl
theorem w_ShiftBoth.bits3 : waitsOk w_ShiftBoth.T3.2 w_ShiftBoth.B3 = true := by kernel_rfl
set_option maxHeartbeats 8000000 in
set_option maxRecDepth 100000 in
theorem w_ShiftBoth.calls (k : Nat) (A0_0 : Option Addr) (c0_0 : Nat) (l0_0 : List (S54)) (A0_1 : Option Addr) (c0_1 : Nat) (l0_1 : List Int) (A1_0 : Option Addr) (c1_0 : Nat) (l1_0 : List (S54)) (A1_1 : Option Addr) (c1_1 : Nat) (l1_1 : List Int) (a2 : Int) (r : Bool) (w : World) (hr0_0 : Kd.C k54 w A0_0 l0_0.length l0_0) (hc0_0 : l0_0.length ≤ c0_0) (hr0_1 : Kd.C (Kd.int .i64) w A0_1 l0_1.length l0_1) (hc0_1 : l0_1.length ≤ c0_1) (hr1_0 : Kd.C k54 w A1_0 l1_0.length l1_0) (hc1_0 : l1_0.length ≤ c1_0) (hr1_1 : Kd.C (Kd.int .i64) w A1_1 l1_1.length l1_1) (hc1_1 : l1_1.length ≤ c1_1) (h : w_ShiftBoth.f k l0_0 l0_1 l1_0 l1_1 a2 = some r) :
  Calls Try.prog 10 #[.agg #[.slice A0_0 l0_0.length c0_0, .slice A0_1 l0_1.length c0_1], .agg #[.slice A1_0 l1_0.length c1_0, .slice A1_1 l1_1.length c1_1], .int .i64 a2] w fun e w' => e = .returned (.bool r) ∧ Below w.heap.size w w' := by
 have hu25 := Try.underlying25
 have hu31 := Try.underlying31
 have HR0_0 := am hr0_0
 have HC0_0 := am hc0_0
 clear hr0_0 hc0_0
 have HR0_1 := am hr0_1
 have HC0_1 := am hc0_1
 clear hr0_1 hc0_1
 have HR1_0 := am hr1_0
 have HC1_0 := am hc1_0
 clear hr1_0 hc1_0
 have HR1_1 := am hr1_1
 have HC1_1 := am hc1_1
 clear hr1_1 hc1_1
 have HB := am (Below.refl w.heap.size w)
 have H : ((w_few.f l0_0 l0_1).bind fun t566 => (if t566 = true then ((w_few.f l1_0 l1_1).bind fun t567 => (w_ShiftBoth.j0 k a2 (!t567) l0_0 l0_1 l1_0 l1_1)) else (w_ShiftBoth.j0 k a2 true l0_0 l0_1 l1_0 l1_1))) = some r := h
 clear h
 have HC4 := am H
 clear H
 go_enter Try.func10, Try.ntmps10
 go_upto_region 1 with (first | ((with_reducible refine gate_dst (N := 3) rfl ?_); refine box_event ?hg (N := 3) ?hd (cs := #[.slice A0_0 l0_0.length c0_0, .slice A0_1 l0_1.length c0_1]) (t := 25) ?hr ?_; (case hd | hg => rfl); (case hr => first | (go_simp; done) | (go_simp; rfl)); intro gb564 hg w5 hbox hb; have BK564 := am hbox; have GW564 := sG HB hg; have GE564 := sG HB hg; replace HB := bS HB hb; clear hb hbox hg) | ((with_reducible refine gate_dst (N := 4) rfl ?_); refine box_event ?hg (N := 4) ?hd (cs := #[.slice A1_0 l1_0.length c1_0, .slice A1_1 l1_1.length c1_1]) (t := 25) ?hr ?_; (case hd | hg => rfl); (case hr => first | (go_simp; done) | (go_simp; rfl)); intro gb565 hg w6 hbox hb; have BK565 := am hbox; have GW565 := sG HB hg; have GE565 := sG HB hg; replace HB := bS HB hb; have NB564_565 := nL BK564 hg; have NB565_564 := nG BK564 hg; replace BK564 := bB BK564 hb; clear hb hbox hg))
 (try simp only [Act.put, psl])
 go_cut [22] (fun v22 wc => ∃ (kq : Nat) (x22_3 : Bool), v22 = .bool x22_3 ∧ Aside0 (w_ShiftBoth.j0 kq a2 x22_3 l0_0 l0_1 l1_0 l1_1 = some r) ∧ Aside0 (kq ≤ k) ∧ Aside0 (wc.heap[gb564]? = some (.cells #[(.slice A0_0 l0_0.length c0_0), (.slice A0_1 l0_1.length c0_1)] 25 (0, 0))) ∧ Aside0 (wc.heap[gb565]? = some (.cells #[(.slice A1_0 l1_0.length c1_0), (.slice A1_1 l1_1.length c1_1)] 25 (0, 0))) ∧ Aside0 (Below w.heap.size w wc))
 case first =>
  have H := HC4.out
  clear HC4
  replace H := Option.bind_eq_some_iff.mp H
  obtain ⟨t566, A70, H⟩ := H
  replace H : (if t566 = true then ((w_few.f l1_0 l1_1).bind fun t567 => (w_ShiftBoth.j0 k a2 (!t567) l0_0 l0_1 l1_0 l1_1)) else (w_ShiftBoth.j0 k a2 true l0_0 l0_1 l1_0 l1_1)) = some r := H
  have A7 := am A70
  clear A70
  by_cases c8 : t566 = true
  ·subst c8
   have H1 : ((w_few.f l1_0 l1_1).bind fun t567 => (w_ShiftBoth.j0 k a2 (!t567) l0_0 l0_1 l1_0 l1_1)) = some r := by rw [if_pos rfl] at H; exact H
   clear H
   have H := H1
   clear H1
   replace H := Option.bind_eq_some_iff.mp H
   obtain ⟨t567, A90, H⟩ := H
   replace H : (w_ShiftBoth.j0 k a2 (!t567) l0_0 l0_1 l1_0 l1_1) = some r := H
   have A9 := am A90
   clear A90
   have H' := am H
   clear H
   have hnb10 := NB564_565.out
   have hnc10 := NB565_564.out
   have := yC1 BK564
   have := kC1 BK564
   have := bf BK564.out 0
   have := bf BK564.out 1
   go_wp2_with (first | ((with_reducible refine gc (f := 11) rfl ?_); refine goesL_ (some 16) rfl rfl Try.func11 (by kernel_rfl) rfl #[.agg #[.slice A0_0 l0_0.length c0_0, .slice A0_1 l0_1.length c0_1]] rfl (by (try simp only [pml]); first | done | rfl | (simp only [pdt]; rfl)) ?_; (with_reducible refine (w_few.calls _ _ l0_0 _ _ l0_1 true _ ?side1 ?side2 ?side3 ?side4 A7.out).mono ?_); (case side1 => repeat (first | exact (Kd.C_below HR0_0.out HB.out) | (with_reducible refine Kd.C_alloc ?_ _) | (with_reducible refine Kd.C_drewN ?_ _) | (with_reducible refine Kd.C_drew ?_))); (case side2 => exact HC0_0.out); (case side3 => repeat (first | exact (Kd.C_below HR0_1.out HB.out) | (with_reducible refine Kd.C_alloc ?_ _) | (with_reducible refine Kd.C_drewN ?_ _) | (with_reducible refine Kd.C_drew ?_))); (case side4 => exact HC0_1.out); rintro e w12 ⟨rfl, hb⟩; refine ⟨_, rfl, ?_⟩; replace BK564 := bB BK564 hb; replace BK565 := bB BK565 hb; replace HB := bS HB hb; (try clear hb); (try clear hb2); (try clear hk); (try clear hi); obtain ⟨_, _, _, _⟩ := zC2 BK565) | (go_at_call 11; (with_reducible refine (w_few.calls _ _ l1_0 _ _ l1_1 t567 _ ?side1 ?side2 ?side3 ?side4 A9.out).mono ?_); (case side1 => repeat (first | exact (Kd.C_below HR1_0.out HB.out) | (with_reducible refine Kd.C_alloc ?_ _) | (with_reducible refine Kd.C_drewN ?_ _) | (with_reducible refine Kd.C_drew ?_))); (case side2 => exact HC1_0.out); (case side3 => repeat (first | exact (Kd.C_below HR1_1.out HB.out) | (with_reducible refine Kd.C_alloc ?_ _) | (with_reducible refine Kd.C_drewN ?_ _) | (with_reducible refine Kd.C_drew ?_))); (case side4 => exact HC1_1.out); rintro e w14 ⟨rfl, hb⟩; replace BK564 := bB BK564 hb; replace BK565 := bB BK565 hb; replace HB := bS HB hb; (try clear hb); (try clear hb2); (try clear hk); (try clear hi)))
   go_meet
   case rel => exact ⟨_, (!t567), sqD, H', ⟨by first | omega | exact Nat.le_refl _⟩, ⟨fb BK564.out⟩, ⟨fb BK565.out⟩, ⟨fW HB.out⟩⟩
  replace c8 := Bool.eq_false_iff.mpr c8
  subst c8
  have H1 : (w_ShiftBoth.j0 k a2 true l0_0 l0_1 l1_0 l1_1) = some r := by rw [if_neg (show ¬ (false = true) by decide)] at H; exact H
  clear H
  have H := H1
  clear H1
  have H' := am H
  clear H
  have hnb15 := NB564_565.out
  have hnc15 := NB565_564.out
  have := yC1 BK564
  have := kC1 BK564
  have := bf BK564.out 0
  have := bf BK564.out 1
  go_wp2_with (first | ((with_reducible refine gc (f := 11) rfl ?_); refine goesL_ (some 16) rfl rfl Try.func11 (by kernel_rfl) rfl #[.agg #[.slice A0_0 l0_0.length c0_0, .slice A0_1 l0_1.length c0_1]] rfl (by (try simp only [pml]); first | done | rfl | (simp only [pdt]; rfl)) ?_; (with_reducible refine (w_few.calls _ _ l0_0 _ _ l0_1 false _ ?side1 ?side2 ?side3 ?side4 A7.out).mono ?_); (case side1 => repeat (first | exact (Kd.C_below HR0_0.out HB.out) | (with_reducible refine Kd.C_alloc ?_ _) | (with_reducible refine Kd.C_drewN ?_ _) | (with_reducible refine Kd.C_drew ?_))); (case side2 => exact HC0_0.out); (case side3 => repeat (first | exact (Kd.C_below HR0_1.out HB.out) | (with_reducible refine Kd.C_alloc ?_ _) | (with_reducible refine Kd.C_drewN ?_ _) | (with_reducible refine Kd.C_drew ?_))); (case side4 => exact HC0_1.out); rintro e w17 ⟨rfl, hb⟩; refine ⟨_, rfl, ?_⟩; replace BK564 := bB BK564 hb; replace BK565 := bB BK565 hb; replace HB := bS HB hb; (try clear hb); (try clear hb2); (try clear hk); (try clear hi)))
  go_meet
  case rel => exact ⟨_, (true), sqD, H', ⟨by first | omega | exact Nat.le_refl _⟩, ⟨fb BK564.out⟩, ⟨fb BK565.out⟩, ⟨fW HB.out⟩⟩
 case rest =>
  clear HC4
  try clear c1;try clear p2;try clear c8;try clear c10;try clear c11;try clear c15
  obtain ⟨kq, x22_3, rfl, HA, HJ3, BK564, BK565, HB⟩ := hcut
  cases kq with
  | zero => exact absurd HA.out (by simp [w_ShiftBoth.j0])
  | succ kj3 =>
   have H := HA.out
   clear HA
   simp only [w_ShiftBoth.j0] at H
   by_cases c18 : x22_3 = true
   ·subst c18
    have H1 : ((w_awake.f kj3).bind fun t568 => (some t568)) = some r := by rw [if_pos rfl] at H; exact H
    clear H
    have H := H1
    clear H1
    replace H := Option.bind_eq_some_iff.mp H
    obtain ⟨t568, A190, H⟩ := H
    replace H : (some t568) = some r := H
    have A19 := am A190
    clear A190
    obtain rfl := Option.some.inj H
    go_wp2_with (first | ((with_reducible refine gc (f := 12) rfl ?_); refine goesL_ (some 23) rfl rfl Try.func12 (by kernel_rfl) rfl #[] rfl (by (try simp only [pml]); first | done | rfl | (simp only [pdt]; rfl)) ?_; (with_reducible refine (w_awake.calls kj3  t568 _ A19.out).mono ?_); rintro e w20 ⟨rfl, hb⟩; refine ⟨_, rfl, ?_⟩; replace BK564 := bB BK564 hb; replace BK565 := bB BK565 hb; replace HB := bS HB hb; (try clear hb); (try clear hb2); (try clear hk); (try clear hi)))
    go_ret
    exact ⟨sqE, fW HB.out⟩
   ·replace c18 := Bool.eq_false_iff.mpr c18
    subst c18
    have H1 : ((w_ours.f l0_0 l0_1).bind fun bt569 => ((w_ours.f l1_0 l1_1).bind fun bt575 => ((shift_Common.f kj3 bt569.1 bt569.2 bt575.1 bt575.2).bind fun bt581 => (if bt581.2.2 = 0 then ((w_ours.f l0_0 l0_1).bind fun bt590 => ((shift_Open.f kj3 bt590.1 bt590.2 a2).bind fun bt596 => ((w_ours.f l1_0 l1_1).bind fun bt598 => ((shift_Open.f kj3 bt598.1 bt598.2 a2).bind fun bt604 => ((shift_Open.f kj3 bt581.1 bt581.2.1 a2).bind fun bt606 => ((w_awake.f kj3).bind fun t608 => (if t608 = true then (if bt596.2 = bt604.2 then (if bt604.2 = bt606.2 then (if bt596.1 = true then (if (bt606.1 == bt604.1) = true then ((shift_Check.f kj3 bt581.1 bt581.2.1).bind fun t609 => (w_ShiftBoth.j1 kj3 (t609 == 0))) else (w_ShiftBoth.j1 kj3 false)) else (if (bt606.1 == false) = true then ((shift_Check.f kj3 bt581.1 bt581.2.1).bind fun t610 => (w_ShiftBoth.j1 kj3 (t610 == 0))) else (w_ShiftBoth.j1 kj3 false))) else (w_ShiftBoth.j1 kj3 false)) else (w_ShiftBoth.j1 kj3 false)) else (w_ShiftBoth.j1 kj3 false)))))))) else ((w_awake.f kj3).bind fun t589 => (some t589)))))) = some r := by rw [if_neg (show ¬ (false = true) by decide)] at H; exact H
    clear H
    have H := H1
    clear H1
    replace H := Option.bind_eq_some_iff.mp H
    obtain ⟨⟨t569, t572⟩, A210, H⟩ := H
    replace H : ((w_ours.f l1_0 l1_1).bind fun bt575 => ((shift_Common.f kj3 t569 t572 bt575.1 bt575.2).bind fun bt581 => (if bt581.2.2 = 0 then ((w_ours.f l0_0 l0_1).bind fun bt590 => ((shift_Open.f kj3 bt590.1 bt590.2 a2).bind fun bt596 => ((w_ours.f l1_0 l1_1).bind fun bt598 => ((shift_Open.f kj3 bt598.1 bt598.2 a2).bind fun bt604 => ((shift_Open.f kj3 bt581.1 bt581.2.1 a2).bind fun bt606 => ((w_awake.f kj3).bind fun t608 => (if t608 = true then (if bt596.2 = bt604.2 then (if bt604.2 = bt606.2 then (if bt596.1 = true then (if (bt606.1 == bt604.1) = true then ((shift_Check.f kj3 bt581.1 bt581.2.1).bind fun t609 => (w_ShiftBoth.j1 kj3 (t609 == 0))) else (w_ShiftBoth.j1 kj3 false)) else (if (bt606.1 == false) = true then ((shift_Check.f kj3 bt581.1 bt581.2.1).bind fun t610 => (w_ShiftBoth.j1 kj3 (t610 == 0))) else (w_ShiftBoth.j1 kj3 false))) else (w_ShiftBoth.j1 kj3 false)) else (w_ShiftBoth.j1 kj3 false)) else (w_ShiftBoth.j1 kj3 false)))))))) else ((w_awake.f kj3).bind fun t589 => (some t589))))) = some r := H
    have A21 := am A210
    clear A210
    replace H := Option.bind_eq_some_iff.mp H
    obtain ⟨⟨t575, t578⟩, A220, H⟩ := H
    replace H : ((shift_Common.f kj3 t569 t572 t575 t578).bind fun bt581 => (if bt581.2.2 = 0 then ((w_ours.f l0_0 l0_1).bind fun bt590 => ((shift_Open.f kj3 bt590.1 bt590.2 a2).bind fun bt596 => ((w_ours.f l1_0 l1_1).bind fun bt598 => ((shift_Open.f kj3 bt598.1 bt598.2 a2).bind fun bt604 => ((shift_Open.f kj3 bt581.1 bt581.2.1 a2).bind fun bt606 => ((w_awake.f kj3).bind fun t608 => (if t608 = true then (if bt596.2 = bt604.2 then (if bt604.2 = bt606.2 then (if bt596.1 = true then (if (bt606.1 == bt604.1) = true then ((shift_Check.f kj3 bt581.1 bt581.2.1).bind fun t609 => (w_ShiftBoth.j1 kj3 (t609 == 0))) else (w_ShiftBoth.j1 kj3 false)) else (if (bt606.1 == false) = true then ((shift_Check.f kj3 bt581.1 bt581.2.1).bind fun t610 => (w_ShiftBoth.j1 kj3 (t610 == 0))) else (w_ShiftBoth.j1 kj3 false))) else (w_ShiftBoth.j1 kj3 false)) else (w_ShiftBoth.j1 kj3 false)) else (w_ShiftBoth.j1 kj3 false)))))))) else ((w_awake.f kj3).bind fun t589 => (some t589)))) = some r := H
    have A22 := am A220
    clear A220
    replace H := Option.bind_eq_some_iff.mp H
    obtain ⟨⟨t581, t584, t587⟩, A230, H⟩ := H
    replace H : (if t587 = 0 then ((w_ours.f l0_0 l0_1).bind fun bt590 => ((shift_Open.f kj3 bt590.1 bt590.2 a2).bind fun bt596 => ((w_ours.f l1_0 l1_1).bind fun bt598 => ((shift_Open.f kj3 bt598.1 bt598.2 a2).bind fun bt604 => ((shift_Open.f kj3 t581 t584 a2).bind fun bt606 => ((w_awake.f kj3).bind fun t608 => (if t608 = true then (if bt596.2 = bt604.2 then (if bt604.2 = bt606.2 then (if bt596.1 = true then (if (bt606.1 == bt604.1) = true then ((shift_Check.f kj3 t581 t584).bind fun t609 => (w_ShiftBoth.j1 kj3 (t609 == 0))) else (w_ShiftBoth.j1 kj3 false)) else (if (bt606.1 == false) = true then ((shift_Check.f kj3 t581 t584).bind fun t610 => (w_ShiftBoth.j1 kj3 (t610 == 0))) else (w_ShiftBoth.j1 kj3 false))) else (w_ShiftBoth.j1 kj3 false)) else (w_ShiftBoth.j1 kj3 false)) else (w_ShiftBoth.j1 kj3 false)))))))) else ((w_awake.f kj3).bind fun t589 => (some t589))) = some r := H
    have A23 := am A230
    clear A230
    by_cases c24 : t587 = 0
    ·rw [if_pos c24] at H
     have c24b0 : (t587 == 0) = true := beq_iff_eq.mpr c24
     have c24b1 : (t587 != 0) = false := bne_eq_false_iff_eq.mpr c24
     clear c24
     replace H := Option.bind_eq_some_iff.mp H
     obtain ⟨⟨t590, t593⟩, A250, H⟩ := H
     replace H : ((shift_Open.f kj3 t590 t593 a2).bind fun bt596 => ((w_ours.f l1_0 l1_1).bind fun bt598 => ((shift_Open.f kj3 bt598.1 bt598.2 a2).bind fun bt604 => ((shift_Open.f kj3 t581 t584 a2).bind fun bt606 => ((w_awake.f kj3).bind fun t608 => (if t608 = true then (if bt596.2 = bt604.2 then (if bt604.2 = bt606.2 then (if bt596.1 = true then (if (bt606.1 == bt604.1) = true then ((shift_Check.f kj3 t581 t584).bind fun t609 => (w_ShiftBoth.j1 kj3 (t609 == 0))) else (w_ShiftBoth.j1 kj3 false)) else (if (bt606.1 == false) = true then ((shift_Check.f kj3 t581 t584).bind fun t610 => (w_ShiftBoth.j1 kj3 (t610 == 0))) else (w_ShiftBoth.j1 kj3 false))) else (w_ShiftBoth.j1 kj3 false)) else (w_ShiftBoth.j1 kj3 false)) else (w_ShiftBoth.j1 kj3 false))))))) = some r := H
     have A25 := am A250
     clear A250
     replace H := Option.bind_eq_some_iff.mp H
     obtain ⟨⟨t596, t597⟩, A260, H⟩ := H
     replace H : ((w_ours.f l1_0 l1_1).bind fun bt598 => ((shift_Open.f kj3 bt598.1 bt598.2 a2).bind fun bt604 => ((shift_Open.f kj3 t581 t584 a2).bind fun bt606 => ((w_awake.f kj3).bind fun t608 => (if t608 = true then (if t597 = bt604.2 then (if bt604.2 = bt606.2 then (if t596 = true then (if (bt606.1 == bt604.1) = true then ((shift_Check.f kj3 t581 t584).bind fun t609 => (w_ShiftBoth.j1 kj3 (t609 == 0))) else (w_ShiftBoth.j1 kj3 false)) else (if (bt606.1 == false) = true then ((shift_Check.f kj3 t581 t584).bind fun t610 => (w_ShiftBoth.j1 kj3 (t610 == 0))) else (w_ShiftBoth.j1 kj3 false))) else (w_ShiftBoth.j1 kj3 false)) else (w_ShiftBoth.j1 kj3 false)) else (w_ShiftBoth.j1 kj3 false)))))) = some r := H
     have A26 := am A260
     clear A260
     replace H := Option.bind_eq_some_iff.mp H
     obtain ⟨⟨t598, t601⟩, A270, H⟩ := H
     replace H : ((shift_Open.f kj3 t598 t601 a2).bind fun bt604 => ((shift_Open.f kj3 t581 t584 a2).bind fun bt606 => ((w_awake.f kj3).bind fun t608 => (if t608 = true then (if t597 = bt604.2 then (if bt604.2 = bt606.2 then (if t596 = true then (if (bt606.1 == bt604.1) = true then ((shift_Check.f kj3 t581 t584).bind fun t609 => (w_ShiftBoth.j1 kj3 (t609 == 0))) else (w_ShiftBoth.j1 kj3 false)) else (if (bt606.1 == false) = true then ((shift_Check.f kj3 t581 t584).bind fun t610 => (w_ShiftBoth.j1 kj3 (t610 == 0))) else (w_ShiftBoth.j1 kj3 false))) else (w_ShiftBoth.j1 kj3 false)) else (w_ShiftBoth.j1 kj3 false)) else (w_ShiftBoth.j1 kj3 false))))) = some r := H
     have A27 := am A270
     clear A270
     replace H := Option.bind_eq_some_iff.mp H
     obtain ⟨⟨t604, t605⟩, A280, H⟩ := H
     replace H : ((shift_Open.f kj3 t581 t584 a2).bind fun bt606 => ((w_awake.f kj3).bind fun t608 => (if t608 = true then (if t597 = t605 then (if t605 = bt606.2 then (if t596 = true then (if (bt606.1 == t604) = true then ((shift_Check.f kj3 t581 t584).bind fun t609 => (w_ShiftBoth.j1 kj3 (t609 == 0))) else (w_ShiftBoth.j1 kj3 false)) else (if (bt606.1 == false) = true then ((shift_Check.f kj3 t581 t584).bind fun t610 => (w_ShiftBoth.j1 kj3 (t610 == 0))) else (w_ShiftBoth.j1 kj3 false))) else (w_ShiftBoth.j1 kj3 false)) else (w_ShiftBoth.j1 kj3 false)) else (w_ShiftBoth.j1 kj3 false)))) = some r := H
     have A28 := am A280
     clear A280
     replace H := Option.bind_eq_some_iff.mp H
     obtain ⟨⟨t606, t607⟩, A290, H⟩ := H
     replace H : ((w_awake.f kj3).bind fun t608 => (if t608 = true then (if t597 = t605 then (if t605 = t607 then (if t596 = true then (if (t606 == t604) = true then ((shift_Check.f kj3 t581 t584).bind fun t609 => (w_ShiftBoth.j1 kj3 (t609 == 0))) else (w_ShiftBoth.j1 kj3 false)) else (if (t606 == false) = true then ((shift_Check.f kj3 t581 t584).bind fun t610 => (w_ShiftBoth.j1 kj3 (t610 == 0))) else (w_ShiftBoth.j1 kj3 false))) else (w_ShiftBoth.j1 kj3 false)) else (w_ShiftBoth.j1 kj3 false)) else (w_ShiftBoth.j1 kj3 false))) = some r := H
     have A29 := am A290
     clear A290
     have HC30 := am H
     clear H
     try go_wp2
     have n0_ := am (bd BK564.out)
     have n1_ := am (bd BK565.out)
     have n2_ := am (below_drew1 HB.out)
     clear BK564 BK565 HB
     have BK564 := n0_
     have BK565 := n1_
     have HB := n2_
     clear n0_ n1_ n2_
     refine start_ (n := 11) (S := fun w' => w'.cell? ⟨gb564, 0, none⟩ = some (.slice A0_0 l0_0.length c0_0) ∧ w'.cell? ⟨gb564, 1, none⟩ = some (.slice A0_1 l0_1.length c0_1) ∧ w'.cell? ⟨gb565, 0, none⟩ = some (.slice A1_0 l1_0.length c1_0) ∧ w'.cell? ⟨gb565, 1, none⟩ = some (.slice A1_1 l1_1.length c1_1)) (ds := []) #[F,F,F,F,F,F,F,F,F,F,F] (by kernel_rfl) rfl rfl ⟨(bc BK564.out 0).trans rfl, (bc BK564.out 1).trans rfl, (bc BK565.out 0).trans rfl, (bc BK565.out 1).trans rfl⟩ (fun hHeld => ?_); refine with_tabW w_ShiftBoth.tab3 w_ShiftBoth.bits3 (fun HT_ HW_ => ?_)
     generalize wc.drew = w31 at BK564 BK565 HB hHeld ⊢
     refine tk (i := 0) (N := some 25) (fl 11 1 []) HT_ HW_ hHeld ?_
     refine tk (i := 2) (N := some 27) (fl 11 1 [2]) HT_ HW_ hHeld ?_
     refine join_ (σ := Value × Value × Value × Value × Value × Value × Nat) 2 #[T,T,T,T,T,T,T,T,T,F,F] (fun s_ => [(26, .agg #[s_.1, s_.2.1]), (28, .agg #[s_.2.2.1, s_.2.2.2.1]), (29, .tuple #[.agg #[s_.2.2.2.2.1, s_.2.2.2.2.2.1], .int .i64 t587]), (7, .pointer (some ⟨s_.2.2.2.2.2.2, 0, none⟩)), (24, .tuple #[.agg #[s_.2.2.2.2.1, s_.2.2.2.2.2.1], .int .i64 t587]), (30, .agg #[s_.2.2.2.2.1, s_.2.2.2.2.2.1]), (31, .int .i64 t587)]) (fun s_ w' => (w'.cell? ⟨gb564, 0, none⟩ = some (.slice A0_0 l0_0.length c0_0) ∧ w'.cell? ⟨gb564, 1, none⟩ = some (.slice A0_1 l0_1.length c0_1) ∧ w'.cell? ⟨gb565, 0, none⟩ = some (.slice A1_0 l1_0.length c1_0) ∧ w'.cell? ⟨gb565, 1, none⟩ = some (.slice A1_1 l1_1.length c1_1)) ∧ (Kd.V k54 54 w' w.heap.size (fun k_ => some k_ ≠ (s_.2.2.2.2.1 : Value).ownBlock ∧ some k_ ≠ (s_.2.2.2.2.2.1 : Value).ownBlock ∧ k_ ≠ gb564 ∧ k_ ≠ gb565 ∧ k_ ≠ s_.2.2.2.2.2.2) s_.1 t569) ∧ (Kd.V (Kd.int .i64) 3 w' w.heap.size (fun k_ => some k_ ≠ (s_.2.2.2.2.1 : Value).ownBlock ∧ some k_ ≠ (s_.2.2.2.2.2.1 : Value).ownBlock ∧ k_ ≠ gb564 ∧ k_ ≠ gb565 ∧ k_ ≠ s_.2.2.2.2.2.2) s_.2.1 t572) ∧ (Kd.V k54 54 w' w.heap.size (fun k_ => some k_ ≠ (s_.2.2.2.2.1 : Value).ownBlock ∧ some k_ ≠ (s_.2.2.2.2.2.1 : Value).ownBlock ∧ k_ ≠ gb564 ∧ k_ ≠ gb565 ∧ k_ ≠ s_.2.2.2.2.2.2) s_.2.2.1 t575) ∧ (Kd.V (Kd.int .i64) 3 w' w.heap.size (fun k_ => some k_ ≠ (s_.2.2.2.2.1 : Value).ownBlock ∧ some k_ ≠ (s_.2.2.2.2.2.1 : Value).ownBlock ∧ k_ ≠ gb564 ∧ k_ ≠ gb565 ∧ k_ ≠ s_.2.2.2.2.2.2) s_.2.2.2.1 t578) ∧ (Kd.R k54 54 w' w.heap.size (fun _ => True) s_.2.2.2.2.1 t581) ∧ (Kd.R (Kd.int .i64) 3 w' w.heap.size (fun _ => True) s_.2.2.2.2.2.1 t584) ∧ (w'.heap[gb564]? = some (.cells #[.slice A0_0 l0_0.length c0_0, .slice A0_1 l0_1.length c0_1] 25 (0, 0))) ∧ (w'.heap[gb565]? = some (.cells #[.slice A1_0 l1_0.length c1_0, .slice A1_1 l1_1.length c1_1] 25 (0, 0))) ∧ (w'.heap[s_.2.2.2.2.2.2]? = some (.cells #[.slice none 0 0, .slice none 0 0] 31 (0, 0))) ∧ (w.heap.size ≤ s_.2.2.2.2.2.2) ∧ (w.heap.size ≤ s_.2.2.2.2.2.2) ∧ (gb564 ≠ s_.2.2.2.2.2.2) ∧ (s_.2.2.2.2.2.2 ≠ gb564) ∧ (gb565 ≠ s_.2.2.2.2.2.2) ∧ (s_.2.2.2.2.2.2 ≠ gb565) ∧ (Below w.heap.size w w')) ?_ ?_
     rotate_left
     ·intro hCont
      refine two_ (i := 1) (j := 8) (Ni := some 26) (Nj := some 7) #[T,T,T,F,F,F,F,F,F,F,F] (fl 11 1 [2, 8]) rfl rfl rfl rfl (two_of HT_.out (by kernel_rfl)) (by decide) (by decide) (fun K hK => ?_) (fun K hK => ?_)
      ·skip
       refine goes_ Try.func14 (by kernel_rfl) rfl #[.agg #[.slice A0_0 l0_0.length c0_0, .slice A0_1 l0_1.length c0_1]] (by rfl) rfl rfl (by (try simp only [pml]); first | done | rfl | (simp only [pdt]; rfl)) ?_
       with_reducible refine (w_ours.calls (fun k_ => k_ < w.heap.size) _ _ l0_0 (fun k_ => k_ < w.heap.size) _ _ l0_1 t569 t572 _ ?side1 ?side2 A21.out).mono ?_
       (case side1 => exact Kd.V_mk HC0_0.out (Kd.F_below (Kd.C_F k54_heap HR0_0.out) (fW HB.out)))
       (case side2 => exact Kd.V_mk HC0_1.out (Kd.F_below (Kd.C_F (Kd.heap_int .i64) HR0_1.out) (fW HB.out)))
       rintro e w32 ⟨v570, v573, rfl, ho0, ho1, hb⟩
       refine ⟨_, rfl, ?_⟩
       have n0_ := am (Kd.V_lower (Kd.V_mono (ok' := fun k_ => k_ ≠ gb564 ∧ k_ ≠ gb565) ho0 (fun k_ hk_ => ⟨Or.elim hk_ (fun hs_ => Or.elim hs_ (fun hs_ => fun e_ => Nat.not_le.2 hs_ (by rw [e_]; exact GW564.out)) (fun hs_ => fun e_ => Nat.not_le.2 hs_ (by rw [e_]; exact GW564.out))) (fun hn_ => (Kd.freshB (g := gb564) (o := .cells #[.slice A0_0 l0_0.length c0_0, .slice A0_1 l0_1.length c0_1] 25 (0, 0)) (fb BK564.out) k_ hn_)), Or.elim hk_ (fun hs_ => Or.elim hs_ (fun hs_ => fun e_ => Nat.not_le.2 hs_ (by rw [e_]; exact GW565.out)) (fun hs_ => fun e_ => Nat.not_le.2 hs_ (by rw [e_]; exact GW565.out))) (fun hn_ => (Kd.freshB (g := gb565) (o := .cells #[.slice A1_0 l1_0.length c1_0, .slice A1_1 l1_1.length c1_1] 25 (0, 0)) (fb BK565.out) k_ hn_))⟩)) (wz (fW HB.out)))
       have n1_ := am (Kd.V_lower (Kd.V_mono (ok' := fun k_ => k_ ≠ gb564 ∧ k_ ≠ gb565) ho1 (fun k_ hk_ => ⟨Or.elim hk_ (fun hs_ => Or.elim hs_ (fun hs_ => fun e_ => Nat.not_le.2 hs_ (by rw [e_]; exact GW564.out)) (fun hs_ => fun e_ => Nat.not_le.2 hs_ (by rw [e_]; exact GW564.out))) (fun hn_ => (Kd.freshB (g := gb564) (o := .cells #[.slice A0_0 l0_0.length c0_0, .slice A0_1 l0_1.length c0_1] 25 (0, 0)) (fb BK564.out) k_ hn_)), Or.elim hk_ (fun hs_ => Or.elim hs_ (fun hs_ => fun e_ => Nat.not_le.2 hs_ (by rw [e_]; exact GW565.out)) (fun hs_ => fun e_ => Nat.not_le.2 hs_ (by rw [e_]; exact GW565.out))) (fun hn_ => (Kd.freshB (g := gb565) (o := .cells #[.slice A1_0 l1_0.length c1_0, .slice A1_1 l1_1.length c1_1] 25 (0, 0)) (fb BK565.out) k_ hn_))⟩)) (wz (fW HB.out)))
       have n2_ := bB BK564 hb
       have n3_ := bB BK565 hb
       have n4_ := bS HB hb
       clear BK564 BK565 HB
       have HO571 := n0_
       have HO574 := n1_
       have BK564 := n2_
       have BK565 := n3_
       have HB := n4_
       clear n0_ n1_ n2_ n3_ n4_
       (try clear hb)
       (try clear hb2)
       (try clear hk)
       (try clear hi)
       (try clear ho0)
       (try clear ho1)
       refine hK.out _ _ ⟨(bc BK564.out 0).trans rfl, (bc BK564.out 1).trans rfl, (bc BK565.out 0).trans rfl, (bc BK565.out 1).trans rfl⟩ (fun hHeld => ?_)
       clear hK K
       refine norm_ (a' := ?_) ?_ ?_
       rotate_left
       ·show Act.put _ (some 26) _ = _
        simp only [Act.put, psl, i64_w, i32_w]
        rfl
       refine two_ (i := 3) (j := 8) (Ni := some 28) (Nj := some 7) #[T,T,T,T,F,F,F,F,F,F,F] (fl 11 3 [8]) rfl rfl rfl rfl (two_of HT_.out (by kernel_rfl)) (by decide) (by decide) (fun K hK => ?_) (fun K hK => ?_)
       ·skip
        refine goes_ Try.func14 (by kernel_rfl) rfl #[.agg #[.slice A1_0 l1_0.length c1_0, .slice A1_1 l1_1.length c1_1]] (by rfl) rfl rfl (by (try simp only [pml]); first | done | rfl | (simp only [pdt]; rfl)) ?_
        with_reducible refine (w_ours.calls (fun k_ => k_ < w.heap.size) _ _ l1_0 (fun k_ => k_ < w.heap.size) _ _ l1_1 t575 t578 _ ?side1 ?side2 A22.out).mono ?_
        (case side1 => exact Kd.V_mk HC1_0.out (Kd.F_below (Kd.C_F k54_heap HR1_0.out) (fW HB.out)))
        (case side2 => exact Kd.V_mk HC1_1.out (Kd.F_below (Kd.C_F (Kd.heap_int .i64) HR1_1.out) (fW HB.out)))
        rintro e w33 ⟨v576, v579, rfl, ho0, ho1, hb⟩
        refine ⟨_, rfl, ?_⟩
        have n0_ := dV HO571 hb
        have n1_ := dV HO574 hb
        have n2_ := am (Kd.V_lower (Kd.V_mono (ok' := fun k_ => k_ ≠ gb564 ∧ k_ ≠ gb565) ho0 (fun k_ hk_ => ⟨Or.elim hk_ (fun hs_ => Or.elim hs_ (fun hs_ => fun e_ => Nat.not_le.2 hs_ (by rw [e_]; exact GW564.out)) (fun hs_ => fun e_ => Nat.not_le.2 hs_ (by rw [e_]; exact GW564.out))) (fun hn_ => (Kd.freshB (g := gb564) (o := .cells #[.slice A0_0 l0_0.length c0_0, .slice A0_1 l0_1.length c0_1] 25 (0, 0)) (fb BK564.out) k_ hn_)), Or.elim hk_ (fun hs_ => Or.elim hs_ (fun hs_ => fun e_ => Nat.not_le.2 hs_ (by rw [e_]; exact GW565.out)) (fun hs_ => fun e_ => Nat.not_le.2 hs_ (by rw [e_]; exact GW565.out))) (fun hn_ => (Kd.freshB (g := gb565) (o := .cells #[.slice A1_0 l1_0.length c1_0, .slice A1_1 l1_1.length c1_1] 25 (0, 0)) (fb BK565.out) k_ hn_))⟩)) (wz (fW HB.out)))
        have n3_ := am (Kd.V_lower (Kd.V_mono (ok' := fun k_ => k_ ≠ gb564 ∧ k_ ≠ gb565) ho1 (fun k_ hk_ => ⟨Or.elim hk_ (fun hs_ => Or.elim hs_ (fun hs_ => fun e_ => Nat.not_le.2 hs_ (by rw [e_]; exact GW564.out)) (fun hs_ => fun e_ => Nat.not_le.2 hs_ (by rw [e_]; exact GW564.out))) (fun hn_ => (Kd.freshB (g := gb564) (o := .cells #[.slice A0_0 l0_0.length c0_0, .slice A0_1 l0_1.length c0_1] 25 (0, 0)) (fb BK564.out) k_ hn_)), Or.elim hk_ (fun hs_ => Or.elim hs_ (fun hs_ => fun e_ => Nat.not_le.2 hs_ (by rw [e_]; exact GW565.out)) (fun hs_ => fun e_ => Nat.not_le.2 hs_ (by rw [e_]; exact GW565.out))) (fun hn_ => (Kd.freshB (g := gb565) (o := .cells #[.slice A1_0 l1_0.length c1_0, .slice A1_1 l1_1.length c1_1] 25 (0, 0)) (fb BK565.out) k_ hn_))⟩)) (wz (fW HB.out)))
        have n4_ := bB BK564 hb
        have n5_ := bB BK565 hb
        have n6_ := bS HB hb
        clear HO571 HO574 BK564 BK565 HB
        have HO571 := n0_
        have HO574 := n1_
        have HO577 := n2_
        have HO580 := n3_
        have BK564 := n4_
        have BK565 := n5_
        have HB := n6_
        clear n0_ n1_ n2_ n3_ n4_ n5_ n6_
        (try clear hb)
        (try clear hb2)
        (try clear hk)
        (try clear hi)
        (try clear ho0)
        (try clear ho1)
        obtain ⟨Ao34, co34, eo34⟩ := Kd.V_slice HO571.out
        (first | subst eo34 | (injection eo34 with f1_ f2_ f3_; have f4_ := f1_.symm; have f5_ := f3_.symm; clear f1_ f2_ f3_; subst f4_; subst f5_))
        obtain ⟨Ao35, co35, eo35⟩ := Kd.V_slice HO574.out
        (first | subst eo35 | (injection eo35 with f1_ f2_ f3_; have f4_ := f1_.symm; have f5_ := f3_.symm; clear f1_ f2_ f3_; subst f4_; subst f5_))
        obtain ⟨Ao36, co36, eo36⟩ := Kd.V_slice HO577.out
        (first | subst eo36 | (injection eo36 with f1_ f2_ f3_; have f4_ := f1_.symm; have f5_ := f3_.symm; clear f1_ f2_ f3_; subst f4_; subst f5_))
        obtain ⟨Ao37, co37, eo37⟩ := Kd.V_slice HO580.out
        (first | subst eo37 | (injection eo37 with f1_ f2_ f3_; have f4_ := f1_.symm; have f5_ := f3_.symm; clear f1_ f2_ f3_; subst f4_; subst f5_))
        refine hK.out _ _ ⟨(bc BK564.out 0).trans rfl, (bc BK564.out 1).trans rfl, (bc BK565.out 0).trans rfl, (bc BK565.out 1).trans rfl⟩ (fun hHeld => ?_)
        clear hK K
        refine norm_ (a' := ?_) ?_ ?_
        rotate_left
        ·show Act.put _ (some 28) _ = _
         simp only [Act.put, psl, i64_w, i32_w]
         rfl
        refine two_ (i := 4) (j := 8) (Ni := some 29) (Nj := some 7) #[T,T,T,T,T,F,F,F,F,F,F] (fl 11 4 [8]) rfl rfl rfl rfl (two_of HT_.out (by kernel_rfl)) (by decide) (by decide) (fun K hK => ?_) (fun K hK => ?_)
        ·skip
         refine goes_ Try.func32 (by kernel_rfl) rfl #[.agg #[.slice Ao34 t569.length co34, .slice Ao35 t572.length co35], .agg #[.slice Ao36 t575.length co36, .slice Ao37 t578.length co37]] (by rfl) rfl rfl (by (try simp only [pml]); first | done | rfl | (simp only [pdt]; rfl)) ?_
         with_reducible refine (shift_Common.calls kj3 (fun k_ => (k_ ≠ gb564 ∧ k_ ≠ gb565)) _ _ t569 (fun k_ => (k_ ≠ gb564 ∧ k_ ≠ gb565)) _ _ t572 (fun k_ => (k_ ≠ gb564 ∧ k_ ≠ gb565)) _ _ t575 (fun k_ => (k_ ≠ gb564 ∧ k_ ≠ gb565)) _ _ t578 t581 t584 t587 _ ?side1 ?side2 ?side3 ?side4 A23.out).mono ?_
         (case side1 => exact HO571.out)
         (case side2 => exact HO574.out)
         (case side3 => exact HO577.out)
         (case side4 => exact HO580.out)
         rintro e w38 ⟨v582, v585, rfl, ho0, ho1, hb⟩
         refine ⟨_, rfl, ?_⟩
         have n0_ := am (Kd.V_mono (Kd.V_told (Kd.V_told (Kd.V_old (fV HO571.out) hb) (Kd.R_base ho0)) (Kd.R_base ho1)) (fun _ h_ => h_.1))
         have n1_ := am (Kd.V_mono (Kd.V_told (Kd.V_told (Kd.V_old (fV HO574.out) hb) (Kd.R_base ho0)) (Kd.R_base ho1)) (fun _ h_ => h_.1))
         have n2_ := am (Kd.V_mono (Kd.V_told (Kd.V_told (Kd.V_old (fV HO577.out) hb) (Kd.R_base ho0)) (Kd.R_base ho1)) (fun _ h_ => h_.1))
         have n3_ := am (Kd.V_mono (Kd.V_told (Kd.V_told (Kd.V_old (fV HO580.out) hb) (Kd.R_base ho0)) (Kd.R_base ho1)) (fun _ h_ => h_.1))
         have n4_ := am (Kd.R_lower (Kd.R_mono (ok' := fun k_ => True) ho0 (fun _ hk_ => trivial)) (wz (fW HB.out)))
         have n5_ := am (Kd.R_lower (Kd.R_mono (ok' := fun k_ => True) ho1 (fun _ hk_ => trivial)) (wz (fW HB.out)))
         have n6_ := bB BK564 hb
         have n7_ := bB BK565 hb
         have n8_ := bS HB hb
         clear HO571 HO574 HO577 HO580 BK564 BK565 HB
         have HO571 := n0_
         have HO574 := n1_
         have HO577 := n2_
         have HO580 := n3_
         have HO583 := n4_
         have HO586 := n5_
         have BK564 := n6_
         have BK565 := n7_
         have HB := n8_
         clear n0_ n1_ n2_ n3_ n4_ n5_ n6_ n7_ n8_
         (try clear hb)
         (try clear hb2)
         (try clear hk)
         (try clear hi)
         (try clear ho0)
         (try clear ho1)
         refine hK.out _ _ ⟨(bc BK564.out 0).trans rfl, (bc BK564.out 1).trans rfl, (bc BK565.out 0).trans rfl, (bc BK565.out 1).trans rfl⟩ (fun hHeld => ?_)
         clear hK K
         refine norm_ (a' := ?_) ?_ ?_
         rotate_left
         ·show Act.put _ (some 29) _ = _
          simp only [Act.put, psl, i64_w, i32_w]
          rfl
         refine pu (i := 5) (N := some 24) (fl 11 6 []) HT_ ?_
         refine pu (i := 6) (N := some 30) (fl 11 7 []) HT_ ?_
         refine pu (i := 7) (N := some 31) (fl 11 8 []) HT_ ?_
         refine one_ (i := 8) (N := some 7) (fl 11 9 []) rfl rfl (one_of HT_.out (by kernel_rfl)) (by decide) (fun K hK => ?_)
         refine box_step ?hg (N := 7) ?hd (cs := #[.slice none 0 0, .slice none 0 0]) (t := 31) ?hr ?_; (case hd | hg => rfl); (case hr => first | (go_simp; done) | (go_simp; rfl))
         intro gb588 hg w39 hbox hb
         have n0_ := eV HO571 hg hb
         have n1_ := eV HO574 hg hb
         have n2_ := eV HO577 hg hb
         have n3_ := eV HO580 hg hb
         have n4_ := dR HO583 hb
         have n5_ := dR HO586 hb
         have n6_ := bB BK564 hb
         have n7_ := bB BK565 hb
         have n8_ := bS HB hb
         have n9_ := am hbox
         have n10_ := sG HB hg
         have n11_ := sG HB hg
         have n12_ := nL BK564 hg
         have n13_ := nG BK564 hg
         have n14_ := nL BK565 hg
         have n15_ := nG BK565 hg
         clear HO571 HO574 HO577 HO580 HO583 HO586 BK564 BK565 HB
         have HO571 := n0_
         have HO574 := n1_
         have HO577 := n2_
         have HO580 := n3_
         have HO583 := n4_
         have HO586 := n5_
         have BK564 := n6_
         have BK565 := n7_
         have HB := n8_
         have BK588 := n9_
         have GW588 := n10_
         have GE588 := n11_
         have NB564_588 := n12_
         have NB588_564 := n13_
         have NB565_588 := n14_
         have NB588_565 := n15_
         clear n0_ n1_ n2_ n3_ n4_ n5_ n6_ n7_ n8_ n9_ n10_ n11_ n12_ n13_ n14_ n15_ hb hbox hg
         refine hK.out _ _ ⟨(bc BK564.out 0).trans rfl, (bc BK564.out 1).trans rfl, (bc BK565.out 0).trans rfl, (bc BK565.out 1).trans rfl⟩ (fun hHeld => ?_)
         clear hK K
         refine norm_ (a' := ?_) ?_ ?_
         rotate_left
         ·show Act.put _ (some 7) _ = _
          simp only [Act.put, psl, i64_w, i32_w]
          rfl
         exact norm_ (by simp only [putAll, Act.put, psl]) (hCont (.slice Ao34 t569.length co34, .slice Ao35 t572.length co35, .slice Ao36 t575.length co36, .slice Ao37 t578.length co37, v582, v585, gb588) _ ⟨hHeld, (by (with_reducible repeat (first | apply Kd.V_alloc | apply Kd.V_drewN | apply Kd.V_drew)); exact Kd.V_mono HO571.out (fun _ hk => ⟨hk.1.1.2, ⟨hk.1.2, ⟨hk.1.1.1.1, ⟨hk.1.1.1.2, hk.2⟩⟩⟩⟩)), (by (with_reducible repeat (first | apply Kd.V_alloc | apply Kd.V_drewN | apply Kd.V_drew)); exact Kd.V_mono HO574.out (fun _ hk => ⟨hk.1.1.2, ⟨hk.1.2, ⟨hk.1.1.1.1, ⟨hk.1.1.1.2, hk.2⟩⟩⟩⟩)), (by (with_reducible repeat (first | apply Kd.V_alloc | apply Kd.V_drewN | apply Kd.V_drew)); exact Kd.V_mono HO577.out (fun _ hk => ⟨hk.1.1.2, ⟨hk.1.2, ⟨hk.1.1.1.1, ⟨hk.1.1.1.2, hk.2⟩⟩⟩⟩)), (by (with_reducible repeat (first | apply Kd.V_alloc | apply Kd.V_drewN | apply Kd.V_drew)); exact Kd.V_mono HO580.out (fun _ hk => ⟨hk.1.1.2, ⟨hk.1.2, ⟨hk.1.1.1.1, ⟨hk.1.1.1.2, hk.2⟩⟩⟩⟩)), (fR HO583.out), (fR HO586.out), (fb BK564.out), (fb BK565.out), (fb BK588.out), GW588.out, GE588.out, NB564_588.out, NB588_564.out, NB565_588.out, NB588_565.out, (fW HB.out)⟩)
        skip
        refine box_step ?hg (N := 7) ?hd (cs := #[.slice none 0 0, .slice none 0 0]) (t := 31) ?hr ?_; (case hd | hg => rfl); (case hr => first | (go_simp; done) | (go_simp; rfl))
        intro gb588 hg w34 hbox hb
        have n0_ := eV HO571 hg hb
        have n1_ := eV HO574 hg hb
        have n2_ := eV HO577 hg hb
        have n3_ := eV HO580 hg hb
        have n4_ := bB BK564 hb
        have n5_ := bB BK565 hb
        have n6_ := bS HB hb
        have n7_ := am hbox
        have n8_ := sG HB hg
        have n9_ := sG HB hg
        have n10_ := nL BK564 hg
        have n11_ := nG BK564 hg
        have n12_ := nL BK565 hg
        have n13_ := nG BK565 hg
        clear HO571 HO574 HO577 HO580 BK564 BK565 HB
        have HO571 := n0_
        have HO574 := n1_
        have HO577 := n2_
        have HO580 := n3_
        have BK564 := n4_
        have BK565 := n5_
        have HB := n6_
        have BK588 := n7_
        have GW588 := n8_
        have GE588 := n9_
        have NB564_588 := n10_
        have NB588_564 := n11_
        have NB565_588 := n12_
        have NB588_565 := n13_
        clear n0_ n1_ n2_ n3_ n4_ n5_ n6_ n7_ n8_ n9_ n10_ n11_ n12_ n13_ hb hbox hg
        obtain ⟨Ao35, co35, eo35⟩ := Kd.V_slice HO571.out
        (first | subst eo35 | (injection eo35 with f1_ f2_ f3_; have f4_ := f1_.symm; have f5_ := f3_.symm; clear f1_ f2_ f3_; subst f4_; subst f5_))
        obtain ⟨Ao36, co36, eo36⟩ := Kd.V_slice HO574.out
        (first | subst eo36 | (injection eo36 with f1_ f2_ f3_; have f4_ := f1_.symm; have f5_ := f3_.symm; clear f1_ f2_ f3_; subst f4_; subst f5_))
        obtain ⟨Ao37, co37, eo37⟩ := Kd.V_slice HO577.out
        (first | subst eo37 | (injection eo37 with f1_ f2_ f3_; have f4_ := f1_.symm; have f5_ := f3_.symm; clear f1_ f2_ f3_; subst f4_; subst f5_))
        obtain ⟨Ao38, co38, eo38⟩ := Kd.V_slice HO580.out
        (first | subst eo38 | (injection eo38 with f1_ f2_ f3_; have f4_ := f1_.symm; have f5_ := f3_.symm; clear f1_ f2_ f3_; subst f4_; subst f5_))
        refine hK.out _ _ ⟨(bc BK564.out 0).trans rfl, (bc BK564.out 1).trans rfl, (bc BK565.out 0).trans rfl, (bc BK565.out 1).trans rfl⟩ (fun hHeld => ?_)
        clear hK K
        refine norm_ (a' := ?_) ?_ ?_
        rotate_left
        ·show Act.put _ (some 7) _ = _
         simp only [Act.put, psl, i64_w, i32_w]
         rfl
        refine one_ (i := 4) (N := some 29) (fl 11 5 [8]) rfl rfl (one_of HT_.out (by kernel_rfl)) (by decide) (fun K hK => ?_)
        refine goes_ Try.func32 (by kernel_rfl) rfl #[.agg #[.slice Ao35 t569.length co35, .slice Ao36 t572.length co36], .agg #[.slice Ao37 t575.length co37, .slice Ao38 t578.length co38]] (by rfl) rfl rfl (by (try simp only [pml]); first | done | rfl | (simp only [pdt]; rfl)) ?_
        with_reducible refine (shift_Common.calls kj3 (fun k_ => ((k_ ≠ gb564 ∧ k_ ≠ gb565) ∧ k_ ≠ gb588)) _ _ t569 (fun k_ => ((k_ ≠ gb564 ∧ k_ ≠ gb565) ∧ k_ ≠ gb588)) _ _ t572 (fun k_ => ((k_ ≠ gb564 ∧ k_ ≠ gb565) ∧ k_ ≠ gb588)) _ _ t575 (fun k_ => ((k_ ≠ gb564 ∧ k_ ≠ gb565) ∧ k_ ≠ gb588)) _ _ t578 t581 t584 t587 _ ?side1 ?side2 ?side3 ?side4 A23.out).mono ?_
        (case side1 => exact HO571.out)
        (case side2 => exact HO574.out)
        (case side3 => exact HO577.out)
        (case side4 => exact HO580.out)
        rintro e w39 ⟨v582, v585, rfl, ho0, ho1, hb⟩
        refine ⟨_, rfl, ?_⟩
        have n0_ := am (Kd.V_mono (Kd.V_told (Kd.V_told (Kd.V_old (fV HO571.out) hb) (Kd.R_base ho0)) (Kd.R_base ho1)) (fun _ h_ => h_.1))
        have n1_ := am (Kd.V_mono (Kd.V_told (Kd.V_told (Kd.V_old (fV HO574.out) hb) (Kd.R_base ho0)) (Kd.R_base ho1)) (fun _ h_ => h_.1))
        have n2_ := am (Kd.V_mono (Kd.V_told (Kd.V_told (Kd.V_old (fV HO577.out) hb) (Kd.R_base ho0)) (Kd.R_base ho1)) (fun _ h_ => h_.1))
        have n3_ := am (Kd.V_mono (Kd.V_told (Kd.V_told (Kd.V_old (fV HO580.out) hb) (Kd.R_base ho0)) (Kd.R_base ho1)) (fun _ h_ => h_.1))
        have n4_ := am (Kd.R_lower (Kd.R_mono (ok' := fun k_ => True) ho0 (fun _ hk_ => trivial)) (wz (fW HB.out)))
        have n5_ := am (Kd.R_lower (Kd.R_mono (ok' := fun k_ => True) ho1 (fun _ hk_ => trivial)) (wz (fW HB.out)))
        have n6_ := bB BK564 hb
        have n7_ := bB BK565 hb
        have n8_ := bB BK588 hb
        have n9_ := bS HB hb
        clear HO571 HO574 HO577 HO580 BK564 BK565 BK588 HB
        have HO571 := n0_
        have HO574 := n1_
        have HO577 := n2_
        have HO580 := n3_
        have HO583 := n4_
        have HO586 := n5_
        have BK564 := n6_
        have BK565 := n7_
        have BK588 := n8_
        have HB := n9_
        clear n0_ n1_ n2_ n3_ n4_ n5_ n6_ n7_ n8_ n9_
        (try clear hb)
        (try clear hb2)
        (try clear hk)
        (try clear hi)
        (try clear ho0)
        (try clear ho1)
        refine hK.out _ _ ⟨(bc BK564.out 0).trans rfl, (bc BK564.out 1).trans rfl, (bc BK565.out 0).trans rfl, (bc BK565.out 1).trans rfl⟩ (fun hHeld => ?_)
        clear hK K
        refine norm_ (a' := ?_) ?_ ?_
        rotate_left
        ·show Act.put _ (some 29) _ = _
         simp only [Act.put, psl, i64_w, i32_w]
         rfl
        refine pu (i := 5) (N := some 24) (fl 11 6 [8]) HT_ ?_
        refine pu (i := 6) (N := some 30) (fl 11 7 [8]) HT_ ?_
        refine pu (i := 7) (N := some 31) (fl 11 9 []) HT_ ?_
        exact norm_ (by simp only [putAll, Act.put, psl]) (hCont (.slice Ao35 t569.length co35, .slice Ao36 t572.length co36, .slice Ao37 t575.length co37, .slice Ao38 t578.length co38, v582, v585, gb588) _ ⟨hHeld, (by (with_reducible repeat (first | apply Kd.V_alloc | apply Kd.V_drewN | apply Kd.V_drew)); exact Kd.V_mono HO571.out (fun _ hk => ⟨hk.1.2, ⟨hk.2, ⟨hk.1.1.1.1, ⟨hk.1.1.1.2, hk.1.1.2⟩⟩⟩⟩)), (by (with_reducible repeat (first | apply Kd.V_alloc | apply Kd.V_drewN | apply Kd.V_drew)); exact Kd.V_mono HO574.out (fun _ hk => ⟨hk.1.2, ⟨hk.2, ⟨hk.1.1.1.1, ⟨hk.1.1.1.2, hk.1.1.2⟩⟩⟩⟩)), (by (with_reducible repeat (first | apply Kd.V_alloc | apply Kd.V_drewN | apply Kd.V_drew)); exact Kd.V_mono HO577.out (fun _ hk => ⟨hk.1.2, ⟨hk.2, ⟨hk.1.1.1.1, ⟨hk.1.1.1.2, hk.1.1.2⟩⟩⟩⟩)), (by (with_reducible repeat (first | apply Kd.V_alloc | apply Kd.V_drewN | apply Kd.V_drew)); exact Kd.V_mono HO580.out (fun _ hk => ⟨hk.1.2, ⟨hk.2, ⟨hk.1.1.1.1, ⟨hk.1.1.1.2, hk.1.1.2⟩⟩⟩⟩)), (fR HO583.out), (fR HO586.out), (fb BK564.out), (fb BK565.out), (fb BK588.out), GW588.out, GE588.out, NB564_588.out, NB588_564.out, NB565_588.out, NB588_565.out, (fW HB.out)⟩)
       skip
       refine box_step ?hg (N := 7) ?hd (cs := #[.slice none 0 0, .slice none 0 0]) (t := 31) ?hr ?_; (case hd | hg => rfl); (case hr => first | (go_simp; done) | (go_simp; rfl))
       intro gb588 hg w33 hbox hb
       have n0_ := eV HO571 hg hb
       have n1_ := eV HO574 hg hb
       have n2_ := bB BK564 hb
       have n3_ := bB BK565 hb
       have n4_ := bS HB hb
       have n5_ := am hbox
       have n6_ := sG HB hg
       have n7_ := sG HB hg
       have n8_ := nL BK564 hg
       have n9_ := nG BK564 hg
       have n10_ := nL BK565 hg
       have n11_ := nG BK565 hg
       clear HO571 HO574 BK564 BK565 HB
       have HO571 := n0_
       have HO574 := n1_
       have BK564 := n2_
       have BK565 := n3_
       have HB := n4_
       have BK588 := n5_
       have GW588 := n6_
       have GE588 := n7_
       have NB564_588 := n8_
       have NB588_564 := n9_
       have NB565_588 := n10_
       have NB588_565 := n11_
       clear n0_ n1_ n2_ n3_ n4_ n5_ n6_ n7_ n8_ n9_ n10_ n11_ hb hbox hg
       refine hK.out _ _ ⟨(bc BK564.out 0).trans rfl, (bc BK564.out 1).trans rfl, (bc BK565.out 0).trans rfl, (bc BK565.out 1).trans rfl⟩ (fun hHeld => ?_)
       clear hK K
       refine norm_ (a' := ?_) ?_ ?_
       rotate_left
       ·show Act.put _ (some 7) _ = _
        simp only [Act.put, psl, i64_w, i32_w]
        rfl
       refine one_ (i := 3) (N := some 28) (fl 11 4 [8]) rfl rfl (one_of HT_.out (by kernel_rfl)) (by decide) (fun K hK => ?_)
       refine goes_ Try.func14 (by kernel_rfl) rfl #[.agg #[.slice A1_0 l1_0.length c1_0, .slice A1_1 l1_1.length c1_1]] (by rfl) rfl rfl (by (try simp only [pml]); first | done | rfl | (simp only [pdt]; rfl)) ?_
       with_reducible refine (w_ours.calls (fun k_ => k_ < w.heap.size) _ _ l1_0 (fun k_ => k_ < w.heap.size) _ _ l1_1 t575 t578 _ ?side1 ?side2 A22.out).mono ?_
       (case side1 => exact Kd.V_mk HC1_0.out (Kd.F_below (Kd.C_F k54_heap HR1_0.out) (fW HB.out)))
       (case side2 => exact Kd.V_mk HC1_1.out (Kd.F_below (Kd.C_F (Kd.heap_int .i64) HR1_1.out) (fW HB.out)))
       rintro e w34 ⟨v576, v579, rfl, ho0, ho1, hb⟩
       refine ⟨_, rfl, ?_⟩
       have n0_ := dV HO571 hb
       have n1_ := dV HO574 hb
       have n2_ := am (Kd.V_lower (Kd.V_mono (ok' := fun k_ => k_ ≠ gb564 ∧ k_ ≠ gb565 ∧ k_ ≠ gb588) ho0 (fun k_ hk_ => ⟨Or.elim hk_ (fun hs_ => Or.elim hs_ (fun hs_ => fun e_ => Nat.not_le.2 hs_ (by rw [e_]; exact GW564.out)) (fun hs_ => fun e_ => Nat.not_le.2 hs_ (by rw [e_]; exact GW564.out))) (fun hn_ => (Kd.freshB (g := gb564) (o := .cells #[.slice A0_0 l0_0.length c0_0, .slice A0_1 l0_1.length c0_1] 25 (0, 0)) (fb BK564.out) k_ hn_)), Or.elim hk_ (fun hs_ => Or.elim hs_ (fun hs_ => fun e_ => Nat.not_le.2 hs_ (by rw [e_]; exact GW565.out)) (fun hs_ => fun e_ => Nat.not_le.2 hs_ (by rw [e_]; exact GW565.out))) (fun hn_ => (Kd.freshB (g := gb565) (o := .cells #[.slice A1_0 l1_0.length c1_0, .slice A1_1 l1_1.length c1_1] 25 (0, 0)) (fb BK565.out) k_ hn_)), Or.elim hk_ (fun hs_ => Or.elim hs_ (fun hs_ => fun e_ => Nat.not_le.2 hs_ (by rw [e_]; exact GW588.out)) (fun hs_ => fun e_ => Nat.not_le.2 hs_ (by rw [e_]; exact GW588.out))) (fun hn_ => (Kd.freshB (g := gb588) (o := .cells #[.slice none 0 0, .slice none 0 0] 31 (0, 0)) (fb BK588.out) k_ hn_))⟩)) (wz (fW HB.out)))
       have n3_ := am (Kd.V_lower (Kd.V_mono (ok' := fun k_ => k_ ≠ gb564 ∧ k_ ≠ gb565 ∧ k_ ≠ gb588) ho1 (fun k_ hk_ => ⟨Or.elim hk_ (fun hs_ => Or.elim hs_ (fun hs_ => fun e_ => Nat.not_le.2 hs_ (by rw [e_]; exact GW564.out)) (fun hs_ => fun e_ => Nat.not_le.2 hs_ (by rw [e_]; exact GW564.out))) (fun hn_ => (Kd.freshB (g := gb564) (o := .cells #[.slice A0_0 l0_0.length c0_0, .slice A0_1 l0_1.length c0_1] 25 (0, 0)) (fb BK564.out) k_ hn_)), Or.elim hk_ (fun hs_ => Or.elim hs_ (fun hs_ => fun e_ => Nat.not_le.2 hs_ (by rw [e_]; exact GW565.out)) (fun hs_ => fun e_ => Nat.not_le.2 hs_ (by rw [e_]; exact GW565.out))) (fun hn_ => (Kd.freshB (g := gb565) (o := .cells #[.slice A1_0 l1_0.length c1_0, .slice A1_1 l1_1.length c1_1] 25 (0, 0)) (fb BK565.out) k_ hn_)), Or.elim hk_ (fun hs_ => Or.elim hs_ (fun hs_ => fun e_ => Nat.not_le.2 hs_ (by rw [e_]; exact GW588.out)) (fun hs_ => fun e_ => Nat.not_le.2 hs_ (by rw [e_]; exact GW588.out))) (fun hn_ => (Kd.freshB (g := gb588) (o := .cells #[.slice none 0 0, .slice none 0 0] 31 (0, 0)) (fb BK588.out) k_ hn_))⟩)) (wz (fW HB.out)))
       have n4_ := bB BK564 hb
       have n5_ := bB BK565 hb
       have n6_ := bB BK588 hb
       have n7_ := bS HB hb
       clear HO571 HO574 BK564 BK565 BK588 HB
       have HO571 := n0_
       have HO574 := n1_
       have HO577 := n2_
       have HO580 := n3_
       have BK564 := n4_
       have BK565 := n5_
       have BK588 := n6_
       have HB := n7_
       clear n0_ n1_ n2_ n3_ n4_ n5_ n6_ n7_
       (try clear hb)
       (try clear hb2)
       (try clear hk)
       (try clear hi)
       (try clear ho0)
       (try clear ho1)
       obtain ⟨Ao35, co35, eo35⟩ := Kd.V_slice HO571.out
       (first | subst eo35 | (injection eo35 with f1_ f2_ f3_; have f4_ := f1_.symm; have f5_ := f3_.symm; clear f1_ f2_ f3_; subst f4_; subst f5_))
       obtain ⟨Ao36, co36, eo36⟩ := Kd.V_slice HO574.out
       (first | subst eo36 | (injection eo36 with f1_ f2_ f3_; have f4_ := f1_.symm; have f5_ := f3_.symm; clear f1_ f2_ f3_; subst f4_; subst f5_))
       obtain ⟨Ao37, co37, eo37⟩ := Kd.V_slice HO577.out
       (first | subst eo37 | (injection eo37 with f1_ f2_ f3_; have f4_ := f1_.symm; have f5_ := f3_.symm; clear f1_ f2_ f3_; subst f4_; subst f5_))
       obtain ⟨Ao38, co38, eo38⟩ := Kd.V_slice HO580.out
       (first | subst eo38 | (injection eo38 with f1_ f2_ f3_; have f4_ := f1_.symm; have f5_ := f3_.symm; clear f1_ f2_ f3_; subst f4_; subst f5_))
       refine hK.out _ _ ⟨(bc BK564.out 0).trans rfl, (bc BK564.out 1).trans rfl, (bc BK565.out 0).trans rfl, (bc BK565.out 1).trans rfl⟩ (fun hHeld => ?_)
       clear hK K
       refine norm_ (a' := ?_) ?_ ?_
       rotate_left
       ·show Act.put _ (some 28) _ = _
        simp only [Act.put, psl, i64_w, i32_w]
        rfl
       refine one_ (i := 4) (N := some 29) (fl 11 5 [8]) rfl rfl (one_of HT_.out (by kernel_rfl)) (by decide) (fun K hK => ?_)
       refine goes_ Try.func32 (by kernel_rfl) rfl #[.agg #[.slice Ao35 t569.length co35, .slice Ao36 t572.length co36], .agg #[.slice Ao37 t575.length co37, .slice Ao38 t578.length co38]] (by rfl) rfl rfl (by (try simp only [pml]); first | done | rfl | (simp only [pdt]; rfl)) ?_
       with_reducible refine (shift_Common.calls kj3 (fun k_ => ((k_ ≠ gb564 ∧ k_ ≠ gb565) ∧ k_ ≠ gb588)) _ _ t569 (fun k_ => ((k_ ≠ gb564 ∧ k_ ≠ gb565) ∧ k_ ≠ gb588)) _ _ t572 (fun k_ => (k_ ≠ gb564 ∧ (k_ ≠ gb565 ∧ k_ ≠ gb588))) _ _ t575 (fun k_ => (k_ ≠ gb564 ∧ (k_ ≠ gb565 ∧ k_ ≠ gb588))) _ _ t578 t581 t584 t587 _ ?side1 ?side2 ?side3 ?side4 A23.out).mono ?_
       (case side1 => exact HO571.out)
       (case side2 => exact HO574.out)
       (case side3 => exact HO577.out)
       (case side4 => exact HO580.out)
       rintro e w39 ⟨v582, v585, rfl, ho0, ho1, hb⟩
       refine ⟨_, rfl, ?_⟩
       have n0_ := am (Kd.V_mono (Kd.V_told (Kd.V_told (Kd.V_old (fV HO571.out) hb) (Kd.R_base ho0)) (Kd.R_base ho1)) (fun _ h_ => h_.1))
       have n1_ := am (Kd.V_mono (Kd.V_told (Kd.V_told (Kd.V_old (fV HO574.out) hb) (Kd.R_base ho0)) (Kd.R_base ho1)) (fun _ h_ => h_.1))
       have n2_ := am (Kd.V_mono (Kd.V_told (Kd.V_told (Kd.V_old (fV HO577.out) hb) (Kd.R_base ho0)) (Kd.R_base ho1)) (fun _ h_ => h_.1))
       have n3_ := am (Kd.V_mono (Kd.V_told (Kd.V_told (Kd.V_old (fV HO580.out) hb) (Kd.R_base ho0)) (Kd.R_base ho1)) (fun _ h_ => h_.1))
       have n4_ := am (Kd.R_lower (Kd.R_mono (ok' := fun k_ => True) ho0 (fun _ hk_ => trivial)) (wz (fW HB.out)))
       have n5_ := am (Kd.R_lower (Kd.R_mono (ok' := fun k_ => True) ho1 (fun _ hk_ => trivial)) (wz (fW HB.out)))
       have n6_ := bB BK564 hb
       have n7_ := bB BK565 hb
       have n8_ := bB BK588 hb
       have n9_ := bS HB hb
       clear HO571 HO574 HO577 HO580 BK564 BK565 BK588 HB
       have HO571 := n0_
       have HO574 := n1_
       have HO577 := n2_
       have HO580 := n3_
       have HO583 := n4_
       have HO586 := n5_
       have BK564 := n6_
       have BK565 := n7_
       have BK588 := n8_
       have HB := n9_
       clear n0_ n1_ n2_ n3_ n4_ n5_ n6_ n7_ n8_ n9_
       (try clear hb)
       (try clear hb2)
       (try clear hk)
       (try clear hi)
       (try clear ho0)
       (try clear ho1)
       refine hK.out _ _ ⟨(bc BK564.out 0).trans rfl, (bc BK564.out 1).trans rfl, (bc BK565.out 0).trans rfl, (bc BK565.out 1).trans rfl⟩ (fun hHeld => ?_)
       clear hK K
       refine norm_ (a' := ?_) ?_ ?_
       rotate_left
       ·show Act.put _ (some 29) _ = _
        simp only [Act.put, psl, i64_w, i32_w]
        rfl
       refine pu (i := 5) (N := some 24) (fl 11 6 [8]) HT_ ?_
       refine pu (i := 6) (N := some 30) (fl 11 7 [8]) HT_ ?_
       refine pu (i := 7) (N := some 31) (fl 11 9 []) HT_ ?_
       exact norm_ (by simp only [putAll, Act.put, psl]) (hCont (.slice Ao35 t569.length co35, .slice Ao36 t572.length co36, .slice Ao37 t575.length co37, .slice Ao38 t578.length co38, v582, v585, gb588) _ ⟨hHeld, (by (with_reducible repeat (first | apply Kd.V_alloc | apply Kd.V_drewN | apply Kd.V_drew)); exact Kd.V_mono HO571.out (fun _ hk => ⟨hk.1.2, ⟨hk.2, ⟨hk.1.1.1.1, ⟨hk.1.1.1.2, hk.1.1.2⟩⟩⟩⟩)), (by (with_reducible repeat (first | apply Kd.V_alloc | apply Kd.V_drewN | apply Kd.V_drew)); exact Kd.V_mono HO574.out (fun _ hk => ⟨hk.1.2, ⟨hk.2, ⟨hk.1.1.1.1, ⟨hk.1.1.1.2, hk.1.1.2⟩⟩⟩⟩)), (by (with_reducible repeat (first | apply Kd.V_alloc | apply Kd.V_drewN | apply Kd.V_drew)); exact Kd.V_mono HO577.out (fun _ hk => ⟨hk.1.2, ⟨hk.2, ⟨hk.1.1.1, ⟨hk.1.1.2.1, hk.1.1.2.2⟩⟩⟩⟩)), (by (with_reducible repeat (first | apply Kd.V_alloc | apply Kd.V_drewN | apply Kd.V_drew)); exact Kd.V_mono HO580.out (fun _ hk => ⟨hk.1.2, ⟨hk.2, ⟨hk.1.1.1, ⟨hk.1.1.2.1, hk.1.1.2.2⟩⟩⟩⟩)), (fR HO583.out), (fR HO586.out), (fb BK564.out), (fb BK565.out), (fb BK588.out), GW588.out, GE588.out, NB564_588.out, NB588_564.out, NB565_588.out, NB588_565.out, (fW HB.out)⟩)
      skip
      refine box_step ?hg (N := 7) ?hd (cs := #[.slice none 0 0, .slice none 0 0]) (t := 31) ?hr ?_; (case hd | hg => rfl); (case hr => first | (go_simp; done) | (go_simp; rfl))
      intro gb588 hg w32 hbox hb
      have n0_ := bB BK564 hb
      have n1_ := bB BK565 hb
      have n2_ := bS HB hb
      have n3_ := am hbox
      have n4_ := sG HB hg
      have n5_ := sG HB hg
      have n6_ := nL BK564 hg
      have n7_ := nG BK564 hg
      have n8_ := nL BK565 hg
      have n9_ := nG BK565 hg
      clear BK564 BK565 HB
      have BK564 := n0_
      have BK565 := n1_
      have HB := n2_
      have BK588 := n3_
      have GW588 := n4_
      have GE588 := n5_
      have NB564_588 := n6_
      have NB588_564 := n7_
      have NB565_588 := n8_
      have NB588_565 := n9_
      clear n0_ n1_ n2_ n3_ n4_ n5_ n6_ n7_ n8_ n9_ hb hbox hg
      refine hK.out _ _ ⟨(bc BK564.out 0).trans rfl, (bc BK564.out 1).trans rfl, (bc BK565.out 0).trans rfl, (bc BK565.out 1).trans rfl⟩ (fun hHeld => ?_)
      clear hK K
      refine norm_ (a' := ?_) ?_ ?_
      rotate_left
      ·show Act.put _ (some 7) _ = _
       simp only [Act.put, psl, i64_w, i32_w]
       rfl
      refine one_ (i := 1) (N := some 26) (fl 11 3 [8]) rfl rfl (one_of HT_.out (by kernel_rfl)) (by decide) (fun K hK => ?_)
      refine goes_ Try.func14 (by kernel_rfl) rfl #[.agg #[.slice A0_0 l0_0.length c0_0, .slice A0_1 l0_1.length c0_1]] (by rfl) rfl rfl (by (try simp only [pml]); first | done | rfl | (simp only [pdt]; rfl)) ?_
      with_reducible refine (w_ours.calls (fun k_ => k_ < w.heap.size) _ _ l0_0 (fun k_ => k_ < w.heap.size) _ _ l0_1 t569 t572 _ ?side1 ?side2 A21.out).mono ?_
      (case side1 => exact Kd.V_mk HC0_0.out (Kd.F_below (Kd.C_F k54_heap HR0_0.out) (fW HB.out)))
      (case side2 => exact Kd.V_mk HC0_1.out (Kd.F_below (Kd.C_F (Kd.heap_int .i64) HR0_1.out) (fW HB.out)))
      rintro e w33 ⟨v570, v573, rfl, ho0, ho1, hb⟩
      refine ⟨_, rfl, ?_⟩
      have n0_ := am (Kd.V_lower (Kd.V_mono (ok' := fun k_ => k_ ≠ gb564 ∧ k_ ≠ gb565 ∧ k_ ≠ gb588) ho0 (fun k_ hk_ => ⟨Or.elim hk_ (fun hs_ => Or.elim hs_ (fun hs_ => fun e_ => Nat.not_le.2 hs_ (by rw [e_]; exact GW564.out)) (fun hs_ => fun e_ => Nat.not_le.2 hs_ (by rw [e_]; exact GW564.out))) (fun hn_ => (Kd.freshB (g := gb564) (o := .cells #[.slice A0_0 l0_0.length c0_0, .slice A0_1 l0_1.length c0_1] 25 (0, 0)) (fb BK564.out) k_ hn_)), Or.elim hk_ (fun hs_ => Or.elim hs_ (fun hs_ => fun e_ => Nat.not_le.2 hs_ (by rw [e_]; exact GW565.out)) (fun hs_ => fun e_ => Nat.not_le.2 hs_ (by rw [e_]; exact GW565.out))) (fun hn_ => (Kd.freshB (g := gb565) (o := .cells #[.slice A1_0 l1_0.length c1_0, .slice A1_1 l1_1.length c1_1] 25 (0, 0)) (fb BK565.out) k_ hn_)), Or.elim hk_ (fun hs_ => Or.elim hs_ (fun hs_ => fun e_ => Nat.not_le.2 hs_ (by rw [e_]; exact GW588.out)) (fun hs_ => fun e_ => Nat.not_le.2 hs_ (by rw [e_]; exact GW588.out))) (fun hn_ => (Kd.freshB (g := gb588) (o := .cells #[.slice none 0 0, .slice none 0 0] 31 (0, 0)) (fb BK588.out) k_ hn_))⟩)) (wz (fW HB.out)))
      have n1_ := am (Kd.V_lower (Kd.V_mono (ok' := fun k_ => k_ ≠ gb564 ∧ k_ ≠ gb565 ∧ k_ ≠ gb588) ho1 (fun k_ hk_ => ⟨Or.elim hk_ (fun hs_ => Or.elim hs_ (fun hs_ => fun e_ => Nat.not_le.2 hs_ (by rw [e_]; exact GW564.out)) (fun hs_ => fun e_ => Nat.not_le.2 hs_ (by rw [e_]; exact GW564.out))) (fun hn_ => (Kd.freshB (g := gb564) (o := .cells #[.slice A0_0 l0_0.length c0_0, .slice A0_1 l0_1.length c0_1] 25 (0, 0)) (fb BK564.out) k_ hn_)), Or.elim hk_ (fun hs_ => Or.elim hs_ (fun hs_ => fun e_ => Nat.not_le.2 hs_ (by rw [e_]; exact GW565.out)) (fun hs_ => fun e_ => Nat.not_le.2 hs_ (by rw [e_]; exact GW565.out))) (fun hn_ => (Kd.freshB (g := gb565) (o := .cells #[.slice A1_0 l1_0.length c1_0, .slice A1_1 l1_1.length c1_1] 25 (0, 0)) (fb BK565.out) k_ hn_)), Or.elim hk_ (fun hs_ => Or.elim hs_ (fun hs_ => fun e_ => Nat.not_le.2 hs_ (by rw [e_]; exact GW588.out)) (fun hs_ => fun e_ => Nat.not_le.2 hs_ (by rw [e_]; exact GW588.out))) (fun hn_ => (Kd.freshB (g := gb588) (o := .cells #[.slice none 0 0, .slice none 0 0] 31 (0, 0)) (fb BK588.out) k_ hn_))⟩)) (wz (fW HB.out)))
      have n2_ := bB BK564 hb
      have n3_ := bB BK565 hb
      have n4_ := bB BK588 hb
      have n5_ := bS HB hb
      clear BK564 BK565 BK588 HB
      have HO571 := n0_
      have HO574 := n1_
      have BK564 := n2_
      have BK565 := n3_
      have BK588 := n4_
      have HB := n5_
      clear n0_ n1_ n2_ n3_ n4_ n5_
      (try clear hb)
      (try clear hb2)
      (try clear hk)
      (try clear hi)
      (try clear ho0)
      (try clear ho1)
      refine hK.out _ _ ⟨(bc BK564.out 0).trans rfl, (bc BK564.out 1).trans rfl, (bc BK565.out 0).trans rfl, (bc BK565.out 1).trans rfl⟩ (fun hHeld => ?_)
      clear hK K
      refine norm_ (a' := ?_) ?_ ?_
      rotate_left
      ·show Act.put _ (some 26) _ = _
       simp only [Act.put, psl, i64_w, i32_w]
       rfl
      refine one_ (i := 3) (N := some 28) (fl 11 4 [8]) rfl rfl (one_of HT_.out (by kernel_rfl)) (by decide) (fun K hK => ?_)
      refine goes_ Try.func14 (by kernel_rfl) rfl #[.agg #[.slice A1_0 l1_0.length c1_0, .slice A1_1 l1_1.length c1_1]] (by rfl) rfl rfl (by (try simp only [pml]); first | done | rfl | (simp only [pdt]; rfl)) ?_
      with_reducible refine (w_ours.calls (fun k_ => k_ < w.heap.size) _ _ l1_0 (fun k_ => k_ < w.heap.size) _ _ l1_1 t575 t578 _ ?side1 ?side2 A22.out).mono ?_
      (case side1 => exact Kd.V_mk HC1_0.out (Kd.F_below (Kd.C_F k54_heap HR1_0.out) (fW HB.out)))
      (case side2 => exact Kd.V_mk HC1_1.out (Kd.F_below (Kd.C_F (Kd.heap_int .i64) HR1_1.out) (fW HB.out)))
      rintro e w34 ⟨v576, v579, rfl, ho0, ho1, hb⟩
      refine ⟨_, rfl, ?_⟩
      have n0_ := dV HO571 hb
      have n1_ := dV HO574 hb
      have n2_ := am (Kd.V_lower (Kd.V_mono (ok' := fun k_ => k_ ≠ gb564 ∧ k_ ≠ gb565 ∧ k_ ≠ gb588) ho0 (fun k_ hk_ => ⟨Or.elim hk_ (fun hs_ => Or.elim hs_ (fun hs_ => fun e_ => Nat.not_le.2 hs_ (by rw [e_]; exact GW564.out)) (fun hs_ => fun e_ => Nat.not_le.2 hs_ (by rw [e_]; exact GW564.out))) (fun hn_ => (Kd.freshB (g := gb564) (o := .cells #[.slice A0_0 l0_0.length c0_0, .slice A0_1 l0_1.length c0_1] 25 (0, 0)) (fb BK564.out) k_ hn_)), Or.elim hk_ (fun hs_ => Or.elim hs_ (fun hs_ => fun e_ => Nat.not_le.2 hs_ (by rw [e_]; exact GW565.out)) (fun hs_ => fun e_ => Nat.not_le.2 hs_ (by rw [e_]; exact GW565.out))) (fun hn_ => (Kd.freshB (g := gb565) (o := .cells #[.slice A1_0 l1_0.length c1_0, .slice A1_1 l1_1.length c1_1] 25 (0, 0)) (fb BK565.out) k_ hn_)), Or.elim hk_ (fun hs_ => Or.elim hs_ (fun hs_ => fun e_ => Nat.not_le.2 hs_ (by rw [e_]; exact GW588.out)) (fun hs_ => fun e_ => Nat.not_le.2 hs_ (by rw [e_]; exact GW588.out))) (fun hn_ => (Kd.freshB (g := gb588) (o := .cells #[.slice none 0 0, .slice none 0 0] 31 (0, 0)) (fb BK588.out) k_ hn_))⟩)) (wz (fW HB.out)))
      have n3_ := am (Kd.V_lower (Kd.V_mono (ok' := fun k_ => k_ ≠ gb564 ∧ k_ ≠ gb565 ∧ k_ ≠ gb588) ho1 (fun k_ hk_ => ⟨Or.elim hk_ (fun hs_ => Or.elim hs_ (fun hs_ => fun e_ => Nat.not_le.2 hs_ (by rw [e_]; exact GW564.out)) (fun hs_ => fun e_ => Nat.not_le.2 hs_ (by rw [e_]; exact GW564.out))) (fun hn_ => (Kd.freshB (g := gb564) (o := .cells #[.slice A0_0 l0_0.length c0_0, .slice A0_1 l0_1.length c0_1] 25 (0, 0)) (fb BK564.out) k_ hn_)), Or.elim hk_ (fun hs_ => Or.elim hs_ (fun hs_ => fun e_ => Nat.not_le.2 hs_ (by rw [e_]; exact GW565.out)) (fun hs_ => fun e_ => Nat.not_le.2 hs_ (by rw [e_]; exact GW565.out))) (fun hn_ => (Kd.freshB (g := gb565) (o := .cells #[.slice A1_0 l1_0.length c1_0, .slice A1_1 l1_1.length c1_1] 25 (0, 0)) (fb BK565.out) k_ hn_)), Or.elim hk_ (fun hs_ => Or.elim hs_ (fun hs_ => fun e_ => Nat.not_le.2 hs_ (by rw [e_]; exact GW588.out)) (fun hs_ => fun e_ => Nat.not_le.2 hs_ (by rw [e_]; exact GW588.out))) (fun hn_ => (Kd.freshB (g := gb588) (o := .cells #[.slice none 0 0, .slice none 0 0] 31 (0, 0)) (fb BK588.out) k_ hn_))⟩)) (wz (fW HB.out)))
      have n4_ := bB BK564 hb
      have n5_ := bB BK565 hb
      have n6_ := bB BK588 hb
      have n7_ := bS HB hb
      clear HO571 HO574 BK564 BK565 BK588 HB
      have HO571 := n0_
      have HO574 := n1_
      have HO577 := n2_
      have HO580 := n3_
      have BK564 := n4_
      have BK565 := n5_
      have BK588 := n6_
      have HB := n7_
      clear n0_ n1_ n2_ n3_ n4_ n5_ n6_ n7_
      (try clear hb)
      (try clear hb2)
      (try clear hk)
      (try clear hi)
      (try clear ho0)
      (try clear ho1)
      obtain ⟨Ao35, co35, eo35⟩ := Kd.V_slice HO571.out
      (first | subst eo35 | (injection eo35 with f1_ f2_ f3_; have f4_ := f1_.symm; have f5_ := f3_.symm; clear f1_ f2_ f3_; subst f4_; subst f5_))
      obtain ⟨Ao36, co36, eo36⟩ := Kd.V_slice HO574.out
      (first | subst eo36 | (injection eo36 with f1_ f2_ f3_; have f4_ := f1_.symm; have f5_ := f3_.symm; clear f1_ f2_ f3_; subst f4_; subst f5_))
      obtain ⟨Ao37, co37, eo37⟩ := Kd.V_slice HO577.out
      (first | subst eo37 | (injection eo37 with f1_ f2_ f3_; have f4_ := f1_.symm; have f5_ := f3_.symm; clear f1_ f2_ f3_; subst f4_; subst f5_))
      obtain ⟨Ao38, co38, eo38⟩ := Kd.V_slice HO580.out
      (first | subst eo38 | (injection eo38 with f1_ f2_ f3_; have f4_ := f1_.symm; have f5_ := f3_.symm; clear f1_ f2_ f3_; subst f4_; subst f5_))
      refine hK.out _ _ ⟨(bc BK564.out 0).trans rfl, (bc BK564.out 1).trans rfl, (bc BK565.out 0).trans rfl, (bc BK565.out 1).trans rfl⟩ (fun hHeld => ?_)
      clear hK K
      refine norm_ (a' := ?_) ?_ ?_
      rotate_left
      ·show Act.put _ (some 28) _ = _
       simp only [Act.put, psl, i64_w, i32_w]
       rfl
      refine one_ (i := 4) (N := some 29) (fl 11 5 [8]) rfl rfl (one_of HT_.out (by kernel_rfl)) (by decide) (fun K hK => ?_)
      refine goes_ Try.func32 (by kernel_rfl) rfl #[.agg #[.slice Ao35 t569.length co35, .slice Ao36 t572.length co36], .agg #[.slice Ao37 t575.length co37, .slice Ao38 t578.length co38]] (by rfl) rfl rfl (by (try simp only [pml]); first | done | rfl | (simp only [pdt]; rfl)) ?_
      with_reducible refine (shift_Common.calls kj3 (fun k_ => (k_ ≠ gb564 ∧ (k_ ≠ gb565 ∧ k_ ≠ gb588))) _ _ t569 (fun k_ => (k_ ≠ gb564 ∧ (k_ ≠ gb565 ∧ k_ ≠ gb588))) _ _ t572 (fun k_ => (k_ ≠ gb564 ∧ (k_ ≠ gb565 ∧ k_ ≠ gb588))) _ _ t575 (fun k_ => (k_ ≠ gb564 ∧ (k_ ≠ gb565 ∧ k_ ≠ gb588))) _ _ t578 t581 t584 t587 _ ?side1 ?side2 ?side3 ?side4 A23.out).mono ?_
      (case side1 => exact HO571.out)
      (case side2 => exact HO574.out)
      (case side3 => exact HO577.out)
      (case side4 => exact HO580.out)
      rintro e w39 ⟨v582, v585, rfl, ho0, ho1, hb⟩
      refine ⟨_, rfl, ?_⟩
      have n0_ := am (Kd.V_mono (Kd.V_told (Kd.V_told (Kd.V_old (fV HO571.out) hb) (Kd.R_base ho0)) (Kd.R_base ho1)) (fun _ h_ => h_.1))
      have n1_ := am (Kd.V_mono (Kd.V_told (Kd.V_told (Kd.V_old (fV HO574.out) hb) (Kd.R_base ho0)) (Kd.R_base ho1)) (fun _ h_ => h_.1))
      have n2_ := am (Kd.V_mono (Kd.V_told (Kd.V_told (Kd.V_old (fV HO577.out) hb) (Kd.R_base ho0)) (Kd.R_base ho1)) (fun _ h_ => h_.1))
      have n3_ := am (Kd.V_mono (Kd.V_told (Kd.V_told (Kd.V_old (fV HO580.out) hb) (Kd.R_base ho0)) (Kd.R_base ho1)) (fun _ h_ => h_.1))
      have n4_ := am (Kd.R_lower (Kd.R_mono (ok' := fun k_ => True) ho0 (fun _ hk_ => trivial)) (wz (fW HB.out)))
      have n5_ := am (Kd.R_lower (Kd.R_mono (ok' := fun k_ => True) ho1 (fun _ hk_ => trivial)) (wz (fW HB.out)))
      have n6_ := bB BK564 hb
      have n7_ := bB BK565 hb
      have n8_ := bB BK588 hb
      have n9_ := bS HB hb
      clear HO571 HO574 HO577 HO580 BK564 BK565 BK588 HB
      have HO571 := n0_
      have HO574 := n1_
      have HO577 := n2_
      have HO580 := n3_
      have HO583 := n4_
      have HO586 := n5_
      have BK564 := n6_
      have BK565 := n7_
      have BK588 := n8_
      have HB := n9_
      clear n0_ n1_ n2_ n3_ n4_ n5_ n6_ n7_ n8_ n9_
      (try clear hb)
      (try clear hb2)
      (try clear hk)
      (try clear hi)
      (try clear ho0)
      (try clear ho1)
      refine hK.out _ _ ⟨(bc BK564.out 0).trans rfl, (bc BK564.out 1).trans rfl, (bc BK565.out 0).trans rfl, (bc BK565.out 1).trans rfl⟩ (fun hHeld => ?_)
      clear hK K
      refine norm_ (a' := ?_) ?_ ?_
      rotate_left
      ·show Act.put _ (some 29) _ = _
       simp only [Act.put, psl, i64_w, i32_w]
       rfl
      refine pu (i := 5) (N := some 24) (fl 11 6 [8]) HT_ ?_
      refine pu (i := 6) (N := some 30) (fl 11 7 [8]) HT_ ?_
      refine pu (i := 7) (N := some 31) (fl 11 9 []) HT_ ?_
      exact norm_ (by simp only [putAll, Act.put, psl]) (hCont (.slice Ao35 t569.length co35, .slice Ao36 t572.length co36, .slice Ao37 t575.length co37, .slice Ao38 t578.length co38, v582, v585, gb588) _ ⟨hHeld, (by (with_reducible repeat (first | apply Kd.V_alloc | apply Kd.V_drewN | apply Kd.V_drew)); exact Kd.V_mono HO571.out (fun _ hk => ⟨hk.1.2, ⟨hk.2, ⟨hk.1.1.1, ⟨hk.1.1.2.1, hk.1.1.2.2⟩⟩⟩⟩)), (by (with_reducible repeat (first | apply Kd.V_alloc | apply Kd.V_drewN | apply Kd.V_drew)); exact Kd.V_mono HO574.out (fun _ hk => ⟨hk.1.2, ⟨hk.2, ⟨hk.1.1.1, ⟨hk.1.1.2.1, hk.1.1.2.2⟩⟩⟩⟩)), (by (with_reducible repeat (first | apply Kd.V_alloc | apply Kd.V_drewN | apply Kd.V_drew)); exact Kd.V_mono HO577.out (fun _ hk => ⟨hk.1.2, ⟨hk.2, ⟨hk.1.1.1, ⟨hk.1.1.2.1, hk.1.1.2.2⟩⟩⟩⟩)), (by (with_reducible repeat (first | apply Kd.V_alloc | apply Kd.V_drewN | apply Kd.V_drew)); exact Kd.V_mono HO580.out (fun _ hk => ⟨hk.1.2, ⟨hk.2, ⟨hk.1.1.1, ⟨hk.1.1.2.1, hk.1.1.2.2⟩⟩⟩⟩)), (fR HO583.out), (fR HO586.out), (fb BK564.out), (fb BK565.out), (fb BK588.out), GW588.out, GE588.out, NB564_588.out, NB588_564.out, NB565_588.out, NB588_565.out, (fW HB.out)⟩)
     rintro ⟨v570, v573, v576, v579, v582, v585, gb588⟩ w40 ⟨hS_, h0_, h1_, h2_, h3_, h4_, h5_, h6_, h7_, h8_, h9_, h10_, h11_, h12_, h13_, h14_, h15_⟩
     have n0_ : Aside0 (Kd.V k54 54 w40 w.heap.size (fun k_ => some k_ ≠ (v582 : Value).ownBlock ∧ some k_ ≠ (v585 : Value).ownBlock ∧ k_ ≠ gb564 ∧ k_ ≠ gb565 ∧ k_ ≠ gb588) v570 t569) := ⟨h0_⟩
     have n1_ : Aside0 (Kd.V (Kd.int .i64) 3 w40 w.heap.size (fun k_ => some k_ ≠ (v582 : Value).ownBlock ∧ some k_ ≠ (v585 : Value).ownBlock ∧ k_ ≠ gb564 ∧ k_ ≠ gb565 ∧ k_ ≠ gb588) v573 t572) := ⟨h1_⟩
     have n2_ : Aside0 (Kd.V k54 54 w40 w.heap.size (fun k_ => some k_ ≠ (v582 : Value).ownBlock ∧ some k_ ≠ (v585 : Value).ownBlock ∧ k_ ≠ gb564 ∧ k_ ≠ gb565 ∧ k_ ≠ gb588) v576 t575) := ⟨h2_⟩
     have n3_ : Aside0 (Kd.V (Kd.int .i64) 3 w40 w.heap.size (fun k_ => some k_ ≠ (v582 : Value).ownBlock ∧ some k_ ≠ (v585 : Value).ownBlock ∧ k_ ≠ gb564 ∧ k_ ≠ gb565 ∧ k_ ≠ gb588) v579 t578) := ⟨h3_⟩
     have n4_ : Aside0 (Kd.R k54 54 w40 w.heap.size (fun _ => True) v582 t581) := ⟨h4_⟩
     have n5_ : Aside0 (Kd.R (Kd.int .i64) 3 w40 w.heap.size (fun _ => True) v585 t584) := ⟨h5_⟩
     have n6_ : Aside0 (w40.heap[gb564]? = some (.cells #[.slice A0_0 l0_0.length c0_0, .slice A0_1 l0_1.length c0_1] 25 (0, 0))) := ⟨h6_⟩
     have n7_ : Aside0 (w40.heap[gb565]? = some (.cells #[.slice A1_0 l1_0.length c1_0, .slice A1_1 l1_1.length c1_1] 25 (0, 0))) := ⟨h7_⟩
     have n8_ : Aside0 (w40.heap[gb588]? = some (.cells #[.slice none 0 0, .slice none 0 0] 31 (0, 0))) := ⟨h8_⟩
     have n9_ : Aside0 (w.heap.size ≤ gb588) := ⟨h9_⟩
     have n10_ : Aside0 (w.heap.size ≤ gb588) := ⟨h10_⟩
     have n11_ : Aside0 (gb564 ≠ gb588) := ⟨h11_⟩
     have n12_ : Aside0 (gb588 ≠ gb564) := ⟨h12_⟩
     have n13_ : Aside0 (gb565 ≠ gb588) := ⟨h13_⟩
     have n14_ : Aside0 (gb588 ≠ gb565) := ⟨h14_⟩
     have n15_ : Aside0 (Below w.heap.size w w40) := ⟨h15_⟩
     clear BK564 BK565 HB h0_ h1_ h2_ h3_ h4_ h5_ h6_ h7_ h8_ h9_ h10_ h11_ h12_ h13_ h14_ h15_
     have HO571 := n0_
     have HO574 := n1_
     have HO577 := n2_
     have HO580 := n3_
     have HO583 := n4_
     have HO586 := n5_
     have BK564 := n6_
     have BK565 := n7_
     have BK588 := n8_
     have GW588 := n9_
     have GE588 := n10_
     have NB564_588 := n11_
     have NB588_564 := n12_
     have NB565_588 := n13_
     have NB588_565 := n14_
     have HB := n15_
     clear n0_ n1_ n2_ n3_ n4_ n5_ n6_ n7_ n8_ n9_ n10_ n11_ n12_ n13_ n14_ n15_
     have hHeld : w40.cell? ⟨gb564, 0, none⟩ = some (.slice A0_0 l0_0.length c0_0) ∧ w40.cell? ⟨gb564, 1, none⟩ = some (.slice A0_1 l0_1.length c0_1) ∧ w40.cell? ⟨gb565, 0, none⟩ = some (.slice A1_0 l1_0.length c1_0) ∧ w40.cell? ⟨gb565, 1, none⟩ = some (.slice A1_1 l1_1.length c1_1) := hS_
     obtain ⟨Ao41, co41, eo41⟩ := Kd.R_slice HO583.out
     (first | subst eo41 | (injection eo41 with f1_ f2_ f3_; have f4_ := f1_.symm; have f5_ := f3_.symm; clear f1_ f2_ f3_; subst f4_; subst f5_))
     obtain ⟨Ao43, co43, eo43⟩ := Kd.R_slice HO586.out
     (first | subst eo43 | (injection eo43 with f1_ f2_ f3_; have f4_ := f1_.symm; have f5_ := f3_.symm; clear f1_ f2_ f3_; subst f4_; subst f5_))
     refine norm_ (a' := ?_) ?_ ?_
     rotate_left
     ·simp only [putAll, Act.put, psl]
      rfl
     refine one_ (i := 9) (N := none) (fl 11 10 []) rfl rfl (one_of HT_.out (by kernel_rfl)) (by decide) (fun K hK => ?_)
     have hs42 : w40.cell? ⟨gb588, 0, none⟩ = some (.slice none 0 0) := (bc BK588.out 0).trans rfl
     have hfs42 := bf BK588.out 0
     have hns42_0 := NB564_588.out
     have hns42_1 := NB565_588.out
     have hms42_0 := NB588_564.out
     have hms42_1 := NB588_565.out
     have hs44 : w40.cell? ⟨gb588, 1, none⟩ = some (.slice none 0 0) := (bc BK588.out 1).trans rfl
     have hfs44 := bf BK588.out 1
     have hns44_0 := NB564_588.out
     have hns44_1 := NB565_588.out
     have hms44_0 := NB588_564.out
     have hms44_1 := NB588_565.out
     refine skip_ (w1 := ?_) (by rfl) rfl ?_ ?_
     rotate_left
     ·go_simp
      rfl
     refine hK.out _ _ ⟨((cf (p := ⟨gb588, _, none⟩) NB564_588.out _).trans (((cf (p := ⟨gb588, _, none⟩) NB564_588.out _).trans (hHeld.1)))), ((cf (p := ⟨gb588, _, none⟩) NB564_588.out _).trans (((cf (p := ⟨gb588, _, none⟩) NB564_588.out _).trans (hHeld.2.1)))), ((cf (p := ⟨gb588, _, none⟩) NB565_588.out _).trans (((cf (p := ⟨gb588, _, none⟩) NB565_588.out _).trans (hHeld.2.2.1)))), ((cf (p := ⟨gb588, _, none⟩) NB565_588.out _).trans (((cf (p := ⟨gb588, _, none⟩) NB565_588.out _).trans (hHeld.2.2.2))))⟩ (fun hHeld => ?_)
     clear hK K
     refine pu (i := 10) (N := some 8) (fl 11 11 []) HT_ ?_
     refine done_ (done_of HT_.out (by kernel_rfl)) ?_
     have n0_ : Aside0 (Kd.V k54 54 ((w40.setCell ⟨gb588, 0, none⟩ (.slice Ao41 t581.length co41)).setCell ⟨gb588, 1, none⟩ (.slice Ao43 t584.length co43)) w.heap.size (fun k_ => some k_ ≠ (.slice Ao41 t581.length co41 : Value).ownBlock ∧ some k_ ≠ (.slice Ao43 t584.length co43 : Value).ownBlock ∧ k_ ≠ gb564 ∧ k_ ≠ gb565 ∧ k_ ≠ gb588) v570 t569) := ⟨by (with_reducible repeat (first | apply Kd.V_alloc | apply Kd.V_drewN | apply Kd.V_drew)); exact Kd.V_mono (Kd.V_far (p := ⟨gb588, 1, none⟩) (Kd.V_far (p := ⟨gb588, 0, none⟩) (Kd.V_mono HO571.out (fun k_ hk => (⟨hk, hk.2.2.2.2⟩ : _ ∧ k_ ≠ gb588))) (fun _ hk => hk.2) (.slice Ao41 t581.length co41)) (fun _ hk => hk.2) (.slice Ao43 t584.length co43)) (fun _ hk => ⟨hk.1.1, ⟨hk.1.2.1, ⟨hk.1.2.2.1, ⟨hk.1.2.2.2.1, hk.1.2.2.2.2⟩⟩⟩⟩)⟩
     have n1_ : Aside0 (Kd.V (Kd.int .i64) 3 ((w40.setCell ⟨gb588, 0, none⟩ (.slice Ao41 t581.length co41)).setCell ⟨gb588, 1, none⟩ (.slice Ao43 t584.length co43)) w.heap.size (fun k_ => some k_ ≠ (.slice Ao41 t581.length co41 : Value).ownBlock ∧ some k_ ≠ (.slice Ao43 t584.length co43 : Value).ownBlock ∧ k_ ≠ gb564 ∧ k_ ≠ gb565 ∧ k_ ≠ gb588) v573 t572) := ⟨by (with_reducible repeat (first | apply Kd.V_alloc | apply Kd.V_drewN | apply Kd.V_drew)); exact Kd.V_mono (Kd.V_far (p := ⟨gb588, 1, none⟩) (Kd.V_far (p := ⟨gb588, 0, none⟩) (Kd.V_mono HO574.out (fun k_ hk => (⟨hk, hk.2.2.2.2⟩ : _ ∧ k_ ≠ gb588))) (fun _ hk => hk.2) (.slice Ao41 t581.length co41)) (fun _ hk => hk.2) (.slice Ao43 t584.length co43)) (fun _ hk => ⟨hk.1.1, ⟨hk.1.2.1, ⟨hk.1.2.2.1, ⟨hk.1.2.2.2.1, hk.1.2.2.2.2⟩⟩⟩⟩)⟩
     have n2_ : Aside0 (Kd.V k54 54 ((w40.setCell ⟨gb588, 0, none⟩ (.slice Ao41 t581.length co41)).setCell ⟨gb588, 1, none⟩ (.slice Ao43 t584.length co43)) w.heap.size (fun k_ => some k_ ≠ (.slice Ao41 t581.length co41 : Value).ownBlock ∧ some k_ ≠ (.slice Ao43 t584.length co43 : Value).ownBlock ∧ k_ ≠ gb564 ∧ k_ ≠ gb565 ∧ k_ ≠ gb588) v576 t575) := ⟨by (with_reducible repeat (first | apply Kd.V_alloc | apply Kd.V_drewN | apply Kd.V_drew)); exact Kd.V_mono (Kd.V_far (p := ⟨gb588, 1, none⟩) (Kd.V_far (p := ⟨gb588, 0, none⟩) (Kd.V_mono HO577.out (fun k_ hk => (⟨hk, hk.2.2.2.2⟩ : _ ∧ k_ ≠ gb588))) (fun _ hk => hk.2) (.slice Ao41 t581.length co41)) (fun _ hk => hk.2) (.slice Ao43 t584.length co43)) (fun _ hk => ⟨hk.1.1, ⟨hk.1.2.1, ⟨hk.1.2.2.1, ⟨hk.1.2.2.2.1, hk.1.2.2.2.2⟩⟩⟩⟩)⟩
     have n3_ : Aside0 (Kd.V (Kd.int .i64) 3 ((w40.setCell ⟨gb588, 0, none⟩ (.slice Ao41 t581.length co41)).setCell ⟨gb588, 1, none⟩ (.slice Ao43 t584.length co43)) w.heap.size (fun k_ => some k_ ≠ (.slice Ao41 t581.length co41 : Value).ownBlock ∧ some k_ ≠ (.slice Ao43 t584.length co43 : Value).ownBlock ∧ k_ ≠ gb564 ∧ k_ ≠ gb565 ∧ k_ ≠ gb588) v579 t578) := ⟨by (with_reducible repeat (first | apply Kd.V_alloc | apply Kd.V_drewN | apply Kd.V_drew)); exact Kd.V_mono (Kd.V_far (p := ⟨gb588, 1, none⟩) (Kd.V_far (p := ⟨gb588, 0, none⟩) (Kd.V_mono HO580.out (fun k_ hk => (⟨hk, hk.2.2.2.2⟩ : _ ∧ k_ ≠ gb588))) (fun _ hk => hk.2) (.slice Ao41 t581.length co41)) (fun _ hk => hk.2) (.slice Ao43 t584.length co43)) (fun _ hk => ⟨hk.1.1, ⟨hk.1.2.1, ⟨hk.1.2.2.1, ⟨hk.1.2.2.2.1, hk.1.2.2.2.2⟩⟩⟩⟩)⟩
     have n4_ : Aside0 (Kd.R k54 54 ((w40.setCell ⟨gb588, 0, none⟩ (.slice Ao41 t581.length co41)).setCell ⟨gb588, 1, none⟩ (.slice Ao43 t584.length co43)) w.heap.size (fun _ => True) (.slice Ao41 t581.length co41) t581) := ⟨by (with_reducible repeat (first | apply Kd.R_alloc | apply Kd.R_drewN | apply Kd.R_drew)); exact Kd.R_mono (Kd.R_far (p := ⟨gb588, 1, none⟩) (Kd.R_far (p := ⟨gb588, 0, none⟩) (Kd.R_types HO583.out BK588.out (by decide)) (fun _ hk => hk.2) (.slice Ao41 t581.length co41)) (fun _ hk => hk.2) (.slice Ao43 t584.length co43)) (fun _ hk => trivial)⟩
     have n5_ : Aside0 (Kd.R (Kd.int .i64) 3 ((w40.setCell ⟨gb588, 0, none⟩ (.slice Ao41 t581.length co41)).setCell ⟨gb588, 1, none⟩ (.slice Ao43 t584.length co43)) w.heap.size (fun _ => True) (.slice Ao43 t584.length co43) t584) := ⟨by (with_reducible repeat (first | apply Kd.R_alloc | apply Kd.R_drewN | apply Kd.R_drew)); exact Kd.R_mono (Kd.R_far (p := ⟨gb588, 1, none⟩) (Kd.R_far (p := ⟨gb588, 0, none⟩) (Kd.R_types HO586.out BK588.out (by decide)) (fun _ hk => hk.2) (.slice Ao41 t581.length co41)) (fun _ hk => hk.2) (.slice Ao43 t584.length co43)) (fun _ hk => trivial)⟩
     have n6_ : Aside0 (((w40.setCell ⟨gb588, 0, none⟩ (.slice Ao41 t581.length co41)).setCell ⟨gb588, 1, none⟩ (.slice Ao43 t584.length co43)).heap[gb564]? = some (.cells #[.slice A0_0 l0_0.length c0_0, .slice A0_1 l0_1.length c0_1] 25 (0, 0))) := ⟨by (with_reducible repeat first | apply bN | apply bd | apply ba); refine blk_far ?_ NB564_588.out _; (with_reducible repeat first | apply bN | apply bd | apply ba); refine blk_far ?_ NB564_588.out _; (with_reducible repeat first | apply bN | apply bd | apply ba); exact BK564.out⟩
     have n7_ : Aside0 (((w40.setCell ⟨gb588, 0, none⟩ (.slice Ao41 t581.length co41)).setCell ⟨gb588, 1, none⟩ (.slice Ao43 t584.length co43)).heap[gb565]? = some (.cells #[.slice A1_0 l1_0.length c1_0, .slice A1_1 l1_1.length c1_1] 25 (0, 0))) := ⟨by (with_reducible repeat first | apply bN | apply bd | apply ba); refine blk_far ?_ NB565_588.out _; (with_reducible repeat first | apply bN | apply bd | apply ba); refine blk_far ?_ NB565_588.out _; (with_reducible repeat first | apply bN | apply bd | apply ba); exact BK565.out⟩
     have n8_ : Aside0 (((w40.setCell ⟨gb588, 0, none⟩ (.slice Ao41 t581.length co41)).setCell ⟨gb588, 1, none⟩ (.slice Ao43 t584.length co43)).heap[gb588]? = some (.cells #[.slice Ao41 t581.length co41, .slice Ao43 t584.length co43] 31 (0, 0))) := ⟨by (with_reducible repeat first | apply bN | apply bd | apply ba); refine blk_put (cs := #[.slice Ao41 t581.length co41, .slice none 0 0]) ?_ 1 _ rfl; (with_reducible repeat first | apply bN | apply bd | apply ba); refine blk_put (cs := #[.slice none 0 0, .slice none 0 0]) ?_ 0 _ rfl; (with_reducible repeat first | apply bN | apply bd | apply ba); exact BK588.out⟩
     have n9_ : Aside0 (Below w.heap.size w ((w40.setCell ⟨gb588, 0, none⟩ (.slice Ao41 t581.length co41)).setCell ⟨gb588, 1, none⟩ (.slice Ao43 t584.length co43))) := ⟨fW HB.out⟩
     (try clear HO571)
     (try clear HO574)
     (try clear HO577)
     (try clear HO580)
     (try clear HO583)
     (try clear HO586)
     (try clear BK564)
     (try clear BK565)
     (try clear BK588)
     (try clear HB)
     generalize ((w40.setCell ⟨gb588, 0, none⟩ (.slice Ao41 t581.length co41)).setCell ⟨gb588, 1, none⟩ (.slice Ao43 t584.length co43)) = w45 at n0_ n1_ n2_ n3_ n4_ n5_ n6_ n7_ n8_ n9_ ⊢
     have HO571 := n0_
     have HO574 := n1_
     have HO577 := n2_
     have HO580 := n3_
     have HO583 := n4_
     have HO586 := n5_
     have BK564 := n6_
     have BK565 := n7_
     have BK588 := n8_
     have HB := n9_
     clear n0_ n1_ n2_ n3_ n4_ n5_ n6_ n7_ n8_ n9_
     have hnb46 := NB564_565.out
     have hnc46 := NB565_564.out
     have hnb47 := NB564_588.out
     have hnc47 := NB588_564.out
     have := yC1 BK564
     have := kC1 BK564
     have := bf BK564.out 0
     have := bf BK564.out 1
     go_upto_region 9 with (first | ((with_reducible refine gc (f := 14) rfl ?_); refine goesL_ (some 37) rfl rfl Try.func14 (by kernel_rfl) rfl #[.agg #[.slice A0_0 l0_0.length c0_0, .slice A0_1 l0_1.length c0_1]] rfl (by (try simp only [pml]); first | done | rfl | (simp only [pdt]; rfl)) ?_; (with_reducible refine (w_ours.calls (fun k_ => k_ < w.heap.size) _ _ l0_0 (fun k_ => k_ < w.heap.size) _ _ l0_1 t590 t593 _ ?side1 ?side2 A25.out).mono ?_); (case side1 => exact Kd.V_mk HC0_0.out (Kd.F_below (Kd.C_F k54_heap HR0_0.out) (fW HB.out))); (case side2 => exact Kd.V_mk HC0_1.out (Kd.F_below (Kd.C_F (Kd.heap_int .i64) HR0_1.out) (fW HB.out))); rintro e w49 ⟨v591, v594, rfl, ho0, ho1, hb⟩; refine ⟨_, rfl, ?_⟩; replace HO571 := dV HO571 hb; replace HO574 := dV HO574 hb; replace HO577 := dV HO577 hb; replace HO580 := dV HO580 hb; have HO592 := am (Kd.V_lower (Kd.V_mono (ok' := fun k_ => some k_ ≠ (.slice Ao41 t581.length co41 : Value).ownBlock ∧ some k_ ≠ (.slice Ao43 t584.length co43 : Value).ownBlock ∧ k_ ≠ gb564 ∧ k_ ≠ gb565 ∧ k_ ≠ gb588) ho0 (fun k_ hk_ => ⟨Or.elim hk_ (fun hs_ => Or.elim hs_ (fun hs_ => fun e_ => Nat.not_le.2 hs_ (Kd.R_base HO583.out k_ e_.symm)) (fun hs_ => fun e_ => Nat.not_le.2 hs_ (Kd.R_base HO583.out k_ e_.symm))) (fun hn_ => (Kd.fresh' (Kd.R_lt (fR HO583.out)) k_ hn_)), Or.elim hk_ (fun hs_ => Or.elim hs_ (fun hs_ => fun e_ => Nat.not_le.2 hs_ (Kd.R_base HO586.out k_ e_.symm)) (fun hs_ => fun e_ => Nat.not_le.2 hs_ (Kd.R_base HO586.out k_ e_.symm))) (fun hn_ => (Kd.fresh' (Kd.R_lt (fR HO586.out)) k_ hn_)), Or.elim hk_ (fun hs_ => Or.elim hs_ (fun hs_ => fun e_ => Nat.not_le.2 hs_ (by rw [e_]; exact GW564.out)) (fun hs_ => fun e_ => Nat.not_le.2 hs_ (by rw [e_]; exact GW564.out))) (fun hn_ => (Kd.freshB (g := gb564) (o := .cells #[.slice A0_0 l0_0.length c0_0, .slice A0_1 l0_1.length c0_1] 25 (0, 0)) (fb BK564.out) k_ hn_)), Or.elim hk_ (fun hs_ => Or.elim hs_ (fun hs_ => fun e_ => Nat.not_le.2 hs_ (by rw [e_]; exact GW565.out)) (fun hs_ => fun e_ => Nat.not_le.2 hs_ (by rw [e_]; exact GW565.out))) (fun hn_ => (Kd.freshB (g := gb565) (o := .cells #[.slice A1_0 l1_0.length c1_0, .slice A1_1 l1_1.length c1_1] 25 (0, 0)) (fb BK565.out) k_ hn_)), Or.elim hk_ (fun hs_ => Or.elim hs_ (fun hs_ => fun e_ => Nat.not_le.2 hs_ (by rw [e_]; exact GW588.out)) (fun hs_ => fun e_ => Nat.not_le.2 hs_ (by rw [e_]; exact GW588.out))) (fun hn_ => (Kd.freshB (g := gb588) (o := .cells #[.slice Ao41 t581.length co41, .slice Ao43 t584.length co43] 31 (0, 0)) (fb BK588.out) k_ hn_))⟩)) (wz (fW HB.out))); have HO595 := am (Kd.V_lower (Kd.V_mono (ok' := fun k_ => some k_ ≠ (.slice Ao41 t581.length co41 : Value).ownBlock ∧ some k_ ≠ (.slice Ao43 t584.length co43 : Value).ownBlock ∧ k_ ≠ gb564 ∧ k_ ≠ gb565 ∧ k_ ≠ gb588) ho1 (fun k_ hk_ => ⟨Or.elim hk_ (fun hs_ => Or.elim hs_ (fun hs_ => fun e_ => Nat.not_le.2 hs_ (Kd.R_base HO583.out k_ e_.symm)) (fun hs_ => fun e_ => Nat.not_le.2 hs_ (Kd.R_base HO583.out k_ e_.symm))) (fun hn_ => (Kd.fresh' (Kd.R_lt (fR HO583.out)) k_ hn_)), Or.elim hk_ (fun hs_ => Or.elim hs_ (fun hs_ => fun e_ => Nat.not_le.2 hs_ (Kd.R_base HO586.out k_ e_.symm)) (fun hs_ => fun e_ => Nat.not_le.2 hs_ (Kd.R_base HO586.out k_ e_.symm))) (fun hn_ => (Kd.fresh' (Kd.R_lt (fR HO586.out)) k_ hn_)), Or.elim hk_ (fun hs_ => Or.elim hs_ (fun hs_ => fun e_ => Nat.not_le.2 hs_ (by rw [e_]; exact GW564.out)) (fun hs_ => fun e_ => Nat.not_le.2 hs_ (by rw [e_]; exact GW564.out))) (fun hn_ => (Kd.freshB (g := gb564) (o := .cells #[.slice A0_0 l0_0.length c0_0, .slice A0_1 l0_1.length c0_1] 25 (0, 0)) (fb BK564.out) k_ hn_)), Or.elim hk_ (fun hs_ => Or.elim hs_ (fun hs_ => fun e_ => Nat.not_le.2 hs_ (by rw [e_]; exact GW565.out)) (fun hs_ => fun e_ => Nat.not_le.2 hs_ (by rw [e_]; exact GW565.out))) (fun hn_ => (Kd.freshB (g := gb565) (o := .cells #[.slice A1_0 l1_0.length c1_0, .slice A1_1 l1_1.length c1_1] 25 (0, 0)) (fb BK565.out) k_ hn_)), Or.elim hk_ (fun hs_ => Or.elim hs_ (fun hs_ => fun e_ => Nat.not_le.2 hs_ (by rw [e_]; exact GW588.out)) (fun hs_ => fun e_ => Nat.not_le.2 hs_ (by rw [e_]; exact GW588.out))) (fun hn_ => (Kd.freshB (g := gb588) (o := .cells #[.slice Ao41 t581.length co41, .slice Ao43 t584.length co43] 31 (0, 0)) (fb BK588.out) k_ hn_))⟩)) (wz (fW HB.out))); replace HO583 := dR HO583 hb; replace HO586 := dR HO586 hb; replace BK564 := bB BK564 hb; replace BK565 := bB BK565 hb; replace BK588 := bB BK588 hb; replace HB := bS HB hb; (try clear hb); (try clear hb2); (try clear hk); (try clear hi); (try clear ho0); (try clear ho1); obtain ⟨Ao50, co50, eo50⟩ := Kd.V_slice HO592.out; subst eo50; obtain ⟨Ao51, co51, eo51⟩ := Kd.V_slice HO595.out; subst eo51) | ((with_reducible refine gc (f := 27) rfl ?_); refine goesL_ (some 39) rfl rfl Try.func27 (by kernel_rfl) rfl #[.agg #[.slice Ao50 t590.length co50, .slice Ao51 t593.length co51], .int .i64 a2] rfl (by (try simp only [pml]); first | done | rfl | (simp only [pdt]; rfl)) ?_; (with_reducible refine (shift_Open.calls kj3 _ _ t590 _ _ t593 a2 t596 t597 _ ?side1 ?side2 ?side3 ?side4 A26.out).mono ?_); (case side1 => repeat (first | exact (Kd.V_reads' HO592.out).2.2 | (with_reducible refine Kd.C_alloc ?_ _) | (with_reducible refine Kd.C_drewN ?_ _) | (with_reducible refine Kd.C_drew ?_))); (case side2 => exact (Kd.V_reads' HO592.out).2.1); (case side3 => repeat (first | exact (Kd.V_reads' HO595.out).2.2 | (with_reducible refine Kd.C_alloc ?_ _) | (with_reducible refine Kd.C_drewN ?_ _) | (with_reducible refine Kd.C_drew ?_))); (case side4 => exact (Kd.V_reads' HO595.out).2.1); rintro e w52 ⟨rfl, hb⟩; refine ⟨_, rfl, ?_⟩; replace HO571 := dV HO571 hb; replace HO574 := dV HO574 hb; replace HO577 := dV HO577 hb; replace HO580 := dV HO580 hb; replace HO583 := dR HO583 hb; replace HO586 := dR HO586 hb; replace HO592 := dV HO592 hb; replace HO595 := dV HO595 hb; replace BK564 := bB BK564 hb; replace BK565 := bB BK565 hb; replace BK588 := bB BK588 hb; replace HB := bS HB hb; (try clear hb); (try clear hb2); (try clear hk); (try clear hi); have hnb53 := NB565_588.out; have hnc53 := NB588_565.out; obtain ⟨_, _, _, _⟩ := zC2 BK565) | ((with_reducible refine gc (f := 14) rfl ?_); refine goesL_ (some 44) rfl rfl Try.func14 (by kernel_rfl) rfl #[.agg #[.slice A1_0 l1_0.length c1_0, .slice A1_1 l1_1.length c1_1]] rfl (by (try simp only [pml]); first | done | rfl | (simp only [pdt]; rfl)) ?_; (with_reducible refine (w_ours.calls (fun k_ => k_ < w.heap.size) _ _ l1_0 (fun k_ => k_ < w.heap.size) _ _ l1_1 t598 t601 _ ?side1 ?side2 A27.out).mono ?_); (case side1 => exact Kd.V_mk HC1_0.out (Kd.F_below (Kd.C_F k54_heap HR1_0.out) (fW HB.out))); (case side2 => exact Kd.V_mk HC1_1.out (Kd.F_below (Kd.C_F (Kd.heap_int .i64) HR1_1.out) (fW HB.out))); rintro e w55 ⟨v599, v602, rfl, ho0, ho1, hb⟩; refine ⟨_, rfl, ?_⟩; replace HO571 := dV HO571 hb; replace HO574 := dV HO574 hb; replace HO577 := dV HO577 hb; replace HO580 := dV HO580 hb; replace HO592 := dV HO592 hb; replace HO595 := dV HO595 hb; have HO600 := am (Kd.V_lower (Kd.V_mono (ok' := fun k_ => some k_ ≠ (.slice Ao41 t581.length co41 : Value).ownBlock ∧ some k_ ≠ (.slice Ao43 t584.length co43 : Value).ownBlock ∧ k_ ≠ gb564 ∧ k_ ≠ gb565 ∧ k_ ≠ gb588) ho0 (fun k_ hk_ => ⟨Or.elim hk_ (fun hs_ => Or.elim hs_ (fun hs_ => fun e_ => Nat.not_le.2 hs_ (Kd.R_base HO583.out k_ e_.symm)) (fun hs_ => fun e_ => Nat.not_le.2 hs_ (Kd.R_base HO583.out k_ e_.symm))) (fun hn_ => (Kd.fresh' (Kd.R_lt (fR HO583.out)) k_ hn_)), Or.elim hk_ (fun hs_ => Or.elim hs_ (fun hs_ => fun e_ => Nat.not_le.2 hs_ (Kd.R_base HO586.out k_ e_.symm)) (fun hs_ => fun e_ => Nat.not_le.2 hs_ (Kd.R_base HO586.out k_ e_.symm))) (fun hn_ => (Kd.fresh' (Kd.R_lt (fR HO586.out)) k_ hn_)), Or.elim hk_ (fun hs_ => Or.elim hs_ (fun hs_ => fun e_ => Nat.not_le.2 hs_ (by rw [e_]; exact GW564.out)) (fun hs_ => fun e_ => Nat.not_le.2 hs_ (by rw [e_]; exact GW564.out))) (fun hn_ => (Kd.freshB (g := gb564) (o := .cells #[.slice A0_0 l0_0.length c0_0, .slice A0_1 l0_1.length c0_1] 25 (0, 0)) (fb BK564.out) k_ hn_)), Or.elim hk_ (fun hs_ => Or.elim hs_ (fun hs_ => fun e_ => Nat.not_le.2 hs_ (by rw [e_]; exact GW565.out)) (fun hs_ => fun e_ => Nat.not_le.2 hs_ (by rw [e_]; exact GW565.out))) (fun hn_ => (Kd.freshB (g := gb565) (o := .cells #[.slice A1_0 l1_0.length c1_0, .slice A1_1 l1_1.length c1_1] 25 (0, 0)) (fb BK565.out) k_ hn_)), Or.elim hk_ (fun hs_ => Or.elim hs_ (fun hs_ => fun e_ => Nat.not_le.2 hs_ (by rw [e_]; exact GW588.out)) (fun hs_ => fun e_ => Nat.not_le.2 hs_ (by rw [e_]; exact GW588.out))) (fun hn_ => (Kd.freshB (g := gb588) (o := .cells #[.slice Ao41 t581.length co41, .slice Ao43 t584.length co43] 31 (0, 0)) (fb BK588.out) k_ hn_))⟩)) (wz (fW HB.out))); have HO603 := am (Kd.V_lower (Kd.V_mono (ok' := fun k_ => some k_ ≠ (.slice Ao41 t581.length co41 : Value).ownBlock ∧ some k_ ≠ (.slice Ao43 t584.length co43 : Value).ownBlock ∧ k_ ≠ gb564 ∧ k_ ≠ gb565 ∧ k_ ≠ gb588) ho1 (fun k_ hk_ => ⟨Or.elim hk_ (fun hs_ => Or.elim hs_ (fun hs_ => fun e_ => Nat.not_le.2 hs_ (Kd.R_base HO583.out k_ e_.symm)) (fun hs_ => fun e_ => Nat.not_le.2 hs_ (Kd.R_base HO583.out k_ e_.symm))) (fun hn_ => (Kd.fresh' (Kd.R_lt (fR HO583.out)) k_ hn_)), Or.elim hk_ (fun hs_ => Or.elim hs_ (fun hs_ => fun e_ => Nat.not_le.2 hs_ (Kd.R_base HO586.out k_ e_.symm)) (fun hs_ => fun e_ => Nat.not_le.2 hs_ (Kd.R_base HO586.out k_ e_.symm))) (fun hn_ => (Kd.fresh' (Kd.R_lt (fR HO586.out)) k_ hn_)), Or.elim hk_ (fun hs_ => Or.elim hs_ (fun hs_ => fun e_ => Nat.not_le.2 hs_ (by rw [e_]; exact GW564.out)) (fun hs_ => fun e_ => Nat.not_le.2 hs_ (by rw [e_]; exact GW564.out))) (fun hn_ => (Kd.freshB (g := gb564) (o := .cells #[.slice A0_0 l0_0.length c0_0, .slice A0_1 l0_1.length c0_1] 25 (0, 0)) (fb BK564.out) k_ hn_)), Or.elim hk_ (fun hs_ => Or.elim hs_ (fun hs_ => fun e_ => Nat.not_le.2 hs_ (by rw [e_]; exact GW565.out)) (fun hs_ => fun e_ => Nat.not_le.2 hs_ (by rw [e_]; exact GW565.out))) (fun hn_ => (Kd.freshB (g := gb565) (o := .cells #[.slice A1_0 l1_0.length c1_0, .slice A1_1 l1_1.length c1_1] 25 (0, 0)) (fb BK565.out) k_ hn_)), Or.elim hk_ (fun hs_ => Or.elim hs_ (fun hs_ => fun e_ => Nat.not_le.2 hs_ (by rw [e_]; exact GW588.out)) (fun hs_ => fun e_ => Nat.not_le.2 hs_ (by rw [e_]; exact GW588.out))) (fun hn_ => (Kd.freshB (g := gb588) (o := .cells #[.slice Ao41 t581.length co41, .slice Ao43 t584.length co43] 31 (0, 0)) (fb BK588.out) k_ hn_))⟩)) (wz (fW HB.out))); replace HO583 := dR HO583 hb; replace HO586 := dR HO586 hb; replace BK564 := bB BK564 hb; replace BK565 := bB BK565 hb; replace BK588 := bB BK588 hb; replace HB := bS HB hb; (try clear hb); (try clear hb2); (try clear hk); (try clear hi); (try clear ho0); (try clear ho1); obtain ⟨Ao56, co56, eo56⟩ := Kd.V_slice HO600.out; subst eo56; obtain ⟨Ao57, co57, eo57⟩ := Kd.V_slice HO603.out; subst eo57) | ((with_reducible refine gc (f := 27) rfl ?_); refine goesL_ (some 46) rfl rfl Try.func27 (by kernel_rfl) rfl #[.agg #[.slice Ao56 t598.length co56, .slice Ao57 t601.length co57], .int .i64 a2] rfl (by (try simp only [pml]); first | done | rfl | (simp only [pdt]; rfl)) ?_; (with_reducible refine (shift_Open.calls kj3 _ _ t598 _ _ t601 a2 t604 t605 _ ?side1 ?side2 ?side3 ?side4 A28.out).mono ?_); (case side1 => repeat (first | exact (Kd.V_reads' HO600.out).2.2 | (with_reducible refine Kd.C_alloc ?_ _) | (with_reducible refine Kd.C_drewN ?_ _) | (with_reducible refine Kd.C_drew ?_))); (case side2 => exact (Kd.V_reads' HO600.out).2.1); (case side3 => repeat (first | exact (Kd.V_reads' HO603.out).2.2 | (with_reducible refine Kd.C_alloc ?_ _) | (with_reducible refine Kd.C_drewN ?_ _) | (with_reducible refine Kd.C_drew ?_))); (case side4 => exact (Kd.V_reads' HO603.out).2.1); rintro e w58 ⟨rfl, hb⟩; refine ⟨_, rfl, ?_⟩; replace HO571 := dV HO571 hb; replace HO574 := dV HO574 hb; replace HO577 := dV HO577 hb; replace HO580 := dV HO580 hb; replace HO583 := dR HO583 hb; replace HO586 := dR HO586 hb; replace HO592 := dV HO592 hb; replace HO595 := dV HO595 hb; replace HO600 := dV HO600 hb; replace HO603 := dV HO603 hb; replace BK564 := bB BK564 hb; replace BK565 := bB BK565 hb; replace BK588 := bB BK588 hb; replace HB := bS HB hb; (try clear hb); (try clear hb2); (try clear hk); (try clear hi); obtain ⟨_, _, _, _⟩ := zC2 BK588) | ((with_reducible refine gc (f := 27) rfl ?_); refine goesL_ (some 52) rfl rfl Try.func27 (by kernel_rfl) rfl #[.agg #[.slice Ao41 t581.length co41, .slice Ao43 t584.length co43], .int .i64 a2] rfl (by (try simp only [pml]); first | done | rfl | (simp only [pdt]; rfl)) ?_; (with_reducible refine (shift_Open.calls kj3 _ _ t581 _ _ t584 a2 t606 t607 _ ?side1 ?side2 ?side3 ?side4 A29.out).mono ?_); (case side1 => repeat (first | exact (Kd.R_reads' HO583.out).2.2 | (with_reducible refine Kd.C_alloc ?_ _) | (with_reducible refine Kd.C_drewN ?_ _) | (with_reducible refine Kd.C_drew ?_))); (case side2 => exact (Kd.R_reads' HO583.out).2.1); (case side3 => repeat (first | exact (Kd.R_reads' HO586.out).2.2 | (with_reducible refine Kd.C_alloc ?_ _) | (with_reducible refine Kd.C_drewN ?_ _) | (with_reducible refine Kd.C_drew ?_))); (case side4 => exact (Kd.R_reads' HO586.out).2.1); rintro e w60 ⟨rfl, hb⟩; refine ⟨_, rfl, ?_⟩; replace HO571 := dV HO571 hb; replace HO574 := dV HO574 hb; replace HO577 := dV HO577 hb; replace HO580 := dV HO580 hb; replace HO583 := dR HO583 hb; replace HO586 := dR HO586 hb; replace HO592 := dV HO592 hb; replace HO595 := dV HO595 hb; replace HO600 := dV HO600 hb; replace HO603 := dV HO603 hb; replace BK564 := bB BK564 hb; replace BK565 := bB BK565 hb; replace BK588 := bB BK588 hb; replace HB := bS HB hb; (try clear hb); (try clear hb2); (try clear hk); (try clear hi)))
     (try simp only [Act.put, psl])
     go_cut [6] (fun v6 wc => ∃ (kq : Nat) (x6_29 : Bool), v6 = .bool x6_29 ∧ Aside0 (w_ShiftBoth.j1 kq x6_29 = some r) ∧ Aside0 (kq ≤ kj3) ∧ Aside0 (Kd.R k54 54 wc w.heap.size (fun _ => True) (.slice Ao41 t581.length co41) t581) ∧ Aside0 (Kd.R (Kd.int .i64) 3 wc w.heap.size (fun _ => True) (.slice Ao43 t584.length co43) t584) ∧ Aside0 (wc.heap[gb564]? = some (.cells #[(.slice A0_0 l0_0.length c0_0), (.slice A0_1 l0_1.length c0_1)] 25 (0, 0))) ∧ Aside0 (wc.heap[gb565]? = some (.cells #[(.slice A1_0 l1_0.length c1_0), (.slice A1_1 l1_1.length c1_1)] 25 (0, 0))) ∧ Aside0 (wc.heap[gb588]? = some (.cells #[(.slice Ao41 t581.length co41), (.slice Ao43 t584.length co43)] 31 (0, 0))) ∧ Aside0 (Below w.heap.size w wc))
     case first =>
      have H := HC30.out
      clear HC30
      replace H := Option.bind_eq_some_iff.mp H
      obtain ⟨t608, A610, H⟩ := H
      replace H : (if t608 = true then (if t597 = t605 then (if t605 = t607 then (if t596 = true then (if (t606 == t604) = true then ((shift_Check.f kj3 t581 t584).bind fun t609 => (w_ShiftBoth.j1 kj3 (t609 == 0))) else (w_ShiftBoth.j1 kj3 false)) else (if (t606 == false) = true then ((shift_Check.f kj3 t581 t584).bind fun t610 => (w_ShiftBoth.j1 kj3 (t610 == 0))) else (w_ShiftBoth.j1 kj3 false))) else (w_ShiftBoth.j1 kj3 false)) else (w_ShiftBoth.j1 kj3 false)) else (w_ShiftBoth.j1 kj3 false)) = some r := H
      have A61 := am A610
      clear A610
      by_cases c62 : t608 = true
      rotate_left
      ·replace c62 := Bool.eq_false_iff.mpr c62
       subst c62
       have H1 : (w_ShiftBoth.j1 kj3 false) = some r := by rw [if_neg (show ¬ (false = true) by decide)] at H; exact H
       clear H
       have H := H1
       clear H1
       have H' := am H
       clear H
       go_wp2_with (first | ((with_reducible refine gc (f := 12) rfl ?_); refine goesL_ (some 55) rfl rfl Try.func12 (by kernel_rfl) rfl #[] rfl (by (try simp only [pml]); first | done | rfl | (simp only [pdt]; rfl)) ?_; (with_reducible refine (w_awake.calls kj3  false _ A61.out).mono ?_); rintro e w84 ⟨rfl, hb⟩; refine ⟨_, rfl, ?_⟩; replace HO571 := dV HO571 hb; replace HO574 := dV HO574 hb; replace HO577 := dV HO577 hb; replace HO580 := dV HO580 hb; replace HO583 := dR HO583 hb; replace HO586 := dR HO586 hb; replace HO592 := dV HO592 hb; replace HO595 := dV HO595 hb; replace HO600 := dV HO600 hb; replace HO603 := dV HO603 hb; replace BK564 := bB BK564 hb; replace BK565 := bB BK565 hb; replace BK588 := bB BK588 hb; replace HB := bS HB hb; (try clear hb); (try clear hb2); (try clear hk); (try clear hi)))
       go_meet
       case rel => exact ⟨_, (false), sqD, H', ⟨by have := HJ3.out; first | omega | exact Nat.le_refl _⟩, ⟨fR HO583.out⟩, ⟨fR HO586.out⟩, ⟨fb BK564.out⟩, ⟨fb BK565.out⟩, ⟨fb BK588.out⟩, ⟨fW HB.out⟩⟩
      subst c62
      have H1 : (if t597 = t605 then (if t605 = t607 then (if t596 = true then (if (t606 == t604) = true then ((shift_Check.f kj3 t581 t584).bind fun t609 => (w_ShiftBoth.j1 kj3 (t609 == 0))) else (w_ShiftBoth.j1 kj3 false)) else (if (t606 == false) = true then ((shift_Check.f kj3 t581 t584).bind fun t610 => (w_ShiftBoth.j1 kj3 (t610 == 0))) else (w_ShiftBoth.j1 kj3 false))) else (w_ShiftBoth.j1 kj3 false)) else (w_ShiftBoth.j1 kj3 false)) = some r := by rw [if_pos rfl] at H; exact H
      clear H
      have H := H1
      clear H1
      by_cases c63 : t597 = t605
      rotate_left
      ·rw [if_neg c63] at H
       have c63b0 : (t597 == t605) = false := beq_eq_false_iff_ne.mpr c63
       have c63b1 : (t597 != t605) = true := bne_iff_ne.mpr c63
       (first | rw [c63b0] | (simp only [i64_w, i32_w]; rw [c63b0]) | skip)
       have H' := am H
       clear H
       go_wp2_with (first | ((with_reducible refine gc (f := 12) rfl ?_); refine goesL_ (some 55) rfl rfl Try.func12 (by kernel_rfl) rfl #[] rfl (by (try simp only [pml]); first | done | rfl | (simp only [pdt]; rfl)) ?_; (with_reducible refine (w_awake.calls kj3  true _ A61.out).mono ?_); rintro e w83 ⟨rfl, hb⟩; refine ⟨_, rfl, ?_⟩; replace HO571 := dV HO571 hb; replace HO574 := dV HO574 hb; replace HO577 := dV HO577 hb; replace HO580 := dV HO580 hb; replace HO583 := dR HO583 hb; replace HO586 := dR HO586 hb; replace HO592 := dV HO592 hb; replace HO595 := dV HO595 hb; replace HO600 := dV HO600 hb; replace HO603 := dV HO603 hb; replace BK564 := bB BK564 hb; replace BK565 := bB BK565 hb; replace BK588 := bB BK588 hb; replace HB := bS HB hb; (try clear hb); (try clear hb2); (try clear hk); (try clear hi)))
       go_meet
       case rel => exact ⟨_, (false), sqD, H', ⟨by have := HJ3.out; first | omega | exact Nat.le_refl _⟩, ⟨fR HO583.out⟩, ⟨fR HO586.out⟩, ⟨fb BK564.out⟩, ⟨fb BK565.out⟩, ⟨fb BK588.out⟩, ⟨fW HB.out⟩⟩
      rw [if_pos c63] at H
      have c63b0 : (t597 == t605) = true := beq_iff_eq.mpr c63
      have c63b1 : (t597 != t605) = false := bne_eq_false_iff_eq.mpr c63
      clear c63
      (first | rw [c63b0] | (simp only [i64_w, i32_w]; rw [c63b0]) | skip)
      by_cases c64 : t605 = t607
      rotate_left
      ·rw [if_neg c64] at H
       have c64b0 : (t605 == t607) = false := beq_eq_false_iff_ne.mpr c64
       have c64b1 : (t605 != t607) = true := bne_iff_ne.mpr c64
       have H' := am H
       clear H
       go_wp2_with (first | ((with_reducible refine gc (f := 12) rfl ?_); refine goesL_ (some 55) rfl rfl Try.func12 (by kernel_rfl) rfl #[] rfl (by (try simp only [pml]); first | done | rfl | (simp only [pdt]; rfl)) ?_; (with_reducible refine (w_awake.calls kj3  true _ A61.out).mono ?_); rintro e w82 ⟨rfl, hb⟩; refine ⟨_, rfl, ?_⟩; replace HO571 := dV HO571 hb; replace HO574 := dV HO574 hb; replace HO577 := dV HO577 hb; replace HO580 := dV HO580 hb; replace HO583 := dR HO583 hb; replace HO586 := dR HO586 hb; replace HO592 := dV HO592 hb; replace HO595 := dV HO595 hb; replace HO600 := dV HO600 hb; replace HO603 := dV HO603 hb; replace BK564 := bB BK564 hb; replace BK565 := bB BK565 hb; replace BK588 := bB BK588 hb; replace HB := bS HB hb; (try clear hb); (try clear hb2); (try clear hk); (try clear hi)))
       go_meet
       case rel => exact ⟨_, (false), sqD, H', ⟨by have := HJ3.out; first | omega | exact Nat.le_refl _⟩, ⟨fR HO583.out⟩, ⟨fR HO586.out⟩, ⟨fb BK564.out⟩, ⟨fb BK565.out⟩, ⟨fb BK588.out⟩, ⟨fW HB.out⟩⟩
      rw [if_pos c64] at H
      have c64b0 : (t605 == t607) = true := beq_iff_eq.mpr c64
      have c64b1 : (t605 != t607) = false := bne_eq_false_iff_eq.mpr c64
      clear c64
      by_cases c65 : t596 = true
      ·subst c65
       have H1 : (if (t606 == t604) = true then ((shift_Check.f kj3 t581 t584).bind fun t609 => (w_ShiftBoth.j1 kj3 (t609 == 0))) else (w_ShiftBoth.j1 kj3 false)) = some r := by rw [if_pos rfl] at H; exact H
       clear H
       have H := H1
       clear H1
       by_cases c66 : (t606 == t604) = true
       ·rw [if_pos c66] at H
        have c66b0 : (t606 == t604) = true := c66
        (try (have c66b1 : decide (t606 = t604) = true := by simpa using c66))
        (try (have c66b2 : (t606 == t604) = true := by simpa using c66))
        clear c66
        replace H := Option.bind_eq_some_iff.mp H
        obtain ⟨t609, A670, H⟩ := H
        replace H : (w_ShiftBoth.j1 kj3 (t609 == 0)) = some r := H
        have A67 := am A670
        clear A670
        have H' := am H
        clear H
        go_wp2_with (first | ((with_reducible refine gc (f := 12) rfl ?_); refine goesL_ (some 55) rfl rfl Try.func12 (by kernel_rfl) rfl #[] rfl (by (try simp only [pml]); first | done | rfl | (simp only [pdt]; rfl)) ?_; (with_reducible refine (w_awake.calls kj3  true _ A61.out).mono ?_); rintro e w68 ⟨rfl, hb⟩; refine ⟨_, rfl, ?_⟩; replace HO571 := dV HO571 hb; replace HO574 := dV HO574 hb; replace HO577 := dV HO577 hb; replace HO580 := dV HO580 hb; replace HO583 := dR HO583 hb; replace HO586 := dR HO586 hb; replace HO592 := dV HO592 hb; replace HO595 := dV HO595 hb; replace HO600 := dV HO600 hb; replace HO603 := dV HO603 hb; replace BK564 := bB BK564 hb; replace BK565 := bB BK565 hb; replace BK588 := bB BK588 hb; replace HB := bS HB hb; (try clear hb); (try clear hb2); (try clear hk); (try clear hi); have hnb69 := NB588_564.out; have hnc69 := NB564_588.out; have hnb70 := NB588_565.out; have hnc70 := NB565_588.out; obtain ⟨_, _, _, _⟩ := zC2 BK588) | (go_at_call 29; (with_reducible refine (shift_Check.calls kj3 _ _ t581 _ _ t584 t609 _ ?side1 ?side2 ?side3 ?side4 A67.out).mono ?_); (case side1 => repeat (first | exact (Kd.R_reads' HO583.out).2.2 | (with_reducible refine Kd.C_alloc ?_ _) | (with_reducible refine Kd.C_drewN ?_ _) | (with_reducible refine Kd.C_drew ?_))); (case side2 => exact (Kd.R_reads' HO583.out).2.1); (case side3 => repeat (first | exact (Kd.R_reads' HO586.out).2.2 | (with_reducible refine Kd.C_alloc ?_ _) | (with_reducible refine Kd.C_drewN ?_ _) | (with_reducible refine Kd.C_drew ?_))); (case side4 => exact (Kd.R_reads' HO586.out).2.1); rintro e w72 ⟨rfl, hb⟩; replace HO571 := dV HO571 hb; replace HO574 := dV HO574 hb; replace HO577 := dV HO577 hb; replace HO580 := dV HO580 hb; replace HO583 := dR HO583 hb; replace HO586 := dR HO586 hb; replace HO592 := dV HO592 hb; replace HO595 := dV HO595 hb; replace HO600 := dV HO600 hb; replace HO603 := dV HO603 hb; replace BK564 := bB BK564 hb; replace BK565 := bB BK565 hb; replace BK588 := bB BK588 hb; replace HB := bS HB hb; (try clear hb); (try clear hb2); (try clear hk); (try clear hi)))
        go_meet
        case rel => exact ⟨_, ((t609 == 0)), sqD, H', ⟨by have := HJ3.out; first | omega | exact Nat.le_refl _⟩, ⟨fR HO583.out⟩, ⟨fR HO586.out⟩, ⟨fb BK564.out⟩, ⟨fb BK565.out⟩, ⟨fb BK588.out⟩, ⟨fW HB.out⟩⟩
       rw [if_neg c66] at H
       have c66b0 : (t606 == t604) = false := by simpa using c66
       (try (have c66b1 : decide (t606 = t604) = false := by simpa using c66))
       (try (have c66b2 : (t606 == t604) = false := by simpa using c66))
       (try (have c66b3 : ¬ (t606 = t604) := by simpa using c66))
       clear c66
       have H' := am H
       clear H
       go_wp2_with (first | ((with_reducible refine gc (f := 12) rfl ?_); refine goesL_ (some 55) rfl rfl Try.func12 (by kernel_rfl) rfl #[] rfl (by (try simp only [pml]); first | done | rfl | (simp only [pdt]; rfl)) ?_; (with_reducible refine (w_awake.calls kj3  true _ A61.out).mono ?_); rintro e w73 ⟨rfl, hb⟩; refine ⟨_, rfl, ?_⟩; replace HO571 := dV HO571 hb; replace HO574 := dV HO574 hb; replace HO577 := dV HO577 hb; replace HO580 := dV HO580 hb; replace HO583 := dR HO583 hb; replace HO586 := dR HO586 hb; replace HO592 := dV HO592 hb; replace HO595 := dV HO595 hb; replace HO600 := dV HO600 hb; replace HO603 := dV HO603 hb; replace BK564 := bB BK564 hb; replace BK565 := bB BK565 hb; replace BK588 := bB BK588 hb; replace HB := bS HB hb; (try clear hb); (try clear hb2); (try clear hk); (try clear hi)))
       go_meet
       case rel => exact ⟨_, (false), sqD, H', ⟨by have := HJ3.out; first | omega | exact Nat.le_refl _⟩, ⟨fR HO583.out⟩, ⟨fR HO586.out⟩, ⟨fb BK564.out⟩, ⟨fb BK565.out⟩, ⟨fb BK588.out⟩, ⟨fW HB.out⟩⟩
      replace c65 := Bool.eq_false_iff.mpr c65
      subst c65
      have H1 : (if (t606 == false) = true then ((shift_Check.f kj3 t581 t584).bind fun t610 => (w_ShiftBoth.j1 kj3 (t610 == 0))) else (w_ShiftBoth.j1 kj3 false)) = some r := by rw [if_neg (show ¬ (false = true) by decide)] at H; exact H
      clear H
      have H := H1
      clear H1
      by_cases c74 : (t606 == false) = true
      ·rw [if_pos c74] at H
       obtain rfl : t606 = false := by simpa using c74
       clear c74
       replace H := Option.bind_eq_some_iff.mp H
       obtain ⟨t610, A750, H⟩ := H
       replace H : (w_ShiftBoth.j1 kj3 (t610 == 0)) = some r := H
       have A75 := am A750
       clear A750
       have H' := am H
       clear H
       go_wp2_with (first | ((with_reducible refine gc (f := 12) rfl ?_); refine goesL_ (some 55) rfl rfl Try.func12 (by kernel_rfl) rfl #[] rfl (by (try simp only [pml]); first | done | rfl | (simp only [pdt]; rfl)) ?_; (with_reducible refine (w_awake.calls kj3  true _ A61.out).mono ?_); rintro e w76 ⟨rfl, hb⟩; refine ⟨_, rfl, ?_⟩; replace HO571 := dV HO571 hb; replace HO574 := dV HO574 hb; replace HO577 := dV HO577 hb; replace HO580 := dV HO580 hb; replace HO583 := dR HO583 hb; replace HO586 := dR HO586 hb; replace HO592 := dV HO592 hb; replace HO595 := dV HO595 hb; replace HO600 := dV HO600 hb; replace HO603 := dV HO603 hb; replace BK564 := bB BK564 hb; replace BK565 := bB BK565 hb; replace BK588 := bB BK588 hb; replace HB := bS HB hb; (try clear hb); (try clear hb2); (try clear hk); (try clear hi); have hnb77 := NB588_564.out; have hnc77 := NB564_588.out; have hnb78 := NB588_565.out; have hnc78 := NB565_588.out; obtain ⟨_, _, _, _⟩ := zC2 BK588) | (go_at_call 29; (with_reducible refine (shift_Check.calls kj3 _ _ t581 _ _ t584 t610 _ ?side1 ?side2 ?side3 ?side4 A75.out).mono ?_); (case side1 => repeat (first | exact (Kd.R_reads' HO583.out).2.2 | (with_reducible refine Kd.C_alloc ?_ _) | (with_reducible refine Kd.C_drewN ?_ _) | (with_reducible refine Kd.C_drew ?_))); (case side2 => exact (Kd.R_reads' HO583.out).2.1); (case side3 => repeat (first | exact (Kd.R_reads' HO586.out).2.2 | (with_reducible refine Kd.C_alloc ?_ _) | (with_reducible refine Kd.C_drewN ?_ _) | (with_reducible refine Kd.C_drew ?_))); (case side4 => exact (Kd.R_reads' HO586.out).2.1); rintro e w80 ⟨rfl, hb⟩; replace HO571 := dV HO571 hb; replace HO574 := dV HO574 hb; replace HO577 := dV HO577 hb; replace HO580 := dV HO580 hb; replace HO583 := dR HO583 hb; replace HO586 := dR HO586 hb; replace HO592 := dV HO592 hb; replace HO595 := dV HO595 hb; replace HO600 := dV HO600 hb; replace HO603 := dV HO603 hb; replace BK564 := bB BK564 hb; replace BK565 := bB BK565 hb; replace BK588 := bB BK588 hb; replace HB := bS HB hb; (try clear hb); (try clear hb2); (try clear hk); (try clear hi)))
       go_meet
       case rel => exact ⟨_, ((t610 == 0)), sqD, H', ⟨by have := HJ3.out; first | omega | exact Nat.le_refl _⟩, ⟨fR HO583.out⟩, ⟨fR HO586.out⟩, ⟨fb BK564.out⟩, ⟨fb BK565.out⟩, ⟨fb BK588.out⟩, ⟨fW HB.out⟩⟩
      rw [if_neg c74] at H
      obtain rfl : t606 = true := by simpa using c74
      clear c74
      have H' := am H
      clear H
      go_wp2_with (first | ((with_reducible refine gc (f := 12) rfl ?_); refine goesL_ (some 55) rfl rfl Try.func12 (by kernel_rfl) rfl #[] rfl (by (try simp only [pml]); first | done | rfl | (simp only [pdt]; rfl)) ?_; (with_reducible refine (w_awake.calls kj3  true _ A61.out).mono ?_); rintro e w81 ⟨rfl, hb⟩; refine ⟨_, rfl, ?_⟩; replace HO571 := dV HO571 hb; replace HO574 := dV HO574 hb; replace HO577 := dV HO577 hb; replace HO580 := dV HO580 hb; replace HO583 := dR HO583 hb; replace HO586 := dR HO586 hb; replace HO592 := dV HO592 hb; replace HO595 := dV HO595 hb; replace HO600 := dV HO600 hb; replace HO603 := dV HO603 hb; replace BK564 := bB BK564 hb; replace BK565 := bB BK565 hb; replace BK588 := bB BK588 hb; replace HB := bS HB hb; (try clear hb); (try clear hb2); (try clear hk); (try clear hi)))
      go_meet
      case rel => exact ⟨_, (false), sqD, H', ⟨by have := HJ3.out; first | omega | exact Nat.le_refl _⟩, ⟨fR HO583.out⟩, ⟨fR HO586.out⟩, ⟨fb BK564.out⟩, ⟨fb BK565.out⟩, ⟨fb BK588.out⟩, ⟨fW HB.out⟩⟩
     case rest =>
      clear HC30
      try clear c1;try clear c2;try clear p2;try clear c3;try clear c4;try clear c5;try clear c6;try clear c7;try clear c12;try clear c14;try clear c27;try clear c32;try clear c46;try clear c47;try clear c53;try clear c62;try clear c63;try clear c63b0;try clear c63b1;try clear c64;try clear c64b0;try clear c64b1;try clear c65;try clear c66;try clear c66b0;try clear c66b1;try clear c66b2;try clear c69;try clear c70;try clear c74;try clear c74b0;try clear c74b1;try clear c74b2;try clear c77;try clear c78
      obtain ⟨kq, x6_29, rfl, HA, HJ29, HO_589000, HO_589001, BK564, BK565, BK588, HB⟩ := hcut
      cases kq with
      | zero => exact absurd HA.out (by simp [w_ShiftBoth.j1])
      | succ kj29 =>
       have H := HA.out
       clear HA
       simp only [w_ShiftBoth.j1] at H
       obtain rfl := Option.some.inj H
       go_wp2
       go_ret
       exact ⟨sqE, fW HB.out⟩
    ·rw [if_neg c24] at H
     have c24b0 : (t587 == 0) = false := beq_eq_false_iff_ne.mpr c24
     have c24b1 : (t587 != 0) = true := bne_iff_ne.mpr c24
     replace H := Option.bind_eq_some_iff.mp H
     obtain ⟨t589, A850, H⟩ := H
     replace H : (some t589) = some r := H
     have A85 := am A850
     clear A850
     obtain rfl := Option.some.inj H
     try go_wp2
     have n0_ := am (bd BK564.out)
     have n1_ := am (bd BK565.out)
     have n2_ := am (below_drew1 HB.out)
     clear BK564 BK565 HB
     have BK564 := n0_
     have BK565 := n1_
     have HB := n2_
     clear n0_ n1_ n2_
     refine start_ (n := 11) (S := fun w' => w'.cell? ⟨gb564, 0, none⟩ = some (.slice A0_0 l0_0.length c0_0) ∧ w'.cell? ⟨gb564, 1, none⟩ = some (.slice A0_1 l0_1.length c0_1) ∧ w'.cell? ⟨gb565, 0, none⟩ = some (.slice A1_0 l1_0.length c1_0) ∧ w'.cell? ⟨gb565, 1, none⟩ = some (.slice A1_1 l1_1.length c1_1)) (ds := []) #[F,F,F,F,F,F,F,F,F,F,F] (by kernel_rfl) rfl rfl ⟨(bc BK564.out 0).trans rfl, (bc BK564.out 1).trans rfl, (bc BK565.out 0).trans rfl, (bc BK565.out 1).trans rfl⟩ (fun hHeld => ?_); refine with_tabW w_ShiftBoth.tab3 w_ShiftBoth.bits3 (fun HT_ HW_ => ?_)
     generalize wc.drew = w86 at BK564 BK565 HB hHeld ⊢
     refine tk (i := 0) (N := some 25) (fl 11 1 []) HT_ HW_ hHeld ?_
     refine tk (i := 2) (N := some 27) (fl 11 1 [2]) HT_ HW_ hHeld ?_
     refine join_ (σ := Value × Value × Value × Value × Value × Value × Nat) 2 #[T,T,T,T,T,T,T,T,T,F,F] (fun s_ => [(26, .agg #[s_.1, s_.2.1]), (28, .agg #[s_.2.2.1, s_.2.2.2.1]), (29, .tuple #[.agg #[s_.2.2.2.2.1, s_.2.2.2.2.2.1], .int .i64 t587]), (7, .pointer (some ⟨s_.2.2.2.2.2.2, 0, none⟩)), (24, .tuple #[.agg #[s_.2.2.2.2.1, s_.2.2.2.2.2.1], .int .i64 t587]), (30, .agg #[s_.2.2.2.2.1, s_.2.2.2.2.2.1]), (31, .int .i64 t587)]) (fun s_ w' => (w'.cell? ⟨gb564, 0, none⟩ = some (.slice A0_0 l0_0.length c0_0) ∧ w'.cell? ⟨gb564, 1, none⟩ = some (.slice A0_1 l0_1.length c0_1) ∧ w'.cell? ⟨gb565, 0, none⟩ = some (.slice A1_0 l1_0.length c1_0) ∧ w'.cell? ⟨gb565, 1, none⟩ = some (.slice A1_1 l1_1.length c1_1)) ∧ (Kd.V k54 54 w' w.heap.size (fun k_ => some k_ ≠ (s_.2.2.2.2.1 : Value).ownBlock ∧ some k_ ≠ (s_.2.2.2.2.2.1 : Value).ownBlock ∧ k_ ≠ gb564 ∧ k_ ≠ gb565 ∧ k_ ≠ s_.2.2.2.2.2.2) s_.1 t569) ∧ (Kd.V (Kd.int .i64) 3 w' w.heap.size (fun k_ => some k_ ≠ (s_.2.2.2.2.1 : Value).ownBlock ∧ some k_ ≠ (s_.2.2.2.2.2.1 : Value).ownBlock ∧ k_ ≠ gb564 ∧ k_ ≠ gb565 ∧ k_ ≠ s_.2.2.2.2.2.2) s_.2.1 t572) ∧ (Kd.V k54 54 w' w.heap.size (fun k_ => some k_ ≠ (s_.2.2.2.2.1 : Value).ownBlock ∧ some k_ ≠ (s_.2.2.2.2.2.1 : Value).ownBlock ∧ k_ ≠ gb564 ∧ k_ ≠ gb565 ∧ k_ ≠ s_.2.2.2.2.2.2) s_.2.2.1 t575) ∧ (Kd.V (Kd.int .i64) 3 w' w.heap.size (fun k_ => some k_ ≠ (s_.2.2.2.2.1 : Value).ownBlock ∧ some k_ ≠ (s_.2.2.2.2.2.1 : Value).ownBlock ∧ k_ ≠ gb564 ∧ k_ ≠ gb565 ∧ k_ ≠ s_.2.2.2.2.2.2) s_.2.2.2.1 t578) ∧ (Kd.R k54 54 w' w.heap.size (fun _ => True) s_.2.2.2.2.1 t581) ∧ (Kd.R (Kd.int .i64) 3 w' w.heap.size (fun _ => True) s_.2.2.2.2.2.1 t584) ∧ (w'.heap[gb564]? = some (.cells #[.slice A0_0 l0_0.length c0_0, .slice A0_1 l0_1.length c0_1] 25 (0, 0))) ∧ (w'.heap[gb565]? = some (.cells #[.slice A1_0 l1_0.length c1_0, .slice A1_1 l1_1.length c1_1] 25 (0, 0))) ∧ (w'.heap[s_.2.2.2.2.2.2]? = some (.cells #[.slice none 0 0, .slice none 0 0] 31 (0, 0))) ∧ (w.heap.size ≤ s_.2.2.2.2.2.2) ∧ (w.heap.size ≤ s_.2.2.2.2.2.2) ∧ (gb564 ≠ s_.2.2.2.2.2.2) ∧ (s_.2.2.2.2.2.2 ≠ gb564) ∧ (gb565 ≠ s_.2.2.2.2.2.2) ∧ (s_.2.2.2.2.2.2 ≠ gb565) ∧ (Below w.heap.size w w')) ?_ ?_
     rotate_left
     ·intro hCont
      refine two_ (i := 1) (j := 8) (Ni := some 26) (Nj := some 7) #[T,T,T,F,F,F,F,F,F,F,F] (fl 11 1 [2, 8]) rfl rfl rfl rfl (two_of HT_.out (by kernel_rfl)) (by decide) (by decide) (fun K hK => ?_) (fun K hK => ?_)
      ·skip
       refine goes_ Try.func14 (by kernel_rfl) rfl #[.agg #[.slice A0_0 l0_0.length c0_0, .slice A0_1 l0_1.length c0_1]] (by rfl) rfl rfl (by (try simp only [pml]); first | done | rfl | (simp only [pdt]; rfl)) ?_
       with_reducible refine (w_ours.calls (fun k_ => k_ < w.heap.size) _ _ l0_0 (fun k_ => k_ < w.heap.size) _ _ l0_1 t569 t572 _ ?side1 ?side2 A21.out).mono ?_
       (case side1 => exact Kd.V_mk HC0_0.out (Kd.F_below (Kd.C_F k54_heap HR0_0.out) (fW HB.out)))
       (case side2 => exact Kd.V_mk HC0_1.out (Kd.F_below (Kd.C_F (Kd.heap_int .i64) HR0_1.out) (fW HB.out)))
       rintro e w87 ⟨v570, v573, rfl, ho0, ho1, hb⟩
       refine ⟨_, rfl, ?_⟩
       have n0_ := am (Kd.V_lower (Kd.V_mono (ok' := fun k_ => k_ ≠ gb564 ∧ k_ ≠ gb565) ho0 (fun k_ hk_ => ⟨Or.elim hk_ (fun hs_ => Or.elim hs_ (fun hs_ => fun e_ => Nat.not_le.2 hs_ (by rw [e_]; exact GW564.out)) (fun hs_ => fun e_ => Nat.not_le.2 hs_ (by rw [e_]; exact GW564.out))) (fun hn_ => (Kd.freshB (g := gb564) (o := .cells #[.slice A0_0 l0_0.length c0_0, .slice A0_1 l0_1.length c0_1] 25 (0, 0)) (fb BK564.out) k_ hn_)), Or.elim hk_ (fun hs_ => Or.elim hs_ (fun hs_ => fun e_ => Nat.not_le.2 hs_ (by rw [e_]; exact GW565.out)) (fun hs_ => fun e_ => Nat.not_le.2 hs_ (by rw [e_]; exact GW565.out))) (fun hn_ => (Kd.freshB (g := gb565) (o := .cells #[.slice A1_0 l1_0.length c1_0, .slice A1_1 l1_1.length c1_1] 25 (0, 0)) (fb BK565.out) k_ hn_))⟩)) (wz (fW HB.out)))
       have n1_ := am (Kd.V_lower (Kd.V_mono (ok' := fun k_ => k_ ≠ gb564 ∧ k_ ≠ gb565) ho1 (fun k_ hk_ => ⟨Or.elim hk_ (fun hs_ => Or.elim hs_ (fun hs_ => fun e_ => Nat.not_le.2 hs_ (by rw [e_]; exact GW564.out)) (fun hs_ => fun e_ => Nat.not_le.2 hs_ (by rw [e_]; exact GW564.out))) (fun hn_ => (Kd.freshB (g := gb564) (o := .cells #[.slice A0_0 l0_0.length c0_0, .slice A0_1 l0_1.length c0_1] 25 (0, 0)) (fb BK564.out) k_ hn_)), Or.elim hk_ (fun hs_ => Or.elim hs_ (fun hs_ => fun e_ => Nat.not_le.2 hs_ (by rw [e_]; exact GW565.out)) (fun hs_ => fun e_ => Nat.not_le.2 hs_ (by rw [e_]; exact GW565.out))) (fun hn_ => (Kd.freshB (g := gb565) (o := .cells #[.slice A1_0 l1_0.length c1_0, .slice A1_1 l1_1.length c1_1] 25 (0, 0)) (fb BK565.out) k_ hn_))⟩)) (wz (fW HB.out)))
       have n2_ := bB BK564 hb
       have n3_ := bB BK565 hb
       have n4_ := bS HB hb
       clear BK564 BK565 HB
       have HO571 := n0_
       have HO574 := n1_
       have BK564 := n2_
       have BK565 := n3_
       have HB := n4_
       clear n0_ n1_ n2_ n3_ n4_
       (try clear hb)
       (try clear hb2)
       (try clear hk)
       (try clear hi)
       (try clear ho0)
       (try clear ho1)
       refine hK.out _ _ ⟨(bc BK564.out 0).trans rfl, (bc BK564.out 1).trans rfl, (bc BK565.out 0).trans rfl, (bc BK565.out 1).trans rfl⟩ (fun hHeld => ?_)
       clear hK K
       refine norm_ (a' := ?_) ?_ ?_
       rotate_left
       ·show Act.put _ (some 26) _ = _
        simp only [Act.put, psl, i64_w, i32_w]
        rfl
       refine two_ (i := 3) (j := 8) (Ni := some 28) (Nj := some 7) #[T,T,T,T,F,F,F,F,F,F,F] (fl 11 3 [8]) rfl rfl rfl rfl (two_of HT_.out (by kernel_rfl)) (by decide) (by decide) (fun K hK => ?_) (fun K hK => ?_)
       ·skip
        refine goes_ Try.func14 (by kernel_rfl) rfl #[.agg #[.slice A1_0 l1_0.length c1_0, .slice A1_1 l1_1.length c1_1]] (by rfl) rfl rfl (by (try simp only [pml]); first | done | rfl | (simp only [pdt]; rfl)) ?_
        with_reducible refine (w_ours.calls (fun k_ => k_ < w.heap.size) _ _ l1_0 (fun k_ => k_ < w.heap.size) _ _ l1_1 t575 t578 _ ?side1 ?side2 A22.out).mono ?_
        (case side1 => exact Kd.V_mk HC1_0.out (Kd.F_below (Kd.C_F k54_heap HR1_0.out) (fW HB.out)))
        (case side2 => exact Kd.V_mk HC1_1.out (Kd.F_below (Kd.C_F (Kd.heap_int .i64) HR1_1.out) (fW HB.out)))
        rintro e w88 ⟨v576, v579, rfl, ho0, ho1, hb⟩
        refine ⟨_, rfl, ?_⟩
        have n0_ := dV HO571 hb
        have n1_ := dV HO574 hb
        have n2_ := am (Kd.V_lower (Kd.V_mono (ok' := fun k_ => k_ ≠ gb564 ∧ k_ ≠ gb565) ho0 (fun k_ hk_ => ⟨Or.elim hk_ (fun hs_ => Or.elim hs_ (fun hs_ => fun e_ => Nat.not_le.2 hs_ (by rw [e_]; exact GW564.out)) (fun hs_ => fun e_ => Nat.not_le.2 hs_ (by rw [e_]; exact GW564.out))) (fun hn_ => (Kd.freshB (g := gb564) (o := .cells #[.slice A0_0 l0_0.length c0_0, .slice A0_1 l0_1.length c0_1] 25 (0, 0)) (fb BK564.out) k_ hn_)), Or.elim hk_ (fun hs_ => Or.elim hs_ (fun hs_ => fun e_ => Nat.not_le.2 hs_ (by rw [e_]; exact GW565.out)) (fun hs_ => fun e_ => Nat.not_le.2 hs_ (by rw [e_]; exact GW565.out))) (fun hn_ => (Kd.freshB (g := gb565) (o := .cells #[.slice A1_0 l1_0.length c1_0, .slice A1_1 l1_1.length c1_1] 25 (0, 0)) (fb BK565.out) k_ hn_))⟩)) (wz (fW HB.out)))
        have n3_ := am (Kd.V_lower (Kd.V_mono (ok' := fun k_ => k_ ≠ gb564 ∧ k_ ≠ gb565) ho1 (fun k_ hk_ => ⟨Or.elim hk_ (fun hs_ => Or.elim hs_ (fun hs_ => fun e_ => Nat.not_le.2 hs_ (by rw [e_]; exact GW564.out)) (fun hs_ => fun e_ => Nat.not_le.2 hs_ (by rw [e_]; exact GW564.out))) (fun hn_ => (Kd.freshB (g := gb564) (o := .cells #[.slice A0_0 l0_0.length c0_0, .slice A0_1 l0_1.length c0_1] 25 (0, 0)) (fb BK564.out) k_ hn_)), Or.elim hk_ (fun hs_ => Or.elim hs_ (fun hs_ => fun e_ => Nat.not_le.2 hs_ (by rw [e_]; exact GW565.out)) (fun hs_ => fun e_ => Nat.not_le.2 hs_ (by rw [e_]; exact GW565.out))) (fun hn_ => (Kd.freshB (g := gb565) (o := .cells #[.slice A1_0 l1_0.length c1_0, .slice A1_1 l1_1.length c1_1] 25 (0, 0)) (fb BK565.out) k_ hn_))⟩)) (wz (fW HB.out)))
        have n4_ := bB BK564 hb
        have n5_ := bB BK565 hb
        have n6_ := bS HB hb
        clear HO571 HO574 BK564 BK565 HB
        have HO571 := n0_
        have HO574 := n1_
        have HO577 := n2_
        have HO580 := n3_
        have BK564 := n4_
        have BK565 := n5_
        have HB := n6_
        clear n0_ n1_ n2_ n3_ n4_ n5_ n6_
        (try clear hb)
        (try clear hb2)
        (try clear hk)
        (try clear hi)
        (try clear ho0)
        (try clear ho1)
        obtain ⟨Ao89, co89, eo89⟩ := Kd.V_slice HO571.out
        (first | subst eo89 | (injection eo89 with f1_ f2_ f3_; have f4_ := f1_.symm; have f5_ := f3_.symm; clear f1_ f2_ f3_; subst f4_; subst f5_))
        obtain ⟨Ao90, co90, eo90⟩ := Kd.V_slice HO574.out
        (first | subst eo90 | (injection eo90 with f1_ f2_ f3_; have f4_ := f1_.symm; have f5_ := f3_.symm; clear f1_ f2_ f3_; subst f4_; subst f5_))
        obtain ⟨Ao91, co91, eo91⟩ := Kd.V_slice HO577.out
        (first | subst eo91 | (injection eo91 with f1_ f2_ f3_; have f4_ := f1_.symm; have f5_ := f3_.symm; clear f1_ f2_ f3_; subst f4_; subst f5_))
        obtain ⟨Ao92, co92, eo92⟩ := Kd.V_slice HO580.out
        (first | subst eo92 | (injection eo92 with f1_ f2_ f3_; have f4_ := f1_.symm; have f5_ := f3_.symm; clear f1_ f2_ f3_; subst f4_; subst f5_))
        refine hK.out _ _ ⟨(bc BK564.out 0).trans rfl, (bc BK564.out 1).trans rfl, (bc BK565.out 0).trans rfl, (bc BK565.out 1).trans rfl⟩ (fun hHeld => ?_)
        clear hK K
        refine norm_ (a' := ?_) ?_ ?_
        rotate_left
        ·show Act.put _ (some 28) _ = _
         simp only [Act.put, psl, i64_w, i32_w]
         rfl
        refine two_ (i := 4) (j := 8) (Ni := some 29) (Nj := some 7) #[T,T,T,T,T,F,F,F,F,F,F] (fl 11 4 [8]) rfl rfl rfl rfl (two_of HT_.out (by kernel_rfl)) (by decide) (by decide) (fun K hK => ?_) (fun K hK => ?_)
        ·skip
         refine goes_ Try.func32 (by kernel_rfl) rfl #[.agg #[.slice Ao89 t569.length co89, .slice Ao90 t572.length co90], .agg #[.slice Ao91 t575.length co91, .slice Ao92 t578.length co92]] (by rfl) rfl rfl (by (try simp only [pml]); first | done | rfl | (simp only [pdt]; rfl)) ?_
         with_reducible refine (shift_Common.calls kj3 (fun k_ => (k_ ≠ gb564 ∧ k_ ≠ gb565)) _ _ t569 (fun k_ => (k_ ≠ gb564 ∧ k_ ≠ gb565)) _ _ t572 (fun k_ => (k_ ≠ gb564 ∧ k_ ≠ gb565)) _ _ t575 (fun k_ => (k_ ≠ gb564 ∧ k_ ≠ gb565)) _ _ t578 t581 t584 t587 _ ?side1 ?side2 ?side3 ?side4 A23.out).mono ?_
         (case side1 => exact HO571.out)
         (case side2 => exact HO574.out)
         (case side3 => exact HO577.out)
         (case side4 => exact HO580.out)
         rintro e w93 ⟨v582, v585, rfl, ho0, ho1, hb⟩
         refine ⟨_, rfl, ?_⟩
         have n0_ := am (Kd.V_mono (Kd.V_told (Kd.V_told (Kd.V_old (fV HO571.out) hb) (Kd.R_base ho0)) (Kd.R_base ho1)) (fun _ h_ => h_.1))
         have n1_ := am (Kd.V_mono (Kd.V_told (Kd.V_told (Kd.V_old (fV HO574.out) hb) (Kd.R_base ho0)) (Kd.R_base ho1)) (fun _ h_ => h_.1))
         have n2_ := am (Kd.V_mono (Kd.V_told (Kd.V_told (Kd.V_old (fV HO577.out) hb) (Kd.R_base ho0)) (Kd.R_base ho1)) (fun _ h_ => h_.1))
         have n3_ := am (Kd.V_mono (Kd.V_told (Kd.V_told (Kd.V_old (fV HO580.out) hb) (Kd.R_base ho0)) (Kd.R_base ho1)) (fun _ h_ => h_.1))
         have n4_ := am (Kd.R_lower (Kd.R_mono (ok' := fun k_ => True) ho0 (fun _ hk_ => trivial)) (wz (fW HB.out)))
         have n5_ := am (Kd.R_lower (Kd.R_mono (ok' := fun k_ => True) ho1 (fun _ hk_ => trivial)) (wz (fW HB.out)))
         have n6_ := bB BK564 hb
         have n7_ := bB BK565 hb
         have n8_ := bS HB hb
         clear HO571 HO574 HO577 HO580 BK564 BK565 HB
         have HO571 := n0_
         have HO574 := n1_
         have HO577 := n2_
         have HO580 := n3_
         have HO583 := n4_
         have HO586 := n5_
         have BK564 := n6_
         have BK565 := n7_
         have HB := n8_
         clear n0_ n1_ n2_ n3_ n4_ n5_ n6_ n7_ n8_
         (try clear hb)
         (try clear hb2)
         (try clear hk)
         (try clear hi)
         (try clear ho0)
         (try clear ho1)
         refine hK.out _ _ ⟨(bc BK564.out 0).trans rfl, (bc BK564.out 1).trans rfl, (bc BK565.out 0).trans rfl, (bc BK565.out 1).trans rfl⟩ (fun hHeld => ?_)
         clear hK K
         refine norm_ (a' := ?_) ?_ ?_
         rotate_left
         ·show Act.put _ (some 29) _ = _
          simp only [Act.put, psl, i64_w, i32_w]
          rfl
         refine pu (i := 5) (N := some 24) (fl 11 6 []) HT_ ?_
         refine pu (i := 6) (N := some 30) (fl 11 7 []) HT_ ?_
         refine pu (i := 7) (N := some 31) (fl 11 8 []) HT_ ?_
         refine one_ (i := 8) (N := some 7) (fl 11 9 []) rfl rfl (one_of HT_.out (by kernel_rfl)) (by decide) (fun K hK => ?_)
         refine box_step ?hg (N := 7) ?hd (cs := #[.slice none 0 0, .slice none 0 0]) (t := 31) ?hr ?_; (case hd | hg => rfl); (case hr => first | (go_simp; done) | (go_simp; rfl))
         intro gb588 hg w94 hbox hb
         have n0_ := eV HO571 hg hb
         have n1_ := eV HO574 hg hb
         have n2_ := eV HO577 hg hb
         have n3_ := eV HO580 hg hb
         have n4_ := dR HO583 hb
         have n5_ := dR HO586 hb
         have n6_ := bB BK564 hb
         have n7_ := bB BK565 hb
         have n8_ := bS HB hb
         have n9_ := am hbox
         have n10_ := sG HB hg
         have n11_ := sG HB hg
         have n12_ := nL BK564 hg
         have n13_ := nG BK564 hg
         have n14_ := nL BK565 hg
         have n15_ := nG BK565 hg
         clear HO571 HO574 HO577 HO580 HO583 HO586 BK564 BK565 HB
         have HO571 := n0_
         have HO574 := n1_
         have HO577 := n2_
         have HO580 := n3_
         have HO583 := n4_
         have HO586 := n5_
         have BK564 := n6_
         have BK565 := n7_
         have HB := n8_
         have BK588 := n9_
         have GW588 := n10_
         have GE588 := n11_
         have NB564_588 := n12_
         have NB588_564 := n13_
         have NB565_588 := n14_
         have NB588_565 := n15_
         clear n0_ n1_ n2_ n3_ n4_ n5_ n6_ n7_ n8_ n9_ n10_ n11_ n12_ n13_ n14_ n15_ hb hbox hg
         refine hK.out _ _ ⟨(bc BK564.out 0).trans rfl, (bc BK564.out 1).trans rfl, (bc BK565.out 0).trans rfl, (bc BK565.out 1).trans rfl⟩ (fun hHeld => ?_)
         clear hK K
         refine norm_ (a' := ?_) ?_ ?_
         rotate_left
         ·show Act.put _ (some 7) _ = _
          simp only [Act.put, psl, i64_w, i32_w]
          rfl
         exact norm_ (by simp only [putAll, Act.put, psl]) (hCont (.slice Ao89 t569.length co89, .slice Ao90 t572.length co90, .slice Ao91 t575.length co91, .slice Ao92 t578.length co92, v582, v585, gb588) _ ⟨hHeld, (by (with_reducible repeat (first | apply Kd.V_alloc | apply Kd.V_drewN | apply Kd.V_drew)); exact Kd.V_mono HO571.out (fun _ hk => ⟨hk.1.1.2, ⟨hk.1.2, ⟨hk.1.1.1.1, ⟨hk.1.1.1.2, hk.2⟩⟩⟩⟩)), (by (with_reducible repeat (first | apply Kd.V_alloc | apply Kd.V_drewN | apply Kd.V_drew)); exact Kd.V_mono HO574.out (fun _ hk => ⟨hk.1.1.2, ⟨hk.1.2, ⟨hk.1.1.1.1, ⟨hk.1.1.1.2, hk.2⟩⟩⟩⟩)), (by (with_reducible repeat (first | apply Kd.V_alloc | apply Kd.V_drewN | apply Kd.V_drew)); exact Kd.V_mono HO577.out (fun _ hk => ⟨hk.1.1.2, ⟨hk.1.2, ⟨hk.1.1.1.1, ⟨hk.1.1.1.2, hk.2⟩⟩⟩⟩)), (by (with_reducible repeat (first | apply Kd.V_alloc | apply Kd.V_drewN | apply Kd.V_drew)); exact Kd.V_mono HO580.out (fun _ hk => ⟨hk.1.1.2, ⟨hk.1.2, ⟨hk.1.1.1.1, ⟨hk.1.1.1.2, hk.2⟩⟩⟩⟩)), (fR HO583.out), (fR HO586.out), (fb BK564.out), (fb BK565.out), (fb BK588.out), GW588.out, GE588.out, NB564_588.out, NB588_564.out, NB565_588.out, NB588_565.out, (fW HB.out)⟩)
        skip
        refine box_step ?hg (N := 7) ?hd (cs := #[.slice none 0 0, .slice none 0 0]) (t := 31) ?hr ?_; (case hd | hg => rfl); (case hr => first | (go_simp; done) | (go_simp; rfl))
        intro gb588 hg w89 hbox hb
        have n0_ := eV HO571 hg hb
        have n1_ := eV HO574 hg hb
        have n2_ := eV HO577 hg hb
        have n3_ := eV HO580 hg hb
        have n4_ := bB BK564 hb
        have n5_ := bB BK565 hb
        have n6_ := bS HB hb
        have n7_ := am hbox
        have n8_ := sG HB hg
        have n9_ := sG HB hg
        have n10_ := nL BK564 hg
        have n11_ := nG BK564 hg
        have n12_ := nL BK565 hg
        have n13_ := nG BK565 hg
        clear HO571 HO574 HO577 HO580 BK564 BK565 HB
        have HO571 := n0_
        have HO574 := n1_
        have HO577 := n2_
        have HO580 := n3_
        have BK564 := n4_
        have BK565 := n5_
        have HB := n6_
        have BK588 := n7_
        have GW588 := n8_
        have GE588 := n9_
        have NB564_588 := n10_
        have NB588_564 := n11_
        have NB565_588 := n12_
        have NB588_565 := n13_
        clear n0_ n1_ n2_ n3_ n4_ n5_ n6_ n7_ n8_ n9_ n10_ n11_ n12_ n13_ hb hbox hg
        obtain ⟨Ao90, co90, eo90⟩ := Kd.V_slice HO571.out
        (first | subst eo90 | (injection eo90 with f1_ f2_ f3_; have f4_ := f1_.symm; have f5_ := f3_.symm; clear f1_ f2_ f3_; subst f4_; subst f5_))
        obtain ⟨Ao91, co91, eo91⟩ := Kd.V_slice HO574.out
        (first | subst eo91 | (injection eo91 with f1_ f2_ f3_; have f4_ := f1_.symm; have f5_ := f3_.symm; clear f1_ f2_ f3_; subst f4_; subst f5_))
        obtain ⟨Ao92, co92, eo92⟩ := Kd.V_slice HO577.out
        (first | subst eo92 | (injection eo92 with f1_ f2_ f3_; have f4_ := f1_.symm; have f5_ := f3_.symm; clear f1_ f2_ f3_; subst f4_; subst f5_))
        obtain ⟨Ao93, co93, eo93⟩ := Kd.V_slice HO580.out
        (first | subst eo93 | (injection eo93 with f1_ f2_ f3_; have f4_ := f1_.symm; have f5_ := f3_.symm; clear f1_ f2_ f3_; subst f4_; subst f5_))
        refine hK.out _ _ ⟨(bc BK564.out 0).trans rfl, (bc BK564.out 1).trans rfl, (bc BK565.out 0).trans rfl, (bc BK565.out 1).trans rfl⟩ (fun hHeld => ?_)
        clear hK K
        refine norm_ (a' := ?_) ?_ ?_
        rotate_left
        ·show Act.put _ (some 7) _ = _
         simp only [Act.put, psl, i64_w, i32_w]
         rfl
        refine one_ (i := 4) (N := some 29) (fl 11 5 [8]) rfl rfl (one_of HT_.out (by kernel_rfl)) (by decide) (fun K hK => ?_)
        refine goes_ Try.func32 (by kernel_rfl) rfl #[.agg #[.slice Ao90 t569.length co90, .slice Ao91 t572.length co91], .agg #[.slice Ao92 t575.length co92, .slice Ao93 t578.length co93]] (by rfl) rfl rfl (by (try simp only [pml]); first | done | rfl | (simp only [pdt]; rfl)) ?_
        with_reducible refine (shift_Common.calls kj3 (fun k_ => ((k_ ≠ gb564 ∧ k_ ≠ gb565) ∧ k_ ≠ gb588)) _ _ t569 (fun k_ => ((k_ ≠ gb564 ∧ k_ ≠ gb565) ∧ k_ ≠ gb588)) _ _ t572 (fun k_ => ((k_ ≠ gb564 ∧ k_ ≠ gb565) ∧ k_ ≠ gb588)) _ _ t575 (fun k_ => ((k_ ≠ gb564 ∧ k_ ≠ gb565) ∧ k_ ≠ gb588)) _ _ t578 t581 t584 t587 _ ?side1 ?side2 ?side3 ?side4 A23.out).mono ?_
        (case side1 => exact HO571.out)
        (case side2 => exact HO574.out)
        (case side3 => exact HO577.out)
        (case side4 => exact HO580.out)
        rintro e w94 ⟨v582, v585, rfl, ho0, ho1, hb⟩
        refine ⟨_, rfl, ?_⟩
        have n0_ := am (Kd.V_mono (Kd.V_told (Kd.V_told (Kd.V_old (fV HO571.out) hb) (Kd.R_base ho0)) (Kd.R_base ho1)) (fun _ h_ => h_.1))
        have n1_ := am (Kd.V_mono (Kd.V_told (Kd.V_told (Kd.V_old (fV HO574.out) hb) (Kd.R_base ho0)) (Kd.R_base ho1)) (fun _ h_ => h_.1))
        have n2_ := am (Kd.V_mono (Kd.V_told (Kd.V_told (Kd.V_old (fV HO577.out) hb) (Kd.R_base ho0)) (Kd.R_base ho1)) (fun _ h_ => h_.1))
        have n3_ := am (Kd.V_mono (Kd.V_told (Kd.V_told (Kd.V_old (fV HO580.out) hb) (Kd.R_base ho0)) (Kd.R_base ho1)) (fun _ h_ => h_.1))
        have n4_ := am (Kd.R_lower (Kd.R_mono (ok' := fun k_ => True) ho0 (fun _ hk_ => trivial)) (wz (fW HB.out)))
        have n5_ := am (Kd.R_lower (Kd.R_mono (ok' := fun k_ => True) ho1 (fun _ hk_ => trivial)) (wz (fW HB.out)))
        have n6_ := bB BK564 hb
        have n7_ := bB BK565 hb
        have n8_ := bB BK588 hb
        have n9_ := bS HB hb
        clear HO571 HO574 HO577 HO580 BK564 BK565 BK588 HB
        have HO571 := n0_
        have HO574 := n1_
        have HO577 := n2_
        have HO580 := n3_
        have HO583 := n4_
        have HO586 := n5_
        have BK564 := n6_
        have BK565 := n7_
        have BK588 := n8_
        have HB := n9_
        clear n0_ n1_ n2_ n3_ n4_ n5_ n6_ n7_ n8_ n9_
        (try clear hb)
        (try clear hb2)
        (try clear hk)
        (try clear hi)
        (try clear ho0)
        (try clear ho1)
        refine hK.out _ _ ⟨(bc BK564.out 0).trans rfl, (bc BK564.out 1).trans rfl, (bc BK565.out 0).trans rfl, (bc BK565.out 1).trans rfl⟩ (fun hHeld => ?_)
        clear hK K
        refine norm_ (a' := ?_) ?_ ?_
        rotate_left
        ·show Act.put _ (some 29) _ = _
         simp only [Act.put, psl, i64_w, i32_w]
         rfl
        refine pu (i := 5) (N := some 24) (fl 11 6 [8]) HT_ ?_
        refine pu (i := 6) (N := some 30) (fl 11 7 [8]) HT_ ?_
        refine pu (i := 7) (N := some 31) (fl 11 9 []) HT_ ?_
        exact norm_ (by simp only [putAll, Act.put, psl]) (hCont (.slice Ao90 t569.length co90, .slice Ao91 t572.length co91, .slice Ao92 t575.length co92, .slice Ao93 t578.length co93, v582, v585, gb588) _ ⟨hHeld, (by (with_reducible repeat (first | apply Kd.V_alloc | apply Kd.V_drewN | apply Kd.V_drew)); exact Kd.V_mono HO571.out (fun _ hk => ⟨hk.1.2, ⟨hk.2, ⟨hk.1.1.1.1, ⟨hk.1.1.1.2, hk.1.1.2⟩⟩⟩⟩)), (by (with_reducible repeat (first | apply Kd.V_alloc | apply Kd.V_drewN | apply Kd.V_drew)); exact Kd.V_mono HO574.out (fun _ hk => ⟨hk.1.2, ⟨hk.2, ⟨hk.1.1.1.1, ⟨hk.1.1.1.2, hk.1.1.2⟩⟩⟩⟩)), (by (with_reducible repeat (first | apply Kd.V_alloc | apply Kd.V_drewN | apply Kd.V_drew)); exact Kd.V_mono HO577.out (fun _ hk => ⟨hk.1.2, ⟨hk.2, ⟨hk.1.1.1.1, ⟨hk.1.1.1.2, hk.1.1.2⟩⟩⟩⟩)), (by (with_reducible repeat (first | apply Kd.V_alloc | apply Kd.V_drewN | apply Kd.V_drew)); exact Kd.V_mono HO580.out (fun _ hk => ⟨hk.1.2, ⟨hk.2, ⟨hk.1.1.1.1, ⟨hk.1.1.1.2, hk.1.1.2⟩⟩⟩⟩)), (fR HO583.out), (fR HO586.out), (fb BK564.out), (fb BK565.out), (fb BK588.out), GW588.out, GE588.out, NB564_588.out, NB588_564.out, NB565_588.out, NB588_565.out, (fW HB.out)⟩)
       skip
       refine box_step ?hg (N := 7) ?hd (cs := #[.slice none 0 0, .slice none 0 0]) (t := 31) ?hr ?_; (case hd | hg => rfl); (case hr => first | (go_simp; done) | (go_simp; rfl))
       intro gb588 hg w88 hbox hb
       have n0_ := eV HO571 hg hb
       have n1_ := eV HO574 hg hb
       have n2_ := bB BK564 hb
       have n3_ := bB BK565 hb
       have n4_ := bS HB hb
       have n5_ := am hbox
       have n6_ := sG HB hg
       have n7_ := sG HB hg
       have n8_ := nL BK564 hg
       have n9_ := nG BK564 hg
       have n10_ := nL BK565 hg
       have n11_ := nG BK565 hg
       clear HO571 HO574 BK564 BK565 HB
       have HO571 := n0_
       have HO574 := n1_
       have BK564 := n2_
       have BK565 := n3_
       have HB := n4_
       have BK588 := n5_
       have GW588 := n6_
       have GE588 := n7_
       have NB564_588 := n8_
       have NB588_564 := n9_
       have NB565_588 := n10_
       have NB588_565 := n11_
       clear n0_ n1_ n2_ n3_ n4_ n5_ n6_ n7_ n8_ n9_ n10_ n11_ hb hbox hg
       refine hK.out _ _ ⟨(bc BK564.out 0).trans rfl, (bc BK564.out 1).trans rfl, (bc BK565.out 0).trans rfl, (bc BK565.out 1).trans rfl⟩ (fun hHeld => ?_)
       clear hK K
       refine norm_ (a' := ?_) ?_ ?_
       rotate_left
       ·show Act.put _ (some 7) _ = _
        simp only [Act.put, psl, i64_w, i32_w]
        rfl
       refine one_ (i := 3) (N := some 28) (fl 11 4 [8]) rfl rfl (one_of HT_.out (by kernel_rfl)) (by decide) (fun K hK => ?_)
       refine goes_ Try.func14 (by kernel_rfl) rfl #[.agg #[.slice A1_0 l1_0.length c1_0, .slice A1_1 l1_1.length c1_1]] (by rfl) rfl rfl (by (try simp only [pml]); first | done | rfl | (simp only [pdt]; rfl)) ?_
       with_reducible refine (w_ours.calls (fun k_ => k_ < w.heap.size) _ _ l1_0 (fun k_ => k_ < w.heap.size) _ _ l1_1 t575 t578 _ ?side1 ?side2 A22.out).mono ?_
       (case side1 => exact Kd.V_mk HC1_0.out (Kd.F_below (Kd.C_F k54_heap HR1_0.out) (fW HB.out)))
       (case side2 => exact Kd.V_mk HC1_1.out (Kd.F_below (Kd.C_F (Kd.heap_int .i64) HR1_1.out) (fW HB.out)))
       rintro e w89 ⟨v576, v579, rfl, ho0, ho1, hb⟩
       refine ⟨_, rfl, ?_⟩
       have n0_ := dV HO571 hb
       have n1_ := dV HO574 hb
       have n2_ := am (Kd.V_lower (Kd.V_mono (ok' := fun k_ => k_ ≠ gb564 ∧ k_ ≠ gb565 ∧ k_ ≠ gb588) ho0 (fun k_ hk_ => ⟨Or.elim hk_ (fun hs_ => Or.elim hs_ (fun hs_ => fun e_ => Nat.not_le.2 hs_ (by rw [e_]; exact GW564.out)) (fun hs_ => fun e_ => Nat.not_le.2 hs_ (by rw [e_]; exact GW564.out))) (fun hn_ => (Kd.freshB (g := gb564) (o := .cells #[.slice A0_0 l0_0.length c0_0, .slice A0_1 l0_1.length c0_1] 25 (0, 0)) (fb BK564.out) k_ hn_)), Or.elim hk_ (fun hs_ => Or.elim hs_ (fun hs_ => fun e_ => Nat.not_le.2 hs_ (by rw [e_]; exact GW565.out)) (fun hs_ => fun e_ => Nat.not_le.2 hs_ (by rw [e_]; exact GW565.out))) (fun hn_ => (Kd.freshB (g := gb565) (o := .cells #[.slice A1_0 l1_0.length c1_0, .slice A1_1 l1_1.length c1_1] 25 (0, 0)) (fb BK565.out) k_ hn_)), Or.elim hk_ (fun hs_ => Or.elim hs_ (fun hs_ => fun e_ => Nat.not_le.2 hs_ (by rw [e_]; exact GW588.out)) (fun hs_ => fun e_ => Nat.not_le.2 hs_ (by rw [e_]; exact GW588.out))) (fun hn_ => (Kd.freshB (g := gb588) (o := .cells #[.slice none 0 0, .slice none 0 0] 31 (0, 0)) (fb BK588.out) k_ hn_))⟩)) (wz (fW HB.out)))
       have n3_ := am (Kd.V_lower (Kd.V_mono (ok' := fun k_ => k_ ≠ gb564 ∧ k_ ≠ gb565 ∧ k_ ≠ gb588) ho1 (fun k_ hk_ => ⟨Or.elim hk_ (fun hs_ => Or.elim hs_ (fun hs_ => fun e_ => Nat.not_le.2 hs_ (by rw [e_]; exact GW564.out)) (fun hs_ => fun e_ => Nat.not_le.2 hs_ (by rw [e_]; exact GW564.out))) (fun hn_ => (Kd.freshB (g := gb564) (o := .cells #[.slice A0_0 l0_0.length c0_0, .slice A0_1 l0_1.length c0_1] 25 (0, 0)) (fb BK564.out) k_ hn_)), Or.elim hk_ (fun hs_ => Or.elim hs_ (fun hs_ => fun e_ => Nat.not_le.2 hs_ (by rw [e_]; exact GW565.out)) (fun hs_ => fun e_ => Nat.not_le.2 hs_ (by rw [e_]; exact GW565.out))) (fun hn_ => (Kd.freshB (g := gb565) (o := .cells #[.slice A1_0 l1_0.length c1_0, .slice A1_1 l1_1.length c1_1] 25 (0, 0)) (fb BK565.out) k_ hn_)), Or.elim hk_ (fun hs_ => Or.elim hs_ (fun hs_ => fun e_ => Nat.not_le.2 hs_ (by rw [e_]; exact GW588.out)) (fun hs_ => fun e_ => Nat.not_le.2 hs_ (by rw [e_]; exact GW588.out))) (fun hn_ => (Kd.freshB (g := gb588) (o := .cells #[.slice none 0 0, .slice none 0 0] 31 (0, 0)) (fb BK588.out) k_ hn_))⟩)) (wz (fW HB.out)))
       have n4_ := bB BK564 hb
       have n5_ := bB BK565 hb
       have n6_ := bB BK588 hb
       have n7_ := bS HB hb
       clear HO571 HO574 BK564 BK565 BK588 HB
       have HO571 := n0_
       have HO574 := n1_
       have HO577 := n2_
       have HO580 := n3_
       have BK564 := n4_
       have BK565 := n5_
       have BK588 := n6_
       have HB := n7_
       clear n0_ n1_ n2_ n3_ n4_ n5_ n6_ n7_
       (try clear hb)
       (try clear hb2)
       (try clear hk)
       (try clear hi)
       (try clear ho0)
       (try clear ho1)
       obtain ⟨Ao90, co90, eo90⟩ := Kd.V_slice HO571.out
       (first | subst eo90 | (injection eo90 with f1_ f2_ f3_; have f4_ := f1_.symm; have f5_ := f3_.symm; clear f1_ f2_ f3_; subst f4_; subst f5_))
       obtain ⟨Ao91, co91, eo91⟩ := Kd.V_slice HO574.out
       (first | subst eo91 | (injection eo91 with f1_ f2_ f3_; have f4_ := f1_.symm; have f5_ := f3_.symm; clear f1_ f2_ f3_; subst f4_; subst f5_))
       obtain ⟨Ao92, co92, eo92⟩ := Kd.V_slice HO577.out
       (first | subst eo92 | (injection eo92 with f1_ f2_ f3_; have f4_ := f1_.symm; have f5_ := f3_.symm; clear f1_ f2_ f3_; subst f4_; subst f5_))
       obtain ⟨Ao93, co93, eo93⟩ := Kd.V_slice HO580.out
       (first | subst eo93 | (injection eo93 with f1_ f2_ f3_; have f4_ := f1_.symm; have f5_ := f3_.symm; clear f1_ f2_ f3_; subst f4_; subst f5_))
       refine hK.out _ _ ⟨(bc BK564.out 0).trans rfl, (bc BK564.out 1).trans rfl, (bc BK565.out 0).trans rfl, (bc BK565.out 1).trans rfl⟩ (fun hHeld => ?_)
       clear hK K
       refine norm_ (a' := ?_) ?_ ?_
       rotate_left
       ·show Act.put _ (some 28) _ = _
        simp only [Act.put, psl, i64_w, i32_w]
        rfl
       refine one_ (i := 4) (N := some 29) (fl 11 5 [8]) rfl rfl (one_of HT_.out (by kernel_rfl)) (by decide) (fun K hK => ?_)
       refine goes_ Try.func32 (by kernel_rfl) rfl #[.agg #[.slice Ao90 t569.length co90, .slice Ao91 t572.length co91], .agg #[.slice Ao92 t575.length co92, .slice Ao93 t578.length co93]] (by rfl) rfl rfl (by (try simp only [pml]); first | done | rfl | (simp only [pdt]; rfl)) ?_
       with_reducible refine (shift_Common.calls kj3 (fun k_ => ((k_ ≠ gb564 ∧ k_ ≠ gb565) ∧ k_ ≠ gb588)) _ _ t569 (fun k_ => ((k_ ≠ gb564 ∧ k_ ≠ gb565) ∧ k_ ≠ gb588)) _ _ t572 (fun k_ => (k_ ≠ gb564 ∧ (k_ ≠ gb565 ∧ k_ ≠ gb588))) _ _ t575 (fun k_ => (k_ ≠ gb564 ∧ (k_ ≠ gb565 ∧ k_ ≠ gb588))) _ _ t578 t581 t584 t587 _ ?side1 ?side2 ?side3 ?side4 A23.out).mono ?_
       (case side1 => exact HO571.out)
       (case side2 => exact HO574.out)
       (case side3 => exact HO577.out)
       (case side4 => exact HO580.out)
       rintro e w94 ⟨v582, v585, rfl, ho0, ho1, hb⟩
       refine ⟨_, rfl, ?_⟩
       have n0_ := am (Kd.V_mono (Kd.V_told (Kd.V_told (Kd.V_old (fV HO571.out) hb) (Kd.R_base ho0)) (Kd.R_base ho1)) (fun _ h_ => h_.1))
       have n1_ := am (Kd.V_mono (Kd.V_told (Kd.V_told (Kd.V_old (fV HO574.out) hb) (Kd.R_base ho0)) (Kd.R_base ho1)) (fun _ h_ => h_.1))
       have n2_ := am (Kd.V_mono (Kd.V_told (Kd.V_told (Kd.V_old (fV HO577.out) hb) (Kd.R_base ho0)) (Kd.R_base ho1)) (fun _ h_ => h_.1))
       have n3_ := am (Kd.V_mono (Kd.V_told (Kd.V_told (Kd.V_old (fV HO580.out) hb) (Kd.R_base ho0)) (Kd.R_base ho1)) (fun _ h_ => h_.1))
       have n4_ := am (Kd.R_lower (Kd.R_mono (ok' := fun k_ => True) ho0 (fun _ hk_ => trivial)) (wz (fW HB.out)))
       have n5_ := am (Kd.R_lower (Kd.R_mono (ok' := fun k_ => True) ho1 (fun _ hk_ => trivial)) (wz (fW HB.out)))
       have n6_ := bB BK564 hb
       have n7_ := bB BK565 hb
       have n8_ := bB BK588 hb
       have n9_ := bS HB hb
       clear HO571 HO574 HO577 HO580 BK564 BK565 BK588 HB
       have HO571 := n0_
       have HO574 := n1_
       have HO577 := n2_
       have HO580 := n3_
       have HO583 := n4_
       have HO586 := n5_
       have BK564 := n6_
       have BK565 := n7_
       have BK588 := n8_
       have HB := n9_
       clear n0_ n1_ n2_ n3_ n4_ n5_ n6_ n7_ n8_ n9_
       (try clear hb)
       (try clear hb2)
       (try clear hk)
       (try clear hi)
       (try clear ho0)
       (try clear ho1)
       refine hK.out _ _ ⟨(bc BK564.out 0).trans rfl, (bc BK564.out 1).trans rfl, (bc BK565.out 0).trans rfl, (bc BK565.out 1).trans rfl⟩ (fun hHeld => ?_)
       clear hK K
       refine norm_ (a' := ?_) ?_ ?_
       rotate_left
       ·show Act.put _ (some 29) _ = _
        simp only [Act.put, psl, i64_w, i32_w]
        rfl
       refine pu (i := 5) (N := some 24) (fl 11 6 [8]) HT_ ?_
       refine pu (i := 6) (N := some 30) (fl 11 7 [8]) HT_ ?_
       refine pu (i := 7) (N := some 31) (fl 11 9 []) HT_ ?_
       exact norm_ (by simp only [putAll, Act.put, psl]) (hCont (.slice Ao90 t569.length co90, .slice Ao91 t572.length co91, .slice Ao92 t575.length co92, .slice Ao93 t578.length co93, v582, v585, gb588) _ ⟨hHeld, (by (with_reducible repeat (first | apply Kd.V_alloc | apply Kd.V_drewN | apply Kd.V_drew)); exact Kd.V_mono HO571.out (fun _ hk => ⟨hk.1.2, ⟨hk.2, ⟨hk.1.1.1.1, ⟨hk.1.1.1.2, hk.1.1.2⟩⟩⟩⟩)), (by (with_reducible repeat (first | apply Kd.V_alloc | apply Kd.V_drewN | apply Kd.V_drew)); exact Kd.V_mono HO574.out (fun _ hk => ⟨hk.1.2, ⟨hk.2, ⟨hk.1.1.1.1, ⟨hk.1.1.1.2, hk.1.1.2⟩⟩⟩⟩)), (by (with_reducible repeat (first | apply Kd.V_alloc | apply Kd.V_drewN | apply Kd.V_drew)); exact Kd.V_mono HO577.out (fun _ hk => ⟨hk.1.2, ⟨hk.2, ⟨hk.1.1.1, ⟨hk.1.1.2.1, hk.1.1.2.2⟩⟩⟩⟩)), (by (with_reducible repeat (first | apply Kd.V_alloc | apply Kd.V_drewN | apply Kd.V_drew)); exact Kd.V_mono HO580.out (fun _ hk => ⟨hk.1.2, ⟨hk.2, ⟨hk.1.1.1, ⟨hk.1.1.2.1, hk.1.1.2.2⟩⟩⟩⟩)), (fR HO583.out), (fR HO586.out), (fb BK564.out), (fb BK565.out), (fb BK588.out), GW588.out, GE588.out, NB564_588.out, NB588_564.out, NB565_588.out, NB588_565.out, (fW HB.out)⟩)
      skip
      refine box_step ?hg (N := 7) ?hd (cs := #[.slice none 0 0, .slice none 0 0]) (t := 31) ?hr ?_; (case hd | hg => rfl); (case hr => first | (go_simp; done) | (go_simp; rfl))
      intro gb588 hg w87 hbox hb
      have n0_ := bB BK564 hb
      have n1_ := bB BK565 hb
      have n2_ := bS HB hb
      have n3_ := am hbox
      have n4_ := sG HB hg
      have n5_ := sG HB hg
      have n6_ := nL BK564 hg
      have n7_ := nG BK564 hg
      have n8_ := nL BK565 hg
      have n9_ := nG BK565 hg
      clear BK564 BK565 HB
      have BK564 := n0_
      have BK565 := n1_
      have HB := n2_
      have BK588 := n3_
      have GW588 := n4_
      have GE588 := n5_
      have NB564_588 := n6_
      have NB588_564 := n7_
      have NB565_588 := n8_
      have NB588_565 := n9_
      clear n0_ n1_ n2_ n3_ n4_ n5_ n6_ n7_ n8_ n9_ hb hbox hg
      refine hK.out _ _ ⟨(bc BK564.out 0).trans rfl, (bc BK564.out 1).trans rfl, (bc BK565.out 0).trans rfl, (bc BK565.out 1).trans rfl⟩ (fun hHeld => ?_)
      clear hK K
      refine norm_ (a' := ?_) ?_ ?_
      rotate_left
      ·show Act.put _ (some 7) _ = _
       simp only [Act.put, psl, i64_w, i32_w]
       rfl
      refine one_ (i := 1) (N := some 26) (fl 11 3 [8]) rfl rfl (one_of HT_.out (by kernel_rfl)) (by decide) (fun K hK => ?_)
      refine goes_ Try.func14 (by kernel_rfl) rfl #[.agg #[.slice A0_0 l0_0.length c0_0, .slice A0_1 l0_1.length c0_1]] (by rfl) rfl rfl (by (try simp only [pml]); first | done | rfl | (simp only [pdt]; rfl)) ?_
      with_reducible refine (w_ours.calls (fun k_ => k_ < w.heap.size) _ _ l0_0 (fun k_ => k_ < w.heap.size) _ _ l0_1 t569 t572 _ ?side1 ?side2 A21.out).mono ?_
      (case side1 => exact Kd.V_mk HC0_0.out (Kd.F_below (Kd.C_F k54_heap HR0_0.out) (fW HB.out)))
      (case side2 => exact Kd.V_mk HC0_1.out (Kd.F_below (Kd.C_F (Kd.heap_int .i64) HR0_1.out) (fW HB.out)))
      rintro e w88 ⟨v570, v573, rfl, ho0, ho1, hb⟩
      refine ⟨_, rfl, ?_⟩
      have n0_ := am (Kd.V_lower (Kd.V_mono (ok' := fun k_ => k_ ≠ gb564 ∧ k_ ≠ gb565 ∧ k_ ≠ gb588) ho0 (fun k_ hk_ => ⟨Or.elim hk_ (fun hs_ => Or.elim hs_ (fun hs_ => fun e_ => Nat.not_le.2 hs_ (by rw [e_]; exact GW564.out)) (fun hs_ => fun e_ => Nat.not_le.2 hs_ (by rw [e_]; exact GW564.out))) (fun hn_ => (Kd.freshB (g := gb564) (o := .cells #[.slice A0_0 l0_0.length c0_0, .slice A0_1 l0_1.length c0_1] 25 (0, 0)) (fb BK564.out) k_ hn_)), Or.elim hk_ (fun hs_ => Or.elim hs_ (fun hs_ => fun e_ => Nat.not_le.2 hs_ (by rw [e_]; exact GW565.out)) (fun hs_ => fun e_ => Nat.not_le.2 hs_ (by rw [e_]; exact GW565.out))) (fun hn_ => (Kd.freshB (g := gb565) (o := .cells #[.slice A1_0 l1_0.length c1_0, .slice A1_1 l1_1.length c1_1] 25 (0, 0)) (fb BK565.out) k_ hn_)), Or.elim hk_ (fun hs_ => Or.elim hs_ (fun hs_ => fun e_ => Nat.not_le.2 hs_ (by rw [e_]; exact GW588.out)) (fun hs_ => fun e_ => Nat.not_le.2 hs_ (by rw [e_]; exact GW588.out))) (fun hn_ => (Kd.freshB (g := gb588) (o := .cells #[.slice none 0 0, .slice none 0 0] 31 (0, 0)) (fb BK588.out) k_ hn_))⟩)) (wz (fW HB.out)))
      have n1_ := am (Kd.V_lower (Kd.V_mono (ok' := fun k_ => k_ ≠ gb564 ∧ k_ ≠ gb565 ∧ k_ ≠ gb588) ho1 (fun k_ hk_ => ⟨Or.elim hk_ (fun hs_ => Or.elim hs_ (fun hs_ => fun e_ => Nat.not_le.2 hs_ (by rw [e_]; exact GW564.out)) (fun hs_ => fun e_ => Nat.not_le.2 hs_ (by rw [e_]; exact GW564.out))) (fun hn_ => (Kd.freshB (g := gb564) (o := .cells #[.slice A0_0 l0_0.length c0_0, .slice A0_1 l0_1.length c0_1] 25 (0, 0)) (fb BK564.out) k_ hn_)), Or.elim hk_ (fun hs_ => Or.elim hs_ (fun hs_ => fun e_ => Nat.not_le.2 hs_ (by rw [e_]; exact GW565.out)) (fun hs_ => fun e_ => Nat.not_le.2 hs_ (by rw [e_]; exact GW565.out))) (fun hn_ => (Kd.freshB (g := gb565) (o := .cells #[.slice A1_0 l1_0.length c1_0, .slice A1_1 l1_1.length c1_1] 25 (0, 0)) (fb BK565.out) k_ hn_)), Or.elim hk_ (fun hs_ => Or.elim hs_ (fun hs_ => fun e_ => Nat.not_le.2 hs_ (by rw [e_]; exact GW588.out)) (fun hs_ => fun e_ => Nat.not_le.2 hs_ (by rw [e_]; exact GW588.out))) (fun hn_ => (Kd.freshB (g := gb588) (o := .cells #[.slice none 0 0, .slice none 0 0] 31 (0, 0)) (fb BK588.out) k_ hn_))⟩)) (wz (fW HB.out)))
      have n2_ := bB BK564 hb
      have n3_ := bB BK565 hb
      have n4_ := bB BK588 hb
      have n5_ := bS HB hb
      clear BK564 BK565 BK588 HB
      have HO571 := n0_
      have HO574 := n1_
      have BK564 := n2_
      have BK565 := n3_
      have BK588 := n4_
      have HB := n5_
      clear n0_ n1_ n2_ n3_ n4_ n5_
      (try clear hb)
      (try clear hb2)
      (try clear hk)
      (try clear hi)
      (try clear ho0)
      (try clear ho1)
      refine hK.out _ _ ⟨(bc BK564.out 0).trans rfl, (bc BK564.out 1).trans rfl, (bc BK565.out 0).trans rfl, (bc BK565.out 1).trans rfl⟩ (fun hHeld => ?_)
      clear hK K
      refine norm_ (a' := ?_) ?_ ?_
      rotate_left
      ·show Act.put _ (some 26) _ = _
       simp only [Act.put, psl, i64_w, i32_w]
       rfl
      refine one_ (i := 3) (N := some 28) (fl 11 4 [8]) rfl rfl (one_of HT_.out (by kernel_rfl)) (by decide) (fun K hK => ?_)
      refine goes_ Try.func14 (by kernel_rfl) rfl #[.agg #[.slice A1_0 l1_0.length c1_0, .slice A1_1 l1_1.length c1_1]] (by rfl) rfl rfl (by (try simp only [pml]); first | done | rfl | (simp only [pdt]; rfl)) ?_
      with_reducible refine (w_ours.calls (fun k_ => k_ < w.heap.size) _ _ l1_0 (fun k_ => k_ < w.heap.size) _ _ l1_1 t575 t578 _ ?side1 ?side2 A22.out).mono ?_
      (case side1 => exact Kd.V_mk HC1_0.out (Kd.F_below (Kd.C_F k54_heap HR1_0.out) (fW HB.out)))
      (case side2 => exact Kd.V_mk HC1_1.out (Kd.F_below (Kd.C_F (Kd.heap_int .i64) HR1_1.out) (fW HB.out)))
      rintro e w89 ⟨v576, v579, rfl, ho0, ho1, hb⟩
      refine ⟨_, rfl, ?_⟩
      have n0_ := dV HO571 hb
      have n1_ := dV HO574 hb
      have n2_ := am (Kd.V_lower (Kd.V_mono (ok' := fun k_ => k_ ≠ gb564 ∧ k_ ≠ gb565 ∧ k_ ≠ gb588) ho0 (fun k_ hk_ => ⟨Or.elim hk_ (fun hs_ => Or.elim hs_ (fun hs_ => fun e_ => Nat.not_le.2 hs_ (by rw [e_]; exact GW564.out)) (fun hs_ => fun e_ => Nat.not_le.2 hs_ (by rw [e_]; exact GW564.out))) (fun hn_ => (Kd.freshB (g := gb564) (o := .cells #[.slice A0_0 l0_0.length c0_0, .slice A0_1 l0_1.length c0_1] 25 (0, 0)) (fb BK564.out) k_ hn_)), Or.elim hk_ (fun hs_ => Or.elim hs_ (fun hs_ => fun e_ => Nat.not_le.2 hs_ (by rw [e_]; exact GW565.out)) (fun hs_ => fun e_ => Nat.not_le.2 hs_ (by rw [e_]; exact GW565.out))) (fun hn_ => (Kd.freshB (g := gb565) (o := .cells #[.slice A1_0 l1_0.length c1_0, .slice A1_1 l1_1.length c1_1] 25 (0, 0)) (fb BK565.out) k_ hn_)), Or.elim hk_ (fun hs_ => Or.elim hs_ (fun hs_ => fun e_ => Nat.not_le.2 hs_ (by rw [e_]; exact GW588.out)) (fun hs_ => fun e_ => Nat.not_le.2 hs_ (by rw [e_]; exact GW588.out))) (fun hn_ => (Kd.freshB (g := gb588) (o := .cells #[.slice none 0 0, .slice none 0 0] 31 (0, 0)) (fb BK588.out) k_ hn_))⟩)) (wz (fW HB.out)))
      have n3_ := am (Kd.V_lower (Kd.V_mono (ok' := fun k_ => k_ ≠ gb564 ∧ k_ ≠ gb565 ∧ k_ ≠ gb588) ho1 (fun k_ hk_ => ⟨Or.elim hk_ (fun hs_ => Or.elim hs_ (fun hs_ => fun e_ => Nat.not_le.2 hs_ (by rw [e_]; exact GW564.out)) (fun hs_ => fun e_ => Nat.not_le.2 hs_ (by rw [e_]; exact GW564.out))) (fun hn_ => (Kd.freshB (g := gb564) (o := .cells #[.slice A0_0 l0_0.length c0_0, .slice A0_1 l0_1.length c0_1] 25 (0, 0)) (fb BK564.out) k_ hn_)), Or.elim hk_ (fun hs_ => Or.elim hs_ (fun hs_ => fun e_ => Nat.not_le.2 hs_ (by rw [e_]; exact GW565.out)) (fun hs_ => fun e_ => Nat.not_le.2 hs_ (by rw [e_]; exact GW565.out))) (fun hn_ => (Kd.freshB (g := gb565) (o := .cells #[.slice A1_0 l1_0.length c1_0, .slice A1_1 l1_1.length c1_1] 25 (0, 0)) (fb BK565.out) k_ hn_)), Or.elim hk_ (fun hs_ => Or.elim hs_ (fun hs_ => fun e_ => Nat.not_le.2 hs_ (by rw [e_]; exact GW588.out)) (fun hs_ => fun e_ => Nat.not_le.2 hs_ (by rw [e_]; exact GW588.out))) (fun hn_ => (Kd.freshB (g := gb588) (o := .cells #[.slice none 0 0, .slice none 0 0] 31 (0, 0)) (fb BK588.out) k_ hn_))⟩)) (wz (fW HB.out)))
      have n4_ := bB BK564 hb
      have n5_ := bB BK565 hb
      have n6_ := bB BK588 hb
      have n7_ := bS HB hb
      clear HO571 HO574 BK564 BK565 BK588 HB
      have HO571 := n0_
      have HO574 := n1_
      have HO577 := n2_
      have HO580 := n3_
      have BK564 := n4_
      have BK565 := n5_
      have BK588 := n6_
      have HB := n7_
      clear n0_ n1_ n2_ n3_ n4_ n5_ n6_ n7_
      (try clear hb)
      (try clear hb2)
      (try clear hk)
      (try clear hi)
      (try clear ho0)
      (try clear ho1)
      obtain ⟨Ao90, co90, eo90⟩ := Kd.V_slice HO571.out
      (first | subst eo90 | (injection eo90 with f1_ f2_ f3_; have f4_ := f1_.symm; have f5_ := f3_.symm; clear f1_ f2_ f3_; subst f4_; subst f5_))
      obtain ⟨Ao91, co91, eo91⟩ := Kd.V_slice HO574.out
      (first | subst eo91 | (injection eo91 with f1_ f2_ f3_; have f4_ := f1_.symm; have f5_ := f3_.symm; clear f1_ f2_ f3_; subst f4_; subst f5_))
      obtain ⟨Ao92, co92, eo92⟩ := Kd.V_slice HO577.out
      (first | subst eo92 | (injection eo92 with f1_ f2_ f3_; have f4_ := f1_.symm; have f5_ := f3_.symm; clear f1_ f2_ f3_; subst f4_; subst f5_))
      obtain ⟨Ao93, co93, eo93⟩ := Kd.V_slice HO580.out
      (first | subst eo93 | (injection eo93 with f1_ f2_ f3_; have f4_ := f1_.symm; have f5_ := f3_.symm; clear f1_ f2_ f3_; subst f4_; subst f5_))
      refine hK.out _ _ ⟨(bc BK564.out 0).trans rfl, (bc BK564.out 1).trans rfl, (bc BK565.out 0).trans rfl, (bc BK565.out 1).trans rfl⟩ (fun hHeld => ?_)
      clear hK K
      refine norm_ (a' := ?_) ?_ ?_
      rotate_left
      ·show Act.put _ (some 28) _ = _
       simp only [Act.put, psl, i64_w, i32_w]
       rfl
      refine one_ (i := 4) (N := some 29) (fl 11 5 [8]) rfl rfl (one_of HT_.out (by kernel_rfl)) (by decide) (fun K hK => ?_)
      refine goes_ Try.func32 (by kernel_rfl) rfl #[.agg #[.slice Ao90 t569.length co90, .slice Ao91 t572.length co91], .agg #[.slice Ao92 t575.length co92, .slice Ao93 t578.length co93]] (by rfl) rfl rfl (by (try simp only [pml]); first | done | rfl | (simp only [pdt]; rfl)) ?_
      with_reducible refine (shift_Common.calls kj3 (fun k_ => (k_ ≠ gb564 ∧ (k_ ≠ gb565 ∧ k_ ≠ gb588))) _ _ t569 (fun k_ => (k_ ≠ gb564 ∧ (k_ ≠ gb565 ∧ k_ ≠ gb588))) _ _ t572 (fun k_ => (k_ ≠ gb564 ∧ (k_ ≠ gb565 ∧ k_ ≠ gb588))) _ _ t575 (fun k_ => (k_ ≠ gb564 ∧ (k_ ≠ gb565 ∧ k_ ≠ gb588))) _ _ t578 t581 t584 t587 _ ?side1 ?side2 ?side3 ?side4 A23.out).mono ?_
      (case side1 => exact HO571.out)
      (case side2 => exact HO574.out)
      (case side3 => exact HO577.out)
      (case side4 => exact HO580.out)
      rintro e w94 ⟨v582, v585, rfl, ho0, ho1, hb⟩
      refine ⟨_, rfl, ?_⟩
      have n0_ := am (Kd.V_mono (Kd.V_told (Kd.V_told (Kd.V_old (fV HO571.out) hb) (Kd.R_base ho0)) (Kd.R_base ho1)) (fun _ h_ => h_.1))
      have n1_ := am (Kd.V_mono (Kd.V_told (Kd.V_told (Kd.V_old (fV HO574.out) hb) (Kd.R_base ho0)) (Kd.R_base ho1)) (fun _ h_ => h_.1))
      have n2_ := am (Kd.V_mono (Kd.V_told (Kd.V_told (Kd.V_old (fV HO577.out) hb) (Kd.R_base ho0)) (Kd.R_base ho1)) (fun _ h_ => h_.1))
      have n3_ := am (Kd.V_mono (Kd.V_told (Kd.V_told (Kd.V_old (fV HO580.out) hb) (Kd.R_base ho0)) (Kd.R_base ho1)) (fun _ h_ => h_.1))
      have n4_ := am (Kd.R_lower (Kd.R_mono (ok' := fun k_ => True) ho0 (fun _ hk_ => trivial)) (wz (fW HB.out)))
      have n5_ := am (Kd.R_lower (Kd.R_mono (ok' := fun k_ => True) ho1 (fun _ hk_ => trivial)) (wz (fW HB.out)))
      have n6_ := bB BK564 hb
      have n7_ := bB BK565 hb
      have n8_ := bB BK588 hb
      have n9_ := bS HB hb
      clear HO571 HO574 HO577 HO580 BK564 BK565 BK588 HB
      have HO571 := n0_
      have HO574 := n1_
      have HO577 := n2_
      have HO580 := n3_
      have HO583 := n4_
      have HO586 := n5_
      have BK564 := n6_
      have BK565 := n7_
      have BK588 := n8_
      have HB := n9_
      clear n0_ n1_ n2_ n3_ n4_ n5_ n6_ n7_ n8_ n9_
      (try clear hb)
      (try clear hb2)
      (try clear hk)
      (try clear hi)
      (try clear ho0)
      (try clear ho1)
      refine hK.out _ _ ⟨(bc BK564.out 0).trans rfl, (bc BK564.out 1).trans rfl, (bc BK565.out 0).trans rfl, (bc BK565.out 1).trans rfl⟩ (fun hHeld => ?_)
      clear hK K
      refine norm_ (a' := ?_) ?_ ?_
      rotate_left
      ·show Act.put _ (some 29) _ = _
       simp only [Act.put, psl, i64_w, i32_w]
       rfl
      refine pu (i := 5) (N := some 24) (fl 11 6 [8]) HT_ ?_
      refine pu (i := 6) (N := some 30) (fl 11 7 [8]) HT_ ?_
      refine pu (i := 7) (N := some 31) (fl 11 9 []) HT_ ?_
      exact norm_ (by simp only [putAll, Act.put, psl]) (hCont (.slice Ao90 t569.length co90, .slice Ao91 t572.length co91, .slice Ao92 t575.length co92, .slice Ao93 t578.length co93, v582, v585, gb588) _ ⟨hHeld, (by (with_reducible repeat (first | apply Kd.V_alloc | apply Kd.V_drewN | apply Kd.V_drew)); exact Kd.V_mono HO571.out (fun _ hk => ⟨hk.1.2, ⟨hk.2, ⟨hk.1.1.1, ⟨hk.1.1.2.1, hk.1.1.2.2⟩⟩⟩⟩)), (by (with_reducible repeat (first | apply Kd.V_alloc | apply Kd.V_drewN | apply Kd.V_drew)); exact Kd.V_mono HO574.out (fun _ hk => ⟨hk.1.2, ⟨hk.2, ⟨hk.1.1.1, ⟨hk.1.1.2.1, hk.1.1.2.2⟩⟩⟩⟩)), (by (with_reducible repeat (first | apply Kd.V_alloc | apply Kd.V_drewN | apply Kd.V_drew)); exact Kd.V_mono HO577.out (fun _ hk => ⟨hk.1.2, ⟨hk.2, ⟨hk.1.1.1, ⟨hk.1.1.2.1, hk.1.1.2.2⟩⟩⟩⟩)), (by (with_reducible repeat (first | apply Kd.V_alloc | apply Kd.V_drewN | apply Kd.V_drew)); exact Kd.V_mono HO580.out (fun _ hk => ⟨hk.1.2, ⟨hk.2, ⟨hk.1.1.1, ⟨hk.1.1.2.1, hk.1.1.2.2⟩⟩⟩⟩)), (fR HO583.out), (fR HO586.out), (fb BK564.out), (fb BK565.out), (fb BK588.out), GW588.out, GE588.out, NB564_588.out, NB588_564.out, NB565_588.out, NB588_565.out, (fW HB.out)⟩)
     rintro ⟨v570, v573, v576, v579, v582, v585, gb588⟩ w95 ⟨hS_, h0_, h1_, h2_, h3_, h4_, h5_, h6_, h7_, h8_, h9_, h10_, h11_, h12_, h13_, h14_, h15_⟩
     have n0_ : Aside0 (Kd.V k54 54 w95 w.heap.size (fun k_ => some k_ ≠ (v582 : Value).ownBlock ∧ some k_ ≠ (v585 : Value).ownBlock ∧ k_ ≠ gb564 ∧ k_ ≠ gb565 ∧ k_ ≠ gb588) v570 t569) := ⟨h0_⟩
     have n1_ : Aside0 (Kd.V (Kd.int .i64) 3 w95 w.heap.size (fun k_ => some k_ ≠ (v582 : Value).ownBlock ∧ some k_ ≠ (v585 : Value).ownBlock ∧ k_ ≠ gb564 ∧ k_ ≠ gb565 ∧ k_ ≠ gb588) v573 t572) := ⟨h1_⟩
     have n2_ : Aside0 (Kd.V k54 54 w95 w.heap.size (fun k_ => some k_ ≠ (v582 : Value).ownBlock ∧ some k_ ≠ (v585 : Value).ownBlock ∧ k_ ≠ gb564 ∧ k_ ≠ gb565 ∧ k_ ≠ gb588) v576 t575) := ⟨h2_⟩
     have n3_ : Aside0 (Kd.V (Kd.int .i64) 3 w95 w.heap.size (fun k_ => some k_ ≠ (v582 : Value).ownBlock ∧ some k_ ≠ (v585 : Value).ownBlock ∧ k_ ≠ gb564 ∧ k_ ≠ gb565 ∧ k_ ≠ gb588) v579 t578) := ⟨h3_⟩
     have n4_ : Aside0 (Kd.R k54 54 w95 w.heap.size (fun _ => True) v582 t581) := ⟨h4_⟩
     have n5_ : Aside0 (Kd.R (Kd.int .i64) 3 w95 w.heap.size (fun _ => True) v585 t584) := ⟨h5_⟩
     have n6_ : Aside0 (w95.heap[gb564]? = some (.cells #[.slice A0_0 l0_0.length c0_0, .slice A0_1 l0_1.length c0_1] 25 (0, 0))) := ⟨h6_⟩
     have n7_ : Aside0 (w95.heap[gb565]? = some (.cells #[.slice A1_0 l1_0.length c1_0, .slice A1_1 l1_1.length c1_1] 25 (0, 0))) := ⟨h7_⟩
     have n8_ : Aside0 (w95.heap[gb588]? = some (.cells #[.slice none 0 0, .slice none 0 0] 31 (0, 0))) := ⟨h8_⟩
     have n9_ : Aside0 (w.heap.size ≤ gb588) := ⟨h9_⟩
     have n10_ : Aside0 (w.heap.size ≤ gb588) := ⟨h10_⟩
     have n11_ : Aside0 (gb564 ≠ gb588) := ⟨h11_⟩
     have n12_ : Aside0 (gb588 ≠ gb564) := ⟨h12_⟩
     have n13_ : Aside0 (gb565 ≠ gb588) := ⟨h13_⟩
     have n14_ : Aside0 (gb588 ≠ gb565) := ⟨h14_⟩
     have n15_ : Aside0 (Below w.heap.size w w95) := ⟨h15_⟩
     clear BK564 BK565 HB h0_ h1_ h2_ h3_ h4_ h5_ h6_ h7_ h8_ h9_ h10_ h11_ h12_ h13_ h14_ h15_
     have HO571 := n0_
     have HO574 := n1_
     have HO577 := n2_
     have HO580 := n3_
     have HO583 := n4_
     have HO586 := n5_
     have BK564 := n6_
     have BK565 := n7_
     have BK588 := n8_
     have GW588 := n9_
     have GE588 := n10_
     have NB564_588 := n11_
     have NB588_564 := n12_
     have NB565_588 := n13_
     have NB588_565 := n14_
     have HB := n15_
     clear n0_ n1_ n2_ n3_ n4_ n5_ n6_ n7_ n8_ n9_ n10_ n11_ n12_ n13_ n14_ n15_
     have hHeld : w95.cell? ⟨gb564, 0, none⟩ = some (.slice A0_0 l0_0.length c0_0) ∧ w95.cell? ⟨gb564, 1, none⟩ = some (.slice A0_1 l0_1.length c0_1) ∧ w95.cell? ⟨gb565, 0, none⟩ = some (.slice A1_0 l1_0.length c1_0) ∧ w95.cell? ⟨gb565, 1, none⟩ = some (.slice A1_1 l1_1.length c1_1) := hS_
     obtain ⟨Ao96, co96, eo96⟩ := Kd.R_slice HO583.out
     (first | subst eo96 | (injection eo96 with f1_ f2_ f3_; have f4_ := f1_.symm; have f5_ := f3_.symm; clear f1_ f2_ f3_; subst f4_; subst f5_))
     obtain ⟨Ao98, co98, eo98⟩ := Kd.R_slice HO586.out
     (first | subst eo98 | (injection eo98 with f1_ f2_ f3_; have f4_ := f1_.symm; have f5_ := f3_.symm; clear f1_ f2_ f3_; subst f4_; subst f5_))
     refine norm_ (a' := ?_) ?_ ?_
     rotate_left
     ·simp only [putAll, Act.put, psl]
      rfl
     refine one_ (i := 9) (N := none) (fl 11 10 []) rfl rfl (one_of HT_.out (by kernel_rfl)) (by decide) (fun K hK => ?_)
     have hs97 : w95.cell? ⟨gb588, 0, none⟩ = some (.slice none 0 0) := (bc BK588.out 0).trans rfl
     have hfs97 := bf BK588.out 0
     have hns97_0 := NB564_588.out
     have hns97_1 := NB565_588.out
     have hms97_0 := NB588_564.out
     have hms97_1 := NB588_565.out
     have hs99 : w95.cell? ⟨gb588, 1, none⟩ = some (.slice none 0 0) := (bc BK588.out 1).trans rfl
     have hfs99 := bf BK588.out 1
     have hns99_0 := NB564_588.out
     have hns99_1 := NB565_588.out
     have hms99_0 := NB588_564.out
     have hms99_1 := NB588_565.out
     refine skip_ (w1 := ?_) (by rfl) rfl ?_ ?_
     rotate_left
     ·go_simp
      rfl
     refine hK.out _ _ ⟨((cf (p := ⟨gb588, _, none⟩) NB564_588.out _).trans (((cf (p := ⟨gb588, _, none⟩) NB564_588.out _).trans (hHeld.1)))), ((cf (p := ⟨gb588, _, none⟩) NB564_588.out _).trans (((cf (p := ⟨gb588, _, none⟩) NB564_588.out _).trans (hHeld.2.1)))), ((cf (p := ⟨gb588, _, none⟩) NB565_588.out _).trans (((cf (p := ⟨gb588, _, none⟩) NB565_588.out _).trans (hHeld.2.2.1)))), ((cf (p := ⟨gb588, _, none⟩) NB565_588.out _).trans (((cf (p := ⟨gb588, _, none⟩) NB565_588.out _).trans (hHeld.2.2.2))))⟩ (fun hHeld => ?_)
     clear hK K
     refine pu (i := 10) (N := some 8) (fl 11 11 []) HT_ ?_
     refine done_ (done_of HT_.out (by kernel_rfl)) ?_
     try go_wp2_with (first | ((with_reducible refine gc (f := 12) rfl ?_); refine goesL_ (some 34) rfl rfl Try.func12 (by kernel_rfl) rfl #[] rfl (by (try simp only [pml]); first | done | rfl | (simp only [pdt]; rfl)) ?_; (with_reducible refine (w_awake.calls kj3  t589 _ A85.out).mono ?_); rintro e w100 ⟨rfl, hb⟩; refine ⟨_, rfl, ?_⟩; replace HO571 := am (Kd.V_below (by (with_reducible repeat (first | apply Kd.V_alloc | apply Kd.V_drewN | apply Kd.V_drew)); exact (Kd.V_mono (Kd.V_far (p := ⟨gb588, 1, none⟩) (Kd.V_far (p := ⟨gb588, 0, none⟩) (Kd.V_mono HO571.out (fun k_ hk => (⟨hk, hk.2.2.2.2⟩ : _ ∧ k_ ≠ gb588))) (fun _ hk => hk.2) (.slice Ao96 t581.length co96)) (fun _ hk => hk.2) (.slice Ao98 t584.length co98)) (fun _ h_ => h_.1))) hb); replace HO574 := am (Kd.V_below (by (with_reducible repeat (first | apply Kd.V_alloc | apply Kd.V_drewN | apply Kd.V_drew)); exact (Kd.V_mono (Kd.V_far (p := ⟨gb588, 1, none⟩) (Kd.V_far (p := ⟨gb588, 0, none⟩) (Kd.V_mono HO574.out (fun k_ hk => (⟨hk, hk.2.2.2.2⟩ : _ ∧ k_ ≠ gb588))) (fun _ hk => hk.2) (.slice Ao96 t581.length co96)) (fun _ hk => hk.2) (.slice Ao98 t584.length co98)) (fun _ h_ => h_.1))) hb); replace HO577 := am (Kd.V_below (by (with_reducible repeat (first | apply Kd.V_alloc | apply Kd.V_drewN | apply Kd.V_drew)); exact (Kd.V_mono (Kd.V_far (p := ⟨gb588, 1, none⟩) (Kd.V_far (p := ⟨gb588, 0, none⟩) (Kd.V_mono HO577.out (fun k_ hk => (⟨hk, hk.2.2.2.2⟩ : _ ∧ k_ ≠ gb588))) (fun _ hk => hk.2) (.slice Ao96 t581.length co96)) (fun _ hk => hk.2) (.slice Ao98 t584.length co98)) (fun _ h_ => h_.1))) hb); replace HO580 := am (Kd.V_below (by (with_reducible repeat (first | apply Kd.V_alloc | apply Kd.V_drewN | apply Kd.V_drew)); exact (Kd.V_mono (Kd.V_far (p := ⟨gb588, 1, none⟩) (Kd.V_far (p := ⟨gb588, 0, none⟩) (Kd.V_mono HO580.out (fun k_ hk => (⟨hk, hk.2.2.2.2⟩ : _ ∧ k_ ≠ gb588))) (fun _ hk => hk.2) (.slice Ao96 t581.length co96)) (fun _ hk => hk.2) (.slice Ao98 t584.length co98)) (fun _ h_ => h_.1))) hb); replace HO583 := am (Kd.R_below (by (with_reducible repeat (first | apply Kd.R_alloc | apply Kd.R_drewN | apply Kd.R_drew)); exact (Kd.R_mono (Kd.R_far (p := ⟨gb588, 1, none⟩) (Kd.R_far (p := ⟨gb588, 0, none⟩) (Kd.R_types HO583.out BK588.out (by decide)) (fun _ hk => hk.2) (.slice Ao96 t581.length co96)) (fun _ hk => hk.2) (.slice Ao98 t584.length co98)) (fun _ h_ => h_.1))) hb); replace HO586 := am (Kd.R_below (by (with_reducible repeat (first | apply Kd.R_alloc | apply Kd.R_drewN | apply Kd.R_drew)); exact (Kd.R_mono (Kd.R_far (p := ⟨gb588, 1, none⟩) (Kd.R_far (p := ⟨gb588, 0, none⟩) (Kd.R_types HO586.out BK588.out (by decide)) (fun _ hk => hk.2) (.slice Ao96 t581.length co96)) (fun _ hk => hk.2) (.slice Ao98 t584.length co98)) (fun _ h_ => h_.1))) hb); replace BK564 := xC1 (kfC BK564.out) hb; replace BK565 := xC1 (kfC BK565.out) hb; replace BK588 := xC1 (o := .cells #[.slice Ao96 t581.length co96, .slice Ao98 t584.length co98] 31 (0, 0)) (kkC BK588.out) hb; replace HB := bS HB hb; (try clear hb); (try clear hb2); (try clear hk); (try clear hi)))
     go_ret
     exact ⟨sqE, fW HB.out⟩

def w_ShiftBoth.Pure : Prop := ∀ (l0_0 : List (S54)) (l0_1 : List Int) (l1_0 : List (S54)) (l1_1 : List Int) (a2 : Int), (l0_0.length ≤ maxLen ∧ ∀ e17_, e17_ ∈ l0_0 → okS54 e17_) → (l0_1.length ≤ maxLen ∧ ∀ e18_, e18_ ∈ l0_1 → (Lit.int .i64 e18_).wf = true) → (l1_0.length ≤ maxLen ∧ ∀ e19_, e19_ ∈ l1_0 → okS54 e19_) → (l1_1.length ≤ maxLen ∧ ∀ e20_, e20_ ∈ l1_1 → (Lit.int .i64 e20_).wf = true) → ((Lit.int .i64 a2).wf = true) → ∃ k, w_ShiftBoth.f k l0_0 l0_1 l1_0 l1_1 a2 = some true
theorem w_ShiftBoth.walk (P_ : w_ShiftBoth.Pure) (A0_0 : Option Addr) (c0_0 : Nat) (l0_0 : List (S54)) (A0_1 : Option Addr) (c0_1 : Nat) (l0_1 : List Int) (A1_0 : Option Addr) (c1_0 : Nat) (l1_0 : List (S54)) (A1_1 : Option Addr) (c1_1 : Nat) (l1_1 : List Int) (a2 : Int) (w : World) (hr0_0 : Kd.C k54 w A0_0 l0_0.length l0_0) (hc0_0 : l0_0.length ≤ c0_0) (hr0_1 : Kd.C (Kd.int .i64) w A0_1 l0_1.length l0_1) (hc0_1 : l0_1.length ≤ c0_1) (hr1_0 : Kd.C k54 w A1_0 l1_0.length l1_0) (hc1_0 : l1_0.length ≤ c1_0) (hr1_1 : Kd.C (Kd.int .i64) w A1_1 l1_1.length l1_1) (hc1_1 : l1_1.length ≤ c1_1) (o0 : (l0_0.length ≤ maxLen ∧ ∀ e17_, e17_ ∈ l0_0 → okS54 e17_)) (o1 : (l0_1.length ≤ maxLen ∧ ∀ e18_, e18_ ∈ l0_1 → (Lit.int .i64 e18_).wf = true)) (o2 : (l1_0.length ≤ maxLen ∧ ∀ e19_, e19_ ∈ l1_0 → okS54 e19_)) (o3 : (l1_1.length ≤ maxLen ∧ ∀ e20_, e20_ ∈ l1_1 → (Lit.int .i64 e20_).wf = true)) (o4 : ((Lit.int .i64 a2).wf = true)) :
  Calls Try.prog 10 #[.agg #[.slice A0_0 l0_0.length c0_0, .slice A0_1 l0_1.length c0_1], .agg #[.slice A1_0 l1_0.length c1_0, .slice A1_1 l1_1.length c1_1], .int .i64 a2] w fun e w' => e = .returned (.bool true) ∧ Below w.heap.size w w' := by
 obtain ⟨k, h⟩ := P_ l0_0 l0_1 l1_0 l1_1 a2 o0 o1 o2 o3 o4
 refine (w_ShiftBoth.calls k A0_0 c0_0 l0_0 A0_1 c0_1 l0_1 A1_0 c1_0 l1_0 A1_1 c1_1 l1_1 a2 true w hr0_0 hc0_0 hr0_1 hc0_1 hr1_0 hc1_0 hr1_1 hc1_1 h).mono ?_
 rintro e w' ⟨rfl, hd⟩
 exact ⟨rfl, hd⟩

end Go.Proofs.Ytpjgmlnnhcnelaa.QA
