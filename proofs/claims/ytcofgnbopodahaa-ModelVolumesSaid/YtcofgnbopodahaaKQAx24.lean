import Derived.Test.YtcofgnbopodahaaKQAx0
import Derived.Test.YtcofgnbopodahaaKQAx16
import Derived.Test.YtcofgnbopodahaaKQAx22
import Derived.Test.YtcofgnbopodahaaKQAx23
namespace Go.Proofs.Ytcofgnbopodahaa.QA
open Go.RowKit Go.Proofs.YtcofgnbopodahaaW.PrintWords Go.Proofs.YtcofgnbopodahaaW.PrintLast Go.Proofs.YtcofgnbopodahaaW.PrintMore
open Go.Proofs.YtcofgnbopodahaaW.PrintWords renaming blk_drewN → bN, blk_drew → bd, blk_alloc → ba, blk_frozen → bf
open Aside0 renaming mk → am
open World renaming block_lt_of_cell? → bq
attribute [local go_sem] max2_int min2_int max_two min_two max_three min_three max_four min_four
set_option linter.unusedVariables false
set_option linter.unusedSimpArgs false

mutual
def r_First.l0 : Nat → List (S68) → Int → Bool → List (S43) → Int → Int → Int → Int → Option (Int × Int × Int × Bool)
 | 0, _, _, _, _, _, _, _, _ => none
 | k + 1, x0, x2, x9, x10, x11, x487000, x487001, x487002 => if x11 < (x10.length : Int) then (if 0 ≤ x11 then ((r_State.f k x0 ((rd_T43 x10 x11).f0.f0) ((rd_T43 x10 x11).f0.f1) ((rd_T43 x10 x11).f0.f2)).bind fun t491 => (if t491 = x2 then (if x9 = true then ((r_Before.f ((rd_T43 x10 x11).f0.f0) ((rd_T43 x10 x11).f0.f1) ((rd_T43 x10 x11).f0.f2) x487000 x487001 x487002).bind fun t493 => (r_First.j1 k x0 x2 x9 x10 x11 t493 x487000 x487001 x487002)) else (r_First.j1 k x0 x2 x9 x10 x11 true x487000 x487001 x487002)) else (r_First.j1 k x0 x2 x9 x10 x11 false x487000 x487001 x487002))) else (none)) else (some (x487000, x487001, x487002, x9))
def r_First.j2 : Nat → List (S68) → Int → Bool → List (S43) → Int → Int → Int → Int → Option (Int × Int × Int × Bool)
 | 0, _, _, _, _, _, _, _, _ => none
 | k + 1, x0, x2, x9, x10, x11, x487000, x487001, x487002 => r_First.l0 k x0 x2 x9 x10 (wrap64 (x11 + 1)) x487000 x487001 x487002
def r_First.j1 : Nat → List (S68) → Int → Bool → List (S43) → Int → Bool → Int → Int → Int → Option (Int × Int × Int × Bool)
 | 0, _, _, _, _, _, _, _, _, _ => none
 | k + 1, x0, x2, x9, x10, x11, x43, x487000, x487001, x487002 => if x43 = true then (if 0 ≤ x11 then (if x11 < (x10.length : Int) then (r_First.j2 k x0 x2 true x10 x11 ((rd_T43 x10 x11).f0.f0) ((rd_T43 x10 x11).f0.f1) ((rd_T43 x10 x11).f0.f2)) else (none)) else (none)) else (r_First.j2 k x0 x2 x9 x10 x11 x487000 x487001 x487002)
end
def r_First.f (k : Nat) (l0 : List (S68)) (a1_0 : Int) (a1_1 : Int) (a1_2 : Int) (a1_3 : Int) (a1_4 : Int) (a1_5 : Int) (a2 : Int) : Option (Int × Int × Int × Bool) := (r_Parts.f k l0 a1_0 a1_1 a1_2 a1_3 a1_4 a1_5).bind fun t487 => (r_First.l0 k l0 a2 false t487 0 0 0 0)
def r_First.T6 : Bool × List (List Nat × List Nat) := (true, [([], []), ([], []), ([], []), ([1, 2], [1, 2]), ([3], [3]), ([4], [4]), ([0, 5], [0, 5]), ([], []), ([6, 7], [6, 7]), ([8, 6], [8]), ([9], [9]), ([10, 9], [9, 10]), ([11, 9, 9], [9, 11]), ([12], [12]), ([12], [12]), ([13, 14, 12], [12, 13, 14]), ([15, 12], [12, 15]), ([16, 12], [12, 16]), ([12], [12]), ([17, 18, 12, 12], [12, 17, 18]), ([12, 19, 9], [9, 12, 19]), ([9, 20], [9, 20])])
def r_First.B6 : List Nat := [0, 0, 0, 6, 14, 30, 63, 0, 255, 511, 1023, 2047, 4095, 8191, 8191, 32767, 65535, 131071, 8191, 524287, 1048575, 2097151]
theorem r_First.tab6 : rtab .any (opsOf Try.f26 6) = r_First.T6 := by kernel_rfl
theorem r_First.bits6 : waitsOk r_First.T6.2 r_First.B6 = true := by kernel_rfl
set_option maxHeartbeats 8000000 in
set_option maxRecDepth 100000 in
theorem r_First.calls (k : Nat) (A0 : Option Addr) (c0 : Nat) (l0 : List (S68)) (a1_0 : Int) (a1_1 : Int) (a1_2 : Int) (a1_3 : Int) (a1_4 : Int) (a1_5 : Int) (a2 : Int) (r1 : Int) (r2 : Int) (r3 : Int) (r4 : Bool) (w : World) (hr0 : Kd.C k68 w A0 l0.length l0) (hc0 : l0.length ≤ c0) (h : r_First.f k l0 a1_0 a1_1 a1_2 a1_3 a1_4 a1_5 a2 = some (r1, r2, r3, r4)) :
  Calls Try.prog 26 #[.slice A0 l0.length c0, .agg #[.int .i64 a1_0, .int .i64 a1_1, .int .i64 a1_2, .int .i64 a1_3, .int .i64 a1_4, .int .i64 a1_5], .int .i64 a2] w fun e w' => e = .returned (.tuple #[.agg #[.int .i64 r1, .int .i64 r2, .int .i64 r3], .bool r4]) ∧ Below w.heap.size w w' := by
 have hu43 := Try.underlying43
 have hu24 := Try.underlying24
 have HR0 := am hr0
 have HC0 := am hc0
 clear hr0 hc0
 have HB := am (Below.refl w.heap.size w)
 have H : ((r_Parts.f k l0 a1_0 a1_1 a1_2 a1_3 a1_4 a1_5).bind fun t487 => (r_First.l0 k l0 a2 false t487 0 0 0 0)) = some (r1, r2, r3, r4) := h
 clear h
 replace H := Option.bind_eq_some_iff.mp H
 obtain ⟨t487, A40, H⟩ := H
 replace H : (r_First.l0 k l0 a2 false t487 0 0 0 0) = some (r1, r2, r3, r4) := H
 have A4 := am A40
 clear A40
 have H' := am H
 clear H
 go_enter Try.func26, Try.ntmps26
 go_wp2_with (first | ((with_reducible refine gate_dst (N := 4) rfl ?_); refine box_event ?hg (N := 4) ?hd (cs := #[.int .i64 a1_0, .int .i64 a1_1, .int .i64 a1_2, .int .i64 a1_3, .int .i64 a1_4, .int .i64 a1_5]) (t := 43) ?hr ?_; (case hd | hg => rfl); (case hr => first | (go_simp; done) | (go_simp; rfl)); intro gb484 hg w5 hbox hb; have BK484 := am hbox; have GW484 := sG HB hg; have GE484 := sG HB hg; replace HB := bS HB hb; clear hb hbox hg) | ((with_reducible refine gate_dst (N := 6) rfl ?_); refine box_event ?hg (N := 6) ?hd (cs := #[.int .i64 0, .int .i64 0, .int .i64 0]) (t := 24) ?hr ?_; (case hd | hg => rfl); (case hr => first | (go_simp; done) | (go_simp; rfl)); intro gb485 hg w6 hbox hb; have BK485 := am hbox; have GW485 := sG HB hg; have GE485 := sG HB hg; replace HB := bS HB hb; have NB484_485 := nL BK484 hg; have NB485_484 := nG BK484 hg; replace BK484 := bB BK484 hb; clear hb hbox hg) | ((with_reducible refine gate_dst (N := 8) rfl ?_); refine box_event ?hg (N := 8) ?hd (cs := #[.int .i64 0, .int .i64 0, .int .i64 0]) (t := 24) ?hr ?_; (case hd | hg => rfl); (case hr => first | (go_simp; done) | (go_simp; rfl)); intro gb486 hg w7 hbox hb; have BK486 := am hbox; have GW486 := sG HB hg; have GE486 := sG HB hg; replace HB := bS HB hb; have NB484_486 := nL BK484 hg; have NB486_484 := nG BK484 hg; replace BK484 := bB BK484 hb; have NB485_486 := nL BK485 hg; have NB486_485 := nG BK485 hg; replace BK485 := bB BK485 hb; clear hb hbox hg; have hnb8 := NB486_484.out; have hnc8 := NB484_486.out; have hnb9 := NB486_485.out; have hnc9 := NB485_486.out; obtain ⟨_, _, _, _, _, _⟩ := zC3 BK486; have hnb11 := NB484_485.out; have hnc11 := NB485_484.out; obtain ⟨_, _, _, _, _, _, _, _, _, _, _, _⟩ := zC6 BK484) | ((with_reducible refine gate_callee (f := 57) rfl ?_); refine goesL_ (some 15) rfl rfl Try.func57 (by kernel_rfl) rfl #[.slice A0 l0.length c0, .agg #[.int .i64 a1_0, .int .i64 a1_1, .int .i64 a1_2, .int .i64 a1_3, .int .i64 a1_4, .int .i64 a1_5]] rfl (by (try simp only [pml]); first | done | rfl | (simp only [pdt]; rfl)) ?_; (with_reducible refine (r_Parts.calls k _ _ l0 a1_0 a1_1 a1_2 a1_3 a1_4 a1_5 t487 _ ?side1 ?side2 A4.out).mono ?_); (case side1 => exact Kd.C_below HR0.out (fW HB.out)); (case side2 => exact HC0.out); rintro e w13 ⟨v488, rfl, ho0, hb⟩; refine ⟨_, rfl, ?_⟩; have HO489 := am (Kd.R_lower (Kd.R_newB ho0 (g := gb484) (o := .cells #[.int .i64 a1_0, .int .i64 a1_1, .int .i64 a1_2, .int .i64 a1_3, .int .i64 a1_4, .int .i64 a1_5] 43 (0, 0)) (kfC BK484.out)) (below_size (fW HB.out))); replace BK484 := xC1 (kfC BK484.out) hb; replace BK485 := xC1 (kfC BK485.out) hb; replace BK486 := xC1 (o := .cells #[.int .i64 0, .int .i64 0, .int .i64 0] 24 (0, 0)) (kkC BK486.out) hb; replace HB := bS HB hb; (try clear hb); (try clear hb2); (try clear hk); (try clear hi); (try clear ho0)))
 go_loopg [9, 11] k (fun kq v9 v11 w' => ∃ (x9_1 : Bool) (x11_1 : Int) (x487000_1 : Int) (x487001_1 : Int) (x487002_1 : Int), v9 = .bool x9_1 ∧ v11 = .int .i64 x11_1 ∧ Aside0 (r_First.l0 kq l0 a2 x9_1 t487 x11_1 x487000_1 x487001_1 x487002_1 = some (r1, r2, r3, r4)) ∧ Aside0 (kq ≤ k) ∧ Aside0 (Kd.R k43 43 w' w.heap.size (fun k_ => k_ ≠ gb484) v488 t487) ∧ Aside0 (w'.heap[gb484]? = some (.cells #[.int .i64 a1_0, .int .i64 a1_1, .int .i64 a1_2, .int .i64 a1_3, .int .i64 a1_4, .int .i64 a1_5] 43 (0, 0))) ∧ Aside0 (w'.heap[gb485]? = some (.cells #[.int .i64 0, .int .i64 0, .int .i64 0] 24 (0, 0))) ∧ Aside0 (w'.heap[gb486]? = some (.cells #[.int .i64 x487000_1, .int .i64 x487001_1, .int .i64 x487002_1] 24 (0, 0))) ∧ Aside0 (Below w.heap.size w w'))
 case atStart => exact ⟨(false), (0), (0), (0), (0), sqD, sqD, H', ⟨Nat.le_refl _⟩, ⟨by (with_reducible repeat (first | apply Kd.R_alloc | apply Kd.R_drewN | apply Kd.R_drew)); exact Kd.R_mono HO489.out (fun _ hk => hk.2)⟩, ⟨fb BK484.out⟩, ⟨fb BK485.out⟩, ⟨fb BK486.out⟩, ⟨fW HB.out⟩⟩
 case round =>
  clear H'
  try clear c1;try clear c2;try clear p2;try clear c5;try clear c8;try clear c9;try clear c11
  obtain ⟨x9_1, x11_1, x487000_1, x487001_1, x487002_1, rfl, rfl, HA, HK1, HO_10, BK484, BK485, BK486, HB⟩ := hrel
  cases gk with
  | zero => exact absurd HA.out (by simp [r_First.l0])
  | succ k1 =>
   have H := HA.out
   clear HA
   simp only [r_First.l0] at H
   by_cases c14 : x11_1 < (t487.length : Int)
   ·rw [if_pos c14] at H
    have c14b0 : decide (x11_1 < (t487.length : Int)) = true := decide_eq_true c14
    clear c14
    have HC15 := am H
    clear H
    obtain ⟨Ao16, co16, eo16⟩ := Kd.R_slice HO_10.out
    subst eo16
    go_upto_block 1 with (fail)
    go_cut [9] (fun v9 wc => ∃ (kq : Nat) (x9_14 : Bool) (x487000_14 : Int) (x487001_14 : Int) (x487002_14 : Int), v9 = .bool x9_14 ∧ Aside0 (r_First.j2 kq l0 a2 x9_14 t487 x11_1 x487000_14 x487001_14 x487002_14 = some (r1, r2, r3, r4)) ∧ Aside0 (kq ≤ k1) ∧ Aside0 (Kd.R k43 43 wc w.heap.size (fun k_ => k_ ≠ gb484) (.slice Ao16 t487.length co16) t487) ∧ Aside0 (wc.heap[gb484]? = some (.cells #[.int .i64 a1_0, .int .i64 a1_1, .int .i64 a1_2, .int .i64 a1_3, .int .i64 a1_4, .int .i64 a1_5] 43 (0, 0))) ∧ Aside0 (wc.heap[gb485]? = some (.cells #[.int .i64 0, .int .i64 0, .int .i64 0] 24 (0, 0))) ∧ Aside0 (wc.heap[gb486]? = some (.cells #[.int .i64 x487000_14, .int .i64 x487001_14, .int .i64 x487002_14] 24 (0, 0))) ∧ Aside0 (Below w.heap.size w wc))
    case first =>
     have H := HC15.out
     clear HC15
     have HC17 := am H
     clear H
     go_upto_region 6 with (fail)
     go_cut [43] (fun v43 wc => ∃ (kq : Nat) (x43_16 : Bool), v43 = .bool x43_16 ∧ Aside0 (r_First.j1 kq l0 a2 x9_1 t487 x11_1 x43_16 x487000_1 x487001_1 x487002_1 = some (r1, r2, r3, r4)) ∧ Aside0 (kq ≤ k1) ∧ Aside0 (Kd.R k43 43 wc w.heap.size (fun k_ => k_ ≠ gb484) (.slice Ao16 t487.length co16) t487) ∧ Aside0 (wc.heap[gb484]? = some (.cells #[.int .i64 a1_0, .int .i64 a1_1, .int .i64 a1_2, .int .i64 a1_3, .int .i64 a1_4, .int .i64 a1_5] 43 (0, 0))) ∧ Aside0 (wc.heap[gb485]? = some (.cells #[.int .i64 0, .int .i64 0, .int .i64 0] 24 (0, 0))) ∧ Aside0 (wc.heap[gb486]? = some (.cells #[.int .i64 x487000_1, .int .i64 x487001_1, .int .i64 x487002_1] 24 (0, 0))) ∧ Aside0 (Below w.heap.size w wc))
     case first =>
      have H := HC17.out
      clear HC17
      by_cases c18 : 0 ≤ x11_1
      rotate_left
      ·rw [if_neg c18] at H
       exact absurd H (by simp)
      rw [if_pos c18] at H
      have c18b0 : decide (0 ≤ x11_1) = true := decide_eq_true c18
      clear c18
      (first | rw [c18b0] | (simp only [i64_w, i32_w]; rw [c18b0]) | skip)
      replace H := Option.bind_eq_some_iff.mp H
      obtain ⟨t491, A190, H⟩ := H
      replace H : (if t491 = a2 then (if x9_1 = true then ((r_Before.f ((rd_T43 t487 x11_1).f0.f0) ((rd_T43 t487 x11_1).f0.f1) ((rd_T43 t487 x11_1).f0.f2) x487000_1 x487001_1 x487002_1).bind fun t493 => (r_First.j1 k1 l0 a2 x9_1 t487 x11_1 t493 x487000_1 x487001_1 x487002_1)) else (r_First.j1 k1 l0 a2 x9_1 t487 x11_1 true x487000_1 x487001_1 x487002_1)) else (r_First.j1 k1 l0 a2 x9_1 t487 x11_1 false x487000_1 x487001_1 x487002_1)) = some (r1, r2, r3, r4) := H
      have A19 := am A190
      clear A190
      by_cases c20 : t491 = a2
      rotate_left
      ·rw [if_neg c20] at H
       have c20b0 : (t491 == a2) = false := beq_eq_false_iff_ne.mpr c20
       have c20b1 : (t491 != a2) = true := bne_iff_ne.mpr c20
       have H' := am H
       clear H
       try go_wp2
       have n0_ := am (Kd.R_drew HO_10.out)
       have n1_ := am (bd BK484.out)
       have n2_ := am (bd BK485.out)
       have n3_ := am (bd BK486.out)
       have n4_ := am (below_drew1 HB.out)
       clear HO_10 BK484 BK485 BK486 HB
       have HO_10 := n0_
       have BK484 := n1_
       have BK485 := n2_
       have BK486 := n3_
       have HB := n4_
       clear n0_ n1_ n2_ n3_ n4_
       have p490 : 0 ≤ (x11_1 : Int) := of_decide_eq_true (by assumption)
       have q490 : x11_1 < (t487.length : Int) := of_decide_eq_true (by assumption)
       obtain ⟨ad490, e490, hx490_0, hx490_1, hx490_2, hx490_3, hx490_4, hx490_5⟩ := at_T43 (Kd.R_reads' HO_10.out).2.2 x11_1 p490 q490
       cases e490
       replace p490 := eq_true p490
       replace q490 := eq_true q490
       refine start_ (n := 22) (S := fun w' => w'.cell? (ad490.add ((x11_1).toNat * 6)) = some (.int .i64 ((rd_T43 t487 x11_1).f0.f0)) ∧ w'.cell? ⟨(ad490.add ((x11_1).toNat * 6)).block, (ad490.add ((x11_1).toNat * 6)).off + 1, none⟩ = some (.int .i64 ((rd_T43 t487 x11_1).f0.f1)) ∧ w'.cell? ⟨(ad490.add ((x11_1).toNat * 6)).block, (ad490.add ((x11_1).toNat * 6)).off + 2, none⟩ = some (.int .i64 ((rd_T43 t487 x11_1).f0.f2)) ∧ w'.cell? ⟨(ad490.add ((x11_1).toNat * 6)).block, (ad490.add ((x11_1).toNat * 6)).off + 3, none⟩ = some (.int .i64 ((rd_T43 t487 x11_1).f1.f0)) ∧ w'.cell? ⟨(ad490.add ((x11_1).toNat * 6)).block, (ad490.add ((x11_1).toNat * 6)).off + 4, none⟩ = some (.int .i64 ((rd_T43 t487 x11_1).f1.f1)) ∧ w'.cell? ⟨(ad490.add ((x11_1).toNat * 6)).block, (ad490.add ((x11_1).toNat * 6)).off + 5, none⟩ = some (.int .i64 ((rd_T43 t487 x11_1).f1.f2))) (ds := []) #[F,F,F,F,F,F,F,F,F,F,F,F,F,F,F,F,F,F,F,F,F,F] (by kernel_rfl) rfl rfl ⟨hx490_0, hx490_1, hx490_2, hx490_3, hx490_4, hx490_5⟩ (fun hHeld => ?_); refine with_tabW r_First.tab6 r_First.bits6 (fun HT_ HW_ => ?_)
       generalize wr.drew = w28 at HO_10 BK484 BK485 BK486 HB hx490_0 hx490_1 hx490_2 hx490_3 hx490_4 hx490_5 hHeld ⊢
       refine pu (i := 0) (N := some 22) (fl 22 1 []) HT_ ?_
       refine pu (i := 1) (N := some 23) (fl 22 2 []) HT_ ?_
       refine pu (i := 2) (N := some 24) (fl 22 3 []) HT_ ?_
       refine pu (i := 3) (N := some 25) (fl 22 4 []) HT_ ?_
       refine pu (i := 4) (N := some 26) (fl 22 5 []) HT_ ?_
       refine pu (i := 7) (N := some 29) (fl 22 5 [7]) HT_ ?_
       refine tk (i := 5) (N := some 27) (fl 22 6 [7]) HT_ HW_ hHeld ?_
       refine one_ (i := 6) (N := some 28) (fl 22 8 []) rfl rfl (one_of HT_.out (by kernel_rfl)) (by decide) (fun K hK => ?_)
       refine goes_ Try.func18 (by kernel_rfl) rfl #[.slice A0 l0.length c0, .agg #[.int .i64 ((rd_T43 t487 x11_1).f0.f0), .int .i64 ((rd_T43 t487 x11_1).f0.f1), .int .i64 ((rd_T43 t487 x11_1).f0.f2)]] (by rfl) rfl rfl (by (try simp only [pml]); first | done | rfl | (simp only [pdt]; rfl)) ?_
       with_reducible refine (r_State.calls k1 _ _ l0 ((rd_T43 t487 x11_1).f0.f0) ((rd_T43 t487 x11_1).f0.f1) ((rd_T43 t487 x11_1).f0.f2) t491 _ ?side1 ?side2 A19.out).mono ?_
       (case side1 => repeat (first | exact (Kd.C_below HR0.out HB.out) | (with_reducible refine Kd.C_alloc ?_ _) | (with_reducible refine Kd.C_drewN ?_ _) | (with_reducible refine Kd.C_drew ?_)))
       (case side2 => exact HC0.out)
       rintro e w29 ⟨rfl, hb⟩
       have HS0_ := (hb.cell (bq _ _ (hHeld.1))).trans (hHeld.1)
       have HS1_ := (hb.cell (bq _ _ (hHeld.2.1))).trans (hHeld.2.1)
       have HS2_ := (hb.cell (bq _ _ (hHeld.2.2.1))).trans (hHeld.2.2.1)
       have HS3_ := (hb.cell (bq _ _ (hHeld.2.2.2.1))).trans (hHeld.2.2.2.1)
       have HS4_ := (hb.cell (bq _ _ (hHeld.2.2.2.2.1))).trans (hHeld.2.2.2.2.1)
       have HS5_ := (hb.cell (bq _ _ (hHeld.2.2.2.2.2))).trans (hHeld.2.2.2.2.2)
       refine ⟨_, rfl, ?_⟩
       have n0_ := dR HO_10 hb
       have n1_ := bB BK484 hb
       have n2_ := bB BK485 hb
       have n3_ := bB BK486 hb
       have n4_ := bS HB hb
       clear HO_10 BK484 BK485 BK486 HB
       have HO_10 := n0_
       have BK484 := n1_
       have BK485 := n2_
       have BK486 := n3_
       have HB := n4_
       clear n0_ n1_ n2_ n3_ n4_
       (try clear hb)
       (try clear hb2)
       (try clear hk)
       (try clear hi)
       refine hK.out _ _ ⟨HS0_, HS1_, HS2_, HS3_, HS4_, HS5_⟩ (fun hHeld => ?_)
       clear hK K
       refine norm_ (a' := ?_) ?_ ?_
       rotate_left
       ·show Act.put _ (some 28) _ = _
        simp only [Act.put, psl, i64_w, i32_w]
        rfl
       refine pu (i := 8) (N := some 30) (fl 22 9 []) HT_ ?_
       refine pu (i := 9) (N := some 31) (fl 22 10 []) HT_ ?_
       refine pure_ (i := 10) (N := some 32) (v := undef) (a' := ?_) #[T,T,T,T,T,T,T,T,T,T,T,F,F,F,F,F,F,F,F,F,F,F] rfl rfl (any_of HT_.out (by kernel_rfl)) (fun _ _ _ h => h) (Or.inr ⟨by rfl, rfl⟩) ?_ ?_
       rotate_left
       ·simp only [Act.put, psl, i64_w, i32_w]
        rfl
       refine pure_ (i := 11) (N := some 33) (v := undef) (a' := ?_) #[T,T,T,T,T,T,T,T,T,T,T,T,F,F,F,F,F,F,F,F,F,F] rfl rfl (any_of HT_.out (by kernel_rfl)) (fun _ _ _ h => h) (Or.inr ⟨by rfl, rfl⟩) ?_ ?_
       rotate_left
       ·simp only [Act.put, psl, i64_w, i32_w]
        rfl
       refine pure_ (i := 12) (N := some 34) (v := undef) (a' := ?_) #[T,T,T,T,T,T,T,T,T,T,T,T,T,F,F,F,F,F,F,F,F,F] rfl rfl (any_of HT_.out (by kernel_rfl)) (fun _ _ _ h => h) (Or.inr ⟨by rfl, rfl⟩) ?_ ?_
       rotate_left
       ·simp only [Act.put, psl, i64_w, i32_w]
        rfl
       refine pure_ (i := 13) (N := some 35) (v := undef) (a' := ?_) #[T,T,T,T,T,T,T,T,T,T,T,T,T,T,F,F,F,F,F,F,F,F] rfl rfl (any_of HT_.out (by kernel_rfl)) (fun _ _ _ h => h) (Or.inr ⟨by rfl, rfl⟩) ?_ ?_
       rotate_left
       ·simp only [Act.put, psl, i64_w, i32_w]
        rfl
       refine pure_ (i := 14) (N := some 36) (v := undef) (a' := ?_) #[T,T,T,T,T,T,T,T,T,T,T,T,T,T,T,F,F,F,F,F,F,F] rfl rfl (any_of HT_.out (by kernel_rfl)) (fun _ _ _ h => h) (Or.inr ⟨by rfl, rfl⟩) ?_ ?_
       rotate_left
       ·simp only [Act.put, psl, i64_w, i32_w]
        rfl
       refine pure_ (i := 15) (N := some 37) (v := undef) (a' := ?_) #[T,T,T,T,T,T,T,T,T,T,T,T,T,T,T,T,F,F,F,F,F,F] rfl rfl (any_of HT_.out (by kernel_rfl)) (fun _ _ _ h => h) (Or.inr ⟨by rfl, rfl⟩) ?_ ?_
       rotate_left
       ·simp only [Act.put, psl, i64_w, i32_w]
        rfl
       refine pure_ (i := 16) (N := some 38) (v := undef) (a' := ?_) #[T,T,T,T,T,T,T,T,T,T,T,T,T,T,T,T,T,F,F,F,F,F] rfl rfl (any_of HT_.out (by kernel_rfl)) (fun _ _ _ h => h) (Or.inr ⟨by rfl, rfl⟩) ?_ ?_
       rotate_left
       ·simp only [Act.put, psl, i64_w, i32_w]
        rfl
       refine pure_ (i := 17) (N := some 39) (v := undef) (a' := ?_) #[T,T,T,T,T,T,T,T,T,T,T,T,T,T,T,T,T,T,F,F,F,F] rfl rfl (any_of HT_.out (by kernel_rfl)) (fun _ _ _ h => h) (Or.inr ⟨by rfl, rfl⟩) ?_ ?_
       rotate_left
       ·simp only [Act.put, psl, i64_w, i32_w]
        rfl
       refine pure_ (i := 18) (N := some 40) (v := undef) (a' := ?_) #[T,T,T,T,T,T,T,T,T,T,T,T,T,T,T,T,T,T,T,F,F,F] rfl rfl (any_of HT_.out (by kernel_rfl)) (fun _ _ _ h => h) (Or.inr ⟨by rfl, rfl⟩) ?_ ?_
       rotate_left
       ·simp only [Act.put, psl, i64_w, i32_w]
        rfl
       refine pure_ (i := 19) (N := some 41) (v := undef) (a' := ?_) #[T,T,T,T,T,T,T,T,T,T,T,T,T,T,T,T,T,T,T,T,F,F] rfl rfl (any_of HT_.out (by kernel_rfl)) (fun _ _ _ h => h) (Or.inr ⟨by rfl, rfl⟩) ?_ ?_
       rotate_left
       ·simp only [Act.put, psl, i64_w, i32_w]
        rfl
       refine pure_ (i := 20) (N := some 42) (v := undef) (a' := ?_) #[T,T,T,T,T,T,T,T,T,T,T,T,T,T,T,T,T,T,T,T,T,F] rfl rfl (any_of HT_.out (by kernel_rfl)) (fun _ _ _ h => h) (Or.inr ⟨by rfl, rfl⟩) ?_ ?_
       rotate_left
       ·simp only [Act.put, psl, i64_w, i32_w]
        rfl
       refine pu (i := 21) (N := some 43) (fl 22 22 []) HT_ ?_
       refine done_ (done_of HT_.out (by kernel_rfl)) ?_
       try go_wp2
       go_meet
       case rel => exact ⟨_, (false), sqD, H', ⟨by have := HK1.out; first | omega | exact Nat.le_refl _⟩, ⟨fR HO_10.out⟩, ⟨fb BK484.out⟩, ⟨fb BK485.out⟩, ⟨fb BK486.out⟩, ⟨fW HB.out⟩⟩
      rw [if_pos c20] at H
      have c20b0 : (t491 == a2) = true := beq_iff_eq.mpr c20
      have c20b1 : (t491 != a2) = false := bne_eq_false_iff_eq.mpr c20
      clear c20
      by_cases c21 : x9_1 = true
      rotate_left
      ·replace c21 := Bool.eq_false_iff.mpr c21
       subst c21
       have H1 : (r_First.j1 k1 l0 a2 false t487 x11_1 true x487000_1 x487001_1 x487002_1) = some (r1, r2, r3, r4) := by rw [if_neg (show ¬ (false = true) by decide)] at H; exact H
       clear H
       have H := H1
       clear H1
       have H' := am H
       clear H
       try go_wp2
       have n0_ := am (Kd.R_drew HO_10.out)
       have n1_ := am (bd BK484.out)
       have n2_ := am (bd BK485.out)
       have n3_ := am (bd BK486.out)
       have n4_ := am (below_drew1 HB.out)
       clear HO_10 BK484 BK485 BK486 HB
       have HO_10 := n0_
       have BK484 := n1_
       have BK485 := n2_
       have BK486 := n3_
       have HB := n4_
       clear n0_ n1_ n2_ n3_ n4_
       have p490 : 0 ≤ (x11_1 : Int) := of_decide_eq_true (by assumption)
       have q490 : x11_1 < (t487.length : Int) := of_decide_eq_true (by assumption)
       obtain ⟨ad490, e490, hx490_0, hx490_1, hx490_2, hx490_3, hx490_4, hx490_5⟩ := at_T43 (Kd.R_reads' HO_10.out).2.2 x11_1 p490 q490
       cases e490
       replace p490 := eq_true p490
       replace q490 := eq_true q490
       refine start_ (n := 22) (S := fun w' => w'.cell? (ad490.add ((x11_1).toNat * 6)) = some (.int .i64 ((rd_T43 t487 x11_1).f0.f0)) ∧ w'.cell? ⟨(ad490.add ((x11_1).toNat * 6)).block, (ad490.add ((x11_1).toNat * 6)).off + 1, none⟩ = some (.int .i64 ((rd_T43 t487 x11_1).f0.f1)) ∧ w'.cell? ⟨(ad490.add ((x11_1).toNat * 6)).block, (ad490.add ((x11_1).toNat * 6)).off + 2, none⟩ = some (.int .i64 ((rd_T43 t487 x11_1).f0.f2)) ∧ w'.cell? ⟨(ad490.add ((x11_1).toNat * 6)).block, (ad490.add ((x11_1).toNat * 6)).off + 3, none⟩ = some (.int .i64 ((rd_T43 t487 x11_1).f1.f0)) ∧ w'.cell? ⟨(ad490.add ((x11_1).toNat * 6)).block, (ad490.add ((x11_1).toNat * 6)).off + 4, none⟩ = some (.int .i64 ((rd_T43 t487 x11_1).f1.f1)) ∧ w'.cell? ⟨(ad490.add ((x11_1).toNat * 6)).block, (ad490.add ((x11_1).toNat * 6)).off + 5, none⟩ = some (.int .i64 ((rd_T43 t487 x11_1).f1.f2))) (ds := []) #[F,F,F,F,F,F,F,F,F,F,F,F,F,F,F,F,F,F,F,F,F,F] (by kernel_rfl) rfl rfl ⟨hx490_0, hx490_1, hx490_2, hx490_3, hx490_4, hx490_5⟩ (fun hHeld => ?_); refine with_tabW r_First.tab6 r_First.bits6 (fun HT_ HW_ => ?_)
       generalize wr.drew = w26 at HO_10 BK484 BK485 BK486 HB hx490_0 hx490_1 hx490_2 hx490_3 hx490_4 hx490_5 hHeld ⊢
       refine pu (i := 0) (N := some 22) (fl 22 1 []) HT_ ?_
       refine pu (i := 1) (N := some 23) (fl 22 2 []) HT_ ?_
       refine pu (i := 2) (N := some 24) (fl 22 3 []) HT_ ?_
       refine pu (i := 3) (N := some 25) (fl 22 4 []) HT_ ?_
       refine pu (i := 4) (N := some 26) (fl 22 5 []) HT_ ?_
       refine pu (i := 7) (N := some 29) (fl 22 5 [7]) HT_ ?_
       refine tk (i := 5) (N := some 27) (fl 22 6 [7]) HT_ HW_ hHeld ?_
       refine one_ (i := 6) (N := some 28) (fl 22 8 []) rfl rfl (one_of HT_.out (by kernel_rfl)) (by decide) (fun K hK => ?_)
       refine goes_ Try.func18 (by kernel_rfl) rfl #[.slice A0 l0.length c0, .agg #[.int .i64 ((rd_T43 t487 x11_1).f0.f0), .int .i64 ((rd_T43 t487 x11_1).f0.f1), .int .i64 ((rd_T43 t487 x11_1).f0.f2)]] (by rfl) rfl rfl (by (try simp only [pml]); first | done | rfl | (simp only [pdt]; rfl)) ?_
       with_reducible refine (r_State.calls k1 _ _ l0 ((rd_T43 t487 x11_1).f0.f0) ((rd_T43 t487 x11_1).f0.f1) ((rd_T43 t487 x11_1).f0.f2) t491 _ ?side1 ?side2 A19.out).mono ?_
       (case side1 => repeat (first | exact (Kd.C_below HR0.out HB.out) | (with_reducible refine Kd.C_alloc ?_ _) | (with_reducible refine Kd.C_drewN ?_ _) | (with_reducible refine Kd.C_drew ?_)))
       (case side2 => exact HC0.out)
       rintro e w27 ⟨rfl, hb⟩
       have HS0_ := (hb.cell (bq _ _ (hHeld.1))).trans (hHeld.1)
       have HS1_ := (hb.cell (bq _ _ (hHeld.2.1))).trans (hHeld.2.1)
       have HS2_ := (hb.cell (bq _ _ (hHeld.2.2.1))).trans (hHeld.2.2.1)
       have HS3_ := (hb.cell (bq _ _ (hHeld.2.2.2.1))).trans (hHeld.2.2.2.1)
       have HS4_ := (hb.cell (bq _ _ (hHeld.2.2.2.2.1))).trans (hHeld.2.2.2.2.1)
       have HS5_ := (hb.cell (bq _ _ (hHeld.2.2.2.2.2))).trans (hHeld.2.2.2.2.2)
       refine ⟨_, rfl, ?_⟩
       have n0_ := dR HO_10 hb
       have n1_ := bB BK484 hb
       have n2_ := bB BK485 hb
       have n3_ := bB BK486 hb
       have n4_ := bS HB hb
       clear HO_10 BK484 BK485 BK486 HB
       have HO_10 := n0_
       have BK484 := n1_
       have BK485 := n2_
       have BK486 := n3_
       have HB := n4_
       clear n0_ n1_ n2_ n3_ n4_
       (try clear hb)
       (try clear hb2)
       (try clear hk)
       (try clear hi)
       refine hK.out _ _ ⟨HS0_, HS1_, HS2_, HS3_, HS4_, HS5_⟩ (fun hHeld => ?_)
       clear hK K
       refine norm_ (a' := ?_) ?_ ?_
       rotate_left
       ·show Act.put _ (some 28) _ = _
        simp only [Act.put, psl, i64_w, i32_w]
        rfl
       refine pu (i := 8) (N := some 30) (fl 22 9 []) HT_ ?_
       refine pu (i := 9) (N := some 31) (fl 22 10 []) HT_ ?_
       refine pu (i := 10) (N := some 32) (fl 22 11 []) HT_ ?_
       refine pu (i := 11) (N := some 33) (fl 22 12 []) HT_ ?_
       refine pu (i := 12) (N := some 34) (fl 22 13 []) HT_ ?_
       refine pure_ (i := 13) (N := some 35) (v := undef) (a' := ?_) #[T,T,T,T,T,T,T,T,T,T,T,T,T,T,F,F,F,F,F,F,F,F] rfl rfl (any_of HT_.out (by kernel_rfl)) (fun _ _ _ h => h) (Or.inr ⟨by rfl, rfl⟩) ?_ ?_
       rotate_left
       ·simp only [Act.put, psl, i64_w, i32_w]
        rfl
       refine pure_ (i := 14) (N := some 36) (v := undef) (a' := ?_) #[T,T,T,T,T,T,T,T,T,T,T,T,T,T,T,F,F,F,F,F,F,F] rfl rfl (any_of HT_.out (by kernel_rfl)) (fun _ _ _ h => h) (Or.inr ⟨by rfl, rfl⟩) ?_ ?_
       rotate_left
       ·simp only [Act.put, psl, i64_w, i32_w]
        rfl
       refine pure_ (i := 15) (N := some 37) (v := undef) (a' := ?_) #[T,T,T,T,T,T,T,T,T,T,T,T,T,T,T,T,F,F,F,F,F,F] rfl rfl (any_of HT_.out (by kernel_rfl)) (fun _ _ _ h => h) (Or.inr ⟨by rfl, rfl⟩) ?_ ?_
       rotate_left
       ·simp only [Act.put, psl, i64_w, i32_w]
        rfl
       refine pure_ (i := 16) (N := some 38) (v := undef) (a' := ?_) #[T,T,T,T,T,T,T,T,T,T,T,T,T,T,T,T,T,F,F,F,F,F] rfl rfl (any_of HT_.out (by kernel_rfl)) (fun _ _ _ h => h) (Or.inr ⟨by rfl, rfl⟩) ?_ ?_
       rotate_left
       ·simp only [Act.put, psl, i64_w, i32_w]
        rfl
       refine pure_ (i := 17) (N := some 39) (v := undef) (a' := ?_) #[T,T,T,T,T,T,T,T,T,T,T,T,T,T,T,T,T,T,F,F,F,F] rfl rfl (any_of HT_.out (by kernel_rfl)) (fun _ _ _ h => h) (Or.inr ⟨by rfl, rfl⟩) ?_ ?_
       rotate_left
       ·simp only [Act.put, psl, i64_w, i32_w]
        rfl
       refine pure_ (i := 18) (N := some 40) (v := undef) (a' := ?_) #[T,T,T,T,T,T,T,T,T,T,T,T,T,T,T,T,T,T,T,F,F,F] rfl rfl (any_of HT_.out (by kernel_rfl)) (fun _ _ _ h => h) (Or.inr ⟨by rfl, rfl⟩) ?_ ?_
       rotate_left
       ·simp only [Act.put, psl, i64_w, i32_w]
        rfl
       refine pure_ (i := 19) (N := some 41) (v := undef) (a' := ?_) #[T,T,T,T,T,T,T,T,T,T,T,T,T,T,T,T,T,T,T,T,F,F] rfl rfl (any_of HT_.out (by kernel_rfl)) (fun _ _ _ h => h) (Or.inr ⟨by rfl, rfl⟩) ?_ ?_
       rotate_left
       ·simp only [Act.put, psl, i64_w, i32_w]
        rfl
       refine pu (i := 20) (N := some 42) (fl 22 21 []) HT_ ?_
       refine pu (i := 21) (N := some 43) (fl 22 22 []) HT_ ?_
       refine done_ (done_of HT_.out (by kernel_rfl)) ?_
       try go_wp2
       go_meet
       case rel => exact ⟨_, (true), sqD, H', ⟨by have := HK1.out; first | omega | exact Nat.le_refl _⟩, ⟨fR HO_10.out⟩, ⟨fb BK484.out⟩, ⟨fb BK485.out⟩, ⟨fb BK486.out⟩, ⟨fW HB.out⟩⟩
      subst c21
      have H1 : ((r_Before.f ((rd_T43 t487 x11_1).f0.f0) ((rd_T43 t487 x11_1).f0.f1) ((rd_T43 t487 x11_1).f0.f2) x487000_1 x487001_1 x487002_1).bind fun t493 => (r_First.j1 k1 l0 a2 true t487 x11_1 t493 x487000_1 x487001_1 x487002_1)) = some (r1, r2, r3, r4) := by rw [if_pos rfl] at H; exact H
      clear H
      have H := H1
      clear H1
      replace H := Option.bind_eq_some_iff.mp H
      obtain ⟨t493, A220, H⟩ := H
      replace H : (r_First.j1 k1 l0 a2 true t487 x11_1 t493 x487000_1 x487001_1 x487002_1) = some (r1, r2, r3, r4) := H
      have A22 := am A220
      clear A220
      have H' := am H
      clear H
      try go_wp2
      have n0_ := am (Kd.R_drew HO_10.out)
      have n1_ := am (bd BK484.out)
      have n2_ := am (bd BK485.out)
      have n3_ := am (bd BK486.out)
      have n4_ := am (below_drew1 HB.out)
      clear HO_10 BK484 BK485 BK486 HB
      have HO_10 := n0_
      have BK484 := n1_
      have BK485 := n2_
      have BK486 := n3_
      have HB := n4_
      clear n0_ n1_ n2_ n3_ n4_
      have p490 : 0 ≤ (x11_1 : Int) := of_decide_eq_true (by assumption)
      have q490 : x11_1 < (t487.length : Int) := of_decide_eq_true (by assumption)
      obtain ⟨ad490, e490, hx490_0, hx490_1, hx490_2, hx490_3, hx490_4, hx490_5⟩ := at_T43 (Kd.R_reads' HO_10.out).2.2 x11_1 p490 q490
      cases e490
      replace p490 := eq_true p490
      replace q490 := eq_true q490
      have p492 : 0 ≤ (x11_1 : Int) := of_decide_eq_true (by assumption)
      have q492 : x11_1 < (t487.length : Int) := of_decide_eq_true (by assumption)
      obtain ⟨ad492, e492, hx492_0, hx492_1, hx492_2, hx492_3, hx492_4, hx492_5⟩ := at_T43 (Kd.R_reads' HO_10.out).2.2 x11_1 p492 q492
      obtain rfl : ad490 = ad492 := (by injection e492)
      replace p492 := eq_true p492
      replace q492 := eq_true q492
      refine start_ (n := 22) (S := fun w' => w'.cell? ⟨gb486, 0, none⟩ = some (.int .i64 x487000_1) ∧ w'.cell? ⟨gb486, 1, none⟩ = some (.int .i64 x487001_1) ∧ w'.cell? ⟨gb486, 2, none⟩ = some (.int .i64 x487002_1) ∧ w'.cell? (ad490.add ((x11_1).toNat * 6)) = some (.int .i64 ((rd_T43 t487 x11_1).f0.f0)) ∧ w'.cell? ⟨(ad490.add ((x11_1).toNat * 6)).block, (ad490.add ((x11_1).toNat * 6)).off + 1, none⟩ = some (.int .i64 ((rd_T43 t487 x11_1).f0.f1)) ∧ w'.cell? ⟨(ad490.add ((x11_1).toNat * 6)).block, (ad490.add ((x11_1).toNat * 6)).off + 2, none⟩ = some (.int .i64 ((rd_T43 t487 x11_1).f0.f2)) ∧ w'.cell? ⟨(ad490.add ((x11_1).toNat * 6)).block, (ad490.add ((x11_1).toNat * 6)).off + 3, none⟩ = some (.int .i64 ((rd_T43 t487 x11_1).f1.f0)) ∧ w'.cell? ⟨(ad490.add ((x11_1).toNat * 6)).block, (ad490.add ((x11_1).toNat * 6)).off + 4, none⟩ = some (.int .i64 ((rd_T43 t487 x11_1).f1.f1)) ∧ w'.cell? ⟨(ad490.add ((x11_1).toNat * 6)).block, (ad490.add ((x11_1).toNat * 6)).off + 5, none⟩ = some (.int .i64 ((rd_T43 t487 x11_1).f1.f2)) ∧ w'.cell? (ad490.add ((x11_1).toNat * 6)) = some (.int .i64 ((rd_T43 t487 x11_1).f0.f0)) ∧ w'.cell? ⟨(ad490.add ((x11_1).toNat * 6)).block, (ad490.add ((x11_1).toNat * 6)).off + 1, none⟩ = some (.int .i64 ((rd_T43 t487 x11_1).f0.f1)) ∧ w'.cell? ⟨(ad490.add ((x11_1).toNat * 6)).block, (ad490.add ((x11_1).toNat * 6)).off + 2, none⟩ = some (.int .i64 ((rd_T43 t487 x11_1).f0.f2)) ∧ w'.cell? ⟨(ad490.add ((x11_1).toNat * 6)).block, (ad490.add ((x11_1).toNat * 6)).off + 3, none⟩ = some (.int .i64 ((rd_T43 t487 x11_1).f1.f0)) ∧ w'.cell? ⟨(ad490.add ((x11_1).toNat * 6)).block, (ad490.add ((x11_1).toNat * 6)).off + 4, none⟩ = some (.int .i64 ((rd_T43 t487 x11_1).f1.f1)) ∧ w'.cell? ⟨(ad490.add ((x11_1).toNat * 6)).block, (ad490.add ((x11_1).toNat * 6)).off + 5, none⟩ = some (.int .i64 ((rd_T43 t487 x11_1).f1.f2))) (ds := []) #[F,F,F,F,F,F,F,F,F,F,F,F,F,F,F,F,F,F,F,F,F,F] (by kernel_rfl) rfl rfl ⟨(blk_cell BK486.out 0).trans rfl, (blk_cell BK486.out 1).trans rfl, (blk_cell BK486.out 2).trans rfl, hx490_0, hx490_1, hx490_2, hx490_3, hx490_4, hx490_5, hx492_0, hx492_1, hx492_2, hx492_3, hx492_4, hx492_5⟩ (fun hHeld => ?_); refine with_tabW r_First.tab6 r_First.bits6 (fun HT_ HW_ => ?_)
      generalize wr.drew = w23 at HO_10 BK484 BK485 BK486 HB hx490_0 hx490_1 hx490_2 hx490_3 hx490_4 hx490_5 hx492_0 hx492_1 hx492_2 hx492_3 hx492_4 hx492_5 hHeld ⊢
      refine pu (i := 0) (N := some 22) (fl 22 1 []) HT_ ?_
      refine pu (i := 1) (N := some 23) (fl 22 2 []) HT_ ?_
      refine pu (i := 2) (N := some 24) (fl 22 3 []) HT_ ?_
      refine pu (i := 3) (N := some 25) (fl 22 4 []) HT_ ?_
      refine pu (i := 4) (N := some 26) (fl 22 5 []) HT_ ?_
      refine pu (i := 7) (N := some 29) (fl 22 5 [7]) HT_ ?_
      refine tk (i := 5) (N := some 27) (fl 22 6 [7]) HT_ HW_ hHeld ?_
      refine one_ (i := 6) (N := some 28) (fl 22 8 []) rfl rfl (one_of HT_.out (by kernel_rfl)) (by decide) (fun K hK => ?_)
      refine goes_ Try.func18 (by kernel_rfl) rfl #[.slice A0 l0.length c0, .agg #[.int .i64 ((rd_T43 t487 x11_1).f0.f0), .int .i64 ((rd_T43 t487 x11_1).f0.f1), .int .i64 ((rd_T43 t487 x11_1).f0.f2)]] (by rfl) rfl rfl (by (try simp only [pml]); first | done | rfl | (simp only [pdt]; rfl)) ?_
      with_reducible refine (r_State.calls k1 _ _ l0 ((rd_T43 t487 x11_1).f0.f0) ((rd_T43 t487 x11_1).f0.f1) ((rd_T43 t487 x11_1).f0.f2) t491 _ ?side1 ?side2 A19.out).mono ?_
      (case side1 => repeat (first | exact (Kd.C_below HR0.out HB.out) | (with_reducible refine Kd.C_alloc ?_ _) | (with_reducible refine Kd.C_drewN ?_ _) | (with_reducible refine Kd.C_drew ?_)))
      (case side2 => exact HC0.out)
      rintro e w24 ⟨rfl, hb⟩
      have HS3_ := (hb.cell (bq _ _ (hHeld.2.2.2.1))).trans (hHeld.2.2.2.1)
      have HS4_ := (hb.cell (bq _ _ (hHeld.2.2.2.2.1))).trans (hHeld.2.2.2.2.1)
      have HS5_ := (hb.cell (bq _ _ (hHeld.2.2.2.2.2.1))).trans (hHeld.2.2.2.2.2.1)
      have HS6_ := (hb.cell (bq _ _ (hHeld.2.2.2.2.2.2.1))).trans (hHeld.2.2.2.2.2.2.1)
      have HS7_ := (hb.cell (bq _ _ (hHeld.2.2.2.2.2.2.2.1))).trans (hHeld.2.2.2.2.2.2.2.1)
      have HS8_ := (hb.cell (bq _ _ (hHeld.2.2.2.2.2.2.2.2.1))).trans (hHeld.2.2.2.2.2.2.2.2.1)
      have HS9_ := (hb.cell (bq _ _ (hHeld.2.2.2.2.2.2.2.2.2.1))).trans (hHeld.2.2.2.2.2.2.2.2.2.1)
      have HS10_ := (hb.cell (bq _ _ (hHeld.2.2.2.2.2.2.2.2.2.2.1))).trans (hHeld.2.2.2.2.2.2.2.2.2.2.1)
      have HS11_ := (hb.cell (bq _ _ (hHeld.2.2.2.2.2.2.2.2.2.2.2.1))).trans (hHeld.2.2.2.2.2.2.2.2.2.2.2.1)
      have HS12_ := (hb.cell (bq _ _ (hHeld.2.2.2.2.2.2.2.2.2.2.2.2.1))).trans (hHeld.2.2.2.2.2.2.2.2.2.2.2.2.1)
      have HS13_ := (hb.cell (bq _ _ (hHeld.2.2.2.2.2.2.2.2.2.2.2.2.2.1))).trans (hHeld.2.2.2.2.2.2.2.2.2.2.2.2.2.1)
      have HS14_ := (hb.cell (bq _ _ (hHeld.2.2.2.2.2.2.2.2.2.2.2.2.2.2))).trans (hHeld.2.2.2.2.2.2.2.2.2.2.2.2.2.2)
      refine ⟨_, rfl, ?_⟩
      have n0_ := dR HO_10 hb
      have n1_ := bB BK484 hb
      have n2_ := bB BK485 hb
      have n3_ := bB BK486 hb
      have n4_ := bS HB hb
      clear HO_10 BK484 BK485 BK486 HB
      have HO_10 := n0_
      have BK484 := n1_
      have BK485 := n2_
      have BK486 := n3_
      have HB := n4_
      clear n0_ n1_ n2_ n3_ n4_
      (try clear hb)
      (try clear hb2)
      (try clear hk)
      (try clear hi)
      refine hK.out _ _ ⟨(blk_cell BK486.out 0).trans rfl, (blk_cell BK486.out 1).trans rfl, (blk_cell BK486.out 2).trans rfl, HS3_, HS4_, HS5_, HS6_, HS7_, HS8_, HS9_, HS10_, HS11_, HS12_, HS13_, HS14_⟩ (fun hHeld => ?_)
      clear hK K
      refine norm_ (a' := ?_) ?_ ?_
      rotate_left
      ·show Act.put _ (some 28) _ = _
       simp only [Act.put, psl, i64_w, i32_w]
       rfl
      refine pu (i := 8) (N := some 30) (fl 22 9 []) HT_ ?_
      refine pu (i := 9) (N := some 31) (fl 22 10 []) HT_ ?_
      refine pu (i := 10) (N := some 32) (fl 22 11 []) HT_ ?_
      refine pu (i := 11) (N := some 33) (fl 22 12 []) HT_ ?_
      refine pu (i := 12) (N := some 34) (fl 22 13 []) HT_ ?_
      refine pu (i := 13) (N := some 35) (fl 22 14 []) HT_ ?_
      refine pu (i := 14) (N := some 36) (fl 22 15 []) HT_ ?_
      refine pu (i := 15) (N := some 37) (fl 22 16 []) HT_ ?_
      refine pu (i := 16) (N := some 38) (fl 22 17 []) HT_ ?_
      refine tk (i := 17) (N := some 39) (fl 22 18 []) HT_ HW_ hHeld ?_
      refine tk (i := 18) (N := some 40) (fl 22 19 []) HT_ HW_ hHeld ?_
      refine one_ (i := 19) (N := some 41) (fl 22 20 []) rfl rfl (one_of HT_.out (by kernel_rfl)) (by decide) (fun K hK => ?_)
      refine goes_ Try.func59 (by kernel_rfl) rfl #[.agg #[.int .i64 ((rd_T43 t487 x11_1).f0.f0), .int .i64 ((rd_T43 t487 x11_1).f0.f1), .int .i64 ((rd_T43 t487 x11_1).f0.f2)], .agg #[.int .i64 x487000_1, .int .i64 x487001_1, .int .i64 x487002_1]] (by rfl) rfl rfl (by (try simp only [pml]); first | done | rfl | (simp only [pdt]; rfl)) ?_
      with_reducible refine (r_Before.calls ((rd_T43 t487 x11_1).f0.f0) ((rd_T43 t487 x11_1).f0.f1) ((rd_T43 t487 x11_1).f0.f2) x487000_1 x487001_1 x487002_1 t493 _ A22.out).mono ?_
      rintro e w25 ⟨rfl, hb⟩
      have HS3_ := (hb.cell (bq _ _ (hHeld.2.2.2.1))).trans (hHeld.2.2.2.1)
      have HS4_ := (hb.cell (bq _ _ (hHeld.2.2.2.2.1))).trans (hHeld.2.2.2.2.1)
      have HS5_ := (hb.cell (bq _ _ (hHeld.2.2.2.2.2.1))).trans (hHeld.2.2.2.2.2.1)
      have HS6_ := (hb.cell (bq _ _ (hHeld.2.2.2.2.2.2.1))).trans (hHeld.2.2.2.2.2.2.1)
      have HS7_ := (hb.cell (bq _ _ (hHeld.2.2.2.2.2.2.2.1))).trans (hHeld.2.2.2.2.2.2.2.1)
      have HS8_ := (hb.cell (bq _ _ (hHeld.2.2.2.2.2.2.2.2.1))).trans (hHeld.2.2.2.2.2.2.2.2.1)
      have HS9_ := (hb.cell (bq _ _ (hHeld.2.2.2.2.2.2.2.2.2.1))).trans (hHeld.2.2.2.2.2.2.2.2.2.1)
      have HS10_ := (hb.cell (bq _ _ (hHeld.2.2.2.2.2.2.2.2.2.2.1))).trans (hHeld.2.2.2.2.2.2.2.2.2.2.1)
      have HS11_ := (hb.cell (bq _ _ (hHeld.2.2.2.2.2.2.2.2.2.2.2.1))).trans (hHeld.2.2.2.2.2.2.2.2.2.2.2.1)
      have HS12_ := (hb.cell (bq _ _ (hHeld.2.2.2.2.2.2.2.2.2.2.2.2.1))).trans (hHeld.2.2.2.2.2.2.2.2.2.2.2.2.1)
      have HS13_ := (hb.cell (bq _ _ (hHeld.2.2.2.2.2.2.2.2.2.2.2.2.2.1))).trans (hHeld.2.2.2.2.2.2.2.2.2.2.2.2.2.1)
      have HS14_ := (hb.cell (bq _ _ (hHeld.2.2.2.2.2.2.2.2.2.2.2.2.2.2))).trans (hHeld.2.2.2.2.2.2.2.2.2.2.2.2.2.2)
      refine ⟨_, rfl, ?_⟩
      have n0_ := dR HO_10 hb
      have n1_ := bB BK484 hb
      have n2_ := bB BK485 hb
      have n3_ := bB BK486 hb
      have n4_ := bS HB hb
      clear HO_10 BK484 BK485 BK486 HB
      have HO_10 := n0_
      have BK484 := n1_
      have BK485 := n2_
      have BK486 := n3_
      have HB := n4_
      clear n0_ n1_ n2_ n3_ n4_
      (try clear hb)
      (try clear hb2)
      (try clear hk)
      (try clear hi)
      refine hK.out _ _ ⟨(blk_cell BK486.out 0).trans rfl, (blk_cell BK486.out 1).trans rfl, (blk_cell BK486.out 2).trans rfl, HS3_, HS4_, HS5_, HS6_, HS7_, HS8_, HS9_, HS10_, HS11_, HS12_, HS13_, HS14_⟩ (fun hHeld => ?_)
      clear hK K
      refine norm_ (a' := ?_) ?_ ?_
      rotate_left
      ·show Act.put _ (some 41) _ = _
       simp only [Act.put, psl, i64_w, i32_w]
       rfl
      refine pu (i := 20) (N := some 42) (fl 22 21 []) HT_ ?_
      refine pu (i := 21) (N := some 43) (fl 22 22 []) HT_ ?_
      refine done_ (done_of HT_.out (by kernel_rfl)) ?_
      try go_wp2
      go_meet
      case rel => exact ⟨_, (t493), sqD, H', ⟨by have := HK1.out; first | omega | exact Nat.le_refl _⟩, ⟨fR HO_10.out⟩, ⟨fb BK484.out⟩, ⟨fb BK485.out⟩, ⟨fb BK486.out⟩, ⟨fW HB.out⟩⟩
     case rest =>
      clear HC17
      try clear c1;try clear c2;try clear p2;try clear p4;try clear q4;try clear hx4;try clear c5;try clear c18;try clear c20;try clear c20b0;try clear c20b1;try clear c21;try clear hx490_0;try clear hx490_1;try clear hx490_2;try clear hx490_3;try clear hx490_4;try clear hx490_5;try clear p490;try clear q490
      obtain ⟨kq, x43_16, rfl, HA, HJ16, HO_10, BK484, BK485, BK486, HB⟩ := hcut
      cases kq with
      | zero => exact absurd HA.out (by simp [r_First.j1])
      | succ kj16 =>
       have H := HA.out
       clear HA
       simp only [r_First.j1] at H
       by_cases c30 : x43_16 = true
       rotate_left
       ·replace c30 := Bool.eq_false_iff.mpr c30
        subst c30
        have H1 : (r_First.j2 kj16 l0 a2 x9_1 t487 x11_1 x487000_1 x487001_1 x487002_1) = some (r1, r2, r3, r4) := by rw [if_neg (show ¬ (false = true) by decide)] at H; exact H
        clear H
        have H := H1
        clear H1
        have H' := am H
        clear H
        go_wp2
        go_meet
        case rel => exact ⟨_, (x9_1), (x487000_1), (x487001_1), (x487002_1), sqD, H', ⟨by have := HK1.out; have := HJ16.out; first | omega | exact Nat.le_refl _⟩, ⟨fR HO_10.out⟩, ⟨fb BK484.out⟩, ⟨fb BK485.out⟩, ⟨fb BK486.out⟩, ⟨fW HB.out⟩⟩
       subst c30
       have H1 : (if 0 ≤ x11_1 then (if x11_1 < (t487.length : Int) then (r_First.j2 kj16 l0 a2 true t487 x11_1 ((rd_T43 t487 x11_1).f0.f0) ((rd_T43 t487 x11_1).f0.f1) ((rd_T43 t487 x11_1).f0.f2)) else (none)) else (none)) = some (r1, r2, r3, r4) := by rw [if_pos rfl] at H; exact H
       clear H
       have H := H1
       clear H1
       by_cases c31 : 0 ≤ x11_1
       rotate_left
       ·rw [if_neg c31] at H
        exact absurd H (by simp)
       rw [if_pos c31] at H
       have c31b0 : decide (0 ≤ x11_1) = true := decide_eq_true c31
       clear c31
       by_cases c32 : x11_1 < (t487.length : Int)
       rotate_left
       ·rw [if_neg c32] at H
        exact absurd H (by simp)
       rw [if_pos c32] at H
       have c32b0 : decide (x11_1 < (t487.length : Int)) = true := decide_eq_true c32
       clear c32
       have H' := am H
       clear H
       have p494 : 0 ≤ (x11_1 : Int) := of_decide_eq_true (by assumption)
       have q494 : x11_1 < (t487.length : Int) := of_decide_eq_true (by assumption)
       obtain ⟨ad494, e494, hx494_0, hx494_1, hx494_2, hx494_3, hx494_4, hx494_5⟩ := at_T43 (Kd.R_reads' HO_10.out).2.2 x11_1 p494 q494
       cases e494
       replace p494 := eq_true p494
       replace q494 := eq_true q494
       have hnb33 := NB486_484.out
       have hnc33 := NB484_486.out
       have hnb34 := NB486_485.out
       have hnc34 := NB485_486.out
       have := yC1 BK486
       have := kC1 BK486
       have := kC2 BK486
       have := bf BK486.out 0
       have := bf BK486.out 1
       have := bf BK486.out 2
       go_wp2
       go_meet
       case rel => exact ⟨_, (true), ((rd_T43 t487 x11_1).f0.f0), ((rd_T43 t487 x11_1).f0.f1), ((rd_T43 t487 x11_1).f0.f2), sqD, H', ⟨by have := HK1.out; have := HJ16.out; first | omega | exact Nat.le_refl _⟩, ⟨by (with_reducible repeat (first | apply Kd.R_alloc | apply Kd.R_drewN | apply Kd.R_drew)); exact Kd.R_mono (Kd.R_far (p := ⟨gb486, 2, none⟩) (Kd.R_far (p := ⟨gb486, 1, none⟩) (Kd.R_far (p := ⟨gb486, 0, none⟩) (Kd.R_types HO_10.out BK486.out (by decide)) (fun _ hk => hk.2) (.int .i64 ((rd_T43 t487 x11_1).f0.f0))) (fun _ hk => hk.2) (.int .i64 ((rd_T43 t487 x11_1).f0.f1))) (fun _ hk => hk.2) (.int .i64 ((rd_T43 t487 x11_1).f0.f2))) (fun _ hk => hk.1)⟩, ⟨by (with_reducible repeat first | apply bN | apply bd | apply ba); refine blk_far ?_ NB484_486.out _; (with_reducible repeat first | apply bN | apply bd | apply ba); refine blk_far ?_ NB484_486.out _; (with_reducible repeat first | apply bN | apply bd | apply ba); refine blk_far ?_ NB484_486.out _; (with_reducible repeat first | apply bN | apply bd | apply ba); exact BK484.out⟩, ⟨by (with_reducible repeat first | apply bN | apply bd | apply ba); refine blk_far ?_ NB485_486.out _; (with_reducible repeat first | apply bN | apply bd | apply ba); refine blk_far ?_ NB485_486.out _; (with_reducible repeat first | apply bN | apply bd | apply ba); refine blk_far ?_ NB485_486.out _; (with_reducible repeat first | apply bN | apply bd | apply ba); exact BK485.out⟩, ⟨by (with_reducible repeat first | apply bN | apply bd | apply ba); refine blk_put (cs := #[.int .i64 ((rd_T43 t487 x11_1).f0.f0), .int .i64 ((rd_T43 t487 x11_1).f0.f1), .int .i64 x487002_1]) ?_ 2 _ rfl; (with_reducible repeat first | apply bN | apply bd | apply ba); refine blk_put (cs := #[.int .i64 ((rd_T43 t487 x11_1).f0.f0), .int .i64 x487001_1, .int .i64 x487002_1]) ?_ 1 _ rfl; (with_reducible repeat first | apply bN | apply bd | apply ba); refine blk_put (cs := #[.int .i64 x487000_1, .int .i64 x487001_1, .int .i64 x487002_1]) ?_ 0 _ rfl; (with_reducible repeat first | apply bN | apply bd | apply ba); exact BK486.out⟩, ⟨fW HB.out⟩⟩
    case rest =>
     clear HC15
     try clear c1;try clear c2;try clear p2;try clear c3;try clear p4;try clear q4;try clear hx4;try clear c5;try clear c18;try clear c20;try clear c20b0;try clear c20b1;try clear c21;try clear c30;try clear c31;try clear c31b0;try clear c32;try clear c32b0;try clear c33;try clear c34;try clear hx490_0;try clear hx490_1;try clear hx490_2;try clear hx490_3;try clear hx490_4;try clear hx490_5;try clear hx494_0;try clear hx494_1;try clear hx494_2;try clear hx494_3;try clear hx494_4;try clear hx494_5;try clear p2;try clear p4;try clear p490;try clear p494;try clear q4;try clear q490;try clear q494
     obtain ⟨kq, x9_14, x487000_14, x487001_14, x487002_14, rfl, HA, HJ14, HO_10, BK484, BK485, BK486, HB⟩ := hcut
     cases kq with
     | zero => exact absurd HA.out (by simp [r_First.j2])
     | succ kj14 =>
      have H := HA.out
      clear HA
      simp only [r_First.j2] at H
      have H' := am H
      clear H
      go_wp2
      go_roundg kj14
      case measure => have := HK1.out; have := HJ14.out; omega
      case rel => exact ⟨(x9_14), (wrap64 (x11_1 + 1)), (x487000_14), (x487001_14), (x487002_14), sqD, sqD, H', ⟨by have := HK1.out; have := HJ14.out; omega⟩, ⟨fR HO_10.out⟩, ⟨fb BK484.out⟩, ⟨fb BK485.out⟩, ⟨fb BK486.out⟩, ⟨fW HB.out⟩⟩
   ·rw [if_neg c14] at H
    have c14b0 : decide (x11_1 < (t487.length : Int)) = false := decide_eq_false c14
    clear c14
    simp only [Option.some.injEq, Prod.mk.injEq] at H
    obtain ⟨rfl, rfl, rfl, rfl⟩ := H
    obtain ⟨Ao36, co36, eo36⟩ := Kd.R_slice HO_10.out
    subst eo36
    have hnb37 := NB486_484.out
    have hnc37 := NB484_486.out
    have hnb38 := NB486_485.out
    have hnc38 := NB485_486.out
    have := yC1 BK486
    have := kC1 BK486
    have := kC2 BK486
    have := bf BK486.out 0
    have := bf BK486.out 1
    have := bf BK486.out 2
    have hnb40 := NB485_484.out
    have hnc40 := NB484_485.out
    have := yC1 BK485
    have := kC1 BK485
    have := kC2 BK485
    have := bf BK485.out 0
    have := bf BK485.out 1
    have := bf BK485.out 2
    go_wp2
    refine bodyPost_ret (results_ct rfl _ _ gb485 24 #[.int .i64 x487000_1, .int .i64 x487001_1, .int .i64 x487002_1] (0, 0) _ rfl (kkC BK485.out) Try.underlying24 rfl (by kernel_rfl)) rfl ?_
    exact ⟨sqE, fW HB.out⟩

end Go.Proofs.Ytcofgnbopodahaa.QA
