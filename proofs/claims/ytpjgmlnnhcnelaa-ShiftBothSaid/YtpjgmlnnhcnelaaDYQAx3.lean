import Derived.Test.YtpjgmlnnhcnelaaDYQAx0
import Derived.Test.YtpjgmlnnhcnelaaDYQAx2
namespace Go.Proofs.Ytpjgmlnnhcnelaa.QA
open Go.RowKit Go.Proofs.YtpjgmlnnhcnelaaW.PrintWords Go.Proofs.YtpjgmlnnhcnelaaW.PrintLast Go.Proofs.YtpjgmlnnhcnelaaW.PrintMore
open Go.Proofs.YtpjgmlnnhcnelaaW.PrintWords renaming blk_drewN → bN, blk_drew → bd, blk_alloc → ba, blk_frozen → bf, blk_cell → bc, cell_far → cf, blk_far → bF, blk_put → bp
open Aside0 renaming mk → am
open World renaming block_lt_of_cell? → bq
attribute [local go_sem] max2_int min2_int max_two min_two max_three min_three max_four min_four
set_option linter.unusedVariables false
set_option linter.unusedSimpArgs false

mutual
def shift_Check.j0 : Nat → Bool → List (S54) → List Int → Option (Int)
 | 0, _, _, _ => none
 | k + 1, x17, x109000, x109001 => if x17 = true then (some 7) else ((api_Shift.f x109000 41).bind fun t109 => (if t109 = true then (shift_Check.j1 k true x109000 x109001) else ((slices_ContainsFunc_int_int.f x109001 45).bind fun t110 => (shift_Check.j1 k t110 x109000 x109001))))
def shift_Check.j1 : Nat → Bool → List (S54) → List Int → Option (Int)
 | 0, _, _, _ => none
 | k + 1, x26, x109000, x109001 => if x26 = true then (some 6) else (shift_Check.l0 k 1 x109000 x109001)
def shift_Check.l0 : Nat → Int → List (S54) → List Int → Option (Int)
 | 0, _, _, _ => none
 | k + 1, x4, x109000, x109001 => if x4 < (x109000.length : Int) then (if 0 ≤ (wrap64 (x4 - 1)) then (if (wrap64 (x4 - 1)) < (x109000.length : Int) then (if 0 ≤ x4 then (if ((rd_T54 x109000 (wrap64 (x4 - 1))).f0) > ((rd_T54 x109000 x4).f0) then (shift_Check.j3 k x4 true x109000 x109001) else (if ((rd_T54 x109000 (wrap64 (x4 - 1))).f0) = ((rd_T54 x109000 x4).f0) then (shift_Check.j3 k x4 (decide (((rd_T54 x109000 (wrap64 (x4 - 1))).f2) > ((rd_T54 x109000 x4).f1))) x109000 x109001) else (shift_Check.j3 k x4 false x109000 x109001))) else (none)) else (none)) else (none)) else (shift_Check.l1 k 1 x109000 x109001)
def shift_Check.j3 : Nat → Int → Bool → List (S54) → List Int → Option (Int)
 | 0, _, _, _, _ => none
 | k + 1, x4, x63, x109000, x109001 => if x63 = true then (some 5) else (shift_Check.l0 k (wrap64 (x4 + 1)) x109000 x109001)
def shift_Check.l1 : Nat → Int → List (S54) → List Int → Option (Int)
 | 0, _, _, _ => none
 | k + 1, x7, x109000, x109001 => if x7 < (x109001.length : Int) then (if 0 ≤ (wrap64 (x7 - 1)) then (if (wrap64 (x7 - 1)) < (x109001.length : Int) then (if 0 ≤ x7 then (if (rd x109001 (wrap64 (x7 - 1))) ≥ (rd x109001 x7) then (some 5) else (shift_Check.l1 k (wrap64 (x7 + 1)) x109000 x109001)) else (none)) else (none)) else (none)) else (some 0)
end
def shift_Check.f (k : Nat) (l0_0 : List (S54)) (l0_1 : List Int) : Option (Int) := if (l0_0.length : Int) > 64 then (shift_Check.j0 k true l0_0 l0_1) else (shift_Check.j0 k (decide ((l0_1.length : Int) > 64)) l0_0 l0_1)
def shift_Check.T9 : Bool × List (List Nat × List Nat) := (true, [([], []), ([0], [0]), ([], []), ([2], [2]), ([1, 3], [1, 3]), ([4], [4]), ([], []), ([6], [6]), ([], []), ([7, 8], [7, 8]), ([9], [9]), ([], []), ([], []), ([11, 5, 0, 1, 2, 3, 4, 5, 11, 12], [5, 11]), ([12, 10, 13, 0, 1, 2, 3, 4, 5, 6, 7, 8, 9, 10, 11, 12, 13], [10, 12])])
def shift_Check.B9 : List Nat := [0, 1, 0, 4, 15, 31, 0, 64, 0, 448, 960, 0, 0, 6207, 16383]
theorem shift_Check.tab9 : rtab .any (opsOf Try.f29 9) = shift_Check.T9 := by kernel_rfl
theorem shift_Check.bits9 : waitsOk shift_Check.T9.2 shift_Check.B9 = true := by kernel_rfl
def shift_Check.T15 : Bool × List (List Nat × List Nat) := (true, [([], []), ([0], [0]), ([], []), ([2], [2]), ([1, 3], [1, 3]), ([4], [4]), ([], []), ([6], [6]), ([], []), ([7, 8], [7, 8]), ([9], [9]), ([5, 10], [5, 10])])
def shift_Check.B15 : List Nat := [0, 1, 0, 4, 15, 31, 0, 64, 0, 448, 960, 2047]
theorem shift_Check.tab15 : rtab .any (opsOf Try.f29 15) = shift_Check.T15 := by kernel_rfl
theorem shift_Check.bits15 : waitsOk shift_Check.T15.2 shift_Check.B15 = true := by kernel_rfl
set_option maxHeartbeats 8000000 in
set_option maxRecDepth 100000 in
theorem shift_Check.calls (k : Nat) (A0_0 : Option Addr) (c0_0 : Nat) (l0_0 : List (S54)) (A0_1 : Option Addr) (c0_1 : Nat) (l0_1 : List Int) (r : Int) (w : World) (hr0_0 : Kd.C k54 w A0_0 l0_0.length l0_0) (hc0_0 : l0_0.length ≤ c0_0) (hr0_1 : Kd.C (Kd.int .i64) w A0_1 l0_1.length l0_1) (hc0_1 : l0_1.length ≤ c0_1) (h : shift_Check.f k l0_0 l0_1 = some r) :
  Calls Try.prog 29 #[.agg #[.slice A0_0 l0_0.length c0_0, .slice A0_1 l0_1.length c0_1]] w fun e w' => e = .returned (.int .i64 r) ∧ Below w.heap.size w w' := by
 have hu31 := Try.underlying31
 have hu54 := Try.underlying54
 have HR0_0 := am hr0_0
 have HC0_0 := am hc0_0
 clear hr0_0 hc0_0
 have HR0_1 := am hr0_1
 have HC0_1 := am hc0_1
 clear hr0_1 hc0_1
 have HB := am (Below.refl w.heap.size w)
 have H : (if (l0_0.length : Int) > 64 then (shift_Check.j0 k true l0_0 l0_1) else (shift_Check.j0 k (decide ((l0_1.length : Int) > 64)) l0_0 l0_1)) = some r := h
 clear h
 have HC2 := am H
 clear H
 go_enter Try.func29, Try.ntmps29
 go_upto_region 1 with (first | ((with_reducible refine gate_dst (N := 1) rfl ?_); (try (refine gate_guard (by rfl) ?_; dsimp only)); refine box_event ?hg (N := 1) ?hd (cs := #[.slice A0_0 l0_0.length c0_0, .slice A0_1 l0_1.length c0_1]) (t := 31) ?hr ?_; (case hd | hg => rfl); (case hr => first | (go_simp; done) | (go_simp; rfl)); intro gb108 hg w3 hbox hb; have BK108 := am hbox; have GW108 := sG HB hg; have GE108 := sG HB hg; replace HB := bS HB hb; clear hb hbox hg))
 (try simp only [Act.put, psl])
 go_cut [17] (fun v17 wc => ∃ (kq : Nat) (x17_1 : Bool), v17 = .bool x17_1 ∧ Aside0 (shift_Check.j0 kq x17_1 l0_0 l0_1 = some r) ∧ Aside0 (kq ≤ k) ∧ Aside0 (wc.heap[gb108]? = some (.cells #[(.slice A0_0 l0_0.length c0_0), (.slice A0_1 l0_1.length c0_1)] 31 (0, 0))) ∧ Aside0 (Below w.heap.size w wc))
 case first =>
  have H := HC2.out
  clear HC2
  by_cases c4 : (l0_0.length : Int) > 64
  ·rw [if_pos c4] at H
   have c4b0 : decide (64 < (l0_0.length : Int)) = true := decide_eq_true c4
   have c4b1 : decide (64 < l0_0.length) = true := decide_eq_true (by omega)
   clear c4
   (first | rw [c4b0] | (simp only [i64_w, i32_w]; rw [c4b0]) | skip)
   have H' := am H
   clear H
   have := yC1 BK108
   have := kC1 BK108
   have := bf BK108.out 0
   have := bf BK108.out 1
   go_wp2
   go_meet
   case rel => exact ⟨_, (true), sqD, H', ⟨by first | omega | exact Nat.le_refl _⟩, ⟨fb BK108.out⟩, ⟨fW HB.out⟩⟩
  rw [if_neg c4] at H
  have c4b0 : decide (64 < (l0_0.length : Int)) = false := decide_eq_false c4
  have c4b1 : decide (64 < l0_0.length) = false := decide_eq_false (by omega)
  clear c4
  (first | rw [c4b0] | (simp only [i64_w, i32_w]; rw [c4b0]) | skip)
  have H' := am H
  clear H
  have := yC1 BK108
  have := kC1 BK108
  have := bf BK108.out 0
  have := bf BK108.out 1
  go_wp2
  go_meet
  case rel => exact ⟨_, (decide ((l0_1.length : Int) > 64)), sqD, H', ⟨by first | omega | exact Nat.le_refl _⟩, ⟨fb BK108.out⟩, ⟨fW HB.out⟩⟩
 case rest =>
  clear HC2
  try clear c2;try clear p2;try clear c4;try clear c4b0;try clear c4b1
  obtain ⟨kq, x17_1, rfl, HA, HJ1, BK108, HB⟩ := hcut
  cases kq with
  | zero => exact absurd HA.out (by simp [shift_Check.j0])
  | succ kj1 =>
   have H := HA.out
   clear HA
   simp only [shift_Check.j0] at H
   by_cases c7 : x17_1 = true
   ·subst c7
    have H1 : (some 7) = some r := by rw [if_pos rfl] at H; exact H
    clear H
    have H := H1
    clear H1
    obtain rfl := Option.some.inj H
    go_wp2
    go_ret
    exact ⟨sqE, fW HB.out⟩
   ·replace c7 := Bool.eq_false_iff.mpr c7
    subst c7
    have H1 : ((api_Shift.f l0_0 41).bind fun t109 => (if t109 = true then (shift_Check.j1 kj1 true l0_0 l0_1) else ((slices_ContainsFunc_int_int.f l0_1 45).bind fun t110 => (shift_Check.j1 kj1 t110 l0_0 l0_1)))) = some r := by rw [if_neg (show ¬ (false = true) by decide)] at H; exact H
    clear H
    have H := H1
    clear H1
    have HC8 := am H
    clear H
    go_upto_region 4 with (fail)
    go_cut [26] (fun v26 wc => ∃ (kq : Nat) (x26_7 : Bool), v26 = .bool x26_7 ∧ Aside0 (shift_Check.j1 kq x26_7 l0_0 l0_1 = some r) ∧ Aside0 (kq ≤ kj1) ∧ Aside0 (wc.heap[gb108]? = some (.cells #[(.slice A0_0 l0_0.length c0_0), (.slice A0_1 l0_1.length c0_1)] 31 (0, 0))) ∧ Aside0 (Below w.heap.size w wc))
    case first =>
     have H := HC8.out
     clear HC8
     replace H := Option.bind_eq_some_iff.mp H
     obtain ⟨t109, A90, H⟩ := H
     replace H : (if t109 = true then (shift_Check.j1 kj1 true l0_0 l0_1) else ((slices_ContainsFunc_int_int.f l0_1 45).bind fun t110 => (shift_Check.j1 kj1 t110 l0_0 l0_1))) = some r := H
     have A9 := am A90
     clear A90
     by_cases c10 : t109 = true
     ·subst c10
      have H1 : (shift_Check.j1 kj1 true l0_0 l0_1) = some r := by rw [if_pos rfl] at H; exact H
      clear H
      have H := H1
      clear H1
      have H' := am H
      clear H
      have := yC1 BK108
      have := kC1 BK108
      have := bf BK108.out 0
      have := bf BK108.out 1
      go_wp2_with (first | ((with_reducible refine gate_callee (f := 43) rfl ?_); refine goesL_ (some 21) rfl rfl Try.func43 (by kernel_rfl) rfl #[.slice A0_0 l0_0.length c0_0, .func (.func 41) #[] #[]] rfl (by (try simp only [pml]); first | done | rfl | (simp only [pdt]; rfl)) ?_; (with_reducible refine (api_Shift.calls _ _ l0_0 41 true _ ?side1 ?side2 A9.out).mono ?_); (case side1 => repeat (first | exact (Kd.C_below HR0_0.out HB.out) | (with_reducible refine Kd.C_alloc ?_ _) | (with_reducible refine Kd.C_drewN ?_ _) | (with_reducible refine Kd.C_drew ?_))); (case side2 => exact HC0_0.out); rintro e w12 ⟨rfl, hb⟩; refine ⟨_, rfl, ?_⟩; replace BK108 := bB BK108 hb; replace HB := bS HB hb; (try clear hb); (try clear hb2); (try clear hk); (try clear hi)))
      go_meet
      case rel => exact ⟨_, (true), sqD, H', ⟨by have := HJ1.out; first | omega | exact Nat.le_refl _⟩, ⟨fb BK108.out⟩, ⟨fW HB.out⟩⟩
     replace c10 := Bool.eq_false_iff.mpr c10
     subst c10
     have H1 : ((slices_ContainsFunc_int_int.f l0_1 45).bind fun t110 => (shift_Check.j1 kj1 t110 l0_0 l0_1)) = some r := by rw [if_neg (show ¬ (false = true) by decide)] at H; exact H
     clear H
     have H := H1
     clear H1
     replace H := Option.bind_eq_some_iff.mp H
     obtain ⟨t110, A130, H⟩ := H
     replace H : (shift_Check.j1 kj1 t110 l0_0 l0_1) = some r := H
     have A13 := am A130
     clear A130
     have H' := am H
     clear H
     have := yC1 BK108
     have := kC1 BK108
     have := bf BK108.out 0
     have := bf BK108.out 1
     go_wp2_with (first | ((with_reducible refine gate_callee (f := 43) rfl ?_); refine goesL_ (some 21) rfl rfl Try.func43 (by kernel_rfl) rfl #[.slice A0_0 l0_0.length c0_0, .func (.func 41) #[] #[]] rfl (by (try simp only [pml]); first | done | rfl | (simp only [pdt]; rfl)) ?_; (with_reducible refine (api_Shift.calls _ _ l0_0 41 false _ ?side1 ?side2 A9.out).mono ?_); (case side1 => repeat (first | exact (Kd.C_below HR0_0.out HB.out) | (with_reducible refine Kd.C_alloc ?_ _) | (with_reducible refine Kd.C_drewN ?_ _) | (with_reducible refine Kd.C_drew ?_))); (case side2 => exact HC0_0.out); rintro e w15 ⟨rfl, hb⟩; refine ⟨_, rfl, ?_⟩; replace BK108 := bB BK108 hb; replace HB := bS HB hb; (try clear hb); (try clear hb2); (try clear hk); (try clear hi); obtain ⟨_, _, _, _⟩ := zC2 BK108) | (go_at_call 44; (with_reducible refine (slices_ContainsFunc_int_int.calls _ _ l0_1 45 t110 _ ?side1 ?side2 A13.out).mono ?_); (case side1 => repeat (first | exact (Kd.C_below HR0_1.out HB.out) | (with_reducible refine Kd.C_alloc ?_ _) | (with_reducible refine Kd.C_drewN ?_ _) | (with_reducible refine Kd.C_drew ?_))); (case side2 => exact HC0_1.out); rintro e w17 ⟨rfl, hb⟩; replace BK108 := bB BK108 hb; replace HB := bS HB hb; (try clear hb); (try clear hb2); (try clear hk); (try clear hi)))
     go_meet
     case rel => exact ⟨_, (t110), sqD, H', ⟨by have := HJ1.out; first | omega | exact Nat.le_refl _⟩, ⟨fb BK108.out⟩, ⟨fW HB.out⟩⟩
    case rest =>
     clear HC8
     try clear c1;try clear c2;try clear p2;try clear c4;try clear c4b0;try clear c4b1;try clear c7;try clear c10;try clear p2
     obtain ⟨kq, x26_7, rfl, HA, HJ7, BK108, HB⟩ := hcut
     cases kq with
     | zero => exact absurd HA.out (by simp [shift_Check.j1])
     | succ kj7 =>
      have H := HA.out
      clear HA
      simp only [shift_Check.j1] at H
      by_cases c18 : x26_7 = true
      ·subst c18
       have H1 : (some 6) = some r := by rw [if_pos rfl] at H; exact H
       clear H
       have H := H1
       clear H1
       obtain rfl := Option.some.inj H
       go_wp2
       go_ret
       exact ⟨sqE, fW HB.out⟩
      ·replace c18 := Bool.eq_false_iff.mpr c18
       subst c18
       have H1 : (shift_Check.l0 kj7 1 l0_0 l0_1) = some r := by rw [if_neg (show ¬ (false = true) by decide)] at H; exact H
       clear H
       have H := H1
       clear H1
       have H' := am H
       clear H
       go_wp2
       go_loopg [4] kj7 (fun kq v4 w' => ∃ (x4_3 : Int), v4 = .int .i64 x4_3 ∧ Aside0 (shift_Check.l0 kq x4_3 l0_0 l0_1 = some r) ∧ Aside0 (kq ≤ kj7) ∧ Aside0 (w'.heap[gb108]? = some (.cells #[(.slice A0_0 l0_0.length c0_0), (.slice A0_1 l0_1.length c0_1)] 31 (0, 0))) ∧ Aside0 (Below w.heap.size w w'))
       case atStart => exact ⟨(1), sqD, H', ⟨Nat.le_refl _⟩, ⟨fb BK108.out⟩, ⟨fW HB.out⟩⟩
       case round =>
        clear H'
        try clear c1;try clear c2;try clear p2;try clear c4;try clear c4b0;try clear c4b1;try clear c7;try clear c10;try clear c18;try clear p2
        obtain ⟨x4_3, rfl, HA, HK3, BK108, HB⟩ := hrel
        cases gk with
        | zero => exact absurd HA.out (by simp [shift_Check.l0])
        | succ k3 =>
         have H := HA.out
         clear HA
         simp only [shift_Check.l0] at H
         by_cases c19 : x4_3 < (l0_0.length : Int)
         ·rw [if_pos c19] at H
          have c19b0 : decide (x4_3 < (l0_0.length : Int)) = true := decide_eq_true c19
          clear c19
          obtain ⟨ji20, hji20⟩ : ∃ j_ : Int, (wrap64 (x4_3 - 1)) = j_ := ⟨_, rfl⟩
          replace H : (if 0 ≤ (ji20) then (if (ji20) < (l0_0.length : Int) then (if 0 ≤ x4_3 then (if ((rd_T54 l0_0 (ji20)).f0) > ((rd_T54 l0_0 x4_3).f0) then (shift_Check.j3 k3 x4_3 true l0_0 l0_1) else (if ((rd_T54 l0_0 (ji20)).f0) = ((rd_T54 l0_0 x4_3).f0) then (shift_Check.j3 k3 x4_3 (decide (((rd_T54 l0_0 (ji20)).f2) > ((rd_T54 l0_0 x4_3).f1))) l0_0 l0_1) else (shift_Check.j3 k3 x4_3 false l0_0 l0_1))) else (none)) else (none)) else (none)) = some r := by first | (rw [hji20] at H; exact H) | (simp only [hji20] at H ⊢; exact H)
          have hji20w : (IntKind.i64.wrap (x4_3 - 1)) = ji20 := (i64_w _).trans hji20
          by_cases c21 : 0 ≤ (ji20)
          rotate_left
          ·rw [if_neg c21] at H
           exact absurd H (by simp)
          rw [if_pos c21] at H
          have c21b0 : decide (0 ≤ (ji20)) = true := decide_eq_true c21
          clear c21
          by_cases c22 : (ji20) < (l0_0.length : Int)
          rotate_left
          ·rw [if_neg c22] at H
           exact absurd H (by simp)
          rw [if_pos c22] at H
          have c22b0 : decide ((ji20) < (l0_0.length : Int)) = true := decide_eq_true c22
          clear c22
          by_cases c23 : 0 ≤ x4_3
          rotate_left
          ·rw [if_neg c23] at H
           exact absurd H (by simp)
          rw [if_pos c23] at H
          have c23b0 : decide (0 ≤ x4_3) = true := decide_eq_true c23
          clear c23
          have HC24 := am H
          clear H
          have := yC1 BK108
          have := kC1 BK108
          have := bf BK108.out 0
          have := bf BK108.out 1
          try go_wp2
          have n0_ := am (bd BK108.out)
          have n1_ := am (below_drew1 HB.out)
          clear BK108 HB
          have BK108 := n0_
          have HB := n1_
          clear n0_ n1_
          have p111 : 0 ≤ ((ji20) : Int) := of_decide_eq_true (by assumption)
          have q111 : (ji20) < (l0_0.length : Int) := of_decide_eq_true (by assumption)
          obtain ⟨ad111, e111, hx111_0, hx111_1, hx111_2⟩ := at_T54 HR0_0.out (ji20) p111 q111
          have hw111_2 := hx111_2
          have hw111_1 := hx111_1
          have hw111_0 := hx111_0
          cases e111
          replace hx111_0 := cl HB hx111_0
          replace hx111_1 := cl HB hx111_1
          replace hx111_2 := cl HB hx111_2
          replace p111 := eq_true p111
          replace q111 := eq_true q111
          have p112 : 0 ≤ (x4_3 : Int) := of_decide_eq_true (by assumption)
          have q112 : x4_3 < (l0_0.length : Int) := of_decide_eq_true (by assumption)
          obtain ⟨ad112, e112, hx112_0, hx112_1, hx112_2⟩ := at_T54 HR0_0.out x4_3 p112 q112
          have hw112_2 := hx112_2
          have hw112_1 := hx112_1
          have hw112_0 := hx112_0
          obtain rfl : ad111 = ad112 := (by injection e112)
          replace hx112_0 := cl HB hx112_0
          replace hx112_1 := cl HB hx112_1
          replace hx112_2 := cl HB hx112_2
          replace p112 := eq_true p112
          replace q112 := eq_true q112
          refine start_ (n := 15) (S := fun w' => w'.cell? ⟨gb108, 0, none⟩ = some (.slice (some ad111) l0_0.length c0_0) ∧ w'.cell? ⟨gb108, 1, none⟩ = some (.slice A0_1 l0_1.length c0_1) ∧ w'.cell? (ad111.add (((ji20)).toNat * 3)) = some (.int .i64 ((rd_T54 l0_0 (ji20)).f0)) ∧ w'.cell? ⟨(ad111.add (((ji20)).toNat * 3)).block, (ad111.add (((ji20)).toNat * 3)).off + 1, none⟩ = some (.int .i64 ((rd_T54 l0_0 (ji20)).f1)) ∧ w'.cell? ⟨(ad111.add (((ji20)).toNat * 3)).block, (ad111.add (((ji20)).toNat * 3)).off + 2, none⟩ = some (.int .i64 ((rd_T54 l0_0 (ji20)).f2)) ∧ w'.cell? (ad111.add ((x4_3).toNat * 3)) = some (.int .i64 ((rd_T54 l0_0 x4_3).f0)) ∧ w'.cell? ⟨(ad111.add ((x4_3).toNat * 3)).block, (ad111.add ((x4_3).toNat * 3)).off + 1, none⟩ = some (.int .i64 ((rd_T54 l0_0 x4_3).f1)) ∧ w'.cell? ⟨(ad111.add ((x4_3).toNat * 3)).block, (ad111.add ((x4_3).toNat * 3)).off + 2, none⟩ = some (.int .i64 ((rd_T54 l0_0 x4_3).f2))) (ds := []) #[F,F,F,F,F,F,F,F,F,F,F,F,F,F,F] (by kernel_rfl) rfl rfl ⟨(bc BK108.out 0).trans rfl, (bc BK108.out 1).trans rfl, ((HB.out.cell (bq w _ hw111_0)).trans hw111_0), ((HB.out.cell (bq w _ hw111_1)).trans hw111_1), ((HB.out.cell (bq w _ hw111_2)).trans hw111_2), ((HB.out.cell (bq w _ hw112_0)).trans hw112_0), ((HB.out.cell (bq w _ hw112_1)).trans hw112_1), ((HB.out.cell (bq w _ hw112_2)).trans hw112_2)⟩ (fun hHeld => ?_); refine with_tabW shift_Check.tab9 shift_Check.bits9 (fun HT_ HW_ => ?_)
          generalize wr.drew = w26 at BK108 HB hx111_0 hx111_1 hx111_2 hx112_0 hx112_1 hx112_2 hHeld ⊢
          refine pu (i := 0) (N := some 34) (fl 15 1 []) HT_ ?_
          refine pu (i := 2) (N := some 36) (fl 15 1 [2]) HT_ ?_
          refine pu (i := 3) (N := some 37) (fl 15 1 [2, 3]) HT_ ?_
          refine pu (i := 6) (N := some 40) (fl 15 1 [2, 3, 6]) HT_ ?_
          refine pu (i := 8) (N := some 42) (fl 15 1 [2, 3, 6, 8]) HT_ ?_
          refine tk (i := 1) (N := some 35) (fl 15 4 [6, 8]) HT_ HW_ hHeld ?_
          refine pu (i := 4) (N := some 38) (fl 15 5 [6, 8]) HT_ ?_
          refine tk (i := 5) (N := some 39) (fl 15 7 [8]) HT_ HW_ hHeld ?_
          refine tk (i := 7) (N := some 41) (fl 15 9 []) HT_ HW_ hHeld ?_
          refine pu (i := 9) (N := some 43) (fl 15 10 []) HT_ ?_
          refine tk (i := 10) (N := some 44) (fl 15 11 []) HT_ HW_ hHeld ?_
          refine join_ (σ := Nat × Nat) 2 #[T,T,T,T,T,T,T,T,T,T,T,T,T,F,F] (fun s_ => [(5, .pointer (some ⟨s_.1, 0, none⟩)), (6, .pointer (some ⟨s_.2, 0, none⟩))]) (fun s_ w' => (w'.cell? ⟨gb108, 0, none⟩ = some (.slice (some ad111) l0_0.length c0_0) ∧ w'.cell? ⟨gb108, 1, none⟩ = some (.slice A0_1 l0_1.length c0_1) ∧ w'.cell? (ad111.add (((ji20)).toNat * 3)) = some (.int .i64 ((rd_T54 l0_0 (ji20)).f0)) ∧ w'.cell? ⟨(ad111.add (((ji20)).toNat * 3)).block, (ad111.add (((ji20)).toNat * 3)).off + 1, none⟩ = some (.int .i64 ((rd_T54 l0_0 (ji20)).f1)) ∧ w'.cell? ⟨(ad111.add (((ji20)).toNat * 3)).block, (ad111.add (((ji20)).toNat * 3)).off + 2, none⟩ = some (.int .i64 ((rd_T54 l0_0 (ji20)).f2)) ∧ w'.cell? (ad111.add ((x4_3).toNat * 3)) = some (.int .i64 ((rd_T54 l0_0 x4_3).f0)) ∧ w'.cell? ⟨(ad111.add ((x4_3).toNat * 3)).block, (ad111.add ((x4_3).toNat * 3)).off + 1, none⟩ = some (.int .i64 ((rd_T54 l0_0 x4_3).f1)) ∧ w'.cell? ⟨(ad111.add ((x4_3).toNat * 3)).block, (ad111.add ((x4_3).toNat * 3)).off + 2, none⟩ = some (.int .i64 ((rd_T54 l0_0 x4_3).f2))) ∧ (w'.heap[gb108]? = some (.cells #[.slice (some ad111) l0_0.length c0_0, .slice A0_1 l0_1.length c0_1] 31 (0, 0))) ∧ (w'.heap[s_.1]? = some (.cells #[.int .i64 0, .int .i64 0, .int .i64 0] 54 (0, 0))) ∧ (w'.heap[s_.2]? = some (.cells #[.int .i64 0, .int .i64 0, .int .i64 0] 54 (0, 0))) ∧ (w.heap.size ≤ s_.1) ∧ (w.heap.size ≤ s_.1) ∧ (gb108 ≠ s_.1) ∧ (s_.1 ≠ gb108) ∧ (s_.2 ≠ s_.1) ∧ (s_.1 ≠ s_.2) ∧ (w.heap.size ≤ s_.2) ∧ (w.heap.size ≤ s_.2) ∧ (gb108 ≠ s_.2) ∧ (s_.2 ≠ gb108) ∧ (Below w.heap.size w w')) ?_ ?_
          rotate_left
          ·intro hCont
           refine two_ (i := 11) (j := 12) (Ni := some 5) (Nj := some 6) #[T,T,T,T,T,T,T,T,T,T,T,T,F,F,F] (fl 15 11 [12]) rfl rfl rfl rfl (two_of HT_.out (by kernel_rfl)) (by decide) (by decide) (fun K hK => ?_) (fun K hK => ?_)
           ·skip
            refine box_step ?hg (N := 5) ?hd (cs := #[.int .i64 0, .int .i64 0, .int .i64 0]) (t := 54) ?hr ?_; (case hd | hg => rfl); (case hr => first | (go_simp; done) | (go_simp; rfl))
            intro gb113 hg w27 hbox hb
            have n0_ := bB BK108 hb
            have n1_ := bS HB hb
            have n2_ := am hbox
            have n3_ := sG HB hg
            have n4_ := sG HB hg
            have n5_ := nL BK108 hg
            have n6_ := nG BK108 hg
            clear BK108 HB
            have BK108 := n0_
            have HB := n1_
            have BK113 := n2_
            have GW113 := n3_
            have GE113 := n4_
            have NB108_113 := n5_
            have NB113_108 := n6_
            clear n0_ n1_ n2_ n3_ n4_ n5_ n6_ hb hbox hg
            refine hK.out _ _ ⟨(bc BK108.out 0).trans rfl, (bc BK108.out 1).trans rfl, ((HB.out.cell (bq w _ hw111_0)).trans hw111_0), ((HB.out.cell (bq w _ hw111_1)).trans hw111_1), ((HB.out.cell (bq w _ hw111_2)).trans hw111_2), ((HB.out.cell (bq w _ hw112_0)).trans hw112_0), ((HB.out.cell (bq w _ hw112_1)).trans hw112_1), ((HB.out.cell (bq w _ hw112_2)).trans hw112_2)⟩ (fun hHeld => ?_)
            clear hK K
            refine norm_ (a' := ?_) ?_ ?_
            rotate_left
            ·show Act.put _ (some 5) _ = _
             simp only [Act.put, psl, i64_w, i32_w]
             rfl
            refine one_ (i := 12) (N := some 6) (fl 15 13 []) rfl rfl (one_of HT_.out (by kernel_rfl)) (by decide) (fun K hK => ?_)
            refine box_step ?hg (N := 6) ?hd (cs := #[.int .i64 0, .int .i64 0, .int .i64 0]) (t := 54) ?hr ?_; (case hd | hg => rfl); (case hr => first | (go_simp; done) | (go_simp; rfl))
            intro gb114 hg w28 hbox hb
            have n0_ := bB BK108 hb
            have n1_ := bB BK113 hb
            have n2_ := bS HB hb
            have n3_ := am hbox
            have n4_ := sG HB hg
            have n5_ := sG HB hg
            have n6_ := nL BK108 hg
            have n7_ := nG BK108 hg
            have n8_ := nL BK113 hg
            have n9_ := nG BK113 hg
            clear BK108 BK113 HB
            have BK108 := n0_
            have BK113 := n1_
            have HB := n2_
            have BK114 := n3_
            have GW114 := n4_
            have GE114 := n5_
            have NB108_114 := n6_
            have NB114_108 := n7_
            have NB113_114 := n8_
            have NB114_113 := n9_
            clear n0_ n1_ n2_ n3_ n4_ n5_ n6_ n7_ n8_ n9_ hb hbox hg
            refine hK.out _ _ ⟨(bc BK108.out 0).trans rfl, (bc BK108.out 1).trans rfl, ((HB.out.cell (bq w _ hw111_0)).trans hw111_0), ((HB.out.cell (bq w _ hw111_1)).trans hw111_1), ((HB.out.cell (bq w _ hw111_2)).trans hw111_2), ((HB.out.cell (bq w _ hw112_0)).trans hw112_0), ((HB.out.cell (bq w _ hw112_1)).trans hw112_1), ((HB.out.cell (bq w _ hw112_2)).trans hw112_2)⟩ (fun hHeld => ?_)
            clear hK K
            refine norm_ (a' := ?_) ?_ ?_
            rotate_left
            ·show Act.put _ (some 6) _ = _
             simp only [Act.put, psl, i64_w, i32_w]
             rfl
            exact norm_ (by simp only [putAll, Act.put, psl]) (hCont (gb113, gb114) _ ⟨hHeld, (fb BK108.out), (fb BK113.out), (fb BK114.out), GW113.out, GE113.out, NB108_113.out, NB113_108.out, NB114_113.out, NB113_114.out, GW114.out, GE114.out, NB108_114.out, NB114_108.out, (fW HB.out)⟩)
           skip
           refine box_step ?hg (N := 6) ?hd (cs := #[.int .i64 0, .int .i64 0, .int .i64 0]) (t := 54) ?hr ?_; (case hd | hg => rfl); (case hr => first | (go_simp; done) | (go_simp; rfl))
           intro gb114 hg w27 hbox hb
           have n0_ := bB BK108 hb
           have n1_ := bS HB hb
           have n2_ := am hbox
           have n3_ := sG HB hg
           have n4_ := sG HB hg
           have n5_ := nL BK108 hg
           have n6_ := nG BK108 hg
           clear BK108 HB
           have BK108 := n0_
           have HB := n1_
           have BK114 := n2_
           have GW114 := n3_
           have GE114 := n4_
           have NB108_114 := n5_
           have NB114_108 := n6_
           clear n0_ n1_ n2_ n3_ n4_ n5_ n6_ hb hbox hg
           refine hK.out _ _ ⟨(bc BK108.out 0).trans rfl, (bc BK108.out 1).trans rfl, ((HB.out.cell (bq w _ hw111_0)).trans hw111_0), ((HB.out.cell (bq w _ hw111_1)).trans hw111_1), ((HB.out.cell (bq w _ hw111_2)).trans hw111_2), ((HB.out.cell (bq w _ hw112_0)).trans hw112_0), ((HB.out.cell (bq w _ hw112_1)).trans hw112_1), ((HB.out.cell (bq w _ hw112_2)).trans hw112_2)⟩ (fun hHeld => ?_)
           clear hK K
           refine norm_ (a' := ?_) ?_ ?_
           rotate_left
           ·show Act.put _ (some 6) _ = _
            simp only [Act.put, psl, i64_w, i32_w]
            rfl
           refine one_ (i := 11) (N := some 5) (fl 15 13 []) rfl rfl (one_of HT_.out (by kernel_rfl)) (by decide) (fun K hK => ?_)
           refine box_step ?hg (N := 5) ?hd (cs := #[.int .i64 0, .int .i64 0, .int .i64 0]) (t := 54) ?hr ?_; (case hd | hg => rfl); (case hr => first | (go_simp; done) | (go_simp; rfl))
           intro gb113 hg w28 hbox hb
           have n0_ := bB BK108 hb
           have n1_ := bB BK114 hb
           have n2_ := bS HB hb
           have n3_ := am hbox
           have n4_ := sG HB hg
           have n5_ := sG HB hg
           have n6_ := nL BK108 hg
           have n7_ := nG BK108 hg
           have n8_ := nL BK114 hg
           have n9_ := nG BK114 hg
           clear BK108 BK114 HB
           have BK108 := n0_
           have BK114 := n1_
           have HB := n2_
           have BK113 := n3_
           have GW113 := n4_
           have GE113 := n5_
           have NB108_113 := n6_
           have NB113_108 := n7_
           have NB114_113 := n8_
           have NB113_114 := n9_
           clear n0_ n1_ n2_ n3_ n4_ n5_ n6_ n7_ n8_ n9_ hb hbox hg
           refine hK.out _ _ ⟨(bc BK108.out 0).trans rfl, (bc BK108.out 1).trans rfl, ((HB.out.cell (bq w _ hw111_0)).trans hw111_0), ((HB.out.cell (bq w _ hw111_1)).trans hw111_1), ((HB.out.cell (bq w _ hw111_2)).trans hw111_2), ((HB.out.cell (bq w _ hw112_0)).trans hw112_0), ((HB.out.cell (bq w _ hw112_1)).trans hw112_1), ((HB.out.cell (bq w _ hw112_2)).trans hw112_2)⟩ (fun hHeld => ?_)
           clear hK K
           refine norm_ (a' := ?_) ?_ ?_
           rotate_left
           ·show Act.put _ (some 5) _ = _
            simp only [Act.put, psl, i64_w, i32_w]
            rfl
           exact norm_ (by simp only [putAll, Act.put, psl]) (hCont (gb113, gb114) _ ⟨hHeld, (fb BK108.out), (fb BK113.out), (fb BK114.out), GW113.out, GE113.out, NB108_113.out, NB113_108.out, NB114_113.out, NB113_114.out, GW114.out, GE114.out, NB108_114.out, NB114_108.out, (fW HB.out)⟩)
          rintro ⟨gb113, gb114⟩ w29 ⟨hS_, h0_, h1_, h2_, h3_, h4_, h5_, h6_, h7_, h8_, h9_, h10_, h11_, h12_, h13_⟩
          have n0_ : Aside0 (w29.heap[gb108]? = some (.cells #[.slice (some ad111) l0_0.length c0_0, .slice A0_1 l0_1.length c0_1] 31 (0, 0))) := ⟨h0_⟩
          have n1_ : Aside0 (w29.heap[gb113]? = some (.cells #[.int .i64 0, .int .i64 0, .int .i64 0] 54 (0, 0))) := ⟨h1_⟩
          have n2_ : Aside0 (w29.heap[gb114]? = some (.cells #[.int .i64 0, .int .i64 0, .int .i64 0] 54 (0, 0))) := ⟨h2_⟩
          have n3_ : Aside0 (w.heap.size ≤ gb113) := ⟨h3_⟩
          have n4_ : Aside0 (w.heap.size ≤ gb113) := ⟨h4_⟩
          have n5_ : Aside0 (gb108 ≠ gb113) := ⟨h5_⟩
          have n6_ : Aside0 (gb113 ≠ gb108) := ⟨h6_⟩
          have n7_ : Aside0 (gb114 ≠ gb113) := ⟨h7_⟩
          have n8_ : Aside0 (gb113 ≠ gb114) := ⟨h8_⟩
          have n9_ : Aside0 (w.heap.size ≤ gb114) := ⟨h9_⟩
          have n10_ : Aside0 (w.heap.size ≤ gb114) := ⟨h10_⟩
          have n11_ : Aside0 (gb108 ≠ gb114) := ⟨h11_⟩
          have n12_ : Aside0 (gb114 ≠ gb108) := ⟨h12_⟩
          have n13_ : Aside0 (Below w.heap.size w w29) := ⟨h13_⟩
          clear BK108 HB h0_ h1_ h2_ h3_ h4_ h5_ h6_ h7_ h8_ h9_ h10_ h11_ h12_ h13_
          have BK108 := n0_
          have BK113 := n1_
          have BK114 := n2_
          have GW113 := n3_
          have GE113 := n4_
          have NB108_113 := n5_
          have NB113_108 := n6_
          have NB114_113 := n7_
          have NB113_114 := n8_
          have GW114 := n9_
          have GE114 := n10_
          have NB108_114 := n11_
          have NB114_108 := n12_
          have HB := n13_
          clear n0_ n1_ n2_ n3_ n4_ n5_ n6_ n7_ n8_ n9_ n10_ n11_ n12_ n13_
          have hHeld : w29.cell? ⟨gb108, 0, none⟩ = some (.slice (some ad111) l0_0.length c0_0) ∧ w29.cell? ⟨gb108, 1, none⟩ = some (.slice A0_1 l0_1.length c0_1) ∧ w29.cell? (ad111.add (((ji20)).toNat * 3)) = some (.int .i64 ((rd_T54 l0_0 (ji20)).f0)) ∧ w29.cell? ⟨(ad111.add (((ji20)).toNat * 3)).block, (ad111.add (((ji20)).toNat * 3)).off + 1, none⟩ = some (.int .i64 ((rd_T54 l0_0 (ji20)).f1)) ∧ w29.cell? ⟨(ad111.add (((ji20)).toNat * 3)).block, (ad111.add (((ji20)).toNat * 3)).off + 2, none⟩ = some (.int .i64 ((rd_T54 l0_0 (ji20)).f2)) ∧ w29.cell? (ad111.add ((x4_3).toNat * 3)) = some (.int .i64 ((rd_T54 l0_0 x4_3).f0)) ∧ w29.cell? ⟨(ad111.add ((x4_3).toNat * 3)).block, (ad111.add ((x4_3).toNat * 3)).off + 1, none⟩ = some (.int .i64 ((rd_T54 l0_0 x4_3).f1)) ∧ w29.cell? ⟨(ad111.add ((x4_3).toNat * 3)).block, (ad111.add ((x4_3).toNat * 3)).off + 2, none⟩ = some (.int .i64 ((rd_T54 l0_0 x4_3).f2)) := hS_
          refine norm_ (a' := ?_) ?_ ?_
          rotate_left
          ·simp only [putAll, Act.put, psl]
           rfl
          refine one_ (i := 13) (N := none) (fl 15 14 []) rfl rfl (one_of HT_.out (by kernel_rfl)) (by decide) (fun K hK => ?_)
          have hs30 : w29.cell? ⟨gb113, 0, none⟩ = some (.int .i64 0) := (bc BK113.out 0).trans rfl
          have hfs30 := bf BK113.out 0
          have hns30_0 := NB108_113.out
          have hns30_2 := NB114_113.out
          have hms30_0 := NB113_108.out
          have hms30_2 := NB113_114.out
          have hs31 : w29.cell? ⟨gb113, 1, none⟩ = some (.int .i64 0) := (bc BK113.out 1).trans rfl
          have hfs31 := bf BK113.out 1
          have hns31_0 := NB108_113.out
          have hns31_2 := NB114_113.out
          have hms31_0 := NB113_108.out
          have hms31_2 := NB113_114.out
          have hs32 : w29.cell? ⟨gb113, 2, none⟩ = some (.int .i64 0) := (bc BK113.out 2).trans rfl
          have hfs32 := bf BK113.out 2
          have hns32_0 := NB108_113.out
          have hns32_2 := NB114_113.out
          have hms32_0 := NB113_108.out
          have hms32_2 := NB113_114.out
          refine skip_ (w1 := ?_) (by rfl) rfl ?_ ?_
          rotate_left
          ·go_simp
           rfl
          refine hK.out _ _ ⟨((cf (p := ⟨gb113, _, none⟩) NB108_113.out _).trans (((cf (p := ⟨gb113, _, none⟩) NB108_113.out _).trans (((cf (p := ⟨gb113, _, none⟩) NB108_113.out _).trans (hHeld.1)))))), ((cf (p := ⟨gb113, _, none⟩) NB108_113.out _).trans (((cf (p := ⟨gb113, _, none⟩) NB108_113.out _).trans (((cf (p := ⟨gb113, _, none⟩) NB108_113.out _).trans (hHeld.2.1)))))), ((cf (p := ⟨gb113, _, none⟩) (by first | exact Nat.ne_of_lt (Nat.lt_of_lt_of_le (by have := bq _ _ hw111_0; first | rwa [add_block] at this | exact this) GW113.out) | (rw [add_block]; exact Nat.ne_of_lt (Nat.lt_of_lt_of_le (by have := bq _ _ hw111_0; first | rwa [add_block] at this | exact this) GW113.out)) | (show (Addr.add _ _).block ≠ _; rw [add_block]; exact Nat.ne_of_lt (Nat.lt_of_lt_of_le (by have := bq _ _ hw111_0; first | rwa [add_block] at this | exact this) GW113.out)) | (dsimp only; exact Nat.ne_of_lt (Nat.lt_of_lt_of_le (by have := bq _ _ hw111_0; first | rwa [add_block] at this | exact this) GW113.out))) _).trans (((cf (p := ⟨gb113, _, none⟩) (by first | exact Nat.ne_of_lt (Nat.lt_of_lt_of_le (by have := bq _ _ hw111_0; first | rwa [add_block] at this | exact this) GW113.out) | (rw [add_block]; exact Nat.ne_of_lt (Nat.lt_of_lt_of_le (by have := bq _ _ hw111_0; first | rwa [add_block] at this | exact this) GW113.out)) | (show (Addr.add _ _).block ≠ _; rw [add_block]; exact Nat.ne_of_lt (Nat.lt_of_lt_of_le (by have := bq _ _ hw111_0; first | rwa [add_block] at this | exact this) GW113.out)) | (dsimp only; exact Nat.ne_of_lt (Nat.lt_of_lt_of_le (by have := bq _ _ hw111_0; first | rwa [add_block] at this | exact this) GW113.out))) _).trans (((cf (p := ⟨gb113, _, none⟩) (by first | exact Nat.ne_of_lt (Nat.lt_of_lt_of_le (by have := bq _ _ hw111_0; first | rwa [add_block] at this | exact this) GW113.out) | (rw [add_block]; exact Nat.ne_of_lt (Nat.lt_of_lt_of_le (by have := bq _ _ hw111_0; first | rwa [add_block] at this | exact this) GW113.out)) | (show (Addr.add _ _).block ≠ _; rw [add_block]; exact Nat.ne_of_lt (Nat.lt_of_lt_of_le (by have := bq _ _ hw111_0; first | rwa [add_block] at this | exact this) GW113.out)) | (dsimp only; exact Nat.ne_of_lt (Nat.lt_of_lt_of_le (by have := bq _ _ hw111_0; first | rwa [add_block] at this | exact this) GW113.out))) _).trans (hHeld.2.2.1)))))), ((cf (p := ⟨gb113, _, none⟩) (by first | exact Nat.ne_of_lt (Nat.lt_of_lt_of_le (by have := bq _ _ hw111_1; first | rwa [add_block] at this | exact this) GW113.out) | (rw [add_block]; exact Nat.ne_of_lt (Nat.lt_of_lt_of_le (by have := bq _ _ hw111_1; first | rwa [add_block] at this | exact this) GW113.out)) | (show (Addr.add _ _).block ≠ _; rw [add_block]; exact Nat.ne_of_lt (Nat.lt_of_lt_of_le (by have := bq _ _ hw111_1; first | rwa [add_block] at this | exact this) GW113.out)) | (dsimp only; exact Nat.ne_of_lt (Nat.lt_of_lt_of_le (by have := bq _ _ hw111_1; first | rwa [add_block] at this | exact this) GW113.out))) _).trans (((cf (p := ⟨gb113, _, none⟩) (by first | exact Nat.ne_of_lt (Nat.lt_of_lt_of_le (by have := bq _ _ hw111_1; first | rwa [add_block] at this | exact this) GW113.out) | (rw [add_block]; exact Nat.ne_of_lt (Nat.lt_of_lt_of_le (by have := bq _ _ hw111_1; first | rwa [add_block] at this | exact this) GW113.out)) | (show (Addr.add _ _).block ≠ _; rw [add_block]; exact Nat.ne_of_lt (Nat.lt_of_lt_of_le (by have := bq _ _ hw111_1; first | rwa [add_block] at this | exact this) GW113.out)) | (dsimp only; exact Nat.ne_of_lt (Nat.lt_of_lt_of_le (by have := bq _ _ hw111_1; first | rwa [add_block] at this | exact this) GW113.out))) _).trans (((cf (p := ⟨gb113, _, none⟩) (by first | exact Nat.ne_of_lt (Nat.lt_of_lt_of_le (by have := bq _ _ hw111_1; first | rwa [add_block] at this | exact this) GW113.out) | (rw [add_block]; exact Nat.ne_of_lt (Nat.lt_of_lt_of_le (by have := bq _ _ hw111_1; first | rwa [add_block] at this | exact this) GW113.out)) | (show (Addr.add _ _).block ≠ _; rw [add_block]; exact Nat.ne_of_lt (Nat.lt_of_lt_of_le (by have := bq _ _ hw111_1; first | rwa [add_block] at this | exact this) GW113.out)) | (dsimp only; exact Nat.ne_of_lt (Nat.lt_of_lt_of_le (by have := bq _ _ hw111_1; first | rwa [add_block] at this | exact this) GW113.out))) _).trans (hHeld.2.2.2.1)))))), ((cf (p := ⟨gb113, _, none⟩) (by first | exact Nat.ne_of_lt (Nat.lt_of_lt_of_le (by have := bq _ _ hw111_2; first | rwa [add_block] at this | exact this) GW113.out) | (rw [add_block]; exact Nat.ne_of_lt (Nat.lt_of_lt_of_le (by have := bq _ _ hw111_2; first | rwa [add_block] at this | exact this) GW113.out)) | (show (Addr.add _ _).block ≠ _; rw [add_block]; exact Nat.ne_of_lt (Nat.lt_of_lt_of_le (by have := bq _ _ hw111_2; first | rwa [add_block] at this | exact this) GW113.out)) | (dsimp only; exact Nat.ne_of_lt (Nat.lt_of_lt_of_le (by have := bq _ _ hw111_2; first | rwa [add_block] at this | exact this) GW113.out))) _).trans (((cf (p := ⟨gb113, _, none⟩) (by first | exact Nat.ne_of_lt (Nat.lt_of_lt_of_le (by have := bq _ _ hw111_2; first | rwa [add_block] at this | exact this) GW113.out) | (rw [add_block]; exact Nat.ne_of_lt (Nat.lt_of_lt_of_le (by have := bq _ _ hw111_2; first | rwa [add_block] at this | exact this) GW113.out)) | (show (Addr.add _ _).block ≠ _; rw [add_block]; exact Nat.ne_of_lt (Nat.lt_of_lt_of_le (by have := bq _ _ hw111_2; first | rwa [add_block] at this | exact this) GW113.out)) | (dsimp only; exact Nat.ne_of_lt (Nat.lt_of_lt_of_le (by have := bq _ _ hw111_2; first | rwa [add_block] at this | exact this) GW113.out))) _).trans (((cf (p := ⟨gb113, _, none⟩) (by first | exact Nat.ne_of_lt (Nat.lt_of_lt_of_le (by have := bq _ _ hw111_2; first | rwa [add_block] at this | exact this) GW113.out) | (rw [add_block]; exact Nat.ne_of_lt (Nat.lt_of_lt_of_le (by have := bq _ _ hw111_2; first | rwa [add_block] at this | exact this) GW113.out)) | (show (Addr.add _ _).block ≠ _; rw [add_block]; exact Nat.ne_of_lt (Nat.lt_of_lt_of_le (by have := bq _ _ hw111_2; first | rwa [add_block] at this | exact this) GW113.out)) | (dsimp only; exact Nat.ne_of_lt (Nat.lt_of_lt_of_le (by have := bq _ _ hw111_2; first | rwa [add_block] at this | exact this) GW113.out))) _).trans (hHeld.2.2.2.2.1)))))), ((cf (p := ⟨gb113, _, none⟩) (by first | exact Nat.ne_of_lt (Nat.lt_of_lt_of_le (by have := bq _ _ hw112_0; first | rwa [add_block] at this | exact this) GW113.out) | (rw [add_block]; exact Nat.ne_of_lt (Nat.lt_of_lt_of_le (by have := bq _ _ hw112_0; first | rwa [add_block] at this | exact this) GW113.out)) | (show (Addr.add _ _).block ≠ _; rw [add_block]; exact Nat.ne_of_lt (Nat.lt_of_lt_of_le (by have := bq _ _ hw112_0; first | rwa [add_block] at this | exact this) GW113.out)) | (dsimp only; exact Nat.ne_of_lt (Nat.lt_of_lt_of_le (by have := bq _ _ hw112_0; first | rwa [add_block] at this | exact this) GW113.out))) _).trans (((cf (p := ⟨gb113, _, none⟩) (by first | exact Nat.ne_of_lt (Nat.lt_of_lt_of_le (by have := bq _ _ hw112_0; first | rwa [add_block] at this | exact this) GW113.out) | (rw [add_block]; exact Nat.ne_of_lt (Nat.lt_of_lt_of_le (by have := bq _ _ hw112_0; first | rwa [add_block] at this | exact this) GW113.out)) | (show (Addr.add _ _).block ≠ _; rw [add_block]; exact Nat.ne_of_lt (Nat.lt_of_lt_of_le (by have := bq _ _ hw112_0; first | rwa [add_block] at this | exact this) GW113.out)) | (dsimp only; exact Nat.ne_of_lt (Nat.lt_of_lt_of_le (by have := bq _ _ hw112_0; first | rwa [add_block] at this | exact this) GW113.out))) _).trans (((cf (p := ⟨gb113, _, none⟩) (by first | exact Nat.ne_of_lt (Nat.lt_of_lt_of_le (by have := bq _ _ hw112_0; first | rwa [add_block] at this | exact this) GW113.out) | (rw [add_block]; exact Nat.ne_of_lt (Nat.lt_of_lt_of_le (by have := bq _ _ hw112_0; first | rwa [add_block] at this | exact this) GW113.out)) | (show (Addr.add _ _).block ≠ _; rw [add_block]; exact Nat.ne_of_lt (Nat.lt_of_lt_of_le (by have := bq _ _ hw112_0; first | rwa [add_block] at this | exact this) GW113.out)) | (dsimp only; exact Nat.ne_of_lt (Nat.lt_of_lt_of_le (by have := bq _ _ hw112_0; first | rwa [add_block] at this | exact this) GW113.out))) _).trans (hHeld.2.2.2.2.2.1)))))), ((cf (p := ⟨gb113, _, none⟩) (by first | exact Nat.ne_of_lt (Nat.lt_of_lt_of_le (by have := bq _ _ hw112_1; first | rwa [add_block] at this | exact this) GW113.out) | (rw [add_block]; exact Nat.ne_of_lt (Nat.lt_of_lt_of_le (by have := bq _ _ hw112_1; first | rwa [add_block] at this | exact this) GW113.out)) | (show (Addr.add _ _).block ≠ _; rw [add_block]; exact Nat.ne_of_lt (Nat.lt_of_lt_of_le (by have := bq _ _ hw112_1; first | rwa [add_block] at this | exact this) GW113.out)) | (dsimp only; exact Nat.ne_of_lt (Nat.lt_of_lt_of_le (by have := bq _ _ hw112_1; first | rwa [add_block] at this | exact this) GW113.out))) _).trans (((cf (p := ⟨gb113, _, none⟩) (by first | exact Nat.ne_of_lt (Nat.lt_of_lt_of_le (by have := bq _ _ hw112_1; first | rwa [add_block] at this | exact this) GW113.out) | (rw [add_block]; exact Nat.ne_of_lt (Nat.lt_of_lt_of_le (by have := bq _ _ hw112_1; first | rwa [add_block] at this | exact this) GW113.out)) | (show (Addr.add _ _).block ≠ _; rw [add_block]; exact Nat.ne_of_lt (Nat.lt_of_lt_of_le (by have := bq _ _ hw112_1; first | rwa [add_block] at this | exact this) GW113.out)) | (dsimp only; exact Nat.ne_of_lt (Nat.lt_of_lt_of_le (by have := bq _ _ hw112_1; first | rwa [add_block] at this | exact this) GW113.out))) _).trans (((cf (p := ⟨gb113, _, none⟩) (by first | exact Nat.ne_of_lt (Nat.lt_of_lt_of_le (by have := bq _ _ hw112_1; first | rwa [add_block] at this | exact this) GW113.out) | (rw [add_block]; exact Nat.ne_of_lt (Nat.lt_of_lt_of_le (by have := bq _ _ hw112_1; first | rwa [add_block] at this | exact this) GW113.out)) | (show (Addr.add _ _).block ≠ _; rw [add_block]; exact Nat.ne_of_lt (Nat.lt_of_lt_of_le (by have := bq _ _ hw112_1; first | rwa [add_block] at this | exact this) GW113.out)) | (dsimp only; exact Nat.ne_of_lt (Nat.lt_of_lt_of_le (by have := bq _ _ hw112_1; first | rwa [add_block] at this | exact this) GW113.out))) _).trans (hHeld.2.2.2.2.2.2.1)))))), ((cf (p := ⟨gb113, _, none⟩) (by first | exact Nat.ne_of_lt (Nat.lt_of_lt_of_le (by have := bq _ _ hw112_2; first | rwa [add_block] at this | exact this) GW113.out) | (rw [add_block]; exact Nat.ne_of_lt (Nat.lt_of_lt_of_le (by have := bq _ _ hw112_2; first | rwa [add_block] at this | exact this) GW113.out)) | (show (Addr.add _ _).block ≠ _; rw [add_block]; exact Nat.ne_of_lt (Nat.lt_of_lt_of_le (by have := bq _ _ hw112_2; first | rwa [add_block] at this | exact this) GW113.out)) | (dsimp only; exact Nat.ne_of_lt (Nat.lt_of_lt_of_le (by have := bq _ _ hw112_2; first | rwa [add_block] at this | exact this) GW113.out))) _).trans (((cf (p := ⟨gb113, _, none⟩) (by first | exact Nat.ne_of_lt (Nat.lt_of_lt_of_le (by have := bq _ _ hw112_2; first | rwa [add_block] at this | exact this) GW113.out) | (rw [add_block]; exact Nat.ne_of_lt (Nat.lt_of_lt_of_le (by have := bq _ _ hw112_2; first | rwa [add_block] at this | exact this) GW113.out)) | (show (Addr.add _ _).block ≠ _; rw [add_block]; exact Nat.ne_of_lt (Nat.lt_of_lt_of_le (by have := bq _ _ hw112_2; first | rwa [add_block] at this | exact this) GW113.out)) | (dsimp only; exact Nat.ne_of_lt (Nat.lt_of_lt_of_le (by have := bq _ _ hw112_2; first | rwa [add_block] at this | exact this) GW113.out))) _).trans (((cf (p := ⟨gb113, _, none⟩) (by first | exact Nat.ne_of_lt (Nat.lt_of_lt_of_le (by have := bq _ _ hw112_2; first | rwa [add_block] at this | exact this) GW113.out) | (rw [add_block]; exact Nat.ne_of_lt (Nat.lt_of_lt_of_le (by have := bq _ _ hw112_2; first | rwa [add_block] at this | exact this) GW113.out)) | (show (Addr.add _ _).block ≠ _; rw [add_block]; exact Nat.ne_of_lt (Nat.lt_of_lt_of_le (by have := bq _ _ hw112_2; first | rwa [add_block] at this | exact this) GW113.out)) | (dsimp only; exact Nat.ne_of_lt (Nat.lt_of_lt_of_le (by have := bq _ _ hw112_2; first | rwa [add_block] at this | exact this) GW113.out))) _).trans (hHeld.2.2.2.2.2.2.2))))))⟩ (fun hHeld => ?_)
          clear hK K
          refine one_ (i := 14) (N := none) (fl 15 15 []) rfl rfl (one_of HT_.out (by kernel_rfl)) (by decide) (fun K hK => ?_)
          have hs33 : w29.cell? ⟨gb114, 0, none⟩ = some (.int .i64 0) := (bc BK114.out 0).trans rfl
          have hfs33 := bf BK114.out 0
          have hns33_0 := NB108_114.out
          have hns33_1 := NB113_114.out
          have hms33_0 := NB114_108.out
          have hms33_1 := NB114_113.out
          have hs34 : w29.cell? ⟨gb114, 1, none⟩ = some (.int .i64 0) := (bc BK114.out 1).trans rfl
          have hfs34 := bf BK114.out 1
          have hns34_0 := NB108_114.out
          have hns34_1 := NB113_114.out
          have hms34_0 := NB114_108.out
          have hms34_1 := NB114_113.out
          have hs35 : w29.cell? ⟨gb114, 2, none⟩ = some (.int .i64 0) := (bc BK114.out 2).trans rfl
          have hfs35 := bf BK114.out 2
          have hns35_0 := NB108_114.out
          have hns35_1 := NB113_114.out
          have hms35_0 := NB114_108.out
          have hms35_1 := NB114_113.out
          refine skip_ (w1 := ?_) (by rfl) rfl ?_ ?_
          rotate_left
          ·go_simp
           rfl
          refine hK.out _ _ ⟨((cf (p := ⟨gb114, _, none⟩) NB108_114.out _).trans (((cf (p := ⟨gb114, _, none⟩) NB108_114.out _).trans (((cf (p := ⟨gb114, _, none⟩) NB108_114.out _).trans (hHeld.1)))))), ((cf (p := ⟨gb114, _, none⟩) NB108_114.out _).trans (((cf (p := ⟨gb114, _, none⟩) NB108_114.out _).trans (((cf (p := ⟨gb114, _, none⟩) NB108_114.out _).trans (hHeld.2.1)))))), ((cf (p := ⟨gb114, _, none⟩) (by first | exact Nat.ne_of_lt (Nat.lt_of_lt_of_le (by have := bq _ _ hw111_0; first | rwa [add_block] at this | exact this) GW114.out) | (rw [add_block]; exact Nat.ne_of_lt (Nat.lt_of_lt_of_le (by have := bq _ _ hw111_0; first | rwa [add_block] at this | exact this) GW114.out)) | (show (Addr.add _ _).block ≠ _; rw [add_block]; exact Nat.ne_of_lt (Nat.lt_of_lt_of_le (by have := bq _ _ hw111_0; first | rwa [add_block] at this | exact this) GW114.out)) | (dsimp only; exact Nat.ne_of_lt (Nat.lt_of_lt_of_le (by have := bq _ _ hw111_0; first | rwa [add_block] at this | exact this) GW114.out))) _).trans (((cf (p := ⟨gb114, _, none⟩) (by first | exact Nat.ne_of_lt (Nat.lt_of_lt_of_le (by have := bq _ _ hw111_0; first | rwa [add_block] at this | exact this) GW114.out) | (rw [add_block]; exact Nat.ne_of_lt (Nat.lt_of_lt_of_le (by have := bq _ _ hw111_0; first | rwa [add_block] at this | exact this) GW114.out)) | (show (Addr.add _ _).block ≠ _; rw [add_block]; exact Nat.ne_of_lt (Nat.lt_of_lt_of_le (by have := bq _ _ hw111_0; first | rwa [add_block] at this | exact this) GW114.out)) | (dsimp only; exact Nat.ne_of_lt (Nat.lt_of_lt_of_le (by have := bq _ _ hw111_0; first | rwa [add_block] at this | exact this) GW114.out))) _).trans (((cf (p := ⟨gb114, _, none⟩) (by first | exact Nat.ne_of_lt (Nat.lt_of_lt_of_le (by have := bq _ _ hw111_0; first | rwa [add_block] at this | exact this) GW114.out) | (rw [add_block]; exact Nat.ne_of_lt (Nat.lt_of_lt_of_le (by have := bq _ _ hw111_0; first | rwa [add_block] at this | exact this) GW114.out)) | (show (Addr.add _ _).block ≠ _; rw [add_block]; exact Nat.ne_of_lt (Nat.lt_of_lt_of_le (by have := bq _ _ hw111_0; first | rwa [add_block] at this | exact this) GW114.out)) | (dsimp only; exact Nat.ne_of_lt (Nat.lt_of_lt_of_le (by have := bq _ _ hw111_0; first | rwa [add_block] at this | exact this) GW114.out))) _).trans (hHeld.2.2.1)))))), ((cf (p := ⟨gb114, _, none⟩) (by first | exact Nat.ne_of_lt (Nat.lt_of_lt_of_le (by have := bq _ _ hw111_1; first | rwa [add_block] at this | exact this) GW114.out) | (rw [add_block]; exact Nat.ne_of_lt (Nat.lt_of_lt_of_le (by have := bq _ _ hw111_1; first | rwa [add_block] at this | exact this) GW114.out)) | (show (Addr.add _ _).block ≠ _; rw [add_block]; exact Nat.ne_of_lt (Nat.lt_of_lt_of_le (by have := bq _ _ hw111_1; first | rwa [add_block] at this | exact this) GW114.out)) | (dsimp only; exact Nat.ne_of_lt (Nat.lt_of_lt_of_le (by have := bq _ _ hw111_1; first | rwa [add_block] at this | exact this) GW114.out))) _).trans (((cf (p := ⟨gb114, _, none⟩) (by first | exact Nat.ne_of_lt (Nat.lt_of_lt_of_le (by have := bq _ _ hw111_1; first | rwa [add_block] at this | exact this) GW114.out) | (rw [add_block]; exact Nat.ne_of_lt (Nat.lt_of_lt_of_le (by have := bq _ _ hw111_1; first | rwa [add_block] at this | exact this) GW114.out)) | (show (Addr.add _ _).block ≠ _; rw [add_block]; exact Nat.ne_of_lt (Nat.lt_of_lt_of_le (by have := bq _ _ hw111_1; first | rwa [add_block] at this | exact this) GW114.out)) | (dsimp only; exact Nat.ne_of_lt (Nat.lt_of_lt_of_le (by have := bq _ _ hw111_1; first | rwa [add_block] at this | exact this) GW114.out))) _).trans (((cf (p := ⟨gb114, _, none⟩) (by first | exact Nat.ne_of_lt (Nat.lt_of_lt_of_le (by have := bq _ _ hw111_1; first | rwa [add_block] at this | exact this) GW114.out) | (rw [add_block]; exact Nat.ne_of_lt (Nat.lt_of_lt_of_le (by have := bq _ _ hw111_1; first | rwa [add_block] at this | exact this) GW114.out)) | (show (Addr.add _ _).block ≠ _; rw [add_block]; exact Nat.ne_of_lt (Nat.lt_of_lt_of_le (by have := bq _ _ hw111_1; first | rwa [add_block] at this | exact this) GW114.out)) | (dsimp only; exact Nat.ne_of_lt (Nat.lt_of_lt_of_le (by have := bq _ _ hw111_1; first | rwa [add_block] at this | exact this) GW114.out))) _).trans (hHeld.2.2.2.1)))))), ((cf (p := ⟨gb114, _, none⟩) (by first | exact Nat.ne_of_lt (Nat.lt_of_lt_of_le (by have := bq _ _ hw111_2; first | rwa [add_block] at this | exact this) GW114.out) | (rw [add_block]; exact Nat.ne_of_lt (Nat.lt_of_lt_of_le (by have := bq _ _ hw111_2; first | rwa [add_block] at this | exact this) GW114.out)) | (show (Addr.add _ _).block ≠ _; rw [add_block]; exact Nat.ne_of_lt (Nat.lt_of_lt_of_le (by have := bq _ _ hw111_2; first | rwa [add_block] at this | exact this) GW114.out)) | (dsimp only; exact Nat.ne_of_lt (Nat.lt_of_lt_of_le (by have := bq _ _ hw111_2; first | rwa [add_block] at this | exact this) GW114.out))) _).trans (((cf (p := ⟨gb114, _, none⟩) (by first | exact Nat.ne_of_lt (Nat.lt_of_lt_of_le (by have := bq _ _ hw111_2; first | rwa [add_block] at this | exact this) GW114.out) | (rw [add_block]; exact Nat.ne_of_lt (Nat.lt_of_lt_of_le (by have := bq _ _ hw111_2; first | rwa [add_block] at this | exact this) GW114.out)) | (show (Addr.add _ _).block ≠ _; rw [add_block]; exact Nat.ne_of_lt (Nat.lt_of_lt_of_le (by have := bq _ _ hw111_2; first | rwa [add_block] at this | exact this) GW114.out)) | (dsimp only; exact Nat.ne_of_lt (Nat.lt_of_lt_of_le (by have := bq _ _ hw111_2; first | rwa [add_block] at this | exact this) GW114.out))) _).trans (((cf (p := ⟨gb114, _, none⟩) (by first | exact Nat.ne_of_lt (Nat.lt_of_lt_of_le (by have := bq _ _ hw111_2; first | rwa [add_block] at this | exact this) GW114.out) | (rw [add_block]; exact Nat.ne_of_lt (Nat.lt_of_lt_of_le (by have := bq _ _ hw111_2; first | rwa [add_block] at this | exact this) GW114.out)) | (show (Addr.add _ _).block ≠ _; rw [add_block]; exact Nat.ne_of_lt (Nat.lt_of_lt_of_le (by have := bq _ _ hw111_2; first | rwa [add_block] at this | exact this) GW114.out)) | (dsimp only; exact Nat.ne_of_lt (Nat.lt_of_lt_of_le (by have := bq _ _ hw111_2; first | rwa [add_block] at this | exact this) GW114.out))) _).trans (hHeld.2.2.2.2.1)))))), ((cf (p := ⟨gb114, _, none⟩) (by first | exact Nat.ne_of_lt (Nat.lt_of_lt_of_le (by have := bq _ _ hw112_0; first | rwa [add_block] at this | exact this) GW114.out) | (rw [add_block]; exact Nat.ne_of_lt (Nat.lt_of_lt_of_le (by have := bq _ _ hw112_0; first | rwa [add_block] at this | exact this) GW114.out)) | (show (Addr.add _ _).block ≠ _; rw [add_block]; exact Nat.ne_of_lt (Nat.lt_of_lt_of_le (by have := bq _ _ hw112_0; first | rwa [add_block] at this | exact this) GW114.out)) | (dsimp only; exact Nat.ne_of_lt (Nat.lt_of_lt_of_le (by have := bq _ _ hw112_0; first | rwa [add_block] at this | exact this) GW114.out))) _).trans (((cf (p := ⟨gb114, _, none⟩) (by first | exact Nat.ne_of_lt (Nat.lt_of_lt_of_le (by have := bq _ _ hw112_0; first | rwa [add_block] at this | exact this) GW114.out) | (rw [add_block]; exact Nat.ne_of_lt (Nat.lt_of_lt_of_le (by have := bq _ _ hw112_0; first | rwa [add_block] at this | exact this) GW114.out)) | (show (Addr.add _ _).block ≠ _; rw [add_block]; exact Nat.ne_of_lt (Nat.lt_of_lt_of_le (by have := bq _ _ hw112_0; first | rwa [add_block] at this | exact this) GW114.out)) | (dsimp only; exact Nat.ne_of_lt (Nat.lt_of_lt_of_le (by have := bq _ _ hw112_0; first | rwa [add_block] at this | exact this) GW114.out))) _).trans (((cf (p := ⟨gb114, _, none⟩) (by first | exact Nat.ne_of_lt (Nat.lt_of_lt_of_le (by have := bq _ _ hw112_0; first | rwa [add_block] at this | exact this) GW114.out) | (rw [add_block]; exact Nat.ne_of_lt (Nat.lt_of_lt_of_le (by have := bq _ _ hw112_0; first | rwa [add_block] at this | exact this) GW114.out)) | (show (Addr.add _ _).block ≠ _; rw [add_block]; exact Nat.ne_of_lt (Nat.lt_of_lt_of_le (by have := bq _ _ hw112_0; first | rwa [add_block] at this | exact this) GW114.out)) | (dsimp only; exact Nat.ne_of_lt (Nat.lt_of_lt_of_le (by have := bq _ _ hw112_0; first | rwa [add_block] at this | exact this) GW114.out))) _).trans (hHeld.2.2.2.2.2.1)))))), ((cf (p := ⟨gb114, _, none⟩) (by first | exact Nat.ne_of_lt (Nat.lt_of_lt_of_le (by have := bq _ _ hw112_1; first | rwa [add_block] at this | exact this) GW114.out) | (rw [add_block]; exact Nat.ne_of_lt (Nat.lt_of_lt_of_le (by have := bq _ _ hw112_1; first | rwa [add_block] at this | exact this) GW114.out)) | (show (Addr.add _ _).block ≠ _; rw [add_block]; exact Nat.ne_of_lt (Nat.lt_of_lt_of_le (by have := bq _ _ hw112_1; first | rwa [add_block] at this | exact this) GW114.out)) | (dsimp only; exact Nat.ne_of_lt (Nat.lt_of_lt_of_le (by have := bq _ _ hw112_1; first | rwa [add_block] at this | exact this) GW114.out))) _).trans (((cf (p := ⟨gb114, _, none⟩) (by first | exact Nat.ne_of_lt (Nat.lt_of_lt_of_le (by have := bq _ _ hw112_1; first | rwa [add_block] at this | exact this) GW114.out) | (rw [add_block]; exact Nat.ne_of_lt (Nat.lt_of_lt_of_le (by have := bq _ _ hw112_1; first | rwa [add_block] at this | exact this) GW114.out)) | (show (Addr.add _ _).block ≠ _; rw [add_block]; exact Nat.ne_of_lt (Nat.lt_of_lt_of_le (by have := bq _ _ hw112_1; first | rwa [add_block] at this | exact this) GW114.out)) | (dsimp only; exact Nat.ne_of_lt (Nat.lt_of_lt_of_le (by have := bq _ _ hw112_1; first | rwa [add_block] at this | exact this) GW114.out))) _).trans (((cf (p := ⟨gb114, _, none⟩) (by first | exact Nat.ne_of_lt (Nat.lt_of_lt_of_le (by have := bq _ _ hw112_1; first | rwa [add_block] at this | exact this) GW114.out) | (rw [add_block]; exact Nat.ne_of_lt (Nat.lt_of_lt_of_le (by have := bq _ _ hw112_1; first | rwa [add_block] at this | exact this) GW114.out)) | (show (Addr.add _ _).block ≠ _; rw [add_block]; exact Nat.ne_of_lt (Nat.lt_of_lt_of_le (by have := bq _ _ hw112_1; first | rwa [add_block] at this | exact this) GW114.out)) | (dsimp only; exact Nat.ne_of_lt (Nat.lt_of_lt_of_le (by have := bq _ _ hw112_1; first | rwa [add_block] at this | exact this) GW114.out))) _).trans (hHeld.2.2.2.2.2.2.1)))))), ((cf (p := ⟨gb114, _, none⟩) (by first | exact Nat.ne_of_lt (Nat.lt_of_lt_of_le (by have := bq _ _ hw112_2; first | rwa [add_block] at this | exact this) GW114.out) | (rw [add_block]; exact Nat.ne_of_lt (Nat.lt_of_lt_of_le (by have := bq _ _ hw112_2; first | rwa [add_block] at this | exact this) GW114.out)) | (show (Addr.add _ _).block ≠ _; rw [add_block]; exact Nat.ne_of_lt (Nat.lt_of_lt_of_le (by have := bq _ _ hw112_2; first | rwa [add_block] at this | exact this) GW114.out)) | (dsimp only; exact Nat.ne_of_lt (Nat.lt_of_lt_of_le (by have := bq _ _ hw112_2; first | rwa [add_block] at this | exact this) GW114.out))) _).trans (((cf (p := ⟨gb114, _, none⟩) (by first | exact Nat.ne_of_lt (Nat.lt_of_lt_of_le (by have := bq _ _ hw112_2; first | rwa [add_block] at this | exact this) GW114.out) | (rw [add_block]; exact Nat.ne_of_lt (Nat.lt_of_lt_of_le (by have := bq _ _ hw112_2; first | rwa [add_block] at this | exact this) GW114.out)) | (show (Addr.add _ _).block ≠ _; rw [add_block]; exact Nat.ne_of_lt (Nat.lt_of_lt_of_le (by have := bq _ _ hw112_2; first | rwa [add_block] at this | exact this) GW114.out)) | (dsimp only; exact Nat.ne_of_lt (Nat.lt_of_lt_of_le (by have := bq _ _ hw112_2; first | rwa [add_block] at this | exact this) GW114.out))) _).trans (((cf (p := ⟨gb114, _, none⟩) (by first | exact Nat.ne_of_lt (Nat.lt_of_lt_of_le (by have := bq _ _ hw112_2; first | rwa [add_block] at this | exact this) GW114.out) | (rw [add_block]; exact Nat.ne_of_lt (Nat.lt_of_lt_of_le (by have := bq _ _ hw112_2; first | rwa [add_block] at this | exact this) GW114.out)) | (show (Addr.add _ _).block ≠ _; rw [add_block]; exact Nat.ne_of_lt (Nat.lt_of_lt_of_le (by have := bq _ _ hw112_2; first | rwa [add_block] at this | exact this) GW114.out)) | (dsimp only; exact Nat.ne_of_lt (Nat.lt_of_lt_of_le (by have := bq _ _ hw112_2; first | rwa [add_block] at this | exact this) GW114.out))) _).trans (hHeld.2.2.2.2.2.2.2))))))⟩ (fun hHeld => ?_)
          clear hK K
          refine done_ (done_of HT_.out (by kernel_rfl)) ?_
          go_upto_region 10 with (fail)
          go_cut [63] (fun v63 wc => ∃ (kq : Nat) (x63_23 : Bool), v63 = .bool x63_23 ∧ Aside0 (shift_Check.j3 kq x4_3 x63_23 l0_0 l0_1 = some r) ∧ Aside0 (kq ≤ k3) ∧ Aside0 (wc.heap[gb108]? = some (.cells #[(.slice (some ad111) l0_0.length c0_0), (.slice A0_1 l0_1.length c0_1)] 31 (0, 0))) ∧ Aside0 (wc.heap[gb113]? = some (.cells #[.int .i64 ((rd_T54 l0_0 (ji20)).f0), .int .i64 ((rd_T54 l0_0 (ji20)).f1), .int .i64 ((rd_T54 l0_0 (ji20)).f2)] 54 (0, 0))) ∧ Aside0 (wc.heap[gb114]? = some (.cells #[.int .i64 ((rd_T54 l0_0 x4_3).f0), .int .i64 ((rd_T54 l0_0 x4_3).f1), .int .i64 ((rd_T54 l0_0 x4_3).f2)] 54 (0, 0))) ∧ Aside0 (Below w.heap.size w wc))
          case first =>
           have H := HC24.out
           clear HC24
           by_cases c36 : ((rd_T54 l0_0 (ji20)).f0) > ((rd_T54 l0_0 x4_3).f0)
           ·rw [if_pos c36] at H
            have c36b0 : decide (((rd_T54 l0_0 x4_3).f0) < ((rd_T54 l0_0 (ji20)).f0)) = true := decide_eq_true c36
            clear c36
            (first | rw [c36b0] | (simp only [i64_w, i32_w]; rw [c36b0]) | skip)
            have H' := am H
            clear H
            have hnb37 := NB113_108.out
            have hnc37 := NB108_113.out
            have hnb38 := NB113_114.out
            have hnc38 := NB114_113.out
            have := yC1 BK113
            have := kC1 BK113
            have := kC2 BK113
            have := bf BK113.out 0
            have := bf BK113.out 1
            have := bf BK113.out 2
            have hnb40 := NB114_108.out
            have hnc40 := NB108_114.out
            have := yC1 BK114
            have := kC1 BK114
            have := kC2 BK114
            have := bf BK114.out 0
            have := bf BK114.out 1
            have := bf BK114.out 2
            go_wp2
            go_meet
            case rel => exact ⟨_, (true), sqD, H', ⟨by have := HJ1.out; have := HJ7.out; have := HK3.out; first | omega | exact Nat.le_refl _⟩, ⟨by (with_reducible repeat first | apply bN | apply bd | apply ba); refine bF ?_ NB108_114.out _; (with_reducible repeat first | apply bN | apply bd | apply ba); refine bF ?_ NB108_114.out _; (with_reducible repeat first | apply bN | apply bd | apply ba); refine bF ?_ NB108_114.out _; (with_reducible repeat first | apply bN | apply bd | apply ba); refine bF ?_ NB108_113.out _; (with_reducible repeat first | apply bN | apply bd | apply ba); refine bF ?_ NB108_113.out _; (with_reducible repeat first | apply bN | apply bd | apply ba); refine bF ?_ NB108_113.out _; (with_reducible repeat first | apply bN | apply bd | apply ba); exact BK108.out⟩, ⟨by (with_reducible repeat first | apply bN | apply bd | apply ba); refine bF ?_ NB113_114.out _; (with_reducible repeat first | apply bN | apply bd | apply ba); refine bF ?_ NB113_114.out _; (with_reducible repeat first | apply bN | apply bd | apply ba); refine bF ?_ NB113_114.out _; (with_reducible repeat first | apply bN | apply bd | apply ba); refine bp (cs := #[.int .i64 ((rd_T54 l0_0 (ji20)).f0), .int .i64 ((rd_T54 l0_0 (ji20)).f1), .int .i64 0]) ?_ 2 _ rfl; (with_reducible repeat first | apply bN | apply bd | apply ba); refine bp (cs := #[.int .i64 ((rd_T54 l0_0 (ji20)).f0), .int .i64 0, .int .i64 0]) ?_ 1 _ rfl; (with_reducible repeat first | apply bN | apply bd | apply ba); refine bp (cs := #[.int .i64 0, .int .i64 0, .int .i64 0]) ?_ 0 _ rfl; (with_reducible repeat first | apply bN | apply bd | apply ba); exact BK113.out⟩, ⟨by (with_reducible repeat first | apply bN | apply bd | apply ba); refine bp (cs := #[.int .i64 ((rd_T54 l0_0 x4_3).f0), .int .i64 ((rd_T54 l0_0 x4_3).f1), .int .i64 0]) ?_ 2 _ rfl; (with_reducible repeat first | apply bN | apply bd | apply ba); refine bp (cs := #[.int .i64 ((rd_T54 l0_0 x4_3).f0), .int .i64 0, .int .i64 0]) ?_ 1 _ rfl; (with_reducible repeat first | apply bN | apply bd | apply ba); refine bp (cs := #[.int .i64 0, .int .i64 0, .int .i64 0]) ?_ 0 _ rfl; (with_reducible repeat first | apply bN | apply bd | apply ba); refine bF ?_ NB114_113.out _; (with_reducible repeat first | apply bN | apply bd | apply ba); refine bF ?_ NB114_113.out _; (with_reducible repeat first | apply bN | apply bd | apply ba); refine bF ?_ NB114_113.out _; (with_reducible repeat first | apply bN | apply bd | apply ba); exact BK114.out⟩, ⟨fW HB.out⟩⟩
           rw [if_neg c36] at H
           have c36b0 : decide (((rd_T54 l0_0 x4_3).f0) < ((rd_T54 l0_0 (ji20)).f0)) = false := decide_eq_false c36
           clear c36
           (first | rw [c36b0] | (simp only [i64_w, i32_w]; rw [c36b0]) | skip)
           by_cases c42 : ((rd_T54 l0_0 (ji20)).f0) = ((rd_T54 l0_0 x4_3).f0)
           ·rw [if_pos c42] at H
            have c42b0 : (((rd_T54 l0_0 (ji20)).f0) == ((rd_T54 l0_0 x4_3).f0)) = true := beq_iff_eq.mpr c42
            have c42b1 : (((rd_T54 l0_0 (ji20)).f0) != ((rd_T54 l0_0 x4_3).f0)) = false := bne_eq_false_iff_eq.mpr c42
            clear c42
            have H' := am H
            clear H
            have hnb43 := NB113_108.out
            have hnc43 := NB108_113.out
            have hnb44 := NB113_114.out
            have hnc44 := NB114_113.out
            have := yC1 BK113
            have := kC1 BK113
            have := kC2 BK113
            have := bf BK113.out 0
            have := bf BK113.out 1
            have := bf BK113.out 2
            have hnb46 := NB114_108.out
            have hnc46 := NB108_114.out
            have := yC1 BK114
            have := kC1 BK114
            have := kC2 BK114
            have := bf BK114.out 0
            have := bf BK114.out 1
            have := bf BK114.out 2
            go_wp2
            go_meet
            case rel => exact ⟨_, (decide (((rd_T54 l0_0 (ji20)).f2) > ((rd_T54 l0_0 x4_3).f1))), (by first | rfl | (simp; done) | (simp only [← hji20] <;> (first | rfl | simp)) | (simp [*]; done)), H', ⟨by have := HJ1.out; have := HJ7.out; have := HK3.out; first | omega | exact Nat.le_refl _⟩, ⟨by (with_reducible repeat first | apply bN | apply bd | apply ba); refine bF ?_ NB108_114.out _; (with_reducible repeat first | apply bN | apply bd | apply ba); refine bF ?_ NB108_114.out _; (with_reducible repeat first | apply bN | apply bd | apply ba); refine bF ?_ NB108_114.out _; (with_reducible repeat first | apply bN | apply bd | apply ba); refine bF ?_ NB108_113.out _; (with_reducible repeat first | apply bN | apply bd | apply ba); refine bF ?_ NB108_113.out _; (with_reducible repeat first | apply bN | apply bd | apply ba); refine bF ?_ NB108_113.out _; (with_reducible repeat first | apply bN | apply bd | apply ba); exact BK108.out⟩, ⟨by (with_reducible repeat first | apply bN | apply bd | apply ba); refine bF ?_ NB113_114.out _; (with_reducible repeat first | apply bN | apply bd | apply ba); refine bF ?_ NB113_114.out _; (with_reducible repeat first | apply bN | apply bd | apply ba); refine bF ?_ NB113_114.out _; (with_reducible repeat first | apply bN | apply bd | apply ba); refine bp (cs := #[.int .i64 ((rd_T54 l0_0 (ji20)).f0), .int .i64 ((rd_T54 l0_0 (ji20)).f1), .int .i64 0]) ?_ 2 _ rfl; (with_reducible repeat first | apply bN | apply bd | apply ba); refine bp (cs := #[.int .i64 ((rd_T54 l0_0 (ji20)).f0), .int .i64 0, .int .i64 0]) ?_ 1 _ rfl; (with_reducible repeat first | apply bN | apply bd | apply ba); refine bp (cs := #[.int .i64 0, .int .i64 0, .int .i64 0]) ?_ 0 _ rfl; (with_reducible repeat first | apply bN | apply bd | apply ba); exact BK113.out⟩, ⟨by (with_reducible repeat first | apply bN | apply bd | apply ba); refine bp (cs := #[.int .i64 ((rd_T54 l0_0 x4_3).f0), .int .i64 ((rd_T54 l0_0 x4_3).f1), .int .i64 0]) ?_ 2 _ rfl; (with_reducible repeat first | apply bN | apply bd | apply ba); refine bp (cs := #[.int .i64 ((rd_T54 l0_0 x4_3).f0), .int .i64 0, .int .i64 0]) ?_ 1 _ rfl; (with_reducible repeat first | apply bN | apply bd | apply ba); refine bp (cs := #[.int .i64 0, .int .i64 0, .int .i64 0]) ?_ 0 _ rfl; (with_reducible repeat first | apply bN | apply bd | apply ba); refine bF ?_ NB114_113.out _; (with_reducible repeat first | apply bN | apply bd | apply ba); refine bF ?_ NB114_113.out _; (with_reducible repeat first | apply bN | apply bd | apply ba); refine bF ?_ NB114_113.out _; (with_reducible repeat first | apply bN | apply bd | apply ba); exact BK114.out⟩, ⟨fW HB.out⟩⟩
           rw [if_neg c42] at H
           have c42b0 : (((rd_T54 l0_0 (ji20)).f0) == ((rd_T54 l0_0 x4_3).f0)) = false := beq_eq_false_iff_ne.mpr c42
           have c42b1 : (((rd_T54 l0_0 (ji20)).f0) != ((rd_T54 l0_0 x4_3).f0)) = true := bne_iff_ne.mpr c42
           have H' := am H
           clear H
           have hnb48 := NB113_108.out
           have hnc48 := NB108_113.out
           have hnb49 := NB113_114.out
           have hnc49 := NB114_113.out
           have := yC1 BK113
           have := kC1 BK113
           have := kC2 BK113
           have := bf BK113.out 0
           have := bf BK113.out 1
           have := bf BK113.out 2
           have hnb51 := NB114_108.out
           have hnc51 := NB108_114.out
           have := yC1 BK114
           have := kC1 BK114
           have := kC2 BK114
           have := bf BK114.out 0
           have := bf BK114.out 1
           have := bf BK114.out 2
           go_wp2
           go_meet
           case rel => exact ⟨_, (false), sqD, H', ⟨by have := HJ1.out; have := HJ7.out; have := HK3.out; first | omega | exact Nat.le_refl _⟩, ⟨by (with_reducible repeat first | apply bN | apply bd | apply ba); refine bF ?_ NB108_114.out _; (with_reducible repeat first | apply bN | apply bd | apply ba); refine bF ?_ NB108_114.out _; (with_reducible repeat first | apply bN | apply bd | apply ba); refine bF ?_ NB108_114.out _; (with_reducible repeat first | apply bN | apply bd | apply ba); refine bF ?_ NB108_113.out _; (with_reducible repeat first | apply bN | apply bd | apply ba); refine bF ?_ NB108_113.out _; (with_reducible repeat first | apply bN | apply bd | apply ba); refine bF ?_ NB108_113.out _; (with_reducible repeat first | apply bN | apply bd | apply ba); exact BK108.out⟩, ⟨by (with_reducible repeat first | apply bN | apply bd | apply ba); refine bF ?_ NB113_114.out _; (with_reducible repeat first | apply bN | apply bd | apply ba); refine bF ?_ NB113_114.out _; (with_reducible repeat first | apply bN | apply bd | apply ba); refine bF ?_ NB113_114.out _; (with_reducible repeat first | apply bN | apply bd | apply ba); refine bp (cs := #[.int .i64 ((rd_T54 l0_0 (ji20)).f0), .int .i64 ((rd_T54 l0_0 (ji20)).f1), .int .i64 0]) ?_ 2 _ rfl; (with_reducible repeat first | apply bN | apply bd | apply ba); refine bp (cs := #[.int .i64 ((rd_T54 l0_0 (ji20)).f0), .int .i64 0, .int .i64 0]) ?_ 1 _ rfl; (with_reducible repeat first | apply bN | apply bd | apply ba); refine bp (cs := #[.int .i64 0, .int .i64 0, .int .i64 0]) ?_ 0 _ rfl; (with_reducible repeat first | apply bN | apply bd | apply ba); exact BK113.out⟩, ⟨by (with_reducible repeat first | apply bN | apply bd | apply ba); refine bp (cs := #[.int .i64 ((rd_T54 l0_0 x4_3).f0), .int .i64 ((rd_T54 l0_0 x4_3).f1), .int .i64 0]) ?_ 2 _ rfl; (with_reducible repeat first | apply bN | apply bd | apply ba); refine bp (cs := #[.int .i64 ((rd_T54 l0_0 x4_3).f0), .int .i64 0, .int .i64 0]) ?_ 1 _ rfl; (with_reducible repeat first | apply bN | apply bd | apply ba); refine bp (cs := #[.int .i64 0, .int .i64 0, .int .i64 0]) ?_ 0 _ rfl; (with_reducible repeat first | apply bN | apply bd | apply ba); refine bF ?_ NB114_113.out _; (with_reducible repeat first | apply bN | apply bd | apply ba); refine bF ?_ NB114_113.out _; (with_reducible repeat first | apply bN | apply bd | apply ba); refine bF ?_ NB114_113.out _; (with_reducible repeat first | apply bN | apply bd | apply ba); exact BK114.out⟩, ⟨fW HB.out⟩⟩
          case rest =>
           clear HC24
           try clear c1;try clear p1;try clear q1;try clear hx1;try clear c2;try clear p2;try clear c3;try clear c4;try clear c4b0;try clear c4b1;try clear c5;try clear p6;try clear c7;try clear c10;try clear p11;try clear q11;try clear hx11;try clear c18;try clear c19;try clear c19b0;try clear c21;try clear c21b0;try clear c22;try clear c22b0;try clear c23;try clear c23b0;try clear c36;try clear c36b0;try clear c37;try clear c38;try clear c40;try clear c42;try clear c42b0;try clear c42b1;try clear c43;try clear c44;try clear c46;try clear c48;try clear c49;try clear c51;try clear hx111_0;try clear hx111_1;try clear hx111_2;try clear hx112_0;try clear hx112_1;try clear hx112_2;try clear p111;try clear p112;try clear p2;try clear q111;try clear q112
           obtain ⟨kq, x63_23, rfl, HA, HJ23, BK108, BK113, BK114, HB⟩ := hcut
           cases kq with
           | zero => exact absurd HA.out (by simp [shift_Check.j3])
           | succ kj23 =>
            have H := HA.out
            clear HA
            simp only [shift_Check.j3] at H
            by_cases c53 : x63_23 = true
            ·subst c53
             have H1 : (some 5) = some r := by rw [if_pos rfl] at H; exact H
             clear H
             have H := H1
             clear H1
             obtain rfl := Option.some.inj H
             go_wp2
             go_ret
             exact ⟨by first | rfl | (simp [errW_none, errW_some] <;> rfl) | (simp only [← hji20]; first | rfl | (simp [errW_none, errW_some] <;> rfl)) | (simp [*, errW_none, errW_some] <;> rfl), fW HB.out⟩
            replace c53 := Bool.eq_false_iff.mpr c53
            subst c53
            have H1 : (shift_Check.l0 kj23 (wrap64 (x4_3 + 1)) l0_0 l0_1) = some r := by rw [if_neg (show ¬ (false = true) by decide)] at H; exact H
            clear H
            have H := H1
            clear H1
            have H' := am H
            clear H
            go_wp2
            go_roundg kj23
            case measure => have := HJ1.out; have := HJ7.out; have := HK3.out; have := HJ23.out; omega
            case rel => exact ⟨(wrap64 (x4_3 + 1)), sqD, H', ⟨by have := HJ1.out; have := HJ7.out; have := HK3.out; have := HJ23.out; omega⟩, ⟨fb BK108.out⟩, ⟨fW HB.out⟩⟩
         ·rw [if_neg c19] at H
          have c19b0 : decide (x4_3 < (l0_0.length : Int)) = false := decide_eq_false c19
          clear c19
          have H' := am H
          clear H
          have := yC1 BK108
          have := kC1 BK108
          have := bf BK108.out 0
          have := bf BK108.out 1
          go_wp2
          go_loopg [7] k3 (fun kq v7 w' => ∃ (x7_4 : Int), v7 = .int .i64 x7_4 ∧ Aside0 (shift_Check.l1 kq x7_4 l0_0 l0_1 = some r) ∧ Aside0 (kq ≤ k3) ∧ Aside0 (w'.heap[gb108]? = some (.cells #[(.slice A0_0 l0_0.length c0_0), (.slice A0_1 l0_1.length c0_1)] 31 (0, 0))) ∧ Aside0 (Below w.heap.size w w'))
          case atStart => exact ⟨(1), sqD, H', ⟨Nat.le_refl _⟩, ⟨fb BK108.out⟩, ⟨fW HB.out⟩⟩
          case round =>
           clear H'
           try clear c1;try clear p1;try clear q1;try clear hx1;try clear c2;try clear p2;try clear c3;try clear c4;try clear c4b0;try clear c4b1;try clear c5;try clear p6;try clear c7;try clear c10;try clear p11;try clear q11;try clear hx11;try clear c18;try clear c19;try clear c19b0;try clear c21;try clear c21b0;try clear c22;try clear c22b0;try clear c23;try clear c23b0;try clear c36;try clear c36b0;try clear c37;try clear c38;try clear c40;try clear c42;try clear c42b0;try clear c42b1;try clear c43;try clear c44;try clear c46;try clear c48;try clear c49;try clear c51;try clear c53;try clear hx111_0;try clear hx111_1;try clear hx111_2;try clear hx112_0;try clear hx112_1;try clear hx112_2;try clear p1;try clear p11;try clear p111;try clear p112;try clear p2;try clear p6;try clear q1;try clear q11;try clear q111;try clear q112
           obtain ⟨x7_4, rfl, HA, HK4, BK108, HB⟩ := hrel
           cases gk with
           | zero => exact absurd HA.out (by simp [shift_Check.l1])
           | succ k4 =>
            have H := HA.out
            clear HA
            simp only [shift_Check.l1] at H
            by_cases c55 : x7_4 < (l0_1.length : Int)
            ·rw [if_pos c55] at H
             have c55b0 : decide (x7_4 < (l0_1.length : Int)) = true := decide_eq_true c55
             clear c55
             obtain ⟨ji56, hji56⟩ : ∃ j_ : Int, (wrap64 (x7_4 - 1)) = j_ := ⟨_, rfl⟩
             replace H : (if 0 ≤ (ji56) then (if (ji56) < (l0_1.length : Int) then (if 0 ≤ x7_4 then (if (rd l0_1 (ji56)) ≥ (rd l0_1 x7_4) then (some 5) else (shift_Check.l1 k4 (wrap64 (x7_4 + 1)) l0_0 l0_1)) else (none)) else (none)) else (none)) = some r := by first | (rw [hji56] at H; exact H) | (simp only [hji56] at H ⊢; exact H)
             have hji56w : (IntKind.i64.wrap (x7_4 - 1)) = ji56 := (i64_w _).trans hji56
             by_cases c57 : 0 ≤ (ji56)
             rotate_left
             ·rw [if_neg c57] at H
              exact absurd H (by simp)
             rw [if_pos c57] at H
             have c57b0 : decide (0 ≤ (ji56)) = true := decide_eq_true c57
             clear c57
             by_cases c58 : (ji56) < (l0_1.length : Int)
             rotate_left
             ·rw [if_neg c58] at H
              exact absurd H (by simp)
             rw [if_pos c58] at H
             have c58b0 : decide ((ji56) < (l0_1.length : Int)) = true := decide_eq_true c58
             clear c58
             by_cases c59 : 0 ≤ x7_4
             rotate_left
             ·rw [if_neg c59] at H
              exact absurd H (by simp)
             rw [if_pos c59] at H
             have c59b0 : decide (0 ≤ x7_4) = true := decide_eq_true c59
             clear c59
             by_cases c60 : (rd l0_1 (ji56)) ≥ (rd l0_1 x7_4)
             ·rw [if_pos c60] at H
              have c60b0 : decide ((rd l0_1 x7_4) ≤ (rd l0_1 (ji56))) = true := decide_eq_true c60
              clear c60
              obtain rfl := Option.some.inj H
              have := yC1 BK108
              have := kC1 BK108
              have := bf BK108.out 0
              have := bf BK108.out 1
              try go_wp2
              have n0_ := am (bd BK108.out)
              have n1_ := am (below_drew1 HB.out)
              clear BK108 HB
              have BK108 := n0_
              have HB := n1_
              clear n0_ n1_
              have p115 : 0 ≤ ((ji56) : Int) := of_decide_eq_true (by assumption)
              have q115 : (ji56) < (l0_1.length : Int) := of_decide_eq_true (by assumption)
              obtain ⟨ad115, e115, hx115_0⟩ := Kd.at_int HR0_1.out (ji56) p115 q115
              have hw115_0 := hx115_0
              cases e115
              replace hx115_0 := cl HB hx115_0
              replace p115 := eq_true p115
              replace q115 := eq_true q115
              have p116 : 0 ≤ (x7_4 : Int) := of_decide_eq_true (by assumption)
              have q116 : x7_4 < (l0_1.length : Int) := of_decide_eq_true (by assumption)
              obtain ⟨ad116, e116, hx116_0⟩ := Kd.at_int HR0_1.out x7_4 p116 q116
              have hw116_0 := hx116_0
              obtain rfl : ad115 = ad116 := (by injection e116)
              replace hx116_0 := cl HB hx116_0
              replace p116 := eq_true p116
              replace q116 := eq_true q116
              refine start_ (n := 12) (S := fun w' => w'.cell? ⟨gb108, 0, none⟩ = some (.slice A0_0 l0_0.length c0_0) ∧ w'.cell? ⟨gb108, 1, none⟩ = some (.slice (some ad115) l0_1.length c0_1) ∧ w'.cell? (ad115.add ((ji56)).toNat) = some (.int .i64 (rd l0_1 (ji56))) ∧ w'.cell? (ad115.add (x7_4).toNat) = some (.int .i64 (rd l0_1 x7_4))) (ds := []) #[F,F,F,F,F,F,F,F,F,F,F,F] (by kernel_rfl) rfl rfl ⟨(bc BK108.out 0).trans rfl, (bc BK108.out 1).trans rfl, ((HB.out.cell (bq w _ hw115_0)).trans hw115_0), ((HB.out.cell (bq w _ hw116_0)).trans hw116_0)⟩ (fun hHeld => ?_); refine with_tabW shift_Check.tab15 shift_Check.bits15 (fun HT_ HW_ => ?_)
              generalize wr.drew = w62 at BK108 HB hx115_0 hx116_0 hHeld ⊢
              refine pu (i := 0) (N := some 71) (fl 12 1 []) HT_ ?_
              refine pu (i := 2) (N := some 73) (fl 12 1 [2]) HT_ ?_
              refine pu (i := 3) (N := some 74) (fl 12 1 [2, 3]) HT_ ?_
              refine pu (i := 6) (N := some 77) (fl 12 1 [2, 3, 6]) HT_ ?_
              refine pu (i := 8) (N := some 79) (fl 12 1 [2, 3, 6, 8]) HT_ ?_
              refine tk (i := 1) (N := some 72) (fl 12 4 [6, 8]) HT_ HW_ hHeld ?_
              refine pu (i := 4) (N := some 75) (fl 12 5 [6, 8]) HT_ ?_
              refine tk (i := 5) (N := some 76) (fl 12 7 [8]) HT_ HW_ hHeld ?_
              refine tk (i := 7) (N := some 78) (fl 12 9 []) HT_ HW_ hHeld ?_
              refine pu (i := 9) (N := some 80) (fl 12 10 []) HT_ ?_
              refine tk (i := 10) (N := some 81) (fl 12 11 []) HT_ HW_ hHeld ?_
              refine pu (i := 11) (N := some 82) (fl 12 12 []) HT_ ?_
              refine done_ (done_of HT_.out (by kernel_rfl)) ?_
              try go_wp2
              go_ret
              exact ⟨by first | rfl | (simp [errW_none, errW_some] <;> rfl) | (simp only [← hji56]; first | rfl | (simp [errW_none, errW_some] <;> rfl)) | (simp [*, errW_none, errW_some] <;> rfl), fW HB.out⟩
             rw [if_neg c60] at H
             have c60b0 : decide ((rd l0_1 x7_4) ≤ (rd l0_1 (ji56))) = false := decide_eq_false c60
             clear c60
             have H' := am H
             clear H
             have := yC1 BK108
             have := kC1 BK108
             have := bf BK108.out 0
             have := bf BK108.out 1
             try go_wp2
             have n0_ := am (bd BK108.out)
             have n1_ := am (below_drew1 HB.out)
             clear BK108 HB
             have BK108 := n0_
             have HB := n1_
             clear n0_ n1_
             have p115 : 0 ≤ ((ji56) : Int) := of_decide_eq_true (by assumption)
             have q115 : (ji56) < (l0_1.length : Int) := of_decide_eq_true (by assumption)
             obtain ⟨ad115, e115, hx115_0⟩ := Kd.at_int HR0_1.out (ji56) p115 q115
             have hw115_0 := hx115_0
             cases e115
             replace hx115_0 := cl HB hx115_0
             replace p115 := eq_true p115
             replace q115 := eq_true q115
             have p116 : 0 ≤ (x7_4 : Int) := of_decide_eq_true (by assumption)
             have q116 : x7_4 < (l0_1.length : Int) := of_decide_eq_true (by assumption)
             obtain ⟨ad116, e116, hx116_0⟩ := Kd.at_int HR0_1.out x7_4 p116 q116
             have hw116_0 := hx116_0
             obtain rfl : ad115 = ad116 := (by injection e116)
             replace hx116_0 := cl HB hx116_0
             replace p116 := eq_true p116
             replace q116 := eq_true q116
             refine start_ (n := 12) (S := fun w' => w'.cell? ⟨gb108, 0, none⟩ = some (.slice A0_0 l0_0.length c0_0) ∧ w'.cell? ⟨gb108, 1, none⟩ = some (.slice (some ad115) l0_1.length c0_1) ∧ w'.cell? (ad115.add ((ji56)).toNat) = some (.int .i64 (rd l0_1 (ji56))) ∧ w'.cell? (ad115.add (x7_4).toNat) = some (.int .i64 (rd l0_1 x7_4))) (ds := []) #[F,F,F,F,F,F,F,F,F,F,F,F] (by kernel_rfl) rfl rfl ⟨(bc BK108.out 0).trans rfl, (bc BK108.out 1).trans rfl, ((HB.out.cell (bq w _ hw115_0)).trans hw115_0), ((HB.out.cell (bq w _ hw116_0)).trans hw116_0)⟩ (fun hHeld => ?_); refine with_tabW shift_Check.tab15 shift_Check.bits15 (fun HT_ HW_ => ?_)
             generalize wr.drew = w64 at BK108 HB hx115_0 hx116_0 hHeld ⊢
             refine pu (i := 0) (N := some 71) (fl 12 1 []) HT_ ?_
             refine pu (i := 2) (N := some 73) (fl 12 1 [2]) HT_ ?_
             refine pu (i := 3) (N := some 74) (fl 12 1 [2, 3]) HT_ ?_
             refine pu (i := 6) (N := some 77) (fl 12 1 [2, 3, 6]) HT_ ?_
             refine pu (i := 8) (N := some 79) (fl 12 1 [2, 3, 6, 8]) HT_ ?_
             refine tk (i := 1) (N := some 72) (fl 12 4 [6, 8]) HT_ HW_ hHeld ?_
             refine pu (i := 4) (N := some 75) (fl 12 5 [6, 8]) HT_ ?_
             refine tk (i := 5) (N := some 76) (fl 12 7 [8]) HT_ HW_ hHeld ?_
             refine tk (i := 7) (N := some 78) (fl 12 9 []) HT_ HW_ hHeld ?_
             refine pu (i := 9) (N := some 80) (fl 12 10 []) HT_ ?_
             refine tk (i := 10) (N := some 81) (fl 12 11 []) HT_ HW_ hHeld ?_
             refine pu (i := 11) (N := some 82) (fl 12 12 []) HT_ ?_
             refine done_ (done_of HT_.out (by kernel_rfl)) ?_
             try go_wp2
             go_roundg k4
             case measure => have := HJ1.out; have := HJ7.out; have := HK3.out; have := HK4.out; omega
             case rel => exact ⟨(wrap64 (x7_4 + 1)), sqD, H', ⟨by have := HJ1.out; have := HJ7.out; have := HK3.out; have := HK4.out; omega⟩, ⟨fb BK108.out⟩, ⟨fW HB.out⟩⟩
            ·rw [if_neg c55] at H
             have c55b0 : decide (x7_4 < (l0_1.length : Int)) = false := decide_eq_false c55
             clear c55
             obtain rfl := Option.some.inj H
             have := yC1 BK108
             have := kC1 BK108
             have := bf BK108.out 0
             have := bf BK108.out 1
             go_wp2
             go_ret
             exact ⟨sqE, fW HB.out⟩

end Go.Proofs.Ytpjgmlnnhcnelaa.QA
