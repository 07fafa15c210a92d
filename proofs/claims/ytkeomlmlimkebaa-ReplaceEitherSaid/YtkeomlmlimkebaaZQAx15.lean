import Derived.Test.YtkeomlmlimkebaaZQAx0
import Derived.Test.YtkeomlmlimkebaaZQAx12
namespace Go.Proofs.Ytkeomlmlimkebaa.QA
open Go.RowKit Go.Proofs.YtkeomlmlimkebaaW.PrintWords Go.Proofs.YtkeomlmlimkebaaW.PrintLast Go.Proofs.YtkeomlmlimkebaaW.PrintMore
open Go.Proofs.YtkeomlmlimkebaaW.PrintWords renaming blk_frozen → bf, blk_cell → bc
open Aside0 renaming mk → am
open World renaming block_lt_of_cell? → bq
attribute [local go_sem] max2_int min2_int max_two min_two max_three min_three max_four min_four
set_option linter.unusedVariables false
set_option linter.unusedSimpArgs false

mutual
def r_Lengths.l0 : Nat → List Int → Int → List (List Int) → Int → List Int → List Bool → Option (List Int)
 | 0, _, _, _, _, _, _ => none
 | k + 1, x3, x4, x404000, x404001, x404002, x404003 => if x4 < (x404000.length : Int) then (if x3.length < 17592186044416 then (r_Lengths.l0 k (x3 ++ [1000]) (wrap64 (x4 + 1)) x404000 x404001 x404002 x404003) else (none)) else (r_Lengths.l1 k x3 0 x404000 x404001 x404002 x404003)
def r_Lengths.l1 : Nat → List Int → Int → List (List Int) → Int → List Int → List Bool → Option (List Int)
 | 0, _, _, _, _, _, _ => none
 | k + 1, x3, x5, x404000, x404001, x404002, x404003 => if x5 < (x404000.length : Int) then (r_Lengths.l2 k x3 x5 0 x404000 x404001 x404002 x404003) else (some x3)
def r_Lengths.l2 : Nat → List Int → Int → Int → List (List Int) → Int → List Int → List Bool → Option (List Int)
 | 0, _, _, _, _, _, _, _ => none
 | k + 1, x3, x5, x6, x404000, x404001, x404002, x404003 => if x6 < (x404000.length : Int) then (r_Lengths.l3 k x3 x5 x6 0 x404000 x404001 x404002 x404003) else (r_Lengths.l1 k x3 (wrap64 (x5 + 1)) x404000 x404001 x404002 x404003)
def r_Lengths.l3 : Nat → List Int → Int → Int → Int → List (List Int) → Int → List Int → List Bool → Option (List Int)
 | 0, _, _, _, _, _, _, _, _ => none
 | k + 1, x3, x5, x6, x7, x404000, x404001, x404002, x404003 => if 0 ≤ x6 then (if x6 < (x404000.length : Int) then (if x7 < ((rd_L1 x404000 x6).length : Int) then (if 0 ≤ x7 then ((r_User.f k x404000 x404001 x404002 x404003 (rd (rd_L1 x404000 x6) x7)).bind fun t413 => (if t413 < 0 then (if x6 < (x3.length : Int) then (r_Lengths.l3 k (x3.set (x6 : Int).toNat 1) x5 x6 (wrap64 (x7 + 1)) x404000 x404001 x404002 x404003) else (none)) else (if t413 = x6 then (r_Lengths.l3 k x3 x5 x6 (wrap64 (x7 + 1)) x404000 x404001 x404002 x404003) else (if 0 ≤ t413 then (if t413 < (x404003.length : Int) then (if rdOf false x404003 t413 = true then (r_Lengths.l3 k x3 x5 x6 (wrap64 (x7 + 1)) x404000 x404001 x404002 x404003) else (if t413 < (x3.length : Int) then (if (rd x3 t413) < 1000 then (if x6 < (x3.length : Int) then (r_Lengths.l3 k (x3.set (x6 : Int).toNat (mn (rd x3 x6) (wrap64 ((rd x3 t413) + 1)))) x5 x6 (wrap64 (x7 + 1)) x404000 x404001 x404002 x404003) else (none)) else (r_Lengths.l3 k x3 x5 x6 (wrap64 (x7 + 1)) x404000 x404001 x404002 x404003)) else (none))) else (none)) else (none))))) else (none)) else (r_Lengths.l2 k x3 x5 (wrap64 (x6 + 1)) x404000 x404001 x404002 x404003)) else (none)) else (none)
end
def r_Lengths.f (k : Nat) (l0_0 : List (List Int)) (a0_1 : Int) (l0_2 : List Int) (l0_3 : List Bool) : Option (List Int) := r_Lengths.l0 k (([] : List Int)) 0 l0_0 a0_1 l0_2 l0_3
def r_Lengths.T15 : Bool × List (List Nat × List Nat) := (true, [([], []), ([], []), ([1], [1]), ([], []), ([2, 3], [2, 3]), ([4], [4]), ([], []), ([5, 6], [5, 6]), ([7], [7]), ([0, 8], [0, 8]), ([9, 9, 0, 1, 2, 3, 4, 5, 6, 7, 8, 9], [9])])
def r_Lengths.B15 : List Nat := [0, 0, 2, 0, 14, 30, 0, 126, 254, 511, 1023]
theorem r_Lengths.tab15 : rtab .any (opsOf Try.f42 15) = r_Lengths.T15 := by kernel_rfl
theorem r_Lengths.bits15 : waitsOk r_Lengths.T15.2 r_Lengths.B15 = true := by kernel_rfl
def r_Lengths.T19 : Bool × List (List Nat × List Nat) := (true, [([], []), ([], []), ([], []), ([], []), ([2, 3], [2, 3]), ([4], [4]), ([], []), ([], []), ([6, 7], [6, 7]), ([8], [8]), ([9], [9]), ([5, 10], [5, 10]), ([0, 1, 0, 1, 2, 3, 4, 5, 6, 7, 8, 9, 10, 11], [0, 1]), ([12, 11, 0, 1, 2, 3, 4, 5, 6, 7, 8, 9, 10, 11], [11, 12])])
def r_Lengths.B19 : List Nat := [0, 0, 0, 0, 12, 28, 0, 0, 192, 448, 960, 2044, 4095, 8191]
theorem r_Lengths.tab19 : rtab .any (opsOf Try.f42 19) = r_Lengths.T19 := by kernel_rfl
theorem r_Lengths.bits19 : waitsOk r_Lengths.T19.2 r_Lengths.B19 = true := by kernel_rfl
set_option maxHeartbeats 8000000 in
set_option maxRecDepth 100000 in
theorem r_Lengths.calls (k : Nat) (A0_0 : Option Addr) (c0_0 : Nat) (l0_0 : List (List Int)) (a0_1 : Int) (A0_2 : Option Addr) (c0_2 : Nat) (l0_2 : List Int) (A0_3 : Option Addr) (c0_3 : Nat) (l0_3 : List Bool) (r : List Int) (w : World) (hr0_0 : Kd.C (Kd.slice 3 (Kd.int .i64)) w A0_0 l0_0.length l0_0) (hc0_0 : l0_0.length ≤ c0_0) (hr0_2 : Kd.C (Kd.int .i64) w A0_2 l0_2.length l0_2) (hc0_2 : l0_2.length ≤ c0_2) (hr0_3 : Kd.C Kd.bool w A0_3 l0_3.length l0_3) (hc0_3 : l0_3.length ≤ c0_3) (h : r_Lengths.f k l0_0 a0_1 l0_2 l0_3 = some r) :
  Calls Try.prog 42 #[.agg #[.slice A0_0 l0_0.length c0_0, .int .i64 a0_1, .slice A0_2 l0_2.length c0_2, .slice A0_3 l0_3.length c0_3]] w fun e w' => ∃ v0_ : Value, e = .returned (v0_) ∧ Kd.R (Kd.int .i64) 3 w' w.heap.size (fun _ => True) v0_ r ∧ Below w.heap.size w w' := by
 have hu26 := Try.underlying26
 have HR0_0 := am hr0_0
 have HC0_0 := am hc0_0
 clear hr0_0 hc0_0
 have HR0_2 := am hr0_2
 have HC0_2 := am hc0_2
 clear hr0_2 hc0_2
 have HR0_3 := am hr0_3
 have HC0_3 := am hc0_3
 clear hr0_3 hc0_3
 have HB := am (Below.refl w.heap.size w)
 have H : (r_Lengths.l0 k (([] : List Int)) 0 l0_0 a0_1 l0_2 l0_3) = some r := h
 clear h
 obtain ⟨y404, hy404⟩ : ∃ y_ : List Int, y_ = (([] : List Int)) := ⟨_, rfl⟩
 replace H : (r_Lengths.l0 k y404 0 l0_0 a0_1 l0_2 l0_3) = some r := by first | (rw [hy404]; with_reducible exact H) | (have H2_ := (Option.bind_some _ _).symm.trans H; rw [hy404]; with_reducible exact H2_) | (have H2_ := (Option.bind_some _ _).symm.trans H; with_reducible exact H2_) | with_reducible exact H | (rw [hy404]; exact H) | exact H
 have Ny404 := am hy404
 clear hy404
 have H' := am H
 clear H
 go_enter Try.func42, Try.ntmps42
 go_wp2_with (first | ((with_reducible refine gate_dst (N := 1) rfl ?_); refine box_event ?hg (N := 1) ?hd (cs := #[.slice A0_0 l0_0.length c0_0, .int .i64 a0_1, .slice A0_2 l0_2.length c0_2, .slice A0_3 l0_3.length c0_3]) (t := 26) ?hr ?_; (case hd | hg => rfl); (case hr => first | (go_simp; done) | (go_simp; rfl)); intro gb403 hg w2 hbox hb; have BK403 := am hbox; have GW403 := sG HB hg; have GE403 := sG HB hg; replace HB := bS HB hb; clear hb hbox hg) | ((with_reducible refine gate_dst (N := 9) rfl ?_); refine Kd.R_lit (Kd.int .i64) _ 3 ?hg (N := 9) ?hd (xs := ([] : List Int)) (inner := []) (ok := fun _ => True) (okp := fun _ => True) ?hr ?hp (fun _ hk => hk) trivial (Below.refl _ _) (Nat.le_refl _) (by simp) ?_; (case hd | hg => rfl); (case hr => first | (go_simp; done) | (go_simp; rfl)); (case hp => exact (Reps.none _ _)); intro v405 w3 ho4 hb hg_ hnew_; clear hg_ hnew_; (first | rw [← Ny404.out] at ho4 | (simp only [Int.reduceToNat] at ho4; rw [← Ny404.out] at ho4)); have HO406 := am (Kd.R_lower ho4 (below_size (fW HB.out))); replace BK403 := bB BK403 hb; replace HB := bS HB hb; clear hb ho4))
 go_loopg [3, 4] k (fun kq v3 v4 w' => ∃ (x3_1 : List Int) (x4_1 : Int), v4 = .int .i64 x4_1 ∧ Aside0 (r_Lengths.l0 kq x3_1 x4_1 l0_0 a0_1 l0_2 l0_3 = some r) ∧ Aside0 (kq ≤ k) ∧ Aside0 (Kd.R (Kd.int .i64) 3 w' w.heap.size (fun _ => True) v3 x3_1) ∧ Aside0 (w'.heap[gb403]? = some (.cells #[(.slice A0_0 l0_0.length c0_0), .int .i64 a0_1, (.slice A0_2 l0_2.length c0_2), (.slice A0_3 l0_3.length c0_3)] 26 (0, 0))) ∧ Aside0 (Below w.heap.size w w'))
 case atStart => exact ⟨(y404), (0), sqD, H', ⟨Nat.le_refl _⟩, ⟨fR HO406.out⟩, ⟨fb BK403.out⟩, ⟨fW HB.out⟩⟩
 case round =>
  clear H'
  try clear p2;try clear c4
  obtain ⟨x3_1, x4_1, rfl, HA, HK1, HO_3, BK403, HB⟩ := hrel
  cases gk with
  | zero => exact absurd HA.out (by simp [r_Lengths.l0])
  | succ k1 =>
   have H := HA.out
   clear HA
   simp only [r_Lengths.l0] at H
   by_cases c5 : x4_1 < (l0_0.length : Int)
   ·rw [if_pos c5] at H
    have c5b0 : decide (x4_1 < (l0_0.length : Int)) = true := decide_eq_true c5
    clear c5
    by_cases c6 : x3_1.length < 17592186044416
    rotate_left
    ·rw [if_neg c6] at H
     exact absurd H (by simp)
    rw [if_pos c6] at H
    have LMc6 := am c6
    clear c6
    obtain ⟨y407, hy407⟩ : ∃ y_ : List Int, y_ = (x3_1 ++ [1000]) := ⟨_, rfl⟩
    replace H : (r_Lengths.l0 k1 y407 (wrap64 (x4_1 + 1)) l0_0 a0_1 l0_2 l0_3) = some r := by first | (rw [hy407]; with_reducible exact H) | (have H2_ := (Option.bind_some _ _).symm.trans H; rw [hy407]; with_reducible exact H2_) | (have H2_ := (Option.bind_some _ _).symm.trans H; with_reducible exact H2_) | with_reducible exact H | (rw [hy407]; exact H) | exact H
    have Ny407 := am hy407
    clear hy407
    have H' := am H
    clear H
    have := yC1 BK403
    have := kC1 BK403
    have := kC2 BK403
    have := kC3 BK403
    have := bf BK403.out 0
    have := bf BK403.out 1
    have := bf BK403.out 2
    have := bf BK403.out 3
    go_wp2_with (first | ((with_reducible refine gate_builtin (b := .append) (xs := #[.tmp 17, .tmp 18]) rfl ?_); at_builtin; refine Kd.R_append (Kd.int .i64) (w0 := w) w.heap.size rfl (.tmp 17) (.tmp 18) 23 3 (.int .i64 0) 8 rfl Try.underlying23 info3 rfl (by decide) (by omega) u3 x3_1 1000 [.int .i64 1000] (fun _ => True) (fun _ => False) rfl rfl ?aP (fun _ hk => hk.elim) ?aF ?aO ?aB ?aS ?aL ?_; (case aP => exact rfl); (case aB => exact (fW HB.out)); (case aF => exact (fun _ _ => trivial)); (case aO => exact (fR HO_3.out)); (case aS => exact (below_size (fW HB.out))); (case aL => have := LMc6.out; omega); intro v408 w8 ho hb hg hat; rw [← Ny407.out] at ho; replace BK403 := am (blk_grown (g := gb403) (o := .cells #[.slice A0_0 l0_0.length c0_0, .int .i64 a0_1, .slice A0_2 l0_2.length c0_2, .slice A0_3 l0_3.length c0_3] 26 (0, 0)) (fb BK403.out) hg (Kd.R_ne HO_3.out BK403.out (by decide))); replace HB := am (hb); have HO409 := am (ho); clear HO_3 ho hb hg hat))
    go_roundg k1
    case measure => have := HK1.out; omega
    case rel => exact ⟨(y407), (wrap64 (x4_1 + 1)), sqD, H', ⟨by have := HK1.out; omega⟩, ⟨fR HO409.out⟩, ⟨fb BK403.out⟩, ⟨fW HB.out⟩⟩
   ·rw [if_neg c5] at H
    have c5b0 : decide (x4_1 < (l0_0.length : Int)) = false := decide_eq_false c5
    clear c5
    have H' := am H
    clear H
    have := yC1 BK403
    have := kC1 BK403
    have := kC2 BK403
    have := kC3 BK403
    have := bf BK403.out 0
    have := bf BK403.out 1
    have := bf BK403.out 2
    have := bf BK403.out 3
    go_wp2
    go_loopg [5] k1 (fun kq v5 w' => ∃ (x3_2 : List Int) (x5_2 : Int), v5 = .int .i64 x5_2 ∧ Aside0 (r_Lengths.l1 kq x3_2 x5_2 l0_0 a0_1 l0_2 l0_3 = some r) ∧ Aside0 (kq ≤ k1) ∧ Aside0 (Kd.R (Kd.int .i64) 3 w' w.heap.size (fun _ => True) u3 x3_2) ∧ Aside0 (w'.heap[gb403]? = some (.cells #[(.slice A0_0 l0_0.length c0_0), .int .i64 a0_1, (.slice A0_2 l0_2.length c0_2), (.slice A0_3 l0_3.length c0_3)] 26 (0, 0))) ∧ Aside0 (Below w.heap.size w w'))
    case atStart => exact ⟨(x3_1), (0), sqD, H', ⟨Nat.le_refl _⟩, ⟨fR HO_3.out⟩, ⟨fb BK403.out⟩, ⟨fW HB.out⟩⟩
    case round =>
     clear H'
     try clear p2;try clear c4;try clear c5;try clear c5b0;try clear c6;try clear p6;try clear p2
     obtain ⟨x3_2, x5_2, rfl, HA, HK2, HO_3, BK403, HB⟩ := hrel
     cases gk with
     | zero => exact absurd HA.out (by simp [r_Lengths.l1])
     | succ k2 =>
      have H := HA.out
      clear HA
      simp only [r_Lengths.l1] at H
      by_cases c10 : x5_2 < (l0_0.length : Int)
      ·rw [if_pos c10] at H
       have c10b0 : decide (x5_2 < (l0_0.length : Int)) = true := decide_eq_true c10
       clear c10
       have H' := am H
       clear H
       have := yC1 BK403
       have := kC1 BK403
       have := kC2 BK403
       have := kC3 BK403
       have := bf BK403.out 0
       have := bf BK403.out 1
       have := bf BK403.out 2
       have := bf BK403.out 3
       go_wp2
       go_loopg [6] k2 (fun kq v6 w' => ∃ (x3_3 : List Int) (x6_3 : Int), v6 = .int .i64 x6_3 ∧ Aside0 (r_Lengths.l2 kq x3_3 x5_2 x6_3 l0_0 a0_1 l0_2 l0_3 = some r) ∧ Aside0 (kq ≤ k2) ∧ Aside0 (Kd.R (Kd.int .i64) 3 w' w.heap.size (fun _ => True) u3 x3_3) ∧ Aside0 (w'.heap[gb403]? = some (.cells #[(.slice A0_0 l0_0.length c0_0), .int .i64 a0_1, (.slice A0_2 l0_2.length c0_2), (.slice A0_3 l0_3.length c0_3)] 26 (0, 0))) ∧ Aside0 (Below w.heap.size w w'))
       case atStart => exact ⟨(x3_2), (0), sqD, H', ⟨Nat.le_refl _⟩, ⟨fR HO_3.out⟩, ⟨fb BK403.out⟩, ⟨fW HB.out⟩⟩
       case round =>
        clear H'
        try clear c1;try clear p2;try clear c4;try clear c5;try clear c5b0;try clear c6;try clear p6;try clear c10;try clear c10b0;try clear p2;try clear p6
        obtain ⟨x3_3, x6_3, rfl, HA, HK3, HO_3, BK403, HB⟩ := hrel
        cases gk with
        | zero => exact absurd HA.out (by simp [r_Lengths.l2])
        | succ k3 =>
         have H := HA.out
         clear HA
         simp only [r_Lengths.l2] at H
         by_cases c12 : x6_3 < (l0_0.length : Int)
         rotate_left
         ·rw [if_neg c12] at H
          have c12b0 : decide (x6_3 < (l0_0.length : Int)) = false := decide_eq_false c12
          clear c12
          have H' := am H
          clear H
          have := yC1 BK403
          have := kC1 BK403
          have := kC2 BK403
          have := kC3 BK403
          have := bf BK403.out 0
          have := bf BK403.out 1
          have := bf BK403.out 2
          have := bf BK403.out 3
          go_wp2
          go_roundg k3
          case measure => have := HK1.out; have := HK2.out; have := HK3.out; omega
          case rel => exact ⟨(x3_3), (wrap64 (x5_2 + 1)), sqD, H', ⟨by have := HK1.out; have := HK2.out; have := HK3.out; omega⟩, ⟨fR HO_3.out⟩, ⟨fb BK403.out⟩, ⟨fW HB.out⟩⟩
         rw [if_pos c12] at H
         have c12b0 : decide (x6_3 < (l0_0.length : Int)) = true := decide_eq_true c12
         clear c12
         have H' := am H
         clear H
         have := yC1 BK403
         have := kC1 BK403
         have := kC2 BK403
         have := kC3 BK403
         have := bf BK403.out 0
         have := bf BK403.out 1
         have := bf BK403.out 2
         have := bf BK403.out 3
         go_wp2
         go_loopg [7] k3 (fun kq v7 w' => ∃ (x3_4 : List Int) (x7_4 : Int), v7 = .int .i64 x7_4 ∧ Aside0 (r_Lengths.l3 kq x3_4 x5_2 x6_3 x7_4 l0_0 a0_1 l0_2 l0_3 = some r) ∧ Aside0 (kq ≤ k3) ∧ Aside0 (Kd.R (Kd.int .i64) 3 w' w.heap.size (fun _ => True) u3 x3_4) ∧ Aside0 (w'.heap[gb403]? = some (.cells #[(.slice A0_0 l0_0.length c0_0), .int .i64 a0_1, (.slice A0_2 l0_2.length c0_2), (.slice A0_3 l0_3.length c0_3)] 26 (0, 0))) ∧ Aside0 (Below w.heap.size w w'))
         case atStart => exact ⟨(x3_3), (0), sqD, H', ⟨Nat.le_refl _⟩, ⟨fR HO_3.out⟩, ⟨fb BK403.out⟩, ⟨fW HB.out⟩⟩
         case round =>
          clear H'
          try clear c1;try clear p2;try clear c4;try clear c5;try clear c5b0;try clear c6;try clear p6;try clear c10;try clear c10b0;try clear c12;try clear c12b0;try clear p2;try clear p6
          obtain ⟨x3_4, x7_4, rfl, HA, HK4, HO_3, BK403, HB⟩ := hrel
          cases gk with
          | zero => exact absurd HA.out (by simp [r_Lengths.l3])
          | succ k4 =>
           have H := HA.out
           clear HA
           simp only [r_Lengths.l3] at H
           by_cases c14 : 0 ≤ x6_3
           rotate_left
           ·rw [if_neg c14] at H
            exact absurd H (by simp)
           rw [if_pos c14] at H
           have c14b0 : decide (0 ≤ x6_3) = true := decide_eq_true c14
           clear c14
           by_cases c15 : x6_3 < (l0_0.length : Int)
           rotate_left
           ·rw [if_neg c15] at H
            exact absurd H (by simp)
           rw [if_pos c15] at H
           have c15b0 : decide (x6_3 < (l0_0.length : Int)) = true := decide_eq_true c15
           clear c15
           by_cases c16 : x7_4 < ((rd_L1 l0_0 x6_3).length : Int)
           rotate_left
           ·rw [if_neg c16] at H
            have c16b0 : decide (x7_4 < ((rd_L1 l0_0 x6_3).length : Int)) = false := decide_eq_false c16
            clear c16
            have H' := am H
            clear H
            have := yC1 BK403
            have := kC1 BK403
            have := kC2 BK403
            have := kC3 BK403
            have := bf BK403.out 0
            have := bf BK403.out 1
            have := bf BK403.out 2
            have := bf BK403.out 3
            have p410 : 0 ≤ (x6_3 : Int) := of_decide_eq_true (by assumption)
            have q410 : x6_3 < (l0_0.length : Int) := of_decide_eq_true (by assumption)
            obtain ⟨ad410, A410_0, c410_0, e410, hx410_0, hl410_0, hi410_0⟩ := at_L1 HR0_0.out x6_3 p410 q410
            cases e410
            replace hx410_0 := cl HB hx410_0
            have HR410_0 := am hi410_0
            have HC410_0 := am hl410_0
            clear hi410_0 hl410_0
            replace p410 := eq_true p410
            replace q410 := eq_true q410
            go_wp2
            go_roundg k4
            case measure => have := HK1.out; have := HK2.out; have := HK3.out; have := HK4.out; omega
            case rel => exact ⟨(x3_4), (wrap64 (x6_3 + 1)), sqD, H', ⟨by have := HK1.out; have := HK2.out; have := HK3.out; have := HK4.out; omega⟩, ⟨fR HO_3.out⟩, ⟨fb BK403.out⟩, ⟨fW HB.out⟩⟩
           rw [if_pos c16] at H
           have c16b0 : decide (x7_4 < ((rd_L1 l0_0 x6_3).length : Int)) = true := decide_eq_true c16
           clear c16
           by_cases c17 : 0 ≤ x7_4
           rotate_left
           ·rw [if_neg c17] at H
            exact absurd H (by simp)
           rw [if_pos c17] at H
           have c17b0 : decide (0 ≤ x7_4) = true := decide_eq_true c17
           clear c17
           replace H := Option.bind_eq_some_iff.mp H
           obtain ⟨t413, A180, H⟩ := H
           replace H : (if t413 < 0 then (if x6_3 < (x3_4.length : Int) then (r_Lengths.l3 k4 (x3_4.set (x6_3 : Int).toNat 1) x5_2 x6_3 (wrap64 (x7_4 + 1)) l0_0 a0_1 l0_2 l0_3) else (none)) else (if t413 = x6_3 then (r_Lengths.l3 k4 x3_4 x5_2 x6_3 (wrap64 (x7_4 + 1)) l0_0 a0_1 l0_2 l0_3) else (if 0 ≤ t413 then (if t413 < (l0_3.length : Int) then (if rdOf false l0_3 t413 = true then (r_Lengths.l3 k4 x3_4 x5_2 x6_3 (wrap64 (x7_4 + 1)) l0_0 a0_1 l0_2 l0_3) else (if t413 < (x3_4.length : Int) then (if (rd x3_4 t413) < 1000 then (if x6_3 < (x3_4.length : Int) then (r_Lengths.l3 k4 (x3_4.set (x6_3 : Int).toNat (mn (rd x3_4 x6_3) (wrap64 ((rd x3_4 t413) + 1)))) x5_2 x6_3 (wrap64 (x7_4 + 1)) l0_0 a0_1 l0_2 l0_3) else (none)) else (r_Lengths.l3 k4 x3_4 x5_2 x6_3 (wrap64 (x7_4 + 1)) l0_0 a0_1 l0_2 l0_3)) else (none))) else (none)) else (none)))) = some r := H
           have A18 := am A180
           clear A180
           by_cases c19 : t413 < 0
           ·rw [if_pos c19] at H
            have c19b0 : decide (t413 < 0) = true := decide_eq_true c19
            clear c19
            by_cases c20 : x6_3 < (x3_4.length : Int)
            rotate_left
            ·rw [if_neg c20] at H
             exact absurd H (by simp)
            rw [if_pos c20] at H
            have c20b0 : decide (x6_3 < (x3_4.length : Int)) = true := decide_eq_true c20
            clear c20
            obtain ⟨y414, hy414⟩ : ∃ y_ : List Int, y_ = (x3_4.set (x6_3 : Int).toNat 1) := ⟨_, rfl⟩
            replace H : (r_Lengths.l3 k4 y414 x5_2 x6_3 (wrap64 (x7_4 + 1)) l0_0 a0_1 l0_2 l0_3) = some r := by first | (rw [hy414]; with_reducible exact H) | (have H2_ := (Option.bind_some _ _).symm.trans H; rw [hy414]; with_reducible exact H2_) | (have H2_ := (Option.bind_some _ _).symm.trans H; with_reducible exact H2_) | with_reducible exact H | (rw [hy414]; exact H) | exact H
            have Ny414 := am hy414
            clear hy414
            have H' := am H
            clear H
            have := yC1 BK403
            have := kC1 BK403
            have := kC2 BK403
            have := kC3 BK403
            have := bf BK403.out 0
            have := bf BK403.out 1
            have := bf BK403.out 2
            have := bf BK403.out 3
            have p410 : 0 ≤ (x6_3 : Int) := of_decide_eq_true (by assumption)
            have q410 : x6_3 < (l0_0.length : Int) := of_decide_eq_true (by assumption)
            obtain ⟨ad410, A410_0, c410_0, e410, hx410_0, hl410_0, hi410_0⟩ := at_L1 HR0_0.out x6_3 p410 q410
            cases e410
            replace hx410_0 := cl HB hx410_0
            have HR410_0 := am hi410_0
            have HC410_0 := am hl410_0
            clear hi410_0 hl410_0
            replace p410 := eq_true p410
            replace q410 := eq_true q410
            try go_wp2
            have n0_ := am (Kd.R_drew HO_3.out)
            have n1_ := am (blk_drew BK403.out)
            have n2_ := am (below_drew1 HB.out)
            clear HO_3 BK403 HB
            have HO_3 := n0_
            have BK403 := n1_
            have HB := n2_
            clear n0_ n1_ n2_
            have p411 : 0 ≤ (x6_3 : Int) := of_decide_eq_true (by assumption)
            have q411 : x6_3 < (l0_0.length : Int) := of_decide_eq_true (by assumption)
            obtain ⟨ad411, A411_0, c411_0, e411, hx411_0, hl411_0, hi411_0⟩ := at_L1 HR0_0.out x6_3 p411 q411
            have hw411_0 := hx411_0
            obtain rfl : ad410 = ad411 := (by injection e411)
            replace hx411_0 := cl HB hx411_0
            have HR411_0 := am hi411_0
            have HC411_0 := am hl411_0
            clear hi411_0 hl411_0
            replace p411 := eq_true p411
            replace q411 := eq_true q411
            have p412 : 0 ≤ (x7_4 : Int) := of_decide_eq_true (by assumption)
            have q412 : x7_4 < ((rd_L1 l0_0 x6_3).length : Int) := of_decide_eq_true (by assumption)
            obtain ⟨ad412, e412, hx412_0⟩ := Kd.at_int HR411_0.out x7_4 p412 q412
            have hw412_0 := hx412_0
            cases e412
            replace hx412_0 := cl HB hx412_0
            replace p412 := eq_true p412
            replace q412 := eq_true q412
            refine start_ (n := 11) (S := fun w' => w'.cell? ⟨gb403, 0, none⟩ = some (.slice (some ad410) l0_0.length c0_0) ∧ w'.cell? ⟨gb403, 1, none⟩ = some (.int .i64 a0_1) ∧ w'.cell? ⟨gb403, 2, none⟩ = some (.slice A0_2 l0_2.length c0_2) ∧ w'.cell? ⟨gb403, 3, none⟩ = some (.slice A0_3 l0_3.length c0_3) ∧ w'.cell? (ad410.add (x6_3).toNat) = some (.slice (some ad412) (rd_L1 l0_0 x6_3).length c411_0) ∧ w'.cell? (ad412.add (x7_4).toNat) = some (.int .i64 (rd (rd_L1 l0_0 x6_3) x7_4))) (ds := []) #[F,F,F,F,F,F,F,F,F,F,F] (by kernel_rfl) rfl rfl ⟨(bc BK403.out 0).trans rfl, (bc BK403.out 1).trans rfl, (bc BK403.out 2).trans rfl, (bc BK403.out 3).trans rfl, ((HB.out.cell (bq w _ hw411_0)).trans hw411_0), ((HB.out.cell (bq w _ hw412_0)).trans hw412_0)⟩ (fun hHeld => ?_); refine with_tabW r_Lengths.tab15 r_Lengths.bits15 (fun HT_ HW_ => ?_)
            generalize wr.drew = w23 at HO_3 BK403 HB HR411_0 hx411_0 hx412_0 hHeld ⊢
            refine pu (i := 1) (N := some 45) (fl 11 0 [1]) HT_ ?_
            refine pu (i := 3) (N := some 47) (fl 11 0 [1, 3]) HT_ ?_
            refine pu (i := 6) (N := some 50) (fl 11 0 [1, 3, 6]) HT_ ?_
            refine tk (i := 0) (N := some 44) (fl 11 2 [3, 6]) HT_ HW_ hHeld ?_
            refine tk (i := 2) (N := some 46) (fl 11 4 [6]) HT_ HW_ hHeld ?_
            refine pu (i := 4) (N := some 48) (fl 11 5 [6]) HT_ ?_
            refine tk (i := 5) (N := some 49) (fl 11 7 []) HT_ HW_ hHeld ?_
            refine pu (i := 7) (N := some 51) (fl 11 8 []) HT_ ?_
            refine tk (i := 8) (N := some 52) (fl 11 9 []) HT_ HW_ hHeld ?_
            refine one_ (i := 9) (N := some 53) (fl 11 10 []) rfl rfl (one_of HT_.out (by kernel_rfl)) (by decide) (fun K hK => ?_)
            refine goes_ Try.func29 (by kernel_rfl) rfl #[.agg #[.slice (some ad410) l0_0.length c0_0, .int .i64 a0_1, .slice A0_2 l0_2.length c0_2, .slice A0_3 l0_3.length c0_3], .int .i64 (rd (rd_L1 l0_0 x6_3) x7_4)] (by rfl) rfl rfl (by (try simp only [pml]); first | done | rfl | (simp only [pdt]; rfl)) ?_
            with_reducible refine (r_User.calls k4 _ _ l0_0 a0_1 _ _ l0_2 _ _ l0_3 (rd (rd_L1 l0_0 x6_3) x7_4) t413 _ ?side1 ?side2 ?side3 ?side4 ?side5 ?side6 A18.out).mono ?_
            (case side1 => repeat (first | exact (Kd.C_below HR0_0.out HB.out) | (with_reducible refine Kd.C_alloc ?_ _) | (with_reducible refine Kd.C_drewN ?_ _) | (with_reducible refine Kd.C_drew ?_)))
            (case side2 => exact HC0_0.out)
            (case side3 => repeat (first | exact (Kd.C_below HR0_2.out HB.out) | (with_reducible refine Kd.C_alloc ?_ _) | (with_reducible refine Kd.C_drewN ?_ _) | (with_reducible refine Kd.C_drew ?_)))
            (case side4 => exact HC0_2.out)
            (case side5 => repeat (first | exact (Kd.C_below HR0_3.out HB.out) | (with_reducible refine Kd.C_alloc ?_ _) | (with_reducible refine Kd.C_drewN ?_ _) | (with_reducible refine Kd.C_drew ?_)))
            (case side6 => exact HC0_3.out)
            rintro e w24 ⟨rfl, hb⟩
            refine ⟨_, rfl, ?_⟩
            have n0_ := dR HO_3 hb
            have n1_ := bB BK403 hb
            have n2_ := bS HB hb
            clear HO_3 BK403 HB
            have HO_3 := n0_
            have BK403 := n1_
            have HB := n2_
            clear n0_ n1_ n2_
            (try clear hb)
            (try clear hb2)
            (try clear hk)
            (try clear hi)
            refine hK.out _ _ ⟨(bc BK403.out 0).trans rfl, (bc BK403.out 1).trans rfl, (bc BK403.out 2).trans rfl, (bc BK403.out 3).trans rfl, ((HB.out.cell (bq w _ hw411_0)).trans hw411_0), ((HB.out.cell (bq w _ hw412_0)).trans hw412_0)⟩ (fun hHeld => ?_)
            clear hK K
            refine norm_ (a' := ?_) ?_ ?_
            rotate_left
            ·show Act.put _ (some 53) _ = _
             simp only [Act.put, psl, i64_w, i32_w]
             rfl
            refine pu (i := 10) (N := some 8) (fl 11 11 []) HT_ ?_
            refine done_ (done_of HT_.out (by kernel_rfl)) ?_
            have p21 : 0 ≤ (x6_3 : Int) := of_decide_eq_true (by assumption)
            have q21 : (x6_3 : Int) < ((x3_4.length : Int) : Int) := of_decide_eq_true (by assumption)
            obtain ⟨go21, co21, eo21, gb21, gl21, cl21, HG21⟩ := Kd.R_form HO_3.out (by omega)
            (first | cases eo21 | (injection eo21 with ea_ en_ ec_; (first | subst ea_ | (injection ea_ with ea_; subst ea_)); subst ec_; clear en_))
            have GB21 := am gb21
            have GG21 := am HG21
            clear gb21 gl21 HG21
            obtain ⟨hx21_0, hf21_0⟩ := Kd.R_celln 0 HO_3.out (x6_3 : Int) p21 q21
            replace p21 := eq_true p21
            replace q21 := eq_true q21
            obtain ⟨hy25_, hz25_⟩ := Kd.R_celln 0 HO_3.out (x6_3 : Int) (of_decide_eq_true (by assumption)) (of_decide_eq_true (by assumption))
            have HP25 := Kd.R_putg HO_3.out (x6_3 : Int) 1
            try go_wp2_with (first | ((with_reducible refine gate_store (t := 3) (p := 59) rfl ?_); refine store_event (t := 3) (p := 59) (v := ?vo_w26) (w1 := (w24.setCell ⟨go21, (x6_3 : Int).toNat, none⟩ (.int .i64 1))) ?hg ?ho ?hn ?hr ?_; (case ho => rfl); (case hg => rfl); (case hn => rfl); (case hr => first | (go_simp; done) | (go_simp; rfl)); intro w26 hw; have hg : w24.grownBy w26 (some go21) := (by rw [hw]; exact HP25.2); have hp_ : Kd.R (Kd.int .i64) 3 w26 w.heap.size (fun _ => True) (.slice (some ⟨go21, 0, none⟩) x3_4.length co21) y414 := (by rw [hw, Ny414.out]; exact HP25.1); clear HP25; replace BK403 := am (blk_grown (g := gb403) (o := .cells #[.slice (some ad410) l0_0.length c0_0, .int .i64 a0_1, .slice A0_2 l0_2.length c0_2, .slice A0_3 l0_3.length c0_3] 26 (0, 0)) (fb BK403.out) hg (Kd.R_ne HO_3.out BK403.out (by decide))); replace HO_3 := am (hp_); replace HB := am ((by rw [hw]; exact below_set (HB.out) GB21.out : Below w.heap.size w w26)); clear hg hw hp_))
            go_roundg k4
            case measure => have := HK1.out; have := HK2.out; have := HK3.out; have := HK4.out; omega
            case rel => exact ⟨(y414), (wrap64 (x7_4 + 1)), sqD, H', ⟨by have := HK1.out; have := HK2.out; have := HK3.out; have := HK4.out; omega⟩, ⟨fR HO_3.out⟩, ⟨fb BK403.out⟩, ⟨fW HB.out⟩⟩
           rw [if_neg c19] at H
           have c19b0 : decide (t413 < 0) = false := decide_eq_false c19
           clear c19
           by_cases c27 : t413 = x6_3
           ·rw [if_pos c27] at H
            have c27b0 : (t413 == x6_3) = true := beq_iff_eq.mpr c27
            have c27b1 : (t413 != x6_3) = false := bne_eq_false_iff_eq.mpr c27
            clear c27
            have H' := am H
            clear H
            have := yC1 BK403
            have := kC1 BK403
            have := kC2 BK403
            have := kC3 BK403
            have := bf BK403.out 0
            have := bf BK403.out 1
            have := bf BK403.out 2
            have := bf BK403.out 3
            have p410 : 0 ≤ (x6_3 : Int) := of_decide_eq_true (by assumption)
            have q410 : x6_3 < (l0_0.length : Int) := of_decide_eq_true (by assumption)
            obtain ⟨ad410, A410_0, c410_0, e410, hx410_0, hl410_0, hi410_0⟩ := at_L1 HR0_0.out x6_3 p410 q410
            cases e410
            replace hx410_0 := cl HB hx410_0
            have HR410_0 := am hi410_0
            have HC410_0 := am hl410_0
            clear hi410_0 hl410_0
            replace p410 := eq_true p410
            replace q410 := eq_true q410
            try go_wp2
            have n0_ := am (Kd.R_drew HO_3.out)
            have n1_ := am (blk_drew BK403.out)
            have n2_ := am (below_drew1 HB.out)
            clear HO_3 BK403 HB
            have HO_3 := n0_
            have BK403 := n1_
            have HB := n2_
            clear n0_ n1_ n2_
            have p411 : 0 ≤ (x6_3 : Int) := of_decide_eq_true (by assumption)
            have q411 : x6_3 < (l0_0.length : Int) := of_decide_eq_true (by assumption)
            obtain ⟨ad411, A411_0, c411_0, e411, hx411_0, hl411_0, hi411_0⟩ := at_L1 HR0_0.out x6_3 p411 q411
            have hw411_0 := hx411_0
            obtain rfl : ad410 = ad411 := (by injection e411)
            replace hx411_0 := cl HB hx411_0
            have HR411_0 := am hi411_0
            have HC411_0 := am hl411_0
            clear hi411_0 hl411_0
            replace p411 := eq_true p411
            replace q411 := eq_true q411
            have p412 : 0 ≤ (x7_4 : Int) := of_decide_eq_true (by assumption)
            have q412 : x7_4 < ((rd_L1 l0_0 x6_3).length : Int) := of_decide_eq_true (by assumption)
            obtain ⟨ad412, e412, hx412_0⟩ := Kd.at_int HR411_0.out x7_4 p412 q412
            have hw412_0 := hx412_0
            cases e412
            replace hx412_0 := cl HB hx412_0
            replace p412 := eq_true p412
            replace q412 := eq_true q412
            refine start_ (n := 11) (S := fun w' => w'.cell? ⟨gb403, 0, none⟩ = some (.slice (some ad410) l0_0.length c0_0) ∧ w'.cell? ⟨gb403, 1, none⟩ = some (.int .i64 a0_1) ∧ w'.cell? ⟨gb403, 2, none⟩ = some (.slice A0_2 l0_2.length c0_2) ∧ w'.cell? ⟨gb403, 3, none⟩ = some (.slice A0_3 l0_3.length c0_3) ∧ w'.cell? (ad410.add (x6_3).toNat) = some (.slice (some ad412) (rd_L1 l0_0 x6_3).length c411_0) ∧ w'.cell? (ad412.add (x7_4).toNat) = some (.int .i64 (rd (rd_L1 l0_0 x6_3) x7_4))) (ds := []) #[F,F,F,F,F,F,F,F,F,F,F] (by kernel_rfl) rfl rfl ⟨(bc BK403.out 0).trans rfl, (bc BK403.out 1).trans rfl, (bc BK403.out 2).trans rfl, (bc BK403.out 3).trans rfl, ((HB.out.cell (bq w _ hw411_0)).trans hw411_0), ((HB.out.cell (bq w _ hw412_0)).trans hw412_0)⟩ (fun hHeld => ?_); refine with_tabW r_Lengths.tab15 r_Lengths.bits15 (fun HT_ HW_ => ?_)
            generalize wr.drew = w29 at HO_3 BK403 HB HR411_0 hx411_0 hx412_0 hHeld ⊢
            refine pu (i := 1) (N := some 45) (fl 11 0 [1]) HT_ ?_
            refine pu (i := 3) (N := some 47) (fl 11 0 [1, 3]) HT_ ?_
            refine pu (i := 6) (N := some 50) (fl 11 0 [1, 3, 6]) HT_ ?_
            refine tk (i := 0) (N := some 44) (fl 11 2 [3, 6]) HT_ HW_ hHeld ?_
            refine tk (i := 2) (N := some 46) (fl 11 4 [6]) HT_ HW_ hHeld ?_
            refine pu (i := 4) (N := some 48) (fl 11 5 [6]) HT_ ?_
            refine tk (i := 5) (N := some 49) (fl 11 7 []) HT_ HW_ hHeld ?_
            refine pu (i := 7) (N := some 51) (fl 11 8 []) HT_ ?_
            refine tk (i := 8) (N := some 52) (fl 11 9 []) HT_ HW_ hHeld ?_
            refine one_ (i := 9) (N := some 53) (fl 11 10 []) rfl rfl (one_of HT_.out (by kernel_rfl)) (by decide) (fun K hK => ?_)
            refine goes_ Try.func29 (by kernel_rfl) rfl #[.agg #[.slice (some ad410) l0_0.length c0_0, .int .i64 a0_1, .slice A0_2 l0_2.length c0_2, .slice A0_3 l0_3.length c0_3], .int .i64 (rd (rd_L1 l0_0 x6_3) x7_4)] (by rfl) rfl rfl (by (try simp only [pml]); first | done | rfl | (simp only [pdt]; rfl)) ?_
            with_reducible refine (r_User.calls k4 _ _ l0_0 a0_1 _ _ l0_2 _ _ l0_3 (rd (rd_L1 l0_0 x6_3) x7_4) t413 _ ?side1 ?side2 ?side3 ?side4 ?side5 ?side6 A18.out).mono ?_
            (case side1 => repeat (first | exact (Kd.C_below HR0_0.out HB.out) | (with_reducible refine Kd.C_alloc ?_ _) | (with_reducible refine Kd.C_drewN ?_ _) | (with_reducible refine Kd.C_drew ?_)))
            (case side2 => exact HC0_0.out)
            (case side3 => repeat (first | exact (Kd.C_below HR0_2.out HB.out) | (with_reducible refine Kd.C_alloc ?_ _) | (with_reducible refine Kd.C_drewN ?_ _) | (with_reducible refine Kd.C_drew ?_)))
            (case side4 => exact HC0_2.out)
            (case side5 => repeat (first | exact (Kd.C_below HR0_3.out HB.out) | (with_reducible refine Kd.C_alloc ?_ _) | (with_reducible refine Kd.C_drewN ?_ _) | (with_reducible refine Kd.C_drew ?_)))
            (case side6 => exact HC0_3.out)
            rintro e w30 ⟨rfl, hb⟩
            refine ⟨_, rfl, ?_⟩
            have n0_ := dR HO_3 hb
            have n1_ := bB BK403 hb
            have n2_ := bS HB hb
            clear HO_3 BK403 HB
            have HO_3 := n0_
            have BK403 := n1_
            have HB := n2_
            clear n0_ n1_ n2_
            (try clear hb)
            (try clear hb2)
            (try clear hk)
            (try clear hi)
            refine hK.out _ _ ⟨(bc BK403.out 0).trans rfl, (bc BK403.out 1).trans rfl, (bc BK403.out 2).trans rfl, (bc BK403.out 3).trans rfl, ((HB.out.cell (bq w _ hw411_0)).trans hw411_0), ((HB.out.cell (bq w _ hw412_0)).trans hw412_0)⟩ (fun hHeld => ?_)
            clear hK K
            refine norm_ (a' := ?_) ?_ ?_
            rotate_left
            ·show Act.put _ (some 53) _ = _
             simp only [Act.put, psl, i64_w, i32_w]
             rfl
            refine pu (i := 10) (N := some 8) (fl 11 11 []) HT_ ?_
            refine done_ (done_of HT_.out (by kernel_rfl)) ?_
            try go_wp2
            go_roundg k4
            case measure => have := HK1.out; have := HK2.out; have := HK3.out; have := HK4.out; omega
            case rel => exact ⟨(x3_4), (wrap64 (x7_4 + 1)), sqD, H', ⟨by have := HK1.out; have := HK2.out; have := HK3.out; have := HK4.out; omega⟩, ⟨fR HO_3.out⟩, ⟨fb BK403.out⟩, ⟨fW HB.out⟩⟩
           rw [if_neg c27] at H
           have c27b0 : (t413 == x6_3) = false := beq_eq_false_iff_ne.mpr c27
           have c27b1 : (t413 != x6_3) = true := bne_iff_ne.mpr c27
           by_cases c31 : 0 ≤ t413
           rotate_left
           ·rw [if_neg c31] at H
            exact absurd H (by simp)
           rw [if_pos c31] at H
           have c31b0 : decide (0 ≤ t413) = true := decide_eq_true c31
           clear c31
           by_cases c32 : t413 < (l0_3.length : Int)
           rotate_left
           ·rw [if_neg c32] at H
            exact absurd H (by simp)
           rw [if_pos c32] at H
           have c32b0 : decide (t413 < (l0_3.length : Int)) = true := decide_eq_true c32
           clear c32
           obtain ⟨bq33, hbq33⟩ : ∃ b_ : Bool, b_ = (rdOf false l0_3 t413) := ⟨_, rfl⟩
           replace H : (if bq33 = true then (r_Lengths.l3 k4 x3_4 x5_2 x6_3 (wrap64 (x7_4 + 1)) l0_0 a0_1 l0_2 l0_3) else (if t413 < (x3_4.length : Int) then (if (rd x3_4 t413) < 1000 then (if x6_3 < (x3_4.length : Int) then (r_Lengths.l3 k4 (x3_4.set (x6_3 : Int).toNat (mn (rd x3_4 x6_3) (wrap64 ((rd x3_4 t413) + 1)))) x5_2 x6_3 (wrap64 (x7_4 + 1)) l0_0 a0_1 l0_2 l0_3) else (none)) else (r_Lengths.l3 k4 x3_4 x5_2 x6_3 (wrap64 (x7_4 + 1)) l0_0 a0_1 l0_2 l0_3)) else (none))) = some r := by rw [← hbq33] at H; exact H
           have Nbq33 := am hbq33
           clear hbq33
           by_cases c34 : bq33 = true
           ·subst c34
            have H1 : (r_Lengths.l3 k4 x3_4 x5_2 x6_3 (wrap64 (x7_4 + 1)) l0_0 a0_1 l0_2 l0_3) = some r := by rw [if_pos rfl] at H; exact H
            clear H
            have H := H1
            clear H1
            have H' := am H
            clear H
            have := yC1 BK403
            have := kC1 BK403
            have := kC2 BK403
            have := kC3 BK403
            have := bf BK403.out 0
            have := bf BK403.out 1
            have := bf BK403.out 2
            have := bf BK403.out 3
            have p410 : 0 ≤ (x6_3 : Int) := of_decide_eq_true (by assumption)
            have q410 : x6_3 < (l0_0.length : Int) := of_decide_eq_true (by assumption)
            obtain ⟨ad410, A410_0, c410_0, e410, hx410_0, hl410_0, hi410_0⟩ := at_L1 HR0_0.out x6_3 p410 q410
            cases e410
            replace hx410_0 := cl HB hx410_0
            have HR410_0 := am hi410_0
            have HC410_0 := am hl410_0
            clear hi410_0 hl410_0
            replace p410 := eq_true p410
            replace q410 := eq_true q410
            try go_wp2
            have n0_ := am (Kd.R_drew HO_3.out)
            have n1_ := am (blk_drew BK403.out)
            have n2_ := am (below_drew1 HB.out)
            clear HO_3 BK403 HB
            have HO_3 := n0_
            have BK403 := n1_
            have HB := n2_
            clear n0_ n1_ n2_
            have p411 : 0 ≤ (x6_3 : Int) := of_decide_eq_true (by assumption)
            have q411 : x6_3 < (l0_0.length : Int) := of_decide_eq_true (by assumption)
            obtain ⟨ad411, A411_0, c411_0, e411, hx411_0, hl411_0, hi411_0⟩ := at_L1 HR0_0.out x6_3 p411 q411
            have hw411_0 := hx411_0
            obtain rfl : ad410 = ad411 := (by injection e411)
            replace hx411_0 := cl HB hx411_0
            have HR411_0 := am hi411_0
            have HC411_0 := am hl411_0
            clear hi411_0 hl411_0
            replace p411 := eq_true p411
            replace q411 := eq_true q411
            have p412 : 0 ≤ (x7_4 : Int) := of_decide_eq_true (by assumption)
            have q412 : x7_4 < ((rd_L1 l0_0 x6_3).length : Int) := of_decide_eq_true (by assumption)
            obtain ⟨ad412, e412, hx412_0⟩ := Kd.at_int HR411_0.out x7_4 p412 q412
            have hw412_0 := hx412_0
            cases e412
            replace hx412_0 := cl HB hx412_0
            replace p412 := eq_true p412
            replace q412 := eq_true q412
            refine start_ (n := 11) (S := fun w' => w'.cell? ⟨gb403, 0, none⟩ = some (.slice (some ad410) l0_0.length c0_0) ∧ w'.cell? ⟨gb403, 1, none⟩ = some (.int .i64 a0_1) ∧ w'.cell? ⟨gb403, 2, none⟩ = some (.slice A0_2 l0_2.length c0_2) ∧ w'.cell? ⟨gb403, 3, none⟩ = some (.slice A0_3 l0_3.length c0_3) ∧ w'.cell? (ad410.add (x6_3).toNat) = some (.slice (some ad412) (rd_L1 l0_0 x6_3).length c411_0) ∧ w'.cell? (ad412.add (x7_4).toNat) = some (.int .i64 (rd (rd_L1 l0_0 x6_3) x7_4))) (ds := []) #[F,F,F,F,F,F,F,F,F,F,F] (by kernel_rfl) rfl rfl ⟨(bc BK403.out 0).trans rfl, (bc BK403.out 1).trans rfl, (bc BK403.out 2).trans rfl, (bc BK403.out 3).trans rfl, ((HB.out.cell (bq w _ hw411_0)).trans hw411_0), ((HB.out.cell (bq w _ hw412_0)).trans hw412_0)⟩ (fun hHeld => ?_); refine with_tabW r_Lengths.tab15 r_Lengths.bits15 (fun HT_ HW_ => ?_)
            generalize wr.drew = w36 at HO_3 BK403 HB HR411_0 hx411_0 hx412_0 hHeld ⊢
            refine pu (i := 1) (N := some 45) (fl 11 0 [1]) HT_ ?_
            refine pu (i := 3) (N := some 47) (fl 11 0 [1, 3]) HT_ ?_
            refine pu (i := 6) (N := some 50) (fl 11 0 [1, 3, 6]) HT_ ?_
            refine tk (i := 0) (N := some 44) (fl 11 2 [3, 6]) HT_ HW_ hHeld ?_
            refine tk (i := 2) (N := some 46) (fl 11 4 [6]) HT_ HW_ hHeld ?_
            refine pu (i := 4) (N := some 48) (fl 11 5 [6]) HT_ ?_
            refine tk (i := 5) (N := some 49) (fl 11 7 []) HT_ HW_ hHeld ?_
            refine pu (i := 7) (N := some 51) (fl 11 8 []) HT_ ?_
            refine tk (i := 8) (N := some 52) (fl 11 9 []) HT_ HW_ hHeld ?_
            refine one_ (i := 9) (N := some 53) (fl 11 10 []) rfl rfl (one_of HT_.out (by kernel_rfl)) (by decide) (fun K hK => ?_)
            refine goes_ Try.func29 (by kernel_rfl) rfl #[.agg #[.slice (some ad410) l0_0.length c0_0, .int .i64 a0_1, .slice A0_2 l0_2.length c0_2, .slice A0_3 l0_3.length c0_3], .int .i64 (rd (rd_L1 l0_0 x6_3) x7_4)] (by rfl) rfl rfl (by (try simp only [pml]); first | done | rfl | (simp only [pdt]; rfl)) ?_
            with_reducible refine (r_User.calls k4 _ _ l0_0 a0_1 _ _ l0_2 _ _ l0_3 (rd (rd_L1 l0_0 x6_3) x7_4) t413 _ ?side1 ?side2 ?side3 ?side4 ?side5 ?side6 A18.out).mono ?_
            (case side1 => repeat (first | exact (Kd.C_below HR0_0.out HB.out) | (with_reducible refine Kd.C_alloc ?_ _) | (with_reducible refine Kd.C_drewN ?_ _) | (with_reducible refine Kd.C_drew ?_)))
            (case side2 => exact HC0_0.out)
            (case side3 => repeat (first | exact (Kd.C_below HR0_2.out HB.out) | (with_reducible refine Kd.C_alloc ?_ _) | (with_reducible refine Kd.C_drewN ?_ _) | (with_reducible refine Kd.C_drew ?_)))
            (case side4 => exact HC0_2.out)
            (case side5 => repeat (first | exact (Kd.C_below HR0_3.out HB.out) | (with_reducible refine Kd.C_alloc ?_ _) | (with_reducible refine Kd.C_drewN ?_ _) | (with_reducible refine Kd.C_drew ?_)))
            (case side6 => exact HC0_3.out)
            rintro e w37 ⟨rfl, hb⟩
            refine ⟨_, rfl, ?_⟩
            have n0_ := dR HO_3 hb
            have n1_ := bB BK403 hb
            have n2_ := bS HB hb
            clear HO_3 BK403 HB
            have HO_3 := n0_
            have BK403 := n1_
            have HB := n2_
            clear n0_ n1_ n2_
            (try clear hb)
            (try clear hb2)
            (try clear hk)
            (try clear hi)
            refine hK.out _ _ ⟨(bc BK403.out 0).trans rfl, (bc BK403.out 1).trans rfl, (bc BK403.out 2).trans rfl, (bc BK403.out 3).trans rfl, ((HB.out.cell (bq w _ hw411_0)).trans hw411_0), ((HB.out.cell (bq w _ hw412_0)).trans hw412_0)⟩ (fun hHeld => ?_)
            clear hK K
            refine norm_ (a' := ?_) ?_ ?_
            rotate_left
            ·show Act.put _ (some 53) _ = _
             simp only [Act.put, psl, i64_w, i32_w]
             rfl
            refine pu (i := 10) (N := some 8) (fl 11 11 []) HT_ ?_
            refine done_ (done_of HT_.out (by kernel_rfl)) ?_
            have := yC1 BK403
            have := kC1 BK403
            have := kC2 BK403
            have := kC3 BK403
            have := bf BK403.out 0
            have := bf BK403.out 1
            have := bf BK403.out 2
            have := bf BK403.out 3
            have p415 : 0 ≤ (t413 : Int) := of_decide_eq_true (by assumption)
            have q415 : t413 < (l0_3.length : Int) := of_decide_eq_true (by assumption)
            obtain ⟨ad415, e415, hx415_0⟩ := Kd.at_bool HR0_3.out t413 p415 q415
            (try rw [← Nbq33.out] at hx415_0)
            cases e415
            replace hx415_0 := cl HB hx415_0
            replace p415 := eq_true p415
            replace q415 := eq_true q415
            try go_wp2
            go_roundg k4
            case measure => have := HK1.out; have := HK2.out; have := HK3.out; have := HK4.out; omega
            case rel => exact ⟨(x3_4), (wrap64 (x7_4 + 1)), sqD, H', ⟨by have := HK1.out; have := HK2.out; have := HK3.out; have := HK4.out; omega⟩, ⟨fR HO_3.out⟩, ⟨fb BK403.out⟩, ⟨fW HB.out⟩⟩
           replace c34 := Bool.eq_false_iff.mpr c34
           subst c34
           have H1 : (if t413 < (x3_4.length : Int) then (if (rd x3_4 t413) < 1000 then (if x6_3 < (x3_4.length : Int) then (r_Lengths.l3 k4 (x3_4.set (x6_3 : Int).toNat (mn (rd x3_4 x6_3) (wrap64 ((rd x3_4 t413) + 1)))) x5_2 x6_3 (wrap64 (x7_4 + 1)) l0_0 a0_1 l0_2 l0_3) else (none)) else (r_Lengths.l3 k4 x3_4 x5_2 x6_3 (wrap64 (x7_4 + 1)) l0_0 a0_1 l0_2 l0_3)) else (none)) = some r := by rw [if_neg (show ¬ (false = true) by decide)] at H; exact H
           clear H
           have H := H1
           clear H1
           by_cases c39 : t413 < (x3_4.length : Int)
           rotate_left
           ·rw [if_neg c39] at H
            exact absurd H (by simp)
           rw [if_pos c39] at H
           have c39b0 : decide (t413 < (x3_4.length : Int)) = true := decide_eq_true c39
           clear c39
           by_cases c40 : (rd x3_4 t413) < 1000
           rotate_left
           ·rw [if_neg c40] at H
            have c40b0 : decide ((rd x3_4 t413) < 1000) = false := decide_eq_false c40
            clear c40
            have H' := am H
            clear H
            have := yC1 BK403
            have := kC1 BK403
            have := kC2 BK403
            have := kC3 BK403
            have := bf BK403.out 0
            have := bf BK403.out 1
            have := bf BK403.out 2
            have := bf BK403.out 3
            have p410 : 0 ≤ (x6_3 : Int) := of_decide_eq_true (by assumption)
            have q410 : x6_3 < (l0_0.length : Int) := of_decide_eq_true (by assumption)
            obtain ⟨ad410, A410_0, c410_0, e410, hx410_0, hl410_0, hi410_0⟩ := at_L1 HR0_0.out x6_3 p410 q410
            cases e410
            replace hx410_0 := cl HB hx410_0
            have HR410_0 := am hi410_0
            have HC410_0 := am hl410_0
            clear hi410_0 hl410_0
            replace p410 := eq_true p410
            replace q410 := eq_true q410
            try go_wp2
            have n0_ := am (Kd.R_drew HO_3.out)
            have n1_ := am (blk_drew BK403.out)
            have n2_ := am (below_drew1 HB.out)
            clear HO_3 BK403 HB
            have HO_3 := n0_
            have BK403 := n1_
            have HB := n2_
            clear n0_ n1_ n2_
            have p411 : 0 ≤ (x6_3 : Int) := of_decide_eq_true (by assumption)
            have q411 : x6_3 < (l0_0.length : Int) := of_decide_eq_true (by assumption)
            obtain ⟨ad411, A411_0, c411_0, e411, hx411_0, hl411_0, hi411_0⟩ := at_L1 HR0_0.out x6_3 p411 q411
            have hw411_0 := hx411_0
            obtain rfl : ad410 = ad411 := (by injection e411)
            replace hx411_0 := cl HB hx411_0
            have HR411_0 := am hi411_0
            have HC411_0 := am hl411_0
            clear hi411_0 hl411_0
            replace p411 := eq_true p411
            replace q411 := eq_true q411
            have p412 : 0 ≤ (x7_4 : Int) := of_decide_eq_true (by assumption)
            have q412 : x7_4 < ((rd_L1 l0_0 x6_3).length : Int) := of_decide_eq_true (by assumption)
            obtain ⟨ad412, e412, hx412_0⟩ := Kd.at_int HR411_0.out x7_4 p412 q412
            have hw412_0 := hx412_0
            cases e412
            replace hx412_0 := cl HB hx412_0
            replace p412 := eq_true p412
            replace q412 := eq_true q412
            refine start_ (n := 11) (S := fun w' => w'.cell? ⟨gb403, 0, none⟩ = some (.slice (some ad410) l0_0.length c0_0) ∧ w'.cell? ⟨gb403, 1, none⟩ = some (.int .i64 a0_1) ∧ w'.cell? ⟨gb403, 2, none⟩ = some (.slice A0_2 l0_2.length c0_2) ∧ w'.cell? ⟨gb403, 3, none⟩ = some (.slice A0_3 l0_3.length c0_3) ∧ w'.cell? (ad410.add (x6_3).toNat) = some (.slice (some ad412) (rd_L1 l0_0 x6_3).length c411_0) ∧ w'.cell? (ad412.add (x7_4).toNat) = some (.int .i64 (rd (rd_L1 l0_0 x6_3) x7_4))) (ds := []) #[F,F,F,F,F,F,F,F,F,F,F] (by kernel_rfl) rfl rfl ⟨(bc BK403.out 0).trans rfl, (bc BK403.out 1).trans rfl, (bc BK403.out 2).trans rfl, (bc BK403.out 3).trans rfl, ((HB.out.cell (bq w _ hw411_0)).trans hw411_0), ((HB.out.cell (bq w _ hw412_0)).trans hw412_0)⟩ (fun hHeld => ?_); refine with_tabW r_Lengths.tab15 r_Lengths.bits15 (fun HT_ HW_ => ?_)
            generalize wr.drew = w52 at HO_3 BK403 HB HR411_0 hx411_0 hx412_0 hHeld ⊢
            refine pu (i := 1) (N := some 45) (fl 11 0 [1]) HT_ ?_
            refine pu (i := 3) (N := some 47) (fl 11 0 [1, 3]) HT_ ?_
            refine pu (i := 6) (N := some 50) (fl 11 0 [1, 3, 6]) HT_ ?_
            refine tk (i := 0) (N := some 44) (fl 11 2 [3, 6]) HT_ HW_ hHeld ?_
            refine tk (i := 2) (N := some 46) (fl 11 4 [6]) HT_ HW_ hHeld ?_
            refine pu (i := 4) (N := some 48) (fl 11 5 [6]) HT_ ?_
            refine tk (i := 5) (N := some 49) (fl 11 7 []) HT_ HW_ hHeld ?_
            refine pu (i := 7) (N := some 51) (fl 11 8 []) HT_ ?_
            refine tk (i := 8) (N := some 52) (fl 11 9 []) HT_ HW_ hHeld ?_
            refine one_ (i := 9) (N := some 53) (fl 11 10 []) rfl rfl (one_of HT_.out (by kernel_rfl)) (by decide) (fun K hK => ?_)
            refine goes_ Try.func29 (by kernel_rfl) rfl #[.agg #[.slice (some ad410) l0_0.length c0_0, .int .i64 a0_1, .slice A0_2 l0_2.length c0_2, .slice A0_3 l0_3.length c0_3], .int .i64 (rd (rd_L1 l0_0 x6_3) x7_4)] (by rfl) rfl rfl (by (try simp only [pml]); first | done | rfl | (simp only [pdt]; rfl)) ?_
            with_reducible refine (r_User.calls k4 _ _ l0_0 a0_1 _ _ l0_2 _ _ l0_3 (rd (rd_L1 l0_0 x6_3) x7_4) t413 _ ?side1 ?side2 ?side3 ?side4 ?side5 ?side6 A18.out).mono ?_
            (case side1 => repeat (first | exact (Kd.C_below HR0_0.out HB.out) | (with_reducible refine Kd.C_alloc ?_ _) | (with_reducible refine Kd.C_drewN ?_ _) | (with_reducible refine Kd.C_drew ?_)))
            (case side2 => exact HC0_0.out)
            (case side3 => repeat (first | exact (Kd.C_below HR0_2.out HB.out) | (with_reducible refine Kd.C_alloc ?_ _) | (with_reducible refine Kd.C_drewN ?_ _) | (with_reducible refine Kd.C_drew ?_)))
            (case side4 => exact HC0_2.out)
            (case side5 => repeat (first | exact (Kd.C_below HR0_3.out HB.out) | (with_reducible refine Kd.C_alloc ?_ _) | (with_reducible refine Kd.C_drewN ?_ _) | (with_reducible refine Kd.C_drew ?_)))
            (case side6 => exact HC0_3.out)
            rintro e w53 ⟨rfl, hb⟩
            refine ⟨_, rfl, ?_⟩
            have n0_ := dR HO_3 hb
            have n1_ := bB BK403 hb
            have n2_ := bS HB hb
            clear HO_3 BK403 HB
            have HO_3 := n0_
            have BK403 := n1_
            have HB := n2_
            clear n0_ n1_ n2_
            (try clear hb)
            (try clear hb2)
            (try clear hk)
            (try clear hi)
            refine hK.out _ _ ⟨(bc BK403.out 0).trans rfl, (bc BK403.out 1).trans rfl, (bc BK403.out 2).trans rfl, (bc BK403.out 3).trans rfl, ((HB.out.cell (bq w _ hw411_0)).trans hw411_0), ((HB.out.cell (bq w _ hw412_0)).trans hw412_0)⟩ (fun hHeld => ?_)
            clear hK K
            refine norm_ (a' := ?_) ?_ ?_
            rotate_left
            ·show Act.put _ (some 53) _ = _
             simp only [Act.put, psl, i64_w, i32_w]
             rfl
            refine pu (i := 10) (N := some 8) (fl 11 11 []) HT_ ?_
            refine done_ (done_of HT_.out (by kernel_rfl)) ?_
            have := yC1 BK403
            have := kC1 BK403
            have := kC2 BK403
            have := kC3 BK403
            have := bf BK403.out 0
            have := bf BK403.out 1
            have := bf BK403.out 2
            have := bf BK403.out 3
            have p415 : 0 ≤ (t413 : Int) := of_decide_eq_true (by assumption)
            have q415 : t413 < (l0_3.length : Int) := of_decide_eq_true (by assumption)
            obtain ⟨ad415, e415, hx415_0⟩ := Kd.at_bool HR0_3.out t413 p415 q415
            (try rw [← Nbq33.out] at hx415_0)
            cases e415
            replace hx415_0 := cl HB hx415_0
            replace p415 := eq_true p415
            replace q415 := eq_true q415
            obtain ⟨Ao55, co55, eo55⟩ := Kd.R_slice HO_3.out
            subst eo55
            have p416 : 0 ≤ (t413 : Int) := of_decide_eq_true (by assumption)
            have q416 : t413 < (x3_4.length : Int) := of_decide_eq_true (by assumption)
            obtain ⟨ad416, e416, hx416_0⟩ := Kd.at_int (Kd.R_reads' HO_3.out).2.2 t413 p416 q416
            cases e416
            replace p416 := eq_true p416
            replace q416 := eq_true q416
            try go_wp2
            go_roundg k4
            case measure => have := HK1.out; have := HK2.out; have := HK3.out; have := HK4.out; omega
            case rel => exact ⟨(x3_4), (wrap64 (x7_4 + 1)), sqD, H', ⟨by have := HK1.out; have := HK2.out; have := HK3.out; have := HK4.out; omega⟩, ⟨fR HO_3.out⟩, ⟨fb BK403.out⟩, ⟨fW HB.out⟩⟩
           rw [if_pos c40] at H
           have c40b0 : decide ((rd x3_4 t413) < 1000) = true := decide_eq_true c40
           clear c40
           by_cases c41 : x6_3 < (x3_4.length : Int)
           rotate_left
           ·rw [if_neg c41] at H
            exact absurd H (by simp)
           rw [if_pos c41] at H
           have c41b0 : decide (x6_3 < (x3_4.length : Int)) = true := decide_eq_true c41
           clear c41
           obtain ⟨ji42, hji42⟩ : ∃ j_ : Int, (mn (rd x3_4 x6_3) (wrap64 ((rd x3_4 t413) + 1))) = j_ := ⟨_, rfl⟩
           replace H : (r_Lengths.l3 k4 (x3_4.set (x6_3 : Int).toNat (ji42)) x5_2 x6_3 (wrap64 (x7_4 + 1)) l0_0 a0_1 l0_2 l0_3) = some r := by first | (rw [hji42] at H; exact H) | (simp only [hji42] at H ⊢; exact H)
           (try rw [hji42] at A18)
           have hji42_ : (if (wrap64 ((rd x3_4 t413) + 1)) < (rd x3_4 x6_3) then (wrap64 ((rd x3_4 t413) + 1)) else (rd x3_4 x6_3)) = ji42 := hji42
           obtain ⟨y419, hy419⟩ : ∃ y_ : List Int, y_ = (x3_4.set (x6_3 : Int).toNat (ji42)) := ⟨_, rfl⟩
           replace H : (r_Lengths.l3 k4 y419 x5_2 x6_3 (wrap64 (x7_4 + 1)) l0_0 a0_1 l0_2 l0_3) = some r := by first | (rw [hy419]; with_reducible exact H) | (have H2_ := (Option.bind_some _ _).symm.trans H; rw [hy419]; with_reducible exact H2_) | (have H2_ := (Option.bind_some _ _).symm.trans H; with_reducible exact H2_) | with_reducible exact H | (rw [hy419]; exact H) | exact H
           have Ny419 := am hy419
           clear hy419
           have H' := am H
           clear H
           have := yC1 BK403
           have := kC1 BK403
           have := kC2 BK403
           have := kC3 BK403
           have := bf BK403.out 0
           have := bf BK403.out 1
           have := bf BK403.out 2
           have := bf BK403.out 3
           have p410 : 0 ≤ (x6_3 : Int) := of_decide_eq_true (by assumption)
           have q410 : x6_3 < (l0_0.length : Int) := of_decide_eq_true (by assumption)
           obtain ⟨ad410, A410_0, c410_0, e410, hx410_0, hl410_0, hi410_0⟩ := at_L1 HR0_0.out x6_3 p410 q410
           cases e410
           replace hx410_0 := cl HB hx410_0
           have HR410_0 := am hi410_0
           have HC410_0 := am hl410_0
           clear hi410_0 hl410_0
           replace p410 := eq_true p410
           replace q410 := eq_true q410
           try go_wp2
           have n0_ := am (Kd.R_drew HO_3.out)
           have n1_ := am (blk_drew BK403.out)
           have n2_ := am (below_drew1 HB.out)
           clear HO_3 BK403 HB
           have HO_3 := n0_
           have BK403 := n1_
           have HB := n2_
           clear n0_ n1_ n2_
           have p411 : 0 ≤ (x6_3 : Int) := of_decide_eq_true (by assumption)
           have q411 : x6_3 < (l0_0.length : Int) := of_decide_eq_true (by assumption)
           obtain ⟨ad411, A411_0, c411_0, e411, hx411_0, hl411_0, hi411_0⟩ := at_L1 HR0_0.out x6_3 p411 q411
           have hw411_0 := hx411_0
           obtain rfl : ad410 = ad411 := (by injection e411)
           replace hx411_0 := cl HB hx411_0
           have HR411_0 := am hi411_0
           have HC411_0 := am hl411_0
           clear hi411_0 hl411_0
           replace p411 := eq_true p411
           replace q411 := eq_true q411
           have p412 : 0 ≤ (x7_4 : Int) := of_decide_eq_true (by assumption)
           have q412 : x7_4 < ((rd_L1 l0_0 x6_3).length : Int) := of_decide_eq_true (by assumption)
           obtain ⟨ad412, e412, hx412_0⟩ := Kd.at_int HR411_0.out x7_4 p412 q412
           have hw412_0 := hx412_0
           cases e412
           replace hx412_0 := cl HB hx412_0
           replace p412 := eq_true p412
           replace q412 := eq_true q412
           refine start_ (n := 11) (S := fun w' => w'.cell? ⟨gb403, 0, none⟩ = some (.slice (some ad410) l0_0.length c0_0) ∧ w'.cell? ⟨gb403, 1, none⟩ = some (.int .i64 a0_1) ∧ w'.cell? ⟨gb403, 2, none⟩ = some (.slice A0_2 l0_2.length c0_2) ∧ w'.cell? ⟨gb403, 3, none⟩ = some (.slice A0_3 l0_3.length c0_3) ∧ w'.cell? (ad410.add (x6_3).toNat) = some (.slice (some ad412) (rd_L1 l0_0 x6_3).length c411_0) ∧ w'.cell? (ad412.add (x7_4).toNat) = some (.int .i64 (rd (rd_L1 l0_0 x6_3) x7_4))) (ds := []) #[F,F,F,F,F,F,F,F,F,F,F] (by kernel_rfl) rfl rfl ⟨(bc BK403.out 0).trans rfl, (bc BK403.out 1).trans rfl, (bc BK403.out 2).trans rfl, (bc BK403.out 3).trans rfl, ((HB.out.cell (bq w _ hw411_0)).trans hw411_0), ((HB.out.cell (bq w _ hw412_0)).trans hw412_0)⟩ (fun hHeld => ?_); refine with_tabW r_Lengths.tab15 r_Lengths.bits15 (fun HT_ HW_ => ?_)
           generalize wr.drew = w45 at HO_3 BK403 HB HR411_0 hx411_0 hx412_0 hHeld ⊢
           refine pu (i := 1) (N := some 45) (fl 11 0 [1]) HT_ ?_
           refine pu (i := 3) (N := some 47) (fl 11 0 [1, 3]) HT_ ?_
           refine pu (i := 6) (N := some 50) (fl 11 0 [1, 3, 6]) HT_ ?_
           refine tk (i := 0) (N := some 44) (fl 11 2 [3, 6]) HT_ HW_ hHeld ?_
           refine tk (i := 2) (N := some 46) (fl 11 4 [6]) HT_ HW_ hHeld ?_
           refine pu (i := 4) (N := some 48) (fl 11 5 [6]) HT_ ?_
           refine tk (i := 5) (N := some 49) (fl 11 7 []) HT_ HW_ hHeld ?_
           refine pu (i := 7) (N := some 51) (fl 11 8 []) HT_ ?_
           refine tk (i := 8) (N := some 52) (fl 11 9 []) HT_ HW_ hHeld ?_
           refine one_ (i := 9) (N := some 53) (fl 11 10 []) rfl rfl (one_of HT_.out (by kernel_rfl)) (by decide) (fun K hK => ?_)
           refine goes_ Try.func29 (by kernel_rfl) rfl #[.agg #[.slice (some ad410) l0_0.length c0_0, .int .i64 a0_1, .slice A0_2 l0_2.length c0_2, .slice A0_3 l0_3.length c0_3], .int .i64 (rd (rd_L1 l0_0 x6_3) x7_4)] (by rfl) rfl rfl (by (try simp only [pml]); first | done | rfl | (simp only [pdt]; rfl)) ?_
           with_reducible refine (r_User.calls k4 _ _ l0_0 a0_1 _ _ l0_2 _ _ l0_3 (rd (rd_L1 l0_0 x6_3) x7_4) t413 _ ?side1 ?side2 ?side3 ?side4 ?side5 ?side6 A18.out).mono ?_
           (case side1 => repeat (first | exact (Kd.C_below HR0_0.out HB.out) | (with_reducible refine Kd.C_alloc ?_ _) | (with_reducible refine Kd.C_drewN ?_ _) | (with_reducible refine Kd.C_drew ?_)))
           (case side2 => exact HC0_0.out)
           (case side3 => repeat (first | exact (Kd.C_below HR0_2.out HB.out) | (with_reducible refine Kd.C_alloc ?_ _) | (with_reducible refine Kd.C_drewN ?_ _) | (with_reducible refine Kd.C_drew ?_)))
           (case side4 => exact HC0_2.out)
           (case side5 => repeat (first | exact (Kd.C_below HR0_3.out HB.out) | (with_reducible refine Kd.C_alloc ?_ _) | (with_reducible refine Kd.C_drewN ?_ _) | (with_reducible refine Kd.C_drew ?_)))
           (case side6 => exact HC0_3.out)
           rintro e w46 ⟨rfl, hb⟩
           refine ⟨_, rfl, ?_⟩
           have n0_ := dR HO_3 hb
           have n1_ := bB BK403 hb
           have n2_ := bS HB hb
           clear HO_3 BK403 HB
           have HO_3 := n0_
           have BK403 := n1_
           have HB := n2_
           clear n0_ n1_ n2_
           (try clear hb)
           (try clear hb2)
           (try clear hk)
           (try clear hi)
           refine hK.out _ _ ⟨(bc BK403.out 0).trans rfl, (bc BK403.out 1).trans rfl, (bc BK403.out 2).trans rfl, (bc BK403.out 3).trans rfl, ((HB.out.cell (bq w _ hw411_0)).trans hw411_0), ((HB.out.cell (bq w _ hw412_0)).trans hw412_0)⟩ (fun hHeld => ?_)
           clear hK K
           refine norm_ (a' := ?_) ?_ ?_
           rotate_left
           ·show Act.put _ (some 53) _ = _
            simp only [Act.put, psl, i64_w, i32_w]
            rfl
           refine pu (i := 10) (N := some 8) (fl 11 11 []) HT_ ?_
           refine done_ (done_of HT_.out (by kernel_rfl)) ?_
           have := yC1 BK403
           have := kC1 BK403
           have := kC2 BK403
           have := kC3 BK403
           have := bf BK403.out 0
           have := bf BK403.out 1
           have := bf BK403.out 2
           have := bf BK403.out 3
           have p415 : 0 ≤ (t413 : Int) := of_decide_eq_true (by assumption)
           have q415 : t413 < (l0_3.length : Int) := of_decide_eq_true (by assumption)
           obtain ⟨ad415, e415, hx415_0⟩ := Kd.at_bool HR0_3.out t413 p415 q415
           (try rw [← Nbq33.out] at hx415_0)
           cases e415
           replace hx415_0 := cl HB hx415_0
           replace p415 := eq_true p415
           replace q415 := eq_true q415
           obtain ⟨Ao48, co48, eo48⟩ := Kd.R_slice HO_3.out
           subst eo48
           have p416 : 0 ≤ (t413 : Int) := of_decide_eq_true (by assumption)
           have q416 : t413 < (x3_4.length : Int) := of_decide_eq_true (by assumption)
           obtain ⟨ad416, e416, hx416_0⟩ := Kd.at_int (Kd.R_reads' HO_3.out).2.2 t413 p416 q416
           cases e416
           replace p416 := eq_true p416
           replace q416 := eq_true q416
           try go_wp2
           have n0_ := am (Kd.R_drew HO_3.out)
           have n1_ := am (blk_drew BK403.out)
           have n2_ := am (below_drew1 HB.out)
           clear HO_3 BK403 HB
           have HO_3 := n0_
           have BK403 := n1_
           have HB := n2_
           clear n0_ n1_ n2_
           have p417 : 0 ≤ (x6_3 : Int) := of_decide_eq_true (by assumption)
           have q417 : x6_3 < (x3_4.length : Int) := of_decide_eq_true (by assumption)
           obtain ⟨ad417, e417, hx417_0⟩ := Kd.at_int (Kd.R_reads' HO_3.out).2.2 x6_3 p417 q417
           obtain rfl : ad416 = ad417 := (by injection e417)
           replace p417 := eq_true p417
           replace q417 := eq_true q417
           have p418 : 0 ≤ (t413 : Int) := of_decide_eq_true (by assumption)
           have q418 : t413 < (x3_4.length : Int) := of_decide_eq_true (by assumption)
           obtain ⟨ad418, e418, hx418_0⟩ := Kd.at_int (Kd.R_reads' HO_3.out).2.2 t413 p418 q418
           obtain rfl : ad416 = ad418 := (by injection e418)
           replace p418 := eq_true p418
           replace q418 := eq_true q418
           have p43 : 0 ≤ (x6_3 : Int) := of_decide_eq_true (by assumption)
           have q43 : (x6_3 : Int) < ((x3_4.length : Int) : Int) := of_decide_eq_true (by assumption)
           obtain ⟨go43, co43, eo43, gb43, gl43, cl43, HG43⟩ := Kd.R_form HO_3.out (by omega)
           (first | cases eo43 | (injection eo43 with ea_ en_ ec_; (first | subst ea_ | (injection ea_ with ea_; subst ea_)); subst ec_; clear en_))
           have GB43 := am gb43
           have GG43 := am HG43
           clear gb43 gl43 HG43
           (first | simp only [add_plain] at hx416_0 | skip)
           (first | simp only [add_plain] at hx417_0 | skip)
           (first | simp only [add_plain] at hx418_0 | skip)
           obtain ⟨hx43_0, hf43_0⟩ := Kd.R_celln 0 HO_3.out (x6_3 : Int) p43 q43
           replace p43 := eq_true p43
           replace q43 := eq_true q43
           have HP50 := Kd.R_putn HO_3.out (x6_3 : Int) ji42
           rw [← Ny419.out] at HP50
           have HQ50 := am HP50
           clear HP50
           refine start_ (n := 14) (S := fun w' => w'.cell? ⟨go43, (x6_3).toNat, none⟩ = some (.int .i64 (rd x3_4 x6_3)) ∧ w'.cell? ⟨go43, (t413).toNat, none⟩ = some (.int .i64 (rd x3_4 t413))) (ds := [13]) #[F,F,F,F,F,F,F,F,F,F,F,F,F,F] (by kernel_rfl) rfl rfl ⟨hx417_0, hx418_0⟩ (fun hHeld => ?_); refine with_tabW r_Lengths.tab19 r_Lengths.bits19 (fun HT_ HW_ => ?_)
           generalize w46.drew = w49 at HO_3 BK403 HB GG43 HQ50 hf43_0 hx416_0 hx417_0 hx418_0 hx43_0 hHeld ⊢
           refine pu (i := 0) (N := some 79) (fl 14 1 []) HT_ ?_
           refine pu (i := 1) (N := some 80) (fl 14 2 []) HT_ ?_
           refine pu (i := 2) (N := some 81) (fl 14 3 []) HT_ ?_
           refine pu (i := 3) (N := some 82) (fl 14 4 []) HT_ ?_
           refine pu (i := 4) (N := some 83) (fl 14 5 []) HT_ ?_
           refine pu (i := 6) (N := some 85) (fl 14 5 [6]) HT_ ?_
           refine pu (i := 7) (N := some 86) (fl 14 5 [6, 7]) HT_ ?_
           refine pu (i := 8) (N := some 87) (fl 14 5 [6, 7, 8]) HT_ ?_
           refine tk (i := 5) (N := some 84) (fl 14 9 []) HT_ HW_ hHeld ?_
           refine tk (i := 9) (N := some 88) (fl 14 10 []) HT_ HW_ hHeld ?_
           refine pu (i := 10) (N := some 89) (fl 14 11 []) HT_ ?_
           refine pu (i := 11) (N := some 90) (fl 14 12 []) HT_ ?_
           refine pu (i := 12) (N := some 91) (fl 14 13 []) HT_ ?_
           refine last_ (i := 13) (N := none) #[T,T,T,T,T,T,T,T,T,T,T,T,T,T] rfl rfl (one_of HT_.out (by kernel_rfl)) (by decide) (fun K hK => ?_)
           refine skip_ (w1 := ?_) (by rfl) rfl ?_ ?_
           rotate_left
           ·go_simp
            rfl
           refine hK.out _ _ ?_
           clear hK K
           refine done_ (done_of HT_.out (by kernel_rfl)) ?_
           try go_wp2
           go_roundg k4
           case measure => have := HK1.out; have := HK2.out; have := HK3.out; have := HK4.out; omega
           case rel => exact ⟨(y419), (wrap64 (x7_4 + 1)), sqD, H', ⟨by have := HK1.out; have := HK2.out; have := HK3.out; have := HK4.out; omega⟩, ⟨fR HQ50.out⟩, ⟨by (with_reducible repeat first | apply blk_drewN | apply blk_drew | apply blk_alloc); refine blk_far ?_ (by have h_ := Kd.R_ne HO_3.out BK403.out (by decide); intro e_; exact h_ (by rw [e_]; rfl)) _; (with_reducible repeat first | apply blk_drewN | apply blk_drew | apply blk_alloc); exact BK403.out⟩, ⟨fW HB.out⟩⟩
      ·rw [if_neg c10] at H
       have c10b0 : decide (x5_2 < (l0_0.length : Int)) = false := decide_eq_false c10
       clear c10
       obtain rfl := Option.some.inj H
       have := yC1 BK403
       have := kC1 BK403
       have := kC2 BK403
       have := kC3 BK403
       have := bf BK403.out 0
       have := bf BK403.out 1
       have := bf BK403.out 2
       have := bf BK403.out 3
       go_wp2
       go_ret
       exact ⟨_, sqE, fR HO_3.out, fW HB.out⟩

end Go.Proofs.Ytkeomlmlimkebaa.QA
