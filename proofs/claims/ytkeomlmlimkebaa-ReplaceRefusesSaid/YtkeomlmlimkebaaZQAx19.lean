import Derived.Test.YtkeomlmlimkebaaZQAx0
import Derived.Test.YtkeomlmlimkebaaZQAx9
namespace Go.Proofs.Ytkeomlmlimkebaa.QA
open Go.RowKit Go.Proofs.YtkeomlmlimkebaaW.PrintWords Go.Proofs.YtkeomlmlimkebaaW.PrintLast Go.Proofs.YtkeomlmlimkebaaW.PrintMore
open Go.Proofs.YtkeomlmlimkebaaW.PrintWords renaming blk_frozen → bf, below_size → wz, gate_dst → gd, gate_builtin → gB
open Aside0 renaming mk → am
attribute [local go_sem] max2_int min2_int max_two min_two max_three min_three max_four min_four
set_option linter.unusedVariables false
set_option linter.unusedSimpArgs false

mutual
def r_Refusal.l0 : Nat → List Int → Int → List (List Int) → Int → List Int → List Bool → Option (List Int × List Int)
 | 0, _, _, _, _, _, _ => none
 | k + 1, x6, x7, x498000, x498001, x498002, x498003 => if x7 < (x498000.length : Int) then (r_Refusal.l1 k x6 x7 0 x498000 x498001 x498002 x498003) else (r_Refusal.l3 k x6 (([] : List Int)) (([] : List Int)) 0 x498000 x498001 x498002 x498003)
def r_Refusal.l1 : Nat → List Int → Int → Int → List (List Int) → Int → List Int → List Bool → Option (List Int × List Int)
 | 0, _, _, _, _, _, _, _ => none
 | k + 1, x6, x7, x8, x498000, x498001, x498002, x498003 => if x8 < (x498000.length : Int) then ((r_has.f k x6 x8).bind fun t501 => (if t501 = true then (r_Refusal.j2 k x6 x7 x8 true x498000 x498001 x498002 x498003) else (if 0 ≤ x8 then (if x8 < (x498003.length : Int) then (if rdOf false x498003 x8 = true then (r_Refusal.j2 k x6 x7 x8 true x498000 x498001 x498002 x498003) else (if x8 < (x498002.length : Int) then (r_Refusal.j2 k x6 x7 x8 (decide ((rd x498002 x8) < 0)) x498000 x498001 x498002 x498003) else (none))) else (none)) else (none)))) else (r_Refusal.l0 k x6 (wrap64 (x7 + 1)) x498000 x498001 x498002 x498003)
def r_Refusal.j2 : Nat → List Int → Int → Int → Bool → List (List Int) → Int → List Int → List Bool → Option (List Int × List Int)
 | 0, _, _, _, _, _, _, _, _ => none
 | k + 1, x6, x7, x8, x48, x498000, x498001, x498002, x498003 => if x48 = true then (r_Refusal.l1 k x6 x7 (wrap64 (x8 + 1)) x498000 x498001 x498002 x498003) else (r_Refusal.l2 k x6 x7 x8 0 x498000 x498001 x498002 x498003)
def r_Refusal.l2 : Nat → List Int → Int → Int → Int → List (List Int) → Int → List Int → List Bool → Option (List Int × List Int)
 | 0, _, _, _, _, _, _, _, _ => none
 | k + 1, x6, x7, x8, x9, x498000, x498001, x498002, x498003 => if x9 < (x6.length : Int) then (if 0 ≤ x9 then (if 0 ≤ (rd x6 x9) then (if (rd x6 x9) < (x498000.length : Int) then (if 0 ≤ x8 then (if x8 < (x498002.length : Int) then ((r_has.f k (rd_L1 x498000 (rd x6 x9)) (rd x498002 x8)).bind fun t507 => (if t507 = true then (if x6.length < 17592186044416 then (r_Refusal.l1 k (x6 ++ [x8]) x7 (wrap64 (x8 + 1)) x498000 x498001 x498002 x498003) else (none)) else (r_Refusal.l2 k x6 x7 x8 (wrap64 (x9 + 1)) x498000 x498001 x498002 x498003))) else (none)) else (none)) else (none)) else (none)) else (none)) else (r_Refusal.l1 k x6 x7 (wrap64 (x8 + 1)) x498000 x498001 x498002 x498003)
def r_Refusal.l3 : Nat → List Int → List Int → List Int → Int → List (List Int) → Int → List Int → List Bool → Option (List Int × List Int)
 | 0, _, _, _, _, _, _, _, _ => none
 | k + 1, x6, x10, x11, x12, x498000, x498001, x498002, x498003 => if x12 < (x498000.length : Int) then ((r_has.f k x6 x12).bind fun t517 => (if t517 = true then (if x10.length < 17592186044416 then (r_Refusal.l3 k x6 (x10 ++ [x12]) x11 (wrap64 (x12 + 1)) x498000 x498001 x498002 x498003) else (none)) else (r_Refusal.l3 k x6 x10 x11 (wrap64 (x12 + 1)) x498000 x498001 x498002 x498003))) else (r_Refusal.l4 k x10 x11 0 x498000 x498001 x498002 x498003)
def r_Refusal.l4 : Nat → List Int → List Int → Int → List (List Int) → Int → List Int → List Bool → Option (List Int × List Int)
 | 0, _, _, _, _, _, _, _ => none
 | k + 1, x10, x11, x13, x498000, x498001, x498002, x498003 => if x13 < x498001 then (r_Refusal.l5 k x10 x11 x13 0 x498000 x498001 x498002 x498003) else (some (x10, x11))
def r_Refusal.l5 : Nat → List Int → List Int → Int → Int → List (List Int) → Int → List Int → List Bool → Option (List Int × List Int)
 | 0, _, _, _, _, _, _, _, _ => none
 | k + 1, x10, x11, x13, x14, x498000, x498001, x498002, x498003 => if x14 < (x10.length : Int) then (if 0 ≤ x14 then (if 0 ≤ (rd x10 x14) then (if (rd x10 x14) < (x498000.length : Int) then ((r_has.f k (rd_L1 x498000 (rd x10 x14)) x13).bind fun t523 => (if t523 = true then (if x11.length < 17592186044416 then (r_Refusal.l4 k x10 (x11 ++ [x13]) (wrap64 (x13 + 1)) x498000 x498001 x498002 x498003) else (none)) else (r_Refusal.l5 k x10 x11 x13 (wrap64 (x14 + 1)) x498000 x498001 x498002 x498003))) else (none)) else (none)) else (none)) else (r_Refusal.l4 k x10 x11 (wrap64 (x13 + 1)) x498000 x498001 x498002 x498003)
end
def r_Refusal.f (k : Nat) (l0_0 : List (List Int)) (a0_1 : Int) (l0_2 : List Int) (l0_3 : List Bool) (a1 : Int) : Option (List Int × List Int) := r_Refusal.l0 k (([a1] : List Int)) 0 l0_0 a0_1 l0_2 l0_3
set_option maxHeartbeats 8000000 in
set_option maxRecDepth 100000 in
theorem r_Refusal.calls (k : Nat) (A0_0 : Option Addr) (c0_0 : Nat) (l0_0 : List (List Int)) (a0_1 : Int) (A0_2 : Option Addr) (c0_2 : Nat) (l0_2 : List Int) (A0_3 : Option Addr) (c0_3 : Nat) (l0_3 : List Bool) (a1 : Int) (r1 : List Int) (r2 : List Int) (w : World) (hr0_0 : Kd.C (Kd.slice 3 (Kd.int .i64)) w A0_0 l0_0.length l0_0) (hc0_0 : l0_0.length ≤ c0_0) (hr0_2 : Kd.C (Kd.int .i64) w A0_2 l0_2.length l0_2) (hc0_2 : l0_2.length ≤ c0_2) (hr0_3 : Kd.C Kd.bool w A0_3 l0_3.length l0_3) (hc0_3 : l0_3.length ≤ c0_3) (h : r_Refusal.f k l0_0 a0_1 l0_2 l0_3 a1 = some (r1, r2)) :
  Calls Try.prog 21 #[.agg #[.slice A0_0 l0_0.length c0_0, .int .i64 a0_1, .slice A0_2 l0_2.length c0_2, .slice A0_3 l0_3.length c0_3], .int .i64 a1] w fun e w' => ∃ v0_ v1_ : Value, e = .returned (.tuple #[v0_, v1_]) ∧ Kd.R (Kd.int .i64) 3 w' w.heap.size (fun k_ => some k_ ≠ (v1_ : Value).ownBlock) v0_ r1 ∧ Kd.R (Kd.int .i64) 3 w' w.heap.size (fun k_ => some k_ ≠ (v0_ : Value).ownBlock) v1_ r2 ∧ Below w.heap.size w w' := by
 have hu26 := Try.underlying26
 have HR0_0 := am hr0_0
 have HC0_0 := am hc0_0
 clear hr0_0 hc0_0
 have HR0_2 := am hr0_2
 have HC0_2 := am hc0_2
 clear hr0_2 hc0_2
 have HR0_3 := am hr0_3
 have HC0_3 := am hc0_3
 clear hr0_3 hc0_3
 have HB := am (Below.refl w.heap.size w)
 have H : (r_Refusal.l0 k (([a1] : List Int)) 0 l0_0 a0_1 l0_2 l0_3) = some (r1, r2) := h
 clear h
 obtain ⟨y498, hy498⟩ : ∃ y_ : List Int, y_ = (([a1] : List Int)) := ⟨_, rfl⟩
 replace H : (r_Refusal.l0 k y498 0 l0_0 a0_1 l0_2 l0_3) = some (r1, r2) := by first | (rw [hy498]; with_reducible exact H) | (have H2_ := (Option.bind_some _ _).symm.trans H; rw [hy498]; with_reducible exact H2_) | (have H2_ := (Option.bind_some _ _).symm.trans H; with_reducible exact H2_) | with_reducible exact H | (rw [hy498]; exact H) | exact H
 have Ny498 := am hy498
 clear hy498
 have H' := am H
 clear H
 go_enter Try.func21, Try.ntmps21
 go_wp2_with (first | ((with_reducible refine gd (N := 2) rfl ?_); refine box_event ?hg (N := 2) ?hd (cs := #[.slice A0_0 l0_0.length c0_0, .int .i64 a0_1, .slice A0_2 l0_2.length c0_2, .slice A0_3 l0_3.length c0_3]) (t := 26) ?hr ?_; (case hd | hg => rfl); (case hr => first | (go_simp; done) | (go_simp; rfl)); intro gb497 hg w3 hbox hb; have BK497 := am hbox; have GW497 := sG HB hg; have GE497 := sG HB hg; replace HB := bS HB hb; clear hb hbox hg) | ((with_reducible refine gd (N := 16) rfl ?_); refine Kd.R_lit (Kd.int .i64) _ 3 ?hg (N := 16) ?hd (xs := ([a1] : List Int)) (inner := [.int .i64 a1]) (ok := fun _ => True) (okp := fun _ => True) ?hr ?hp (fun _ hk => hk) trivial (Below.refl _ _) (Nat.le_refl _) (by simp) ?_; (case hd | hg => rfl); (case hr => first | (go_simp; done) | (go_simp; rfl)); (case hp => exact (Reps.one (show Kd.M (Kd.int .i64) _ _ _ a1 [.int .i64 a1] from rfl) (Reps.none _ _))); intro v499 w4 ho5 hb hg_ hnew_; clear hg_ hnew_; (first | rw [← Ny498.out] at ho5 | (simp only [Int.reduceToNat] at ho5; rw [← Ny498.out] at ho5)); have HO500 := am (Kd.R_lower ho5 (wz (fW HB.out))); replace BK497 := bB BK497 hb; replace HB := bS HB hb; clear hb ho5))
 repeat (go_quiet (first | ((with_reducible refine gd (N := 2) rfl ?_); refine box_event ?hg (N := 2) ?hd (cs := #[.slice A0_0 l0_0.length c0_0, .int .i64 a0_1, .slice A0_2 l0_2.length c0_2, .slice A0_3 l0_3.length c0_3]) (t := 26) ?hr ?_; (case hd | hg => rfl); (case hr => first | (go_simp; done) | (go_simp; rfl)); intro gb497 hg w3 hbox hb; have BK497 := am hbox; have GW497 := sG HB hg; have GE497 := sG HB hg; replace HB := bS HB hb; clear hb hbox hg) | ((with_reducible refine gd (N := 16) rfl ?_); refine Kd.R_lit (Kd.int .i64) _ 3 ?hg (N := 16) ?hd (xs := ([a1] : List Int)) (inner := [.int .i64 a1]) (ok := fun _ => True) (okp := fun _ => True) ?hr ?hp (fun _ hk => hk) trivial (Below.refl _ _) (Nat.le_refl _) (by simp) ?_; (case hd | hg => rfl); (case hr => first | (go_simp; done) | (go_simp; rfl)); (case hp => exact (Reps.one (show Kd.M (Kd.int .i64) _ _ _ a1 [.int .i64 a1] from rfl) (Reps.none _ _))); intro v499 w4 ho5 hb hg_ hnew_; clear hg_ hnew_; (first | rw [← Ny498.out] at ho5 | (simp only [Int.reduceToNat] at ho5; rw [← Ny498.out] at ho5)); have HO500 := am (Kd.R_lower ho5 (wz (fW HB.out))); replace BK497 := bB BK497 hb; replace HB := bS HB hb; clear hb ho5)); try go_wp2_with (first | ((with_reducible refine gd (N := 2) rfl ?_); refine box_event ?hg (N := 2) ?hd (cs := #[.slice A0_0 l0_0.length c0_0, .int .i64 a0_1, .slice A0_2 l0_2.length c0_2, .slice A0_3 l0_3.length c0_3]) (t := 26) ?hr ?_; (case hd | hg => rfl); (case hr => first | (go_simp; done) | (go_simp; rfl)); intro gb497 hg w3 hbox hb; have BK497 := am hbox; have GW497 := sG HB hg; have GE497 := sG HB hg; replace HB := bS HB hb; clear hb hbox hg) | ((with_reducible refine gd (N := 16) rfl ?_); refine Kd.R_lit (Kd.int .i64) _ 3 ?hg (N := 16) ?hd (xs := ([a1] : List Int)) (inner := [.int .i64 a1]) (ok := fun _ => True) (okp := fun _ => True) ?hr ?hp (fun _ hk => hk) trivial (Below.refl _ _) (Nat.le_refl _) (by simp) ?_; (case hd | hg => rfl); (case hr => first | (go_simp; done) | (go_simp; rfl)); (case hp => exact (Reps.one (show Kd.M (Kd.int .i64) _ _ _ a1 [.int .i64 a1] from rfl) (Reps.none _ _))); intro v499 w4 ho5 hb hg_ hnew_; clear hg_ hnew_; (first | rw [← Ny498.out] at ho5 | (simp only [Int.reduceToNat] at ho5; rw [← Ny498.out] at ho5)); have HO500 := am (Kd.R_lower ho5 (wz (fW HB.out))); replace BK497 := bB BK497 hb; replace HB := bS HB hb; clear hb ho5)))
 go_loopg [6, 7] k (fun kq v6 v7 w' => ∃ (x6_1 : List Int) (x7_1 : Int), v7 = .int .i64 x7_1 ∧ Aside0 (r_Refusal.l0 kq x6_1 x7_1 l0_0 a0_1 l0_2 l0_3 = some (r1, r2)) ∧ Aside0 (kq ≤ k) ∧ Aside0 (Kd.R (Kd.int .i64) 3 w' w.heap.size (fun _ => True) v6 x6_1) ∧ Aside0 (w'.heap[gb497]? = some (.cells #[(.slice A0_0 l0_0.length c0_0), .int .i64 a0_1, (.slice A0_2 l0_2.length c0_2), (.slice A0_3 l0_3.length c0_3)] 26 (0, 0))) ∧ Aside0 (Below w.heap.size w w'))
 case atStart => exact ⟨(y498), (0), sqD, H', ⟨Nat.le_refl _⟩, ⟨fR HO500.out⟩, ⟨fb BK497.out⟩, ⟨fW HB.out⟩⟩
 case round =>
  clear H'
  try clear c2;try clear p2
  obtain ⟨x6_1, x7_1, rfl, HA, HK1, HO_6, BK497, HB⟩ := hrel
  cases gk with
  | zero => exact absurd HA.out (by simp [r_Refusal.l0])
  | succ k1 =>
   have H := HA.out
   clear HA
   simp only [r_Refusal.l0] at H
   by_cases c6 : x7_1 < (l0_0.length : Int)
   ·rw [if_pos c6] at H
    have c6b0 : decide (x7_1 < (l0_0.length : Int)) = true := decide_eq_true c6
    clear c6
    have H' := am H
    clear H
    have := yC1 BK497
    have := kC1 BK497
    have := kC2 BK497
    have := kC3 BK497
    have := bf BK497.out 0
    have := bf BK497.out 1
    have := bf BK497.out 2
    have := bf BK497.out 3
    go_wp2
    repeat (go_quiet (fail); try go_wp2)
    go_loopg [6, 8] k1 (fun kq v6 v8 w' => ∃ (x6_2 : List Int) (x8_2 : Int), v8 = .int .i64 x8_2 ∧ Aside0 (r_Refusal.l1 kq x6_2 x7_1 x8_2 l0_0 a0_1 l0_2 l0_3 = some (r1, r2)) ∧ Aside0 (kq ≤ k1) ∧ Aside0 (Kd.R (Kd.int .i64) 3 w' w.heap.size (fun _ => True) v6 x6_2) ∧ Aside0 (w'.heap[gb497]? = some (.cells #[(.slice A0_0 l0_0.length c0_0), .int .i64 a0_1, (.slice A0_2 l0_2.length c0_2), (.slice A0_3 l0_3.length c0_3)] 26 (0, 0))) ∧ Aside0 (Below w.heap.size w w'))
    case atStart => exact ⟨(x6_1), (0), sqD, H', ⟨Nat.le_refl _⟩, ⟨fR HO_6.out⟩, ⟨fb BK497.out⟩, ⟨fW HB.out⟩⟩
    case round =>
     clear H'
     try clear c2;try clear p2;try clear c6;try clear c6b0;try clear p2
     obtain ⟨x6_2, x8_2, rfl, HA, HK2, HO_6, BK497, HB⟩ := hrel
     cases gk with
     | zero => exact absurd HA.out (by simp [r_Refusal.l1])
     | succ k2 =>
      have H := HA.out
      clear HA
      simp only [r_Refusal.l1] at H
      by_cases c8 : x8_2 < (l0_0.length : Int)
      rotate_left
      ·rw [if_neg c8] at H
       have c8b0 : decide (x8_2 < (l0_0.length : Int)) = false := decide_eq_false c8
       clear c8
       have H' := am H
       clear H
       have := yC1 BK497
       have := kC1 BK497
       have := kC2 BK497
       have := kC3 BK497
       have := bf BK497.out 0
       have := bf BK497.out 1
       have := bf BK497.out 2
       have := bf BK497.out 3
       go_wp2
       repeat (go_quiet (fail); try go_wp2)
       go_roundg k2
       case measure => have := HK1.out; have := HK2.out; omega
       case rel => exact ⟨(x6_2), (wrap64 (x7_1 + 1)), sqD, H', ⟨by have := HK1.out; have := HK2.out; omega⟩, ⟨fR HO_6.out⟩, ⟨fb BK497.out⟩, ⟨fW HB.out⟩⟩
      rw [if_pos c8] at H
      have c8b0 : decide (x8_2 < (l0_0.length : Int)) = true := decide_eq_true c8
      clear c8
      have HC9 := am H
      clear H
      have := yC1 BK497
      have := kC1 BK497
      have := kC2 BK497
      have := kC3 BK497
      have := bf BK497.out 0
      have := bf BK497.out 1
      have := bf BK497.out 2
      have := bf BK497.out 3
      go_upto_region 8 with (fail)
      repeat (go_quiet (fail); go_upto_region 8 with (fail))
      go_cut [48] (fun v48 wc => ∃ (kq : Nat) (x48_8 : Bool), v48 = .bool x48_8 ∧ Aside0 (r_Refusal.j2 kq x6_2 x7_1 x8_2 x48_8 l0_0 a0_1 l0_2 l0_3 = some (r1, r2)) ∧ Aside0 (kq ≤ k2) ∧ Aside0 (Kd.R (Kd.int .i64) 3 wc w.heap.size (fun _ => True) u6 x6_2) ∧ Aside0 (wc.heap[gb497]? = some (.cells #[(.slice A0_0 l0_0.length c0_0), .int .i64 a0_1, (.slice A0_2 l0_2.length c0_2), (.slice A0_3 l0_3.length c0_3)] 26 (0, 0))) ∧ Aside0 (Below w.heap.size w wc))
      case first =>
       have H := HC9.out
       clear HC9
       replace H := Option.bind_eq_some_iff.mp H
       obtain ⟨t501, A110, H⟩ := H
       replace H : (if t501 = true then (r_Refusal.j2 k2 x6_2 x7_1 x8_2 true l0_0 a0_1 l0_2 l0_3) else (if 0 ≤ x8_2 then (if x8_2 < (l0_3.length : Int) then (if rdOf false l0_3 x8_2 = true then (r_Refusal.j2 k2 x6_2 x7_1 x8_2 true l0_0 a0_1 l0_2 l0_3) else (if x8_2 < (l0_2.length : Int) then (r_Refusal.j2 k2 x6_2 x7_1 x8_2 (decide ((rd l0_2 x8_2) < 0)) l0_0 a0_1 l0_2 l0_3) else (none))) else (none)) else (none))) = some (r1, r2) := H
       have A11 := am A110
       clear A110
       by_cases c12 : t501 = true
       ·subst c12
        have H1 : (r_Refusal.j2 k2 x6_2 x7_1 x8_2 true l0_0 a0_1 l0_2 l0_3) = some (r1, r2) := by rw [if_pos rfl] at H; exact H
        clear H
        have H := H1
        clear H1
        have H' := am H
        clear H
        obtain ⟨Ao13, co13, eo13⟩ := Kd.R_slice HO_6.out
        subst eo13
        go_wp2_with (first | (go_at_call 40; (with_reducible refine (r_has.calls k2 _ _ x6_2 x8_2 true _ ?side1 ?side2 A11.out).mono ?_); (case side1 => repeat (first | exact (Kd.R_reads' HO_6.out).2.2 | (with_reducible refine Kd.C_alloc ?_ _) | (with_reducible refine Kd.C_drewN ?_ _) | (with_reducible refine Kd.C_drew ?_))); (case side2 => exact (Kd.R_reads' HO_6.out).2.1); rintro e w' ⟨rfl, ⟨nd, rfl⟩⟩; (try first | exact ⟨rfl, _, World.drewN_drewN _ _ _⟩ | exact ⟨rfl, _, Eq.trans (World.drewN_drewN _ _ _) (congrArg (World.drewN _) (Nat.add_assoc _ _ _))⟩)))
        repeat (go_quiet (first | (go_at_call 40; (with_reducible refine (r_has.calls k2 _ _ x6_2 x8_2 true _ ?side1 ?side2 A11.out).mono ?_); (case side1 => repeat (first | exact (Kd.R_reads' HO_6.out).2.2 | (with_reducible refine Kd.C_alloc ?_ _) | (with_reducible refine Kd.C_drewN ?_ _) | (with_reducible refine Kd.C_drew ?_))); (case side2 => exact (Kd.R_reads' HO_6.out).2.1); rintro e w' ⟨rfl, ⟨nd, rfl⟩⟩; (try first | exact ⟨rfl, _, World.drewN_drewN _ _ _⟩ | exact ⟨rfl, _, Eq.trans (World.drewN_drewN _ _ _) (congrArg (World.drewN _) (Nat.add_assoc _ _ _))⟩))); try go_wp2_with (first | (go_at_call 40; (with_reducible refine (r_has.calls k2 _ _ x6_2 x8_2 true _ ?side1 ?side2 A11.out).mono ?_); (case side1 => repeat (first | exact (Kd.R_reads' HO_6.out).2.2 | (with_reducible refine Kd.C_alloc ?_ _) | (with_reducible refine Kd.C_drewN ?_ _) | (with_reducible refine Kd.C_drew ?_))); (case side2 => exact (Kd.R_reads' HO_6.out).2.1); rintro e w' ⟨rfl, ⟨nd, rfl⟩⟩; (try first | exact ⟨rfl, _, World.drewN_drewN _ _ _⟩ | exact ⟨rfl, _, Eq.trans (World.drewN_drewN _ _ _) (congrArg (World.drewN _) (Nat.add_assoc _ _ _))⟩))))
        go_meet
        case rel => exact ⟨_, (true), sqD, H', ⟨by have := HK1.out; have := HK2.out; first | omega | exact Nat.le_refl _⟩, ⟨fR HO_6.out⟩, ⟨fb BK497.out⟩, ⟨fW HB.out⟩⟩
       replace c12 := Bool.eq_false_iff.mpr c12
       subst c12
       have H1 : (if 0 ≤ x8_2 then (if x8_2 < (l0_3.length : Int) then (if rdOf false l0_3 x8_2 = true then (r_Refusal.j2 k2 x6_2 x7_1 x8_2 true l0_0 a0_1 l0_2 l0_3) else (if x8_2 < (l0_2.length : Int) then (r_Refusal.j2 k2 x6_2 x7_1 x8_2 (decide ((rd l0_2 x8_2) < 0)) l0_0 a0_1 l0_2 l0_3) else (none))) else (none)) else (none)) = some (r1, r2) := by rw [if_neg (show ¬ (false = true) by decide)] at H; exact H
       clear H
       have H := H1
       clear H1
       by_cases c14 : 0 ≤ x8_2
       rotate_left
       ·rw [if_neg c14] at H
        exact absurd H (by simp)
       rw [if_pos c14] at H
       have c14b0 : decide (0 ≤ x8_2) = true := decide_eq_true c14
       clear c14
       (first | rw [c14b0] | (simp only [i64_w, i32_w]; rw [c14b0]) | skip)
       by_cases c15 : x8_2 < (l0_3.length : Int)
       rotate_left
       ·rw [if_neg c15] at H
        exact absurd H (by simp)
       rw [if_pos c15] at H
       have c15b0 : decide (x8_2 < (l0_3.length : Int)) = true := decide_eq_true c15
       clear c15
       obtain ⟨bq16, hbq16⟩ : ∃ b_ : Bool, b_ = (rdOf false l0_3 x8_2) := ⟨_, rfl⟩
       replace H : (if bq16 = true then (r_Refusal.j2 k2 x6_2 x7_1 x8_2 true l0_0 a0_1 l0_2 l0_3) else (if x8_2 < (l0_2.length : Int) then (r_Refusal.j2 k2 x6_2 x7_1 x8_2 (decide ((rd l0_2 x8_2) < 0)) l0_0 a0_1 l0_2 l0_3) else (none))) = some (r1, r2) := by rw [← hbq16] at H; exact H
       have Nbq16 := am hbq16
       clear hbq16
       by_cases c17 : bq16 = true
       ·subst c17
        have H1 : (r_Refusal.j2 k2 x6_2 x7_1 x8_2 true l0_0 a0_1 l0_2 l0_3) = some (r1, r2) := by rw [if_pos rfl] at H; exact H
        clear H
        have H := H1
        clear H1
        have H' := am H
        clear H
        obtain ⟨Ao18, co18, eo18⟩ := Kd.R_slice HO_6.out
        subst eo18
        go_wp2_with (first | (go_at_call 40; (with_reducible refine (r_has.calls k2 _ _ x6_2 x8_2 false _ ?side1 ?side2 A11.out).mono ?_); (case side1 => repeat (first | exact (Kd.R_reads' HO_6.out).2.2 | (with_reducible refine Kd.C_alloc ?_ _) | (with_reducible refine Kd.C_drewN ?_ _) | (with_reducible refine Kd.C_drew ?_))); (case side2 => exact (Kd.R_reads' HO_6.out).2.1); rintro e w' ⟨rfl, ⟨nd, rfl⟩⟩; (try first | exact ⟨rfl, _, World.drewN_drewN _ _ _⟩ | exact ⟨rfl, _, Eq.trans (World.drewN_drewN _ _ _) (congrArg (World.drewN _) (Nat.add_assoc _ _ _))⟩); obtain ⟨_, _, _, _, _, _, _, _⟩ := zC4 BK497; have p502 : 0 ≤ (x8_2 : Int) := of_decide_eq_true (by assumption); have q502 : x8_2 < (l0_3.length : Int) := of_decide_eq_true (by assumption); obtain ⟨ad502, e502, hx502_0⟩ := Kd.at_bool HR0_3.out x8_2 p502 q502; (try rw [← Nbq16.out] at hx502_0); cases e502; replace hx502_0 := cl HB hx502_0; replace p502 := eq_true p502; replace q502 := eq_true q502))
        repeat (go_quiet (first | (go_at_call 40; (with_reducible refine (r_has.calls k2 _ _ x6_2 x8_2 false _ ?side1 ?side2 A11.out).mono ?_); (case side1 => repeat (first | exact (Kd.R_reads' HO_6.out).2.2 | (with_reducible refine Kd.C_alloc ?_ _) | (with_reducible refine Kd.C_drewN ?_ _) | (with_reducible refine Kd.C_drew ?_))); (case side2 => exact (Kd.R_reads' HO_6.out).2.1); rintro e w' ⟨rfl, ⟨nd, rfl⟩⟩; (try first | exact ⟨rfl, _, World.drewN_drewN _ _ _⟩ | exact ⟨rfl, _, Eq.trans (World.drewN_drewN _ _ _) (congrArg (World.drewN _) (Nat.add_assoc _ _ _))⟩); obtain ⟨_, _, _, _, _, _, _, _⟩ := zC4 BK497; have p502 : 0 ≤ (x8_2 : Int) := of_decide_eq_true (by assumption); have q502 : x8_2 < (l0_3.length : Int) := of_decide_eq_true (by assumption); obtain ⟨ad502, e502, hx502_0⟩ := Kd.at_bool HR0_3.out x8_2 p502 q502; (try rw [← Nbq16.out] at hx502_0); cases e502; replace hx502_0 := cl HB hx502_0; replace p502 := eq_true p502; replace q502 := eq_true q502)); try go_wp2_with (first | (go_at_call 40; (with_reducible refine (r_has.calls k2 _ _ x6_2 x8_2 false _ ?side1 ?side2 A11.out).mono ?_); (case side1 => repeat (first | exact (Kd.R_reads' HO_6.out).2.2 | (with_reducible refine Kd.C_alloc ?_ _) | (with_reducible refine Kd.C_drewN ?_ _) | (with_reducible refine Kd.C_drew ?_))); (case side2 => exact (Kd.R_reads' HO_6.out).2.1); rintro e w' ⟨rfl, ⟨nd, rfl⟩⟩; (try first | exact ⟨rfl, _, World.drewN_drewN _ _ _⟩ | exact ⟨rfl, _, Eq.trans (World.drewN_drewN _ _ _) (congrArg (World.drewN _) (Nat.add_assoc _ _ _))⟩); obtain ⟨_, _, _, _, _, _, _, _⟩ := zC4 BK497; have p502 : 0 ≤ (x8_2 : Int) := of_decide_eq_true (by assumption); have q502 : x8_2 < (l0_3.length : Int) := of_decide_eq_true (by assumption); obtain ⟨ad502, e502, hx502_0⟩ := Kd.at_bool HR0_3.out x8_2 p502 q502; (try rw [← Nbq16.out] at hx502_0); cases e502; replace hx502_0 := cl HB hx502_0; replace p502 := eq_true p502; replace q502 := eq_true q502)))
        go_meet
        case rel => exact ⟨_, (true), sqD, H', ⟨by have := HK1.out; have := HK2.out; first | omega | exact Nat.le_refl _⟩, ⟨fR HO_6.out⟩, ⟨fb BK497.out⟩, ⟨fW HB.out⟩⟩
       replace c17 := Bool.eq_false_iff.mpr c17
       subst c17
       have H1 : (if x8_2 < (l0_2.length : Int) then (r_Refusal.j2 k2 x6_2 x7_1 x8_2 (decide ((rd l0_2 x8_2) < 0)) l0_0 a0_1 l0_2 l0_3) else (none)) = some (r1, r2) := by rw [if_neg (show ¬ (false = true) by decide)] at H; exact H
       clear H
       have H := H1
       clear H1
       by_cases c20 : x8_2 < (l0_2.length : Int)
       ·rw [if_pos c20] at H
        have c20b0 : decide (x8_2 < (l0_2.length : Int)) = true := decide_eq_true c20
        clear c20
        have H' := am H
        clear H
        obtain ⟨Ao21, co21, eo21⟩ := Kd.R_slice HO_6.out
        subst eo21
        go_wp2_with (first | (go_at_call 40; (with_reducible refine (r_has.calls k2 _ _ x6_2 x8_2 false _ ?side1 ?side2 A11.out).mono ?_); (case side1 => repeat (first | exact (Kd.R_reads' HO_6.out).2.2 | (with_reducible refine Kd.C_alloc ?_ _) | (with_reducible refine Kd.C_drewN ?_ _) | (with_reducible refine Kd.C_drew ?_))); (case side2 => exact (Kd.R_reads' HO_6.out).2.1); rintro e w' ⟨rfl, ⟨nd, rfl⟩⟩; (try first | exact ⟨rfl, _, World.drewN_drewN _ _ _⟩ | exact ⟨rfl, _, Eq.trans (World.drewN_drewN _ _ _) (congrArg (World.drewN _) (Nat.add_assoc _ _ _))⟩); obtain ⟨_, _, _, _, _, _, _, _⟩ := zC4 BK497; have p502 : 0 ≤ (x8_2 : Int) := of_decide_eq_true (by assumption); have q502 : x8_2 < (l0_3.length : Int) := of_decide_eq_true (by assumption); obtain ⟨ad502, e502, hx502_0⟩ := Kd.at_bool HR0_3.out x8_2 p502 q502; (try rw [← Nbq16.out] at hx502_0); cases e502; replace hx502_0 := cl HB hx502_0; replace p502 := eq_true p502; replace q502 := eq_true q502; have p503 : 0 ≤ (x8_2 : Int) := of_decide_eq_true (by assumption); have q503 : x8_2 < (l0_2.length : Int) := of_decide_eq_true (by assumption); obtain ⟨ad503, e503, hx503_0⟩ := Kd.at_int HR0_2.out x8_2 p503 q503; cases e503; replace hx503_0 := cl HB hx503_0; replace p503 := eq_true p503; replace q503 := eq_true q503))
        repeat (go_quiet (first | (go_at_call 40; (with_reducible refine (r_has.calls k2 _ _ x6_2 x8_2 false _ ?side1 ?side2 A11.out).mono ?_); (case side1 => repeat (first | exact (Kd.R_reads' HO_6.out).2.2 | (with_reducible refine Kd.C_alloc ?_ _) | (with_reducible refine Kd.C_drewN ?_ _) | (with_reducible refine Kd.C_drew ?_))); (case side2 => exact (Kd.R_reads' HO_6.out).2.1); rintro e w' ⟨rfl, ⟨nd, rfl⟩⟩; (try first | exact ⟨rfl, _, World.drewN_drewN _ _ _⟩ | exact ⟨rfl, _, Eq.trans (World.drewN_drewN _ _ _) (congrArg (World.drewN _) (Nat.add_assoc _ _ _))⟩); obtain ⟨_, _, _, _, _, _, _, _⟩ := zC4 BK497; have p502 : 0 ≤ (x8_2 : Int) := of_decide_eq_true (by assumption); have q502 : x8_2 < (l0_3.length : Int) := of_decide_eq_true (by assumption); obtain ⟨ad502, e502, hx502_0⟩ := Kd.at_bool HR0_3.out x8_2 p502 q502; (try rw [← Nbq16.out] at hx502_0); cases e502; replace hx502_0 := cl HB hx502_0; replace p502 := eq_true p502; replace q502 := eq_true q502; have p503 : 0 ≤ (x8_2 : Int) := of_decide_eq_true (by assumption); have q503 : x8_2 < (l0_2.length : Int) := of_decide_eq_true (by assumption); obtain ⟨ad503, e503, hx503_0⟩ := Kd.at_int HR0_2.out x8_2 p503 q503; cases e503; replace hx503_0 := cl HB hx503_0; replace p503 := eq_true p503; replace q503 := eq_true q503)); try go_wp2_with (first | (go_at_call 40; (with_reducible refine (r_has.calls k2 _ _ x6_2 x8_2 false _ ?side1 ?side2 A11.out).mono ?_); (case side1 => repeat (first | exact (Kd.R_reads' HO_6.out).2.2 | (with_reducible refine Kd.C_alloc ?_ _) | (with_reducible refine Kd.C_drewN ?_ _) | (with_reducible refine Kd.C_drew ?_))); (case side2 => exact (Kd.R_reads' HO_6.out).2.1); rintro e w' ⟨rfl, ⟨nd, rfl⟩⟩; (try first | exact ⟨rfl, _, World.drewN_drewN _ _ _⟩ | exact ⟨rfl, _, Eq.trans (World.drewN_drewN _ _ _) (congrArg (World.drewN _) (Nat.add_assoc _ _ _))⟩); obtain ⟨_, _, _, _, _, _, _, _⟩ := zC4 BK497; have p502 : 0 ≤ (x8_2 : Int) := of_decide_eq_true (by assumption); have q502 : x8_2 < (l0_3.length : Int) := of_decide_eq_true (by assumption); obtain ⟨ad502, e502, hx502_0⟩ := Kd.at_bool HR0_3.out x8_2 p502 q502; (try rw [← Nbq16.out] at hx502_0); cases e502; replace hx502_0 := cl HB hx502_0; replace p502 := eq_true p502; replace q502 := eq_true q502; have p503 : 0 ≤ (x8_2 : Int) := of_decide_eq_true (by assumption); have q503 : x8_2 < (l0_2.length : Int) := of_decide_eq_true (by assumption); obtain ⟨ad503, e503, hx503_0⟩ := Kd.at_int HR0_2.out x8_2 p503 q503; cases e503; replace hx503_0 := cl HB hx503_0; replace p503 := eq_true p503; replace q503 := eq_true q503)))
        go_meet
        case rel => exact ⟨_, (decide ((rd l0_2 x8_2) < 0)), sqD, H', ⟨by have := HK1.out; have := HK2.out; first | omega | exact Nat.le_refl _⟩, ⟨fR HO_6.out⟩, ⟨fb BK497.out⟩, ⟨fW HB.out⟩⟩
       rw [if_neg c20] at H
       exact absurd H (by simp)
      case rest =>
       clear HC9
       try clear c1;try clear q1;try clear c2;try clear p2;try clear p5;try clear q5;try clear hx5;try clear c6;try clear c6b0;try clear c8;try clear c8b0;try clear c12;try clear c14;try clear c14b0;try clear c15;try clear c15b0;try clear q16;try clear c17;try clear c20;try clear c20b0;try clear c21;try clear hx502_0;try clear hx503_0;try clear p2;try clear p502;try clear p503;try clear q502;try clear q503
       obtain ⟨kq, x48_8, rfl, HA, HJ8, HO_6, BK497, HB⟩ := hcut
       cases kq with
       | zero => exact absurd HA.out (by simp [r_Refusal.j2])
       | succ kj8 =>
        have H := HA.out
        clear HA
        simp only [r_Refusal.j2] at H
        by_cases c23 : x48_8 = true
        ·subst c23
         have H1 : (r_Refusal.l1 kj8 x6_2 x7_1 (wrap64 (x8_2 + 1)) l0_0 a0_1 l0_2 l0_3) = some (r1, r2) := by rw [if_pos rfl] at H; exact H
         clear H
         have H := H1
         clear H1
         have H' := am H
         clear H
         go_wp2
         repeat (go_quiet (fail); try go_wp2)
         go_roundg kj8
         case measure => have := HK1.out; have := HK2.out; have := HJ8.out; omega
         case rel => exact ⟨(x6_2), (wrap64 (x8_2 + 1)), sqD, H', ⟨by have := HK1.out; have := HK2.out; have := HJ8.out; omega⟩, ⟨fR HO_6.out⟩, ⟨fb BK497.out⟩, ⟨fW HB.out⟩⟩
        replace c23 := Bool.eq_false_iff.mpr c23
        subst c23
        have H1 : (r_Refusal.l2 kj8 x6_2 x7_1 x8_2 0 l0_0 a0_1 l0_2 l0_3) = some (r1, r2) := by rw [if_neg (show ¬ (false = true) by decide)] at H; exact H
        clear H
        have H := H1
        clear H1
        have H' := am H
        clear H
        go_wp2
        repeat (go_quiet (fail); try go_wp2)
        go_loopg [6, 9] kj8 (fun kq v6 v9 w' => ∃ (x6_4 : List Int) (x9_4 : Int), v9 = .int .i64 x9_4 ∧ Aside0 (r_Refusal.l2 kq x6_4 x7_1 x8_2 x9_4 l0_0 a0_1 l0_2 l0_3 = some (r1, r2)) ∧ Aside0 (kq ≤ kj8) ∧ Aside0 (Kd.R (Kd.int .i64) 3 w' w.heap.size (fun _ => True) v6 x6_4) ∧ Aside0 (w'.heap[gb497]? = some (.cells #[(.slice A0_0 l0_0.length c0_0), .int .i64 a0_1, (.slice A0_2 l0_2.length c0_2), (.slice A0_3 l0_3.length c0_3)] 26 (0, 0))) ∧ Aside0 (Below w.heap.size w w'))
        case atStart => exact ⟨(x6_2), (0), sqD, H', ⟨Nat.le_refl _⟩, ⟨fR HO_6.out⟩, ⟨fb BK497.out⟩, ⟨fW HB.out⟩⟩
        case round =>
         clear H'
         try clear c1;try clear q1;try clear c2;try clear p2;try clear p5;try clear q5;try clear hx5;try clear c6;try clear c6b0;try clear p6;try clear c8;try clear c8b0;try clear c12;try clear c14;try clear c14b0;try clear c15;try clear c15b0;try clear q16;try clear c17;try clear c20;try clear c20b0;try clear c21;try clear c23;try clear hx502_0;try clear hx503_0;try clear p2;try clear p5;try clear p502;try clear p503;try clear q1;try clear q16;try clear q5;try clear q502;try clear q503
         obtain ⟨x6_4, x9_4, rfl, HA, HK4, HO_6, BK497, HB⟩ := hrel
         cases gk with
         | zero => exact absurd HA.out (by simp [r_Refusal.l2])
         | succ k4 =>
          have H := HA.out
          clear HA
          simp only [r_Refusal.l2] at H
          by_cases c24 : x9_4 < (x6_4.length : Int)
          rotate_left
          ·rw [if_neg c24] at H
           have c24b0 : decide (x9_4 < (x6_4.length : Int)) = false := decide_eq_false c24
           clear c24
           have H' := am H
           clear H
           obtain ⟨Ao38, co38, eo38⟩ := Kd.R_slice HO_6.out
           subst eo38
           go_wp2
           repeat (go_quiet (fail); try go_wp2)
           go_roundg k4
           case measure => have := HK1.out; have := HK2.out; have := HJ8.out; have := HK4.out; omega
           case rel => exact ⟨(x6_4), (wrap64 (x8_2 + 1)), sqD, H', ⟨by have := HK1.out; have := HK2.out; have := HJ8.out; have := HK4.out; omega⟩, ⟨fR HO_6.out⟩, ⟨fb BK497.out⟩, ⟨fW HB.out⟩⟩
          rw [if_pos c24] at H
          have c24b0 : decide (x9_4 < (x6_4.length : Int)) = true := decide_eq_true c24
          clear c24
          by_cases c25 : 0 ≤ x9_4
          rotate_left
          ·rw [if_neg c25] at H
           exact absurd H (by simp)
          rw [if_pos c25] at H
          have c25b0 : decide (0 ≤ x9_4) = true := decide_eq_true c25
          clear c25
          by_cases c26 : 0 ≤ (rd x6_4 x9_4)
          rotate_left
          ·rw [if_neg c26] at H
           exact absurd H (by simp)
          rw [if_pos c26] at H
          have c26b0 : decide (0 ≤ (rd x6_4 x9_4)) = true := decide_eq_true c26
          clear c26
          by_cases c27 : (rd x6_4 x9_4) < (l0_0.length : Int)
          rotate_left
          ·rw [if_neg c27] at H
           exact absurd H (by simp)
          rw [if_pos c27] at H
          have c27b0 : decide ((rd x6_4 x9_4) < (l0_0.length : Int)) = true := decide_eq_true c27
          clear c27
          by_cases c28 : 0 ≤ x8_2
          rotate_left
          ·rw [if_neg c28] at H
           exact absurd H (by simp)
          rw [if_pos c28] at H
          have c28b0 : decide (0 ≤ x8_2) = true := decide_eq_true c28
          clear c28
          by_cases c29 : x8_2 < (l0_2.length : Int)
          rotate_left
          ·rw [if_neg c29] at H
           exact absurd H (by simp)
          rw [if_pos c29] at H
          have c29b0 : decide (x8_2 < (l0_2.length : Int)) = true := decide_eq_true c29
          clear c29
          replace H := Option.bind_eq_some_iff.mp H
          obtain ⟨t507, A300, H⟩ := H
          replace H : (if t507 = true then (if x6_4.length < 17592186044416 then (r_Refusal.l1 k4 (x6_4 ++ [x8_2]) x7_1 (wrap64 (x8_2 + 1)) l0_0 a0_1 l0_2 l0_3) else (none)) else (r_Refusal.l2 k4 x6_4 x7_1 x8_2 (wrap64 (x9_4 + 1)) l0_0 a0_1 l0_2 l0_3)) = some (r1, r2) := H
          have A30 := am A300
          clear A300
          by_cases c31 : t507 = true
          ·subst c31
           have H1 : (if x6_4.length < 17592186044416 then (r_Refusal.l1 k4 (x6_4 ++ [x8_2]) x7_1 (wrap64 (x8_2 + 1)) l0_0 a0_1 l0_2 l0_3) else (none)) = some (r1, r2) := by rw [if_pos rfl] at H; exact H
           clear H
           have H := H1
           clear H1
           by_cases c32 : x6_4.length < 17592186044416
           rotate_left
           ·rw [if_neg c32] at H
            exact absurd H (by simp)
           rw [if_pos c32] at H
           have LMc32 := am c32
           clear c32
           obtain ⟨y508, hy508⟩ : ∃ y_ : List Int, y_ = (x6_4 ++ [x8_2]) := ⟨_, rfl⟩
           replace H : (r_Refusal.l1 k4 y508 x7_1 (wrap64 (x8_2 + 1)) l0_0 a0_1 l0_2 l0_3) = some (r1, r2) := by first | (rw [hy508]; with_reducible exact H) | (have H2_ := (Option.bind_some _ _).symm.trans H; rw [hy508]; with_reducible exact H2_) | (have H2_ := (Option.bind_some _ _).symm.trans H; with_reducible exact H2_) | with_reducible exact H | (rw [hy508]; exact H) | exact H
           have Ny508 := am hy508
           clear hy508
           have H' := am H
           clear H
           obtain ⟨Ao33, co33, eo33⟩ := Kd.R_slice HO_6.out
           subst eo33
           have := yC1 BK497
           have := kC1 BK497
           have := kC2 BK497
           have := kC3 BK497
           have := bf BK497.out 0
           have := bf BK497.out 1
           have := bf BK497.out 2
           have := bf BK497.out 3
           have p504 : 0 ≤ (x9_4 : Int) := of_decide_eq_true (by assumption)
           have q504 : x9_4 < (x6_4.length : Int) := of_decide_eq_true (by assumption)
           obtain ⟨ad504, e504, hx504_0⟩ := Kd.at_int (Kd.R_reads' HO_6.out).2.2 x9_4 p504 q504
           cases e504
           replace p504 := eq_true p504
           replace q504 := eq_true q504
           have p505 : 0 ≤ ((rd x6_4 x9_4) : Int) := of_decide_eq_true (by assumption)
           have q505 : (rd x6_4 x9_4) < (l0_0.length : Int) := of_decide_eq_true (by assumption)
           obtain ⟨ad505, A505_0, c505_0, e505, hx505_0, hl505_0, hi505_0⟩ := at_L1 HR0_0.out (rd x6_4 x9_4) p505 q505
           cases e505
           replace hx505_0 := cl HB hx505_0
           have HR505_0 := am hi505_0
           have HC505_0 := am hl505_0
           clear hi505_0 hl505_0
           replace p505 := eq_true p505
           replace q505 := eq_true q505
           have p506 : 0 ≤ (x8_2 : Int) := of_decide_eq_true (by assumption)
           have q506 : x8_2 < (l0_2.length : Int) := of_decide_eq_true (by assumption)
           obtain ⟨ad506, e506, hx506_0⟩ := Kd.at_int HR0_2.out x8_2 p506 q506
           cases e506
           replace hx506_0 := cl HB hx506_0
           replace p506 := eq_true p506
           replace q506 := eq_true q506
           go_wp2_with (first | (go_at_call 40; (with_reducible refine (r_has.calls k4 _ _ (rd_L1 l0_0 (rd x6_4 x9_4)) (rd l0_2 x8_2) true _ ?side1 ?side2 A30.out).mono ?_); (case side1 => repeat (first | exact (Kd.C_below HR505_0.out HB.out) | (with_reducible refine Kd.C_alloc ?_ _) | (with_reducible refine Kd.C_drewN ?_ _) | (with_reducible refine Kd.C_drew ?_))); (case side2 => exact HC505_0.out); rintro e w' ⟨rfl, ⟨nd, rfl⟩⟩; (try first | exact ⟨rfl, _, World.drewN_drewN _ _ _⟩ | exact ⟨rfl, _, Eq.trans (World.drewN_drewN _ _ _) (congrArg (World.drewN _) (Nat.add_assoc _ _ _))⟩)) | ((with_reducible refine gB (b := .append) (xs := #[.tmp 69, .tmp 71]) rfl ?_); at_builtin; refine Kd.R_append (Kd.int .i64) (w0 := w) w.heap.size rfl (.tmp 69) (.tmp 71) 23 3 (.int .i64 0) 8 rfl Try.underlying23 info3 rfl (by decide) (by omega) (.slice (some ad504) x6_4.length co33) x6_4 x8_2 [.int .i64 x8_2] (fun _ => True) (fun _ => False) rfl rfl ?aP (fun _ hk => hk.elim) ?aF ?aO ?aB ?aS ?aL ?_; (case aP => exact rfl); (case aB => exact (fW HB.out)); (case aF => exact (fun _ _ => trivial)); (case aO => exact (fR HO_6.out)); (case aS => exact (wz (fW HB.out))); (case aL => have := LMc32.out; omega); intro v509 w35 ho hb hg hat; rw [← Ny508.out] at ho; replace BK497 := am (blk_grown (g := gb497) (o := .cells #[.slice (some ad505) l0_0.length c0_0, .int .i64 a0_1, .slice (some ad506) l0_2.length c0_2, .slice A0_3 l0_3.length c0_3] 26 (0, 0)) (fb BK497.out) hg (Kd.R_ne HO_6.out BK497.out (by decide))); replace HB := am (hb); have HO510 := am (ho); clear HO_6 ho hb hg hat))
           repeat (go_quiet (first | (go_at_call 40; (with_reducible refine (r_has.calls k4 _ _ (rd_L1 l0_0 (rd x6_4 x9_4)) (rd l0_2 x8_2) true _ ?side1 ?side2 A30.out).mono ?_); (case side1 => repeat (first | exact (Kd.C_below HR505_0.out HB.out) | (with_reducible refine Kd.C_alloc ?_ _) | (with_reducible refine Kd.C_drewN ?_ _) | (with_reducible refine Kd.C_drew ?_))); (case side2 => exact HC505_0.out); rintro e w' ⟨rfl, ⟨nd, rfl⟩⟩; (try first | exact ⟨rfl, _, World.drewN_drewN _ _ _⟩ | exact ⟨rfl, _, Eq.trans (World.drewN_drewN _ _ _) (congrArg (World.drewN _) (Nat.add_assoc _ _ _))⟩)) | ((with_reducible refine gB (b := .append) (xs := #[.tmp 69, .tmp 71]) rfl ?_); at_builtin; refine Kd.R_append (Kd.int .i64) (w0 := w) w.heap.size rfl (.tmp 69) (.tmp 71) 23 3 (.int .i64 0) 8 rfl Try.underlying23 info3 rfl (by decide) (by omega) (.slice (some ad504) x6_4.length co33) x6_4 x8_2 [.int .i64 x8_2] (fun _ => True) (fun _ => False) rfl rfl ?aP (fun _ hk => hk.elim) ?aF ?aO ?aB ?aS ?aL ?_; (case aP => exact rfl); (case aB => exact (fW HB.out)); (case aF => exact (fun _ _ => trivial)); (case aO => exact (fR HO_6.out)); (case aS => exact (wz (fW HB.out))); (case aL => have := LMc32.out; omega); intro v509 w35 ho hb hg hat; rw [← Ny508.out] at ho; replace BK497 := am (blk_grown (g := gb497) (o := .cells #[.slice (some ad505) l0_0.length c0_0, .int .i64 a0_1, .slice (some ad506) l0_2.length c0_2, .slice A0_3 l0_3.length c0_3] 26 (0, 0)) (fb BK497.out) hg (Kd.R_ne HO_6.out BK497.out (by decide))); replace HB := am (hb); have HO510 := am (ho); clear HO_6 ho hb hg hat)); try go_wp2_with (first | (go_at_call 40; (with_reducible refine (r_has.calls k4 _ _ (rd_L1 l0_0 (rd x6_4 x9_4)) (rd l0_2 x8_2) true _ ?side1 ?side2 A30.out).mono ?_); (case side1 => repeat (first | exact (Kd.C_below HR505_0.out HB.out) | (with_reducible refine Kd.C_alloc ?_ _) | (with_reducible refine Kd.C_drewN ?_ _) | (with_reducible refine Kd.C_drew ?_))); (case side2 => exact HC505_0.out); rintro e w' ⟨rfl, ⟨nd, rfl⟩⟩; (try first | exact ⟨rfl, _, World.drewN_drewN _ _ _⟩ | exact ⟨rfl, _, Eq.trans (World.drewN_drewN _ _ _) (congrArg (World.drewN _) (Nat.add_assoc _ _ _))⟩)) | ((with_reducible refine gB (b := .append) (xs := #[.tmp 69, .tmp 71]) rfl ?_); at_builtin; refine Kd.R_append (Kd.int .i64) (w0 := w) w.heap.size rfl (.tmp 69) (.tmp 71) 23 3 (.int .i64 0) 8 rfl Try.underlying23 info3 rfl (by decide) (by omega) (.slice (some ad504) x6_4.length co33) x6_4 x8_2 [.int .i64 x8_2] (fun _ => True) (fun _ => False) rfl rfl ?aP (fun _ hk => hk.elim) ?aF ?aO ?aB ?aS ?aL ?_; (case aP => exact rfl); (case aB => exact (fW HB.out)); (case aF => exact (fun _ _ => trivial)); (case aO => exact (fR HO_6.out)); (case aS => exact (wz (fW HB.out))); (case aL => have := LMc32.out; omega); intro v509 w35 ho hb hg hat; rw [← Ny508.out] at ho; replace BK497 := am (blk_grown (g := gb497) (o := .cells #[.slice (some ad505) l0_0.length c0_0, .int .i64 a0_1, .slice (some ad506) l0_2.length c0_2, .slice A0_3 l0_3.length c0_3] 26 (0, 0)) (fb BK497.out) hg (Kd.R_ne HO_6.out BK497.out (by decide))); replace HB := am (hb); have HO510 := am (ho); clear HO_6 ho hb hg hat)))
           go_roundg k4
           case measure => have := HK1.out; have := HK2.out; have := HJ8.out; have := HK4.out; omega
           case rel => exact ⟨(y508), (wrap64 (x8_2 + 1)), sqD, H', ⟨by have := HK1.out; have := HK2.out; have := HJ8.out; have := HK4.out; omega⟩, ⟨fR HO510.out⟩, ⟨fb BK497.out⟩, ⟨fW HB.out⟩⟩
          replace c31 := Bool.eq_false_iff.mpr c31
          subst c31
          have H1 : (r_Refusal.l2 k4 x6_4 x7_1 x8_2 (wrap64 (x9_4 + 1)) l0_0 a0_1 l0_2 l0_3) = some (r1, r2) := by rw [if_neg (show ¬ (false = true) by decide)] at H; exact H
          clear H
          have H := H1
          clear H1
          have H' := am H
          clear H
          obtain ⟨Ao36, co36, eo36⟩ := Kd.R_slice HO_6.out
          subst eo36
          have := yC1 BK497
          have := kC1 BK497
          have := kC2 BK497
          have := kC3 BK497
          have := bf BK497.out 0
          have := bf BK497.out 1
          have := bf BK497.out 2
          have := bf BK497.out 3
          have p504 : 0 ≤ (x9_4 : Int) := of_decide_eq_true (by assumption)
          have q504 : x9_4 < (x6_4.length : Int) := of_decide_eq_true (by assumption)
          obtain ⟨ad504, e504, hx504_0⟩ := Kd.at_int (Kd.R_reads' HO_6.out).2.2 x9_4 p504 q504
          cases e504
          replace p504 := eq_true p504
          replace q504 := eq_true q504
          have p505 : 0 ≤ ((rd x6_4 x9_4) : Int) := of_decide_eq_true (by assumption)
          have q505 : (rd x6_4 x9_4) < (l0_0.length : Int) := of_decide_eq_true (by assumption)
          obtain ⟨ad505, A505_0, c505_0, e505, hx505_0, hl505_0, hi505_0⟩ := at_L1 HR0_0.out (rd x6_4 x9_4) p505 q505
          cases e505
          replace hx505_0 := cl HB hx505_0
          have HR505_0 := am hi505_0
          have HC505_0 := am hl505_0
          clear hi505_0 hl505_0
          replace p505 := eq_true p505
          replace q505 := eq_true q505
          have p506 : 0 ≤ (x8_2 : Int) := of_decide_eq_true (by assumption)
          have q506 : x8_2 < (l0_2.length : Int) := of_decide_eq_true (by assumption)
          obtain ⟨ad506, e506, hx506_0⟩ := Kd.at_int HR0_2.out x8_2 p506 q506
          cases e506
          replace hx506_0 := cl HB hx506_0
          replace p506 := eq_true p506
          replace q506 := eq_true q506
          go_wp2_with (first | (go_at_call 40; (with_reducible refine (r_has.calls k4 _ _ (rd_L1 l0_0 (rd x6_4 x9_4)) (rd l0_2 x8_2) false _ ?side1 ?side2 A30.out).mono ?_); (case side1 => repeat (first | exact (Kd.C_below HR505_0.out HB.out) | (with_reducible refine Kd.C_alloc ?_ _) | (with_reducible refine Kd.C_drewN ?_ _) | (with_reducible refine Kd.C_drew ?_))); (case side2 => exact HC505_0.out); rintro e w' ⟨rfl, ⟨nd, rfl⟩⟩; (try first | exact ⟨rfl, _, World.drewN_drewN _ _ _⟩ | exact ⟨rfl, _, Eq.trans (World.drewN_drewN _ _ _) (congrArg (World.drewN _) (Nat.add_assoc _ _ _))⟩)))
          repeat (go_quiet (first | (go_at_call 40; (with_reducible refine (r_has.calls k4 _ _ (rd_L1 l0_0 (rd x6_4 x9_4)) (rd l0_2 x8_2) false _ ?side1 ?side2 A30.out).mono ?_); (case side1 => repeat (first | exact (Kd.C_below HR505_0.out HB.out) | (with_reducible refine Kd.C_alloc ?_ _) | (with_reducible refine Kd.C_drewN ?_ _) | (with_reducible refine Kd.C_drew ?_))); (case side2 => exact HC505_0.out); rintro e w' ⟨rfl, ⟨nd, rfl⟩⟩; (try first | exact ⟨rfl, _, World.drewN_drewN _ _ _⟩ | exact ⟨rfl, _, Eq.trans (World.drewN_drewN _ _ _) (congrArg (World.drewN _) (Nat.add_assoc _ _ _))⟩))); try go_wp2_with (first | (go_at_call 40; (with_reducible refine (r_has.calls k4 _ _ (rd_L1 l0_0 (rd x6_4 x9_4)) (rd l0_2 x8_2) false _ ?side1 ?side2 A30.out).mono ?_); (case side1 => repeat (first | exact (Kd.C_below HR505_0.out HB.out) | (with_reducible refine Kd.C_alloc ?_ _) | (with_reducible refine Kd.C_drewN ?_ _) | (with_reducible refine Kd.C_drew ?_))); (case side2 => exact HC505_0.out); rintro e w' ⟨rfl, ⟨nd, rfl⟩⟩; (try first | exact ⟨rfl, _, World.drewN_drewN _ _ _⟩ | exact ⟨rfl, _, Eq.trans (World.drewN_drewN _ _ _) (congrArg (World.drewN _) (Nat.add_assoc _ _ _))⟩))))
          go_roundg k4
          case measure => have := HK1.out; have := HK2.out; have := HJ8.out; have := HK4.out; omega
          case rel => exact ⟨(x6_4), (wrap64 (x9_4 + 1)), sqD, H', ⟨by have := HK1.out; have := HK2.out; have := HJ8.out; have := HK4.out; omega⟩, ⟨fR HO_6.out⟩, ⟨fb BK497.out⟩, ⟨fW HB.out⟩⟩
   ·rw [if_neg c6] at H
    have c6b0 : decide (x7_1 < (l0_0.length : Int)) = false := decide_eq_false c6
    clear c6
    obtain ⟨y511, hy511⟩ : ∃ y_ : List Int, y_ = (([] : List Int)) := ⟨_, rfl⟩
    replace H : (r_Refusal.l3 k1 x6_1 y511 (([] : List Int)) 0 l0_0 a0_1 l0_2 l0_3) = some (r1, r2) := by first | (rw [hy511]; with_reducible exact H) | (have H2_ := (Option.bind_some _ _).symm.trans H; rw [hy511]; with_reducible exact H2_) | (have H2_ := (Option.bind_some _ _).symm.trans H; with_reducible exact H2_) | with_reducible exact H | (rw [hy511]; exact H) | exact H
    have Ny511 := am hy511
    clear hy511
    obtain ⟨y514, hy514⟩ : ∃ y_ : List Int, y_ = (([] : List Int)) := ⟨_, rfl⟩
    replace H : (r_Refusal.l3 k1 x6_1 y511 y514 0 l0_0 a0_1 l0_2 l0_3) = some (r1, r2) := by first | (rw [hy514]; with_reducible exact H) | (have H2_ := (Option.bind_some _ _).symm.trans H; rw [hy514]; with_reducible exact H2_) | (have H2_ := (Option.bind_some _ _).symm.trans H; with_reducible exact H2_) | with_reducible exact H | (rw [hy514]; exact H) | exact H
    have Ny514 := am hy514
    clear hy514
    have H' := am H
    clear H
    have := yC1 BK497
    have := kC1 BK497
    have := kC2 BK497
    have := kC3 BK497
    have := bf BK497.out 0
    have := bf BK497.out 1
    have := bf BK497.out 2
    have := bf BK497.out 3
    go_wp2_with (first | ((with_reducible refine gd (N := 73) rfl ?_); refine Kd.R_lit (Kd.int .i64) _ 3 ?hg (N := 73) ?hd (xs := ([] : List Int)) (inner := []) (ok := fun _ => True) (okp := fun _ => True) ?hr ?hp (fun _ hk => hk) trivial (Below.refl _ _) (Nat.le_refl _) (by simp) ?_; (case hd | hg => rfl); (case hr => first | (go_simp; done) | (go_simp; rfl)); (case hp => exact (Reps.none _ _)); intro v512 w41 ho42 hb hg_ hnew_; clear hg_ hnew_; (first | rw [← Ny511.out] at ho42 | (simp only [Int.reduceToNat] at ho42; rw [← Ny511.out] at ho42)); have HO513 := am (Kd.R_lower (Kd.R_new' ho42 (Kd.R_lt (fR HO_6.out))) (wz (fW HB.out))); replace HO_6 := am (Kd.R_elder' (fR HO_6.out) (Kd.R_base ho42) hb); replace BK497 := bB BK497 hb; replace HB := bS HB hb; clear hb ho42) | ((with_reducible refine gd (N := 74) rfl ?_); refine Kd.R_lit (Kd.int .i64) _ 3 ?hg (N := 74) ?hd (xs := ([] : List Int)) (inner := []) (ok := fun _ => True) (okp := fun _ => True) ?hr ?hp (fun _ hk => hk) trivial (Below.refl _ _) (Nat.le_refl _) (by simp) ?_; (case hd | hg => rfl); (case hr => first | (go_simp; done) | (go_simp; rfl)); (case hp => exact (Reps.none _ _)); intro v515 w43 ho44 hb hg_ hnew_; clear hg_ hnew_; (first | rw [← Ny514.out] at ho44 | (simp only [Int.reduceToNat] at ho44; rw [← Ny514.out] at ho44)); have HO516 := am (Kd.R_lower (Kd.R_new' (Kd.R_new' ho44 (Kd.R_lt (fR HO_6.out))) (Kd.R_lt (fR HO513.out))) (wz (fW HB.out))); replace HO_6 := am (Kd.R_elder' (fR HO_6.out) (Kd.R_base ho44) hb); replace HO513 := am (Kd.R_elder' (fR HO513.out) (Kd.R_base ho44) hb); replace BK497 := bB BK497 hb; replace HB := bS HB hb; clear hb ho44))
    repeat (go_quiet (first | ((with_reducible refine gd (N := 73) rfl ?_); refine Kd.R_lit (Kd.int .i64) _ 3 ?hg (N := 73) ?hd (xs := ([] : List Int)) (inner := []) (ok := fun _ => True) (okp := fun _ => True) ?hr ?hp (fun _ hk => hk) trivial (Below.refl _ _) (Nat.le_refl _) (by simp) ?_; (case hd | hg => rfl); (case hr => first | (go_simp; done) | (go_simp; rfl)); (case hp => exact (Reps.none _ _)); intro v512 w41 ho42 hb hg_ hnew_; clear hg_ hnew_; (first | rw [← Ny511.out] at ho42 | (simp only [Int.reduceToNat] at ho42; rw [← Ny511.out] at ho42)); have HO513 := am (Kd.R_lower (Kd.R_new' ho42 (Kd.R_lt (fR HO_6.out))) (wz (fW HB.out))); replace HO_6 := am (Kd.R_elder' (fR HO_6.out) (Kd.R_base ho42) hb); replace BK497 := bB BK497 hb; replace HB := bS HB hb; clear hb ho42) | ((with_reducible refine gd (N := 74) rfl ?_); refine Kd.R_lit (Kd.int .i64) _ 3 ?hg (N := 74) ?hd (xs := ([] : List Int)) (inner := []) (ok := fun _ => True) (okp := fun _ => True) ?hr ?hp (fun _ hk => hk) trivial (Below.refl _ _) (Nat.le_refl _) (by simp) ?_; (case hd | hg => rfl); (case hr => first | (go_simp; done) | (go_simp; rfl)); (case hp => exact (Reps.none _ _)); intro v515 w43 ho44 hb hg_ hnew_; clear hg_ hnew_; (first | rw [← Ny514.out] at ho44 | (simp only [Int.reduceToNat] at ho44; rw [← Ny514.out] at ho44)); have HO516 := am (Kd.R_lower (Kd.R_new' (Kd.R_new' ho44 (Kd.R_lt (fR HO_6.out))) (Kd.R_lt (fR HO513.out))) (wz (fW HB.out))); replace HO_6 := am (Kd.R_elder' (fR HO_6.out) (Kd.R_base ho44) hb); replace HO513 := am (Kd.R_elder' (fR HO513.out) (Kd.R_base ho44) hb); replace BK497 := bB BK497 hb; replace HB := bS HB hb; clear hb ho44)); try go_wp2_with (first | ((with_reducible refine gd (N := 73) rfl ?_); refine Kd.R_lit (Kd.int .i64) _ 3 ?hg (N := 73) ?hd (xs := ([] : List Int)) (inner := []) (ok := fun _ => True) (okp := fun _ => True) ?hr ?hp (fun _ hk => hk) trivial (Below.refl _ _) (Nat.le_refl _) (by simp) ?_; (case hd | hg => rfl); (case hr => first | (go_simp; done) | (go_simp; rfl)); (case hp => exact (Reps.none _ _)); intro v512 w41 ho42 hb hg_ hnew_; clear hg_ hnew_; (first | rw [← Ny511.out] at ho42 | (simp only [Int.reduceToNat] at ho42; rw [← Ny511.out] at ho42)); have HO513 := am (Kd.R_lower (Kd.R_new' ho42 (Kd.R_lt (fR HO_6.out))) (wz (fW HB.out))); replace HO_6 := am (Kd.R_elder' (fR HO_6.out) (Kd.R_base ho42) hb); replace BK497 := bB BK497 hb; replace HB := bS HB hb; clear hb ho42) | ((with_reducible refine gd (N := 74) rfl ?_); refine Kd.R_lit (Kd.int .i64) _ 3 ?hg (N := 74) ?hd (xs := ([] : List Int)) (inner := []) (ok := fun _ => True) (okp := fun _ => True) ?hr ?hp (fun _ hk => hk) trivial (Below.refl _ _) (Nat.le_refl _) (by simp) ?_; (case hd | hg => rfl); (case hr => first | (go_simp; done) | (go_simp; rfl)); (case hp => exact (Reps.none _ _)); intro v515 w43 ho44 hb hg_ hnew_; clear hg_ hnew_; (first | rw [← Ny514.out] at ho44 | (simp only [Int.reduceToNat] at ho44; rw [← Ny514.out] at ho44)); have HO516 := am (Kd.R_lower (Kd.R_new' (Kd.R_new' ho44 (Kd.R_lt (fR HO_6.out))) (Kd.R_lt (fR HO513.out))) (wz (fW HB.out))); replace HO_6 := am (Kd.R_elder' (fR HO_6.out) (Kd.R_base ho44) hb); replace HO513 := am (Kd.R_elder' (fR HO513.out) (Kd.R_base ho44) hb); replace BK497 := bB BK497 hb; replace HB := bS HB hb; clear hb ho44)))
    go_loopg [10, 12] k1 (fun kq v10 v12 w' => ∃ (x10_2 : List Int) (x12_2 : Int), v12 = .int .i64 x12_2 ∧ Aside0 (r_Refusal.l3 kq x6_1 x10_2 y514 x12_2 l0_0 a0_1 l0_2 l0_3 = some (r1, r2)) ∧ Aside0 (kq ≤ k1) ∧ Aside0 (Kd.R (Kd.int .i64) 3 w' w.heap.size (fun k_ => some k_ ≠ (v10 : Value).ownBlock ∧ some k_ ≠ (v515 : Value).ownBlock) u6 x6_1) ∧ Aside0 (Kd.R (Kd.int .i64) 3 w' w.heap.size (fun k_ => some k_ ≠ (u6 : Value).ownBlock ∧ some k_ ≠ (v515 : Value).ownBlock) v10 x10_2) ∧ Aside0 (Kd.R (Kd.int .i64) 3 w' w.heap.size (fun k_ => some k_ ≠ (u6 : Value).ownBlock ∧ some k_ ≠ (v10 : Value).ownBlock) v515 y514) ∧ Aside0 (w'.heap[gb497]? = some (.cells #[(.slice A0_0 l0_0.length c0_0), .int .i64 a0_1, (.slice A0_2 l0_2.length c0_2), (.slice A0_3 l0_3.length c0_3)] 26 (0, 0))) ∧ Aside0 (Below w.heap.size w w'))
    case atStart => exact ⟨(y511), (0), sqD, H', ⟨Nat.le_refl _⟩, ⟨by (with_reducible repeat (first | apply Kd.R_alloc | apply Kd.R_drewN | apply Kd.R_drew)); exact Kd.R_mono HO_6.out (fun _ hk => ⟨hk.1.2, hk.2⟩)⟩, ⟨by (with_reducible repeat (first | apply Kd.R_alloc | apply Kd.R_drewN | apply Kd.R_drew)); exact Kd.R_mono HO513.out (fun _ hk => ⟨hk.1.2, hk.2⟩)⟩, ⟨by (with_reducible repeat (first | apply Kd.R_alloc | apply Kd.R_drewN | apply Kd.R_drew)); exact Kd.R_mono HO516.out (fun _ hk => ⟨hk.1.2, hk.2⟩)⟩, ⟨fb BK497.out⟩, ⟨fW HB.out⟩⟩
    case round =>
     clear H'
     try clear c1;try clear q1;try clear c2;try clear p2;try clear c3;try clear c5;try clear p5;try clear q5;try clear hx5;try clear c6;try clear c6b0;try clear p6;try clear c8;try clear c8b0;try clear c12;try clear c14;try clear c14b0;try clear c15;try clear c15b0;try clear q16;try clear c17;try clear c20;try clear c20b0;try clear c21;try clear c23;try clear c24;try clear c24b0;try clear c25;try clear c25b0;try clear c26;try clear c26b0;try clear c27;try clear c27b0;try clear c28;try clear c28b0;try clear c29;try clear c29b0;try clear c31;try clear c32;try clear hx502_0;try clear hx503_0;try clear hx504_0;try clear hx505_0;try clear hx506_0;try clear p2;try clear p5;try clear p502;try clear p503;try clear p504;try clear p505;try clear p506;try clear p6;try clear q1;try clear q16;try clear q5;try clear q502;try clear q503;try clear q504;try clear q505;try clear q506
     obtain ⟨x10_2, x12_2, rfl, HA, HK2, HO_6, HO_10, HO_11, BK497, HB⟩ := hrel
     cases gk with
     | zero => exact absurd HA.out (by simp [r_Refusal.l3])
     | succ k2 =>
      have H := HA.out
      clear HA
      simp only [r_Refusal.l3] at H
      by_cases c45 : x12_2 < (l0_0.length : Int)
      ·rw [if_pos c45] at H
       have c45b0 : decide (x12_2 < (l0_0.length : Int)) = true := decide_eq_true c45
       clear c45
       replace H := Option.bind_eq_some_iff.mp H
       obtain ⟨t517, A460, H⟩ := H
       replace H : (if t517 = true then (if x10_2.length < 17592186044416 then (r_Refusal.l3 k2 x6_1 (x10_2 ++ [x12_2]) y514 (wrap64 (x12_2 + 1)) l0_0 a0_1 l0_2 l0_3) else (none)) else (r_Refusal.l3 k2 x6_1 x10_2 y514 (wrap64 (x12_2 + 1)) l0_0 a0_1 l0_2 l0_3)) = some (r1, r2) := H
       have A46 := am A460
       clear A460
       by_cases c47 : t517 = true
       ·subst c47
        have H1 : (if x10_2.length < 17592186044416 then (r_Refusal.l3 k2 x6_1 (x10_2 ++ [x12_2]) y514 (wrap64 (x12_2 + 1)) l0_0 a0_1 l0_2 l0_3) else (none)) = some (r1, r2) := by rw [if_pos rfl] at H; exact H
        clear H
        have H := H1
        clear H1
        by_cases c48 : x10_2.length < 17592186044416
        rotate_left
        ·rw [if_neg c48] at H
         exact absurd H (by simp)
        rw [if_pos c48] at H
        have LMc48 := am c48
        clear c48
        obtain ⟨y518, hy518⟩ : ∃ y_ : List Int, y_ = (x10_2 ++ [x12_2]) := ⟨_, rfl⟩
        replace H : (r_Refusal.l3 k2 x6_1 y518 y514 (wrap64 (x12_2 + 1)) l0_0 a0_1 l0_2 l0_3) = some (r1, r2) := by first | (rw [hy518]; with_reducible exact H) | (have H2_ := (Option.bind_some _ _).symm.trans H; rw [hy518]; with_reducible exact H2_) | (have H2_ := (Option.bind_some _ _).symm.trans H; with_reducible exact H2_) | with_reducible exact H | (rw [hy518]; exact H) | exact H
        have Ny518 := am hy518
        clear hy518
        have H' := am H
        clear H
        have := yC1 BK497
        have := kC1 BK497
        have := kC2 BK497
        have := kC3 BK497
        have := bf BK497.out 0
        have := bf BK497.out 1
        have := bf BK497.out 2
        have := bf BK497.out 3
        obtain ⟨Ao50, co50, eo50⟩ := Kd.R_slice HO_6.out
        subst eo50
        go_wp2_with (first | (go_at_call 40; (with_reducible refine (r_has.calls k2 _ _ x6_1 x12_2 true _ ?side1 ?side2 A46.out).mono ?_); (case side1 => repeat (first | exact (Kd.R_reads' HO_6.out).2.2 | (with_reducible refine Kd.C_alloc ?_ _) | (with_reducible refine Kd.C_drewN ?_ _) | (with_reducible refine Kd.C_drew ?_))); (case side2 => exact (Kd.R_reads' HO_6.out).2.1); rintro e w' ⟨rfl, ⟨nd, rfl⟩⟩; (try first | exact ⟨rfl, _, World.drewN_drewN _ _ _⟩ | exact ⟨rfl, _, Eq.trans (World.drewN_drewN _ _ _) (congrArg (World.drewN _) (Nat.add_assoc _ _ _))⟩)) | ((with_reducible refine gB (b := .append) (xs := #[.tmp 85, .tmp 87]) rfl ?_); at_builtin; refine Kd.R_append (Kd.int .i64) (w0 := w) w.heap.size rfl (.tmp 85) (.tmp 87) 23 3 (.int .i64 0) 8 rfl Try.underlying23 info3 rfl (by decide) (by omega) u10 x10_2 x12_2 [.int .i64 x12_2] (fun k_ => some k_ ≠ (.slice Ao50 x6_1.length co50 : Value).ownBlock ∧ some k_ ≠ (v515 : Value).ownBlock) (fun _ => False) rfl rfl ?aP (fun _ hk => hk.elim) ?aF ?aO ?aB ?aS ?aL ?_; (case aP => exact rfl); (case aB => exact (fW HB.out)); (case aF => exact (fun k_ hk => ⟨Kd.fresh' (Kd.R_lt (fR HO_6.out)) k_ hk, Kd.fresh' (Kd.R_lt (fR HO_11.out)) k_ hk⟩)); (case aO => exact (fR HO_10.out)); (case aS => exact (wz (fW HB.out))); (case aL => have := LMc48.out; omega); intro v519 w51 ho hb hg hat; rw [← Ny518.out] at ho; replace HO_6 := am (Kd.R_after (ok := (fun k_ => some k_ ≠ (v515 : Value).ownBlock)) (by (with_reducible repeat (first | apply Kd.R_alloc | apply Kd.R_drewN | apply Kd.R_drew)); exact Kd.R_mono HO_6.out (fun _ hk => ⟨hk.2, hk.1⟩)) hg hat); replace HO_11 := am (Kd.R_after (ok := (fun k_ => some k_ ≠ (.slice Ao50 x6_1.length co50 : Value).ownBlock)) (fR HO_11.out) hg hat); replace BK497 := am (blk_grown (g := gb497) (o := .cells #[.slice A0_0 l0_0.length c0_0, .int .i64 a0_1, .slice A0_2 l0_2.length c0_2, .slice A0_3 l0_3.length c0_3] 26 (0, 0)) (fb BK497.out) hg (Kd.R_ne HO_10.out BK497.out (by decide))); replace HB := am (hb); have HO520 := am (ho); clear HO_10 ho hb hg hat))
        repeat (go_quiet (first | (go_at_call 40; (with_reducible refine (r_has.calls k2 _ _ x6_1 x12_2 true _ ?side1 ?side2 A46.out).mono ?_); (case side1 => repeat (first | exact (Kd.R_reads' HO_6.out).2.2 | (with_reducible refine Kd.C_alloc ?_ _) | (with_reducible refine Kd.C_drewN ?_ _) | (with_reducible refine Kd.C_drew ?_))); (case side2 => exact (Kd.R_reads' HO_6.out).2.1); rintro e w' ⟨rfl, ⟨nd, rfl⟩⟩; (try first | exact ⟨rfl, _, World.drewN_drewN _ _ _⟩ | exact ⟨rfl, _, Eq.trans (World.drewN_drewN _ _ _) (congrArg (World.drewN _) (Nat.add_assoc _ _ _))⟩)) | ((with_reducible refine gB (b := .append) (xs := #[.tmp 85, .tmp 87]) rfl ?_); at_builtin; refine Kd.R_append (Kd.int .i64) (w0 := w) w.heap.size rfl (.tmp 85) (.tmp 87) 23 3 (.int .i64 0) 8 rfl Try.underlying23 info3 rfl (by decide) (by omega) u10 x10_2 x12_2 [.int .i64 x12_2] (fun k_ => some k_ ≠ (.slice Ao50 x6_1.length co50 : Value).ownBlock ∧ some k_ ≠ (v515 : Value).ownBlock) (fun _ => False) rfl rfl ?aP (fun _ hk => hk.elim) ?aF ?aO ?aB ?aS ?aL ?_; (case aP => exact rfl); (case aB => exact (fW HB.out)); (case aF => exact (fun k_ hk => ⟨Kd.fresh' (Kd.R_lt (fR HO_6.out)) k_ hk, Kd.fresh' (Kd.R_lt (fR HO_11.out)) k_ hk⟩)); (case aO => exact (fR HO_10.out)); (case aS => exact (wz (fW HB.out))); (case aL => have := LMc48.out; omega); intro v519 w51 ho hb hg hat; rw [← Ny518.out] at ho; replace HO_6 := am (Kd.R_after (ok := (fun k_ => some k_ ≠ (v515 : Value).ownBlock)) (by (with_reducible repeat (first | apply Kd.R_alloc | apply Kd.R_drewN | apply Kd.R_drew)); exact Kd.R_mono HO_6.out (fun _ hk => ⟨hk.2, hk.1⟩)) hg hat); replace HO_11 := am (Kd.R_after (ok := (fun k_ => some k_ ≠ (.slice Ao50 x6_1.length co50 : Value).ownBlock)) (fR HO_11.out) hg hat); replace BK497 := am (blk_grown (g := gb497) (o := .cells #[.slice A0_0 l0_0.length c0_0, .int .i64 a0_1, .slice A0_2 l0_2.length c0_2, .slice A0_3 l0_3.length c0_3] 26 (0, 0)) (fb BK497.out) hg (Kd.R_ne HO_10.out BK497.out (by decide))); replace HB := am (hb); have HO520 := am (ho); clear HO_10 ho hb hg hat)); try go_wp2_with (first | (go_at_call 40; (with_reducible refine (r_has.calls k2 _ _ x6_1 x12_2 true _ ?side1 ?side2 A46.out).mono ?_); (case side1 => repeat (first | exact (Kd.R_reads' HO_6.out).2.2 | (with_reducible refine Kd.C_alloc ?_ _) | (with_reducible refine Kd.C_drewN ?_ _) | (with_reducible refine Kd.C_drew ?_))); (case side2 => exact (Kd.R_reads' HO_6.out).2.1); rintro e w' ⟨rfl, ⟨nd, rfl⟩⟩; (try first | exact ⟨rfl, _, World.drewN_drewN _ _ _⟩ | exact ⟨rfl, _, Eq.trans (World.drewN_drewN _ _ _) (congrArg (World.drewN _) (Nat.add_assoc _ _ _))⟩)) | ((with_reducible refine gB (b := .append) (xs := #[.tmp 85, .tmp 87]) rfl ?_); at_builtin; refine Kd.R_append (Kd.int .i64) (w0 := w) w.heap.size rfl (.tmp 85) (.tmp 87) 23 3 (.int .i64 0) 8 rfl Try.underlying23 info3 rfl (by decide) (by omega) u10 x10_2 x12_2 [.int .i64 x12_2] (fun k_ => some k_ ≠ (.slice Ao50 x6_1.length co50 : Value).ownBlock ∧ some k_ ≠ (v515 : Value).ownBlock) (fun _ => False) rfl rfl ?aP (fun _ hk => hk.elim) ?aF ?aO ?aB ?aS ?aL ?_; (case aP => exact rfl); (case aB => exact (fW HB.out)); (case aF => exact (fun k_ hk => ⟨Kd.fresh' (Kd.R_lt (fR HO_6.out)) k_ hk, Kd.fresh' (Kd.R_lt (fR HO_11.out)) k_ hk⟩)); (case aO => exact (fR HO_10.out)); (case aS => exact (wz (fW HB.out))); (case aL => have := LMc48.out; omega); intro v519 w51 ho hb hg hat; rw [← Ny518.out] at ho; replace HO_6 := am (Kd.R_after (ok := (fun k_ => some k_ ≠ (v515 : Value).ownBlock)) (by (with_reducible repeat (first | apply Kd.R_alloc | apply Kd.R_drewN | apply Kd.R_drew)); exact Kd.R_mono HO_6.out (fun _ hk => ⟨hk.2, hk.1⟩)) hg hat); replace HO_11 := am (Kd.R_after (ok := (fun k_ => some k_ ≠ (.slice Ao50 x6_1.length co50 : Value).ownBlock)) (fR HO_11.out) hg hat); replace BK497 := am (blk_grown (g := gb497) (o := .cells #[.slice A0_0 l0_0.length c0_0, .int .i64 a0_1, .slice A0_2 l0_2.length c0_2, .slice A0_3 l0_3.length c0_3] 26 (0, 0)) (fb BK497.out) hg (Kd.R_ne HO_10.out BK497.out (by decide))); replace HB := am (hb); have HO520 := am (ho); clear HO_10 ho hb hg hat)))
        go_roundg k2
        case measure => have := HK1.out; have := HK2.out; omega
        case rel => exact ⟨(y518), (wrap64 (x12_2 + 1)), sqD, H', ⟨by have := HK1.out; have := HK2.out; omega⟩, ⟨by (with_reducible repeat (first | apply Kd.R_alloc | apply Kd.R_drewN | apply Kd.R_drew)); exact Kd.R_mono HO_6.out (fun _ hk => ⟨hk.2, hk.1⟩)⟩, ⟨fR HO520.out⟩, ⟨fR HO_11.out⟩, ⟨fb BK497.out⟩, ⟨fW HB.out⟩⟩
       replace c47 := Bool.eq_false_iff.mpr c47
       subst c47
       have H1 : (r_Refusal.l3 k2 x6_1 x10_2 y514 (wrap64 (x12_2 + 1)) l0_0 a0_1 l0_2 l0_3) = some (r1, r2) := by rw [if_neg (show ¬ (false = true) by decide)] at H; exact H
       clear H
       have H := H1
       clear H1
       have H' := am H
       clear H
       have := yC1 BK497
       have := kC1 BK497
       have := kC2 BK497
       have := kC3 BK497
       have := bf BK497.out 0
       have := bf BK497.out 1
       have := bf BK497.out 2
       have := bf BK497.out 3
       obtain ⟨Ao53, co53, eo53⟩ := Kd.R_slice HO_6.out
       subst eo53
       go_wp2_with (first | (go_at_call 40; (with_reducible refine (r_has.calls k2 _ _ x6_1 x12_2 false _ ?side1 ?side2 A46.out).mono ?_); (case side1 => repeat (first | exact (Kd.R_reads' HO_6.out).2.2 | (with_reducible refine Kd.C_alloc ?_ _) | (with_reducible refine Kd.C_drewN ?_ _) | (with_reducible refine Kd.C_drew ?_))); (case side2 => exact (Kd.R_reads' HO_6.out).2.1); rintro e w' ⟨rfl, ⟨nd, rfl⟩⟩; (try first | exact ⟨rfl, _, World.drewN_drewN _ _ _⟩ | exact ⟨rfl, _, Eq.trans (World.drewN_drewN _ _ _) (congrArg (World.drewN _) (Nat.add_assoc _ _ _))⟩)))
       repeat (go_quiet (first | (go_at_call 40; (with_reducible refine (r_has.calls k2 _ _ x6_1 x12_2 false _ ?side1 ?side2 A46.out).mono ?_); (case side1 => repeat (first | exact (Kd.R_reads' HO_6.out).2.2 | (with_reducible refine Kd.C_alloc ?_ _) | (with_reducible refine Kd.C_drewN ?_ _) | (with_reducible refine Kd.C_drew ?_))); (case side2 => exact (Kd.R_reads' HO_6.out).2.1); rintro e w' ⟨rfl, ⟨nd, rfl⟩⟩; (try first | exact ⟨rfl, _, World.drewN_drewN _ _ _⟩ | exact ⟨rfl, _, Eq.trans (World.drewN_drewN _ _ _) (congrArg (World.drewN _) (Nat.add_assoc _ _ _))⟩))); try go_wp2_with (first | (go_at_call 40; (with_reducible refine (r_has.calls k2 _ _ x6_1 x12_2 false _ ?side1 ?side2 A46.out).mono ?_); (case side1 => repeat (first | exact (Kd.R_reads' HO_6.out).2.2 | (with_reducible refine Kd.C_alloc ?_ _) | (with_reducible refine Kd.C_drewN ?_ _) | (with_reducible refine Kd.C_drew ?_))); (case side2 => exact (Kd.R_reads' HO_6.out).2.1); rintro e w' ⟨rfl, ⟨nd, rfl⟩⟩; (try first | exact ⟨rfl, _, World.drewN_drewN _ _ _⟩ | exact ⟨rfl, _, Eq.trans (World.drewN_drewN _ _ _) (congrArg (World.drewN _) (Nat.add_assoc _ _ _))⟩))))
       go_roundg k2
       case measure => have := HK1.out; have := HK2.out; omega
       case rel => exact ⟨(x10_2), (wrap64 (x12_2 + 1)), sqD, H', ⟨by have := HK1.out; have := HK2.out; omega⟩, ⟨fR HO_6.out⟩, ⟨fR HO_10.out⟩, ⟨fR HO_11.out⟩, ⟨fb BK497.out⟩, ⟨fW HB.out⟩⟩
      ·rw [if_neg c45] at H
       have c45b0 : decide (x12_2 < (l0_0.length : Int)) = false := decide_eq_false c45
       clear c45
       have H' := am H
       clear H
       have := yC1 BK497
       have := kC1 BK497
       have := kC2 BK497
       have := kC3 BK497
       have := bf BK497.out 0
       have := bf BK497.out 1
       have := bf BK497.out 2
       have := bf BK497.out 3
       go_wp2
       repeat (go_quiet (fail); try go_wp2)
       go_loopg [11, 13] k2 (fun kq v11 v13 w' => ∃ (x11_3 : List Int) (x13_3 : Int), v13 = .int .i64 x13_3 ∧ Aside0 (r_Refusal.l4 kq x10_2 x11_3 x13_3 l0_0 a0_1 l0_2 l0_3 = some (r1, r2)) ∧ Aside0 (kq ≤ k2) ∧ Aside0 (Kd.R (Kd.int .i64) 3 w' w.heap.size (fun k_ => some k_ ≠ (v11 : Value).ownBlock) u10 x10_2) ∧ Aside0 (Kd.R (Kd.int .i64) 3 w' w.heap.size (fun k_ => some k_ ≠ (u10 : Value).ownBlock) v11 x11_3) ∧ Aside0 (w'.heap[gb497]? = some (.cells #[(.slice A0_0 l0_0.length c0_0), .int .i64 a0_1, (.slice A0_2 l0_2.length c0_2), (.slice A0_3 l0_3.length c0_3)] 26 (0, 0))) ∧ Aside0 (Below w.heap.size w w'))
       case atStart => exact ⟨(y514), (0), sqD, H', ⟨Nat.le_refl _⟩, ⟨by (with_reducible repeat (first | apply Kd.R_alloc | apply Kd.R_drewN | apply Kd.R_drew)); exact Kd.R_mono HO_10.out (fun _ hk => hk.2)⟩, ⟨by (with_reducible repeat (first | apply Kd.R_alloc | apply Kd.R_drewN | apply Kd.R_drew)); exact Kd.R_mono HO_11.out (fun _ hk => hk.2)⟩, ⟨fb BK497.out⟩, ⟨fW HB.out⟩⟩
       case round =>
        clear H'
        try clear c1;try clear q1;try clear c2;try clear p2;try clear c3;try clear c4;try clear c5;try clear p5;try clear q5;try clear hx5;try clear c6;try clear c6b0;try clear p6;try clear c8;try clear c8b0;try clear c12;try clear c14;try clear c14b0;try clear c15;try clear c15b0;try clear q16;try clear c17;try clear c20;try clear c20b0;try clear c21;try clear c23;try clear c24;try clear c24b0;try clear c25;try clear c25b0;try clear c26;try clear c26b0;try clear c27;try clear c27b0;try clear c28;try clear c28b0;try clear c29;try clear c29b0;try clear c31;try clear c32;try clear c45;try clear c45b0;try clear c47;try clear c48;try clear c50;try clear p50;try clear q50;try clear hx50;try clear hx502_0;try clear hx503_0;try clear hx504_0;try clear hx505_0;try clear hx506_0;try clear p2;try clear p5;try clear p502;try clear p503;try clear p504;try clear p505;try clear p506;try clear p6;try clear q1;try clear q16;try clear q5;try clear q502;try clear q503;try clear q504;try clear q505;try clear q506
        obtain ⟨x11_3, x13_3, rfl, HA, HK3, HO_10, HO_11, BK497, HB⟩ := hrel
        cases gk with
        | zero => exact absurd HA.out (by simp [r_Refusal.l4])
        | succ k3 =>
         have H := HA.out
         clear HA
         simp only [r_Refusal.l4] at H
         by_cases c55 : x13_3 < a0_1
         ·rw [if_pos c55] at H
          have c55b0 : decide (x13_3 < a0_1) = true := decide_eq_true c55
          clear c55
          have H' := am H
          clear H
          have := yC1 BK497
          have := kC1 BK497
          have := kC2 BK497
          have := kC3 BK497
          have := bf BK497.out 0
          have := bf BK497.out 1
          have := bf BK497.out 2
          have := bf BK497.out 3
          go_wp2
          repeat (go_quiet (fail); try go_wp2)
          go_loopg [11, 14] k3 (fun kq v11 v14 w' => ∃ (x11_4 : List Int) (x14_4 : Int), v14 = .int .i64 x14_4 ∧ Aside0 (r_Refusal.l5 kq x10_2 x11_4 x13_3 x14_4 l0_0 a0_1 l0_2 l0_3 = some (r1, r2)) ∧ Aside0 (kq ≤ k3) ∧ Aside0 (Kd.R (Kd.int .i64) 3 w' w.heap.size (fun k_ => some k_ ≠ (v11 : Value).ownBlock) u10 x10_2) ∧ Aside0 (Kd.R (Kd.int .i64) 3 w' w.heap.size (fun k_ => some k_ ≠ (u10 : Value).ownBlock) v11 x11_4) ∧ Aside0 (w'.heap[gb497]? = some (.cells #[(.slice A0_0 l0_0.length c0_0), .int .i64 a0_1, (.slice A0_2 l0_2.length c0_2), (.slice A0_3 l0_3.length c0_3)] 26 (0, 0))) ∧ Aside0 (Below w.heap.size w w'))
          case atStart => exact ⟨(x11_3), (0), sqD, H', ⟨Nat.le_refl _⟩, ⟨fR HO_10.out⟩, ⟨fR HO_11.out⟩, ⟨fb BK497.out⟩, ⟨fW HB.out⟩⟩
          case round =>
           clear H'
           try clear c1;try clear q1;try clear c2;try clear p2;try clear c3;try clear c4;try clear c5;try clear p5;try clear q5;try clear hx5;try clear c6;try clear c6b0;try clear p6;try clear c8;try clear c8b0;try clear c12;try clear c14;try clear c14b0;try clear c15;try clear c15b0;try clear q16;try clear c17;try clear c20;try clear c20b0;try clear c21;try clear c23;try clear c24;try clear c24b0;try clear c25;try clear c25b0;try clear c26;try clear c26b0;try clear c27;try clear c27b0;try clear c28;try clear c28b0;try clear c29;try clear c29b0;try clear c31;try clear c32;try clear c45;try clear c45b0;try clear c47;try clear c48;try clear c50;try clear p50;try clear q50;try clear hx50;try clear c55;try clear c55b0;try clear hx502_0;try clear hx503_0;try clear hx504_0;try clear hx505_0;try clear hx506_0;try clear p2;try clear p5;try clear p50;try clear p502;try clear p503;try clear p504;try clear p505;try clear p506;try clear p6;try clear q1;try clear q16;try clear q5;try clear q50;try clear q502;try clear q503;try clear q504;try clear q505;try clear q506
           obtain ⟨x11_4, x14_4, rfl, HA, HK4, HO_10, HO_11, BK497, HB⟩ := hrel
           cases gk with
           | zero => exact absurd HA.out (by simp [r_Refusal.l5])
           | succ k4 =>
            have H := HA.out
            clear HA
            simp only [r_Refusal.l5] at H
            by_cases c57 : x14_4 < (x10_2.length : Int)
            rotate_left
            ·rw [if_neg c57] at H
             have c57b0 : decide (x14_4 < (x10_2.length : Int)) = false := decide_eq_false c57
             clear c57
             have H' := am H
             clear H
             obtain ⟨Ao69, co69, eo69⟩ := Kd.R_slice HO_10.out
             subst eo69
             go_wp2
             repeat (go_quiet (fail); try go_wp2)
             go_roundg k4
             case measure => have := HK1.out; have := HK2.out; have := HK3.out; have := HK4.out; omega
             case rel => exact ⟨(x11_4), (wrap64 (x13_3 + 1)), sqD, H', ⟨by have := HK1.out; have := HK2.out; have := HK3.out; have := HK4.out; omega⟩, ⟨fR HO_10.out⟩, ⟨fR HO_11.out⟩, ⟨fb BK497.out⟩, ⟨fW HB.out⟩⟩
            rw [if_pos c57] at H
            have c57b0 : decide (x14_4 < (x10_2.length : Int)) = true := decide_eq_true c57
            clear c57
            by_cases c58 : 0 ≤ x14_4
            rotate_left
            ·rw [if_neg c58] at H
             exact absurd H (by simp)
            rw [if_pos c58] at H
            have c58b0 : decide (0 ≤ x14_4) = true := decide_eq_true c58
            clear c58
            by_cases c59 : 0 ≤ (rd x10_2 x14_4)
            rotate_left
            ·rw [if_neg c59] at H
             exact absurd H (by simp)
            rw [if_pos c59] at H
            have c59b0 : decide (0 ≤ (rd x10_2 x14_4)) = true := decide_eq_true c59
            clear c59
            by_cases c60 : (rd x10_2 x14_4) < (l0_0.length : Int)
            rotate_left
            ·rw [if_neg c60] at H
             exact absurd H (by simp)
            rw [if_pos c60] at H
            have c60b0 : decide ((rd x10_2 x14_4) < (l0_0.length : Int)) = true := decide_eq_true c60
            clear c60
            replace H := Option.bind_eq_some_iff.mp H
            obtain ⟨t523, A610, H⟩ := H
            replace H : (if t523 = true then (if x11_4.length < 17592186044416 then (r_Refusal.l4 k4 x10_2 (x11_4 ++ [x13_3]) (wrap64 (x13_3 + 1)) l0_0 a0_1 l0_2 l0_3) else (none)) else (r_Refusal.l5 k4 x10_2 x11_4 x13_3 (wrap64 (x14_4 + 1)) l0_0 a0_1 l0_2 l0_3)) = some (r1, r2) := H
            have A61 := am A610
            clear A610
            by_cases c62 : t523 = true
            ·subst c62
             have H1 : (if x11_4.length < 17592186044416 then (r_Refusal.l4 k4 x10_2 (x11_4 ++ [x13_3]) (wrap64 (x13_3 + 1)) l0_0 a0_1 l0_2 l0_3) else (none)) = some (r1, r2) := by rw [if_pos rfl] at H; exact H
             clear H
             have H := H1
             clear H1
             by_cases c63 : x11_4.length < 17592186044416
             rotate_left
             ·rw [if_neg c63] at H
              exact absurd H (by simp)
             rw [if_pos c63] at H
             have LMc63 := am c63
             clear c63
             obtain ⟨y524, hy524⟩ : ∃ y_ : List Int, y_ = (x11_4 ++ [x13_3]) := ⟨_, rfl⟩
             replace H : (r_Refusal.l4 k4 x10_2 y524 (wrap64 (x13_3 + 1)) l0_0 a0_1 l0_2 l0_3) = some (r1, r2) := by first | (rw [hy524]; with_reducible exact H) | (have H2_ := (Option.bind_some _ _).symm.trans H; rw [hy524]; with_reducible exact H2_) | (have H2_ := (Option.bind_some _ _).symm.trans H; with_reducible exact H2_) | with_reducible exact H | (rw [hy524]; exact H) | exact H
             have Ny524 := am hy524
             clear hy524
             have H' := am H
             clear H
             obtain ⟨Ao64, co64, eo64⟩ := Kd.R_slice HO_10.out
             subst eo64
             have := yC1 BK497
             have := kC1 BK497
             have := kC2 BK497
             have := kC3 BK497
             have := bf BK497.out 0
             have := bf BK497.out 1
             have := bf BK497.out 2
             have := bf BK497.out 3
             have p521 : 0 ≤ (x14_4 : Int) := of_decide_eq_true (by assumption)
             have q521 : x14_4 < (x10_2.length : Int) := of_decide_eq_true (by assumption)
             obtain ⟨ad521, e521, hx521_0⟩ := Kd.at_int (Kd.R_reads' HO_10.out).2.2 x14_4 p521 q521
             cases e521
             replace p521 := eq_true p521
             replace q521 := eq_true q521
             have p522 : 0 ≤ ((rd x10_2 x14_4) : Int) := of_decide_eq_true (by assumption)
             have q522 : (rd x10_2 x14_4) < (l0_0.length : Int) := of_decide_eq_true (by assumption)
             obtain ⟨ad522, A522_0, c522_0, e522, hx522_0, hl522_0, hi522_0⟩ := at_L1 HR0_0.out (rd x10_2 x14_4) p522 q522
             cases e522
             replace hx522_0 := cl HB hx522_0
             have HR522_0 := am hi522_0
             have HC522_0 := am hl522_0
             clear hi522_0 hl522_0
             replace p522 := eq_true p522
             replace q522 := eq_true q522
             go_wp2_with (first | (go_at_call 40; (with_reducible refine (r_has.calls k4 _ _ (rd_L1 l0_0 (rd x10_2 x14_4)) x13_3 true _ ?side1 ?side2 A61.out).mono ?_); (case side1 => repeat (first | exact (Kd.C_below HR522_0.out HB.out) | (with_reducible refine Kd.C_alloc ?_ _) | (with_reducible refine Kd.C_drewN ?_ _) | (with_reducible refine Kd.C_drew ?_))); (case side2 => exact HC522_0.out); rintro e w' ⟨rfl, ⟨nd, rfl⟩⟩; (try first | exact ⟨rfl, _, World.drewN_drewN _ _ _⟩ | exact ⟨rfl, _, Eq.trans (World.drewN_drewN _ _ _) (congrArg (World.drewN _) (Nat.add_assoc _ _ _))⟩)) | ((with_reducible refine gB (b := .append) (xs := #[.tmp 111, .tmp 113]) rfl ?_); at_builtin; refine Kd.R_append (Kd.int .i64) (w0 := w) w.heap.size rfl (.tmp 111) (.tmp 113) 23 3 (.int .i64 0) 8 rfl Try.underlying23 info3 rfl (by decide) (by omega) u11 x11_4 x13_3 [.int .i64 x13_3] (fun k_ => some k_ ≠ (.slice (some ad521) x10_2.length co64 : Value).ownBlock) (fun _ => False) rfl rfl ?aP (fun _ hk => hk.elim) ?aF ?aO ?aB ?aS ?aL ?_; (case aP => exact rfl); (case aB => exact (fW HB.out)); (case aF => exact (fun k_ hk => Kd.fresh' (Kd.R_lt (fR HO_10.out)) k_ hk)); (case aO => exact (fR HO_11.out)); (case aS => exact (wz (fW HB.out))); (case aL => have := LMc63.out; omega); intro v525 w66 ho hb hg hat; rw [← Ny524.out] at ho; replace HO_10 := am (Kd.R_after (ok := (fun _ => True)) (by (with_reducible repeat (first | apply Kd.R_alloc | apply Kd.R_drewN | apply Kd.R_drew)); exact Kd.R_mono HO_10.out (fun _ hk => ⟨trivial, hk⟩)) hg hat); replace BK497 := am (blk_grown (g := gb497) (o := .cells #[.slice (some ad522) l0_0.length c0_0, .int .i64 a0_1, .slice A0_2 l0_2.length c0_2, .slice A0_3 l0_3.length c0_3] 26 (0, 0)) (fb BK497.out) hg (Kd.R_ne HO_11.out BK497.out (by decide))); replace HB := am (hb); have HO526 := am (ho); clear HO_11 ho hb hg hat))
             repeat (go_quiet (first | (go_at_call 40; (with_reducible refine (r_has.calls k4 _ _ (rd_L1 l0_0 (rd x10_2 x14_4)) x13_3 true _ ?side1 ?side2 A61.out).mono ?_); (case side1 => repeat (first | exact (Kd.C_below HR522_0.out HB.out) | (with_reducible refine Kd.C_alloc ?_ _) | (with_reducible refine Kd.C_drewN ?_ _) | (with_reducible refine Kd.C_drew ?_))); (case side2 => exact HC522_0.out); rintro e w' ⟨rfl, ⟨nd, rfl⟩⟩; (try first | exact ⟨rfl, _, World.drewN_drewN _ _ _⟩ | exact ⟨rfl, _, Eq.trans (World.drewN_drewN _ _ _) (congrArg (World.drewN _) (Nat.add_assoc _ _ _))⟩)) | ((with_reducible refine gB (b := .append) (xs := #[.tmp 111, .tmp 113]) rfl ?_); at_builtin; refine Kd.R_append (Kd.int .i64) (w0 := w) w.heap.size rfl (.tmp 111) (.tmp 113) 23 3 (.int .i64 0) 8 rfl Try.underlying23 info3 rfl (by decide) (by omega) u11 x11_4 x13_3 [.int .i64 x13_3] (fun k_ => some k_ ≠ (.slice (some ad521) x10_2.length co64 : Value).ownBlock) (fun _ => False) rfl rfl ?aP (fun _ hk => hk.elim) ?aF ?aO ?aB ?aS ?aL ?_; (case aP => exact rfl); (case aB => exact (fW HB.out)); (case aF => exact (fun k_ hk => Kd.fresh' (Kd.R_lt (fR HO_10.out)) k_ hk)); (case aO => exact (fR HO_11.out)); (case aS => exact (wz (fW HB.out))); (case aL => have := LMc63.out; omega); intro v525 w66 ho hb hg hat; rw [← Ny524.out] at ho; replace HO_10 := am (Kd.R_after (ok := (fun _ => True)) (by (with_reducible repeat (first | apply Kd.R_alloc | apply Kd.R_drewN | apply Kd.R_drew)); exact Kd.R_mono HO_10.out (fun _ hk => ⟨trivial, hk⟩)) hg hat); replace BK497 := am (blk_grown (g := gb497) (o := .cells #[.slice (some ad522) l0_0.length c0_0, .int .i64 a0_1, .slice A0_2 l0_2.length c0_2, .slice A0_3 l0_3.length c0_3] 26 (0, 0)) (fb BK497.out) hg (Kd.R_ne HO_11.out BK497.out (by decide))); replace HB := am (hb); have HO526 := am (ho); clear HO_11 ho hb hg hat)); try go_wp2_with (first | (go_at_call 40; (with_reducible refine (r_has.calls k4 _ _ (rd_L1 l0_0 (rd x10_2 x14_4)) x13_3 true _ ?side1 ?side2 A61.out).mono ?_); (case side1 => repeat (first | exact (Kd.C_below HR522_0.out HB.out) | (with_reducible refine Kd.C_alloc ?_ _) | (with_reducible refine Kd.C_drewN ?_ _) | (with_reducible refine Kd.C_drew ?_))); (case side2 => exact HC522_0.out); rintro e w' ⟨rfl, ⟨nd, rfl⟩⟩; (try first | exact ⟨rfl, _, World.drewN_drewN _ _ _⟩ | exact ⟨rfl, _, Eq.trans (World.drewN_drewN _ _ _) (congrArg (World.drewN _) (Nat.add_assoc _ _ _))⟩)) | ((with_reducible refine gB (b := .append) (xs := #[.tmp 111, .tmp 113]) rfl ?_); at_builtin; refine Kd.R_append (Kd.int .i64) (w0 := w) w.heap.size rfl (.tmp 111) (.tmp 113) 23 3 (.int .i64 0) 8 rfl Try.underlying23 info3 rfl (by decide) (by omega) u11 x11_4 x13_3 [.int .i64 x13_3] (fun k_ => some k_ ≠ (.slice (some ad521) x10_2.length co64 : Value).ownBlock) (fun _ => False) rfl rfl ?aP (fun _ hk => hk.elim) ?aF ?aO ?aB ?aS ?aL ?_; (case aP => exact rfl); (case aB => exact (fW HB.out)); (case aF => exact (fun k_ hk => Kd.fresh' (Kd.R_lt (fR HO_10.out)) k_ hk)); (case aO => exact (fR HO_11.out)); (case aS => exact (wz (fW HB.out))); (case aL => have := LMc63.out; omega); intro v525 w66 ho hb hg hat; rw [← Ny524.out] at ho; replace HO_10 := am (Kd.R_after (ok := (fun _ => True)) (by (with_reducible repeat (first | apply Kd.R_alloc | apply Kd.R_drewN | apply Kd.R_drew)); exact Kd.R_mono HO_10.out (fun _ hk => ⟨trivial, hk⟩)) hg hat); replace BK497 := am (blk_grown (g := gb497) (o := .cells #[.slice (some ad522) l0_0.length c0_0, .int .i64 a0_1, .slice A0_2 l0_2.length c0_2, .slice A0_3 l0_3.length c0_3] 26 (0, 0)) (fb BK497.out) hg (Kd.R_ne HO_11.out BK497.out (by decide))); replace HB := am (hb); have HO526 := am (ho); clear HO_11 ho hb hg hat)))
             go_roundg k4
             case measure => have := HK1.out; have := HK2.out; have := HK3.out; have := HK4.out; omega
             case rel => exact ⟨(y524), (wrap64 (x13_3 + 1)), sqD, H', ⟨by have := HK1.out; have := HK2.out; have := HK3.out; have := HK4.out; omega⟩, ⟨by (with_reducible repeat (first | apply Kd.R_alloc | apply Kd.R_drewN | apply Kd.R_drew)); exact Kd.R_mono HO_10.out (fun _ hk => hk.2)⟩, ⟨fR HO526.out⟩, ⟨fb BK497.out⟩, ⟨fW HB.out⟩⟩
            replace c62 := Bool.eq_false_iff.mpr c62
            subst c62
            have H1 : (r_Refusal.l5 k4 x10_2 x11_4 x13_3 (wrap64 (x14_4 + 1)) l0_0 a0_1 l0_2 l0_3) = some (r1, r2) := by rw [if_neg (show ¬ (false = true) by decide)] at H; exact H
            clear H
            have H := H1
            clear H1
            have H' := am H
            clear H
            obtain ⟨Ao67, co67, eo67⟩ := Kd.R_slice HO_10.out
            subst eo67
            have := yC1 BK497
            have := kC1 BK497
            have := kC2 BK497
            have := kC3 BK497
            have := bf BK497.out 0
            have := bf BK497.out 1
            have := bf BK497.out 2
            have := bf BK497.out 3
            have p521 : 0 ≤ (x14_4 : Int) := of_decide_eq_true (by assumption)
            have q521 : x14_4 < (x10_2.length : Int) := of_decide_eq_true (by assumption)
            obtain ⟨ad521, e521, hx521_0⟩ := Kd.at_int (Kd.R_reads' HO_10.out).2.2 x14_4 p521 q521
            cases e521
            replace p521 := eq_true p521
            replace q521 := eq_true q521
            have p522 : 0 ≤ ((rd x10_2 x14_4) : Int) := of_decide_eq_true (by assumption)
            have q522 : (rd x10_2 x14_4) < (l0_0.length : Int) := of_decide_eq_true (by assumption)
            obtain ⟨ad522, A522_0, c522_0, e522, hx522_0, hl522_0, hi522_0⟩ := at_L1 HR0_0.out (rd x10_2 x14_4) p522 q522
            cases e522
            replace hx522_0 := cl HB hx522_0
            have HR522_0 := am hi522_0
            have HC522_0 := am hl522_0
            clear hi522_0 hl522_0
            replace p522 := eq_true p522
            replace q522 := eq_true q522
            go_wp2_with (first | (go_at_call 40; (with_reducible refine (r_has.calls k4 _ _ (rd_L1 l0_0 (rd x10_2 x14_4)) x13_3 false _ ?side1 ?side2 A61.out).mono ?_); (case side1 => repeat (first | exact (Kd.C_below HR522_0.out HB.out) | (with_reducible refine Kd.C_alloc ?_ _) | (with_reducible refine Kd.C_drewN ?_ _) | (with_reducible refine Kd.C_drew ?_))); (case side2 => exact HC522_0.out); rintro e w' ⟨rfl, ⟨nd, rfl⟩⟩; (try first | exact ⟨rfl, _, World.drewN_drewN _ _ _⟩ | exact ⟨rfl, _, Eq.trans (World.drewN_drewN _ _ _) (congrArg (World.drewN _) (Nat.add_assoc _ _ _))⟩)))
            repeat (go_quiet (first | (go_at_call 40; (with_reducible refine (r_has.calls k4 _ _ (rd_L1 l0_0 (rd x10_2 x14_4)) x13_3 false _ ?side1 ?side2 A61.out).mono ?_); (case side1 => repeat (first | exact (Kd.C_below HR522_0.out HB.out) | (with_reducible refine Kd.C_alloc ?_ _) | (with_reducible refine Kd.C_drewN ?_ _) | (with_reducible refine Kd.C_drew ?_))); (case side2 => exact HC522_0.out); rintro e w' ⟨rfl, ⟨nd, rfl⟩⟩; (try first | exact ⟨rfl, _, World.drewN_drewN _ _ _⟩ | exact ⟨rfl, _, Eq.trans (World.drewN_drewN _ _ _) (congrArg (World.drewN _) (Nat.add_assoc _ _ _))⟩))); try go_wp2_with (first | (go_at_call 40; (with_reducible refine (r_has.calls k4 _ _ (rd_L1 l0_0 (rd x10_2 x14_4)) x13_3 false _ ?side1 ?side2 A61.out).mono ?_); (case side1 => repeat (first | exact (Kd.C_below HR522_0.out HB.out) | (with_reducible refine Kd.C_alloc ?_ _) | (with_reducible refine Kd.C_drewN ?_ _) | (with_reducible refine Kd.C_drew ?_))); (case side2 => exact HC522_0.out); rintro e w' ⟨rfl, ⟨nd, rfl⟩⟩; (try first | exact ⟨rfl, _, World.drewN_drewN _ _ _⟩ | exact ⟨rfl, _, Eq.trans (World.drewN_drewN _ _ _) (congrArg (World.drewN _) (Nat.add_assoc _ _ _))⟩))))
            go_roundg k4
            case measure => have := HK1.out; have := HK2.out; have := HK3.out; have := HK4.out; omega
            case rel => exact ⟨(x11_4), (wrap64 (x14_4 + 1)), sqD, H', ⟨by have := HK1.out; have := HK2.out; have := HK3.out; have := HK4.out; omega⟩, ⟨fR HO_10.out⟩, ⟨fR HO_11.out⟩, ⟨fb BK497.out⟩, ⟨fW HB.out⟩⟩
         ·rw [if_neg c55] at H
          have c55b0 : decide (x13_3 < a0_1) = false := decide_eq_false c55
          clear c55
          simp only [Option.some.injEq, Prod.mk.injEq] at H
          obtain ⟨rfl, rfl⟩ := H
          have := yC1 BK497
          have := kC1 BK497
          have := kC2 BK497
          have := kC3 BK497
          have := bf BK497.out 0
          have := bf BK497.out 1
          have := bf BK497.out 2
          have := bf BK497.out 3
          go_wp2
          repeat (go_quiet (fail); try go_wp2)
          go_ret2
          exact ⟨_, _, sqE, fR HO_10.out, fR HO_11.out, fW HB.out⟩

end Go.Proofs.Ytkeomlmlimkebaa.QA
