import Derived.Test.YtkeomlmlimkebaaZQAx0
import Derived.Test.YtkeomlmlimkebaaZQAx12
import Derived.Test.YtkeomlmlimkebaaZQAx15
namespace Go.Proofs.Ytkeomlmlimkebaa.QA
open Go.RowKit Go.Proofs.YtkeomlmlimkebaaW.PrintWords Go.Proofs.YtkeomlmlimkebaaW.PrintLast Go.Proofs.YtkeomlmlimkebaaW.PrintMore
open Go.Proofs.YtkeomlmlimkebaaW.PrintWords renaming blk_frozen → bf, below_size → wz, gate_dst → gd
open Aside0 renaming mk → am
attribute [local go_sem] max2_int min2_int max_two min_two max_three min_three max_four min_four
set_option linter.unusedVariables false
set_option linter.unusedSimpArgs false

mutual
def r_Repair.l0 : Nat → List Int → List (S69) → Int → List (List Int) → Int → List Int → List Bool → Option ((List (S69)))
 | 0, _, _, _, _, _, _, _ => none
 | k + 1, x5, x6, x7, x421000, x421001, x421002, x421003 => if x7 ≥ 0 then (r_Repair.l1 k x5 x6 x7 (-1) 0 x421000 x421001 x421002 x421003) else (some x6)
def r_Repair.j3 : Nat → List Int → List (S69) → Int → List (List Int) → Int → List Int → List Bool → Option ((List (S69)))
 | 0, _, _, _, _, _, _, _ => none
 | k + 1, x5, x6, x8, x421000, x421001, x421002, x421003 => r_Repair.l0 k x5 x6 x8 x421000 x421001 x421002 x421003
def r_Repair.l1 : Nat → List Int → List (S69) → Int → Int → Int → List (List Int) → Int → List Int → List Bool → Option ((List (S69)))
 | 0, _, _, _, _, _, _, _, _, _ => none
 | k + 1, x5, x6, x7, x8, x9, x421000, x421001, x421002, x421003 => if 0 ≤ x7 then (if x7 < (x421000.length : Int) then (if x9 < ((rd_L1 x421000 x7).length : Int) then (if 0 ≤ x9 then ((r_User.f k x421000 x421001 x421002 x421003 (rd (rd_L1 x421000 x7) x9)).bind fun t431 => (if x7 < (x5.length : Int) then (if (rd x5 x7) = 1 then (if t431 < 0 then (r_Repair.j2 k x5 x6 x7 x8 x9 (rd (rd_L1 x421000 x7) x9) t431 true x421000 x421001 x421002 x421003) else (if (rd x5 x7) > 1 then (if t431 ≥ 0 then (if t431 = x7 then (r_Repair.j2 k x5 x6 x7 x8 x9 (rd (rd_L1 x421000 x7) x9) t431 false x421000 x421001 x421002 x421003) else (if 0 ≤ t431 then (if t431 < (x421003.length : Int) then (if rdOf false x421003 t431 = true then (r_Repair.j2 k x5 x6 x7 x8 x9 (rd (rd_L1 x421000 x7) x9) t431 false x421000 x421001 x421002 x421003) else (if t431 < (x5.length : Int) then (r_Repair.j2 k x5 x6 x7 x8 x9 (rd (rd_L1 x421000 x7) x9) t431 ((rd x5 t431) == (wrap64 ((rd x5 x7) - 1))) x421000 x421001 x421002 x421003) else (none))) else (none)) else (none))) else (r_Repair.j2 k x5 x6 x7 x8 x9 (rd (rd_L1 x421000 x7) x9) t431 false x421000 x421001 x421002 x421003)) else (r_Repair.j2 k x5 x6 x7 x8 x9 (rd (rd_L1 x421000 x7) x9) t431 false x421000 x421001 x421002 x421003))) else (if (rd x5 x7) > 1 then (if t431 ≥ 0 then (if t431 = x7 then (r_Repair.j2 k x5 x6 x7 x8 x9 (rd (rd_L1 x421000 x7) x9) t431 false x421000 x421001 x421002 x421003) else (if 0 ≤ t431 then (if t431 < (x421003.length : Int) then (if rdOf false x421003 t431 = true then (r_Repair.j2 k x5 x6 x7 x8 x9 (rd (rd_L1 x421000 x7) x9) t431 false x421000 x421001 x421002 x421003) else (if t431 < (x5.length : Int) then (r_Repair.j2 k x5 x6 x7 x8 x9 (rd (rd_L1 x421000 x7) x9) t431 ((rd x5 t431) == (wrap64 ((rd x5 x7) - 1))) x421000 x421001 x421002 x421003) else (none))) else (none)) else (none))) else (r_Repair.j2 k x5 x6 x7 x8 x9 (rd (rd_L1 x421000 x7) x9) t431 false x421000 x421001 x421002 x421003)) else (r_Repair.j2 k x5 x6 x7 x8 x9 (rd (rd_L1 x421000 x7) x9) t431 false x421000 x421001 x421002 x421003))) else (none))) else (none)) else (r_Repair.j3 k x5 x6 x8 x421000 x421001 x421002 x421003)) else (none)) else (none)
def r_Repair.j2 : Nat → List Int → List (S69) → Int → Int → Int → Int → Int → Bool → List (List Int) → Int → List Int → List Bool → Option ((List (S69)))
 | 0, _, _, _, _, _, _, _, _, _, _, _, _ => none
 | k + 1, x5, x6, x7, x8, x9, x10, x11, x89, x421000, x421001, x421002, x421003 => if x89 = true then (if 0 ≤ x7 then (if x7 < (x421002.length : Int) then (if x6.length < 5864062014805 then (r_Repair.j3 k x5 (x6 ++ [(⟨x7, rd x421002 x7, x10⟩ : S69)]) x11 x421000 x421001 x421002 x421003) else (none)) else (none)) else (none)) else (r_Repair.l1 k x5 x6 x7 x8 (wrap64 (x9 + 1)) x421000 x421001 x421002 x421003)
end
def r_Repair.f (k : Nat) (l0_0 : List (List Int)) (a0_1 : Int) (l0_2 : List Int) (l0_3 : List Bool) (a1 : Int) : Option ((List (S69))) := (r_Lengths.f k l0_0 a0_1 l0_2 l0_3).bind fun t421 => ((some (([] : List (S69)) : List (S69))).bind fun y424 => (if 0 ≤ a1 then (if a1 < (t421.length : Int) then (if (rd t421 a1) ≥ 1000 then (some y424) else (r_Repair.l0 k t421 y424 a1 l0_0 a0_1 l0_2 l0_3)) else (none)) else (none)))
set_option maxHeartbeats 8000000 in
set_option maxRecDepth 100000 in
theorem r_Repair.calls (k : Nat) (A0_0 : Option Addr) (c0_0 : Nat) (l0_0 : List (List Int)) (a0_1 : Int) (A0_2 : Option Addr) (c0_2 : Nat) (l0_2 : List Int) (A0_3 : Option Addr) (c0_3 : Nat) (l0_3 : List Bool) (a1 : Int) (r : List (S69)) (w : World) (hr0_0 : Kd.C (Kd.slice 3 (Kd.int .i64)) w A0_0 l0_0.length l0_0) (hc0_0 : l0_0.length ≤ c0_0) (hr0_2 : Kd.C (Kd.int .i64) w A0_2 l0_2.length l0_2) (hc0_2 : l0_2.length ≤ c0_2) (hr0_3 : Kd.C Kd.bool w A0_3 l0_3.length l0_3) (hc0_3 : l0_3.length ≤ c0_3) (h : r_Repair.f k l0_0 a0_1 l0_2 l0_3 a1 = some r) :
  Calls Try.prog 15 #[.agg #[.slice A0_0 l0_0.length c0_0, .int .i64 a0_1, .slice A0_2 l0_2.length c0_2, .slice A0_3 l0_3.length c0_3], .int .i64 a1] w fun e w' => ∃ v0_ : Value, e = .returned (v0_) ∧ Kd.R k69 69 w' w.heap.size (fun _ => True) v0_ r ∧ Below w.heap.size w w' := by
 have hu26 := Try.underlying26
 have hu69 := Try.underlying69
 have HR0_0 := am hr0_0
 have HC0_0 := am hc0_0
 clear hr0_0 hc0_0
 have HR0_2 := am hr0_2
 have HC0_2 := am hc0_2
 clear hr0_2 hc0_2
 have HR0_3 := am hr0_3
 have HC0_3 := am hc0_3
 clear hr0_3 hc0_3
 have HB := am (Below.refl w.heap.size w)
 have H : ((r_Lengths.f k l0_0 a0_1 l0_2 l0_3).bind fun t421 => ((some (([] : List (S69)) : List (S69))).bind fun y424 => (if 0 ≤ a1 then (if a1 < (t421.length : Int) then (if (rd t421 a1) ≥ 1000 then (some y424) else (r_Repair.l0 k t421 y424 a1 l0_0 a0_1 l0_2 l0_3)) else (none)) else (none)))) = some r := h
 clear h
 replace H := Option.bind_eq_some_iff.mp H
 obtain ⟨t421, A30, H⟩ := H
 replace H : ((some (([] : List (S69)) : List (S69))).bind fun y424 => (if 0 ≤ a1 then (if a1 < (t421.length : Int) then (if (rd t421 a1) ≥ 1000 then (some y424) else (r_Repair.l0 k t421 y424 a1 l0_0 a0_1 l0_2 l0_3)) else (none)) else (none))) = some r := H
 have A3 := am A30
 clear A30
 obtain ⟨y424, hy424⟩ : ∃ y_ : List (S69), y_ = (([] : List (S69))) := ⟨_, rfl⟩
 replace H : (if 0 ≤ a1 then (if a1 < (t421.length : Int) then (if (rd t421 a1) ≥ 1000 then (some y424) else (r_Repair.l0 k t421 y424 a1 l0_0 a0_1 l0_2 l0_3)) else (none)) else (none)) = some r := by first | (rw [hy424]; with_reducible exact H) | (have H2_ := (Option.bind_some _ _).symm.trans H; rw [hy424]; with_reducible exact H2_) | (have H2_ := (Option.bind_some _ _).symm.trans H; with_reducible exact H2_) | with_reducible exact H | (rw [hy424]; exact H) | exact H
 have Ny424 := am hy424
 clear hy424
 by_cases c4 : 0 ≤ a1
 ·rw [if_pos c4] at H
  have c4b0 : decide (0 ≤ a1) = true := decide_eq_true c4
  clear c4
  by_cases c5 : a1 < (t421.length : Int)
  rotate_left
  ·rw [if_neg c5] at H
   exact absurd H (by simp)
  rw [if_pos c5] at H
  have c5b0 : decide (a1 < (t421.length : Int)) = true := decide_eq_true c5
  clear c5
  by_cases c6 : (rd t421 a1) ≥ 1000
  ·rw [if_pos c6] at H
   have c6b0 : decide (1000 ≤ (rd t421 a1)) = true := decide_eq_true c6
   clear c6
   obtain rfl := Option.some.inj H
   go_enter Try.func15, Try.ntmps15
   go_wp2_with (first | ((with_reducible refine gd (N := 2) rfl ?_); refine box_event ?hg (N := 2) ?hd (cs := #[.slice A0_0 l0_0.length c0_0, .int .i64 a0_1, .slice A0_2 l0_2.length c0_2, .slice A0_3 l0_3.length c0_3]) (t := 26) ?hr ?_; (case hd | hg => rfl); (case hr => first | (go_simp; done) | (go_simp; rfl)); intro gb420 hg w7 hbox hb; have BK420 := am hbox; have GW420 := sG HB hg; have GE420 := sG HB hg; replace HB := bS HB hb; clear hb hbox hg; obtain ⟨_, _, _, _, _, _, _, _⟩ := zC4 BK420) | (go_at_call 42; (with_reducible refine (r_Lengths.calls k _ _ l0_0 a0_1 _ _ l0_2 _ _ l0_3 t421 _ ?side1 ?side2 ?side3 ?side4 ?side5 ?side6 A3.out).mono ?_); (case side1 => repeat (first | exact (Kd.C_below HR0_0.out HB.out) | (with_reducible refine Kd.C_alloc ?_ _) | (with_reducible refine Kd.C_drewN ?_ _) | (with_reducible refine Kd.C_drew ?_))); (case side2 => exact HC0_0.out); (case side3 => repeat (first | exact (Kd.C_below HR0_2.out HB.out) | (with_reducible refine Kd.C_alloc ?_ _) | (with_reducible refine Kd.C_drewN ?_ _) | (with_reducible refine Kd.C_drew ?_))); (case side4 => exact HC0_2.out); (case side5 => repeat (first | exact (Kd.C_below HR0_3.out HB.out) | (with_reducible refine Kd.C_alloc ?_ _) | (with_reducible refine Kd.C_drewN ?_ _) | (with_reducible refine Kd.C_drew ?_))); (case side6 => exact HC0_3.out); rintro e w9 ⟨v422, rfl, ho0, hb⟩; have HO423 := am (Kd.R_lower ho0 (wz (fW HB.out))); replace BK420 := bB BK420 hb; replace HB := bS HB hb; (try clear hb); (try clear hb2); (try clear hk); (try clear hi); (try clear ho0)) | ((with_reducible refine gd (N := 14) rfl ?_); refine Kd.R_lit k69 _ 69 ?hg (N := 14) ?hd (xs := ([] : List (S69))) (inner := []) (ok := fun _ => True) (okp := fun _ => True) ?hr ?hp (fun _ hk => hk) trivial (Below.refl _ _) (Nat.le_refl _) (by simp) ?_; (case hd | hg => rfl); (case hr => first | (go_simp; done) | (go_simp; rfl)); (case hp => exact (Reps.none _ _)); intro v425 w10 ho11 hb hg_ hnew_; clear hg_ hnew_; (first | rw [← Ny424.out] at ho11 | (simp only [Int.reduceToNat] at ho11; rw [← Ny424.out] at ho11)); replace HO423 := dR HO423 hb; have HO426 := am (Kd.R_lower ho11 (wz (fW HB.out))); replace BK420 := bB BK420 hb; replace HB := bS HB hb; clear hb ho11; obtain ⟨Ao12, co12, eo12⟩ := Kd.R_slice HO423.out; subst eo12; have p427 : 0 ≤ (a1 : Int) := of_decide_eq_true (by assumption); have q427 : a1 < (t421.length : Int) := of_decide_eq_true (by assumption); obtain ⟨ad427, e427, hx427_0⟩ := Kd.at_int (Kd.R_reads' HO423.out).2.2 a1 p427 q427; cases e427; replace p427 := eq_true p427; replace q427 := eq_true q427))
   repeat (go_quiet (first | ((with_reducible refine gd (N := 2) rfl ?_); refine box_event ?hg (N := 2) ?hd (cs := #[.slice A0_0 l0_0.length c0_0, .int .i64 a0_1, .slice A0_2 l0_2.length c0_2, .slice A0_3 l0_3.length c0_3]) (t := 26) ?hr ?_; (case hd | hg => rfl); (case hr => first | (go_simp; done) | (go_simp; rfl)); intro gb420 hg w7 hbox hb; have BK420 := am hbox; have GW420 := sG HB hg; have GE420 := sG HB hg; replace HB := bS HB hb; clear hb hbox hg; obtain ⟨_, _, _, _, _, _, _, _⟩ := zC4 BK420) | (go_at_call 42; (with_reducible refine (r_Lengths.calls k _ _ l0_0 a0_1 _ _ l0_2 _ _ l0_3 t421 _ ?side1 ?side2 ?side3 ?side4 ?side5 ?side6 A3.out).mono ?_); (case side1 => repeat (first | exact (Kd.C_below HR0_0.out HB.out) | (with_reducible refine Kd.C_alloc ?_ _) | (with_reducible refine Kd.C_drewN ?_ _) | (with_reducible refine Kd.C_drew ?_))); (case side2 => exact HC0_0.out); (case side3 => repeat (first | exact (Kd.C_below HR0_2.out HB.out) | (with_reducible refine Kd.C_alloc ?_ _) | (with_reducible refine Kd.C_drewN ?_ _) | (with_reducible refine Kd.C_drew ?_))); (case side4 => exact HC0_2.out); (case side5 => repeat (first | exact (Kd.C_below HR0_3.out HB.out) | (with_reducible refine Kd.C_alloc ?_ _) | (with_reducible refine Kd.C_drewN ?_ _) | (with_reducible refine Kd.C_drew ?_))); (case side6 => exact HC0_3.out); rintro e w9 ⟨v422, rfl, ho0, hb⟩; have HO423 := am (Kd.R_lower ho0 (wz (fW HB.out))); replace BK420 := bB BK420 hb; replace HB := bS HB hb; (try clear hb); (try clear hb2); (try clear hk); (try clear hi); (try clear ho0)) | ((with_reducible refine gd (N := 14) rfl ?_); refine Kd.R_lit k69 _ 69 ?hg (N := 14) ?hd (xs := ([] : List (S69))) (inner := []) (ok := fun _ => True) (okp := fun _ => True) ?hr ?hp (fun _ hk => hk) trivial (Below.refl _ _) (Nat.le_refl _) (by simp) ?_; (case hd | hg => rfl); (case hr => first | (go_simp; done) | (go_simp; rfl)); (case hp => exact (Reps.none _ _)); intro v425 w10 ho11 hb hg_ hnew_; clear hg_ hnew_; (first | rw [← Ny424.out] at ho11 | (simp only [Int.reduceToNat] at ho11; rw [← Ny424.out] at ho11)); replace HO423 := dR HO423 hb; have HO426 := am (Kd.R_lower ho11 (wz (fW HB.out))); replace BK420 := bB BK420 hb; replace HB := bS HB hb; clear hb ho11; obtain ⟨Ao12, co12, eo12⟩ := Kd.R_slice HO423.out; subst eo12; have p427 : 0 ≤ (a1 : Int) := of_decide_eq_true (by assumption); have q427 : a1 < (t421.length : Int) := of_decide_eq_true (by assumption); obtain ⟨ad427, e427, hx427_0⟩ := Kd.at_int (Kd.R_reads' HO423.out).2.2 a1 p427 q427; cases e427; replace p427 := eq_true p427; replace q427 := eq_true q427)); try go_wp2_with (first | ((with_reducible refine gd (N := 2) rfl ?_); refine box_event ?hg (N := 2) ?hd (cs := #[.slice A0_0 l0_0.length c0_0, .int .i64 a0_1, .slice A0_2 l0_2.length c0_2, .slice A0_3 l0_3.length c0_3]) (t := 26) ?hr ?_; (case hd | hg => rfl); (case hr => first | (go_simp; done) | (go_simp; rfl)); intro gb420 hg w7 hbox hb; have BK420 := am hbox; have GW420 := sG HB hg; have GE420 := sG HB hg; replace HB := bS HB hb; clear hb hbox hg; obtain ⟨_, _, _, _, _, _, _, _⟩ := zC4 BK420) | (go_at_call 42; (with_reducible refine (r_Lengths.calls k _ _ l0_0 a0_1 _ _ l0_2 _ _ l0_3 t421 _ ?side1 ?side2 ?side3 ?side4 ?side5 ?side6 A3.out).mono ?_); (case side1 => repeat (first | exact (Kd.C_below HR0_0.out HB.out) | (with_reducible refine Kd.C_alloc ?_ _) | (with_reducible refine Kd.C_drewN ?_ _) | (with_reducible refine Kd.C_drew ?_))); (case side2 => exact HC0_0.out); (case side3 => repeat (first | exact (Kd.C_below HR0_2.out HB.out) | (with_reducible refine Kd.C_alloc ?_ _) | (with_reducible refine Kd.C_drewN ?_ _) | (with_reducible refine Kd.C_drew ?_))); (case side4 => exact HC0_2.out); (case side5 => repeat (first | exact (Kd.C_below HR0_3.out HB.out) | (with_reducible refine Kd.C_alloc ?_ _) | (with_reducible refine Kd.C_drewN ?_ _) | (with_reducible refine Kd.C_drew ?_))); (case side6 => exact HC0_3.out); rintro e w9 ⟨v422, rfl, ho0, hb⟩; have HO423 := am (Kd.R_lower ho0 (wz (fW HB.out))); replace BK420 := bB BK420 hb; replace HB := bS HB hb; (try clear hb); (try clear hb2); (try clear hk); (try clear hi); (try clear ho0)) | ((with_reducible refine gd (N := 14) rfl ?_); refine Kd.R_lit k69 _ 69 ?hg (N := 14) ?hd (xs := ([] : List (S69))) (inner := []) (ok := fun _ => True) (okp := fun _ => True) ?hr ?hp (fun _ hk => hk) trivial (Below.refl _ _) (Nat.le_refl _) (by simp) ?_; (case hd | hg => rfl); (case hr => first | (go_simp; done) | (go_simp; rfl)); (case hp => exact (Reps.none _ _)); intro v425 w10 ho11 hb hg_ hnew_; clear hg_ hnew_; (first | rw [← Ny424.out] at ho11 | (simp only [Int.reduceToNat] at ho11; rw [← Ny424.out] at ho11)); replace HO423 := dR HO423 hb; have HO426 := am (Kd.R_lower ho11 (wz (fW HB.out))); replace BK420 := bB BK420 hb; replace HB := bS HB hb; clear hb ho11; obtain ⟨Ao12, co12, eo12⟩ := Kd.R_slice HO423.out; subst eo12; have p427 : 0 ≤ (a1 : Int) := of_decide_eq_true (by assumption); have q427 : a1 < (t421.length : Int) := of_decide_eq_true (by assumption); obtain ⟨ad427, e427, hx427_0⟩ := Kd.at_int (Kd.R_reads' HO423.out).2.2 a1 p427 q427; cases e427; replace p427 := eq_true p427; replace q427 := eq_true q427)))
   go_ret
   exact ⟨_, sqE, fR HO426.out, fW HB.out⟩
  rw [if_neg c6] at H
  have c6b0 : decide (1000 ≤ (rd t421 a1)) = false := decide_eq_false c6
  clear c6
  have H' := am H
  clear H
  go_enter Try.func15, Try.ntmps15
  go_wp2_with (first | ((with_reducible refine gd (N := 2) rfl ?_); refine box_event ?hg (N := 2) ?hd (cs := #[.slice A0_0 l0_0.length c0_0, .int .i64 a0_1, .slice A0_2 l0_2.length c0_2, .slice A0_3 l0_3.length c0_3]) (t := 26) ?hr ?_; (case hd | hg => rfl); (case hr => first | (go_simp; done) | (go_simp; rfl)); intro gb420 hg w13 hbox hb; have BK420 := am hbox; have GW420 := sG HB hg; have GE420 := sG HB hg; replace HB := bS HB hb; clear hb hbox hg; obtain ⟨_, _, _, _, _, _, _, _⟩ := zC4 BK420) | (go_at_call 42; (with_reducible refine (r_Lengths.calls k _ _ l0_0 a0_1 _ _ l0_2 _ _ l0_3 t421 _ ?side1 ?side2 ?side3 ?side4 ?side5 ?side6 A3.out).mono ?_); (case side1 => repeat (first | exact (Kd.C_below HR0_0.out HB.out) | (with_reducible refine Kd.C_alloc ?_ _) | (with_reducible refine Kd.C_drewN ?_ _) | (with_reducible refine Kd.C_drew ?_))); (case side2 => exact HC0_0.out); (case side3 => repeat (first | exact (Kd.C_below HR0_2.out HB.out) | (with_reducible refine Kd.C_alloc ?_ _) | (with_reducible refine Kd.C_drewN ?_ _) | (with_reducible refine Kd.C_drew ?_))); (case side4 => exact HC0_2.out); (case side5 => repeat (first | exact (Kd.C_below HR0_3.out HB.out) | (with_reducible refine Kd.C_alloc ?_ _) | (with_reducible refine Kd.C_drewN ?_ _) | (with_reducible refine Kd.C_drew ?_))); (case side6 => exact HC0_3.out); rintro e w15 ⟨v422, rfl, ho0, hb⟩; have HO423 := am (Kd.R_lower ho0 (wz (fW HB.out))); replace BK420 := bB BK420 hb; replace HB := bS HB hb; (try clear hb); (try clear hb2); (try clear hk); (try clear hi); (try clear ho0)) | ((with_reducible refine gd (N := 14) rfl ?_); refine Kd.R_lit k69 _ 69 ?hg (N := 14) ?hd (xs := ([] : List (S69))) (inner := []) (ok := fun _ => True) (okp := fun _ => True) ?hr ?hp (fun _ hk => hk) trivial (Below.refl _ _) (Nat.le_refl _) (by simp) ?_; (case hd | hg => rfl); (case hr => first | (go_simp; done) | (go_simp; rfl)); (case hp => exact (Reps.none _ _)); intro v425 w16 ho17 hb hg_ hnew_; clear hg_ hnew_; (first | rw [← Ny424.out] at ho17 | (simp only [Int.reduceToNat] at ho17; rw [← Ny424.out] at ho17)); replace HO423 := dR HO423 hb; have HO426 := am (Kd.R_lower ho17 (wz (fW HB.out))); replace BK420 := bB BK420 hb; replace HB := bS HB hb; clear hb ho17; obtain ⟨Ao18, co18, eo18⟩ := Kd.R_slice HO423.out; subst eo18; have p427 : 0 ≤ (a1 : Int) := of_decide_eq_true (by assumption); have q427 : a1 < (t421.length : Int) := of_decide_eq_true (by assumption); obtain ⟨ad427, e427, hx427_0⟩ := Kd.at_int (Kd.R_reads' HO423.out).2.2 a1 p427 q427; cases e427; replace p427 := eq_true p427; replace q427 := eq_true q427))
  repeat (go_quiet (first | ((with_reducible refine gd (N := 2) rfl ?_); refine box_event ?hg (N := 2) ?hd (cs := #[.slice A0_0 l0_0.length c0_0, .int .i64 a0_1, .slice A0_2 l0_2.length c0_2, .slice A0_3 l0_3.length c0_3]) (t := 26) ?hr ?_; (case hd | hg => rfl); (case hr => first | (go_simp; done) | (go_simp; rfl)); intro gb420 hg w13 hbox hb; have BK420 := am hbox; have GW420 := sG HB hg; have GE420 := sG HB hg; replace HB := bS HB hb; clear hb hbox hg; obtain ⟨_, _, _, _, _, _, _, _⟩ := zC4 BK420) | (go_at_call 42; (with_reducible refine (r_Lengths.calls k _ _ l0_0 a0_1 _ _ l0_2 _ _ l0_3 t421 _ ?side1 ?side2 ?side3 ?side4 ?side5 ?side6 A3.out).mono ?_); (case side1 => repeat (first | exact (Kd.C_below HR0_0.out HB.out) | (with_reducible refine Kd.C_alloc ?_ _) | (with_reducible refine Kd.C_drewN ?_ _) | (with_reducible refine Kd.C_drew ?_))); (case side2 => exact HC0_0.out); (case side3 => repeat (first | exact (Kd.C_below HR0_2.out HB.out) | (with_reducible refine Kd.C_alloc ?_ _) | (with_reducible refine Kd.C_drewN ?_ _) | (with_reducible refine Kd.C_drew ?_))); (case side4 => exact HC0_2.out); (case side5 => repeat (first | exact (Kd.C_below HR0_3.out HB.out) | (with_reducible refine Kd.C_alloc ?_ _) | (with_reducible refine Kd.C_drewN ?_ _) | (with_reducible refine Kd.C_drew ?_))); (case side6 => exact HC0_3.out); rintro e w15 ⟨v422, rfl, ho0, hb⟩; have HO423 := am (Kd.R_lower ho0 (wz (fW HB.out))); replace BK420 := bB BK420 hb; replace HB := bS HB hb; (try clear hb); (try clear hb2); (try clear hk); (try clear hi); (try clear ho0)) | ((with_reducible refine gd (N := 14) rfl ?_); refine Kd.R_lit k69 _ 69 ?hg (N := 14) ?hd (xs := ([] : List (S69))) (inner := []) (ok := fun _ => True) (okp := fun _ => True) ?hr ?hp (fun _ hk => hk) trivial (Below.refl _ _) (Nat.le_refl _) (by simp) ?_; (case hd | hg => rfl); (case hr => first | (go_simp; done) | (go_simp; rfl)); (case hp => exact (Reps.none _ _)); intro v425 w16 ho17 hb hg_ hnew_; clear hg_ hnew_; (first | rw [← Ny424.out] at ho17 | (simp only [Int.reduceToNat] at ho17; rw [← Ny424.out] at ho17)); replace HO423 := dR HO423 hb; have HO426 := am (Kd.R_lower ho17 (wz (fW HB.out))); replace BK420 := bB BK420 hb; replace HB := bS HB hb; clear hb ho17; obtain ⟨Ao18, co18, eo18⟩ := Kd.R_slice HO423.out; subst eo18; have p427 : 0 ≤ (a1 : Int) := of_decide_eq_true (by assumption); have q427 : a1 < (t421.length : Int) := of_decide_eq_true (by assumption); obtain ⟨ad427, e427, hx427_0⟩ := Kd.at_int (Kd.R_reads' HO423.out).2.2 a1 p427 q427; cases e427; replace p427 := eq_true p427; replace q427 := eq_true q427)); try go_wp2_with (first | ((with_reducible refine gd (N := 2) rfl ?_); refine box_event ?hg (N := 2) ?hd (cs := #[.slice A0_0 l0_0.length c0_0, .int .i64 a0_1, .slice A0_2 l0_2.length c0_2, .slice A0_3 l0_3.length c0_3]) (t := 26) ?hr ?_; (case hd | hg => rfl); (case hr => first | (go_simp; done) | (go_simp; rfl)); intro gb420 hg w13 hbox hb; have BK420 := am hbox; have GW420 := sG HB hg; have GE420 := sG HB hg; replace HB := bS HB hb; clear hb hbox hg; obtain ⟨_, _, _, _, _, _, _, _⟩ := zC4 BK420) | (go_at_call 42; (with_reducible refine (r_Lengths.calls k _ _ l0_0 a0_1 _ _ l0_2 _ _ l0_3 t421 _ ?side1 ?side2 ?side3 ?side4 ?side5 ?side6 A3.out).mono ?_); (case side1 => repeat (first | exact (Kd.C_below HR0_0.out HB.out) | (with_reducible refine Kd.C_alloc ?_ _) | (with_reducible refine Kd.C_drewN ?_ _) | (with_reducible refine Kd.C_drew ?_))); (case side2 => exact HC0_0.out); (case side3 => repeat (first | exact (Kd.C_below HR0_2.out HB.out) | (with_reducible refine Kd.C_alloc ?_ _) | (with_reducible refine Kd.C_drewN ?_ _) | (with_reducible refine Kd.C_drew ?_))); (case side4 => exact HC0_2.out); (case side5 => repeat (first | exact (Kd.C_below HR0_3.out HB.out) | (with_reducible refine Kd.C_alloc ?_ _) | (with_reducible refine Kd.C_drewN ?_ _) | (with_reducible refine Kd.C_drew ?_))); (case side6 => exact HC0_3.out); rintro e w15 ⟨v422, rfl, ho0, hb⟩; have HO423 := am (Kd.R_lower ho0 (wz (fW HB.out))); replace BK420 := bB BK420 hb; replace HB := bS HB hb; (try clear hb); (try clear hb2); (try clear hk); (try clear hi); (try clear ho0)) | ((with_reducible refine gd (N := 14) rfl ?_); refine Kd.R_lit k69 _ 69 ?hg (N := 14) ?hd (xs := ([] : List (S69))) (inner := []) (ok := fun _ => True) (okp := fun _ => True) ?hr ?hp (fun _ hk => hk) trivial (Below.refl _ _) (Nat.le_refl _) (by simp) ?_; (case hd | hg => rfl); (case hr => first | (go_simp; done) | (go_simp; rfl)); (case hp => exact (Reps.none _ _)); intro v425 w16 ho17 hb hg_ hnew_; clear hg_ hnew_; (first | rw [← Ny424.out] at ho17 | (simp only [Int.reduceToNat] at ho17; rw [← Ny424.out] at ho17)); replace HO423 := dR HO423 hb; have HO426 := am (Kd.R_lower ho17 (wz (fW HB.out))); replace BK420 := bB BK420 hb; replace HB := bS HB hb; clear hb ho17; obtain ⟨Ao18, co18, eo18⟩ := Kd.R_slice HO423.out; subst eo18; have p427 : 0 ≤ (a1 : Int) := of_decide_eq_true (by assumption); have q427 : a1 < (t421.length : Int) := of_decide_eq_true (by assumption); obtain ⟨ad427, e427, hx427_0⟩ := Kd.at_int (Kd.R_reads' HO423.out).2.2 a1 p427 q427; cases e427; replace p427 := eq_true p427; replace q427 := eq_true q427)))
  go_loopg [6, 7] k (fun kq v6 v7 w' => ∃ (x6_1 : List (S69)) (x7_1 : Int), v7 = .int .i64 x7_1 ∧ Aside0 (r_Repair.l0 kq t421 x6_1 x7_1 l0_0 a0_1 l0_2 l0_3 = some r) ∧ Aside0 (kq ≤ k) ∧ Aside0 (Kd.R (Kd.int .i64) 3 w' w.heap.size (fun _ => True) (.slice (some ad427) t421.length co18) t421) ∧ Aside0 (Kd.R k69 69 w' w.heap.size (fun _ => True) v6 x6_1) ∧ Aside0 (w'.heap[gb420]? = some (.cells #[(.slice A0_0 l0_0.length c0_0), .int .i64 a0_1, (.slice A0_2 l0_2.length c0_2), (.slice A0_3 l0_3.length c0_3)] 26 (0, 0))) ∧ Aside0 (Below w.heap.size w w'))
  case atStart => exact ⟨(y424), (a1), sqD, H', ⟨Nat.le_refl _⟩, ⟨fR HO423.out⟩, ⟨fR HO426.out⟩, ⟨fb BK420.out⟩, ⟨fW HB.out⟩⟩
  case round =>
   clear H'
   try clear c1;try clear p2;try clear c4;try clear c4b0;try clear p4;try clear q4;try clear hx4;try clear c5;try clear c5b0;try clear c6;try clear c6b0;try clear c15;try clear hx427_0;try clear p427;try clear q427
   obtain ⟨x6_1, x7_1, rfl, HA, HK1, HO_5, HO_6, BK420, HB⟩ := hrel
   cases gk with
   | zero => exact absurd HA.out (by simp [r_Repair.l0])
   | succ k1 =>
    have H := HA.out
    clear HA
    simp only [r_Repair.l0] at H
    by_cases c19 : x7_1 ≥ 0
    rotate_left
    ·rw [if_neg c19] at H
     have c19b0 : decide (0 ≤ x7_1) = false := decide_eq_false c19
     clear c19
     obtain rfl := Option.some.inj H
     go_wp2
     repeat (go_quiet (fail); try go_wp2)
     go_ret
     exact ⟨_, sqE, fR HO_6.out, fW HB.out⟩
    rw [if_pos c19] at H
    have c19b0 : decide (0 ≤ x7_1) = true := decide_eq_true c19
    clear c19
    have HC20 := am H
    clear H
    go_upto_block 2 with (fail)
    repeat (go_quiet (fail); go_upto_block 2 with (fail))
    go_cut [6, 8] (fun v6 v8 wc => ∃ (kq : Nat) (x6_19 : List (S69)) (x8_19 : Int), v8 = .int .i64 x8_19 ∧ Aside0 (r_Repair.j3 kq t421 x6_19 x8_19 l0_0 a0_1 l0_2 l0_3 = some r) ∧ Aside0 (kq ≤ k1) ∧ Aside0 (Kd.R (Kd.int .i64) 3 wc w.heap.size (fun _ => True) (.slice (some ad427) t421.length co18) t421) ∧ Aside0 (Kd.R k69 69 wc w.heap.size (fun _ => True) v6 x6_19) ∧ Aside0 (wc.heap[gb420]? = some (.cells #[(.slice A0_0 l0_0.length c0_0), .int .i64 a0_1, (.slice A0_2 l0_2.length c0_2), (.slice A0_3 l0_3.length c0_3)] 26 (0, 0))) ∧ Aside0 (Below w.heap.size w wc))
    case first =>
     have H := HC20.out
     clear HC20
     have H' := am H
     clear H
     go_wp2
     repeat (go_quiet (fail); try go_wp2)
     go_loopg [6, 8, 9] k1 (fun kq v6 v8 v9 w' => ∃ (x6_2 : List (S69)) (x8_2 : Int) (x9_2 : Int), v8 = .int .i64 x8_2 ∧ v9 = .int .i64 x9_2 ∧ Aside0 (r_Repair.l1 kq t421 x6_2 x7_1 x8_2 x9_2 l0_0 a0_1 l0_2 l0_3 = some r) ∧ Aside0 (kq ≤ k1) ∧ Aside0 (Kd.R (Kd.int .i64) 3 w' w.heap.size (fun _ => True) (.slice (some ad427) t421.length co18) t421) ∧ Aside0 (Kd.R k69 69 w' w.heap.size (fun _ => True) v6 x6_2) ∧ Aside0 (w'.heap[gb420]? = some (.cells #[(.slice A0_0 l0_0.length c0_0), .int .i64 a0_1, (.slice A0_2 l0_2.length c0_2), (.slice A0_3 l0_3.length c0_3)] 26 (0, 0))) ∧ Aside0 (Below w.heap.size w w'))
     case atStart => exact ⟨(x6_1), ((-1)), (0), sqD, sqD, H', ⟨Nat.le_refl _⟩, ⟨fR HO_5.out⟩, ⟨fR HO_6.out⟩, ⟨fb BK420.out⟩, ⟨fW HB.out⟩⟩
     case round =>
      clear H'
      try clear c1;try clear p2;try clear c4;try clear c4b0;try clear p4;try clear q4;try clear hx4;try clear c5;try clear c5b0;try clear c6;try clear c6b0;try clear c15;try clear c19;try clear c19b0;try clear hx427_0;try clear p2;try clear p4;try clear p427;try clear q4;try clear q427
      obtain ⟨x6_2, x8_2, x9_2, rfl, rfl, HA, HK2, HO_5, HO_6, BK420, HB⟩ := hrel
      cases gk with
      | zero => exact absurd HA.out (by simp [r_Repair.l1])
      | succ k2 =>
       have H := HA.out
       clear HA
       simp only [r_Repair.l1] at H
       by_cases c21 : 0 ≤ x7_1
       rotate_left
       ·rw [if_neg c21] at H
        exact absurd H (by simp)
       rw [if_pos c21] at H
       have c21b0 : decide (0 ≤ x7_1) = true := decide_eq_true c21
       clear c21
       (first | rw [c21b0] | (simp only [i64_w, i32_w]; rw [c21b0]) | skip)
       by_cases c22 : x7_1 < (l0_0.length : Int)
       rotate_left
       ·rw [if_neg c22] at H
        exact absurd H (by simp)
       rw [if_pos c22] at H
       have c22b0 : decide (x7_1 < (l0_0.length : Int)) = true := decide_eq_true c22
       clear c22
       by_cases c23 : x9_2 < ((rd_L1 l0_0 x7_1).length : Int)
       rotate_left
       ·rw [if_neg c23] at H
        have c23b0 : decide (x9_2 < ((rd_L1 l0_0 x7_1).length : Int)) = false := decide_eq_false c23
        clear c23
        have H' := am H
        clear H
        have := yC1 BK420
        have := kC1 BK420
        have := kC2 BK420
        have := kC3 BK420
        have := bf BK420.out 0
        have := bf BK420.out 1
        have := bf BK420.out 2
        have := bf BK420.out 3
        have p428 : 0 ≤ (x7_1 : Int) := of_decide_eq_true (by assumption)
        have q428 : x7_1 < (l0_0.length : Int) := of_decide_eq_true (by assumption)
        obtain ⟨ad428, A428_0, c428_0, e428, hx428_0, hl428_0, hi428_0⟩ := at_L1 HR0_0.out x7_1 p428 q428
        cases e428
        replace hx428_0 := cl HB hx428_0
        have HR428_0 := am hi428_0
        have HC428_0 := am hl428_0
        clear hi428_0 hl428_0
        replace p428 := eq_true p428
        replace q428 := eq_true q428
        go_wp2
        repeat (go_quiet (fail); try go_wp2)
        go_meet
        case rel => exact ⟨_, (x6_2), (x8_2), sqD, H', ⟨by have := HK1.out; have := HK2.out; first | omega | exact Nat.le_refl _⟩, ⟨fR HO_5.out⟩, ⟨fR HO_6.out⟩, ⟨fb BK420.out⟩, ⟨fW HB.out⟩⟩
       rw [if_pos c23] at H
       have c23b0 : decide (x9_2 < ((rd_L1 l0_0 x7_1).length : Int)) = true := decide_eq_true c23
       clear c23
       by_cases c24 : 0 ≤ x9_2
       rotate_left
       ·rw [if_neg c24] at H
        exact absurd H (by simp)
       rw [if_pos c24] at H
       have c24b0 : decide (0 ≤ x9_2) = true := decide_eq_true c24
       clear c24
       replace H := Option.bind_eq_some_iff.mp H
       obtain ⟨t431, A250, H⟩ := H
       replace H : (if x7_1 < (t421.length : Int) then (if (rd t421 x7_1) = 1 then (if t431 < 0 then (r_Repair.j2 k2 t421 x6_2 x7_1 x8_2 x9_2 (rd (rd_L1 l0_0 x7_1) x9_2) t431 true l0_0 a0_1 l0_2 l0_3) else (if (rd t421 x7_1) > 1 then (if t431 ≥ 0 then (if t431 = x7_1 then (r_Repair.j2 k2 t421 x6_2 x7_1 x8_2 x9_2 (rd (rd_L1 l0_0 x7_1) x9_2) t431 false l0_0 a0_1 l0_2 l0_3) else (if 0 ≤ t431 then (if t431 < (l0_3.length : Int) then (if rdOf false l0_3 t431 = true then (r_Repair.j2 k2 t421 x6_2 x7_1 x8_2 x9_2 (rd (rd_L1 l0_0 x7_1) x9_2) t431 false l0_0 a0_1 l0_2 l0_3) else (if t431 < (t421.length : Int) then (r_Repair.j2 k2 t421 x6_2 x7_1 x8_2 x9_2 (rd (rd_L1 l0_0 x7_1) x9_2) t431 ((rd t421 t431) == (wrap64 ((rd t421 x7_1) - 1))) l0_0 a0_1 l0_2 l0_3) else (none))) else (none)) else (none))) else (r_Repair.j2 k2 t421 x6_2 x7_1 x8_2 x9_2 (rd (rd_L1 l0_0 x7_1) x9_2) t431 false l0_0 a0_1 l0_2 l0_3)) else (r_Repair.j2 k2 t421 x6_2 x7_1 x8_2 x9_2 (rd (rd_L1 l0_0 x7_1) x9_2) t431 false l0_0 a0_1 l0_2 l0_3))) else (if (rd t421 x7_1) > 1 then (if t431 ≥ 0 then (if t431 = x7_1 then (r_Repair.j2 k2 t421 x6_2 x7_1 x8_2 x9_2 (rd (rd_L1 l0_0 x7_1) x9_2) t431 false l0_0 a0_1 l0_2 l0_3) else (if 0 ≤ t431 then (if t431 < (l0_3.length : Int) then (if rdOf false l0_3 t431 = true then (r_Repair.j2 k2 t421 x6_2 x7_1 x8_2 x9_2 (rd (rd_L1 l0_0 x7_1) x9_2) t431 false l0_0 a0_1 l0_2 l0_3) else (if t431 < (t421.length : Int) then (r_Repair.j2 k2 t421 x6_2 x7_1 x8_2 x9_2 (rd (rd_L1 l0_0 x7_1) x9_2) t431 ((rd t421 t431) == (wrap64 ((rd t421 x7_1) - 1))) l0_0 a0_1 l0_2 l0_3) else (none))) else (none)) else (none))) else (r_Repair.j2 k2 t421 x6_2 x7_1 x8_2 x9_2 (rd (rd_L1 l0_0 x7_1) x9_2) t431 false l0_0 a0_1 l0_2 l0_3)) else (r_Repair.j2 k2 t421 x6_2 x7_1 x8_2 x9_2 (rd (rd_L1 l0_0 x7_1) x9_2) t431 false l0_0 a0_1 l0_2 l0_3))) else (none)) = some r := H
       have A25 := am A250
       clear A250
       have HC26 := am H
       clear H
       have := yC1 BK420
       have := kC1 BK420
       have := kC2 BK420
       have := kC3 BK420
       have := bf BK420.out 0
       have := bf BK420.out 1
       have := bf BK420.out 2
       have := bf BK420.out 3
       have p428 : 0 ≤ (x7_1 : Int) := of_decide_eq_true (by assumption)
       have q428 : x7_1 < (l0_0.length : Int) := of_decide_eq_true (by assumption)
       obtain ⟨ad428, A428_0, c428_0, e428, hx428_0, hl428_0, hi428_0⟩ := at_L1 HR0_0.out x7_1 p428 q428
       cases e428
       replace hx428_0 := cl HB hx428_0
       have HR428_0 := am hi428_0
       have HC428_0 := am hl428_0
       clear hi428_0 hl428_0
       replace p428 := eq_true p428
       replace q428 := eq_true q428
       have p429 : 0 ≤ (x7_1 : Int) := of_decide_eq_true (by assumption)
       have q429 : x7_1 < (l0_0.length : Int) := of_decide_eq_true (by assumption)
       obtain ⟨ad429, A429_0, c429_0, e429, hx429_0, hl429_0, hi429_0⟩ := at_L1 HR0_0.out x7_1 p429 q429
       obtain rfl : ad428 = ad429 := (by injection e429)
       replace hx429_0 := cl HB hx429_0
       have HR429_0 := am hi429_0
       have HC429_0 := am hl429_0
       clear hi429_0 hl429_0
       replace p429 := eq_true p429
       replace q429 := eq_true q429
       have ea_ := Option.some.inj (hx428_0.symm.trans hx429_0)
       injection ea_ with ea_ en_ ec_
       subst ea_
       subst ec_
       clear en_
       have p430 : 0 ≤ (x9_2 : Int) := of_decide_eq_true (by assumption)
       have q430 : x9_2 < ((rd_L1 l0_0 x7_1).length : Int) := of_decide_eq_true (by assumption)
       obtain ⟨ad430, e430, hx430_0⟩ := Kd.at_int HR429_0.out x9_2 p430 q430
       cases e430
       replace hx430_0 := cl HB hx430_0
       replace p430 := eq_true p430
       replace q430 := eq_true q430
       go_upto_region 13 with (first | (go_at_call 29; (with_reducible refine (r_User.calls k2 _ _ l0_0 a0_1 _ _ l0_2 _ _ l0_3 (rd (rd_L1 l0_0 x7_1) x9_2) t431 _ ?side1 ?side2 ?side3 ?side4 ?side5 ?side6 A25.out).mono ?_); (case side1 => repeat (first | exact (Kd.C_below HR0_0.out HB.out) | (with_reducible refine Kd.C_alloc ?_ _) | (with_reducible refine Kd.C_drewN ?_ _) | (with_reducible refine Kd.C_drew ?_))); (case side2 => exact HC0_0.out); (case side3 => repeat (first | exact (Kd.C_below HR0_2.out HB.out) | (with_reducible refine Kd.C_alloc ?_ _) | (with_reducible refine Kd.C_drewN ?_ _) | (with_reducible refine Kd.C_drew ?_))); (case side4 => exact HC0_2.out); (case side5 => repeat (first | exact (Kd.C_below HR0_3.out HB.out) | (with_reducible refine Kd.C_alloc ?_ _) | (with_reducible refine Kd.C_drewN ?_ _) | (with_reducible refine Kd.C_drew ?_))); (case side6 => exact HC0_3.out); rintro e w28 ⟨rfl, hb⟩; replace HO_5 := dR HO_5 hb; replace HO_6 := dR HO_6 hb; replace BK420 := bB BK420 hb; replace HB := bS HB hb; (try clear hb); (try clear hb2); (try clear hk); (try clear hi)))
       repeat (go_quiet (first | (go_at_call 29; (with_reducible refine (r_User.calls k2 _ _ l0_0 a0_1 _ _ l0_2 _ _ l0_3 (rd (rd_L1 l0_0 x7_1) x9_2) t431 _ ?side1 ?side2 ?side3 ?side4 ?side5 ?side6 A25.out).mono ?_); (case side1 => repeat (first | exact (Kd.C_below HR0_0.out HB.out) | (with_reducible refine Kd.C_alloc ?_ _) | (with_reducible refine Kd.C_drewN ?_ _) | (with_reducible refine Kd.C_drew ?_))); (case side2 => exact HC0_0.out); (case side3 => repeat (first | exact (Kd.C_below HR0_2.out HB.out) | (with_reducible refine Kd.C_alloc ?_ _) | (with_reducible refine Kd.C_drewN ?_ _) | (with_reducible refine Kd.C_drew ?_))); (case side4 => exact HC0_2.out); (case side5 => repeat (first | exact (Kd.C_below HR0_3.out HB.out) | (with_reducible refine Kd.C_alloc ?_ _) | (with_reducible refine Kd.C_drewN ?_ _) | (with_reducible refine Kd.C_drew ?_))); (case side6 => exact HC0_3.out); rintro e w28 ⟨rfl, hb⟩; replace HO_5 := dR HO_5 hb; replace HO_6 := dR HO_6 hb; replace BK420 := bB BK420 hb; replace HB := bS HB hb; (try clear hb); (try clear hb2); (try clear hk); (try clear hi))); go_upto_region 13 with (first | (go_at_call 29; (with_reducible refine (r_User.calls k2 _ _ l0_0 a0_1 _ _ l0_2 _ _ l0_3 (rd (rd_L1 l0_0 x7_1) x9_2) t431 _ ?side1 ?side2 ?side3 ?side4 ?side5 ?side6 A25.out).mono ?_); (case side1 => repeat (first | exact (Kd.C_below HR0_0.out HB.out) | (with_reducible refine Kd.C_alloc ?_ _) | (with_reducible refine Kd.C_drewN ?_ _) | (with_reducible refine Kd.C_drew ?_))); (case side2 => exact HC0_0.out); (case side3 => repeat (first | exact (Kd.C_below HR0_2.out HB.out) | (with_reducible refine Kd.C_alloc ?_ _) | (with_reducible refine Kd.C_drewN ?_ _) | (with_reducible refine Kd.C_drew ?_))); (case side4 => exact HC0_2.out); (case side5 => repeat (first | exact (Kd.C_below HR0_3.out HB.out) | (with_reducible refine Kd.C_alloc ?_ _) | (with_reducible refine Kd.C_drewN ?_ _) | (with_reducible refine Kd.C_drew ?_))); (case side6 => exact HC0_3.out); rintro e w28 ⟨rfl, hb⟩; replace HO_5 := dR HO_5 hb; replace HO_6 := dR HO_6 hb; replace BK420 := bB BK420 hb; replace HB := bS HB hb; (try clear hb); (try clear hb2); (try clear hk); (try clear hi))))
       (try simp only [Act.put, psl])
       go_cut [89] (fun v89 wc => ∃ (kq : Nat) (x89_25 : Bool), v89 = .bool x89_25 ∧ Aside0 (r_Repair.j2 kq t421 x6_2 x7_1 x8_2 x9_2 (rd (rd_L1 l0_0 x7_1) x9_2) t431 x89_25 l0_0 a0_1 l0_2 l0_3 = some r) ∧ Aside0 (kq ≤ k2) ∧ Aside0 (Kd.R (Kd.int .i64) 3 wc w.heap.size (fun _ => True) (.slice (some ad427) t421.length co18) t421) ∧ Aside0 (Kd.R k69 69 wc w.heap.size (fun _ => True) u6 x6_2) ∧ Aside0 (wc.heap[gb420]? = some (.cells #[(.slice (some ad428) l0_0.length c0_0), .int .i64 a0_1, (.slice A0_2 l0_2.length c0_2), (.slice A0_3 l0_3.length c0_3)] 26 (0, 0))) ∧ Aside0 (Below w.heap.size w wc))
       case first =>
        have H := HC26.out
        clear HC26
        by_cases c29 : x7_1 < (t421.length : Int)
        rotate_left
        ·rw [if_neg c29] at H
         exact absurd H (by simp)
        rw [if_pos c29] at H
        have c29b0 : decide (x7_1 < (t421.length : Int)) = true := decide_eq_true c29
        clear c29
        (first | rw [c29b0] | (simp only [i64_w, i32_w]; rw [c29b0]) | skip)
        by_cases c30 : (rd t421 x7_1) = 1
        rotate_left
        ·rw [if_neg c30] at H
         have c30b0 : ((rd t421 x7_1) == 1) = false := beq_eq_false_iff_ne.mpr c30
         have c30b1 : ((rd t421 x7_1) != 1) = true := bne_iff_ne.mpr c30
         by_cases c42 : (rd t421 x7_1) > 1
         rotate_left
         ·rw [if_neg c42] at H
          have c42b0 : decide (1 < (rd t421 x7_1)) = false := decide_eq_false c42
          clear c42
          have H' := am H
          clear H
          have p432 : 0 ≤ (x7_1 : Int) := of_decide_eq_true (by assumption)
          have q432 : x7_1 < (t421.length : Int) := of_decide_eq_true (by assumption)
          obtain ⟨ad432, e432, hx432_0⟩ := Kd.at_int (Kd.R_reads' HO_5.out).2.2 x7_1 p432 q432
          obtain rfl : ad427 = ad432 := (by injection e432)
          replace p432 := eq_true p432
          replace q432 := eq_true q432
          have p437 : 0 ≤ (x7_1 : Int) := of_decide_eq_true (by assumption)
          have q437 : x7_1 < (t421.length : Int) := of_decide_eq_true (by assumption)
          obtain ⟨ad437, e437, hx437_0⟩ := Kd.at_int (Kd.R_reads' HO_5.out).2.2 x7_1 p437 q437
          obtain rfl : ad427 = ad437 := (by injection e437)
          replace p437 := eq_true p437
          replace q437 := eq_true q437
          go_wp2
          repeat (go_quiet (fail); try go_wp2)
          go_meet
          case rel => exact ⟨_, (false), sqD, H', ⟨by have := HK1.out; have := HK2.out; first | omega | exact Nat.le_refl _⟩, ⟨fR HO_5.out⟩, ⟨fR HO_6.out⟩, ⟨fb BK420.out⟩, ⟨fW HB.out⟩⟩
         rw [if_pos c42] at H
         have c42b0 : decide (1 < (rd t421 x7_1)) = true := decide_eq_true c42
         clear c42
         by_cases c43 : t431 ≥ 0
         rotate_left
         ·rw [if_neg c43] at H
          have c43b0 : decide (0 ≤ t431) = false := decide_eq_false c43
          clear c43
          have H' := am H
          clear H
          have p432 : 0 ≤ (x7_1 : Int) := of_decide_eq_true (by assumption)
          have q432 : x7_1 < (t421.length : Int) := of_decide_eq_true (by assumption)
          obtain ⟨ad432, e432, hx432_0⟩ := Kd.at_int (Kd.R_reads' HO_5.out).2.2 x7_1 p432 q432
          obtain rfl : ad427 = ad432 := (by injection e432)
          replace p432 := eq_true p432
          replace q432 := eq_true q432
          have p437 : 0 ≤ (x7_1 : Int) := of_decide_eq_true (by assumption)
          have q437 : x7_1 < (t421.length : Int) := of_decide_eq_true (by assumption)
          obtain ⟨ad437, e437, hx437_0⟩ := Kd.at_int (Kd.R_reads' HO_5.out).2.2 x7_1 p437 q437
          obtain rfl : ad427 = ad437 := (by injection e437)
          replace p437 := eq_true p437
          replace q437 := eq_true q437
          go_wp2
          repeat (go_quiet (fail); try go_wp2)
          go_meet
          case rel => exact ⟨_, (false), sqD, H', ⟨by have := HK1.out; have := HK2.out; first | omega | exact Nat.le_refl _⟩, ⟨fR HO_5.out⟩, ⟨fR HO_6.out⟩, ⟨fb BK420.out⟩, ⟨fW HB.out⟩⟩
         rw [if_pos c43] at H
         have c43b0 : decide (0 ≤ t431) = true := decide_eq_true c43
         clear c43
         by_cases c44 : t431 = x7_1
         ·rw [if_pos c44] at H
          have c44b0 : (t431 == x7_1) = true := beq_iff_eq.mpr c44
          have c44b1 : (t431 != x7_1) = false := bne_eq_false_iff_eq.mpr c44
          clear c44
          have H' := am H
          clear H
          have p432 : 0 ≤ (x7_1 : Int) := of_decide_eq_true (by assumption)
          have q432 : x7_1 < (t421.length : Int) := of_decide_eq_true (by assumption)
          obtain ⟨ad432, e432, hx432_0⟩ := Kd.at_int (Kd.R_reads' HO_5.out).2.2 x7_1 p432 q432
          obtain rfl : ad427 = ad432 := (by injection e432)
          replace p432 := eq_true p432
          replace q432 := eq_true q432
          have p437 : 0 ≤ (x7_1 : Int) := of_decide_eq_true (by assumption)
          have q437 : x7_1 < (t421.length : Int) := of_decide_eq_true (by assumption)
          obtain ⟨ad437, e437, hx437_0⟩ := Kd.at_int (Kd.R_reads' HO_5.out).2.2 x7_1 p437 q437
          obtain rfl : ad427 = ad437 := (by injection e437)
          replace p437 := eq_true p437
          replace q437 := eq_true q437
          go_wp2
          repeat (go_quiet (fail); try go_wp2)
          go_meet
          case rel => exact ⟨_, (false), sqD, H', ⟨by have := HK1.out; have := HK2.out; first | omega | exact Nat.le_refl _⟩, ⟨fR HO_5.out⟩, ⟨fR HO_6.out⟩, ⟨fb BK420.out⟩, ⟨fW HB.out⟩⟩
         rw [if_neg c44] at H
         have c44b0 : (t431 == x7_1) = false := beq_eq_false_iff_ne.mpr c44
         have c44b1 : (t431 != x7_1) = true := bne_iff_ne.mpr c44
         by_cases c45 : 0 ≤ t431
         rotate_left
         ·rw [if_neg c45] at H
          exact absurd H (by simp)
         rw [if_pos c45] at H
         have c45b0 : decide (0 ≤ t431) = true := decide_eq_true c45
         clear c45
         by_cases c46 : t431 < (l0_3.length : Int)
         rotate_left
         ·rw [if_neg c46] at H
          exact absurd H (by simp)
         rw [if_pos c46] at H
         have c46b0 : decide (t431 < (l0_3.length : Int)) = true := decide_eq_true c46
         clear c46
         obtain ⟨bq47, hbq47⟩ : ∃ b_ : Bool, b_ = (rdOf false l0_3 t431) := ⟨_, rfl⟩
         replace H : (if bq47 = true then (r_Repair.j2 k2 t421 x6_2 x7_1 x8_2 x9_2 (rd (rd_L1 l0_0 x7_1) x9_2) t431 false l0_0 a0_1 l0_2 l0_3) else (if t431 < (t421.length : Int) then (r_Repair.j2 k2 t421 x6_2 x7_1 x8_2 x9_2 (rd (rd_L1 l0_0 x7_1) x9_2) t431 ((rd t421 t431) == (wrap64 ((rd t421 x7_1) - 1))) l0_0 a0_1 l0_2 l0_3) else (none))) = some r := by rw [← hbq47] at H; exact H
         have Nbq47 := am hbq47
         clear hbq47
         by_cases c48 : bq47 = true
         ·subst c48
          have H1 : (r_Repair.j2 k2 t421 x6_2 x7_1 x8_2 x9_2 (rd (rd_L1 l0_0 x7_1) x9_2) t431 false l0_0 a0_1 l0_2 l0_3) = some r := by rw [if_pos rfl] at H; exact H
          clear H
          have H := H1
          clear H1
          have H' := am H
          clear H
          have p432 : 0 ≤ (x7_1 : Int) := of_decide_eq_true (by assumption)
          have q432 : x7_1 < (t421.length : Int) := of_decide_eq_true (by assumption)
          obtain ⟨ad432, e432, hx432_0⟩ := Kd.at_int (Kd.R_reads' HO_5.out).2.2 x7_1 p432 q432
          obtain rfl : ad427 = ad432 := (by injection e432)
          replace p432 := eq_true p432
          replace q432 := eq_true q432
          have p437 : 0 ≤ (x7_1 : Int) := of_decide_eq_true (by assumption)
          have q437 : x7_1 < (t421.length : Int) := of_decide_eq_true (by assumption)
          obtain ⟨ad437, e437, hx437_0⟩ := Kd.at_int (Kd.R_reads' HO_5.out).2.2 x7_1 p437 q437
          obtain rfl : ad427 = ad437 := (by injection e437)
          replace p437 := eq_true p437
          replace q437 := eq_true q437
          have := yC1 BK420
          have := kC1 BK420
          have := kC2 BK420
          have := kC3 BK420
          have := bf BK420.out 0
          have := bf BK420.out 1
          have := bf BK420.out 2
          have := bf BK420.out 3
          have p438 : 0 ≤ (t431 : Int) := of_decide_eq_true (by assumption)
          have q438 : t431 < (l0_3.length : Int) := of_decide_eq_true (by assumption)
          obtain ⟨ad438, e438, hx438_0⟩ := Kd.at_bool HR0_3.out t431 p438 q438
          (try rw [← Nbq47.out] at hx438_0)
          cases e438
          replace hx438_0 := cl HB hx438_0
          replace p438 := eq_true p438
          replace q438 := eq_true q438
          go_wp2
          repeat (go_quiet (fail); try go_wp2)
          go_meet
          case rel => exact ⟨_, (false), sqD, H', ⟨by have := HK1.out; have := HK2.out; first | omega | exact Nat.le_refl _⟩, ⟨fR HO_5.out⟩, ⟨fR HO_6.out⟩, ⟨fb BK420.out⟩, ⟨fW HB.out⟩⟩
         replace c48 := Bool.eq_false_iff.mpr c48
         subst c48
         have H1 : (if t431 < (t421.length : Int) then (r_Repair.j2 k2 t421 x6_2 x7_1 x8_2 x9_2 (rd (rd_L1 l0_0 x7_1) x9_2) t431 ((rd t421 t431) == (wrap64 ((rd t421 x7_1) - 1))) l0_0 a0_1 l0_2 l0_3) else (none)) = some r := by rw [if_neg (show ¬ (false = true) by decide)] at H; exact H
         clear H
         have H := H1
         clear H1
         by_cases c50 : t431 < (t421.length : Int)
         rotate_left
         ·rw [if_neg c50] at H
          exact absurd H (by simp)
         rw [if_pos c50] at H
         have c50b0 : decide (t431 < (t421.length : Int)) = true := decide_eq_true c50
         clear c50
         have H' := am H
         clear H
         have p432 : 0 ≤ (x7_1 : Int) := of_decide_eq_true (by assumption)
         have q432 : x7_1 < (t421.length : Int) := of_decide_eq_true (by assumption)
         obtain ⟨ad432, e432, hx432_0⟩ := Kd.at_int (Kd.R_reads' HO_5.out).2.2 x7_1 p432 q432
         obtain rfl : ad427 = ad432 := (by injection e432)
         replace p432 := eq_true p432
         replace q432 := eq_true q432
         have p437 : 0 ≤ (x7_1 : Int) := of_decide_eq_true (by assumption)
         have q437 : x7_1 < (t421.length : Int) := of_decide_eq_true (by assumption)
         obtain ⟨ad437, e437, hx437_0⟩ := Kd.at_int (Kd.R_reads' HO_5.out).2.2 x7_1 p437 q437
         obtain rfl : ad427 = ad437 := (by injection e437)
         replace p437 := eq_true p437
         replace q437 := eq_true q437
         have := yC1 BK420
         have := kC1 BK420
         have := kC2 BK420
         have := kC3 BK420
         have := bf BK420.out 0
         have := bf BK420.out 1
         have := bf BK420.out 2
         have := bf BK420.out 3
         have p438 : 0 ≤ (t431 : Int) := of_decide_eq_true (by assumption)
         have q438 : t431 < (l0_3.length : Int) := of_decide_eq_true (by assumption)
         obtain ⟨ad438, e438, hx438_0⟩ := Kd.at_bool HR0_3.out t431 p438 q438
         (try rw [← Nbq47.out] at hx438_0)
         cases e438
         replace hx438_0 := cl HB hx438_0
         replace p438 := eq_true p438
         replace q438 := eq_true q438
         have p439 : 0 ≤ (t431 : Int) := of_decide_eq_true (by assumption)
         have q439 : t431 < (t421.length : Int) := of_decide_eq_true (by assumption)
         obtain ⟨ad439, e439, hx439_0⟩ := Kd.at_int (Kd.R_reads' HO_5.out).2.2 t431 p439 q439
         obtain rfl : ad427 = ad439 := (by injection e439)
         replace p439 := eq_true p439
         replace q439 := eq_true q439
         have p440 : 0 ≤ (x7_1 : Int) := of_decide_eq_true (by assumption)
         have q440 : x7_1 < (t421.length : Int) := of_decide_eq_true (by assumption)
         obtain ⟨ad440, e440, hx440_0⟩ := Kd.at_int (Kd.R_reads' HO_5.out).2.2 x7_1 p440 q440
         obtain rfl : ad427 = ad440 := (by injection e440)
         replace p440 := eq_true p440
         replace q440 := eq_true q440
         go_wp2
         repeat (go_quiet (fail); try go_wp2)
         go_meet
         case rel => exact ⟨_, (((rd t421 t431) == (wrap64 ((rd t421 x7_1) - 1)))), sqD, H', ⟨by have := HK1.out; have := HK2.out; first | omega | exact Nat.le_refl _⟩, ⟨fR HO_5.out⟩, ⟨fR HO_6.out⟩, ⟨fb BK420.out⟩, ⟨fW HB.out⟩⟩
        rw [if_pos c30] at H
        have c30b0 : ((rd t421 x7_1) == 1) = true := beq_iff_eq.mpr c30
        have c30b1 : ((rd t421 x7_1) != 1) = false := bne_eq_false_iff_eq.mpr c30
        clear c30
        by_cases c31 : t431 < 0
        ·rw [if_pos c31] at H
         have c31b0 : decide (t431 < 0) = true := decide_eq_true c31
         clear c31
         have H' := am H
         clear H
         have p432 : 0 ≤ (x7_1 : Int) := of_decide_eq_true (by assumption)
         have q432 : x7_1 < (t421.length : Int) := of_decide_eq_true (by assumption)
         obtain ⟨ad432, e432, hx432_0⟩ := Kd.at_int (Kd.R_reads' HO_5.out).2.2 x7_1 p432 q432
         obtain rfl : ad427 = ad432 := (by injection e432)
         replace p432 := eq_true p432
         replace q432 := eq_true q432
         go_wp2
         repeat (go_quiet (fail); try go_wp2)
         go_meet
         case rel => exact ⟨_, (true), sqD, H', ⟨by have := HK1.out; have := HK2.out; first | omega | exact Nat.le_refl _⟩, ⟨fR HO_5.out⟩, ⟨fR HO_6.out⟩, ⟨fb BK420.out⟩, ⟨fW HB.out⟩⟩
        rw [if_neg c31] at H
        have c31b0 : decide (t431 < 0) = false := decide_eq_false c31
        clear c31
        by_cases c32 : (rd t421 x7_1) > 1
        rotate_left
        ·rw [if_neg c32] at H
         have c32b0 : decide (1 < (rd t421 x7_1)) = false := decide_eq_false c32
         clear c32
         have H' := am H
         clear H
         have p432 : 0 ≤ (x7_1 : Int) := of_decide_eq_true (by assumption)
         have q432 : x7_1 < (t421.length : Int) := of_decide_eq_true (by assumption)
         obtain ⟨ad432, e432, hx432_0⟩ := Kd.at_int (Kd.R_reads' HO_5.out).2.2 x7_1 p432 q432
         obtain rfl : ad427 = ad432 := (by injection e432)
         replace p432 := eq_true p432
         replace q432 := eq_true q432
         have p433 : 0 ≤ (x7_1 : Int) := of_decide_eq_true (by assumption)
         have q433 : x7_1 < (t421.length : Int) := of_decide_eq_true (by assumption)
         obtain ⟨ad433, e433, hx433_0⟩ := Kd.at_int (Kd.R_reads' HO_5.out).2.2 x7_1 p433 q433
         obtain rfl : ad427 = ad433 := (by injection e433)
         replace p433 := eq_true p433
         replace q433 := eq_true q433
         go_wp2
         repeat (go_quiet (fail); try go_wp2)
         go_meet
         case rel => exact ⟨_, (false), sqD, H', ⟨by have := HK1.out; have := HK2.out; first | omega | exact Nat.le_refl _⟩, ⟨fR HO_5.out⟩, ⟨fR HO_6.out⟩, ⟨fb BK420.out⟩, ⟨fW HB.out⟩⟩
        rw [if_pos c32] at H
        have c32b0 : decide (1 < (rd t421 x7_1)) = true := decide_eq_true c32
        clear c32
        by_cases c33 : t431 ≥ 0
        rotate_left
        ·rw [if_neg c33] at H
         have c33b0 : decide (0 ≤ t431) = false := decide_eq_false c33
         clear c33
         have H' := am H
         clear H
         have p432 : 0 ≤ (x7_1 : Int) := of_decide_eq_true (by assumption)
         have q432 : x7_1 < (t421.length : Int) := of_decide_eq_true (by assumption)
         obtain ⟨ad432, e432, hx432_0⟩ := Kd.at_int (Kd.R_reads' HO_5.out).2.2 x7_1 p432 q432
         obtain rfl : ad427 = ad432 := (by injection e432)
         replace p432 := eq_true p432
         replace q432 := eq_true q432
         have p433 : 0 ≤ (x7_1 : Int) := of_decide_eq_true (by assumption)
         have q433 : x7_1 < (t421.length : Int) := of_decide_eq_true (by assumption)
         obtain ⟨ad433, e433, hx433_0⟩ := Kd.at_int (Kd.R_reads' HO_5.out).2.2 x7_1 p433 q433
         obtain rfl : ad427 = ad433 := (by injection e433)
         replace p433 := eq_true p433
         replace q433 := eq_true q433
         go_wp2
         repeat (go_quiet (fail); try go_wp2)
         go_meet
         case rel => exact ⟨_, (false), sqD, H', ⟨by have := HK1.out; have := HK2.out; first | omega | exact Nat.le_refl _⟩, ⟨fR HO_5.out⟩, ⟨fR HO_6.out⟩, ⟨fb BK420.out⟩, ⟨fW HB.out⟩⟩
        rw [if_pos c33] at H
        have c33b0 : decide (0 ≤ t431) = true := decide_eq_true c33
        clear c33
        by_cases c34 : t431 = x7_1
        ·rw [if_pos c34] at H
         have c34b0 : (t431 == x7_1) = true := beq_iff_eq.mpr c34
         have c34b1 : (t431 != x7_1) = false := bne_eq_false_iff_eq.mpr c34
         clear c34
         have H' := am H
         clear H
         have p432 : 0 ≤ (x7_1 : Int) := of_decide_eq_true (by assumption)
         have q432 : x7_1 < (t421.length : Int) := of_decide_eq_true (by assumption)
         obtain ⟨ad432, e432, hx432_0⟩ := Kd.at_int (Kd.R_reads' HO_5.out).2.2 x7_1 p432 q432
         obtain rfl : ad427 = ad432 := (by injection e432)
         replace p432 := eq_true p432
         replace q432 := eq_true q432
         have p433 : 0 ≤ (x7_1 : Int) := of_decide_eq_true (by assumption)
         have q433 : x7_1 < (t421.length : Int) := of_decide_eq_true (by assumption)
         obtain ⟨ad433, e433, hx433_0⟩ := Kd.at_int (Kd.R_reads' HO_5.out).2.2 x7_1 p433 q433
         obtain rfl : ad427 = ad433 := (by injection e433)
         replace p433 := eq_true p433
         replace q433 := eq_true q433
         go_wp2
         repeat (go_quiet (fail); try go_wp2)
         go_meet
         case rel => exact ⟨_, (false), sqD, H', ⟨by have := HK1.out; have := HK2.out; first | omega | exact Nat.le_refl _⟩, ⟨fR HO_5.out⟩, ⟨fR HO_6.out⟩, ⟨fb BK420.out⟩, ⟨fW HB.out⟩⟩
        rw [if_neg c34] at H
        have c34b0 : (t431 == x7_1) = false := beq_eq_false_iff_ne.mpr c34
        have c34b1 : (t431 != x7_1) = true := bne_iff_ne.mpr c34
        by_cases c35 : 0 ≤ t431
        rotate_left
        ·rw [if_neg c35] at H
         exact absurd H (by simp)
        rw [if_pos c35] at H
        have c35b0 : decide (0 ≤ t431) = true := decide_eq_true c35
        clear c35
        by_cases c36 : t431 < (l0_3.length : Int)
        rotate_left
        ·rw [if_neg c36] at H
         exact absurd H (by simp)
        rw [if_pos c36] at H
        have c36b0 : decide (t431 < (l0_3.length : Int)) = true := decide_eq_true c36
        clear c36
        obtain ⟨bq37, hbq37⟩ : ∃ b_ : Bool, b_ = (rdOf false l0_3 t431) := ⟨_, rfl⟩
        replace H : (if bq37 = true then (r_Repair.j2 k2 t421 x6_2 x7_1 x8_2 x9_2 (rd (rd_L1 l0_0 x7_1) x9_2) t431 false l0_0 a0_1 l0_2 l0_3) else (if t431 < (t421.length : Int) then (r_Repair.j2 k2 t421 x6_2 x7_1 x8_2 x9_2 (rd (rd_L1 l0_0 x7_1) x9_2) t431 ((rd t421 t431) == (wrap64 ((rd t421 x7_1) - 1))) l0_0 a0_1 l0_2 l0_3) else (none))) = some r := by rw [← hbq37] at H; exact H
        have Nbq37 := am hbq37
        clear hbq37
        by_cases c38 : bq37 = true
        ·subst c38
         have H1 : (r_Repair.j2 k2 t421 x6_2 x7_1 x8_2 x9_2 (rd (rd_L1 l0_0 x7_1) x9_2) t431 false l0_0 a0_1 l0_2 l0_3) = some r := by rw [if_pos rfl] at H; exact H
         clear H
         have H := H1
         clear H1
         have H' := am H
         clear H
         have p432 : 0 ≤ (x7_1 : Int) := of_decide_eq_true (by assumption)
         have q432 : x7_1 < (t421.length : Int) := of_decide_eq_true (by assumption)
         obtain ⟨ad432, e432, hx432_0⟩ := Kd.at_int (Kd.R_reads' HO_5.out).2.2 x7_1 p432 q432
         obtain rfl : ad427 = ad432 := (by injection e432)
         replace p432 := eq_true p432
         replace q432 := eq_true q432
         have p433 : 0 ≤ (x7_1 : Int) := of_decide_eq_true (by assumption)
         have q433 : x7_1 < (t421.length : Int) := of_decide_eq_true (by assumption)
         obtain ⟨ad433, e433, hx433_0⟩ := Kd.at_int (Kd.R_reads' HO_5.out).2.2 x7_1 p433 q433
         obtain rfl : ad427 = ad433 := (by injection e433)
         replace p433 := eq_true p433
         replace q433 := eq_true q433
         have := yC1 BK420
         have := kC1 BK420
         have := kC2 BK420
         have := kC3 BK420
         have := bf BK420.out 0
         have := bf BK420.out 1
         have := bf BK420.out 2
         have := bf BK420.out 3
         have p434 : 0 ≤ (t431 : Int) := of_decide_eq_true (by assumption)
         have q434 : t431 < (l0_3.length : Int) := of_decide_eq_true (by assumption)
         obtain ⟨ad434, e434, hx434_0⟩ := Kd.at_bool HR0_3.out t431 p434 q434
         (try rw [← Nbq37.out] at hx434_0)
         cases e434
         replace hx434_0 := cl HB hx434_0
         replace p434 := eq_true p434
         replace q434 := eq_true q434
         go_wp2
         repeat (go_quiet (fail); try go_wp2)
         go_meet
         case rel => exact ⟨_, (false), sqD, H', ⟨by have := HK1.out; have := HK2.out; first | omega | exact Nat.le_refl _⟩, ⟨fR HO_5.out⟩, ⟨fR HO_6.out⟩, ⟨fb BK420.out⟩, ⟨fW HB.out⟩⟩
        replace c38 := Bool.eq_false_iff.mpr c38
        subst c38
        have H1 : (if t431 < (t421.length : Int) then (r_Repair.j2 k2 t421 x6_2 x7_1 x8_2 x9_2 (rd (rd_L1 l0_0 x7_1) x9_2) t431 ((rd t421 t431) == (wrap64 ((rd t421 x7_1) - 1))) l0_0 a0_1 l0_2 l0_3) else (none)) = some r := by rw [if_neg (show ¬ (false = true) by decide)] at H; exact H
        clear H
        have H := H1
        clear H1
        by_cases c40 : t431 < (t421.length : Int)
        rotate_left
        ·rw [if_neg c40] at H
         exact absurd H (by simp)
        rw [if_pos c40] at H
        have c40b0 : decide (t431 < (t421.length : Int)) = true := decide_eq_true c40
        clear c40
        have H' := am H
        clear H
        have p432 : 0 ≤ (x7_1 : Int) := of_decide_eq_true (by assumption)
        have q432 : x7_1 < (t421.length : Int) := of_decide_eq_true (by assumption)
        obtain ⟨ad432, e432, hx432_0⟩ := Kd.at_int (Kd.R_reads' HO_5.out).2.2 x7_1 p432 q432
        obtain rfl : ad427 = ad432 := (by injection e432)
        replace p432 := eq_true p432
        replace q432 := eq_true q432
        have p433 : 0 ≤ (x7_1 : Int) := of_decide_eq_true (by assumption)
        have q433 : x7_1 < (t421.length : Int) := of_decide_eq_true (by assumption)
        obtain ⟨ad433, e433, hx433_0⟩ := Kd.at_int (Kd.R_reads' HO_5.out).2.2 x7_1 p433 q433
        obtain rfl : ad427 = ad433 := (by injection e433)
        replace p433 := eq_true p433
        replace q433 := eq_true q433
        have := yC1 BK420
        have := kC1 BK420
        have := kC2 BK420
        have := kC3 BK420
        have := bf BK420.out 0
        have := bf BK420.out 1
        have := bf BK420.out 2
        have := bf BK420.out 3
        have p434 : 0 ≤ (t431 : Int) := of_decide_eq_true (by assumption)
        have q434 : t431 < (l0_3.length : Int) := of_decide_eq_true (by assumption)
        obtain ⟨ad434, e434, hx434_0⟩ := Kd.at_bool HR0_3.out t431 p434 q434
        (try rw [← Nbq37.out] at hx434_0)
        cases e434
        replace hx434_0 := cl HB hx434_0
        replace p434 := eq_true p434
        replace q434 := eq_true q434
        have p435 : 0 ≤ (t431 : Int) := of_decide_eq_true (by assumption)
        have q435 : t431 < (t421.length : Int) := of_decide_eq_true (by assumption)
        obtain ⟨ad435, e435, hx435_0⟩ := Kd.at_int (Kd.R_reads' HO_5.out).2.2 t431 p435 q435
        obtain rfl : ad427 = ad435 := (by injection e435)
        replace p435 := eq_true p435
        replace q435 := eq_true q435
        have p436 : 0 ≤ (x7_1 : Int) := of_decide_eq_true (by assumption)
        have q436 : x7_1 < (t421.length : Int) := of_decide_eq_true (by assumption)
        obtain ⟨ad436, e436, hx436_0⟩ := Kd.at_int (Kd.R_reads' HO_5.out).2.2 x7_1 p436 q436
        obtain rfl : ad427 = ad436 := (by injection e436)
        replace p436 := eq_true p436
        replace q436 := eq_true q436
        go_wp2
        repeat (go_quiet (fail); try go_wp2)
        go_meet
        case rel => exact ⟨_, (((rd t421 t431) == (wrap64 ((rd t421 x7_1) - 1)))), sqD, H', ⟨by have := HK1.out; have := HK2.out; first | omega | exact Nat.le_refl _⟩, ⟨fR HO_5.out⟩, ⟨fR HO_6.out⟩, ⟨fb BK420.out⟩, ⟨fW HB.out⟩⟩
       case rest =>
        clear HC26
        try clear c1;try clear c2;try clear p2;try clear c3;try clear q3;try clear c4;try clear c4b0;try clear p4;try clear q4;try clear hx4;try clear c5;try clear c5b0;try clear c6;try clear c6b0;try clear p6;try clear c15;try clear c19;try clear c19b0;try clear c21;try clear c21b0;try clear c22;try clear c22b0;try clear c23;try clear c23b0;try clear c24;try clear c24b0;try clear c29;try clear c29b0;try clear c30;try clear c30b0;try clear c30b1;try clear c31;try clear c31b0;try clear c32;try clear c32b0;try clear c33;try clear c33b0;try clear c34;try clear c34b0;try clear c34b1;try clear c35;try clear c35b0;try clear c36;try clear c36b0;try clear q37;try clear c38;try clear c40;try clear c40b0;try clear c42;try clear c42b0;try clear p42;try clear q42;try clear hx42;try clear c43;try clear c43b0;try clear p43;try clear q43;try clear hx43;try clear c44;try clear c44b0;try clear c44b1;try clear p44;try clear q44;try clear hx44;try clear c45;try clear c45b0;try clear c46;try clear c46b0;try clear q47;try clear c48;try clear c50;try clear c50b0;try clear hx427_0;try clear hx428_0;try clear hx429_0;try clear hx430_0;try clear hx432_0;try clear hx433_0;try clear hx434_0;try clear hx435_0;try clear hx436_0;try clear hx437_0;try clear hx438_0;try clear hx439_0;try clear hx440_0;try clear p2;try clear p4;try clear p427;try clear p428;try clear p429;try clear p430;try clear p432;try clear p433;try clear p434;try clear p435;try clear p436;try clear p437;try clear p438;try clear p439;try clear p440;try clear q4;try clear q427;try clear q428;try clear q429;try clear q430;try clear q432;try clear q433;try clear q434;try clear q435;try clear q436;try clear q437;try clear q438;try clear q439;try clear q440
        obtain ⟨kq, x89_25, rfl, HA, HJ25, HO_5, HO_6, BK420, HB⟩ := hcut
        cases kq with
        | zero => exact absurd HA.out (by simp [r_Repair.j2])
        | succ kj25 =>
         have H := HA.out
         clear HA
         simp only [r_Repair.j2] at H
         by_cases c52 : x89_25 = true
         rotate_left
         ·replace c52 := Bool.eq_false_iff.mpr c52
          subst c52
          have H1 : (r_Repair.l1 kj25 t421 x6_2 x7_1 x8_2 (wrap64 (x9_2 + 1)) l0_0 a0_1 l0_2 l0_3) = some r := by rw [if_neg (show ¬ (false = true) by decide)] at H; exact H
          clear H
          have H := H1
          clear H1
          have H' := am H
          clear H
          go_wp2
          repeat (go_quiet (fail); try go_wp2)
          go_roundg kj25
          case measure => have := HK1.out; have := HK2.out; have := HJ25.out; omega
          case rel => exact ⟨(x6_2), (x8_2), (wrap64 (x9_2 + 1)), sqD, sqD, H', ⟨by have := HK1.out; have := HK2.out; have := HJ25.out; omega⟩, ⟨fR HO_5.out⟩, ⟨fR HO_6.out⟩, ⟨fb BK420.out⟩, ⟨fW HB.out⟩⟩
         subst c52
         have H1 : (if 0 ≤ x7_1 then (if x7_1 < (l0_2.length : Int) then (if x6_2.length < 5864062014805 then (r_Repair.j3 kj25 t421 (x6_2 ++ [(⟨x7_1, rd l0_2 x7_1, (rd (rd_L1 l0_0 x7_1) x9_2)⟩ : S69)]) t431 l0_0 a0_1 l0_2 l0_3) else (none)) else (none)) else (none)) = some r := by rw [if_pos rfl] at H; exact H
         clear H
         have H := H1
         clear H1
         by_cases c53 : 0 ≤ x7_1
         rotate_left
         ·rw [if_neg c53] at H
          exact absurd H (by simp)
         rw [if_pos c53] at H
         have c53b0 : decide (0 ≤ x7_1) = true := decide_eq_true c53
         clear c53
         by_cases c54 : x7_1 < (l0_2.length : Int)
         rotate_left
         ·rw [if_neg c54] at H
          exact absurd H (by simp)
         rw [if_pos c54] at H
         have c54b0 : decide (x7_1 < (l0_2.length : Int)) = true := decide_eq_true c54
         clear c54
         by_cases c55 : x6_2.length < 5864062014805
         rotate_left
         ·rw [if_neg c55] at H
          exact absurd H (by simp)
         rw [if_pos c55] at H
         have LMc55 := am c55
         clear c55
         obtain ⟨y442, hy442⟩ : ∃ y_ : List (S69), y_ = (x6_2 ++ [(⟨x7_1, rd l0_2 x7_1, (rd (rd_L1 l0_0 x7_1) x9_2)⟩ : S69)]) := ⟨_, rfl⟩
         replace H : (r_Repair.j3 kj25 t421 y442 t431 l0_0 a0_1 l0_2 l0_3) = some r := by first | (rw [hy442]; with_reducible exact H) | (have H2_ := (Option.bind_some _ _).symm.trans H; rw [hy442]; with_reducible exact H2_) | (have H2_ := (Option.bind_some _ _).symm.trans H; with_reducible exact H2_) | with_reducible exact H | (rw [hy442]; exact H) | exact H
         have Ny442 := am hy442
         clear hy442
         have H' := am H
         clear H
         have := yC1 BK420
         have := kC1 BK420
         have := kC2 BK420
         have := kC3 BK420
         have := bf BK420.out 0
         have := bf BK420.out 1
         have := bf BK420.out 2
         have := bf BK420.out 3
         have p441 : 0 ≤ (x7_1 : Int) := of_decide_eq_true (by assumption)
         have q441 : x7_1 < (l0_2.length : Int) := of_decide_eq_true (by assumption)
         obtain ⟨ad441, e441, hx441_0⟩ := Kd.at_int HR0_2.out x7_1 p441 q441
         cases e441
         replace hx441_0 := cl HB hx441_0
         replace p441 := eq_true p441
         replace q441 := eq_true q441
         go_wp2_with (first | ((with_reducible refine gate_builtin (b := .append) (xs := #[.tmp 90, .tmp 99]) rfl ?_); at_builtin; refine Kd.R_append k69 (w0 := w) w.heap.size rfl (.tmp 90) (.tmp 99) 36 69 (.agg #[(.int .i64 0), (.int .i64 0), (.int .i64 0)]) 24 rfl Try.underlying36 info69 rfl (by decide) (by omega) u6 x6_2 (⟨x7_1, rd l0_2 x7_1, (rd (rd_L1 l0_0 x7_1) x9_2)⟩ : S69) [.int .i64 x7_1, .int .i64 (rd l0_2 x7_1), .int .i64 (rd (rd_L1 l0_0 x7_1) x9_2)] (fun _ => True) (fun _ => False) rfl rfl ?aP (fun _ hk => hk.elim) ?aF ?aO ?aB ?aS ?aL ?_; (case aP => exact k69_mkM _ _ _ (⟨x7_1, rd l0_2 x7_1, (rd (rd_L1 l0_0 x7_1) x9_2)⟩ : S69)); (case aB => exact (fW HB.out)); (case aF => exact (fun _ _ => trivial)); (case aO => exact (fR HO_6.out)); (case aS => exact (wz (fW HB.out))); (case aL => have := LMc55.out; omega); intro v443 w57 ho hb hg hat; rw [← Ny442.out] at ho; replace HO_5 := am (Kd.R_over' (fR HO_5.out) (Kd.R_typed (fR HO_6.out)) (by decide) hg); replace BK420 := am (blk_grown (g := gb420) (o := .cells #[.slice (some ad428) l0_0.length c0_0, .int .i64 a0_1, .slice (some ad441) l0_2.length c0_2, .slice A0_3 l0_3.length c0_3] 26 (0, 0)) (fb BK420.out) hg (Kd.R_ne HO_6.out BK420.out (by decide))); replace HB := am (hb); have HO444 := am (ho); clear HO_6 ho hb hg hat))
         repeat (go_quiet (first | ((with_reducible refine gate_builtin (b := .append) (xs := #[.tmp 90, .tmp 99]) rfl ?_); at_builtin; refine Kd.R_append k69 (w0 := w) w.heap.size rfl (.tmp 90) (.tmp 99) 36 69 (.agg #[(.int .i64 0), (.int .i64 0), (.int .i64 0)]) 24 rfl Try.underlying36 info69 rfl (by decide) (by omega) u6 x6_2 (⟨x7_1, rd l0_2 x7_1, (rd (rd_L1 l0_0 x7_1) x9_2)⟩ : S69) [.int .i64 x7_1, .int .i64 (rd l0_2 x7_1), .int .i64 (rd (rd_L1 l0_0 x7_1) x9_2)] (fun _ => True) (fun _ => False) rfl rfl ?aP (fun _ hk => hk.elim) ?aF ?aO ?aB ?aS ?aL ?_; (case aP => exact k69_mkM _ _ _ (⟨x7_1, rd l0_2 x7_1, (rd (rd_L1 l0_0 x7_1) x9_2)⟩ : S69)); (case aB => exact (fW HB.out)); (case aF => exact (fun _ _ => trivial)); (case aO => exact (fR HO_6.out)); (case aS => exact (wz (fW HB.out))); (case aL => have := LMc55.out; omega); intro v443 w57 ho hb hg hat; rw [← Ny442.out] at ho; replace HO_5 := am (Kd.R_over' (fR HO_5.out) (Kd.R_typed (fR HO_6.out)) (by decide) hg); replace BK420 := am (blk_grown (g := gb420) (o := .cells #[.slice (some ad428) l0_0.length c0_0, .int .i64 a0_1, .slice (some ad441) l0_2.length c0_2, .slice A0_3 l0_3.length c0_3] 26 (0, 0)) (fb BK420.out) hg (Kd.R_ne HO_6.out BK420.out (by decide))); replace HB := am (hb); have HO444 := am (ho); clear HO_6 ho hb hg hat)); try go_wp2_with (first | ((with_reducible refine gate_builtin (b := .append) (xs := #[.tmp 90, .tmp 99]) rfl ?_); at_builtin; refine Kd.R_append k69 (w0 := w) w.heap.size rfl (.tmp 90) (.tmp 99) 36 69 (.agg #[(.int .i64 0), (.int .i64 0), (.int .i64 0)]) 24 rfl Try.underlying36 info69 rfl (by decide) (by omega) u6 x6_2 (⟨x7_1, rd l0_2 x7_1, (rd (rd_L1 l0_0 x7_1) x9_2)⟩ : S69) [.int .i64 x7_1, .int .i64 (rd l0_2 x7_1), .int .i64 (rd (rd_L1 l0_0 x7_1) x9_2)] (fun _ => True) (fun _ => False) rfl rfl ?aP (fun _ hk => hk.elim) ?aF ?aO ?aB ?aS ?aL ?_; (case aP => exact k69_mkM _ _ _ (⟨x7_1, rd l0_2 x7_1, (rd (rd_L1 l0_0 x7_1) x9_2)⟩ : S69)); (case aB => exact (fW HB.out)); (case aF => exact (fun _ _ => trivial)); (case aO => exact (fR HO_6.out)); (case aS => exact (wz (fW HB.out))); (case aL => have := LMc55.out; omega); intro v443 w57 ho hb hg hat; rw [← Ny442.out] at ho; replace HO_5 := am (Kd.R_over' (fR HO_5.out) (Kd.R_typed (fR HO_6.out)) (by decide) hg); replace BK420 := am (blk_grown (g := gb420) (o := .cells #[.slice (some ad428) l0_0.length c0_0, .int .i64 a0_1, .slice (some ad441) l0_2.length c0_2, .slice A0_3 l0_3.length c0_3] 26 (0, 0)) (fb BK420.out) hg (Kd.R_ne HO_6.out BK420.out (by decide))); replace HB := am (hb); have HO444 := am (ho); clear HO_6 ho hb hg hat)))
         go_meet
         case rel => exact ⟨_, (y442), (t431), sqD, H', ⟨by have := HK1.out; have := HK2.out; have := HJ25.out; first | omega | exact Nat.le_refl _⟩, ⟨fR HO_5.out⟩, ⟨fR HO444.out⟩, ⟨fb BK420.out⟩, ⟨fW HB.out⟩⟩
    case rest =>
     clear HC20
     try clear c1;try clear c2;try clear p2;try clear c3;try clear q3;try clear c4;try clear c4b0;try clear p4;try clear q4;try clear hx4;try clear c5;try clear c5b0;try clear c6;try clear c6b0;try clear p6;try clear c15;try clear c19;try clear c19b0;try clear c21;try clear c21b0;try clear c22;try clear c22b0;try clear c23;try clear c23b0;try clear c24;try clear c24b0;try clear c29;try clear c29b0;try clear c30;try clear c30b0;try clear c30b1;try clear c31;try clear c31b0;try clear c32;try clear c32b0;try clear c33;try clear c33b0;try clear c34;try clear c34b0;try clear c34b1;try clear c35;try clear c35b0;try clear c36;try clear c36b0;try clear q37;try clear c38;try clear c40;try clear c40b0;try clear c42;try clear c42b0;try clear p42;try clear q42;try clear hx42;try clear c43;try clear c43b0;try clear p43;try clear q43;try clear hx43;try clear c44;try clear c44b0;try clear c44b1;try clear p44;try clear q44;try clear hx44;try clear c45;try clear c45b0;try clear c46;try clear c46b0;try clear q47;try clear c48;try clear c50;try clear c50b0;try clear c52;try clear c53;try clear c53b0;try clear c54;try clear c54b0;try clear c55;try clear hx427_0;try clear hx428_0;try clear hx429_0;try clear hx430_0;try clear hx432_0;try clear hx433_0;try clear hx434_0;try clear hx435_0;try clear hx436_0;try clear hx437_0;try clear hx438_0;try clear hx439_0;try clear hx440_0;try clear hx441_0;try clear p2;try clear p4;try clear p42;try clear p427;try clear p428;try clear p429;try clear p43;try clear p430;try clear p432;try clear p433;try clear p434;try clear p435;try clear p436;try clear p437;try clear p438;try clear p439;try clear p44;try clear p440;try clear p441;try clear p6;try clear q3;try clear q37;try clear q4;try clear q42;try clear q427;try clear q428;try clear q429;try clear q43;try clear q430;try clear q432;try clear q433;try clear q434;try clear q435;try clear q436;try clear q437;try clear q438;try clear q439;try clear q44;try clear q440;try clear q441;try clear q47
     obtain ⟨kq, x6_19, x8_19, rfl, HA, HJ19, HO_5, HO_6, BK420, HB⟩ := hcut
     cases kq with
     | zero => exact absurd HA.out (by simp [r_Repair.j3])
     | succ kj19 =>
      have H := HA.out
      clear HA
      simp only [r_Repair.j3] at H
      have H' := am H
      clear H
      go_wp2
      repeat (go_quiet (fail); try go_wp2)
      go_roundg kj19
      case measure => have := HK1.out; have := HJ19.out; omega
      case rel => exact ⟨(x6_19), (x8_19), sqD, H', ⟨by have := HK1.out; have := HJ19.out; omega⟩, ⟨fR HO_5.out⟩, ⟨fR HO_6.out⟩, ⟨fb BK420.out⟩, ⟨fW HB.out⟩⟩
 ·rw [if_neg c4] at H
  exact absurd H (by simp)

end Go.Proofs.Ytkeomlmlimkebaa.QA
