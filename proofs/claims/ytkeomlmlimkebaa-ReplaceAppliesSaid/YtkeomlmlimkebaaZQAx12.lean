import Derived.Test.YtkeomlmlimkebaaZQAx0
namespace Go.Proofs.Ytkeomlmlimkebaa.QA
open Go.RowKit Go.Proofs.YtkeomlmlimkebaaW.PrintWords Go.Proofs.YtkeomlmlimkebaaW.PrintLast Go.Proofs.YtkeomlmlimkebaaW.PrintMore
open Go.Proofs.YtkeomlmlimkebaaW.PrintWords renaming blk_frozen → bf
open Aside0 renaming mk → am
attribute [local go_sem] max2_int min2_int max_two min_two max_three min_three max_four min_four
set_option linter.unusedVariables false
set_option linter.unusedSimpArgs false

def r_User.l0 : Nat → Int → Int → List (List Int) → Int → List Int → List Bool → Option (Int)
 | 0, _, _, _, _, _, _ => none
 | k + 1, x1, x5, x248000, x248001, x248002, x248003 => if x5 < (x248002.length : Int) then (if 0 ≤ x5 then (if (rd x248002 x5) = x1 then (some x5) else (r_User.l0 k x1 (wrap64 (x5 + 1)) x248000 x248001 x248002 x248003)) else (none)) else (some (-1))
def r_User.f (k : Nat) (l0_0 : List (List Int)) (a0_1 : Int) (l0_2 : List Int) (l0_3 : List Bool) (a1 : Int) : Option (Int) := r_User.l0 k a1 0 l0_0 a0_1 l0_2 l0_3
set_option maxHeartbeats 8000000 in
set_option maxRecDepth 100000 in
theorem r_User.calls (k : Nat) (A0_0 : Option Addr) (c0_0 : Nat) (l0_0 : List (List Int)) (a0_1 : Int) (A0_2 : Option Addr) (c0_2 : Nat) (l0_2 : List Int) (A0_3 : Option Addr) (c0_3 : Nat) (l0_3 : List Bool) (a1 : Int) (r : Int) (w : World) (hr0_0 : Kd.C (Kd.slice 3 (Kd.int .i64)) w A0_0 l0_0.length l0_0) (hc0_0 : l0_0.length ≤ c0_0) (hr0_2 : Kd.C (Kd.int .i64) w A0_2 l0_2.length l0_2) (hc0_2 : l0_2.length ≤ c0_2) (hr0_3 : Kd.C Kd.bool w A0_3 l0_3.length l0_3) (hc0_3 : l0_3.length ≤ c0_3) (h : r_User.f k l0_0 a0_1 l0_2 l0_3 a1 = some r) :
  Calls Try.prog 29 #[.agg #[.slice A0_0 l0_0.length c0_0, .int .i64 a0_1, .slice A0_2 l0_2.length c0_2, .slice A0_3 l0_3.length c0_3], .int .i64 a1] w fun e w' => e = .returned (.int .i64 r) ∧ Below w.heap.size w w' := by
 have hu26 := Try.underlying26
 have HR0_0 := am hr0_0
 have HC0_0 := am hc0_0
 clear hr0_0 hc0_0
 have HR0_2 := am hr0_2
 have HC0_2 := am hc0_2
 clear hr0_2 hc0_2
 have HR0_3 := am hr0_3
 have HC0_3 := am hc0_3
 clear hr0_3 hc0_3
 have HB := am (Below.refl w.heap.size w)
 have H : (r_User.l0 k a1 0 l0_0 a0_1 l0_2 l0_3) = some r := h
 clear h
 have H' := am H
 clear H
 go_enter Try.func29, Try.ntmps29
 go_wp2_with (first | ((with_reducible refine gate_dst (N := 2) rfl ?_); refine box_event ?hg (N := 2) ?hd (cs := #[.slice A0_0 l0_0.length c0_0, .int .i64 a0_1, .slice A0_2 l0_2.length c0_2, .slice A0_3 l0_3.length c0_3]) (t := 26) ?hr ?_; (case hd | hg => rfl); (case hr => first | (go_simp; done) | (go_simp; rfl)); intro gb247 hg w3 hbox hb; have BK247 := am hbox; have GW247 := sG HB hg; have GE247 := sG HB hg; replace HB := bS HB hb; clear hb hbox hg))
 go_loopg [5] k (fun kq v5 w' => ∃ (x5_1 : Int), v5 = .int .i64 x5_1 ∧ Aside0 (r_User.l0 kq a1 x5_1 l0_0 a0_1 l0_2 l0_3 = some r) ∧ Aside0 (kq ≤ k) ∧ Aside0 (w'.heap[gb247]? = some (.cells #[(.slice A0_0 l0_0.length c0_0), .int .i64 a0_1, (.slice A0_2 l0_2.length c0_2), (.slice A0_3 l0_3.length c0_3)] 26 (0, 0))) ∧ Aside0 (Below w.heap.size w w'))
 case atStart => exact ⟨(0), sqD, H', ⟨Nat.le_refl _⟩, ⟨fb BK247.out⟩, ⟨fW HB.out⟩⟩
 case round =>
  clear H'
  try clear c2;try clear p2
  obtain ⟨x5_1, rfl, HA, HK1, BK247, HB⟩ := hrel
  cases gk with
  | zero => exact absurd HA.out (by simp [r_User.l0])
  | succ k1 =>
   have H := HA.out
   clear HA
   simp only [r_User.l0] at H
   by_cases c4 : x5_1 < (l0_2.length : Int)
   ·rw [if_pos c4] at H
    have c4b0 : decide (x5_1 < (l0_2.length : Int)) = true := decide_eq_true c4
    clear c4
    by_cases c5 : 0 ≤ x5_1
    rotate_left
    ·rw [if_neg c5] at H
     exact absurd H (by simp)
    rw [if_pos c5] at H
    have c5b0 : decide (0 ≤ x5_1) = true := decide_eq_true c5
    clear c5
    by_cases c6 : (rd l0_2 x5_1) = a1
    ·rw [if_pos c6] at H
     have c6b0 : ((rd l0_2 x5_1) == a1) = true := beq_iff_eq.mpr c6
     have c6b1 : ((rd l0_2 x5_1) != a1) = false := bne_eq_false_iff_eq.mpr c6
     clear c6
     obtain rfl := Option.some.inj H
     have := yC1 BK247
     have := kC1 BK247
     have := kC2 BK247
     have := kC3 BK247
     have := bf BK247.out 0
     have := bf BK247.out 1
     have := bf BK247.out 2
     have := bf BK247.out 3
     have p248 : 0 ≤ (x5_1 : Int) := of_decide_eq_true (by assumption)
     have q248 : x5_1 < (l0_2.length : Int) := of_decide_eq_true (by assumption)
     obtain ⟨ad248, e248, hx248_0⟩ := Kd.at_int HR0_2.out x5_1 p248 q248
     cases e248
     replace hx248_0 := cl HB hx248_0
     replace p248 := eq_true p248
     replace q248 := eq_true q248
     go_wp2
     go_ret
     exact ⟨sqE, fW HB.out⟩
    rw [if_neg c6] at H
    have c6b0 : ((rd l0_2 x5_1) == a1) = false := beq_eq_false_iff_ne.mpr c6
    have c6b1 : ((rd l0_2 x5_1) != a1) = true := bne_iff_ne.mpr c6
    have H' := am H
    clear H
    have := yC1 BK247
    have := kC1 BK247
    have := kC2 BK247
    have := kC3 BK247
    have := bf BK247.out 0
    have := bf BK247.out 1
    have := bf BK247.out 2
    have := bf BK247.out 3
    have p248 : 0 ≤ (x5_1 : Int) := of_decide_eq_true (by assumption)
    have q248 : x5_1 < (l0_2.length : Int) := of_decide_eq_true (by assumption)
    obtain ⟨ad248, e248, hx248_0⟩ := Kd.at_int HR0_2.out x5_1 p248 q248
    cases e248
    replace hx248_0 := cl HB hx248_0
    replace p248 := eq_true p248
    replace q248 := eq_true q248
    go_wp2
    go_roundg k1
    case measure => have := HK1.out; omega
    case rel => exact ⟨(wrap64 (x5_1 + 1)), sqD, H', ⟨by have := HK1.out; omega⟩, ⟨fb BK247.out⟩, ⟨fW HB.out⟩⟩
   ·rw [if_neg c4] at H
    have c4b0 : decide (x5_1 < (l0_2.length : Int)) = false := decide_eq_false c4
    clear c4
    obtain rfl := Option.some.inj H
    have := yC1 BK247
    have := kC1 BK247
    have := kC2 BK247
    have := kC3 BK247
    have := bf BK247.out 0
    have := bf BK247.out 1
    have := bf BK247.out 2
    have := bf BK247.out 3
    go_wp2
    go_ret
    exact ⟨sqE, fW HB.out⟩

def r_Free.l0 : Nat → List Int → Int → List (List Int) → Int → List Int → List Bool → Option (List Int)
 | 0, _, _, _, _, _, _ => none
 | k + 1, x3, x4, x250000, x250001, x250002, x250003 => if x4 < x250001 then ((r_User.f k x250000 x250001 x250002 x250003 x4).bind fun t253 => (if t253 < 0 then (if x3.length < 17592186044416 then (r_Free.l0 k (x3 ++ [x4]) (wrap64 (x4 + 1)) x250000 x250001 x250002 x250003) else (none)) else (r_Free.l0 k x3 (wrap64 (x4 + 1)) x250000 x250001 x250002 x250003))) else (some x3)
def r_Free.f (k : Nat) (l0_0 : List (List Int)) (a0_1 : Int) (l0_2 : List Int) (l0_3 : List Bool) : Option (List Int) := r_Free.l0 k (([] : List Int)) 0 l0_0 a0_1 l0_2 l0_3
set_option maxHeartbeats 8000000 in
set_option maxRecDepth 100000 in
theorem r_Free.calls (k : Nat) (A0_0 : Option Addr) (c0_0 : Nat) (l0_0 : List (List Int)) (a0_1 : Int) (A0_2 : Option Addr) (c0_2 : Nat) (l0_2 : List Int) (A0_3 : Option Addr) (c0_3 : Nat) (l0_3 : List Bool) (r : List Int) (w : World) (hr0_0 : Kd.C (Kd.slice 3 (Kd.int .i64)) w A0_0 l0_0.length l0_0) (hc0_0 : l0_0.length ≤ c0_0) (hr0_2 : Kd.C (Kd.int .i64) w A0_2 l0_2.length l0_2) (hc0_2 : l0_2.length ≤ c0_2) (hr0_3 : Kd.C Kd.bool w A0_3 l0_3.length l0_3) (hc0_3 : l0_3.length ≤ c0_3) (h : r_Free.f k l0_0 a0_1 l0_2 l0_3 = some r) :
  Calls Try.prog 28 #[.agg #[.slice A0_0 l0_0.length c0_0, .int .i64 a0_1, .slice A0_2 l0_2.length c0_2, .slice A0_3 l0_3.length c0_3]] w fun e w' => ∃ v0_ : Value, e = .returned (v0_) ∧ Kd.R (Kd.int .i64) 3 w' w.heap.size (fun _ => True) v0_ r ∧ Below w.heap.size w w' := by
 have hu26 := Try.underlying26
 have HR0_0 := am hr0_0
 have HC0_0 := am hc0_0
 clear hr0_0 hc0_0
 have HR0_2 := am hr0_2
 have HC0_2 := am hc0_2
 clear hr0_2 hc0_2
 have HR0_3 := am hr0_3
 have HC0_3 := am hc0_3
 clear hr0_3 hc0_3
 have HB := am (Below.refl w.heap.size w)
 have H : (r_Free.l0 k (([] : List Int)) 0 l0_0 a0_1 l0_2 l0_3) = some r := h
 clear h
 obtain ⟨y250, hy250⟩ : ∃ y_ : List Int, y_ = (([] : List Int)) := ⟨_, rfl⟩
 replace H : (r_Free.l0 k y250 0 l0_0 a0_1 l0_2 l0_3) = some r := by first | (rw [hy250]; with_reducible exact H) | (have H2_ := (Option.bind_some _ _).symm.trans H; rw [hy250]; with_reducible exact H2_) | (have H2_ := (Option.bind_some _ _).symm.trans H; with_reducible exact H2_) | with_reducible exact H | (rw [hy250]; exact H) | exact H
 have Ny250 := am hy250
 clear hy250
 have H' := am H
 clear H
 go_enter Try.func28, Try.ntmps28
 go_wp2_with (first | ((with_reducible refine gate_dst (N := 1) rfl ?_); refine box_event ?hg (N := 1) ?hd (cs := #[.slice A0_0 l0_0.length c0_0, .int .i64 a0_1, .slice A0_2 l0_2.length c0_2, .slice A0_3 l0_3.length c0_3]) (t := 26) ?hr ?_; (case hd | hg => rfl); (case hr => first | (go_simp; done) | (go_simp; rfl)); intro gb249 hg w2 hbox hb; have BK249 := am hbox; have GW249 := sG HB hg; have GE249 := sG HB hg; replace HB := bS HB hb; clear hb hbox hg) | ((with_reducible refine gate_dst (N := 5) rfl ?_); refine Kd.R_lit (Kd.int .i64) _ 3 ?hg (N := 5) ?hd (xs := ([] : List Int)) (inner := []) (ok := fun _ => True) (okp := fun _ => True) ?hr ?hp (fun _ hk => hk) trivial (Below.refl _ _) (Nat.le_refl _) (by simp) ?_; (case hd | hg => rfl); (case hr => first | (go_simp; done) | (go_simp; rfl)); (case hp => exact (Reps.none _ _)); intro v251 w3 ho4 hb hg_ hnew_; clear hg_ hnew_; (first | rw [← Ny250.out] at ho4 | (simp only [Int.reduceToNat] at ho4; rw [← Ny250.out] at ho4)); have HO252 := am (Kd.R_lower ho4 (below_size (fW HB.out))); replace BK249 := bB BK249 hb; replace HB := bS HB hb; clear hb ho4))
 go_loopg [3, 4] k (fun kq v3 v4 w' => ∃ (x3_1 : List Int) (x4_1 : Int), v4 = .int .i64 x4_1 ∧ Aside0 (r_Free.l0 kq x3_1 x4_1 l0_0 a0_1 l0_2 l0_3 = some r) ∧ Aside0 (kq ≤ k) ∧ Aside0 (Kd.R (Kd.int .i64) 3 w' w.heap.size (fun _ => True) v3 x3_1) ∧ Aside0 (w'.heap[gb249]? = some (.cells #[(.slice A0_0 l0_0.length c0_0), .int .i64 a0_1, (.slice A0_2 l0_2.length c0_2), (.slice A0_3 l0_3.length c0_3)] 26 (0, 0))) ∧ Aside0 (Below w.heap.size w w'))
 case atStart => exact ⟨(y250), (0), sqD, H', ⟨Nat.le_refl _⟩, ⟨fR HO252.out⟩, ⟨fb BK249.out⟩, ⟨fW HB.out⟩⟩
 case round =>
  clear H'
  try clear c2;try clear p2
  obtain ⟨x3_1, x4_1, rfl, HA, HK1, HO_3, BK249, HB⟩ := hrel
  cases gk with
  | zero => exact absurd HA.out (by simp [r_Free.l0])
  | succ k1 =>
   have H := HA.out
   clear HA
   simp only [r_Free.l0] at H
   by_cases c5 : x4_1 < a0_1
   ·rw [if_pos c5] at H
    have c5b0 : decide (x4_1 < a0_1) = true := decide_eq_true c5
    clear c5
    replace H := Option.bind_eq_some_iff.mp H
    obtain ⟨t253, A60, H⟩ := H
    replace H : (if t253 < 0 then (if x3_1.length < 17592186044416 then (r_Free.l0 k1 (x3_1 ++ [x4_1]) (wrap64 (x4_1 + 1)) l0_0 a0_1 l0_2 l0_3) else (none)) else (r_Free.l0 k1 x3_1 (wrap64 (x4_1 + 1)) l0_0 a0_1 l0_2 l0_3)) = some r := H
    have A6 := am A60
    clear A60
    by_cases c7 : t253 < 0
    ·rw [if_pos c7] at H
     have c7b0 : decide (t253 < 0) = true := decide_eq_true c7
     clear c7
     by_cases c8 : x3_1.length < 17592186044416
     rotate_left
     ·rw [if_neg c8] at H
      exact absurd H (by simp)
     rw [if_pos c8] at H
     have LMc8 := am c8
     clear c8
     obtain ⟨y254, hy254⟩ : ∃ y_ : List Int, y_ = (x3_1 ++ [x4_1]) := ⟨_, rfl⟩
     replace H : (r_Free.l0 k1 y254 (wrap64 (x4_1 + 1)) l0_0 a0_1 l0_2 l0_3) = some r := by first | (rw [hy254]; with_reducible exact H) | (have H2_ := (Option.bind_some _ _).symm.trans H; rw [hy254]; with_reducible exact H2_) | (have H2_ := (Option.bind_some _ _).symm.trans H; with_reducible exact H2_) | with_reducible exact H | (rw [hy254]; exact H) | exact H
     have Ny254 := am hy254
     clear hy254
     have H' := am H
     clear H
     have := yC1 BK249
     have := kC1 BK249
     have := kC2 BK249
     have := kC3 BK249
     have := bf BK249.out 0
     have := bf BK249.out 1
     have := bf BK249.out 2
     have := bf BK249.out 3
     go_wp2_with (first | ((with_reducible refine gate_callee (f := 29) rfl ?_); refine goesL_ (some 14) rfl rfl Try.func29 (by kernel_rfl) rfl #[.agg #[.slice A0_0 l0_0.length c0_0, .int .i64 a0_1, .slice A0_2 l0_2.length c0_2, .slice A0_3 l0_3.length c0_3], .int .i64 x4_1] rfl (by (try simp only [pml]); first | done | rfl | (simp only [pdt]; rfl)) ?_; (with_reducible refine (r_User.calls k1 _ _ l0_0 a0_1 _ _ l0_2 _ _ l0_3 x4_1 t253 _ ?side1 ?side2 ?side3 ?side4 ?side5 ?side6 A6.out).mono ?_); (case side1 => repeat (first | exact (Kd.C_below HR0_0.out HB.out) | (with_reducible refine Kd.C_alloc ?_ _) | (with_reducible refine Kd.C_drewN ?_ _) | (with_reducible refine Kd.C_drew ?_))); (case side2 => exact HC0_0.out); (case side3 => repeat (first | exact (Kd.C_below HR0_2.out HB.out) | (with_reducible refine Kd.C_alloc ?_ _) | (with_reducible refine Kd.C_drewN ?_ _) | (with_reducible refine Kd.C_drew ?_))); (case side4 => exact HC0_2.out); (case side5 => repeat (first | exact (Kd.C_below HR0_3.out HB.out) | (with_reducible refine Kd.C_alloc ?_ _) | (with_reducible refine Kd.C_drewN ?_ _) | (with_reducible refine Kd.C_drew ?_))); (case side6 => exact HC0_3.out); rintro e w10 ⟨rfl, hb⟩; refine ⟨_, rfl, ?_⟩; replace HO_3 := dR HO_3 hb; replace BK249 := bB BK249 hb; replace HB := bS HB hb; (try clear hb); (try clear hb2); (try clear hk); (try clear hi)) | ((with_reducible refine gate_builtin (b := .append) (xs := #[.tmp 16, .tmp 18]) rfl ?_); at_builtin; refine Kd.R_append (Kd.int .i64) (w0 := w) w.heap.size rfl (.tmp 16) (.tmp 18) 23 3 (.int .i64 0) 8 rfl Try.underlying23 info3 rfl (by decide) (by omega) u3 x3_1 x4_1 [.int .i64 x4_1] (fun _ => True) (fun _ => False) rfl rfl ?aP (fun _ hk => hk.elim) ?aF ?aO ?aB ?aS ?aL ?_; (case aP => exact rfl); (case aB => exact (fW HB.out)); (case aF => exact (fun _ _ => trivial)); (case aO => exact (fR HO_3.out)); (case aS => exact (below_size (fW HB.out))); (case aL => have := LMc8.out; omega); intro v255 w11 ho hb hg hat; rw [← Ny254.out] at ho; replace BK249 := am (blk_grown (g := gb249) (o := .cells #[.slice A0_0 l0_0.length c0_0, .int .i64 a0_1, .slice A0_2 l0_2.length c0_2, .slice A0_3 l0_3.length c0_3] 26 (0, 0)) (fb BK249.out) hg (Kd.R_ne HO_3.out BK249.out (by decide))); replace HB := am (hb); have HO256 := am (ho); clear HO_3 ho hb hg hat))
     go_roundg k1
     case measure => have := HK1.out; omega
     case rel => exact ⟨(y254), (wrap64 (x4_1 + 1)), sqD, H', ⟨by have := HK1.out; omega⟩, ⟨fR HO256.out⟩, ⟨fb BK249.out⟩, ⟨fW HB.out⟩⟩
    rw [if_neg c7] at H
    have c7b0 : decide (t253 < 0) = false := decide_eq_false c7
    clear c7
    have H' := am H
    clear H
    have := yC1 BK249
    have := kC1 BK249
    have := kC2 BK249
    have := kC3 BK249
    have := bf BK249.out 0
    have := bf BK249.out 1
    have := bf BK249.out 2
    have := bf BK249.out 3
    go_wp2_with (first | ((with_reducible refine gate_callee (f := 29) rfl ?_); refine goesL_ (some 14) rfl rfl Try.func29 (by kernel_rfl) rfl #[.agg #[.slice A0_0 l0_0.length c0_0, .int .i64 a0_1, .slice A0_2 l0_2.length c0_2, .slice A0_3 l0_3.length c0_3], .int .i64 x4_1] rfl (by (try simp only [pml]); first | done | rfl | (simp only [pdt]; rfl)) ?_; (with_reducible refine (r_User.calls k1 _ _ l0_0 a0_1 _ _ l0_2 _ _ l0_3 x4_1 t253 _ ?side1 ?side2 ?side3 ?side4 ?side5 ?side6 A6.out).mono ?_); (case side1 => repeat (first | exact (Kd.C_below HR0_0.out HB.out) | (with_reducible refine Kd.C_alloc ?_ _) | (with_reducible refine Kd.C_drewN ?_ _) | (with_reducible refine Kd.C_drew ?_))); (case side2 => exact HC0_0.out); (case side3 => repeat (first | exact (Kd.C_below HR0_2.out HB.out) | (with_reducible refine Kd.C_alloc ?_ _) | (with_reducible refine Kd.C_drewN ?_ _) | (with_reducible refine Kd.C_drew ?_))); (case side4 => exact HC0_2.out); (case side5 => repeat (first | exact (Kd.C_below HR0_3.out HB.out) | (with_reducible refine Kd.C_alloc ?_ _) | (with_reducible refine Kd.C_drewN ?_ _) | (with_reducible refine Kd.C_drew ?_))); (case side6 => exact HC0_3.out); rintro e w13 ⟨rfl, hb⟩; refine ⟨_, rfl, ?_⟩; replace HO_3 := dR HO_3 hb; replace BK249 := bB BK249 hb; replace HB := bS HB hb; (try clear hb); (try clear hb2); (try clear hk); (try clear hi)))
    go_roundg k1
    case measure => have := HK1.out; omega
    case rel => exact ⟨(x3_1), (wrap64 (x4_1 + 1)), sqD, H', ⟨by have := HK1.out; omega⟩, ⟨fR HO_3.out⟩, ⟨fb BK249.out⟩, ⟨fW HB.out⟩⟩
   ·rw [if_neg c5] at H
    have c5b0 : decide (x4_1 < a0_1) = false := decide_eq_false c5
    clear c5
    obtain rfl := Option.some.inj H
    have := yC1 BK249
    have := kC1 BK249
    have := kC2 BK249
    have := kC3 BK249
    have := bf BK249.out 0
    have := bf BK249.out 1
    have := bf BK249.out 2
    have := bf BK249.out 3
    go_wp2
    go_ret
    exact ⟨_, sqE, fR HO_3.out, fW HB.out⟩

end Go.Proofs.Ytkeomlmlimkebaa.QA
