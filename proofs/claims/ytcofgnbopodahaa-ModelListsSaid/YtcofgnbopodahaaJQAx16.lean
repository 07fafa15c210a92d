import Derived.Test.YtcofgnbopodahaaJQAx0
import Derived.Test.YtcofgnbopodahaaJQAx14
namespace Go.Proofs.Ytcofgnbopodahaa.QA
open Go.RowKit Go.Proofs.YtcofgnbopodahaaW.PrintWords Go.Proofs.YtcofgnbopodahaaW.PrintLast Go.Proofs.YtcofgnbopodahaaW.PrintMore
open Go.Proofs.YtcofgnbopodahaaW.PrintWords renaming blk_cell → bc
open Aside0 renaming mk → am
open World renaming block_lt_of_cell? → bq
attribute [local go_sem] max2_int min2_int max_two min_two max_three min_three max_four min_four
set_option linter.unusedVariables false
set_option linter.unusedSimpArgs false

def r_Join.j0 : Nat → Int → Int → Bool → Option (Int)
 | 0, _, _, _ => none
 | k + 1, x0, x1, x11 => if x11 = true then (some x1) else (if x1 = 0 then (some x0) else (some 3))
def r_Join.f (k : Nat) (a0 : Int) (a1 : Int) : Option (Int) := if a0 = 0 then (r_Join.j0 k a0 a1 true) else (r_Join.j0 k a0 a1 (a0 == a1))
set_option maxHeartbeats 8000000 in
set_option maxRecDepth 100000 in
theorem r_Join.calls (k : Nat) (a0 : Int) (a1 : Int) (r : Int) (w : World) (h : r_Join.f k a0 a1 = some r) :
  Calls Try.prog 46 #[.int .i64 a0, .int .i64 a1] w fun e w' => e = .returned (.int .i64 r) ∧ Drawn0 w w' := by
 have H : (if a0 = 0 then (r_Join.j0 k a0 a1 true) else (r_Join.j0 k a0 a1 (a0 == a1))) = some r := h
 clear h
 have HC3 := am H
 clear H
 go_enter Try.func46, Try.ntmps46
 go_upto_region 1 with (fail)
 go_cut [11] (fun v11 wc => ∃ (kq : Nat) (x11_2 : Bool), v11 = .bool x11_2 ∧ Aside0 (r_Join.j0 kq a0 a1 x11_2 = some r) ∧ Aside0 (kq ≤ k) ∧ Drawn0 w wc)
 case first =>
  have H := HC3.out
  clear HC3
  by_cases c4 : a0 = 0
  ·rw [if_pos c4] at H
   have c4b0 : (a0 == 0) = true := beq_iff_eq.mpr c4
   have c4b1 : (a0 != 0) = false := bne_eq_false_iff_eq.mpr c4
   clear c4
   (first | rw [c4b0] | (simp only [i64_w, i32_w]; rw [c4b0]) | skip)
   have H' := am H
   clear H
   go_wp2
   go_meet
   case rel => exact ⟨_, (true), sqD, H', ⟨by first | omega | exact Nat.le_refl _⟩, by repeat (first | exact Drawn0.refl _ | apply Drawn0.step)⟩
  rw [if_neg c4] at H
  have c4b0 : (a0 == 0) = false := beq_eq_false_iff_ne.mpr c4
  have c4b1 : (a0 != 0) = true := bne_iff_ne.mpr c4
  (first | rw [c4b0] | (simp only [i64_w, i32_w]; rw [c4b0]) | skip)
  have H' := am H
  clear H
  go_wp2
  go_meet
  case rel => exact ⟨_, ((a0 == a1)), sqD, H', ⟨by first | omega | exact Nat.le_refl _⟩, by repeat (first | exact Drawn0.refl _ | apply Drawn0.step)⟩
 case rest =>
  clear HC3
  try clear p2;try clear c4;try clear c4b0;try clear c4b1
  obtain ⟨kq, x11_2, rfl, HA, HJ2, ⟨mc2, rfl⟩⟩ := hcut
  cases kq with
  | zero => exact absurd HA.out (by simp [r_Join.j0])
  | succ kj2 =>
   have H := HA.out
   clear HA
   simp only [r_Join.j0] at H
   by_cases c5 : x11_2 = true
   ·subst c5
    have H1 : (some a1) = some r := by rw [if_pos rfl] at H; exact H
    clear H
    have H := H1
    clear H1
    obtain rfl := Option.some.inj H
    go_wp2
    go_ret
    exact ⟨by first | rfl | (simp; done) | (simp [*]; done), by repeat (first | exact Drawn0.refl _ | apply Drawn0.step)⟩
   ·replace c5 := Bool.eq_false_iff.mpr c5
    subst c5
    have H1 : (if a1 = 0 then (some a0) else (some 3)) = some r := by rw [if_neg (show ¬ (false = true) by decide)] at H; exact H
    clear H
    have H := H1
    clear H1
    by_cases c6 : a1 = 0
    ·rw [if_pos c6] at H
     have c6b0 : (a1 == 0) = true := beq_iff_eq.mpr c6
     have c6b1 : (a1 != 0) = false := bne_eq_false_iff_eq.mpr c6
     clear c6
     obtain rfl := Option.some.inj H
     go_wp2
     go_ret
     exact ⟨by first | rfl | (simp; done) | (simp [*]; done), by repeat (first | exact Drawn0.refl _ | apply Drawn0.step)⟩
    ·rw [if_neg c6] at H
     have c6b0 : (a1 == 0) = false := beq_eq_false_iff_ne.mpr c6
     have c6b1 : (a1 != 0) = true := bne_iff_ne.mpr c6
     obtain rfl := Option.some.inj H
     go_wp2
     go_ret
     exact ⟨by first | rfl | (simp; done) | (simp [*]; done), by repeat (first | exact Drawn0.refl _ | apply Drawn0.step)⟩

mutual
def r_State.l0 : Nat → List (S68) → Int → Int → Int → Int → Int → Option (Int)
 | 0, _, _, _, _, _, _ => none
 | k + 1, x0, x5, x6, x258000, x258001, x258002 => if x6 < (x0.length : Int) then (if 0 ≤ x6 then ((r_has.f k ((rd_T68 x0 x6).f1.f0.f0) ((rd_T68 x0 x6).f1.f0.f1) ((rd_T68 x0 x6).f1.f0.f2) ((rd_T68 x0 x6).f1.f1.f0) ((rd_T68 x0 x6).f1.f1.f1) ((rd_T68 x0 x6).f1.f1.f2) x258000 x258001 x258002).bind fun t259 => (if t259 = true then ((r_Join.f k x5 ((rd_T68 x0 x6).f2)).bind fun t261 => (r_State.j1 k x0 t261 x6 x258000 x258001 x258002)) else (r_State.j1 k x0 x5 x6 x258000 x258001 x258002))) else (none)) else (some x5)
def r_State.j1 : Nat → List (S68) → Int → Int → Int → Int → Int → Option (Int)
 | 0, _, _, _, _, _, _ => none
 | k + 1, x0, x5, x6, x258000, x258001, x258002 => r_State.l0 k x0 x5 (wrap64 (x6 + 1)) x258000 x258001 x258002
end
def r_State.f (k : Nat) (l0 : List (S68)) (a1_0 : Int) (a1_1 : Int) (a1_2 : Int) : Option (Int) := r_State.l0 k l0 0 0 a1_0 a1_1 a1_2
set_option maxHeartbeats 8000000 in
set_option maxRecDepth 100000 in
theorem r_State.calls (k : Nat) (A0 : Option Addr) (c0 : Nat) (l0 : List (S68)) (a1_0 : Int) (a1_1 : Int) (a1_2 : Int) (r : Int) (w : World) (hr0 : Kd.C k68 w A0 l0.length l0) (hc0 : l0.length ≤ c0) (h : r_State.f k l0 a1_0 a1_1 a1_2 = some r) :
  Calls Try.prog 18 #[.slice A0 l0.length c0, .agg #[.int .i64 a1_0, .int .i64 a1_1, .int .i64 a1_2]] w fun e w' => e = .returned (.int .i64 r) ∧ Below w.heap.size w w' := by
 have hu24 := Try.underlying24
 have hu43 := Try.underlying43
 have HR0 := am hr0
 have HC0 := am hc0
 clear hr0 hc0
 have HB := am (Below.refl w.heap.size w)
 have H : (r_State.l0 k l0 0 0 a1_0 a1_1 a1_2) = some r := h
 clear h
 have H' := am H
 clear H
 go_enter Try.func18, Try.ntmps18
 go_wp2_with (first | ((with_reducible refine gate_dst (N := 3) rfl ?_); refine box_event ?hg (N := 3) ?hd (cs := #[.int .i64 a1_0, .int .i64 a1_1, .int .i64 a1_2]) (t := 24) ?hr ?_; (case hd | hg => rfl); (case hr => first | (go_simp; done) | (go_simp; rfl)); intro gb257 hg w3 hbox hb; have BK257 := am hbox; have GW257 := sG HB hg; have GE257 := sG HB hg; replace HB := bS HB hb; clear hb hbox hg))
 go_loopg [5, 6] k (fun kq v5 v6 w' => ∃ (x5_1 : Int) (x6_1 : Int), v5 = .int .i64 x5_1 ∧ v6 = .int .i64 x6_1 ∧ Aside0 (r_State.l0 kq l0 x5_1 x6_1 a1_0 a1_1 a1_2 = some r) ∧ Aside0 (kq ≤ k) ∧ Aside0 (w'.heap[gb257]? = some (.cells #[.int .i64 a1_0, .int .i64 a1_1, .int .i64 a1_2] 24 (0, 0))) ∧ Aside0 (Below w.heap.size w w'))
 case atStart => exact ⟨(0), (0), sqD, sqD, H', ⟨Nat.le_refl _⟩, ⟨fb BK257.out⟩, ⟨fW HB.out⟩⟩
 case round =>
  clear H'
  try clear c1;try clear p2
  obtain ⟨x5_1, x6_1, rfl, rfl, HA, HK1, BK257, HB⟩ := hrel
  cases gk with
  | zero => exact absurd HA.out (by simp [r_State.l0])
  | succ k1 =>
   have H := HA.out
   clear HA
   simp only [r_State.l0] at H
   by_cases c4 : x6_1 < (l0.length : Int)
   ·rw [if_pos c4] at H
    have c4b0 : decide (x6_1 < (l0.length : Int)) = true := decide_eq_true c4
    clear c4
    have HC5 := am H
    clear H
    go_upto_block 1 with (fail)
    go_cut [5] (fun v5 wc => ∃ (kq : Nat) (x5_4 : Int), v5 = .int .i64 x5_4 ∧ Aside0 (r_State.j1 kq l0 x5_4 x6_1 a1_0 a1_1 a1_2 = some r) ∧ Aside0 (kq ≤ k1) ∧ Aside0 (wc.heap[gb257]? = some (.cells #[.int .i64 a1_0, .int .i64 a1_1, .int .i64 a1_2] 24 (0, 0))) ∧ Aside0 (Below w.heap.size w wc))
    case first =>
     have H := HC5.out
     clear HC5
     by_cases c6 : 0 ≤ x6_1
     rotate_left
     ·rw [if_neg c6] at H
      exact absurd H (by simp)
     rw [if_pos c6] at H
     have c6b0 : decide (0 ≤ x6_1) = true := decide_eq_true c6
     clear c6
     (first | rw [c6b0] | (simp only [i64_w, i32_w]; rw [c6b0]) | skip)
     replace H := Option.bind_eq_some_iff.mp H
     obtain ⟨t259, A70, H⟩ := H
     replace H : (if t259 = true then ((r_Join.f k1 x5_1 ((rd_T68 l0 x6_1).f2)).bind fun t261 => (r_State.j1 k1 l0 t261 x6_1 a1_0 a1_1 a1_2)) else (r_State.j1 k1 l0 x5_1 x6_1 a1_0 a1_1 a1_2)) = some r := H
     have A7 := am A70
     clear A70
     by_cases c8 : t259 = true
     rotate_left
     ·replace c8 := Bool.eq_false_iff.mpr c8
      subst c8
      have H1 : (r_State.j1 k1 l0 x5_1 x6_1 a1_0 a1_1 a1_2) = some r := by rw [if_neg (show ¬ (false = true) by decide)] at H; exact H
      clear H
      have H := H1
      clear H1
      have H' := am H
      clear H
      try go_wp2
      have n0_ := am (blk_drew BK257.out)
      have n1_ := am (below_drew1 HB.out)
      clear BK257 HB
      have BK257 := n0_
      have HB := n1_
      clear n0_ n1_
      have p258 : 0 ≤ (x6_1 : Int) := of_decide_eq_true (by assumption)
      have q258 : x6_1 < (l0.length : Int) := of_decide_eq_true (by assumption)
      obtain ⟨ad258, e258, hx258_0, hx258_1, hx258_2, hx258_3, hx258_4, hx258_5, hx258_6, hx258_7⟩ := at_T68 HR0.out x6_1 p258 q258
      have hw258_7 := hx258_7
      have hw258_6 := hx258_6
      have hw258_5 := hx258_5
      have hw258_4 := hx258_4
      have hw258_3 := hx258_3
      have hw258_2 := hx258_2
      have hw258_1 := hx258_1
      have hw258_0 := hx258_0
      cases e258
      replace hx258_0 := cl HB hx258_0
      replace hx258_1 := cl HB hx258_1
      replace hx258_2 := cl HB hx258_2
      replace hx258_3 := cl HB hx258_3
      replace hx258_4 := cl HB hx258_4
      replace hx258_5 := cl HB hx258_5
      replace hx258_6 := cl HB hx258_6
      replace hx258_7 := cl HB hx258_7
      replace p258 := eq_true p258
      replace q258 := eq_true q258
      refine start_ (n := 7) (S := fun w' => w'.cell? ⟨gb257, 0, none⟩ = some (.int .i64 a1_0) ∧ w'.cell? ⟨gb257, 1, none⟩ = some (.int .i64 a1_1) ∧ w'.cell? ⟨gb257, 2, none⟩ = some (.int .i64 a1_2) ∧ w'.cell? (ad258.add ((x6_1).toNat * 8)) = some (.string ((rd_T68 l0 x6_1).f0)) ∧ w'.cell? ⟨(ad258.add ((x6_1).toNat * 8)).block, (ad258.add ((x6_1).toNat * 8)).off + 1, none⟩ = some (.int .i64 ((rd_T68 l0 x6_1).f1.f0.f0)) ∧ w'.cell? ⟨(ad258.add ((x6_1).toNat * 8)).block, (ad258.add ((x6_1).toNat * 8)).off + 2, none⟩ = some (.int .i64 ((rd_T68 l0 x6_1).f1.f0.f1)) ∧ w'.cell? ⟨(ad258.add ((x6_1).toNat * 8)).block, (ad258.add ((x6_1).toNat * 8)).off + 3, none⟩ = some (.int .i64 ((rd_T68 l0 x6_1).f1.f0.f2)) ∧ w'.cell? ⟨(ad258.add ((x6_1).toNat * 8)).block, (ad258.add ((x6_1).toNat * 8)).off + 4, none⟩ = some (.int .i64 ((rd_T68 l0 x6_1).f1.f1.f0)) ∧ w'.cell? ⟨(ad258.add ((x6_1).toNat * 8)).block, (ad258.add ((x6_1).toNat * 8)).off + 5, none⟩ = some (.int .i64 ((rd_T68 l0 x6_1).f1.f1.f1)) ∧ w'.cell? ⟨(ad258.add ((x6_1).toNat * 8)).block, (ad258.add ((x6_1).toNat * 8)).off + 6, none⟩ = some (.int .i64 ((rd_T68 l0 x6_1).f1.f1.f2)) ∧ w'.cell? ⟨(ad258.add ((x6_1).toNat * 8)).block, (ad258.add ((x6_1).toNat * 8)).off + 7, none⟩ = some (.int .i64 ((rd_T68 l0 x6_1).f2))) (ds := []) #[F,F,F,F,F,F,F] (by kernel_rfl) rfl rfl ⟨(bc BK257.out 0).trans rfl, (bc BK257.out 1).trans rfl, (bc BK257.out 2).trans rfl, ((HB.out.cell (bq w _ hw258_0)).trans hw258_0), ((HB.out.cell (bq w _ hw258_1)).trans hw258_1), ((HB.out.cell (bq w _ hw258_2)).trans hw258_2), ((HB.out.cell (bq w _ hw258_3)).trans hw258_3), ((HB.out.cell (bq w _ hw258_4)).trans hw258_4), ((HB.out.cell (bq w _ hw258_5)).trans hw258_5), ((HB.out.cell (bq w _ hw258_6)).trans hw258_6), ((HB.out.cell (bq w _ hw258_7)).trans hw258_7)⟩ (fun hHeld => ?_)
      generalize wr.drew = w12 at BK257 HB hx258_0 hx258_1 hx258_2 hx258_3 hx258_4 hx258_5 hx258_6 hx258_7 hHeld ⊢
      refine pure_ (i := 0) (N := some 13) (v := ?_) (a' := ?_) #[T,F,F,F,F,F,F] rfl rfl (by kernel_rfl) (fun _ _ _ h => h) (Or.inl ⟨by rfl, ?_⟩) ?_ ?_
      rotate_left
      ·intro w'
       go_simp
       with_reducible rfl
      rotate_left
      ·simp only [Act.put, psl, i64_w, i32_w]
       rfl
      refine pure_ (i := 1) (N := some 14) (v := ?_) (a' := ?_) #[T,T,F,F,F,F,F] rfl rfl (by kernel_rfl) (fun _ _ _ h => h) (Or.inl ⟨by rfl, ?_⟩) ?_ ?_
      rotate_left
      ·intro w'
       go_simp
       with_reducible rfl
      rotate_left
      ·simp only [Act.put, psl, i64_w, i32_w]
       rfl
      refine pure_ (i := 2) (N := some 15) (v := ?_) (a' := ?_) #[T,T,T,F,F,F,F] rfl rfl (by kernel_rfl) (fun _ _ _ h => h) (Or.inl ⟨by rfl, ?_⟩) ?_ ?_
      rotate_left
      ·intro w'
       go_simp
       with_reducible rfl
      rotate_left
      ·simp only [Act.put, psl, i64_w, i32_w]
       rfl
      refine pure_ (i := 3) (N := some 16) (v := ?_) (a' := ?_) #[T,T,T,T,F,F,F] rfl rfl (by kernel_rfl) (fun _ _ _ h => h) (Or.inl ⟨by rfl, ?_⟩) ?_ ?_
      rotate_left
      ·intro w'
       go_simp
       with_reducible rfl
      rotate_left
      ·simp only [Act.put, psl, i64_w, i32_w]
       rfl
      refine take_ (i := 4) (N := some 17) (v := ?_) (a' := ?_) #[T,T,T,T,T,F,F] rfl rfl (by kernel_rfl) (fun _ _ _ h => h) (Or.inl ⟨by rfl, ?_⟩) hHeld ?_ ?_
      rotate_left
      ·rintro w' ⟨s0, s1, s2, s3, s4, s5, s6, s7, s8, s9, s10⟩
       go_simp
       with_reducible rfl
      rotate_left
      ·simp only [Act.put, psl, i64_w, i32_w]
       rfl
      refine take_ (i := 5) (N := some 18) (v := ?_) (a' := ?_) #[T,T,T,T,T,T,F] rfl rfl (by kernel_rfl) (fun _ _ _ h => h) (Or.inl ⟨by rfl, ?_⟩) hHeld ?_ ?_
      rotate_left
      ·rintro w' ⟨s0, s1, s2, s3, s4, s5, s6, s7, s8, s9, s10⟩
       go_simp
       with_reducible rfl
      rotate_left
      ·simp only [Act.put, psl, i64_w, i32_w]
       rfl
      refine one_ (i := 6) (N := some 19) (fl 7 7 []) rfl rfl (by kernel_rfl) (by decide) (fun K hK => ?_)
      refine goes_ Try.func45 (by kernel_rfl) rfl #[.agg #[.int .i64 ((rd_T68 l0 x6_1).f1.f0.f0), .int .i64 ((rd_T68 l0 x6_1).f1.f0.f1), .int .i64 ((rd_T68 l0 x6_1).f1.f0.f2), .int .i64 ((rd_T68 l0 x6_1).f1.f1.f0), .int .i64 ((rd_T68 l0 x6_1).f1.f1.f1), .int .i64 ((rd_T68 l0 x6_1).f1.f1.f2)], .agg #[.int .i64 a1_0, .int .i64 a1_1, .int .i64 a1_2]] (by rfl) rfl rfl (by (try simp only [pml]); first | done | rfl | (simp only [pdt]; rfl)) ?_
      with_reducible refine (r_has.calls k1 ((rd_T68 l0 x6_1).f1.f0.f0) ((rd_T68 l0 x6_1).f1.f0.f1) ((rd_T68 l0 x6_1).f1.f0.f2) ((rd_T68 l0 x6_1).f1.f1.f0) ((rd_T68 l0 x6_1).f1.f1.f1) ((rd_T68 l0 x6_1).f1.f1.f2) a1_0 a1_1 a1_2 false _ A7.out).mono ?_
      rintro e w13 ⟨rfl, hb⟩
      refine ⟨_, rfl, ?_⟩
      have n0_ := bB BK257 hb
      have n1_ := bS HB hb
      clear BK257 HB
      have BK257 := n0_
      have HB := n1_
      clear n0_ n1_
      (try clear hb)
      (try clear hb2)
      (try clear hk)
      (try clear hi)
      refine hK.out _ _ ⟨(bc BK257.out 0).trans rfl, (bc BK257.out 1).trans rfl, (bc BK257.out 2).trans rfl, ((HB.out.cell (bq w _ hw258_0)).trans hw258_0), ((HB.out.cell (bq w _ hw258_1)).trans hw258_1), ((HB.out.cell (bq w _ hw258_2)).trans hw258_2), ((HB.out.cell (bq w _ hw258_3)).trans hw258_3), ((HB.out.cell (bq w _ hw258_4)).trans hw258_4), ((HB.out.cell (bq w _ hw258_5)).trans hw258_5), ((HB.out.cell (bq w _ hw258_6)).trans hw258_6), ((HB.out.cell (bq w _ hw258_7)).trans hw258_7)⟩ (fun hHeld => ?_)
      clear hK K
      refine norm_ (a' := ?_) ?_ ?_
      rotate_left
      ·show Act.put _ (some 19) _ = _
       simp only [Act.put, psl, i64_w, i32_w]
       rfl
      refine done_ (by kernel_rfl) ?_
      try go_wp2
      go_meet
      case rel => exact ⟨_, (x5_1), sqD, H', ⟨by have := HK1.out; first | omega | exact Nat.le_refl _⟩, ⟨fb BK257.out⟩, ⟨fW HB.out⟩⟩
     subst c8
     have H1 : ((r_Join.f k1 x5_1 ((rd_T68 l0 x6_1).f2)).bind fun t261 => (r_State.j1 k1 l0 t261 x6_1 a1_0 a1_1 a1_2)) = some r := by rw [if_pos rfl] at H; exact H
     clear H
     have H := H1
     clear H1
     replace H := Option.bind_eq_some_iff.mp H
     obtain ⟨t261, A90, H⟩ := H
     replace H : (r_State.j1 k1 l0 t261 x6_1 a1_0 a1_1 a1_2) = some r := H
     have A9 := am A90
     clear A90
     have H' := am H
     clear H
     try go_wp2
     have n0_ := am (blk_drew BK257.out)
     have n1_ := am (below_drew1 HB.out)
     clear BK257 HB
     have BK257 := n0_
     have HB := n1_
     clear n0_ n1_
     have p258 : 0 ≤ (x6_1 : Int) := of_decide_eq_true (by assumption)
     have q258 : x6_1 < (l0.length : Int) := of_decide_eq_true (by assumption)
     obtain ⟨ad258, e258, hx258_0, hx258_1, hx258_2, hx258_3, hx258_4, hx258_5, hx258_6, hx258_7⟩ := at_T68 HR0.out x6_1 p258 q258
     have hw258_7 := hx258_7
     have hw258_6 := hx258_6
     have hw258_5 := hx258_5
     have hw258_4 := hx258_4
     have hw258_3 := hx258_3
     have hw258_2 := hx258_2
     have hw258_1 := hx258_1
     have hw258_0 := hx258_0
     cases e258
     replace hx258_0 := cl HB hx258_0
     replace hx258_1 := cl HB hx258_1
     replace hx258_2 := cl HB hx258_2
     replace hx258_3 := cl HB hx258_3
     replace hx258_4 := cl HB hx258_4
     replace hx258_5 := cl HB hx258_5
     replace hx258_6 := cl HB hx258_6
     replace hx258_7 := cl HB hx258_7
     replace p258 := eq_true p258
     replace q258 := eq_true q258
     refine start_ (n := 7) (S := fun w' => w'.cell? ⟨gb257, 0, none⟩ = some (.int .i64 a1_0) ∧ w'.cell? ⟨gb257, 1, none⟩ = some (.int .i64 a1_1) ∧ w'.cell? ⟨gb257, 2, none⟩ = some (.int .i64 a1_2) ∧ w'.cell? (ad258.add ((x6_1).toNat * 8)) = some (.string ((rd_T68 l0 x6_1).f0)) ∧ w'.cell? ⟨(ad258.add ((x6_1).toNat * 8)).block, (ad258.add ((x6_1).toNat * 8)).off + 1, none⟩ = some (.int .i64 ((rd_T68 l0 x6_1).f1.f0.f0)) ∧ w'.cell? ⟨(ad258.add ((x6_1).toNat * 8)).block, (ad258.add ((x6_1).toNat * 8)).off + 2, none⟩ = some (.int .i64 ((rd_T68 l0 x6_1).f1.f0.f1)) ∧ w'.cell? ⟨(ad258.add ((x6_1).toNat * 8)).block, (ad258.add ((x6_1).toNat * 8)).off + 3, none⟩ = some (.int .i64 ((rd_T68 l0 x6_1).f1.f0.f2)) ∧ w'.cell? ⟨(ad258.add ((x6_1).toNat * 8)).block, (ad258.add ((x6_1).toNat * 8)).off + 4, none⟩ = some (.int .i64 ((rd_T68 l0 x6_1).f1.f1.f0)) ∧ w'.cell? ⟨(ad258.add ((x6_1).toNat * 8)).block, (ad258.add ((x6_1).toNat * 8)).off + 5, none⟩ = some (.int .i64 ((rd_T68 l0 x6_1).f1.f1.f1)) ∧ w'.cell? ⟨(ad258.add ((x6_1).toNat * 8)).block, (ad258.add ((x6_1).toNat * 8)).off + 6, none⟩ = some (.int .i64 ((rd_T68 l0 x6_1).f1.f1.f2)) ∧ w'.cell? ⟨(ad258.add ((x6_1).toNat * 8)).block, (ad258.add ((x6_1).toNat * 8)).off + 7, none⟩ = some (.int .i64 ((rd_T68 l0 x6_1).f2))) (ds := []) #[F,F,F,F,F,F,F] (by kernel_rfl) rfl rfl ⟨(bc BK257.out 0).trans rfl, (bc BK257.out 1).trans rfl, (bc BK257.out 2).trans rfl, ((HB.out.cell (bq w _ hw258_0)).trans hw258_0), ((HB.out.cell (bq w _ hw258_1)).trans hw258_1), ((HB.out.cell (bq w _ hw258_2)).trans hw258_2), ((HB.out.cell (bq w _ hw258_3)).trans hw258_3), ((HB.out.cell (bq w _ hw258_4)).trans hw258_4), ((HB.out.cell (bq w _ hw258_5)).trans hw258_5), ((HB.out.cell (bq w _ hw258_6)).trans hw258_6), ((HB.out.cell (bq w _ hw258_7)).trans hw258_7)⟩ (fun hHeld => ?_)
     generalize wr.drew = w10 at BK257 HB hx258_0 hx258_1 hx258_2 hx258_3 hx258_4 hx258_5 hx258_6 hx258_7 hHeld ⊢
     refine pure_ (i := 0) (N := some 13) (v := ?_) (a' := ?_) #[T,F,F,F,F,F,F] rfl rfl (by kernel_rfl) (fun _ _ _ h => h) (Or.inl ⟨by rfl, ?_⟩) ?_ ?_
     rotate_left
     ·intro w'
      go_simp
      with_reducible rfl
     rotate_left
     ·simp only [Act.put, psl, i64_w, i32_w]
      rfl
     refine pure_ (i := 1) (N := some 14) (v := ?_) (a' := ?_) #[T,T,F,F,F,F,F] rfl rfl (by kernel_rfl) (fun _ _ _ h => h) (Or.inl ⟨by rfl, ?_⟩) ?_ ?_
     rotate_left
     ·intro w'
      go_simp
      with_reducible rfl
     rotate_left
     ·simp only [Act.put, psl, i64_w, i32_w]
      rfl
     refine pure_ (i := 2) (N := some 15) (v := ?_) (a' := ?_) #[T,T,T,F,F,F,F] rfl rfl (by kernel_rfl) (fun _ _ _ h => h) (Or.inl ⟨by rfl, ?_⟩) ?_ ?_
     rotate_left
     ·intro w'
      go_simp
      with_reducible rfl
     rotate_left
     ·simp only [Act.put, psl, i64_w, i32_w]
      rfl
     refine pure_ (i := 3) (N := some 16) (v := ?_) (a' := ?_) #[T,T,T,T,F,F,F] rfl rfl (by kernel_rfl) (fun _ _ _ h => h) (Or.inl ⟨by rfl, ?_⟩) ?_ ?_
     rotate_left
     ·intro w'
      go_simp
      with_reducible rfl
     rotate_left
     ·simp only [Act.put, psl, i64_w, i32_w]
      rfl
     refine take_ (i := 4) (N := some 17) (v := ?_) (a' := ?_) #[T,T,T,T,T,F,F] rfl rfl (by kernel_rfl) (fun _ _ _ h => h) (Or.inl ⟨by rfl, ?_⟩) hHeld ?_ ?_
     rotate_left
     ·rintro w' ⟨s0, s1, s2, s3, s4, s5, s6, s7, s8, s9, s10⟩
      go_simp
      with_reducible rfl
     rotate_left
     ·simp only [Act.put, psl, i64_w, i32_w]
      rfl
     refine take_ (i := 5) (N := some 18) (v := ?_) (a' := ?_) #[T,T,T,T,T,T,F] rfl rfl (by kernel_rfl) (fun _ _ _ h => h) (Or.inl ⟨by rfl, ?_⟩) hHeld ?_ ?_
     rotate_left
     ·rintro w' ⟨s0, s1, s2, s3, s4, s5, s6, s7, s8, s9, s10⟩
      go_simp
      with_reducible rfl
     rotate_left
     ·simp only [Act.put, psl, i64_w, i32_w]
      rfl
     refine one_ (i := 6) (N := some 19) (fl 7 7 []) rfl rfl (by kernel_rfl) (by decide) (fun K hK => ?_)
     refine goes_ Try.func45 (by kernel_rfl) rfl #[.agg #[.int .i64 ((rd_T68 l0 x6_1).f1.f0.f0), .int .i64 ((rd_T68 l0 x6_1).f1.f0.f1), .int .i64 ((rd_T68 l0 x6_1).f1.f0.f2), .int .i64 ((rd_T68 l0 x6_1).f1.f1.f0), .int .i64 ((rd_T68 l0 x6_1).f1.f1.f1), .int .i64 ((rd_T68 l0 x6_1).f1.f1.f2)], .agg #[.int .i64 a1_0, .int .i64 a1_1, .int .i64 a1_2]] (by rfl) rfl rfl (by (try simp only [pml]); first | done | rfl | (simp only [pdt]; rfl)) ?_
     with_reducible refine (r_has.calls k1 ((rd_T68 l0 x6_1).f1.f0.f0) ((rd_T68 l0 x6_1).f1.f0.f1) ((rd_T68 l0 x6_1).f1.f0.f2) ((rd_T68 l0 x6_1).f1.f1.f0) ((rd_T68 l0 x6_1).f1.f1.f1) ((rd_T68 l0 x6_1).f1.f1.f2) a1_0 a1_1 a1_2 true _ A7.out).mono ?_
     rintro e w11 ⟨rfl, hb⟩
     refine ⟨_, rfl, ?_⟩
     have n0_ := bB BK257 hb
     have n1_ := bS HB hb
     clear BK257 HB
     have BK257 := n0_
     have HB := n1_
     clear n0_ n1_
     (try clear hb)
     (try clear hb2)
     (try clear hk)
     (try clear hi)
     refine hK.out _ _ ⟨(bc BK257.out 0).trans rfl, (bc BK257.out 1).trans rfl, (bc BK257.out 2).trans rfl, ((HB.out.cell (bq w _ hw258_0)).trans hw258_0), ((HB.out.cell (bq w _ hw258_1)).trans hw258_1), ((HB.out.cell (bq w _ hw258_2)).trans hw258_2), ((HB.out.cell (bq w _ hw258_3)).trans hw258_3), ((HB.out.cell (bq w _ hw258_4)).trans hw258_4), ((HB.out.cell (bq w _ hw258_5)).trans hw258_5), ((HB.out.cell (bq w _ hw258_6)).trans hw258_6), ((HB.out.cell (bq w _ hw258_7)).trans hw258_7)⟩ (fun hHeld => ?_)
     clear hK K
     refine norm_ (a' := ?_) ?_ ?_
     rotate_left
     ·show Act.put _ (some 19) _ = _
      simp only [Act.put, psl, i64_w, i32_w]
      rfl
     refine done_ (by kernel_rfl) ?_
     have p260 : 0 ≤ (x6_1 : Int) := of_decide_eq_true (by assumption)
     have q260 : x6_1 < (l0.length : Int) := of_decide_eq_true (by assumption)
     obtain ⟨ad260, e260, hx260_0, hx260_1, hx260_2, hx260_3, hx260_4, hx260_5, hx260_6, hx260_7⟩ := at_T68 HR0.out x6_1 p260 q260
     obtain rfl : ad258 = ad260 := (by injection e260)
     replace hx260_0 := cl HB hx260_0
     replace hx260_1 := cl HB hx260_1
     replace hx260_2 := cl HB hx260_2
     replace hx260_3 := cl HB hx260_3
     replace hx260_4 := cl HB hx260_4
     replace hx260_5 := cl HB hx260_5
     replace hx260_6 := cl HB hx260_6
     replace hx260_7 := cl HB hx260_7
     replace p260 := eq_true p260
     replace q260 := eq_true q260
     try go_wp2_with (first | ((with_reducible refine gate_callee (f := 46) rfl ?_); refine goesL_ (some 26) rfl rfl Try.func46 (by kernel_rfl) rfl #[.int .i64 x5_1, .int .i64 ((rd_T68 l0 x6_1).f2)] rfl (by (try simp only [pml]); first | done | rfl | (simp only [pdt]; rfl)) ?_; (with_reducible refine (r_Join.calls k1 x5_1 ((rd_T68 l0 x6_1).f2) t261 _ A9.out).mono ?_); rintro e w' ⟨rfl, ⟨nd, rfl⟩⟩; refine ⟨_, rfl, ?_⟩))
     go_meet
     case rel => exact ⟨_, (t261), sqD, H', ⟨by have := HK1.out; first | omega | exact Nat.le_refl _⟩, ⟨fb BK257.out⟩, ⟨fW HB.out⟩⟩
    case rest =>
     clear HC5
     try clear c1;try clear p2;try clear q2;try clear hx2;try clear c4;try clear c4b0;try clear c6;try clear c6b0;try clear c8;try clear hx258_0;try clear hx258_1;try clear hx258_2;try clear hx258_3;try clear hx258_4;try clear hx258_5;try clear hx258_6;try clear hx258_7;try clear hx260_0;try clear hx260_1;try clear hx260_2;try clear hx260_3;try clear hx260_4;try clear hx260_5;try clear hx260_6;try clear hx260_7;try clear p2;try clear p258;try clear p260;try clear q258;try clear q260
     obtain ⟨kq, x5_4, rfl, HA, HJ4, BK257, HB⟩ := hcut
     cases kq with
     | zero => exact absurd HA.out (by simp [r_State.j1])
     | succ kj4 =>
      have H := HA.out
      clear HA
      simp only [r_State.j1] at H
      have H' := am H
      clear H
      go_wp2
      go_roundg kj4
      case measure => have := HK1.out; have := HJ4.out; omega
      case rel => exact ⟨(x5_4), (wrap64 (x6_1 + 1)), sqD, sqD, H', ⟨by have := HK1.out; have := HJ4.out; omega⟩, ⟨fb BK257.out⟩, ⟨fW HB.out⟩⟩
   ·rw [if_neg c4] at H
    have c4b0 : decide (x6_1 < (l0.length : Int)) = false := decide_eq_false c4
    clear c4
    obtain rfl := Option.some.inj H
    go_wp2
    go_ret
    exact ⟨sqE, fW HB.out⟩

end Go.Proofs.Ytcofgnbopodahaa.QA
