import Derived.Test.YtmmdikhmlmoolaaZBxM
import Derived.Test.YtmmdikhmlmoolaaZBx5r
import Derived.Test.YtmmdikhmlmoolaaZMkW
import Derived.Test.YtmmdikhmlmoolaaZQAx17
import Derived.Test.YtmmdikhmlmoolaaZQAx16
import Derived.Test.YtmmdikhmlmoolaaZQAx18
import Derived.Test.YtmmdikhmlmoolaaZQAx15
import Derived.Test.YtmmdikhmlmoolaaZQAx3
import Derived.Test.YtmmdikhmlmoolaaZQAx10
import Derived.Test.YtmmdikhmlmoolaaZQAx12
import Derived.Test.YtmmdikhmlmoolaaZQAx4
namespace Go.Proofs.Ytmmdikhmlmoolaa.Pure
open Go.RowKit Go.Proofs.Ytmmdikhmlmoolaa.QA Go.Proofs.YtmmdikhmlmoolaaW.PrintWords Go.Proofs.YtmmdikhmlmoolaaW.PrintLast Go.Proofs.YtmmdikhmlmoolaaW.PrintMore Go.Proofs.Ytmmdikhmlmoolaa.EvKit Go.Proofs.Ytmmdikhmlmoolaa.Bx
set_option linter.unusedVariables false
set_option linter.unusedSimpArgs false
theorem chk_6 (x : S25) (h0 : x.f0.f0 < x.f1.f0) (h1 : x.f0.f1 < x.f1.f1) (h2 : x.f0.f2 < x.f1.f2) (h : chk x ≠ 0) : chk x = 6 := by
  have e : (if x.f0.f0 < x.f1.f0 ∧ x.f0.f1 < x.f1.f1 ∧ x.f0.f2 < x.f1.f2 then (0 : Int) else 1) = 0 := if_pos ⟨h0, h1, h2⟩
  unfold chk at h ⊢
  rw [e] at h ⊢
  split
  · rename_i hc; rw [if_pos hc] at h; exact absurd rfl h
  · rfl
theorem bad_step {g : Nat → Option (Int × Int × Int × Int × Int × Int × Int)} {n : Int} (h : ¬ (-2000000 ≤ n ∧ n ≤ 2000000)) : Ev (fun k => if n < (-2000000) then some (0, 0, 0, 0, 0, 0, 6) else ((some n).bind fun m => if m > 2000000 then some (0, 0, 0, 0, 0, 0, 6) else g k)) ((0, 0, 0, 0, 0, 0, 6) : Int × Int × Int × Int × Int × Int × Int) :=
  Ev.ite (fun _ => Ev.now _) (fun c => Ev.cbind rfl (Ev.pos (by omega) (Ev.now _)))
theorem good_step {g : Nat → Option (Int × Int × Int × Int × Int × Int × Int)} {n : Int} {r : Int × Int × Int × Int × Int × Int × Int} (h : -2000000 ≤ n ∧ n ≤ 2000000) (hg : Ev g r) : Ev (fun k => if n < (-2000000) then some (0, 0, 0, 0, 0, 0, 6) else ((some n).bind fun m => if m > 2000000 then some (0, 0, 0, 0, 0, 0, 6) else g k)) r :=
  Ev.neg (by omega) (Ev.cbind rfl (Ev.neg (by omega) hg))
def Z6 : Int × Int × Int × Int × Int × Int × Int := (0, 0, 0, 0, 0, 0, 6)
def mvR (x : S25) (b0 b1 b2 : Int) : Int × Int × Int × Int × Int × Int × Int := (x.f0.f0 + b0, x.f0.f1 + b1, x.f0.f2 + b2, x.f1.f0 + b0, x.f1.f1 + b1, x.f1.f2 + b2, 0)
theorem rmove_is (x : S25) (b0 b1 b2 : Int) (hv : V x) (r : Int × Int × Int × Int × Int × Int × Int) (hg : okM x b0 b1 b2 → r = mvR x b0 b1 b2) (hb : ¬ okM x b0 b1 b2 → r = Z6) : Ev (fun k => r_Move.f k x.f0.f0 x.f0.f1 x.f0.f2 x.f1.f0 x.f1.f1 x.f1.f2 b0 b1 b2) r := by
  unfold r_Move.f
  refine Ev.succ ?_
  simp only [r_Move.l0]
  refine Ev.pos (by decide) (Ev.cbind (at0 b0 b1 b2) ?_)
  rw [at0]
  by_cases h0 : -2000000 ≤ b0 ∧ b0 ≤ 2000000
  rotate_left
  · rw [hb (fun h => h0 h.h0)]; exact bad_step h0
  refine good_step h0 ?_
  rw [w1]
  refine Ev.succ ?_
  simp only [r_Move.l0]
  refine Ev.pos (by decide) (Ev.cbind (at1 b0 b1 b2) ?_)
  rw [at1]
  by_cases h1 : -2000000 ≤ b1 ∧ b1 ≤ 2000000
  rotate_left
  · rw [hb (fun h => h1 h.h1)]; exact bad_step h1
  refine good_step h1 ?_
  rw [w2]
  refine Ev.succ ?_
  simp only [r_Move.l0]
  refine Ev.pos (by decide) (Ev.cbind (at2 b0 b1 b2) ?_)
  rw [at2]
  by_cases h2 : -2000000 ≤ b2 ∧ b2 ≤ 2000000
  rotate_left
  · rw [hb (fun h => h2 h.h2)]; exact bad_step h2
  refine good_step h2 ?_
  rw [w3]
  refine Ev.succ ?_
  simp only [r_Move.l0]
  obtain ⟨r0, r1, r2, r3, r4, r5, l0, l1, l2⟩ := hv
  have e0 : wrap64 (x.f0.f0 + b0) = x.f0.f0 + b0 := w64 (by omega) (by omega)
  have e1 : wrap64 (x.f0.f1 + b1) = x.f0.f1 + b1 := w64 (by omega) (by omega)
  have e2 : wrap64 (x.f0.f2 + b2) = x.f0.f2 + b2 := w64 (by omega) (by omega)
  have e3 : wrap64 (x.f1.f0 + b0) = x.f1.f0 + b0 := w64 (by omega) (by omega)
  have e4 : wrap64 (x.f1.f1 + b1) = x.f1.f1 + b1 := w64 (by omega) (by omega)
  have e5 : wrap64 (x.f1.f2 + b2) = x.f1.f2 + b2 := w64 (by omega) (by omega)
  have hc := rcheck_ev (mvS x b0 b1 b2)
  simp only [r_Add.f, Option.bind_some, e0, e1, e2, e3, e4, e5]
  refine Ev.neg (by decide) (Ev.bind hc ?_)
  by_cases h : chk (mvS x b0 b1 b2) = 0
  · rw [hg ⟨h0, h1, h2, (chk0 _).1 h⟩]
    exact Ev.pos h (Ev.now _)
  · rw [hb (fun hh => h ((chk0 _).2 hh.v))]
    refine Ev.neg h (Ev.eq (Ev.now _) ?_)
    rw [chk_6 (mvS x b0 b1 b2) (by simp only [mvS]; omega) (by simp only [mvS]; omega) (by simp only [mvS]; omega) h]
    rfl
def hul (x y : S25) : S25 := ⟨⟨mn x.f0.f0 y.f0.f0, mn x.f0.f1 y.f0.f1, mn x.f0.f2 y.f0.f2⟩, ⟨mx x.f1.f0 y.f1.f0, mx x.f1.f1 y.f1.f1, mx x.f1.f2 y.f1.f2⟩⟩
theorem hull_is (x y : S25) : box_Hull.f x.f0.f0 x.f0.f1 x.f0.f2 x.f1.f0 x.f1.f1 x.f1.f2 y.f0.f0 y.f0.f1 y.f0.f2 y.f1.f0 y.f1.f1 y.f1.f2 = some (if two x y = 0 then ((hul x y).f0.f0, (hul x y).f0.f1, (hul x y).f0.f2, (hul x y).f1.f0, (hul x y).f1.f1, (hul x y).f1.f2, 0) else (0, 0, 0, 0, 0, 0, two x y)) := rfl
set_option maxHeartbeats 4000000 in
theorem makes_all (x y : S25) (b0 b1 b2 : Int) (w : World) : Calls Try.prog 5 #[.agg #[.int .i64 x.f0.f0, .int .i64 x.f0.f1, .int .i64 x.f0.f2, .int .i64 x.f1.f0, .int .i64 x.f1.f1, .int .i64 x.f1.f2], .agg #[.int .i64 y.f0.f0, .int .i64 y.f0.f1, .int .i64 y.f0.f2, .int .i64 y.f1.f0, .int .i64 y.f1.f1, .int .i64 y.f1.f2], .agg #[.int .i64 b0, .int .i64 b1, .int .i64 b2]] w fun e w' => e = .returned (.bool true) ∧ Below w.heap.size w w' := by
  obtain ⟨k1, hk1⟩ := Ev.rounds (rcheck_ev x)
  obtain ⟨k5, hk5⟩ := Ev.rounds (int_ev x y)
  obtain ⟨k6, hk6⟩ := Ev.rounds (both_ev x y)
  obtain ⟨k7, hk7⟩ := Ev.rounds (rint_ev x y)
  have C11 := fun W => w_awake.calls true W rfl
  have C21 := fun W => box_Size.calls x.f0.f0 x.f0.f1 x.f0.f2 x.f1.f0 x.f1.f1 x.f1.f2 (wrap64 (x.f1.f0 - x.f0.f0)) (wrap64 (x.f1.f1 - x.f0.f1)) (wrap64 (x.f1.f2 - x.f0.f2)) W rfl
  have C22 := fun W => r_Size.calls x.f0.f0 x.f0.f1 x.f0.f2 x.f1.f0 x.f1.f1 x.f1.f2 (wrap64 (x.f1.f0 - x.f0.f0)) (wrap64 (x.f1.f1 - x.f0.f1)) (wrap64 (x.f1.f2 - x.f0.f2)) W rfl
  by_cases h : chk x = 0
  · have hv := (chk0 x).1 h
    rw [h] at hk1
    have hq := check_is x
    rw [h] at hq
    have C19 := fun W => r_Check.calls k1 x.f0.f0 x.f0.f1 x.f0.f2 x.f1.f0 x.f1.f1 x.f1.f2 0 W hk1
    have C20 := fun W => box_Check.calls x.f0.f0 x.f0.f1 x.f0.f2 x.f1.f0 x.f1.f1 x.f1.f2 0 W hq
    have C16 := fun W => box_Volume.calls x.f0.f0 x.f0.f1 x.f0.f2 x.f1.f0 x.f1.f1 x.f1.f2 (volS x) 0 W (vol_is x hv)
    have C24 := fun W => r_Volume.calls x.f0.f0 x.f0.f1 x.f0.f2 x.f1.f0 x.f1.f1 x.f1.f2 (volS x) W (volume_is x hv).1
    by_cases ho : okM x b0 b1 b2
    · obtain ⟨k3, hk3⟩ := Ev.rounds (rmove_is x b0 b1 b2 hv (mvR x b0 b1 b2) (fun _ => rfl) (fun hn => absurd ho hn))
      have C15 := fun W => box_Move.calls x.f0.f0 x.f0.f1 x.f0.f2 x.f1.f0 x.f1.f1 x.f1.f2 b0 b1 b2 (x.f0.f0 + b0) (x.f0.f1 + b1) (x.f0.f2 + b2) (x.f1.f0 + b0) (x.f1.f1 + b1) (x.f1.f2 + b2) 0 W (move_good x b0 b1 b2 hv ho)
      have C23 := fun W => r_Move.calls k3 x.f0.f0 x.f0.f1 x.f0.f2 x.f1.f0 x.f1.f1 x.f1.f2 b0 b1 b2 (x.f0.f0 + b0) (x.f0.f1 + b1) (x.f0.f2 + b2) (x.f1.f0 + b0) (x.f1.f1 + b1) (x.f1.f2 + b2) 0 W hk3
      by_cases ht : two x y = 0
      rotate_left
      · have hI : intS x y = (0, 0, 0, 0, 0, 0, two x y) := by unfold intS; rw [if_neg ht]
        rw [hI] at hk5
        have hH : box_Hull.f x.f0.f0 x.f0.f1 x.f0.f2 x.f1.f0 x.f1.f1 x.f1.f2 y.f0.f0 y.f0.f1 y.f0.f2 y.f1.f0 y.f1.f1 y.f1.f2 = some (0, 0, 0, 0, 0, 0, two x y) := by have := hull_is x y; rw [if_neg ht] at this; exact this
        have C25 := fun W => box_Intersect.calls k5 x.f0.f0 x.f0.f1 x.f0.f2 x.f1.f0 x.f1.f1 x.f1.f2 y.f0.f0 y.f0.f1 y.f0.f2 y.f1.f0 y.f1.f1 y.f1.f2 0 0 0 0 0 0 (two x y) W hk5
        have C26 := fun W => box_Hull.calls x.f0.f0 x.f0.f1 x.f0.f2 x.f1.f0 x.f1.f1 x.f1.f2 y.f0.f0 y.f0.f1 y.f0.f2 y.f1.f0 y.f1.f1 y.f1.f2 0 0 0 0 0 0 (two x y) W hH
        have C27 := fun W => w_both.calls k6 x.f0.f0 x.f0.f1 x.f0.f2 x.f1.f0 x.f1.f1 x.f1.f2 y.f0.f0 y.f0.f1 y.f0.f2 y.f1.f0 y.f1.f1 y.f1.f2 (two x y) W hk6
        exact makes_good_two x.f0.f0 x.f0.f1 x.f0.f2 x.f1.f0 x.f1.f1 x.f1.f2 y.f0.f0 y.f0.f1 y.f0.f2 y.f1.f0 y.f1.f1 y.f1.f2 b0 b1 b2 (x.f0.f0 + b0) (x.f0.f1 + b1) (x.f0.f2 + b2) (x.f1.f0 + b0) (x.f1.f1 + b1) (x.f1.f2 + b2) 0 0 0 0 0 0 0 0 0 0 0 0 (chk x) (volS x) 0 (two x y) (wrap64 (x.f1.f0 - x.f0.f0)) (wrap64 (x.f1.f1 - x.f0.f1)) (wrap64 (x.f1.f2 - x.f0.f2)) w ht C11 C19 C16 C15 C20 C21 C22 C23 C24 C25 C26 C27
      · have hH : box_Hull.f x.f0.f0 x.f0.f1 x.f0.f2 x.f1.f0 x.f1.f1 x.f1.f2 y.f0.f0 y.f0.f1 y.f0.f2 y.f1.f0 y.f1.f1 y.f1.f2 = some ((hul x y).f0.f0, (hul x y).f0.f1, (hul x y).f0.f2, (hul x y).f1.f0, (hul x y).f1.f1, (hul x y).f1.f2, 0) := by have := hull_is x y; rw [if_pos ht] at this; exact this
        rw [ht] at hk6
        have C26 := fun W => box_Hull.calls x.f0.f0 x.f0.f1 x.f0.f2 x.f1.f0 x.f1.f1 x.f1.f2 y.f0.f0 y.f0.f1 y.f0.f2 y.f1.f0 y.f1.f1 y.f1.f2 (hul x y).f0.f0 (hul x y).f0.f1 (hul x y).f0.f2 (hul x y).f1.f0 (hul x y).f1.f1 (hul x y).f1.f2 0 W hH
        have C27 := fun W => w_both.calls k6 x.f0.f0 x.f0.f1 x.f0.f2 x.f1.f0 x.f1.f1 x.f1.f2 y.f0.f0 y.f0.f1 y.f0.f2 y.f1.f0 y.f1.f1 y.f1.f2 0 W hk6
        have C29 := fun W => r_Hull.calls x.f0.f0 x.f0.f1 x.f0.f2 x.f1.f0 x.f1.f1 x.f1.f2 y.f0.f0 y.f0.f1 y.f0.f2 y.f1.f0 y.f1.f1 y.f1.f2 (hul x y).f0.f0 (hul x y).f0.f1 (hul x y).f0.f2 (hul x y).f1.f0 (hul x y).f1.f1 (hul x y).f1.f2 W rfl
        cases ho : ovB x y with
        | true =>
          have hI : intS x y = ((com x y).f0.f0, (com x y).f0.f1, (com x y).f0.f2, (com x y).f1.f0, (com x y).f1.f1, (com x y).f1.f2, 0) := by unfold intS; rw [if_pos ht, ho]; rfl
          have hJ : rintS x y = ((com x y).f0.f0, (com x y).f0.f1, (com x y).f0.f2, (com x y).f1.f0, (com x y).f1.f1, (com x y).f1.f2, true) := by unfold rintS; rw [ho]; rfl
          rw [hI] at hk5
          rw [hJ] at hk7
          have C25 := fun W => box_Intersect.calls k5 x.f0.f0 x.f0.f1 x.f0.f2 x.f1.f0 x.f1.f1 x.f1.f2 y.f0.f0 y.f0.f1 y.f0.f2 y.f1.f0 y.f1.f1 y.f1.f2 (com x y).f0.f0 (com x y).f0.f1 (com x y).f0.f2 (com x y).f1.f0 (com x y).f1.f1 (com x y).f1.f2 0 W hk5
          have C28 := fun W => r_Intersect.calls k7 x.f0.f0 x.f0.f1 x.f0.f2 x.f1.f0 x.f1.f1 x.f1.f2 y.f0.f0 y.f0.f1 y.f0.f2 y.f1.f0 y.f1.f1 y.f1.f2 (com x y).f0.f0 (com x y).f0.f1 (com x y).f0.f2 (com x y).f1.f0 (com x y).f1.f1 (com x y).f1.f2 true W hk7
          exact makes_good_ok x.f0.f0 x.f0.f1 x.f0.f2 x.f1.f0 x.f1.f1 x.f1.f2 y.f0.f0 y.f0.f1 y.f0.f2 y.f1.f0 y.f1.f1 y.f1.f2 b0 b1 b2 (x.f0.f0 + b0) (x.f0.f1 + b1) (x.f0.f2 + b2) (x.f1.f0 + b0) (x.f1.f1 + b1) (x.f1.f2 + b2) (com x y).f0.f0 (com x y).f0.f1 (com x y).f0.f2 (com x y).f1.f0 (com x y).f1.f1 (com x y).f1.f2 (hul x y).f0.f0 (hul x y).f0.f1 (hul x y).f0.f2 (hul x y).f1.f0 (hul x y).f1.f1 (hul x y).f1.f2 (chk x) (volS x) 0 (two x y) (wrap64 (x.f1.f0 - x.f0.f0)) (wrap64 (x.f1.f1 - x.f0.f1)) (wrap64 (x.f1.f2 - x.f0.f2)) w C11 C19 C16 C15 C20 C21 C22 C23 C24 C25 C26 C27 C28 C29
        | false =>
          have hI : intS x y = (0, 0, 0, 0, 0, 0, 9) := by unfold intS; rw [if_pos ht, ho]; rfl
          have hJ : rintS x y = (0, 0, 0, 0, 0, 0, false) := by unfold rintS; rw [ho]; rfl
          rw [hI] at hk5
          rw [hJ] at hk7
          have C25 := fun W => box_Intersect.calls k5 x.f0.f0 x.f0.f1 x.f0.f2 x.f1.f0 x.f1.f1 x.f1.f2 y.f0.f0 y.f0.f1 y.f0.f2 y.f1.f0 y.f1.f1 y.f1.f2 0 0 0 0 0 0 9 W hk5
          have C28 := fun W => r_Intersect.calls k7 x.f0.f0 x.f0.f1 x.f0.f2 x.f1.f0 x.f1.f1 x.f1.f2 y.f0.f0 y.f0.f1 y.f0.f2 y.f1.f0 y.f1.f1 y.f1.f2 0 0 0 0 0 0 false W hk7
          exact makes_good_none x.f0.f0 x.f0.f1 x.f0.f2 x.f1.f0 x.f1.f1 x.f1.f2 y.f0.f0 y.f0.f1 y.f0.f2 y.f1.f0 y.f1.f1 y.f1.f2 b0 b1 b2 (x.f0.f0 + b0) (x.f0.f1 + b1) (x.f0.f2 + b2) (x.f1.f0 + b0) (x.f1.f1 + b1) (x.f1.f2 + b2) 0 0 0 0 0 0 (hul x y).f0.f0 (hul x y).f0.f1 (hul x y).f0.f2 (hul x y).f1.f0 (hul x y).f1.f1 (hul x y).f1.f2 (chk x) (volS x) 0 (two x y) (wrap64 (x.f1.f0 - x.f0.f0)) (wrap64 (x.f1.f1 - x.f0.f1)) (wrap64 (x.f1.f2 - x.f0.f2)) w C11 C19 C16 C15 C20 C21 C22 C23 C24 C25 C26 C27 C28 C29
    · obtain ⟨k3, hk3⟩ := Ev.rounds (rmove_is x b0 b1 b2 hv Z6 (fun hn => absurd hn ho) (fun _ => rfl))
      have C15 := fun W => box_Move.calls x.f0.f0 x.f0.f1 x.f0.f2 x.f1.f0 x.f1.f1 x.f1.f2 b0 b1 b2 0 0 0 0 0 0 6 W (move_bad x b0 b1 b2 hv ho)
      have C23 := fun W => r_Move.calls k3 x.f0.f0 x.f0.f1 x.f0.f2 x.f1.f0 x.f1.f1 x.f1.f2 b0 b1 b2 0 0 0 0 0 0 6 W hk3
      by_cases ht : two x y = 0
      rotate_left
      · have hI : intS x y = (0, 0, 0, 0, 0, 0, two x y) := by unfold intS; rw [if_neg ht]
        rw [hI] at hk5
        have hH : box_Hull.f x.f0.f0 x.f0.f1 x.f0.f2 x.f1.f0 x.f1.f1 x.f1.f2 y.f0.f0 y.f0.f1 y.f0.f2 y.f1.f0 y.f1.f1 y.f1.f2 = some (0, 0, 0, 0, 0, 0, two x y) := by have := hull_is x y; rw [if_neg ht] at this; exact this
        have C25 := fun W => box_Intersect.calls k5 x.f0.f0 x.f0.f1 x.f0.f2 x.f1.f0 x.f1.f1 x.f1.f2 y.f0.f0 y.f0.f1 y.f0.f2 y.f1.f0 y.f1.f1 y.f1.f2 0 0 0 0 0 0 (two x y) W hk5
        have C26 := fun W => box_Hull.calls x.f0.f0 x.f0.f1 x.f0.f2 x.f1.f0 x.f1.f1 x.f1.f2 y.f0.f0 y.f0.f1 y.f0.f2 y.f1.f0 y.f1.f1 y.f1.f2 0 0 0 0 0 0 (two x y) W hH
        have C27 := fun W => w_both.calls k6 x.f0.f0 x.f0.f1 x.f0.f2 x.f1.f0 x.f1.f1 x.f1.f2 y.f0.f0 y.f0.f1 y.f0.f2 y.f1.f0 y.f1.f1 y.f1.f2 (two x y) W hk6
        exact makes_good_two x.f0.f0 x.f0.f1 x.f0.f2 x.f1.f0 x.f1.f1 x.f1.f2 y.f0.f0 y.f0.f1 y.f0.f2 y.f1.f0 y.f1.f1 y.f1.f2 b0 b1 b2 0 0 0 0 0 0 0 0 0 0 0 0 0 0 0 0 0 0 (chk x) (volS x) 6 (two x y) (wrap64 (x.f1.f0 - x.f0.f0)) (wrap64 (x.f1.f1 - x.f0.f1)) (wrap64 (x.f1.f2 - x.f0.f2)) w ht C11 C19 C16 C15 C20 C21 C22 C23 C24 C25 C26 C27
      · have hH : box_Hull.f x.f0.f0 x.f0.f1 x.f0.f2 x.f1.f0 x.f1.f1 x.f1.f2 y.f0.f0 y.f0.f1 y.f0.f2 y.f1.f0 y.f1.f1 y.f1.f2 = some ((hul x y).f0.f0, (hul x y).f0.f1, (hul x y).f0.f2, (hul x y).f1.f0, (hul x y).f1.f1, (hul x y).f1.f2, 0) := by have := hull_is x y; rw [if_pos ht] at this; exact this
        rw [ht] at hk6
        have C26 := fun W => box_Hull.calls x.f0.f0 x.f0.f1 x.f0.f2 x.f1.f0 x.f1.f1 x.f1.f2 y.f0.f0 y.f0.f1 y.f0.f2 y.f1.f0 y.f1.f1 y.f1.f2 (hul x y).f0.f0 (hul x y).f0.f1 (hul x y).f0.f2 (hul x y).f1.f0 (hul x y).f1.f1 (hul x y).f1.f2 0 W hH
        have C27 := fun W => w_both.calls k6 x.f0.f0 x.f0.f1 x.f0.f2 x.f1.f0 x.f1.f1 x.f1.f2 y.f0.f0 y.f0.f1 y.f0.f2 y.f1.f0 y.f1.f1 y.f1.f2 0 W hk6
        have C29 := fun W => r_Hull.calls x.f0.f0 x.f0.f1 x.f0.f2 x.f1.f0 x.f1.f1 x.f1.f2 y.f0.f0 y.f0.f1 y.f0.f2 y.f1.f0 y.f1.f1 y.f1.f2 (hul x y).f0.f0 (hul x y).f0.f1 (hul x y).f0.f2 (hul x y).f1.f0 (hul x y).f1.f1 (hul x y).f1.f2 W rfl
        cases ho : ovB x y with
        | true =>
          have hI : intS x y = ((com x y).f0.f0, (com x y).f0.f1, (com x y).f0.f2, (com x y).f1.f0, (com x y).f1.f1, (com x y).f1.f2, 0) := by unfold intS; rw [if_pos ht, ho]; rfl
          have hJ : rintS x y = ((com x y).f0.f0, (com x y).f0.f1, (com x y).f0.f2, (com x y).f1.f0, (com x y).f1.f1, (com x y).f1.f2, true) := by unfold rintS; rw [ho]; rfl
          rw [hI] at hk5
          rw [hJ] at hk7
          have C25 := fun W => box_Intersect.calls k5 x.f0.f0 x.f0.f1 x.f0.f2 x.f1.f0 x.f1.f1 x.f1.f2 y.f0.f0 y.f0.f1 y.f0.f2 y.f1.f0 y.f1.f1 y.f1.f2 (com x y).f0.f0 (com x y).f0.f1 (com x y).f0.f2 (com x y).f1.f0 (com x y).f1.f1 (com x y).f1.f2 0 W hk5
          have C28 := fun W => r_Intersect.calls k7 x.f0.f0 x.f0.f1 x.f0.f2 x.f1.f0 x.f1.f1 x.f1.f2 y.f0.f0 y.f0.f1 y.f0.f2 y.f1.f0 y.f1.f1 y.f1.f2 (com x y).f0.f0 (com x y).f0.f1 (com x y).f0.f2 (com x y).f1.f0 (com x y).f1.f1 (com x y).f1.f2 true W hk7
          exact makes_good_ok x.f0.f0 x.f0.f1 x.f0.f2 x.f1.f0 x.f1.f1 x.f1.f2 y.f0.f0 y.f0.f1 y.f0.f2 y.f1.f0 y.f1.f1 y.f1.f2 b0 b1 b2 0 0 0 0 0 0 (com x y).f0.f0 (com x y).f0.f1 (com x y).f0.f2 (com x y).f1.f0 (com x y).f1.f1 (com x y).f1.f2 (hul x y).f0.f0 (hul x y).f0.f1 (hul x y).f0.f2 (hul x y).f1.f0 (hul x y).f1.f1 (hul x y).f1.f2 (chk x) (volS x) 6 (two x y) (wrap64 (x.f1.f0 - x.f0.f0)) (wrap64 (x.f1.f1 - x.f0.f1)) (wrap64 (x.f1.f2 - x.f0.f2)) w C11 C19 C16 C15 C20 C21 C22 C23 C24 C25 C26 C27 C28 C29
        | false =>
          have hI : intS x y = (0, 0, 0, 0, 0, 0, 9) := by unfold intS; rw [if_pos ht, ho]; rfl
          have hJ : rintS x y = (0, 0, 0, 0, 0, 0, false) := by unfold rintS; rw [ho]; rfl
          rw [hI] at hk5
          rw [hJ] at hk7
          have C25 := fun W => box_Intersect.calls k5 x.f0.f0 x.f0.f1 x.f0.f2 x.f1.f0 x.f1.f1 x.f1.f2 y.f0.f0 y.f0.f1 y.f0.f2 y.f1.f0 y.f1.f1 y.f1.f2 0 0 0 0 0 0 9 W hk5
          have C28 := fun W => r_Intersect.calls k7 x.f0.f0 x.f0.f1 x.f0.f2 x.f1.f0 x.f1.f1 x.f1.f2 y.f0.f0 y.f0.f1 y.f0.f2 y.f1.f0 y.f1.f1 y.f1.f2 0 0 0 0 0 0 false W hk7
          exact makes_good_none x.f0.f0 x.f0.f1 x.f0.f2 x.f1.f0 x.f1.f1 x.f1.f2 y.f0.f0 y.f0.f1 y.f0.f2 y.f1.f0 y.f1.f1 y.f1.f2 b0 b1 b2 0 0 0 0 0 0 0 0 0 0 0 0 (hul x y).f0.f0 (hul x y).f0.f1 (hul x y).f0.f2 (hul x y).f1.f0 (hul x y).f1.f1 (hul x y).f1.f2 (chk x) (volS x) 6 (two x y) (wrap64 (x.f1.f0 - x.f0.f0)) (wrap64 (x.f1.f1 - x.f0.f1)) (wrap64 (x.f1.f2 - x.f0.f2)) w C11 C19 C16 C15 C20 C21 C22 C23 C24 C25 C26 C27 C28 C29
  · have C19 := fun W => r_Check.calls k1 x.f0.f0 x.f0.f1 x.f0.f2 x.f1.f0 x.f1.f1 x.f1.f2 (chk x) W hk1
    have C20 := fun W => box_Check.calls x.f0.f0 x.f0.f1 x.f0.f2 x.f1.f0 x.f1.f1 x.f1.f2 (chk x) W (check_is x)
    have C16 := fun W => box_Volume.calls x.f0.f0 x.f0.f1 x.f0.f2 x.f1.f0 x.f1.f1 x.f1.f2 0 (chk x) W (vol_chk x h)
    have C15 := fun W => box_Move.calls x.f0.f0 x.f0.f1 x.f0.f2 x.f1.f0 x.f1.f1 x.f1.f2 b0 b1 b2 0 0 0 0 0 0 (chk x) W (move_chk x b0 b1 b2 h)
    by_cases ht : two x y = 0
    rotate_left
    · have hI : intS x y = (0, 0, 0, 0, 0, 0, two x y) := by unfold intS; rw [if_neg ht]
      rw [hI] at hk5
      have hH : box_Hull.f x.f0.f0 x.f0.f1 x.f0.f2 x.f1.f0 x.f1.f1 x.f1.f2 y.f0.f0 y.f0.f1 y.f0.f2 y.f1.f0 y.f1.f1 y.f1.f2 = some (0, 0, 0, 0, 0, 0, two x y) := by have := hull_is x y; rw [if_neg ht] at this; exact this
      have C25 := fun W => box_Intersect.calls k5 x.f0.f0 x.f0.f1 x.f0.f2 x.f1.f0 x.f1.f1 x.f1.f2 y.f0.f0 y.f0.f1 y.f0.f2 y.f1.f0 y.f1.f1 y.f1.f2 0 0 0 0 0 0 (two x y) W hk5
      have C26 := fun W => box_Hull.calls x.f0.f0 x.f0.f1 x.f0.f2 x.f1.f0 x.f1.f1 x.f1.f2 y.f0.f0 y.f0.f1 y.f0.f2 y.f1.f0 y.f1.f1 y.f1.f2 0 0 0 0 0 0 (two x y) W hH
      have C27 := fun W => w_both.calls k6 x.f0.f0 x.f0.f1 x.f0.f2 x.f1.f0 x.f1.f1 x.f1.f2 y.f0.f0 y.f0.f1 y.f0.f2 y.f1.f0 y.f1.f1 y.f1.f2 (two x y) W hk6
      exact makes_bad_two x.f0.f0 x.f0.f1 x.f0.f2 x.f1.f0 x.f1.f1 x.f1.f2 y.f0.f0 y.f0.f1 y.f0.f2 y.f1.f0 y.f1.f1 y.f1.f2 b0 b1 b2 0 0 0 0 0 0 0 0 0 0 0 0 0 0 0 0 0 0 (chk x) 0 (chk x) (two x y) (wrap64 (x.f1.f0 - x.f0.f0)) (wrap64 (x.f1.f1 - x.f0.f1)) (wrap64 (x.f1.f2 - x.f0.f2)) w h ht C11 C19 C16 C15 C20 C21 C22 C25 C26 C27
    · have hH : box_Hull.f x.f0.f0 x.f0.f1 x.f0.f2 x.f1.f0 x.f1.f1 x.f1.f2 y.f0.f0 y.f0.f1 y.f0.f2 y.f1.f0 y.f1.f1 y.f1.f2 = some ((hul x y).f0.f0, (hul x y).f0.f1, (hul x y).f0.f2, (hul x y).f1.f0, (hul x y).f1.f1, (hul x y).f1.f2, 0) := by have := hull_is x y; rw [if_pos ht] at this; exact this
      rw [ht] at hk6
      have C26 := fun W => box_Hull.calls x.f0.f0 x.f0.f1 x.f0.f2 x.f1.f0 x.f1.f1 x.f1.f2 y.f0.f0 y.f0.f1 y.f0.f2 y.f1.f0 y.f1.f1 y.f1.f2 (hul x y).f0.f0 (hul x y).f0.f1 (hul x y).f0.f2 (hul x y).f1.f0 (hul x y).f1.f1 (hul x y).f1.f2 0 W hH
      have C27 := fun W => w_both.calls k6 x.f0.f0 x.f0.f1 x.f0.f2 x.f1.f0 x.f1.f1 x.f1.f2 y.f0.f0 y.f0.f1 y.f0.f2 y.f1.f0 y.f1.f1 y.f1.f2 0 W hk6
      have C29 := fun W => r_Hull.calls x.f0.f0 x.f0.f1 x.f0.f2 x.f1.f0 x.f1.f1 x.f1.f2 y.f0.f0 y.f0.f1 y.f0.f2 y.f1.f0 y.f1.f1 y.f1.f2 (hul x y).f0.f0 (hul x y).f0.f1 (hul x y).f0.f2 (hul x y).f1.f0 (hul x y).f1.f1 (hul x y).f1.f2 W rfl
      cases ho : ovB x y with
      | true =>
        have hI : intS x y = ((com x y).f0.f0, (com x y).f0.f1, (com x y).f0.f2, (com x y).f1.f0, (com x y).f1.f1, (com x y).f1.f2, 0) := by unfold intS; rw [if_pos ht, ho]; rfl
        have hJ : rintS x y = ((com x y).f0.f0, (com x y).f0.f1, (com x y).f0.f2, (com x y).f1.f0, (com x y).f1.f1, (com x y).f1.f2, true) := by unfold rintS; rw [ho]; rfl
        rw [hI] at hk5
        rw [hJ] at hk7
        have C25 := fun W => box_Intersect.calls k5 x.f0.f0 x.f0.f1 x.f0.f2 x.f1.f0 x.f1.f1 x.f1.f2 y.f0.f0 y.f0.f1 y.f0.f2 y.f1.f0 y.f1.f1 y.f1.f2 (com x y).f0.f0 (com x y).f0.f1 (com x y).f0.f2 (com x y).f1.f0 (com x y).f1.f1 (com x y).f1.f2 0 W hk5
        have C28 := fun W => r_Intersect.calls k7 x.f0.f0 x.f0.f1 x.f0.f2 x.f1.f0 x.f1.f1 x.f1.f2 y.f0.f0 y.f0.f1 y.f0.f2 y.f1.f0 y.f1.f1 y.f1.f2 (com x y).f0.f0 (com x y).f0.f1 (com x y).f0.f2 (com x y).f1.f0 (com x y).f1.f1 (com x y).f1.f2 true W hk7
        exact makes_bad_ok x.f0.f0 x.f0.f1 x.f0.f2 x.f1.f0 x.f1.f1 x.f1.f2 y.f0.f0 y.f0.f1 y.f0.f2 y.f1.f0 y.f1.f1 y.f1.f2 b0 b1 b2 0 0 0 0 0 0 (com x y).f0.f0 (com x y).f0.f1 (com x y).f0.f2 (com x y).f1.f0 (com x y).f1.f1 (com x y).f1.f2 (hul x y).f0.f0 (hul x y).f0.f1 (hul x y).f0.f2 (hul x y).f1.f0 (hul x y).f1.f1 (hul x y).f1.f2 (chk x) 0 (chk x) (two x y) (wrap64 (x.f1.f0 - x.f0.f0)) (wrap64 (x.f1.f1 - x.f0.f1)) (wrap64 (x.f1.f2 - x.f0.f2)) w h C11 C19 C16 C15 C20 C21 C22 C25 C26 C27 C28 C29
      | false =>
        have hI : intS x y = (0, 0, 0, 0, 0, 0, 9) := by unfold intS; rw [if_pos ht, ho]; rfl
        have hJ : rintS x y = (0, 0, 0, 0, 0, 0, false) := by unfold rintS; rw [ho]; rfl
        rw [hI] at hk5
        rw [hJ] at hk7
        have C25 := fun W => box_Intersect.calls k5 x.f0.f0 x.f0.f1 x.f0.f2 x.f1.f0 x.f1.f1 x.f1.f2 y.f0.f0 y.f0.f1 y.f0.f2 y.f1.f0 y.f1.f1 y.f1.f2 0 0 0 0 0 0 9 W hk5
        have C28 := fun W => r_Intersect.calls k7 x.f0.f0 x.f0.f1 x.f0.f2 x.f1.f0 x.f1.f1 x.f1.f2 y.f0.f0 y.f0.f1 y.f0.f2 y.f1.f0 y.f1.f1 y.f1.f2 0 0 0 0 0 0 false W hk7
        exact makes_bad_none x.f0.f0 x.f0.f1 x.f0.f2 x.f1.f0 x.f1.f1 x.f1.f2 y.f0.f0 y.f0.f1 y.f0.f2 y.f1.f0 y.f1.f1 y.f1.f2 b0 b1 b2 0 0 0 0 0 0 0 0 0 0 0 0 (hul x y).f0.f0 (hul x y).f0.f1 (hul x y).f0.f2 (hul x y).f1.f0 (hul x y).f1.f1 (hul x y).f1.f2 (chk x) 0 (chk x) (two x y) (wrap64 (x.f1.f0 - x.f0.f0)) (wrap64 (x.f1.f1 - x.f0.f1)) (wrap64 (x.f1.f2 - x.f0.f2)) w h C11 C19 C16 C15 C20 C21 C22 C25 C26 C27 C28 C29
end Go.Proofs.Ytmmdikhmlmoolaa.Pure
namespace Go.Proofs.Ytmmdikhmlmoolaa.QA
open Go.RowKit
set_option linter.unusedVariables false
def w_BoxMakes.Pure : Prop := True
theorem w_BoxMakes.walk (P_ : w_BoxMakes.Pure) (a0_0 a0_1 a0_2 a0_3 a0_4 a0_5 a1_0 a1_1 a1_2 a1_3 a1_4 a1_5 a2_0 a2_1 a2_2 : Int) (w : World) (o0 : (Lit.int .i64 a0_0).wf = true) (o1 : (Lit.int .i64 a0_1).wf = true) (o2 : (Lit.int .i64 a0_2).wf = true) (o3 : (Lit.int .i64 a0_3).wf = true) (o4 : (Lit.int .i64 a0_4).wf = true) (o5 : (Lit.int .i64 a0_5).wf = true) (o6 : (Lit.int .i64 a1_0).wf = true) (o7 : (Lit.int .i64 a1_1).wf = true) (o8 : (Lit.int .i64 a1_2).wf = true) (o9 : (Lit.int .i64 a1_3).wf = true) (o10 : (Lit.int .i64 a1_4).wf = true) (o11 : (Lit.int .i64 a1_5).wf = true) (o12 : (Lit.int .i64 a2_0).wf = true) (o13 : (Lit.int .i64 a2_1).wf = true) (o14 : (Lit.int .i64 a2_2).wf = true) :
    Calls Try.prog 5 #[.agg #[.int .i64 a0_0, .int .i64 a0_1, .int .i64 a0_2, .int .i64 a0_3, .int .i64 a0_4, .int .i64 a0_5], .agg #[.int .i64 a1_0, .int .i64 a1_1, .int .i64 a1_2, .int .i64 a1_3, .int .i64 a1_4, .int .i64 a1_5], .agg #[.int .i64 a2_0, .int .i64 a2_1, .int .i64 a2_2]] w fun e w' => e = .returned (.bool true) ∧ Below w.heap.size w w' :=
  Go.Proofs.Ytmmdikhmlmoolaa.Pure.makes_all ⟨⟨a0_0, a0_1, a0_2⟩, ⟨a0_3, a0_4, a0_5⟩⟩ ⟨⟨a1_0, a1_1, a1_2⟩, ⟨a1_3, a1_4, a1_5⟩⟩ a2_0 a2_1 a2_2 w
end Go.Proofs.Ytmmdikhmlmoolaa.QA
namespace Go.Proofs.Ytmmdikhmlmoolaa.Pure
open Go.Proofs.Ytmmdikhmlmoolaa.QA
theorem BoxMakes : w_BoxMakes.Pure := trivial
end Go.Proofs.Ytmmdikhmlmoolaa.Pure
