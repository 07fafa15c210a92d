/-
  Chapter 15: the law ModelSums.
-/
import Derived.Test.YtcofgnbopodahaaZMdP
import Derived.Test.YtcofgnbopodahaaZMdW
import Derived.Test.YtcofgnbopodahaaZQAx11
import Derived.Test.YtcofgnbopodahaaZQAx21
namespace Go.Proofs.Ytcofgnbopodahaa.Mp
open Go.RowKit Go.Proofs.Ytcofgnbopodahaa.QA Go.Proofs.YtcofgnbopodahaaW.PrintWords Go.Proofs.YtcofgnbopodahaaW.PrintLast Go.Proofs.YtcofgnbopodahaaW.PrintMore Go.Proofs.Ytcofgnbopodahaa.EvKit
set_option linter.unusedVariables false
set_option linter.unusedSimpArgs false
theorem Sums_core (l : List S68) (b : S43) : Ev (fun k => w_ModelSums.f k l b.f0.f0 b.f0.f1 b.f0.f2 b.f1.f0 b.f1.f1 b.f1.f2) true := by
  obtain ⟨s0, hs0, hp0⟩ := small_ev l 10 (by decide)
  unfold w_ModelSums.f
  refine Ev.bind awake_ev (Ev.pos rfl (Ev.bind hs0 ?_))
  cases s0 with
  | false => exact Ev.neg (by simp) (Ev.now _)
  | true =>
  refine Ev.pos rfl ?_
  by_cases hr : readyE l b 0 = 0
  · have h := ready_of hr
    have hrs : ∀ n, okN n = true → readyE l b n = 0 := by
      intro n hn
      have c1 : chkE l = 0 := (chkE0 l).2 ⟨h.n, h.o⟩
      have c2 : chk b = 0 := (chk0 b).2 h.v
      unfold readyE
      rw [if_pos c1, if_pos c2, if_pos hn]
    obtain ⟨w1, w2, w3⟩ := whole_is h.v
    have hsum := Md.cnt_sum (ok_ev h.o) (vb h)
    have nn : ∀ n, 0 ≤ Md.cnt (l.map ev) (bx b) n := fun n => Md.cnt_nonneg _ _ _
    have hn := h.n
    have step : ∀ (s T : Int), okN s = true → 0 ≤ T → T + Md.cnt (l.map ev) (bx b) s ≤ Md.vol (bx b) → (s = 3 → T + Md.cnt (l.map ev) (bx b) s = Md.vol (bx b)) →
        Ev (fun k => w_ModelSums.l0 k l (T + Md.cnt (l.map ev) (bx b) s) (s + 1) b.f0.f0 b.f0.f1 b.f0.f2 b.f1.f0 b.f1.f1 b.f1.f2) true → Ev (fun k => w_ModelSums.l0 k l T s b.f0.f0 b.f0.f1 b.f0.f2 b.f1.f0 b.f1.f1 b.f1.f2) true := by
      intro s T hs hT hle h3 next
      have s4 := okN_iff.1 hs
      have hc := cnt_small (n := s) h
      obtain ⟨ra, eA, hA⟩ := All_ev (hrs s hs)
      have hA' : ra = (Md.cnt (l.map ev) (bx b) s == Md.vol (bx b)) := by
        rw [Bool.eq_iff_iff, hA, ← Md.cnt_vol (vb h), beq_iff_eq]
      have j4 : Ev (fun k => w_ModelSums.j4 k l (T + Md.cnt (l.map ev) (bx b) s) s b.f0.f0 b.f0.f1 b.f0.f2 b.f1.f0 b.f1.f1 b.f1.f2) true := by
        refine Ev.succ ?_
        simp only [w_ModelSums.j4]
        rw [w64 (by omega) (by omega)]
        exact next
      have j3 : Ev (fun k => w_ModelSums.j3 k l T s (Md.cnt (l.map ev) (bx b) s) (Md.vol (bx b)) b.f0.f0 b.f0.f1 b.f0.f2 b.f1.f0 b.f1.f1 b.f1.f2) true := by
        refine Ev.succ ?_
        simp only [w_ModelSums.j3]
        rw [w64 (by omega) (by omega)]
        by_cases hs3 : s = 3
        · exact Ev.pos hs3 (Ev.pos (h3 hs3) j4)
        · exact Ev.neg hs3 j4
      refine Ev.succ ?_
      simp only [w_ModelSums.l0]
      refine Ev.pos (by omega) (Ev.bind (Volume_ev (hrs s hs)) (Ev.pos rfl (Ev.bind eA ?_)))
      rw [w1]
      have tail : ∀ (x y z g : Int), Ev (fun k => model_First.f k l b.f0.f0 b.f0.f1 b.f0.f2 b.f1.f0 b.f1.f1 b.f1.f2 s) (x, y, z, g) → ((g == 0) = decide (Md.cnt (l.map ev) (bx b) s > 0)) →
          (g = 0 → Md.hasB (bx b) x y z = true ∧ Md.st (l.map ev) x y z = s) →
          Ev (fun k => (model_First.f k l b.f0.f0 b.f0.f1 b.f0.f2 b.f1.f0 b.f1.f1 b.f1.f2 s).bind fun bt534 => (if Md.cnt (l.map ev) (bx b) s < 0 then (w_ModelSums.j1 k l T s (Md.cnt (l.map ev) (bx b) s) bt534.2.2.2 (Md.vol (bx b)) true b.f0.f0 b.f0.f1 b.f0.f2 b.f1.f0 b.f1.f1 b.f1.f2 bt534.1 bt534.2.1 bt534.2.2.1) else (if (0 : Int) = 0 then (if (ra != (Md.cnt (l.map ev) (bx b) s == Md.vol (bx b))) = true then (w_ModelSums.j1 k l T s (Md.cnt (l.map ev) (bx b) s) bt534.2.2.2 (Md.vol (bx b)) true b.f0.f0 b.f0.f1 b.f0.f2 b.f1.f0 b.f1.f1 b.f1.f2 bt534.1 bt534.2.1 bt534.2.2.1) else (w_ModelSums.j1 k l T s (Md.cnt (l.map ev) (bx b) s) bt534.2.2.2 (Md.vol (bx b)) ((bt534.2.2.2 == 0) != (decide (Md.cnt (l.map ev) (bx b) s > 0))) b.f0.f0 b.f0.f1 b.f0.f2 b.f1.f0 b.f1.f1 b.f1.f2 bt534.1 bt534.2.1 bt534.2.2.1)) else (w_ModelSums.j1 k l T s (Md.cnt (l.map ev) (bx b) s) bt534.2.2.2 (Md.vol (bx b)) true b.f0.f0 b.f0.f1 b.f0.f2 b.f1.f0 b.f1.f1 b.f1.f2 bt534.1 bt534.2.1 bt534.2.2.1)))) true := by
        intro x y z g eF hg hin
        refine Ev.bind eF (Ev.neg (by omega) (Ev.pos rfl (Ev.neg (by simp [hA']) (Ev.succ ?_))))
        simp only [w_ModelSums.j1]
        refine Ev.neg (by rw [hg]; simp) ?_
        by_cases g0 : g = 0
        · obtain ⟨hb, hst⟩ := hin g0
          obtain ⟨a0, a1, a2, a3, a4, a5⟩ := (Md.hasB_iff _ _ _ _).1 hb
          obtain ⟨r0, r1, r2, r3, r4, r5, l0, l1, l2⟩ := h.v
          simp only [bx] at a0 a1 a2 a3 a4 a5
          have hcell : cellB x y z = true := by
            unfold cellB
            rw [decide_eq_true (show -1000000 ≤ x by omega), decide_eq_true (show x < 1000000 by omega), decide_eq_true (show -1000000 ≤ y by omega), decide_eq_true (show y < 1000000 by omega), decide_eq_true (show -1000000 ≤ z by omega), decide_eq_true (show z < 1000000 by omega)]
            rfl
          have hP : stateP l x y z = (s, 0) := by
            unfold stateP
            rw [if_pos ((chkE0 l).2 ⟨h.n, h.o⟩), if_pos hcell]
            exact Prod.ext hst rfl
          have eS := State_ev l x y z (by omega)
          rw [hP] at eS
          have j2 : Ev (fun k => w_ModelSums.j2 k l T s (Md.cnt (l.map ev) (bx b) s) (Md.vol (bx b)) false b.f0.f0 b.f0.f1 b.f0.f2 b.f1.f0 b.f1.f1 b.f1.f2) true := by
            refine Ev.succ ?_
            simp only [w_ModelSums.j2]
            exact Ev.neg (by simp) j3
          refine Ev.pos g0 (Ev.bind eS (Ev.pos rfl (Ev.pos rfl (Ev.neg (by omega) (Ev.neg (by omega) (Ev.neg (by omega) (Ev.neg (by omega) (Ev.neg (by omega) ?_))))))))
          rw [decide_eq_false (show ¬ z ≥ b.f1.f2 by omega)]
          exact j2
        · exact Ev.neg g0 j3
      rcases First_ev (hrs s hs) with ⟨x, y, z, hL, eF⟩ | ⟨hno, eF⟩
      · refine tail x y z 0 eF ?_ fun _ => hL.h
        have : 0 < Md.cnt (l.map ev) (bx b) s := (Md.cnt_pos _ _ _).2 ⟨x, y, z, hL.h.1, hL.h.2⟩
        rw [decide_eq_true (show Md.cnt (l.map ev) (bx b) s > 0 from this)]
        rfl
      · refine tail 0 0 0 9 eF ?_ fun h => absurd h (by decide)
        have : ¬ Md.cnt (l.map ev) (bx b) s > 0 := fun hq => by
          obtain ⟨x, y, z, h1, h2⟩ := (Md.cnt_pos _ _ _).1 hq
          exact hno x y z h1 h2
        rw [decide_eq_false this]
        rfl
    have n0 := nn 0
    have n1 := nn 1
    have n2 := nn 2
    have n3 := nn 3
    refine step 0 0 rfl (Int.le_refl 0) (by omega) (fun h => absurd h (by decide)) ?_
    refine step 1 _ rfl (by omega) (by omega) (fun h => absurd h (by decide)) ?_
    refine step 2 _ rfl (by omega) (by omega) (fun h => absurd h (by decide)) ?_
    refine step 3 _ rfl (by omega) (by omega) (fun _ => by omega) ?_
    refine Ev.succ ?_
    simp only [w_ModelSums.l0]
    exact Ev.neg (by decide) (Ev.now _)
  · refine Ev.succ ?_
    simp only [w_ModelSums.l0]
    exact Ev.pos (by decide) (Ev.bind (Volume_no hr) (Ev.neg hr (Ev.now _)))
end Go.Proofs.Ytcofgnbopodahaa.Mp
