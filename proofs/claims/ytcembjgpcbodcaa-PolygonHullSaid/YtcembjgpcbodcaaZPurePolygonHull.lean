/-
  PolygonHull: the hull is convex, its corners are points of the list, no point lies outside; the hull of the hull is the hull.
-/
import Derived.Test.YtcembjgpcbodcaaZPg2
import Derived.Test.YtcembjgpcbodcaaZHl5
import Derived.Test.YtcembjgpcbodcaaZQAx21
namespace Go.Proofs.Ytcembjgpcbodcaa.Pure
open Go.RowKit Go.Proofs.Ytcembjgpcbodcaa.QA Go.Proofs.YtcembjgpcbodcaaW.PrintWords Go.Proofs.YtcembjgpcbodcaaW.PrintLast Go.Proofs.YtcembjgpcbodcaaW.PrintMore Go.Proofs.Ytcembjgpcbodcaa.EvKit Go.Proofs.Ytcembjgpcbodcaa.Pg
set_option linter.unusedVariables false
set_option linter.unusedSimpArgs false
theorem hull_l2 (L C : List S23) (hl : L.length ≤ 16) (i : Nat) (hi : i < C.length) (R : Bool) (hR : Ev (fun k => w_PolygonHull.l1 k L C (wrap64 ((i : Int) + 1))) R) : ∀ m k (f : Bool), L.length = k + m → (f = true ∨ C.getD i z23 ∈ L.drop k) → Ev (fun n => w_PolygonHull.l2 n L C (i : Int) f (k : Int)) R := by
  intro m
  induction m with
  | zero =>
    intro k f hk hf
    refine Ev.succ ?_
    simp only [w_PolygonHull.l2]
    rw [List.drop_of_length_le (by omega)] at hf
    exact Ev.neg (by omega) (Ev.pos (by rcases hf with h | h; exact h; cases h) hR)
  | succ m ih =>
    intro k f hk hf
    have next : ∀ g : Bool, (g = true ∨ C.getD i z23 ∈ L.drop (k + 1)) → Ev (fun n => w_PolygonHull.j4 n L C (i : Int) g (k : Int)) R := fun g hg => by
      refine Ev.succ ?_
      simp only [w_PolygonHull.j4]
      rw [Hl.stp (i := k) (by omega)]
      exact ih (k + 1) g (by omega) hg
    refine Ev.succ ?_
    simp only [w_PolygonHull.l2]
    refine Ev.pos (by omega) (Ev.ite (fun h => next true (.inl rfl)) (fun h => Ev.pos (by omega) (Ev.pos (by omega) (Ev.pos (by omega) (next _ ?_)))))
    rw [Hl.pt_get, Hl.pt_get]
    rcases hf with hf | hf
    · exact absurd hf h
    · rw [Hl.drop_cons L k z23 (by omega)] at hf
      rcases List.mem_cons.1 hf with e | e
      · left; rw [Hl.eq_iff, e]
      · exact .inr e
theorem hull_l1 (L C : List S23) (hl : L.length ≤ 16) (hc : C.length ≤ 64) (hs : ∀ q ∈ C, q ∈ L) : ∀ m i, C.length = i + m → Ev (fun n => w_PolygonHull.l1 n L C (i : Int)) true := by
  intro m
  induction m with
  | zero =>
    intro i hi
    refine Ev.succ ?_
    simp only [w_PolygonHull.l1]
    exact Ev.neg (by omega) (Ev.now _)
  | succ m ih =>
    intro i hi
    refine Ev.succ ?_
    simp only [w_PolygonHull.l1]
    refine Ev.pos (by omega) (hull_l2 L C hl i (by omega) true ?_ L.length 0 false (by omega) (.inr ?_))
    · rw [Hl.stp (i := i) (by omega)]
      exact ih (i + 1) (by omega)
    · exact hs _ (Hl.mem_get (by omega))
theorem hull_l0 (L C : List S23) (hl : L.length ≤ 16) (hc : C.length ≤ 64) (hs : ∀ q ∈ C, q ∈ L) (ho : ∀ q ∈ L, (sideP C q).2 = 0 ∧ 0 ≤ (sideP C q).1) : ∀ m i, L.length = i + m → Ev (fun n => w_PolygonHull.l0 n L C (i : Int)) true := by
  intro m
  induction m with
  | zero =>
    intro i hi
    refine Ev.succ ?_
    simp only [w_PolygonHull.l0]
    exact Ev.neg (by omega) (hull_l1 L C hl hc hs C.length 0 (by omega))
  | succ m ih =>
    intro i hi
    refine Ev.succ ?_
    simp only [w_PolygonHull.l0]
    have hq := ho _ (Hl.mem_get (L := L) (i := i) (by omega))
    rw [Hl.pt_get, Hl.stp (i := i) (by omega)]
    exact Ev.pos (by omega) (Ev.pos (by omega) (Ev.bind (side_ev C (L.getD i z23)) (Ev.pos hq.1 (Ev.neg (by omega) (ih (i + 1) (by omega))))))
theorem PolygonHull : w_PolygonHull.Pure := by
  intro L _
  refine Ev.rounds ?_
  unfold w_PolygonHull.f
  refine Ev.bind awake_ev (Ev.pos rfl (Ev.ite (fun h1 => Ev.now _) (fun h1 => Ev.bind (Hl.hull_ev L) ?_)))
  have hl : L.length ≤ 16 := by omega
  unfold Hl.hullS
  rw [if_neg (show ¬ L.length > 1000 by omega)]
  by_cases h2 : L.all nearP = true
  · rw [if_pos h2]
    by_cases h5 : (Hl.low (Hl.srt L)).length + (Hl.upp (Hl.srt L)).length < 5
    · rw [if_pos h5]
      exact Ev.neg (by decide) (Ev.now _)
    · rw [if_neg h5]
      have hok : ∀ q ∈ L, okP q := fun q hq => (nearP_is q).1 (List.all_eq_true.1 h2 q hq)
      have hnf : ¬ Hl.FlatP L := fun hf => by
        cases hS : Hl.srt L with
        | nil => rw [hS] at h5; exact h5 (by decide)
        | cons a l =>
          have hs := Hl.srt_inc L
          rw [hS] at hs h5
          obtain ⟨z, hz, hc⟩ := Hl.chains a l hs
          have hne := Hl.not_flat_ne hs hc h5
          exact h5 ((Hl.flat_chains _ a z hc (by simp) (List.mem_of_getLast? hz) hne).2 (fun p hp q hq r hr => by
            rw [← hS, Hl.srt_mem] at hp hq hr
            exact hf p hp q hq r hr))
      obtain ⟨a, z, h⟩ := Hl.hul_of L hnf
      have hc := Hl.hc_of L hl hok a z h
      have hf := hc.few
      have e1 := Hl.con_is hc
      have e2 := Hl.again L hl hok a z h
      have hsub : ∀ q ∈ Hl.crn (Hl.srt L), q ∈ L := fun q hq => (Hl.srt_mem L q).1 (Hl.crn_mem h.ch h.ne q hq)
      have ho : ∀ q ∈ L, (sideP (Hl.crn (Hl.srt L)) q).2 = 0 ∧ 0 ≤ (sideP (Hl.crn (Hl.srt L)) q).1 := fun q hq => Hl.side_is hc q ((Hl.srt_mem L q).2 hq)
      generalize Hl.crn (Hl.srt L) = C at hc hf e1 e2 hsub ho ⊢
      refine Ev.pos rfl (Ev.bind (con_ev C) (Ev.bind (Hl.hull_ev C) ?_))
      rw [e1, e2]
      refine Ev.pos rfl (Ev.pos rfl (Ev.pos rfl (Ev.bind (Hl.same_ev C (by omega)) (Ev.succ ?_))))
      simp only [w_PolygonHull.j0]
      exact Ev.neg (by decide) (hull_l0 L C hl hf hsub ho L.length 0 (by omega))
  · rw [if_neg h2]
    exact Ev.neg (by decide) (Ev.now _)
end Go.Proofs.Ytcembjgpcbodcaa.Pure
