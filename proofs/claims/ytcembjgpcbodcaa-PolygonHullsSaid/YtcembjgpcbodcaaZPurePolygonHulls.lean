/-
  PolygonHulls: the hull is as specified.
-/
import Derived.Test.YtcembjgpcbodcaaZPg2
import Derived.Test.YtcembjgpcbodcaaZHl4
import Derived.Test.YtcembjgpcbodcaaZQAx20
namespace Go.Proofs.Ytcembjgpcbodcaa.Pure
open Go.RowKit Go.Proofs.Ytcembjgpcbodcaa.QA Go.Proofs.YtcembjgpcbodcaaW.PrintWords Go.Proofs.YtcembjgpcbodcaaW.PrintLast Go.Proofs.YtcembjgpcbodcaaW.PrintMore Go.Proofs.Ytcembjgpcbodcaa.EvKit Go.Proofs.Ytcembjgpcbodcaa.Pg
set_option linter.unusedVariables false
set_option linter.unusedSimpArgs false
theorem flatP_chains (L : List S23) (hf : Hl.FlatP L) : (Hl.low (Hl.srt L)).length + (Hl.upp (Hl.srt L)).length < 5 := by
  cases hS : Hl.srt L with
  | nil => decide
  | cons a l =>
    have hs := Hl.srt_inc L
    rw [hS] at hs
    obtain ⟨z, hz, hc⟩ := Hl.chains a l hs
    have hfS : Hl.FlatP (a :: l) := fun p hp q hq r hr => by
      rw [← hS, Hl.srt_mem] at hp hq hr
      exact hf p hp q hq r hr
    have hzm : z ∈ a :: l := List.mem_of_getLast? hz
    by_cases hne : a = z
    · have one : l = [] := by
        cases l with
        | nil => rfl
        | cons b l =>
          exfalso
          have hzl : z ∈ b :: l := by
            rw [List.getLast?_cons_cons] at hz
            exact List.mem_of_getLast? hz
          have := (List.pairwise_cons.1 hs).1 z hzl
          rw [hne] at this
          exact Hl.lt_irrefl _ this
      rw [one]
      show 1 + 1 < 5
      omega
    · exact (Hl.flat_chains _ a z hc (by simp) hzm hne).2 hfS
theorem hulls_l0 (L : List S23) (hl : L.length ≤ 16) : ∀ m i, L.length = i + m → (∀ q ∈ L.take i, nearP q = true) → Ev (fun k => w_PolygonHulls.l0 k L (Hl.hullS L).1 (Hl.hullS L).2 (i : Int)) true := by
  intro m
  induction m with
  | zero =>
    intro i hi ht
    rw [List.take_of_length_le (by omega)] at ht
    have hok : ∀ q ∈ L, okP q := fun q hq => (nearP_is q).1 (ht q hq)
    obtain ⟨b, h1, h2⟩ := Hl.flat_ev L (by omega) hok
    refine Ev.succ ?_
    simp only [w_PolygonHulls.l0]
    refine Ev.neg (by omega) (Ev.bind h1 (Ev.ite (fun hb => ?_) (fun hb => ?_)))
    · have e : Hl.hullS L = ([], 9) := by
        unfold Hl.hullS
        rw [if_neg (by omega), if_pos (List.all_eq_true.2 ht), if_pos (flatP_chains L (h2.1 hb))]
      rw [e]
      exact Ev.pos rfl (Ev.now _)
    · obtain ⟨a, z, h⟩ := Hl.hul_of L (fun hf => hb (h2.2 hf))
      have e : Hl.hullS L = (Hl.crn (Hl.srt L), 0) := by
        unfold Hl.hullS
        rw [if_neg (by omega), if_pos (List.all_eq_true.2 ht), if_neg h.five]
      rw [e]
      have hlen := Hl.crn_len L a z h
      exact Ev.pos rfl (Ev.bind (Hl.rhull_ev L (by omega) hok a z h) (Ev.bind (Hl.same_ev (Hl.crn (Hl.srt L)) (by omega)) (Ev.now _)))
  | succ m ih =>
    intro i hi ht
    refine Ev.succ ?_
    simp only [w_PolygonHulls.l0]
    rw [Hl.pt_get, Hl.stp (i := i) (by omega)]
    have htake : L.take (i + 1) = L.take i ++ [L.getD i z23] := by
      rw [List.take_add_one, List.getElem?_eq_getElem (by omega), List.getD_eq_getElem?_getD, List.getElem?_eq_getElem (by omega)]
      rfl
    refine Ev.pos (by omega) (Ev.pos (by omega) (Ev.bind (allowed_ev _ _) (Ev.ite (fun hc => ?_) (fun hc => ?_))))
    · refine ih (i + 1) (by omega) (fun q hq => ?_)
      rw [htake] at hq
      rcases List.mem_append.1 hq with hq | hq
      · exact ht q hq
      · rw [List.mem_singleton.1 hq]; exact hc
    · have e : Hl.hullS L = ([], 6) := by
        unfold Hl.hullS
        rw [if_neg (by omega), if_neg (fun hh => hc (List.all_eq_true.1 hh _ (Hl.mem_get (L := L) (i := i) (by omega))))]
      rw [e]
      exact Ev.pos rfl (Ev.now _)
theorem PolygonHulls : w_PolygonHulls.Pure := by
  intro L _
  refine Ev.rounds ?_
  unfold w_PolygonHulls.f
  have skip : Ev (fun k => w_PolygonHulls.j0 k L true) true := Ev.step (f := fun _ => some true) (fun _ => rfl) (Ev.now _)
  refine Ev.bind awake_ev (Ev.pos rfl (Ev.ite (fun h1 => Ev.ite (fun h2 => skip) (fun h2 => ?_)) (fun h1 => ?_)))
  · by_cases h3 : (L.length : Int) > 1010
    · rw [decide_eq_true h3]; exact skip
    · rw [decide_eq_false h3]
      refine Ev.succ ?_
      simp only [w_PolygonHulls.j0]
      refine Ev.neg (by decide) (Ev.bind (Hl.hull_ev L) (Ev.pos (by omega) ?_))
      have e : Hl.hullS L = ([], 7) := by unfold Hl.hullS; rw [if_pos (by omega)]
      rw [e]
      exact Ev.pos rfl (Ev.now _)
  · refine Ev.succ ?_
    simp only [w_PolygonHulls.j0]
    refine Ev.neg (by decide) (Ev.bind (Hl.hull_ev L) (Ev.neg (by omega) ?_))
    exact hulls_l0 L (by omega) L.length 0 (by omega) (by simp)
end Go.Proofs.Ytcembjgpcbodcaa.Pure
