/-
  BoxGap: the gap is the least open point.
-/
import Derived.Test.YtmmdikhmlmoolaaZBxG
import Derived.Test.YtmmdikhmlmoolaaZQAx16
namespace Go.Proofs.Ytmmdikhmlmoolaa.Pure
open Go.RowKit Go.Proofs.Ytmmdikhmlmoolaa.QA Go.Proofs.YtmmdikhmlmoolaaW.PrintWords Go.Proofs.YtmmdikhmlmoolaaW.PrintLast Go.Proofs.YtmmdikhmlmoolaaW.PrintMore Go.Proofs.Ytmmdikhmlmoolaa.EvKit Go.Proofs.Ytmmdikhmlmoolaa.Bx
set_option linter.unusedVariables false
set_option linter.unusedSimpArgs false
theorem any_cons (c : S25) (l : List S25) (x y z : Int) : Bx.anyB (c :: l) x y z = (hasB c x y z || Bx.anyB l x y z) := rfl
theorem gap_9 (l : List S25) (b : S25) (p0 p1 p2 q0 q1 q2 : Int) (hl : l.length ≤ 6) : ∀ m i (o : Bool), l.length = i + m → (o && !Bx.anyB (l.drop i) p0 p1 p2) = false →
    Ev (fun k => w_BoxGap.l0 k l 9 o (i : Int) b.f0.f0 b.f0.f1 b.f0.f2 b.f1.f0 b.f1.f1 b.f1.f2 p0 p1 p2 q0 q1 q2) true := by
  intro m
  induction m with
  | zero =>
    intro i o hi h
    refine Ev.succ ?_
    simp only [w_BoxGap.l0]
    rw [List.drop_of_length_le (by omega)] at h
    have : o = false := by cases o <;> simp [Bx.anyB] at h ⊢
    subst this
    exact Ev.neg (by omega) (Ev.neg (by decide) (Ev.pos (by simp) (Ev.now _)))
  | succ m ih =>
    intro i o hi h
    refine Ev.succ ?_
    simp only [w_BoxGap.l0]
    rw [drop_cons l i z25 (by omega), any_cons] at h
    rw [rdN]
    refine Ev.pos (by omega) (Ev.neg (by decide) ?_)
    cases o with
    | false =>
      refine Ev.neg (by decide) (Ev.succ ?_)
      simp only [w_BoxGap.j1]
      rw [stp (by omega)]
      exact ih (i + 1) false (by omega) rfl
    | true =>
      refine Ev.pos (by simp) (Ev.pos (by omega) (Ev.bind (has_ev _ p0 p1 p2) (Ev.succ ?_)))
      simp only [w_BoxGap.j1]
      rw [stp (by omega)]
      refine ih (i + 1) _ (by omega) ?_
      rw [← h]
      cases hasB (l.getD i z25) p0 p1 p2 <;> rfl
theorem gap_0 (l : List S25) (b : S25) (p0 p1 p2 q0 q1 q2 : Int) (hl : l.length ≤ 6) (hq : hasB b q0 q1 q2 = true) (ho : opn l q0 q1 q2) : ∀ m i (o : Bool), l.length = i + m → ((o && !Bx.anyB (l.drop i) p0 p1 p2) = true → le3 q0 q1 q2 p0 p1 p2) →
    Ev (fun k => w_BoxGap.l0 k l 0 o (i : Int) b.f0.f0 b.f0.f1 b.f0.f2 b.f1.f0 b.f1.f1 b.f1.f2 p0 p1 p2 q0 q1 q2) true := by
  intro m
  induction m with
  | zero =>
    intro i o hi h
    refine Ev.succ ?_
    simp only [w_BoxGap.l0]
    rw [List.drop_of_length_le (by omega)] at h
    have hb := has_ev b q0 q1 q2
    rw [hq] at hb
    have fin : ∀ c : Bool, (o = true → c = false) → Ev (fun k => w_BoxGap.j2 k o c) true := fun c hc => by
      refine Ev.succ ?_
      simp only [w_BoxGap.j2]
      cases o with
      | false => exact Ev.neg (by decide) (Ev.now _)
      | true => rw [hc rfl]; exact Ev.pos (by simp) (Ev.now _)
    have h : o = true → le3 q0 q1 q2 p0 p1 p2 := fun e => h (by rw [e]; rfl)
    unfold le3 at h
    refine Ev.neg (by omega) (Ev.pos (by simp) (Ev.bind hb (Ev.pos (by simp) ?_)))
    refine Ev.ite (fun c1 => fin _ fun e => ?_) (fun c1 => Ev.ite (fun c2 => Ev.ite (fun c3 => fin _ fun e => ?_) (fun c3 => Ev.ite (fun c4 => fin _ fun e => ?_) (fun c4 => fin _ fun e => rfl))) (fun c2 => fin _ fun e => rfl))
    · have := h e; exfalso; omega
    · have := h e; exfalso; omega
    · have := h e; rw [decide_eq_false_iff_not]; omega
  | succ m ih =>
    intro i o hi h
    refine Ev.succ ?_
    simp only [w_BoxGap.l0]
    rw [drop_cons l i z25 (by omega), any_cons] at h
    rw [rdN]
    have hb := has_ev (l.getD i z25) q0 q1 q2
    rw [show hasB (l.getD i z25) q0 q1 q2 = false from by rw [← Bool.not_eq_true]; exact ho _ (getD_mem (by omega))] at hb
    refine Ev.pos (by omega) (Ev.pos (by simp) (Ev.pos (by omega) (Ev.bind hb (Ev.neg (by decide) ?_))))
    cases o with
    | false =>
      refine Ev.neg (by decide) (Ev.succ ?_)
      simp only [w_BoxGap.j1]
      rw [stp (by omega)]
      exact ih (i + 1) false (by omega) (by simp)
    | true =>
      refine Ev.pos (by simp) (Ev.bind (has_ev _ p0 p1 p2) (Ev.succ ?_))
      simp only [w_BoxGap.j1]
      rw [stp (by omega)]
      refine ih (i + 1) _ (by omega) (fun hh => h ?_)
      revert hh
      cases hasB (l.getD i z25) p0 p1 p2 <;> simp
theorem cn_mem : ∀ (l : List S25) (c : S25) (x y z : Int), c ∈ l → hasB c x y z = true → 0 < cn l x y z
  | b :: l, c, x, y, z, hc, hh => by
    rw [cn]
    have h1 := ind_nonneg (hasB b x y z)
    have h2 := cn_nonneg l x y z
    rcases List.mem_cons.1 hc with rfl | hc
    · rw [hh]; simp [ind]; omega
    · have := cn_mem l c x y z hc hh; omega
theorem min_has (c : S25) (h : V c) : hasB c c.f0.f0 c.f0.f1 c.f0.f2 = true := by
  rw [has_iff]; have := h.l0; have := h.l1; have := h.l2; omega
/-- What Rest leaves is empty exactly if no point is open. -/
theorem rest_empty (b : S25) (l : List S25) (hb : V b) (hl : ∀ c ∈ l, V c) (h : (restL l [b]).2 = 0) : (restL l [b]).1 = [] ↔ ∀ x y z, hasB b x y z = true → ¬ opn l x y z := by
  have hc := fun x y z => cn_rest l [b] x y z h
  constructor
  · intro he x y z hh ho
    have := hc x y z
    rw [he, (opn_iff l x y z).1 ho] at this
    simp [cn, hh, ind] at this
  · intro hn
    apply Classical.byContradiction
    intro hne
    obtain ⟨c, hcm⟩ := List.exists_mem_of_ne_nil _ hne
    have hv := restL_V l [b] hl (by simpa using hb) c hcm
    have h1 := cn_mem _ c _ _ _ hcm (min_has c hv)
    rw [hc] at h1
    by_cases ha : Bx.anyB l c.f0.f0 c.f0.f1 c.f0.f2 = true
    · rw [if_pos ha] at h1; exact absurd h1 (by decide)
    · rw [if_neg ha] at h1
      simp only [cn, Int.add_zero] at h1
      have hb2 : hasB b c.f0.f0 c.f0.f1 c.f0.f2 = true := by
        cases hq : hasB b c.f0.f0 c.f0.f1 c.f0.f2 with
        | true => rfl
        | false => rw [hq] at h1; exact absurd h1 (by decide)
      exact hn _ _ _ hb2 ((opn_iff _ _ _ _).2 (by simpa using ha))
theorem gap_true (b : S25) (l : List S25) (p0 p1 p2 : Int) : Ev (fun k => w_BoxGap.f k b.f0.f0 b.f0.f1 b.f0.f2 b.f1.f0 b.f1.f1 b.f1.f2 l p0 p1 p2) true := by
  unfold w_BoxGap.f
  refine Ev.cbind rfl (Ev.pos rfl (Ev.ite (fun h => Ev.now _) (fun h => ?_)))
  refine Ev.bind (gap_ev b l (by omega)) (Ev.bind (rest_ev b l (by omega)) ?_)
  by_cases hm : manyS b l = 0
  · have hg : gapS b l = gZ l b (endsL 2 b.f0.f2 b.f1.f2 l) := by unfold gapS; rw [if_pos hm]
    have hr : restS b l = restL l [b] := by unfold restS; rw [if_pos hm]
    obtain ⟨_, hb, hV⟩ := many_256 hm
    rw [hg, hr]
    rcases restL_snd l [b] with h0 | h7
    · refine Ev.pos h0 ?_
      have he := rest_empty b l hb hV h0
      rcases gap_found l b hb with ⟨e, hn⟩ | ⟨x, y, z, hh, ho, e, hmin⟩
      · rw [e, he.2 hn]
        refine Ev.neg (by decide) (Ev.bind (has_ev b p0 p1 p2) ?_)
        refine gap_9 l b p0 p1 p2 0 0 0 (by omega) l.length 0 _ (by omega) ?_
        rw [List.drop_zero]
        cases hp : hasB b p0 p1 p2 with
        | false => rfl
        | true =>
          have := hn p0 p1 p2 hp
          rw [opn_iff] at this
          simp at this
          rw [this]; rfl
      · rw [e]
        have hne : (restL l [b]).1 ≠ [] := fun hem => he.1 hem x y z hh ho
        have hlen : (((restL l [b]).1.length : Int) == 0) = false := by
          have : 0 < (restL l [b]).1.length := List.length_pos_iff.2 hne
          simp; omega
        rw [hlen]
        refine Ev.neg (by simp) (Ev.bind (has_ev b p0 p1 p2) ?_)
        refine gap_0 l b p0 p1 p2 x y z (by omega) hh ho l.length 0 _ (by omega) (fun hp => ?_)
        rw [List.drop_zero, Bool.and_eq_true] at hp
        exact hmin p0 p1 p2 hp.1 ((opn_iff _ _ _ _).2 (by simpa using hp.2))
    · rw [h7]
      exact Ev.neg (by decide) (Ev.pos rfl (Ev.now _))
  · have hg : gapS b l = (0, 0, 0, manyS b l) := by unfold gapS; rw [if_neg hm]
    have hr : restS b l = ([], manyS b l) := by unfold restS; rw [if_neg hm]
    rw [hg, hr]
    refine Ev.neg hm (Ev.ite (fun _ => Ev.now _) (fun _ => Ev.eq (Ev.now _) ?_))
    exact beq_self_eq_true _
theorem BoxGap : w_BoxGap.Pure := by
  intro a0 a1 a2 a3 a4 a5 l p0 p1 p2
  intros
  exact Ev.rounds (gap_true ⟨⟨a0, a1, a2⟩, ⟨a3, a4, a5⟩⟩ l p0 p1 p2)
end Go.Proofs.Ytmmdikhmlmoolaa.Pure
