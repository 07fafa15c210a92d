/-
  ReplaceRefuses: Refusal returns stones and pieces that refute, if there is no repair, or the first error; Refutes accepts exactly what refutes.
-/
import Derived.Test.YtkeomlmlimkebaaZRp9
import Derived.Test.YtkeomlmlimkebaaZQAx20
namespace Go.Proofs.Ytkeomlmlimkebaa.Pure
open Go.RowKit Go.Proofs.Ytkeomlmlimkebaa.QA Go.Proofs.YtkeomlmlimkebaaW.PrintWords Go.Proofs.YtkeomlmlimkebaaW.PrintLast Go.Proofs.YtkeomlmlimkebaaW.PrintMore Go.Proofs.Ytkeomlmlimkebaa.EvKit Go.Proofs.Ytkeomlmlimkebaa.Rq
set_option linter.unusedVariables false
set_option linter.unusedSimpArgs false
theorem rf_bad (F : List (List Int)) (p : Int) (U : List Int) (X : List Bool) (a1 : Int) {e : Int} (he : e ≠ 0) : Ev (fun k => w_ReplaceRefuses.j3 k a1 [] [] e e F p U X) true := by
  refine Ev.succ ?_
  simp only [w_ReplaceRefuses.j3]
  refine Ev.neg he (Ev.bind awake_ev (Ev.pos rfl (Ev.pos (by trivial) (Ev.pos rfl (Ev.now _)))))
theorem ReplaceRefuses : w_ReplaceRefuses.Pure := by
  intro F p U X a1 l2 l3 o0 o1 o2 o3 o4 o5 o6
  refine Ev.rounds ?_
  have hoff : Ev (fun k => w_ReplaceRefuses.j0 k a1 l2 l3 true F p U X) true := by
    refine Ev.succ ?_
    simp only [w_ReplaceRefuses.j0]
    exact Ev.pos (by trivial) awake_some
  unfold w_ReplaceRefuses.f
  obtain ⟨b, hb, hb2⟩ := few_ev F p U X
  refine Ev.bind hb (Ev.ite (fun h => ?_) (fun _ => hoff))
  obtain ⟨h1, h2, h3, h4⟩ := hb2 h
  refine Ev.ite (fun _ => hoff) (fun hl2 => ?_)
  by_cases hl3 : (l3.length : Int) > 70
  · rw [decide_eq_true hl3]; exact hoff
  rw [decide_eq_false hl3]
  obtain ⟨e, he, her⟩ := check_same F p U X h4
  refine Ev.succ ?_
  simp only [w_ReplaceRefuses.j0]
  refine Ev.neg (by decide) (Ev.cbind (a := (F, p, U, X)) rfl ?_)
  dsimp only
  -- the last part
  have main : ∀ A B E, replace_Refusal.f F p U X a1 = some (A, B, E) → Ev (fun k => w_ReplaceRefuses.j1 k a1 A B E false F p U X) true := by
    intro A B E hR
    refine Ev.succ ?_
    simp only [w_ReplaceRefuses.j1]
    refine Ev.neg (by decide) (Ev.cbind her ?_)
    by_cases hop : opE e F U a1 = 0
    · obtain ⟨rfl, g1, g2, g3⟩ := opE_zero hop
      have hG := Good.of he
      have hn1 := hG.ok.n1
      obtain ⟨s, rfl⟩ : ∃ s : Nat, a1 = (s : Int) := ⟨a1.toNat, by omega⟩
      rw [Int.toNat_natCast] at g3
      refine Ev.pos rfl (Ev.neg (by omega) ?_)
      rw [decide_eq_false (by omega)]
      refine Ev.succ ?_
      simp only [w_ReplaceRefuses.j2]
      refine Ev.neg (by decide) (Ev.pos (by omega) (Ev.pos (by omega) ?_))
      rw [rdN, g3]
      refine Ev.neg (by decide) ?_
      rcases search_main hG (show s < F.length by omega) g3 with ⟨L, hL1, hL2, _, hs, hr⟩ | ⟨T, hI, hs, hr⟩
      · have hR2 := Refusal_ok he hop hs
        rw [hR] at hR2
        obtain ⟨rfl, rfl, rfl⟩ : A = [] ∧ B = [] ∧ E = 9 := by
          have := Option.some.inj hR2
          dsimp only [refOf] at this
          simp only [Prod.mk.injEq] at this
          exact this
        refine Ev.bind hr (Ev.pos ?_ (rf_bad F p U X _ (by decide)))
        rw [List.length_map]
        have : L.length ≠ 0 := fun hc => hL1 (List.length_eq_zero_iff.1 hc)
        omega
      · have hR2 := Refusal_ok he hop hs
        rw [hR] at hR2
        obtain ⟨rfl, rfl, rfl⟩ : A = insL (QL U X s T) ∧ B = insL (T.map (·.1)) ∧ E = 0 := by
          have := Option.some.inj hR2
          dsimp only [refOf] at this
          simp only [Prod.mk.injEq] at this
          exact this
        refine Ev.bind hr (Ev.neg (by decide) ?_)
        refine Ev.succ ?_
        simp only [w_ReplaceRefuses.j3]
        have hlq : (insL (QL U X s T)).length < 1000 := by
          rw [(insL_perm _).length_eq]
          have := Q_bound hG (by omega) g3 hI
          simp only [QL, List.length_map]
          omega
        have hlp : (insL (T.map (·.1))).length < 1000 := by
          rw [(insL_perm _).length_eq]
          have h5 := Rp.nodup_len p.toNat (T.map (·.1)) hI.nd (fun x hx => by
            obtain ⟨t, _, h6⟩ := t_of hI hx
            exact hG.ok.rng t x h6)
          have := hG.ok.p64
          omega
        refine Ev.pos (by trivial) (Ev.bind (refusal_ev hG (by omega)) (Ev.bind awake_ev (Ev.pos rfl (Ev.pos (by trivial) ?_))))
        dsimp only
        rw [pieces_eq hG (by omega) g3 hI, stones_eq hG (by omega) g3 hI]
        refine Ev.bind (same_ints _ (by omega)) (Ev.pos rfl (Ev.bind (same_ints _ (by omega)) (Ev.pos rfl (Ev.cbind (a := (F, p, U, X)) rfl ?_))))
        dsimp only
        refine Ev.cbind (refutes_prog F p U X (s : Int) (by omega) (by omega) he) ?_
        rw [refuse_true hG (by omega) g3 hI]
        exact Ev.now _
    · have hR2 := Refusal_err he hop
      rw [hR] at hR2
      obtain ⟨rfl, rfl, rfl⟩ : A = [] ∧ B = [] ∧ E = opE e F U a1 := by
        have := Option.some.inj hR2
        simp only [Prod.mk.injEq] at this
        exact this
      refine Ev.ite (fun c0 => ?_) (fun c0 => ?_)
      · subst c0
        have hG := Good.of he
        have hn1 := hG.ok.n1
        have e0 : opE 0 F U a1 = if a1 < 0 ∨ a1 ≥ (F.length : Int) then 6 else if U.getD a1.toNat 0 = -1 then 0 else 8 := by unfold opE; rw [if_pos rfl]
        have hT : (a1 < 0 ∨ a1 ≥ (F.length : Int)) → Ev (fun k => w_ReplaceRefuses.j2 k a1 [] [] (opE 0 F U a1) 0 true F p U X) true := by
          intro hc
          rw [if_pos hc] at e0
          rw [e0]
          refine Ev.succ ?_
          simp only [w_ReplaceRefuses.j2]
          refine Ev.pos (by trivial) ?_
          exact rf_bad F p U X _ (by decide)
        refine Ev.ite (fun c1 => hT (Or.inl c1)) (fun c1 => ?_)
        by_cases c2 : a1 ≥ (F.length : Int)
        · rw [decide_eq_true c2]; exact hT (Or.inr c2)
        · rw [decide_eq_false c2]
          refine Ev.succ ?_
          simp only [w_ReplaceRefuses.j2]
          refine Ev.neg (by decide) (Ev.pos (by omega) (Ev.pos (by omega) ?_))
          rw [if_neg (by omega)] at e0
          by_cases c3 : U.getD a1.toNat 0 = -1
          · rw [if_pos c3] at e0
            exact (hop e0).elim
          · rw [if_neg c3] at e0
            have hu := hG.use a1.toNat (by omega)
            rcases hu with hu | hu
            · exact (c3 hu).elim
            · have := hG.ok.rng _ _ hu
              refine Ev.pos (show U.getD a1.toNat 0 ≥ 0 by omega) ?_
              rw [e0]
              exact rf_bad F p U X _ (by decide)
      · rw [show opE e F U a1 = e by unfold opE; rw [if_neg c0]]
        exact rf_bad F p U X _ c0
  obtain ⟨⟨A, B, E⟩, hR⟩ : ∃ r, replace_Refusal.f F p U X a1 = some r := by
    by_cases hop : opE e F U a1 = 0
    · obtain ⟨rfl, g1, g2, g3⟩ := opE_zero hop
      have hG := Good.of he
      obtain ⟨s, rfl⟩ : ∃ s : Nat, a1 = (s : Int) := ⟨a1.toNat, by omega⟩
      rw [Int.toNat_natCast] at g3
      rcases search_main hG (show s < F.length by omega) g3 with ⟨L, hL1, hL2, _, hs, hr⟩ | ⟨T, hI, hs, hr⟩
      · exact ⟨_, Refusal_ok he hop hs⟩
      · exact ⟨_, Refusal_ok he hop hs⟩
    · exact ⟨_, Refusal_err he hop⟩
  refine Ev.cbind hR ?_
  dsimp only
  refine Ev.ite (fun c1 => Ev.ite (fun c2 => Ev.ite (fun c3 => ?_) (fun _ => main A B E hR)) (fun _ => main A B E hR)) (fun _ => main A B E hR)
  refine Ev.cbind (a := (F, p, U, X)) rfl ?_
  dsimp only
  refine Ev.cbind (refutes_prog F p U X a1 (by omega) (by omega) he) (Ev.bind (refutes_ref F p U X (by omega) (by omega) he her c1 c2) ?_)
  rw [bne_self_eq_false]
  exact main A B E hR
end Go.Proofs.Ytkeomlmlimkebaa.Pure
