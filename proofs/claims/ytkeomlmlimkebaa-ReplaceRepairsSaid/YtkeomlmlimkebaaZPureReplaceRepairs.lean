/-
  ReplaceRepairs: Repair returns the least repair of a stone, or the first error.
-/
import Derived.Test.YtkeomlmlimkebaaZRp9
import Derived.Test.YtkeomlmlimkebaaZQAx17
namespace Go.Proofs.Ytkeomlmlimkebaa.Pure
open Go.RowKit Go.Proofs.Ytkeomlmlimkebaa.QA Go.Proofs.YtkeomlmlimkebaaW.PrintWords Go.Proofs.YtkeomlmlimkebaaW.PrintLast Go.Proofs.YtkeomlmlimkebaaW.PrintMore Go.Proofs.Ytkeomlmlimkebaa.EvKit Go.Proofs.Ytkeomlmlimkebaa.Rq
set_option linter.unusedVariables false
set_option linter.unusedSimpArgs false
theorem rp_aw {c : Prop} [Decidable c] {o : Bool} (hc : c) (ho : o = true) : Ev (fun k => (w_awake.f k).bind fun t => if t = true then (if c then some o else some false) else some false) true := by
  refine Ev.bind awake_ev (Ev.pos rfl (Ev.pos hc ?_))
  rw [ho]
  exact Ev.now _
theorem ReplaceRepairs : w_ReplaceRepairs.Pure := by
  intro F p U X a1 o0 o1 o2 o3 o4
  refine Ev.rounds ?_
  unfold w_ReplaceRepairs.f
  obtain ⟨b, hb, hb2⟩ := few_ev F p U X
  refine Ev.bind hb (Ev.ite (fun h => ?_) (fun _ => awake_some))
  obtain ⟨h1, h2, h3, h4⟩ := hb2 h
  obtain ⟨e, he, her⟩ := check_same F p U X h4
  refine Ev.cbind (a := (F, p, U, X)) rfl ?_
  dsimp only
  by_cases hop : opE e F U a1 = 0
  · obtain ⟨rfl, g1, g2, g3⟩ := opE_zero hop
    have hG := Good.of he
    have hn1 := hG.ok.n1
    obtain ⟨s, rfl⟩ : ∃ s : Nat, a1 = (s : Int) := ⟨a1.toNat, by omega⟩
    rw [Int.toNat_natCast] at g3
    rcases search_main hG (show s < F.length by omega) g3 with ⟨L, hL1, hL2, _, hs, hr⟩ | ⟨T, _, hs, hr⟩
    · refine Ev.cbind (Repair_ok he hop hs) (Ev.cbind her (Ev.pos rfl (Ev.neg (by omega) (Ev.neg (by omega) (Ev.pos (by omega) (Ev.pos (by omega) ?_))))))
      rw [rdN, g3]
      refine Ev.neg (by decide) (Ev.bind hr (Ev.neg ?_ (Ev.bind awake_ev (Ev.pos rfl (Ev.pos rfl ?_)))))
      · rw [List.length_map]
        intro hc
        exact hL1 (List.length_eq_zero_iff.1 (by omega))
      · have hl : (((Rp.chs U L).map toS).length) = L.length := by simp [Rp.chs]
        dsimp only [repOf]
        refine Ev.bind (changes_ev _ (by omega)) ?_
        have em : (((Rp.chs U L).map toS).map fun x => (⟨x.f0, x.f1, x.f2⟩ : S69)) = L.map fun e => (⟨(e.1 : Int), U.getD e.1 0, e.2⟩ : S69) := by
          unfold Rp.chs
          rw [List.map_map, List.map_map]
          rfl
        rw [em]
        exact Ev.bind (same_changes _ (by rw [List.length_map]; omega)) (Ev.now _)
    · refine Ev.cbind (Repair_ok he hop hs) (Ev.cbind her (Ev.pos rfl (Ev.neg (by omega) (Ev.neg (by omega) (Ev.pos (by omega) (Ev.pos (by omega) ?_))))))
      rw [rdN, g3]
      exact Ev.neg (by decide) (Ev.bind hr (Ev.pos rfl (rp_aw rfl rfl)))
  · refine Ev.cbind (Repair_err he hop) (Ev.cbind her ?_)
    dsimp only
    refine Ev.ite (fun c0 => ?_) (fun c0 => ?_)
    · subst c0
      have hG := Good.of he
      have hn1 := hG.ok.n1
      have e0 : opE 0 F U a1 = if a1 < 0 ∨ a1 ≥ (F.length : Int) then 6 else if U.getD a1.toNat 0 = -1 then 0 else 8 := by unfold opE; rw [if_pos rfl]
      refine Ev.ite (fun c1 => rp_aw (by rw [e0, if_pos (Or.inl c1)]) rfl) (fun c1 => Ev.ite (fun c2 => rp_aw (by rw [e0, if_pos (Or.inr c2)]) rfl) (fun c2 => Ev.pos (by omega) (Ev.pos (by omega) ?_)))
      rw [if_neg (by omega)] at e0
      by_cases c3 : U.getD a1.toNat 0 = -1
      · rw [if_pos c3] at e0
        exact (hop e0).elim
      · rw [if_neg c3] at e0
        have hu := hG.use a1.toNat (by omega)
        rcases hu with hu | hu
        · exact (c3 hu).elim
        · have := hG.ok.rng _ _ hu
          exact Ev.pos (show U.getD a1.toNat 0 ≥ 0 by omega) (rp_aw e0 rfl)
    · exact rp_aw (by unfold opE; rw [if_neg c0]) rfl
end Go.Proofs.Ytkeomlmlimkebaa.Pure
