/-
  ReplaceBreaks: Break gives nobody a piece, and takes at most one; a repair of the stone that lost it never uses the piece again.
-/
import Derived.Test.YtkeomlmlimkebaaZRp10
import Derived.Test.YtkeomlmlimkebaaZQAx21
namespace Go.Proofs.Ytkeomlmlimkebaa.Pure
open Go.RowKit Go.Proofs.Ytkeomlmlimkebaa.QA Go.Proofs.YtkeomlmlimkebaaW.PrintWords Go.Proofs.YtkeomlmlimkebaaW.PrintLast Go.Proofs.YtkeomlmlimkebaaW.PrintMore Go.Proofs.Ytkeomlmlimkebaa.EvKit Go.Proofs.Ytkeomlmlimkebaa.Rq
set_option linter.unusedVariables false
set_option linter.unusedSimpArgs false
theorem br_l1 {a1 lost : Int} {L : List S52} (hl : L.length < 1000000) (h : ∀ c ∈ L, c.f2 ≠ a1 ∧ c.f1 ≠ a1) (h0 : 0 < L.length) (hh : (L.getD 0 z52).f0 = lost) : ∀ m i, L.length = i + m → Ev (fun k => w_ReplaceBreaks.l1 k a1 lost L (i : Int)) true := by
  have eat : ∀ i : Nat, rd_T52 L (i : Int) = L.getD i z52 := fun i => by unfold rd_T52; rw [Int.toNat_natCast]
  intro m
  induction m with
  | zero =>
    intro i hi
    refine Ev.succ ?_
    simp only [w_ReplaceBreaks.l1]
    refine Ev.neg (by omega) (Ev.bind awake_ev (Ev.pos rfl (Ev.pos (by omega) (Ev.pos (by omega) ?_))))
    have e0 : rd_T52 L 0 = L.getD 0 z52 := eat 0
    rw [e0, hh, beq_self_eq_true]
    exact Ev.step (f := fun _ => some true) (fun _ => rfl) (Ev.now _)
  | succ m ih =>
    intro i hi
    have hm : L.getD i z52 ∈ L := by
      rw [List.getD_eq_getElem?_getD, List.getElem?_eq_getElem (show i < L.length by omega)]
      exact List.getElem_mem _
    have hc := h _ hm
    refine Ev.succ ?_
    simp only [w_ReplaceBreaks.l1]
    rw [eat]
    refine Ev.pos (by omega) (Ev.pos (by omega) (Ev.neg hc.1 (Ev.neg hc.2 ?_)))
    rw [nxt64 (by omega)]
    exact ih (i + 1) (by omega)
theorem ReplaceBreaks : w_ReplaceBreaks.Pure := by
  intro F p U X a1 o0 o1 o2 o3 o4
  refine Ev.rounds ?_
  unfold w_ReplaceBreaks.f
  obtain ⟨b, hb, hb2⟩ := few_ev F p U X
  refine Ev.bind hb (Ev.ite (fun h => ?_) (fun _ => awake_some))
  obtain ⟨h1, h2, h3, h4⟩ := hb2 h
  obtain ⟨e, he, her⟩ := check_same F p U X h4
  refine Ev.cbind (a := (F, p, U, X)) rfl ?_
  dsimp only
  by_cases c0 : e = 0
  · subst c0
    have hG := Good.of he
    have hn1 := hG.ok.n1
    have hn2 := hG.ok.n2
    have hn3 := hG.ok.n3
    have hB := Break_is (a1 := a1) he
    by_cases c1 : a1 < 0 ∨ a1 ≥ p
    · rw [if_pos c1] at hB
      exact Ev.cbind hB (Ev.neg (by decide) awake_some)
    · rw [if_neg c1] at hB
      by_cases c2 : 0 ≤ idxI U a1 ∧ X.getD (idxI U a1).toNat false = true
      · rw [if_pos c2] at hB
        exact Ev.cbind hB (Ev.neg (by decide) awake_some)
      · rw [if_neg c2] at hB
        have ha : 0 ≤ a1 := by omega
        have hk := brk_check hG ha c2
        have hG' := Good.of hk
        refine Ev.cbind hB (Ev.pos rfl (Ev.cbind hk (Ev.pos rfl ?_)))
        dsimp only
        rw [brkU_len, bne_self_eq_false]
        refine Ev.succ ?_
        simp only [w_ReplaceBreaks.j0]
        refine Ev.neg (by decide) ?_
        have hat := brkU_at hG ha
        have hbl : (brkU U a1).length = U.length := brkU_len a1
        -- the last part
        have last : ∀ lost : Int, (lost < 0 ∨ ∃ u : Nat, lost = (u : Int) ∧ u < U.length ∧ U.getD u 0 = a1) → Ev (fun k => w_ReplaceBreaks.l0 k a1 lost ((U.length : Nat) : Int) F p U X (F.map (remP a1)) p (brkU U a1) X) true := by
          intro lost hlost
          refine Ev.succ ?_
          simp only [w_ReplaceBreaks.l0]
          refine Ev.neg (by omega) (Ev.ite (fun _ => awake_some) (fun hl => ?_))
          rcases hlost with hlost | ⟨u, rfl, hul, hua⟩
          · exact (hl hlost).elim
          have hu' : (brkU U a1).getD u 0 = -1 := by rw [hat u hul, if_pos hua]
          have hFl : (F.map (remP a1)).length = F.length := List.length_map _
          have hop : opE 0 (F.map (remP a1)) (brkU U a1) (u : Int) = 0 := by
            unfold opE
            rw [if_pos rfl, if_neg (by omega), Int.toNat_natCast, if_pos hu']
          rcases search_main hG' (show u < (F.map (remP a1)).length by omega) hu' with ⟨L, hL1, hL2, hgr, hs, hr⟩ | ⟨T, _, hs, hr⟩
          · refine Ev.cbind (Repair_ok hk hop hs) (Ev.pos rfl ?_)
            dsimp only [repOf]
            obtain ⟨f1, f2⟩ := greedy_facts L u hgr
            have hl : (((Rp.chs (brkU U a1) L).map toS).length) = L.length := by simp [Rp.chs]
            refine br_l1 (by omega) (fun c hc => ?_) ?_ ?_ ((Rp.chs (brkU U a1) L).map toS).length 0 (by omega)
            · unfold Rp.chs at hc
              rw [List.map_map] at hc
              obtain ⟨ch, hch, rfl⟩ := List.mem_map.1 hc
              have h5 := f1 ch hch
              rw [show Rp.fitF (F.map (remP a1)) ch.1 = (F.map (remP a1)).getD ch.1 [] from rfl, remP_getD] at h5
              have h6 := mem_remP.1 h5
              have h7 : ch.1 < F.length := by
                by_cases h7 : ch.1 < F.length
                · exact h7
                · have := h6.1
                  rw [List.getD_eq_getElem?_getD, List.getElem?_eq_none (by omega)] at this
                  simp at this
              refine ⟨h6.2, ?_⟩
              show (brkU U a1).getD ch.1 0 ≠ a1
              rw [hat ch.1 (by omega)]
              split
              · omega
              · rename_i h8; exact h8
            · have : L.length ≠ 0 := fun hc => hL1 (List.length_eq_zero_iff.1 hc)
              omega
            · cases L with
              | nil => exact (hL1 rfl).elim
              | cons c L =>
                simp at f2
                show (c.1 : Int) = (u : Int)
                rw [f2]
          · refine Ev.cbind (Repair_ok hk hop hs) ?_
            dsimp only [repOf]
            exact Ev.neg (by decide) (Ev.bind awake_ev (Ev.pos rfl (Ev.now _)))
        have loop : ∀ m i (lost : Int), U.length = i + m → (lost < 0 ∧ (∀ j, j < i → U.getD j 0 ≠ a1) ∨ ∃ u : Nat, lost = (u : Int) ∧ u < i ∧ U.getD u 0 = a1) → Ev (fun k => w_ReplaceBreaks.l0 k a1 lost (i : Int) F p U X (F.map (remP a1)) p (brkU U a1) X) true := by
          intro m
          induction m with
          | zero =>
            intro i lost hi hlost
            rw [show i = U.length by omega]
            refine last lost ?_
            rcases hlost with hlost | ⟨u, h1, h2, h3⟩
            · exact Or.inl hlost.1
            · exact Or.inr ⟨u, h1, by omega, h3⟩
          | succ m ih =>
            intro i lost hi hlost
            have j3 : ∀ l' : Int, (l' < 0 ∧ (∀ j, j < i + 1 → U.getD j 0 ≠ a1) ∨ ∃ u : Nat, l' = (u : Int) ∧ u < i + 1 ∧ U.getD u 0 = a1) → Ev (fun k => w_ReplaceBreaks.j3 k a1 l' (i : Int) F p U X (F.map (remP a1)) p (brkU U a1) X) true := by
              intro l' h
              refine Ev.succ ?_
              simp only [w_ReplaceBreaks.j3]
              rw [nxt64 (by omega)]
              exact ih (i + 1) l' (by omega) h
            refine Ev.succ ?_
            simp only [w_ReplaceBreaks.l0, rdN]
            refine Ev.pos (by omega) (Ev.pos (by omega) (Ev.pos (by omega) ?_))
            rw [hat i (by omega)]
            by_cases e1 : U.getD i 0 = a1
            · rw [if_pos e1]
              refine Ev.neg (by omega) (Ev.pos rfl (Ev.pos e1 ?_))
              rcases hlost with hlost | ⟨u, h1, h2, h3⟩
              · rw [decide_eq_false (by omega)]
                refine Ev.succ ?_
                simp only [w_ReplaceBreaks.j2]
                exact Ev.neg (by decide) (j3 (i : Int) (Or.inr ⟨i, rfl, by omega, e1⟩))
              · have := hG.inj h2 (show i < U.length by omega) (by rw [h3, e1])
                omega
            · rw [if_neg e1]
              refine Ev.pos rfl (j3 lost ?_)
              rcases hlost with hlost | ⟨u, h1, h2, h3⟩
              · refine Or.inl ⟨hlost.1, fun j hj => ?_⟩
                by_cases hji : j = i
                · subst hji; exact e1
                · exact hlost.2 j (by omega)
              · exact Or.inr ⟨u, h1, by omega, h3⟩
        exact loop U.length 0 (-1) (by omega) (Or.inl ⟨by decide, fun j hj => by omega⟩)
  · refine Ev.cbind (Break_err he c0) ?_
    dsimp only
    exact Ev.neg c0 awake_some
end Go.Proofs.Ytkeomlmlimkebaa.Pure
