/-
  The changes of a least repair can be applied, and behind them the stone and all that had a piece have one.
-/
import Derived.Test.YtkeomlmlimkebaaZRp12
namespace Go.Proofs.Ytkeomlmlimkebaa.Rq
open Go.RowKit Go.Proofs.Ytkeomlmlimkebaa.QA Go.Proofs.YtkeomlmlimkebaaW.PrintWords Go.Proofs.YtkeomlmlimkebaaW.PrintMore Go.Proofs.Ytkeomlmlimkebaa.EvKit Go.Proofs.Ytkeomlmlimkebaa.MapKit
set_option linter.unusedVariables false
set_option linter.unusedSimpArgs false
def setL (L : List (Nat × Int)) (V : List Int) : List Int := L.foldl (fun V e => V.set e.1 e.2) V
theorem setL_len : ∀ (L : List (Nat × Int)) (V : List Int), (setL L V).length = V.length
  | [], V => rfl
  | e :: L, V => by
    show (setL L (V.set e.1 e.2)).length = _
    rw [setL_len L, List.length_set]
theorem setL_not : ∀ (L : List (Nat × Int)) (V : List Int) (i : Nat), (∀ e ∈ L, e.1 ≠ i) → (∀ e ∈ L, e.1 < V.length) → (setL L V).getD i 0 = V.getD i 0
  | [], V, i, _, _ => rfl
  | e :: L, V, i, h, h2 => by
    show (setL L (V.set e.1 e.2)).getD i 0 = _
    rw [setL_not L _ i (fun f hf => h f (by simp [hf])) (fun f hf => by rw [List.length_set]; exact h2 f (by simp [hf])), Rp.getD_set _ _ _ _ (h2 e (by simp)), if_neg (h e (by simp))]
theorem setL_mem : ∀ (L : List (Nat × Int)) (V : List Int), L.Pairwise (fun a b => a.1 ≠ b.1) → (∀ e ∈ L, e.1 < V.length) → ∀ e ∈ L, (setL L V).getD e.1 0 = e.2
  | [], V, _, _, e, he => by simp at he
  | f :: L, V, hp, h2, e, he => by
    rw [List.pairwise_cons] at hp
    show (setL L (V.set f.1 f.2)).getD e.1 0 = _
    have h3 : ∀ g ∈ L, g.1 < (V.set f.1 f.2).length := fun g hg => by rw [List.length_set]; exact h2 g (by simp [hg])
    rcases List.mem_cons.1 he with rfl | he
    · rw [setL_not L _ _ (fun g hg => (hp.1 g hg).symm) h3, Rp.getD_set _ _ _ _ (h2 _ (by simp)), if_pos rfl]
    · exact setL_mem L _ hp.2 h3 e he
section
variable {F : List (List Int)} {p : Int} {U : List Int} {X : List Bool}
theorem aplL_path : ∀ (L : List (Nat × Int)) (D V : List Int), (∀ e ∈ L, e.1 < F.length ∧ X.getD e.1 false = false ∧ e.2 ∈ F.getD e.1 []) → L.Pairwise (fun a b => a.1 ≠ b.1) → (∀ e ∈ L, (e.1 : Int) ∉ D) → aplL F U X ((Rp.chs U L).map toS) D V = .inr (setL L V)
  | [], D, V, _, _, _ => rfl
  | e :: L, D, V, h, hp, hd => by
    rw [List.pairwise_cons] at hp
    obtain ⟨h1, h2, h3⟩ := h e (by simp)
    have ec : (Rp.chs U (e :: L)).map toS = (⟨(e.1 : Int), U.getD e.1 0, e.2⟩ : S52) :: (Rp.chs U L).map toS := rfl
    rw [ec, aplL]
    show (if (e.1 : Int) < 0 ∨ (e.1 : Int) ≥ (F.length : Int) then _ else _) = _
    rw [if_neg (by omega)]
    simp only [Int.toNat_natCast]
    rw [if_neg (fun hc => hc.elim (fun hc => hc rfl) (hd e (by simp))), if_neg (by rw [h2]; simp), if_neg (fun hc => hc h3)]
    refine aplL_path L _ _ (fun f hf => h f (by simp [hf])) hp.2 (fun f hf hm => ?_)
    rcases List.mem_append.1 hm with hm | hm
    · exact hd f (by simp [hf]) hm
    · simp at hm
      exact hp.1 f hf (by omega)
/-- What the reference's way is like. -/
theorem greedy_path (hG : Good F p U X) {d : List Int} : ∀ (L : List (Nat × Int)) (s : Nat), s < F.length → X.getD s false = false → Rp.Greedy (Rp.fitF F) (Rp.usrF U) (Rp.fxF X) d s L →
    (∀ e ∈ L, e.1 < F.length ∧ X.getD e.1 false = false ∧ e.2 ∈ F.getD e.1 [] ∧ d.getD e.1 0 ≤ d.getD s 0) ∧ L.Pairwise (fun a b => d.getD b.1 0 < d.getD a.1 0) ∧
    (∀ e ∈ L, (Rp.usrF U e.2 = none ∧ d.getD e.1 0 = 1) ∨ ∃ u f, Rp.usrF U e.2 = some u ∧ f ∈ L ∧ f.1 = u ∧ d.getD u 0 = d.getD e.1 0 - 1)
  | [], s, _, _, h => by simp [Rp.Greedy] at h
  | [(t, x)], s, hs, hx, h => by
    obtain ⟨rfl, hu, hf⟩ := h
    have h1 := List.mem_of_find?_eq_some hf
    have h2 := List.find?_some hf
    unfold Rp.goodP at h2
    rw [hu] at h2
    refine ⟨fun e he => ?_, by simp, fun e he => ?_⟩
    · simp at he; subst he; exact ⟨hs, hx, h1, Int.le_refl _⟩
    · simp at he; subst he; exact Or.inl ⟨hu, eq_of_beq h2⟩
  | (t, x) :: e2 :: L, s, hs, hx, h => by
    obtain ⟨rfl, u, hu, hf, hg⟩ := h
    have h1 := List.mem_of_find?_eq_some hf
    have h2 := List.find?_some hf
    unfold Rp.goodP at h2
    rw [hu] at h2
    simp only [Bool.and_eq_true, decide_eq_true_eq, Bool.not_eq_true', beq_iff_eq] at h2
    obtain ⟨⟨⟨_, _⟩, h3⟩, h4⟩ := h2
    obtain ⟨g1, g2, g3⟩ := greedy_path hG (e2 :: L) u (hG.lt _ _ hu) h3 hg
    have h5 : e2.1 = u := by
      cases L with
      | nil => exact hg.1.symm
      | cons e3 L => exact hg.1.symm
    refine ⟨fun e he => ?_, List.pairwise_cons.2 ⟨fun e he => ?_, g2⟩, fun e he => ?_⟩
    · rcases List.mem_cons.1 he with rfl | he
      · exact ⟨hs, hx, h1, Int.le_refl _⟩
      · obtain ⟨a1, a2, a3, a4⟩ := g1 e he
        exact ⟨a1, a2, a3, by omega⟩
    · have := (g1 e he).2.2.2
      show d.getD e.1 0 < d.getD s 0
      omega
    · rcases List.mem_cons.1 he with rfl | he
      · exact Or.inr ⟨u, e2, hu, by simp, h5, h4⟩
      · rcases g3 e he with h6 | ⟨v, f, h6, h7, h8, h9⟩
        · exact Or.inl h6
        · exact Or.inr ⟨v, f, h6, by simp only [List.mem_cons] at h7 ⊢; exact Or.inr h7, h8, h9⟩
theorem pw_inj {d : List Int} {L : List (Nat × Int)} (hp : L.Pairwise (fun a b => d.getD b.1 0 < d.getD a.1 0)) {e f : Nat × Int} (he : e ∈ L) (hf : f ∈ L) (h : d.getD e.1 0 = d.getD f.1 0) : e = f := by
  obtain ⟨A, B, hL⟩ := Rp.app_at he
  obtain ⟨C, D, hL2⟩ := Rp.app_at hf
  rcases Rp.two_at (hL ▸ hp) (hL.symm.trans hL2) with ⟨h1, _, _⟩ | ⟨M, _, _, h1⟩ | ⟨M, _, h1⟩
  · exact h1
  · omega
  · omega
/-- The plan behind a repair. -/
theorem repair_applied (hG : Good F p U X) (he : replace_Check.f F p U X = some 0) {s0 : Nat} (h0 : s0 < F.length) (hu0 : U.getD s0 0 = -1) {d : List Int} {L : List (Nat × Int)} (hL : L.length < 100000) (hg : Rp.Greedy (Rp.fitF F) (Rp.usrF U) (Rp.fxF X) d s0 L) :
    ∃ V, replace_Apply.f F p U X ((Rp.chs U L).map toS) = some (F, p, V, X, 0) ∧ replace_Check.f F p V X = some 0 ∧ V.length = U.length ∧ L.length ≤ F.length ∧ 0 ≤ V.getD s0 0 ∧ ∀ i, i < F.length → (0 ≤ U.getD i 0 → 0 ≤ V.getD i 0) ∧ (X.getD i false = true → V.getD i 0 = U.getD i 0) := by
  have hn1 := hG.ok.n1
  have hn2 := hG.ok.n2
  have hn3 := hG.ok.n3
  have hx0 : X.getD s0 false = false := by
    cases h : X.getD s0 false with
    | false => rfl
    | true => exact (hG.fx s0 h0 h hu0).elim
  obtain ⟨g1, g2, g3⟩ := greedy_path hG L s0 h0 hx0 hg
  have hne : L.Pairwise (fun a b => a.1 ≠ b.1) := g2.imp (fun h e => by rw [e] at h; omega)
  have hlt : ∀ e ∈ L, e.1 < U.length := fun e he => by have := (g1 e he).1; omega
  have hA : aplL F U X ((Rp.chs U L).map toS) [] U = .inr (setL L U) := aplL_path L [] U (fun e he => ⟨(g1 e he).1, (g1 e he).2.1, (g1 e he).2.2.1⟩) hne (fun e he => by simp)
  have hmem := setL_mem L U hne hlt
  have hnot := fun i h => setL_not L U i h hlt
  obtain ⟨k1, k2⟩ := aplL_ok hG _ [] U _ rfl (check_ok he).2.2.2.2.2.2.1 hA
  have hpos : ∀ e ∈ L, 0 ≤ e.2 := fun e he => (hG.ok.rng e.1 e.2 (g1 e he).2.2.1).1
  have hcase : ∀ i, (∃ e ∈ L, e.1 = i) ∨ ∀ e ∈ L, e.1 ≠ i := fun i => by
    by_cases h : ∃ e ∈ L, e.1 = i
    · exact Or.inl h
    · exact Or.inr fun e he hi => h ⟨e, he, hi⟩
  have hdup : ∀ i j, i ≠ j → i < U.length → j < U.length → (setL L U).getD i 0 = (setL L U).getD j 0 → (setL L U).getD j 0 = -1 ∨ (setL L U).getD i 0 = -1 := by
    have one : ∀ (e : Nat × Int) (j : Nat), e ∈ L → (∀ f ∈ L, f.1 ≠ j) → j < U.length → e.2 = U.getD j 0 → False := by
      intro e j he hj hjl h
      have hp := hpos e he
      have hus := usr_of hG (show j < F.length by omega) (by omega)
      rw [← h] at hus
      rcases g3 e he with ⟨h1, _⟩ | ⟨u, f, h1, h2, h3, _⟩
      · rw [h1] at hus; cases hus
      · rw [h1] at hus
        have := Option.some.inj hus
        exact hj f h2 (by omega)
    intro i j hij hi hj h
    rcases hcase i with ⟨e, he, rfl⟩ | hi2
    · rcases hcase j with ⟨f, hf, rfl⟩ | hj2
      · rw [hmem e he, hmem f hf] at h
        exfalso
        have hd : d.getD e.1 0 = d.getD f.1 0 := by
          rcases g3 e he with ⟨h1, h2⟩ | ⟨u, a, h1, h2, h3, h4⟩
          · rcases g3 f hf with ⟨h5, h6⟩ | ⟨v, b, h5, _, _, _⟩
            · omega
            · rw [← h, h1] at h5; cases h5
          · rcases g3 f hf with ⟨h5, h6⟩ | ⟨v, b, h5, _, _, h6⟩
            · rw [← h, h1] at h5; cases h5
            · rw [← h, h1] at h5
              have := Option.some.inj h5
              subst this
              omega
        exact hij (by rw [pw_inj g2 he hf hd])
      · rw [hmem e he, hnot j hj2] at h
        exact (one e j he hj2 hj h).elim
    · rcases hcase j with ⟨f, hf, rfl⟩ | hj2
      · rw [hmem f hf, hnot i hi2] at h
        exact (one f i hf hi2 hi h.symm).elim
      · rw [hnot i hi2, hnot j hj2] at h ⊢
        rcases Nat.lt_or_gt_of_ne hij with h3 | h3
        · exact Or.inl (hG.inj h3 hj h)
        · have := hG.inj h3 hi h.symm
          exact Or.inr this
  have hdA : ∀ j, j < (setL L U).length → dupA (setL L U) j = false := dup_of fun i j hij hj h => by
    rw [setL_len] at hj
    rcases hdup i j (by omega) (by omega) hj h with h1 | h1
    · exact h1
    · rw [← h]; exact h1
  have htw : twB (setL L U) = false := by
    rw [← dup_tw (p := p) (X := X) (by omega) k2]
    exact any_no _ hdA
  have hlen : (setL L U).length = U.length := setL_len L U
  refine ⟨setL L U, ?_, ?_, hlen, ?_, ?_, fun i hi => ⟨fun h => ?_, fun h => ?_⟩⟩
  · rw [prog_apply hG he _ (by simp [Rp.chs]; omega), hA]
    show some (if twB (setL L U) = true then _ else _) = _
    rw [htw]
    rfl
  · exact check_of (by omega) hn2 hn3 hG.p0 (by have := hG.ok.p64; have := hG.p0; omega) (check_ok he).2.2.2.2.2.1 k2 hdA
  · have h1 := Rp.nodup_len F.length (L.map fun e => (e.1 : Int)) (by
      rw [List.nodup_iff_pairwise_ne, List.pairwise_map]
      exact hne.imp (fun h e => h (by omega))) (fun x hx => by
        obtain ⟨e, he, rfl⟩ := List.mem_map.1 hx
        have := (g1 e he).1
        omega)
    rwa [List.length_map] at h1
  · have h1 := (greedy_facts L s0 hg).2
    cases L with
    | nil => simp at h1
    | cons e L =>
      simp at h1
      subst h1
      rw [hmem e (by simp)]
      exact hpos e (by simp)
  · rcases hcase i with ⟨e, he, rfl⟩ | h2
    · rw [hmem e he]; exact hpos e he
    · rw [hnot i h2]; exact h
  · rcases hcase i with ⟨e, he, rfl⟩ | h2
    · have := (g1 e he).2.1
      rw [this] at h; cases h
    · exact hnot i h2
end
end Go.Proofs.Ytkeomlmlimkebaa.Rq
