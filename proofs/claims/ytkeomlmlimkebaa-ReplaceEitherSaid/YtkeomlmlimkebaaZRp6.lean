import Derived.Test.YtkeomlmlimkebaaZRp5
namespace Go.Proofs.Ytkeomlmlimkebaa.Rq
open Go.RowKit Go.Proofs.Ytkeomlmlimkebaa.QA Go.Proofs.YtkeomlmlimkebaaW.PrintWords Go.Proofs.YtkeomlmlimkebaaW.PrintMore Go.Proofs.Ytkeomlmlimkebaa.EvKit Go.Proofs.Ytkeomlmlimkebaa.MapKit
set_option linter.unusedVariables false
set_option linter.unusedSimpArgs false
section
variable {F : List (List Int)} {p : Int} {U : List Int} {X : List Bool}
theorem hs0_of {s0 : Nat} (hu0 : U.getD s0 0 = -1) : ∀ x, Rp.usrF U x = some s0 → x < 0 := fun x h => by
  have := (Rp.usr_lt h).2
  omega
theorem Q_bound (hG : Good F p U X) {s0 a : Nat} {done : List Int} {T : List (Int × Nat)} (h0 : s0 < F.length) (hu0 : U.getD s0 0 = -1) (hI : Rp.Inv (Rp.fitF F) (Rp.usrF U) (Rp.fxF X) s0 a done T) : (Rp.QF U X s0 T).length ≤ 64 := by
  have hT : ∀ e ∈ T, 0 ≤ e.1 := fun e he => by obtain ⟨s, _, h2⟩ := hI.fits e he; exact (hG.ok.rng s _ h2).1
  have h1 := Rp.nodup_Q (hs0_of hu0) hT hI
  have h2 := Rp.nodup_len U.length ((Rp.QF U X s0 T).map (fun u : Nat => (u : Int))) (by
    rw [List.nodup_iff_pairwise_ne] at h1 ⊢
    rw [List.pairwise_map]
    exact h1.imp (fun h e => h (by omega))) (fun x hx => by
      obtain ⟨u, hu, rfl⟩ := List.mem_map.1 hx
      obtain ⟨i, hi⟩ := List.getElem?_of_mem hu
      have := Rp.Q_lt (uses := U) (fixed := X) (by have := hG.ok.n1; omega) hi
      omega)
  rw [List.length_map] at h2
  have := hG.ok.n1
  have := hG.ok.n3
  omega
theorem Dn_len {s0 a i : Nat} {xf : Int} {done : List Int} {T : List (Int × Nat)} {L : List (Nat × Int)} (hI : Rp.Inv (Rp.fitF F) (Rp.usrF U) (Rp.fxF X) s0 a done T) (h : Rp.Dn (usr := Rp.usrF U) (fx := Rp.fxF X) s0 a xf T i L) : i + L.length ≤ a + 1 := by
  induction h with
  | last _ => simp
  | step hc _ _ ih =>
    have := hc.lt hI
    simp only [List.length_cons]
    omega
theorem greedy_facts {fit : Nat → List Int} {usr : Int → Option Nat} {fx : Nat → Bool} {d : List Int} : ∀ (L : List (Nat × Int)) (s : Nat), Rp.Greedy fit usr fx d s L → (∀ e ∈ L, e.2 ∈ fit e.1) ∧ (L.head?.map (·.1) = some s)
  | [], s, h => by simp [Rp.Greedy] at h
  | [(t, x)], s, h => by
    obtain ⟨rfl, _, h⟩ := h
    have := List.mem_of_find?_eq_some h
    exact ⟨fun e he => by simp at he; subst he; exact this, rfl⟩
  | (t, x) :: e2 :: L, s, h => by
    obtain ⟨rfl, u, _, h, h2⟩ := h
    have h3 := List.mem_of_find?_eq_some h
    have h4 := greedy_facts (e2 :: L) u h2
    exact ⟨fun e he => by
      rcases List.mem_cons.1 he with rfl | he
      · exact h3
      · exact h4.1 e he, rfl⟩
theorem search_main (hG : Good F p U X) {s0 : Nat} (h0 : s0 < F.length) (hu0 : U.getD s0 0 = -1) :
    (∃ L : List (Nat × Int), L ≠ [] ∧ L.length ≤ 65 ∧ Rp.Greedy (Rp.fitF F) (Rp.usrF U) (Rp.fxF X) (LN F U X) s0 L ∧ replace_search.f 10000 F p U X (s0 : Int) = some (.inl ((Rp.chs U L).map toS)) ∧ Ev (fun k => r_Repair.f k F p U X (s0 : Int)) (L.map fun e => (⟨(e.1 : Int), U.getD e.1 0, e.2⟩ : S69))) ∨
    (∃ T : List (Int × Nat), Rp.Inv (Rp.fitF F) (Rp.usrF U) (Rp.fxF X) s0 (Rp.QF U X s0 T).length [] T ∧ replace_search.f 10000 F p U X (s0 : Int) = some (.inr (insL ((Rp.QF U X s0 T).map fun u : Nat => (u : Int)), insL (T.map (·.1)))) ∧ Ev (fun k => r_Repair.f k F p U X (s0 : Int)) []) := by
  have hN := hG.ok.n3
  have hn1 := hG.ok.n1
  have hU := hG.useR
  have hrow : ∀ s, ∀ x ∈ rd_L1 F s, 0 ≤ x ∧ x ≤ 64 := fun s x hx => by
    have := hG.ok.rng s.toNat x hx
    have := hG.ok.p64
    omega
  have hlen : ∀ s, (rd_L1 F s).length ≤ 64 := fun s => hG.row s.toNat
  have hfu : replace_search.f 10000 F p U X (s0 : Int) = replace_search.l0 10000 F U X (s0 : Int) [] [(s0 : Int)] [] 0 := by
    unfold replace_search.f
    rw [if_pos (by omega)]
  rcases Rp.bfs_is hG.ok h0 (hs0_of hu0) 65 0 [] ⟨[], [(s0 : Int)], []⟩ (by omega) (by simp) (Rp.Inv.start _ _ _ s0) (Rp.Sim.start U X s0) with ⟨xf, a', s, T', m', h1, h2, ⟨done', h3⟩, h4, h5, h6, h7, h8, h9⟩ | ⟨T', t', h1, h2, h3⟩
  · have ha' := (List.getElem?_eq_some_iff.1 h2).1
    have hQb := Q_bound hG h0 hu0 h3
    obtain ⟨L', h10, h11⟩ := Rp.up_is hG.ok h0 (hs0_of hu0) h3 h9 100 a' xf s [] [] (by omega) h2 h8 (.last h2) rfl
    have hLl := Dn_len h3 h10
    have hL1 : L' ≠ [] := by cases h10 <;> simp
    have hgr := Rp.Dn.greedy hN hG.lt hG.ok.inc h3 h0 h2 h4 h5 h7 h10 s0 rfl
    have hxfr := hrow s xf (by rw [rdL]; exact h4)
    have hsim := bfs_sim (uses := U) (fixed := X) (stone := (s0 : Int)) hrow hlen 66 0 10000 ⟨[], [(s0 : Int)], []⟩ _ h1 (by omega) (by omega) (by simp) (by simp) (by simp)
    refine Or.inl ⟨L', hL1, by omega, hgr, ?_, ?_⟩
    · rw [hfu]
      refine hsim _ (fun k' hk' => ?_)
      unfold replace_repair.f
      exact repair_sim U m' (s0 : Int) hU 100 k' xf [] _ h11 hk' (by simp) (by omega) (by omega)
    · refine rep_some hG h0 ?_ (by omega) hgr
      obtain ⟨t, ht, n, hn, hw⟩ := h10.way h3 h2 h4 h5
      have : t = s0 := by
        have e : (Rp.Qu (Rp.usrF U) (Rp.fxF X) s0 T')[0]? = some s0 := rfl
        rw [e] at ht
        exact (Option.some.inj ht).symm
      subst this
      rcases Rp.lens_is (fit := Rp.fitF F) (fx := Rp.fxF X) hN hG.lt t h0 with ⟨m, _, g1, g2⟩ | ⟨_, g2⟩
      · show (Rp.lensL (Rp.fitF F) (Rp.usrF U) (Rp.fxF X) F.length F.length).getD t 0 < 1000
        omega
      · exact (g2 n hw).elim
  · have hQb := Q_bound hG h0 hu0 h2
    have hsim := bfs_sim (uses := U) (fixed := X) (stone := (s0 : Int)) hrow hlen 66 0 10000 ⟨[], [(s0 : Int)], []⟩ _ h1 (by omega) (by omega) (by simp) (by simp) (by simp)
    refine Or.inr ⟨T', h2, ?_, ?_⟩
    · rw [hfu]
      have : replace_search.l0 10000 F U X (s0 : Int) [] [(s0 : Int)] [] ((0 : Nat) : Int) = some (.inr (insL t'.q, insL t'.p)) := hsim
      rw [h3.q, h3.p] at this
      exact this
    · refine rep_none hG h0 ?_
      rcases Rp.lens_is (fit := Rp.fitF F) (fx := Rp.fxF X) hN hG.lt s0 h0 with ⟨m, hm, g1, g2⟩ | ⟨g1, _⟩
      · exact (Rp.no_way h2 (Nat.le_refl _) m 0 s0 rfl hm.1).elim
      · show (Rp.lensL (Rp.fitF F) (Rp.usrF U) (Rp.fxF X) F.length F.length).getD s0 0 ≥ 1000
        omega
end
end Go.Proofs.Ytkeomlmlimkebaa.Rq
