/-
  Hulls: corners, the hull of the hull, a point inside.
-/
import Derived.Test.YtcembjgpcbodcaaZHl1
namespace Go.Proofs.Ytcembjgpcbodcaa.Hl
open Go.RowKit Go.Proofs.Ytcembjgpcbodcaa.QA
set_option linter.unusedVariables false
set_option linter.unusedSimpArgs false
/-! no other corner lies on the line of a side -/
theorem off1 {a b c d : S23} (h1 : lt a c) (h2 : lt c b) (h0 : D a b c = 0) (k1 : 0 ≤ D c d a) (k2 : 0 ≤ D c d b) (ka : D c d a = 0 → a = c ∨ a = d ∨ Bt c a d) (kb : D c d b = 0 → b = c ∨ b = d ∨ Bt c b d) : False := by
  have hu := lt_rt h1
  have hv := lt_rt h2
  have e0 : cr (c.f0 - a.f0) (c.f1 - a.f1) (b.f0 - c.f0) (b.f1 - c.f1) = 0 := by
    have : cr (c.f0 - a.f0) (c.f1 - a.f1) (b.f0 - c.f0) (b.f1 - c.f1) = - D a b c := by unfold cr D; grind
    omega
  have i1 : D c d b * (c.f0 - a.f0) = - D c d a * (b.f0 - c.f0) + cr (c.f0 - a.f0) (c.f1 - a.f1) (b.f0 - c.f0) (b.f1 - c.f1) * (d.f0 - c.f0) := by unfold cr D; grind
  have i2 : D c d b * (c.f1 - a.f1) = - D c d a * (b.f1 - c.f1) + cr (c.f0 - a.f0) (c.f1 - a.f1) (b.f0 - c.f0) (b.f1 - c.f1) * (d.f1 - c.f1) := by unfold cr D; grind
  rw [e0, Int.zero_mul, Int.add_zero, Int.neg_mul] at i1 i2
  have zb : D c d b = 0 := by
    rcases hu with hu | ⟨hu0, hu1⟩
    · have hv0 : 0 ≤ b.f0 - c.f0 := by rcases hv with h | h <;> omega
      have m2 := Int.mul_nonneg k1 hv0
      apply Classical.byContradiction
      intro hn
      have := Int.mul_pos (show 0 < D c d b by omega) hu
      omega
    · rcases hv with hv | ⟨hv0, hv1⟩
      · rw [hu0, Int.mul_zero] at i1
        have za : D c d a = 0 := by
          apply Classical.byContradiction
          intro hn
          have := Int.mul_pos (show 0 < D c d a by omega) hv
          omega
        rw [za, Int.zero_mul] at i2
        rcases Int.mul_eq_zero.1 (show D c d b * (c.f1 - a.f1) = 0 by omega) with h | h
        · exact h
        · omega
      · have m2 := Int.mul_nonneg k1 (show 0 ≤ b.f1 - c.f1 by omega)
        apply Classical.byContradiction
        intro hn
        have := Int.mul_pos (show 0 < D c d b by omega) hu1
        omega
  have za : D c d a = 0 := by
    rw [zb, Int.zero_mul] at i1 i2
    rcases hv with hv | ⟨hv0, hv1⟩
    · rcases Int.mul_eq_zero.1 (show D c d a * (b.f0 - c.f0) = 0 by omega) with h | h
      · exact h
      · omega
    · rcases Int.mul_eq_zero.1 (show D c d a * (b.f1 - c.f1) = 0 by omega) with h | h
      · exact h
      · omega
  have qa := ka za
  have qb := kb zb
  unfold Bt lt at *
  rcases qa with rfl | rfl | qa <;> rcases qb with rfl | rfl | qb <;> omega
theorem corner_off {S : List S23} {a b c d : S23} (h : NE S a b) (hc : NE S c d) (h1 : c ≠ a) (h2 : c ≠ b) : 0 < D a b c := by
  obtain ⟨k0, kz⟩ := h.2.2.2 c hc.2.1
  apply Classical.byContradiction
  intro hn
  have h0 : D a b c = 0 := by omega
  have ka := hc.2.2.2 a h.2.1
  have kb := hc.2.2.2 b h.2.2.1
  rcases kz h0 with e | e | ⟨l1, l2⟩ | ⟨l1, l2⟩
  · exact h1 e
  · exact h2 e
  · exact off1 l1 l2 h0 ka.1 kb.1 ka.2 kb.2
  · exact off1 l1 l2 (by rw [D_swap]; omega) kb.1 ka.1 kb.2 ka.2
theorem ne_unique {S : List S23} {a c c' : S23} (h : NE S a c) (h' : NE S a c') : c = c' := by
  obtain ⟨k0, k1⟩ := h.2.2.2 c' h'.2.2.1
  obtain ⟨m0, m1⟩ := h'.2.2.2 c h.2.2.1
  rw [D_swap2] at m0 m1
  have h0 : D a c c' = 0 := by omega
  rcases k1 h0 with e | e | e
  · exact absurd e.symm h'.1
  · exact e.symm
  · rcases m1 (by omega) with f | f | f
    · exact absurd f.symm h.1
    · exact f
    · exfalso; unfold Bt lt at *; omega
theorem ne_sub {S T : List S23} (h : ∀ q ∈ T, q ∈ S) {a c : S23} (ha : a ∈ T) (hc : c ∈ T) (hn : NE S a c) : NE T a c :=
  ⟨hn.1, ha, hc, fun q hq => hn.2.2.2 q (h q hq)⟩
/-- A way on that is the same everywhere comes back by the same corners. -/
theorem det {α : Type} {R : α → α → Prop} (hR : ∀ a b c, R a b → R a c → b = c) (a : α) : ∀ (l m : List α) (x : α), Con R (x :: l ++ [a]) → Con R (x :: m ++ [a]) → a ∉ l → a ∉ m → l = m
  | [], [], _, _, _, _, _ => rfl
  | [], b :: m, x, h1, h2, _, h4 => by
    have := hR x a b h1.1 h2.1
    exact absurd (by rw [this]; simp) h4
  | b :: l, [], x, h1, h2, h3, _ => by
    have := hR x a b h2.1 h1.1
    exact absurd (by rw [this]; simp) h3
  | b :: l, c :: m, x, h1, h2, h3, h4 => by
    have e := hR x b c h1.1 h2.1
    subst e
    rw [det hR a l m b h1.2 h2.2 (fun h => h3 (by simp [h])) (fun h => h4 (by simp [h]))]
/-- The corners begin with the least point. -/
theorem crn_head {S : List S23} {a z : S23} (h : Chains S a z) (hne : a ≠ z) : ∃ t, crn S = a :: t := by
  have h2 := two_of h.lhead h.llast hne
  obtain ⟨t, e⟩ := cons_of h.lhead
  unfold crn
  rw [e] at h2 ⊢
  match t, h2 with
  | b :: t', _ => exact ⟨_, by rw [List.dropLast_cons_of_ne_nil (by simp)]; rfl⟩
theorem crn_mem {S : List S23} {a z : S23} (h : Chains S a z) (hne : a ≠ z) : ∀ q ∈ crn S, q ∈ S := by
  have hc := cyc S a z h
  obtain ⟨t, e⟩ := crn_head h hne
  intro q hq
  refine con_mem (R := NE S) (P := fun q => q ∈ S) (fun p q h => ⟨h.2.1, h.2.2.1⟩) _ hc (by rw [e]; simp) q (by simp [hq])
theorem not_flat_crn {S : List S23} {a z : S23} (h : Chains S a z) (hne : a ≠ z) (h5 : ¬ (low S).length + (upp S).length < 5) : ¬ FlatP (crn S) := by
  intro hf
  have e1 := snoc_of h.llast
  have e2 := snoc_of h.ulast
  obtain ⟨t, e3⟩ := cons_of h.uhead
  obtain ⟨t0, e4⟩ := cons_of h.lhead
  have hz : z ∈ crn S := by
    have h3 := two_of h.uhead h.ulast (fun e => hne e.symm)
    unfold crn
    rw [e3] at h3 ⊢
    match t, h3 with
    | b :: t', _ => rw [List.dropLast_cons_of_ne_nil (by simp)]; simp
  have ha : a ∈ crn S := by obtain ⟨t, e⟩ := crn_head h hne; rw [e]; simp
  have ml : ∀ q ∈ low S, q ∈ crn S := fun q hq => by
    rw [e1] at hq
    rcases List.mem_append.1 hq with hq | hq
    · unfold crn; simp [hq]
    · rw [List.mem_singleton.1 hq]; exact hz
  have mu : ∀ q ∈ upp S, q ∈ crn S := fun q hq => by
    rw [e2] at hq
    rcases List.mem_append.1 hq with hq | hq
    · unfold crn; simp [hq]
    · rw [List.mem_singleton.1 hq]; exact ha
  have h2 := two_of h.lhead h.llast hne
  have h3 := two_of h.uhead h.ulast (fun e => hne e.symm)
  have cu : Con (NE S) (upp S) := con_mono (fun _ _ he => ne_mem (fun q => by rw [List.mem_reverse]) (ne_neg (edge_ne he))) _ h.ucon
  have u1 : (upp S).Pairwise (fun p q => lt q p) := con_pair (R := fun p q => lt q p) (fun a b c h1 h2 => lt_trans h2 h1) _ (con_mono (T := fun p q => lt q p) (fun _ _ he => (lt_neg _ _).1 he.1) _ h.ucon)
  have no1 : ∀ l : List S23, (∀ q ∈ l, q ∈ crn S) → Con (Edge S) l → l.length ≤ 2 := fun l hm hc => by
    match l, hm, hc with
    | [], _, _ => simp
    | [_], _, _ => simp
    | [_, _], _, _ => simp
    | p :: q :: r :: t, hm, hc =>
      exfalso
      have h0 := hf p (hm p (by simp)) q (hm q (by simp)) r (hm r (by simp))
      rcases ((hc.1.2.2.2 r hc.2.1.2.2.1).2 h0).2 with rfl | hh
      · exact lt_irrefl _ hc.2.1.1
      · exact lt_irrefl _ (lt_trans hh hc.2.1.1)
  have no2 : ∀ l : List S23, (∀ q ∈ l, q ∈ crn S) → Con (fun p q => Edge (S.reverse.map neg) (neg p) (neg q)) l → l.length ≤ 2 := fun l hm hc => by
    match l, hm, hc with
    | [], _, _ => simp
    | [_], _, _ => simp
    | [_, _], _, _ => simp
    | p :: q :: r :: t, hm, hc =>
      exfalso
      have h0 := hf p (hm p (by simp)) q (hm q (by simp)) r (hm r (by simp))
      rw [← D_neg] at h0
      rcases ((hc.1.2.2.2 (neg r) hc.2.1.2.2.1).2 h0).2 with e | hh
      · exact lt_irrefl _ (by have := hc.2.1.1; rw [e] at this; exact this)
      · exact lt_irrefl _ (lt_trans hh hc.2.1.1)
  have n1 := no1 (low S) ml h.lcon
  have n2 := no2 (upp S) mu h.ucon
  omega
/-! the hull of the hull -/
theorem con_imp {α : Type} {R T : α → α → Prop} {P : α → Prop} (h : ∀ a b, P a → P b → R a b → T a b) : ∀ l : List α, (∀ x ∈ l, P x) → Con R l → Con T l
  | [], _, _ => trivial
  | [_], _, _ => trivial
  | a :: b :: t, hm, hc => ⟨h a b (hm a (by simp)) (hm b (by simp)) hc.1, con_imp h (b :: t) (fun x hx => hm x (by simp [hx])) hc.2⟩
theorem head_least {a : S23} {l : List S23} (hs : (a :: l).Pairwise lt) (q : S23) (hq : q ∈ a :: l) : q = a ∨ lt a q := by
  rcases List.mem_cons.1 hq with rfl | hq
  · exact .inl rfl
  · exact .inr ((List.pairwise_cons.1 hs).1 q hq)
theorem not_flat_ne {S : List S23} {a z : S23} (hs : S.Pairwise lt) (h : Chains S a z) (h5 : ¬ (low S).length + (upp S).length < 5) : a ≠ z := by
  intro e
  subst e
  apply h5
  have one : ∀ l : List S23, l.Pairwise lt → l.head? = some a → l.getLast? = some a → l.length ≤ 1 := fun l hp h1 h2 => by
    match l, hp, h1, h2 with
    | [_], _, _, _ => simp
    | b :: c :: t, hp, h1, h2 =>
      exfalso
      obtain rfl := Option.some.inj h1
      have : b ∈ c :: t := List.mem_of_getLast? (by rw [List.getLast?_cons_cons] at h2; exact h2)
      exact lt_irrefl _ ((List.pairwise_cons.1 hp).1 b this)
  have l1 : (low S).Pairwise lt := con_pair (R := lt) (fun a b c => lt_trans) _ (con_mono (T := lt) (fun _ _ he => he.1) _ h.lcon)
  have n1 := one _ l1 h.lhead h.llast
  have u1 : (upp S).reverse.Pairwise lt := by
    rw [List.pairwise_reverse]
    exact con_pair (R := fun p q => lt q p) (fun a b c h1 h2 => lt_trans h2 h1) _ (con_mono (T := fun p q => lt q p) (fun _ _ he => (lt_neg _ _).1 he.1) _ h.ucon)
  have n2 := one _ u1 (by rw [List.head?_reverse]; exact h.ulast) (by rw [List.getLast?_reverse]; exact h.uhead)
  rw [List.length_reverse] at n2
  omega
theorem hull_hull (S T : List S23) (a z : S23) (hs : S.Pairwise lt) (h : Chains S a z) (hmin : ∀ q ∈ S, q = a ∨ lt a q) (h5 : ¬ (low S).length + (upp S).length < 5) (hT : T.Pairwise lt) (hm : ∀ q, q ∈ T ↔ q ∈ crn S) :
    crn T = crn S ∧ ¬ (low T).length + (upp T).length < 5 := by
  have hne := not_flat_ne hs h h5
  obtain ⟨t, e⟩ := crn_head h hne
  have haT : a ∈ T := (hm a).2 (by rw [e]; simp)
  obtain ⟨b, l, eT⟩ := List.exists_cons_of_ne_nil (List.ne_nil_of_mem haT)
  subst eT
  obtain ⟨w, hw, hc⟩ := chains b l hT
  have hsub : ∀ q ∈ b :: l, q ∈ S := fun q hq => crn_mem h hne q ((hm q).1 hq)
  have hba : b = a := by
    rcases hmin b (hsub b (by simp)) with e1 | e1
    · exact e1
    · rcases head_least hT a haT with e2 | e2
      · exact e2.symm
      · exact absurd (lt_trans e1 e2) (lt_irrefl _)
  subst hba
  have nf : ¬ FlatP (b :: l) := fun hf => not_flat_crn h hne h5 (fun p hp q hq r hr => hf p ((hm p).2 hp) q ((hm q).2 hq) r ((hm r).2 hr))
  have hbw : b ≠ w := by
    intro ew
    apply nf
    have hone : ∀ q ∈ b :: l, q = b := fun q hq => by
      have hlast : w ∈ b :: l := List.mem_of_getLast? hw
      rcases head_least hT q hq with e1 | e1
      · exact e1
      · exfalso
        have e2 := snoc_of hw
        rw [e2] at hT hq
        rcases List.mem_append.1 hq with hq | hq
        · have := (List.pairwise_append.1 hT).2.2 q hq w (by simp)
          rw [← ew] at this
          exact lt_irrefl _ (lt_trans e1 this)
        · rw [List.mem_singleton.1 hq, ← ew] at e1
          exact lt_irrefl _ e1
    intro p hp q hq r hr
    rw [hone p hp, hone q hq, hone r hr]
    exact D_aab _ _
  have hTn : ¬ (low (b :: l)).length + (upp (b :: l)).length < 5 := fun hh => nf ((flat_chains _ b w hc (by simp) (List.mem_of_getLast? hw) hbw).1 hh)
  refine ⟨?_, hTn⟩
  obtain ⟨t2, e2⟩ := crn_head hc hbw
  have c1 := cyc _ _ _ hc
  have c2 : Con (NE (b :: l)) (crn S ++ [b]) := by
    refine con_imp (P := fun q => q ∈ b :: l) (fun p q hp hq hn => ne_sub hsub hp hq hn) _ (fun x hx => ?_) (cyc _ _ _ h)
    rcases List.mem_append.1 hx with hx | hx
    · exact (hm x).2 hx
    · rw [List.mem_singleton.1 hx]; simp
  have d1 := crn_nodup _ _ _ hc
  have d2 := crn_nodup _ _ _ h
  rw [e2] at c1 d1 ⊢
  rw [e] at c2 d2 ⊢
  rw [det (R := NE (b :: l)) (fun p q r => ne_unique) b t2 t b c1 c2 (List.nodup_cons.1 d1).1 (List.nodup_cons.1 d2).1]
/-! a ray to the right of a point inside goes up through one side alone -/
def at_ (C : List S23) (i : Nat) : S23 := C.getD i ⟨0, 0⟩
def nx (C : List S23) (i : Nat) : Nat := (i + 1) % C.length
theorem con_get {α : Type} {R : α → α → Prop} (d : α) : ∀ (l : List α) (i : Nat), Con R l → i + 1 < l.length → R (l.getD i d) (l.getD (i + 1) d)
  | a :: b :: t, 0, h, _ => h.1
  | a :: b :: t, i + 1, h, hi => con_get d (b :: t) i h.2 (by simpa using hi)
  | [a], i, _, hi => by simp at hi
  | [], i, _, hi => by simp at hi
/-- A cycle of corners. -/
structure Cy (S C : List S23) : Prop where
  three : 3 ≤ C.length
  ne : ∀ i, i < C.length → NE S (at_ C i) (at_ C (nx C i))
  inj : ∀ i j, i < C.length → j < C.length → at_ C i = at_ C j → i = j
theorem nx_lt {C : List S23} (h : 3 ≤ C.length) (i : Nat) : nx C i < C.length := Nat.mod_lt _ (by omega)
theorem cy_of {S C : List S23} {a : S23} {t : List S23} (e : C = a :: t) (h3 : 3 ≤ C.length) (hc : Con (NE S) (C ++ [a])) (hn : C.Nodup) : Cy S C := by
  refine ⟨h3, fun i hi => ?_, fun i j hi hj he => ?_⟩
  · have := con_get ⟨0, 0⟩ (C ++ [a]) i hc (by simp; omega)
    have e1 : (C ++ [a]).getD i ⟨0, 0⟩ = at_ C i := by
      unfold at_
      rw [List.getD_eq_getElem?_getD, List.getD_eq_getElem?_getD, List.getElem?_append_left hi]
    have e2 : (C ++ [a]).getD (i + 1) ⟨0, 0⟩ = at_ C (nx C i) := by
      unfold at_ nx
      rw [List.getD_eq_getElem?_getD, List.getD_eq_getElem?_getD]
      by_cases hl : i + 1 < C.length
      · rw [Nat.mod_eq_of_lt hl, List.getElem?_append_left hl]
      · rw [show i + 1 = C.length by omega, Nat.mod_self, List.getElem?_append_right (Nat.le_refl _), e]; simp
    rw [e1, e2] at this
    exact this
  · unfold at_ at he
    rw [List.getD_eq_getElem?_getD, List.getD_eq_getElem?_getD, List.getElem?_eq_getElem hi, List.getElem?_eq_getElem hj] at he
    have hp := List.pairwise_iff_getElem.1 hn
    rcases Nat.lt_trichotomy i j with h | h | h
    · exact absurd he (hp i j hi hj h)
    · exact h
    · exact absurd he.symm (hp j i hj hi h)
theorem cross_one (a b c d : S23) (h : Int) : (b.f1 - h) * D c d a + (h - a.f1) * D c d b = -((d.f1 - h) * D a b c + (h - c.f1) * D a b d) := by unfold D; grind
theorem up_once {S C : List S23} (hc : Cy S C) (h : Int) (i j : Nat) (hi : i < C.length) (hj : j < C.length) (u1 : (at_ C i).f1 ≤ h) (u2 : h < (at_ C (nx C i)).f1) (v1 : (at_ C j).f1 ≤ h) (v2 : h < (at_ C (nx C j)).f1) : i = j := by
  apply Classical.byContradiction
  intro hn
  have n1 := hc.ne i hi
  have n2 := hc.ne j hj
  have hac : at_ C i ≠ at_ C j := fun e => hn (hc.inj i j hi hj e)
  have id := cross_one (at_ C i) (at_ C (nx C i)) (at_ C j) (at_ C (nx C j)) h
  have k1 := (n2.2.2.2 _ n1.2.1).1
  have k2 := (n2.2.2.2 _ n1.2.2.1).1
  have k3 := (n1.2.2.2 _ n2.2.1).1
  have k4 := (n1.2.2.2 _ n2.2.2.1).1
  have hd : at_ C i ≠ at_ C (nx C j) := fun e => by rw [e] at u1; omega
  have off := corner_off n2 n1 hac hd
  have m1 := Int.mul_pos (show 0 < (at_ C (nx C i)).f1 - h by omega) off
  have m2 := Int.mul_nonneg (show 0 ≤ h - (at_ C i).f1 by omega) k2
  have m3 := Int.mul_nonneg (show 0 ≤ (at_ C (nx C j)).f1 - h by omega) k3
  have m4 := Int.mul_nonneg (show 0 ≤ h - (at_ C j).f1 by omega) k4
  omega
/-- The corner before. -/
def pv (C : List S23) (i : Nat) : Nat := (i + (C.length - 1)) % C.length
theorem nx_pv {C : List S23} (h : 3 ≤ C.length) {i : Nat} (hi : i < C.length) : nx C (pv C i) = i := by
  unfold nx pv
  rw [Nat.mod_add_mod, show i + (C.length - 1) + 1 = i + C.length by omega, Nat.add_mod_right, Nat.mod_eq_of_lt hi]
theorem pv_lt {C : List S23} (h : 3 ≤ C.length) (i : Nat) : pv C i < C.length := Nat.mod_lt _ (by omega)
theorem nx_ne_pv {C : List S23} (h : 3 ≤ C.length) {i : Nat} (hi : i < C.length) : nx C i ≠ pv C i := by
  unfold nx pv
  by_cases h1 : i + 1 < C.length
  · rw [Nat.mod_eq_of_lt h1]
    by_cases h2 : i = 0
    · subst h2; rw [Nat.zero_add, Nat.zero_add, Nat.mod_eq_of_lt (by omega)]; omega
    · rw [show i + (C.length - 1) = (i - 1) + C.length by omega, Nat.add_mod_right, Nat.mod_eq_of_lt (by omega)]; omega
  · rw [show i + 1 = C.length by omega, Nat.mod_self, show i + (C.length - 1) = (i - 1) + C.length by omega, Nat.add_mod_right, Nat.mod_eq_of_lt (by omega)]; omega
/-- What three corners on end say of a point inside. -/
theorem three_on {S C : List S23} (hc : Cy S C) {i : Nat} (hi : i < C.length) : 0 < D (at_ C (pv C i)) (at_ C i) (at_ C (nx C i)) := by
  have h3 := hc.three
  have n1 := hc.ne _ (pv_lt h3 i)
  rw [nx_pv h3 hi] at n1
  have n2 := hc.ne _ (nx_lt h3 i)
  refine corner_off n1 n2 (fun e => nx_ne_pv h3 hi (hc.inj _ _ (nx_lt h3 i) (pv_lt h3 i) e)) (fun e => ?_)
  have := hc.inj _ _ (nx_lt h3 i) hi e
  unfold nx at this
  by_cases h1 : i + 1 < C.length
  · rw [Nat.mod_eq_of_lt h1] at this; omega
  · rw [show i + 1 = C.length by omega, Nat.mod_self] at this; omega
theorem exists_min (f : Nat → Int) : ∀ n : Nat, 0 < n → ∃ m, m < n ∧ ∀ i, i < n → f m ≤ f i
  | 1, _ => ⟨0, by omega, fun i hi => by rw [show i = 0 by omega]; exact Int.le_refl _⟩
  | n + 2, _ => by
    obtain ⟨m, h1, h2⟩ := exists_min f (n + 1) (by omega)
    by_cases h : f m ≤ f (n + 1)
    · refine ⟨m, by omega, fun i hi => ?_⟩
      by_cases hin : i = n + 1
      · rw [hin]; exact h
      · exact h2 i (by omega)
    · refine ⟨n + 1, by omega, fun i hi => ?_⟩
      by_cases hin : i = n + 1
      · rw [hin]; exact Int.le_refl _
      · have := h2 i (by omega); omega
theorem some_low {S C : List S23} (hc : Cy S C) (q : S23) (hD : ∀ i, i < C.length → 0 < D (at_ C i) (at_ C (nx C i)) q) : ∃ i, i < C.length ∧ (at_ C i).f1 ≤ q.f1 := by
  apply Classical.byContradiction
  intro hno
  have h3 := hc.three
  obtain ⟨m, hm, hmin⟩ := exists_min (fun i => (at_ C i).f1) C.length (by omega)
  have t := three_on hc hm
  have k1 := hD _ (pv_lt h3 m)
  rw [nx_pv h3 hm] at k1
  have k2 := hD m hm
  have y1 := hmin _ (pv_lt h3 m)
  have y2 := hmin _ (nx_lt h3 m)
  have y3 : q.f1 < (at_ C m).f1 := by
    apply Classical.byContradiction
    intro hn; exact hno ⟨m, hm, by omega⟩
  generalize at_ C (pv C m) = e at *
  generalize at_ C (nx C m) = d at *
  generalize at_ C m = c at *
  have id : D e c q * (d.f1 - c.f1) = D e c d * (q.f1 - c.f1) + D c d q * (c.f1 - e.f1) := by unfold D; grind
  have m1 := Int.mul_nonneg (Int.le_of_lt k1) (show 0 ≤ d.f1 - c.f1 by omega)
  have m2 := Int.mul_pos t (show 0 < c.f1 - q.f1 by omega)
  have m3 := Int.mul_nonneg (Int.le_of_lt k2) (show 0 ≤ e.f1 - c.f1 by omega)
  have e2 : D e c d * (q.f1 - c.f1) = -(D e c d * (c.f1 - q.f1)) := by rw [← Int.mul_neg]; congr 1; omega
  have e3 : D c d q * (c.f1 - e.f1) = -(D c d q * (e.f1 - c.f1)) := by rw [← Int.mul_neg]; congr 1; omega
  omega
theorem some_high {S C : List S23} (hc : Cy S C) (q : S23) (hD : ∀ i, i < C.length → 0 < D (at_ C i) (at_ C (nx C i)) q) : ∃ i, i < C.length ∧ q.f1 < (at_ C i).f1 := by
  apply Classical.byContradiction
  intro hno
  have h3 := hc.three
  obtain ⟨m, hm, hmin⟩ := exists_min (fun i => -(at_ C i).f1) C.length (by omega)
  have t := three_on hc hm
  have k1 := hD _ (pv_lt h3 m)
  rw [nx_pv h3 hm] at k1
  have k2 := hD m hm
  have y1 := hmin _ (pv_lt h3 m)
  have y2 := hmin _ (nx_lt h3 m)
  have y3 : (at_ C m).f1 ≤ q.f1 := by
    apply Classical.byContradiction
    intro hn; exact hno ⟨m, hm, by omega⟩
  generalize at_ C (pv C m) = e at *
  generalize at_ C (nx C m) = d at *
  generalize at_ C m = c at *
  have id : D e c q * (d.f1 - c.f1) = D e c d * (q.f1 - c.f1) + D c d q * (c.f1 - e.f1) := by unfold D; grind
  have e1 : D e c q * (d.f1 - c.f1) = -(D e c q * (c.f1 - d.f1)) := by rw [← Int.mul_neg]; congr 1; omega
  have m1 := Int.mul_nonneg (Int.le_of_lt k1) (show 0 ≤ c.f1 - d.f1 by omega)
  have m2 := Int.mul_nonneg (Int.le_of_lt t) (show 0 ≤ q.f1 - c.f1 by omega)
  have m3 := Int.mul_nonneg (Int.le_of_lt k2) (show 0 ≤ c.f1 - e.f1 by omega)
  have z3 : D c d q * (c.f1 - e.f1) = 0 := by omega
  have z2 : D e c d * (q.f1 - c.f1) = 0 := by omega
  have y4 : c.f1 - e.f1 = 0 := by rcases Int.mul_eq_zero.1 z3 with h | h <;> omega
  have y5 : q.f1 - c.f1 = 0 := by rcases Int.mul_eq_zero.1 z2 with h | h <;> omega
  have : D e c q = 0 := by
    unfold D
    rw [y4, show q.f1 - e.f1 = 0 by omega]; simp
  omega
theorem up_some {S C : List S23} (hc : Cy S C) (q : S23) (hD : ∀ i, i < C.length → 0 < D (at_ C i) (at_ C (nx C i)) q) : ∃ i, i < C.length ∧ (at_ C i).f1 ≤ q.f1 ∧ q.f1 < (at_ C (nx C i)).f1 := by
  have h3 := hc.three
  obtain ⟨i0, h0, hlow⟩ := some_low hc q hD
  obtain ⟨i1, h1, hhigh⟩ := some_high hc q hD
  have go : ∀ k : Nat, q.f1 < (at_ C ((i0 + k) % C.length)).f1 → ∃ i, i < C.length ∧ (at_ C i).f1 ≤ q.f1 ∧ q.f1 < (at_ C (nx C i)).f1 := by
    intro k
    induction k with
    | zero => intro h; rw [Nat.add_zero, Nat.mod_eq_of_lt h0] at h; omega
    | succ k ih =>
      intro h
      by_cases hk : q.f1 < (at_ C ((i0 + k) % C.length)).f1
      · exact ih hk
      · refine ⟨(i0 + k) % C.length, Nat.mod_lt _ (by omega), by omega, ?_⟩
        unfold nx
        rw [Nat.mod_add_mod]
        exact h
  refine go (i1 + (C.length - i0)) ?_
  rw [show i0 + (i1 + (C.length - i0)) = i1 + C.length by omega, Nat.add_mod_right, Nat.mod_eq_of_lt h1]
  exact hhigh
end Go.Proofs.Ytcembjgpcbodcaa.Hl
