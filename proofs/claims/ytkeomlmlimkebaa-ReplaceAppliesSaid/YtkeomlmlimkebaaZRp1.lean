
namespace Rp
set_option linter.unusedVariables false
set_option linter.unusedSimpArgs false
theorem nodup_len : ∀ (n : Nat) (l : List Int), l.Nodup → (∀ x ∈ l, 0 ≤ x ∧ x < (n : Int)) → l.length ≤ n
  | 0, l, _, h => by
    cases l with
    | nil => simp
    | cons x l => have := h x (by simp); omega
  | n + 1, l, hn, h => by
    by_cases hm : (n : Int) ∈ l
    · have h1 := nodup_len n (l.erase n) (hn.erase _) (fun x hx => by
        have h2 := (List.Nodup.mem_erase_iff hn).1 hx
        have h3 := h x h2.2
        have h4 := h2.1
        omega)
      rw [List.length_erase_of_mem hm] at h1
      omega
    · have h1 := nodup_len n l hn (fun x hx => by
        have h3 := h x hx
        have h4 : x ≠ n := fun e => hm (e ▸ hx)
        omega)
      omega
theorem app_at {α : Type} {T : List α} {e : α} (h : e ∈ T) : ∃ A B, T = A ++ e :: B := List.append_of_mem h
theorem two_at {α : Type} {R : α → α → Prop} {A B C D : List α} {e f : α} (hp : (A ++ e :: B).Pairwise R) (h : A ++ e :: B = C ++ f :: D) : (e = f ∧ A = C ∧ B = D) ∨ (∃ M, C = A ++ e :: M ∧ B = M ++ f :: D ∧ R e f) ∨ (∃ M, A = C ++ f :: M ∧ R f e) := by
  rcases List.append_eq_append_iff.1 h with ⟨a', h1, h2⟩ | ⟨c', h1, h2⟩
  · cases a' with
    | nil =>
      simp at h1 h2
      exact Or.inl ⟨h2.1, h1.symm, h2.2⟩
    | cons g a' =>
      simp at h2
      obtain ⟨rfl, h2⟩ := h2
      refine Or.inr (Or.inl ⟨a', h1, h2, ?_⟩)
      have h3 := (List.pairwise_append.1 hp).2.1
      exact (List.pairwise_cons.1 h3).1 f (by rw [h2]; simp)
  · cases c' with
    | nil =>
      simp at h1 h2
      exact Or.inl ⟨h2.1.symm, h1, h2.2.symm⟩
    | cons g c' =>
      simp at h2
      obtain ⟨rfl, h2⟩ := h2
      refine Or.inr (Or.inr ⟨c', h1, ?_⟩)
      rw [h1] at hp
      exact (List.pairwise_append.1 hp).2.2 f (by simp) e (by simp)
section
variable (fit : Nat → List Int) (usr : Int → Option Nat) (fx : Nat → Bool)
def nf (x : Int) : Option Nat := (usr x).bind fun u => if fx u then none else some u
def fm (T : List (Int × Nat)) : List Nat := T.filterMap fun e => nf usr fx e.1
def Qu (s0 : Nat) (T : List (Int × Nat)) : List Nat := s0 :: fm usr fx T
def term (s : Nat) : Prop := ∃ x ∈ fit s, usr x = none
inductive Way : Nat → Nat → Prop where
  | zero {s : Nat} : term fit usr s → Way 0 s
  | succ {n s u : Nat} {x : Int} : x ∈ fit s → nf usr fx x = some u → Way n u → Way (n + 1) s
structure Inv (s0 : Nat) (at_ : Nat) (done : List Int) (T : List (Int × Nat)) : Prop where
  nd : (T.map (·.1)).Nodup
  srt : T.Pairwise fun a b => a.2 < b.2 ∨ (a.2 = b.2 ∧ a.1 < b.1)
  par : ∀ A e B, T = A ++ e :: B → e.2 < 1 + (fm usr fx A).length
  fits : ∀ e ∈ T, ∃ s, (Qu usr fx s0 T)[e.2]? = some s ∧ e.1 ∈ fit s
  le : ∀ e ∈ T, e.2 ≤ at_
  mine : ∀ y, (y, at_) ∈ T → y ∈ done
  used : ∀ e ∈ T, ∃ u, usr e.1 = some u
  cov : ∀ i, i < at_ → ∀ s, (Qu usr fx s0 T)[i]? = some s → ∀ y ∈ fit s, ∃ j, j ≤ i ∧ (y, j) ∈ T
  cov2 : ∀ y ∈ done, ∃ j, j ≤ at_ ∧ (y, j) ∈ T
theorem Inv.start (s0 : Nat) : Inv fit usr fx s0 0 [] [] :=
  ⟨by simp, by simp, fun A e B h => by simp at h, by simp, by simp, by simp, by simp, fun i h => absurd h (by omega), by simp⟩
variable {fit usr fx}
theorem fm_app (A B : List (Int × Nat)) : fm usr fx (A ++ B) = fm usr fx A ++ fm usr fx B := by unfold fm; rw [List.filterMap_append]
theorem Qu_app (s0 : Nat) (A B : List (Int × Nat)) : Qu usr fx s0 (A ++ B) = Qu usr fx s0 A ++ fm usr fx B := by unfold Qu; rw [fm_app]; rfl
theorem Qu_get {s0 i s : Nat} {A : List (Int × Nat)} (B : List (Int × Nat)) (h : (Qu usr fx s0 A)[i]? = some s) : (Qu usr fx s0 (A ++ B))[i]? = some s := by
  rw [Qu_app, List.getElem?_append_left (List.getElem?_eq_some_iff.1 h).1]; exact h
theorem Qu_back {s0 i s : Nat} {A B : List (Int × Nat)} (hi : i < (Qu usr fx s0 A).length) (h : (Qu usr fx s0 (A ++ B))[i]? = some s) : (Qu usr fx s0 A)[i]? = some s := by
  rw [Qu_app, List.getElem?_append_left hi] at h; exact h
theorem Inv.seen {s0 a : Nat} {done : List Int} {T : List (Int × Nat)} (h : Inv fit usr fx s0 a done T) {x : Int} (hx : x ∈ T.map (·.1)) : Inv fit usr fx s0 a (done ++ [x]) T :=
  ⟨h.nd, h.srt, h.par, h.fits, h.le, fun y hy => by simp [h.mine y hy], h.used, h.cov, fun y hy => by
    rcases List.mem_append.1 hy with hy | hy
    · exact h.cov2 y hy
    · obtain rfl := List.mem_singleton.1 hy
      obtain ⟨e, he, rfl⟩ := List.mem_map.1 hx
      exact ⟨e.2, h.le e he, he⟩⟩
theorem Inv.fresh {s0 a s u : Nat} {done : List Int} {T : List (Int × Nat)} (h : Inv fit usr fx s0 a done T) {x : Int} (hs : (Qu usr fx s0 T)[a]? = some s) (hx : x ∉ T.map (·.1)) (hf : x ∈ fit s) (hlt : ∀ y ∈ done, y < x) (hu : usr x = some u) :
    Inv fit usr fx s0 a (done ++ [x]) (T ++ [(x, a)]) := by
  have ha := (List.getElem?_eq_some_iff.1 hs).1
  refine ⟨?_, ?_, ?_, ?_, ?_, ?_, ?_, ?_, ?_⟩
  · rw [List.map_append, List.nodup_append]
    refine ⟨h.nd, by simp, fun y hy z hz e => ?_⟩
    simp at hz
    exact hx (by rw [← hz, ← e]; exact hy)
  · rw [List.pairwise_append]
    refine ⟨h.srt, by simp, fun e he f hf' => ?_⟩
    obtain rfl := List.mem_singleton.1 hf'
    have h1 := h.le e he
    by_cases h2 : e.2 = a
    · refine Or.inr ⟨h2, hlt e.1 (h.mine e.1 ?_)⟩
      rw [← h2]; exact he
    · exact Or.inl (by show e.2 < a; omega)
  · intro A e B hT
    rcases List.append_eq_append_iff.1 hT with ⟨a', h1, h2⟩ | ⟨c', h1, h2⟩
    · cases a' with
      | nil =>
        simp at h1 h2
        rw [← h2.1, h1]
        simpa [Qu, Nat.add_comm] using ha
      | cons g a' => simp at h2
    · cases c' with
      | nil =>
        simp at h1 h2
        rw [h2.1, ← h1]
        simpa [Qu, Nat.add_comm] using ha
      | cons g c' =>
        simp at h2
        rw [h2.1]
        exact h.par A g c' h1
  · intro e he
    rcases List.mem_append.1 he with he | he
    · obtain ⟨t, h1, h2⟩ := h.fits e he
      exact ⟨t, Qu_get _ h1, h2⟩
    · obtain rfl := List.mem_singleton.1 he
      exact ⟨s, Qu_get _ hs, hf⟩
  · intro e he
    rcases List.mem_append.1 he with he | he
    · exact h.le e he
    · obtain rfl := List.mem_singleton.1 he
      exact Nat.le_refl _
  · intro y hy
    rcases List.mem_append.1 hy with hy | hy
    · simp [h.mine y hy]
    · simp at hy; simp [hy]
  · intro e he
    rcases List.mem_append.1 he with he | he
    · exact h.used e he
    · obtain rfl := List.mem_singleton.1 he
      exact ⟨u, hu⟩
  · intro i hi t ht y hy
    obtain ⟨j, h1, h2⟩ := h.cov i hi t (Qu_back (by omega) ht) y hy
    exact ⟨j, h1, by simp [h2]⟩
  · intro y hy
    rcases List.mem_append.1 hy with hy | hy
    · obtain ⟨j, h1, h2⟩ := h.cov2 y hy
      exact ⟨j, h1, by simp [h2]⟩
    · obtain rfl := List.mem_singleton.1 hy
      exact ⟨a, Nat.le_refl _, by simp⟩
theorem Inv.next {s0 a s : Nat} {T : List (Int × Nat)} (hs : (Qu usr fx s0 T)[a]? = some s) (h : Inv fit usr fx s0 a (fit s) T) : Inv fit usr fx s0 (a + 1) [] T :=
  ⟨h.nd, h.srt, h.par, h.fits, fun e he => by have := h.le e he; omega, fun y hy => by have := h.le _ hy; exact absurd this (by show ¬ a + 1 ≤ a; omega), h.used, fun i hi t ht y hy => by
    by_cases h1 : i < a
    · exact h.cov i h1 t ht y hy
    · have h2 : i = a := by omega
      subst h2
      rw [hs] at ht
      obtain rfl := Option.some.inj ht
      exact h.cov2 y hy, by simp⟩
def Child (s0 : Nat) (T : List (Int × Nat)) (i : Nat) (x : Int) (i' : Nat) : Prop :=
  ∃ A B u, T = A ++ (x, i) :: B ∧ nf usr fx x = some u ∧ i' = 1 + (fm usr fx A).length
theorem Child.get {s0 i i' : Nat} {x : Int} {T : List (Int × Nat)} (h : Child (usr := usr) (fx := fx) s0 T i x i') : ∃ u, nf usr fx x = some u ∧ (Qu usr fx s0 T)[i']? = some u := by
  obtain ⟨A, B, u, rfl, hu, rfl⟩ := h
  refine ⟨u, hu, ?_⟩
  rw [Qu_app]
  have : (Qu usr fx s0 A).length = 1 + (fm usr fx A).length := by simp [Qu, Nat.add_comm]
  rw [List.getElem?_append_right (by omega), this]
  simp [fm, hu]
theorem child_of {T : List (Int × Nat)} {e : Int × Nat} (s0 : Nat) (he : e ∈ T) {u : Nat} (hu : nf usr fx e.1 = some u) : ∃ i', Child (usr := usr) (fx := fx) s0 T e.2 e.1 i' := by
  obtain ⟨A, B, rfl⟩ := app_at he
  exact ⟨_, A, B, u, rfl, hu, rfl⟩
theorem Child.lt {s0 a i i' : Nat} {x : Int} {done : List Int} {T : List (Int × Nat)} (hI : Inv fit usr fx s0 a done T) (h : Child (usr := usr) (fx := fx) s0 T i x i') : i < i' := by
  obtain ⟨A, B, u, hT, hu, rfl⟩ := h
  exact hI.par A _ B hT
theorem node_child {s0 : Nat} : ∀ (T : List (Int × Nat)) (i : Nat), 0 < i → i < (Qu usr fx s0 T).length → ∃ j x, Child (usr := usr) (fx := fx) s0 T j x i := by
  intro T
  suffices H : ∀ (B A : List (Int × Nat)) (i : Nat), T = A ++ B → 1 + (fm usr fx A).length ≤ i → i < 1 + (fm usr fx T).length → ∃ j x, Child (usr := usr) (fx := fx) s0 T j x i by
    intro i h1 h2
    exact H T [] i rfl (by simp [fm]; omega) (by simp [Qu] at h2; omega)
  intro B
  induction B with
  | nil => intro A i hT h1 h2; rw [List.append_nil] at hT; subst hT; omega
  | cons e B ih =>
    intro A i hT h1 h2
    cases hu : nf usr fx e.1 with
    | none =>
      refine ih (A ++ [e]) i (by rw [hT]; simp) ?_ h2
      rw [fm_app]
      simpa [fm, hu] using h1
    | some u =>
      by_cases h3 : i = 1 + (fm usr fx A).length
      · exact ⟨e.2, e.1, A, B, u, hT, hu, h3⟩
      · refine ih (A ++ [e]) i (by rw [hT]; simp) ?_ h2
        rw [fm_app]
        simp [fm, hu] at h1 h3 ⊢
        omega
inductive Dn (s0 a : Nat) (xf : Int) (T : List (Int × Nat)) : Nat → List (Nat × Int) → Prop where
  | last {s : Nat} : (Qu usr fx s0 T)[a]? = some s → Dn s0 a xf T a [(s, xf)]
  | step {i i' s : Nat} {x : Int} {L : List (Nat × Int)} : Child (usr := usr) (fx := fx) s0 T i x i' → (Qu usr fx s0 T)[i]? = some s → Dn s0 a xf T i' L → Dn s0 a xf T i ((s, x) :: L)
theorem Dn.le {s0 a i : Nat} {xf : Int} {done : List Int} {T : List (Int × Nat)} {L : List (Nat × Int)} (hI : Inv fit usr fx s0 a done T) (h : Dn (usr := usr) (fx := fx) s0 a xf T i L) : i ≤ a := by
  induction h with
  | last _ => exact Nat.le_refl _
  | step hc _ _ ih => have := hc.lt hI; omega
theorem order {s0 a : Nat} {xf : Int} {done : List Int} {T : List (Int × Nat)} (hI : Inv fit usr fx s0 a done T) : ∀ (n i i' s : Nat) (L : List (Nat × Int)), i < i' → (Qu usr fx s0 T)[i]? = some s → Way fit usr fx n s → Dn (usr := usr) (fx := fx) s0 a xf T i' L → n + 1 ≤ L.length → False := by
  intro n
  induction n with
  | zero =>
    intro i i' s L hi hs hw hd hn
    have h1 := hd.le hI
    cases hw with
    | zero ht =>
      obtain ⟨x, hx, hu⟩ := ht
      obtain ⟨j, hj, hm⟩ := hI.cov i (by omega) s hs x hx
      obtain ⟨u, h2⟩ := hI.used _ hm
      rw [hu] at h2
      cases h2
  | succ n ih =>
    intro i i' s L hi hs hw hd hn
    have h1 := hd.le hI
    cases hw with
    | succ hx hnf hw' =>
      rename_i u y
      obtain ⟨j, hj, hm⟩ := hI.cov i (by omega) s hs y hx
      obtain ⟨ic, hc⟩ := child_of s0 hm hnf
      obtain ⟨u', hu', hg⟩ := hc.get
      rw [hnf] at hu'
      obtain rfl := Option.some.inj hu'
      cases hd with
      | last _ => simp at hn
      | step hc' hs' hd' =>
        rename_i i2 s' x' L'
        refine ih ic i2 u L' ?_ hg hw' hd' (by simpa using hn)
        obtain ⟨A, B, v, hT, hv, rfl⟩ := hc
        obtain ⟨C, D, v', hT', hv', rfl⟩ := hc'
        rcases two_at (hT ▸ hI.srt) (hT.symm.trans hT') with ⟨h3, _, _⟩ | ⟨M, h3, _, _⟩ | ⟨M, h3, h4⟩
        · simp at h3; omega
        · rw [h3, fm_app]
          have : (fm usr fx ((y, j) :: M)).length = 1 + (fm usr fx M).length := by simp [fm, hv]; omega
          simp only [List.length_append, this]
          omega
        · simp at h4; omega
theorem Dn.way {s0 a i : Nat} {xf : Int} {done : List Int} {T : List (Int × Nat)} {L : List (Nat × Int)} (hI : Inv fit usr fx s0 a done T) {sf : Nat} (hsf : (Qu usr fx s0 T)[a]? = some sf) (hxf : xf ∈ fit sf) (hu : usr xf = none) (h : Dn (usr := usr) (fx := fx) s0 a xf T i L) :
    ∃ s, (Qu usr fx s0 T)[i]? = some s ∧ ∃ n, L.length = n + 1 ∧ Way fit usr fx n s := by
  induction h with
  | last hs =>
    refine ⟨_, hs, 0, rfl, .zero ?_⟩
    rw [hsf] at hs
    obtain rfl := Option.some.inj hs
    exact ⟨xf, hxf, hu⟩
  | step hc hs hd ih =>
    obtain ⟨t, ht, n, hn, hw⟩ := ih
    obtain ⟨u, hu', hg⟩ := hc.get
    rw [ht] at hg
    obtain rfl := Option.some.inj hg
    refine ⟨_, hs, n + 1, by simp [hn], .succ ?_ hu' hw⟩
    obtain ⟨A, B, v, hT, hv, _⟩ := hc
    obtain ⟨s2, h2, h3⟩ := hI.fits _ (by rw [hT]; exact List.mem_append_right _ (List.mem_cons_self ..))
    rw [hs] at h2
    obtain rfl := Option.some.inj h2
    exact h3
theorem Dn.least {s0 a i s n : Nat} {xf : Int} {done : List Int} {T : List (Int × Nat)} {L : List (Nat × Int)} (hI : Inv fit usr fx s0 a done T) (hs : (Qu usr fx s0 T)[i]? = some s) (h : Dn (usr := usr) (fx := fx) s0 a xf T i L) (hw : Way fit usr fx n s) : L.length ≤ n + 1 := by
  cases h with
  | last _ => simp
  | step hc hs' hd =>
    rename_i i' s' x L'
    by_cases h : (List.length ((s', x) :: L')) ≤ n + 1
    · exact h
    · exact (order hI n i i' s L' (hc.lt hI) hs hw hd (by simp at h; omega)).elim
theorem Dn.first {s0 a i i' s u n : Nat} {x y xf : Int} {done : List Int} {T : List (Int × Nat)} {L : List (Nat × Int)} (hI : Inv fit usr fx s0 a done T) (hc : Child (usr := usr) (fx := fx) s0 T i x i') (hs : (Qu usr fx s0 T)[i]? = some s) (hd : Dn (usr := usr) (fx := fx) s0 a xf T i' L)
    (hy : y ∈ fit s) (hlt : y < x) (hu : nf usr fx y = some u) (hw : Way fit usr fx n u) (hn : n + 1 = L.length) : False := by
  have hia := hc.lt hI
  have h1 := hd.le hI
  obtain ⟨j, hj, hm⟩ := hI.cov i (by omega) s hs y hy
  obtain ⟨ic, hcy⟩ := child_of s0 hm hu
  obtain ⟨u', hu', hg⟩ := hcy.get
  rw [hu] at hu'
  obtain rfl := Option.some.inj hu'
  refine order hI n ic i' u L ?_ hg hw hd (by omega)
  obtain ⟨A, B, v, hT, hv, rfl⟩ := hcy
  obtain ⟨C, D, v', hT', hv', rfl⟩ := hc
  rcases two_at (hT ▸ hI.srt) (hT.symm.trans hT') with ⟨h3, _, _⟩ | ⟨M, h3, _, _⟩ | ⟨M, h3, h4⟩
  · simp at h3; omega
  · rw [h3, fm_app]
    have : (fm usr fx ((y, j) :: M)).length = 1 + (fm usr fx M).length := by simp [fm, hv]; omega
    simp only [List.length_append, this]
    omega
  · simp at h4; omega
theorem no_way {s0 a : Nat} {T : List (Int × Nat)} (hI : Inv fit usr fx s0 a [] T) (ha : (Qu usr fx s0 T).length ≤ a) : ∀ (n i s : Nat), (Qu usr fx s0 T)[i]? = some s → ¬ Way fit usr fx n s := by
  intro n
  induction n with
  | zero =>
    intro i s hs hw
    have hi := (List.getElem?_eq_some_iff.1 hs).1
    cases hw with
    | zero ht =>
      obtain ⟨x, hx, hu⟩ := ht
      obtain ⟨j, hj, hm⟩ := hI.cov i (by omega) s hs x hx
      obtain ⟨u, h2⟩ := hI.used _ hm
      rw [hu] at h2
      cases h2
  | succ n ih =>
    intro i s hs hw
    have hi := (List.getElem?_eq_some_iff.1 hs).1
    cases hw with
    | succ hx hnf hw' =>
      rename_i u y
      obtain ⟨j, hj, hm⟩ := hI.cov i (by omega) s hs y hx
      obtain ⟨ic, hc⟩ := child_of s0 hm hnf
      obtain ⟨u', hu', hg⟩ := hc.get
      rw [hnf] at hu'
      obtain rfl := Option.some.inj hu'
      exact ih ic u hg hw'
end
end Rp
