import Derived.Test.YtkeomlmlimkebaaZRp6
import Derived.Test.YtkeomlmlimkebaaZQAx19
import Derived.Test.YtkeomlmlimkebaaZQAx9
import Derived.Test.YtkeomlmlimkebaaZQAx10
namespace Go.Proofs.Ytkeomlmlimkebaa.Rq
open Go.RowKit Go.Proofs.Ytkeomlmlimkebaa.QA Go.Proofs.YtkeomlmlimkebaaW.PrintWords Go.Proofs.YtkeomlmlimkebaaW.PrintMore Go.Proofs.Ytkeomlmlimkebaa.EvKit Go.Proofs.Ytkeomlmlimkebaa.MapKit
set_option linter.unusedVariables false
set_option linter.unusedSimpArgs false
def stepI (F : List (List Int)) (U : List Int) (X : List Bool) (st : List Int) (i : Nat) : List Int :=
  if (i : Int) ∈ st ∨ X.getD i false = true ∨ U.getD i 0 < 0 then st else if st.any (fun s => decide (U.getD i 0 ∈ F.getD s.toNat [])) = true then st ++ [(i : Int)] else st
def roundI (F : List (List Int)) (U : List Int) (X : List Bool) (st : List Int) : List Int := (List.range F.length).foldl (stepI F U X) st
def reachI (F : List (List Int)) (U : List Int) (X : List Bool) (s0 : Int) : Nat → List Int
  | 0 => [s0]
  | r + 1 => roundI F U X (reachI F U X s0 r)
def stonesI (F : List (List Int)) (st : List Int) : List Int := ((List.range F.length).map fun i : Nat => (i : Int)).filter fun i => decide (i ∈ st)
def piecesI (F : List (List Int)) (P : Nat) (a : List Int) : List Int := ((List.range P).map fun i : Nat => (i : Int)).filter fun n => a.any fun i => decide (n ∈ F.getD i.toNat [])
def InN (N : Nat) (st : List Int) : Prop := ∀ s ∈ st, 0 ≤ s ∧ s < (N : Int)
section
variable {F : List (List Int)} {p : Int} {U : List Int} {X : List Bool}
theorem stepI_cases (st : List Int) (i : Nat) : stepI F U X st i = st ∨ (stepI F U X st i = st ++ [(i : Int)] ∧ (i : Int) ∉ st) := by
  unfold stepI
  split
  · exact Or.inl rfl
  · rename_i h
    split
    · exact Or.inr ⟨rfl, fun hm => h (Or.inl hm)⟩
    · exact Or.inl rfl
theorem stepI_in {st : List Int} {i : Nat} (hi : i < F.length) (h : InN F.length st) : InN F.length (stepI F U X st i) := by
  rcases stepI_cases (F := F) (U := U) (X := X) st i with e | ⟨e, _⟩
  · rw [e]; exact h
  · rw [e]
    intro s hs
    rcases List.mem_append.1 hs with hs | hs
    · exact h s hs
    · simp at hs; omega
theorem stepI_nodup {st : List Int} {i : Nat} (h : st.Nodup) : (stepI F U X st i).Nodup := by
  rcases stepI_cases (F := F) (U := U) (X := X) st i with e | ⟨e, hm⟩
  · rw [e]; exact h
  · rw [e, List.nodup_append]
    refine ⟨h, by simp, fun a ha b hb => ?_⟩
    simp at hb
    subst hb
    exact fun e => hm (e ▸ ha)
theorem fold_in : ∀ (l : List Nat) (st : List Int), (∀ i ∈ l, i < F.length) → InN F.length st → st.Nodup → InN F.length (l.foldl (stepI F U X) st) ∧ (l.foldl (stepI F U X) st).Nodup
  | [], st, _, h, h2 => ⟨h, h2⟩
  | i :: l, st, hl, h, h2 => fold_in l _ (fun j hj => hl j (by simp [hj])) (stepI_in (hl i (by simp)) h) (stepI_nodup h2)
theorem fold_len : ∀ (l : List Nat) (st : List Int), st.length ≤ (l.foldl (stepI F U X) st).length ∧ ((l.foldl (stepI F U X) st).length = st.length → l.foldl (stepI F U X) st = st ∧ ∀ i ∈ l, stepI F U X st i = st)
  | [], st => ⟨Nat.le_refl _, fun _ => ⟨rfl, by simp⟩⟩
  | i :: l, st => by
    have ih := fold_len l (stepI F U X st i)
    rw [List.foldl_cons]
    rcases stepI_cases (F := F) (U := U) (X := X) st i with e | ⟨e, hm⟩
    · rw [e] at ih ⊢
      refine ⟨ih.1, fun h => ⟨(ih.2 h).1, fun j hj => ?_⟩⟩
      rcases List.mem_cons.1 hj with rfl | hj
      · exact e
      · exact (ih.2 h).2 j hj
    · rw [e] at ih ⊢
      have h1 := ih.1
      simp only [List.length_append, List.length_singleton] at h1
      exact ⟨by omega, fun h => by omega⟩
theorem fold_fix : ∀ (l : List Nat) (st : List Int), (∀ i ∈ l, stepI F U X st i = st) → l.foldl (stepI F U X) st = st
  | [], _, _ => rfl
  | i :: l, st, h => by
    rw [List.foldl_cons, h i (by simp)]
    exact fold_fix l st fun j hj => h j (by simp [hj])
def Closed (F : List (List Int)) (U : List Int) (X : List Bool) (st : List Int) : Prop := ∀ i, i < F.length → stepI F U X st i = st
theorem reach_in {s0 : Nat} (h0 : s0 < F.length) : ∀ r, InN F.length (reachI F U X s0 r) ∧ (reachI F U X s0 r).Nodup
  | 0 => ⟨fun s hs => by simp [reachI] at hs; omega, by simp [reachI]⟩
  | r + 1 => by
    have h := reach_in h0 r
    exact fold_in _ _ (fun i hi => by simpa using hi) h.1 h.2
theorem reach_grow {s0 : Nat} (h0 : s0 < F.length) : ∀ r, Closed F U X (reachI F U X s0 r) ∨ r + 1 ≤ (reachI F U X s0 r).length
  | 0 => Or.inr (by simp [reachI])
  | r + 1 => by
    have hf := fold_len (F := F) (U := U) (X := X) (List.range F.length) (reachI F U X s0 r)
    have e : reachI F U X s0 (r + 1) = (List.range F.length).foldl (stepI F U X) (reachI F U X s0 r) := rfl
    by_cases hl : ((List.range F.length).foldl (stepI F U X) (reachI F U X s0 r)).length = (reachI F U X s0 r).length
    · have h2 := hf.2 hl
      rw [e, h2.1]
      exact Or.inl fun i hi => h2.2 i (by simpa using hi)
    · rcases reach_grow h0 r with h | h
      · exact (hl (by rw [fold_fix _ _ (fun i hi => h i (by simpa using hi))])).elim
      · rw [e]
        have := hf.1
        exact Or.inr (by omega)
theorem reach_closed {s0 : Nat} (h0 : s0 < F.length) : Closed F U X (reachI F U X s0 F.length) := by
  rcases reach_grow (F := F) (U := U) (X := X) h0 F.length with h | h
  · exact h
  · have h1 := reach_in (F := F) (U := U) (X := X) h0 F.length
    have := Rp.nodup_len F.length _ h1.2 h1.1
    omega
theorem reach_mono {s0 : Nat} : ∀ r, (s0 : Int) ∈ reachI F U X s0 r := by
  have hfold : ∀ (l : List Nat) (st : List Int), (s0 : Int) ∈ st → (s0 : Int) ∈ l.foldl (stepI F U X) st := by
    intro l
    induction l with
    | nil => intro st h; exact h
    | cons i l ih =>
      intro st h
      refine ih _ ?_
      rcases stepI_cases (F := F) (U := U) (X := X) st i with e | ⟨e, _⟩
      · rw [e]; exact h
      · rw [e]; simp [h]
  intro r
  induction r with
  | zero => simp [reachI]
  | succ r ih => exact hfold _ _ ih
theorem reach_ind {s0 : Nat} (S : Int → Prop) (hS0 : S s0) (hS : ∀ (s : Int) (i : Nat), S s → i < F.length → X.getD i false = false → 0 ≤ U.getD i 0 → U.getD i 0 ∈ F.getD s.toNat [] → S (i : Int)) : ∀ r, ∀ s ∈ reachI F U X s0 r, S s := by
  have hfold : ∀ (l : List Nat) (st : List Int), (∀ i ∈ l, i < F.length) → (∀ s ∈ st, S s) → ∀ s ∈ l.foldl (stepI F U X) st, S s := by
    intro l
    induction l with
    | nil => intro st _ h; exact h
    | cons i l ih =>
      intro st hl h
      refine ih _ (fun j hj => hl j (by simp [hj])) ?_
      unfold stepI
      split
      · exact h
      · rename_i h1
        split
        · rename_i h2
          obtain ⟨s, hs, h3⟩ := List.any_eq_true.1 h2
          intro t ht
          rcases List.mem_append.1 ht with ht | ht
          · exact h t ht
          · simp at ht
            subst ht
            exact hS s i (h s hs) (hl i (by simp)) (by simpa using fun e => h1 (Or.inr (Or.inl e))) (by have := fun e => h1 (Or.inr (Or.inr e)); omega) (of_decide_eq_true h3)
        · exact h
  intro r
  induction r with
  | zero => intro s hs; simp [reachI] at hs; subst hs; exact hS0
  | succ r ih => exact hfold _ _ (fun i hi => by simpa using hi) ih
theorem take_any (st : List Int) (j : Nat) (hj : j < st.length) (q : Int → Bool) : (st.take (j + 1)).any q = ((st.take j).any q || q (st.getD j 0)) := by
  rw [List.take_add_one, List.any_append, List.getElem?_eq_getElem hj, List.getD_eq_getElem?_getD, List.getElem?_eq_getElem hj]
  simp
theorem rf_l2 (hG : Good F p U X) {i r : Nat} (hi : i < F.length) {st : List Int} (hst : InN F.length st) (hl : st.length ≤ 64) {R : List Int × List Int}
    (hR : Ev (fun k => r_Refusal.l1 k (if st.any (fun s => decide (U.getD i 0 ∈ F.getD s.toNat [])) = true then st ++ [(i : Int)] else st) (r : Int) ((i + 1 : Nat) : Int) F p U X) R) :
    ∀ (m j : Nat), st.length = j + m → (st.take j).any (fun s => decide (U.getD i 0 ∈ F.getD s.toNat [])) = false → Ev (fun k => r_Refusal.l2 k st (r : Int) (i : Int) (j : Int) F p U X) R := by
  have hN := hG.ok.n3
  have hn1 := hG.ok.n1
  intro m
  induction m with
  | zero =>
    intro j hj ht
    refine Ev.succ ?_
    simp only [r_Refusal.l2]
    refine Ev.neg (by omega) ?_
    rw [List.take_of_length_le (by omega)] at ht
    rw [ht] at hR
    rw [nxt64 (by omega)]
    simpa using hR
  | succ m ih =>
    intro j hj ht
    have hs : st.getD j 0 ∈ st := by
      rw [List.getD_eq_getElem?_getD, List.getElem?_eq_getElem (show j < st.length by omega)]
      exact List.getElem_mem _
    have hsr := hst _ hs
    refine Ev.succ ?_
    simp only [r_Refusal.l2, rdN]
    refine Ev.pos (by omega) (Ev.pos (by omega) (Ev.pos (by omega) (Ev.pos (by omega) (Ev.pos (by omega) (Ev.pos (by omega) ?_)))))
    have hr := hG.row (st.getD j 0).toNat
    rw [show rd_L1 F (st.getD j 0) = F.getD (st.getD j 0).toNat [] from rfl]
    refine Ev.bind (rhas_ev _ _ (by omega)) ?_
    refine Ev.ite (fun e => ?_) (fun e => ?_)
    · refine Ev.pos (by omega) ?_
      rw [if_pos (List.any_eq_true.2 ⟨_, hs, e⟩)] at hR
      rw [nxt64 (by omega)]
      exact hR
    · rw [nxt64 (by omega)]
      refine ih (j + 1) (by omega) ?_
      rw [take_any st j (by omega), ht, Bool.false_or]
      exact Bool.eq_false_iff.2 e
theorem rf_l1 (hG : Good F p U X) {r : Nat} {R : List Int × List Int} : ∀ (m i : Nat) (st : List Int), F.length = i + m → InN F.length st → st.Nodup →
    (∀ st', st' = ((List.range F.length).drop i).foldl (stepI F U X) st → Ev (fun k => r_Refusal.l0 k st' (wrap64 ((r : Int) + 1)) F p U X) R) → Ev (fun k => r_Refusal.l1 k st (r : Int) (i : Int) F p U X) R := by
  have hN := hG.ok.n3
  have hn1 := hG.ok.n1
  have hn2 := hG.ok.n2
  intro m
  induction m with
  | zero =>
    intro i st hi hst hnd h
    refine Ev.succ ?_
    simp only [r_Refusal.l1]
    exact Ev.neg (by omega) (h st (by rw [List.drop_eq_nil_of_le (by simp; omega)]; rfl))
  | succ m ih =>
    intro i st hi hst hnd h
    have hl : st.length ≤ 64 := by have := Rp.nodup_len F.length st hnd hst; omega
    have hnext : ∀ st1, st1 = stepI F U X st i → Ev (fun k => r_Refusal.l1 k st1 (r : Int) ((i + 1 : Nat) : Int) F p U X) R := by
      intro st1 e
      subst e
      refine ih (i + 1) _ (by omega) (stepI_in (by omega) hst) (stepI_nodup hnd) (fun st' ho => h st' ?_)
      rw [ho, range_drop (n := F.length) (i := i) (by omega), List.foldl_cons]
    refine Ev.succ ?_
    simp only [r_Refusal.l1]
    refine Ev.pos (by omega) (Ev.bind (rhas_ev _ _ (by omega)) ?_)
    have hT : (i : Int) ∈ st ∨ X.getD i false = true ∨ U.getD i 0 < 0 → Ev (fun k => r_Refusal.j2 k st (r : Int) (i : Int) true F p U X) R := by
      intro hc
      refine Ev.succ ?_
      simp only [r_Refusal.j2]
      refine Ev.pos (by trivial) ?_
      rw [nxt64 (by omega)]
      exact hnext st (by unfold stepI; rw [if_pos hc])
    refine Ev.ite (fun e => hT (Or.inl (of_decide_eq_true e))) (fun e => ?_)
    refine Ev.pos (by omega) (Ev.pos (by omega) ?_)
    rw [rdB]
    refine Ev.ite (fun e2 => hT (Or.inr (Or.inl e2))) (fun e2 => Ev.pos (by omega) ?_)
    rw [rdN]
    by_cases e3 : U.getD i 0 < 0
    · rw [decide_eq_true e3]
      exact hT (Or.inr (Or.inr e3))
    · rw [decide_eq_false e3]
      refine Ev.succ ?_
      simp only [r_Refusal.j2]
      refine Ev.neg (by decide) ?_
      refine rf_l2 hG (by omega) hst hl ?_ st.length 0 (by omega) rfl
      refine hnext _ ?_
      unfold stepI
      rw [if_neg (show ¬ ((i : Int) ∈ st ∨ X.getD i false = true ∨ U.getD i 0 < 0) from fun hc => by
        rcases hc with hc | hc | hc
        · exact e (decide_eq_true hc)
        · exact e2 hc
        · exact e3 hc)]
theorem rf_l5 (hG : Good F p U X) {a b : List Int} {n : Nat} (ha : InN F.length a) (hal : a.length ≤ 64) (hb : b.length < 1000000) (hn : n < 1000000) {R : List Int × List Int}
    (hR : Ev (fun k => r_Refusal.l4 k a (if a.any (fun i => decide ((n : Int) ∈ F.getD i.toNat [])) = true then b ++ [(n : Int)] else b) ((n + 1 : Nat) : Int) F p U X) R) :
    ∀ (m j : Nat), a.length = j + m → (a.take j).any (fun i => decide ((n : Int) ∈ F.getD i.toNat [])) = false → Ev (fun k => r_Refusal.l5 k a b (n : Int) (j : Int) F p U X) R := by
  have hN := hG.ok.n3
  have hn1 := hG.ok.n1
  intro m
  induction m with
  | zero =>
    intro j hj ht
    refine Ev.succ ?_
    simp only [r_Refusal.l5]
    refine Ev.neg (by omega) ?_
    rw [List.take_of_length_le (by omega)] at ht
    rw [ht] at hR
    rw [nxt64 (by omega)]
    simpa using hR
  | succ m ih =>
    intro j hj ht
    have hs : a.getD j 0 ∈ a := by
      rw [List.getD_eq_getElem?_getD, List.getElem?_eq_getElem (show j < a.length by omega)]
      exact List.getElem_mem _
    have hsr := ha _ hs
    refine Ev.succ ?_
    simp only [r_Refusal.l5, rdN]
    refine Ev.pos (by omega) (Ev.pos (by omega) (Ev.pos (by omega) (Ev.pos (by omega) ?_)))
    have hr := hG.row (a.getD j 0).toNat
    rw [show rd_L1 F (a.getD j 0) = F.getD (a.getD j 0).toNat [] from rfl]
    refine Ev.bind (rhas_ev _ _ (by omega)) ?_
    refine Ev.ite (fun e => ?_) (fun e => ?_)
    · refine Ev.pos (by omega) ?_
      rw [if_pos (List.any_eq_true.2 ⟨_, hs, e⟩)] at hR
      rw [nxt64 (by omega)]
      exact hR
    · rw [nxt64 (by omega)]
      refine ih (j + 1) (by omega) ?_
      rw [take_any a j (by omega), ht, Bool.false_or]
      exact Bool.eq_false_iff.2 e
theorem rf_l4 (hG : Good F p U X) {a : List Int} (ha : InN F.length a) (hal : a.length ≤ 64) : ∀ (m n : Nat) (b : List Int), p.toNat = n + m → b.length ≤ n →
    Ev (fun k => r_Refusal.l4 k a b (n : Int) F p U X) (a, b ++ (((List.range p.toNat).drop n).map fun i : Nat => (i : Int)).filter fun n => a.any fun i => decide (n ∈ F.getD i.toNat [])) := by
  have hp := hG.ok.p64
  have hp0 := hG.p0
  intro m
  induction m with
  | zero =>
    intro n b hn hb
    refine Ev.succ ?_
    simp only [r_Refusal.l4]
    refine Ev.neg (by omega) ?_
    rw [List.drop_eq_nil_of_le (by simp; omega)]
    simp only [List.map_nil, List.filter_nil, List.append_nil]
    exact Ev.now _
  | succ m ih =>
    intro n b hn hb
    refine Ev.succ ?_
    simp only [r_Refusal.l4]
    refine Ev.pos (by omega) ?_
    refine rf_l5 hG ha hal (by omega) (by omega) ?_ a.length 0 (by omega) rfl
    rw [range_drop (by omega), List.map_cons, List.filter_cons]
    by_cases h : a.any (fun i => decide ((n : Int) ∈ F.getD i.toNat [])) = true
    · rw [if_pos h, if_pos h]
      refine Ev.eq (ih (n + 1) _ (by omega) (by simp; omega)) ?_
      simp
    · rw [if_neg h, if_neg h]
      exact ih (n + 1) _ (by omega) (by omega)
theorem rf_l3 (hG : Good F p U X) {st : List Int} (hl : st.length ≤ 64) : ∀ (m i : Nat) (a : List Int), F.length = i + m → InN F.length a → a.length ≤ i → ∀ A, A = a ++ (((List.range F.length).drop i).map fun i : Nat => (i : Int)).filter (fun i => decide (i ∈ st)) →
    Ev (fun k => r_Refusal.l3 k st a [] (i : Int) F p U X) (A, piecesI F p.toNat A) := by
  have hN := hG.ok.n3
  intro m
  induction m with
  | zero =>
    intro i a hi ha hal A hA
    refine Ev.succ ?_
    simp only [r_Refusal.l3]
    refine Ev.neg (by omega) ?_
    rw [List.drop_eq_nil_of_le (by simp; omega)] at hA
    simp only [List.map_nil, List.filter_nil, List.append_nil] at hA
    subst hA
    have := rf_l4 hG ha (by omega) p.toNat 0 [] (by omega) (by simp)
    rw [List.nil_append, List.drop_zero] at this
    exact this
  | succ m ih =>
    intro i a hi ha hal A hA
    refine Ev.succ ?_
    simp only [r_Refusal.l3]
    refine Ev.pos (by omega) (Ev.bind (rhas_ev _ _ (by omega)) ?_)
    rw [range_drop (by omega), List.map_cons, List.filter_cons] at hA
    refine Ev.ite (fun e => ?_) (fun e => ?_)
    · refine Ev.pos (by omega) ?_
      rw [nxt64 (by omega)]
      refine ih (i + 1) _ (by omega) (fun s hs => ?_) (by simp; omega) A ?_
      · rcases List.mem_append.1 hs with hs | hs
        · exact ha s hs
        · simp at hs; omega
      · rw [hA, if_pos e]; simp
    · rw [nxt64 (by omega)]
      refine ih (i + 1) _ (by omega) ha (by omega) A ?_
      rw [hA, if_neg e]
theorem rf_l0 (hG : Good F p U X) {s0 : Nat} (h0 : s0 < F.length) : ∀ (m r : Nat), F.length = r + m →
    Ev (fun k => r_Refusal.l0 k (reachI F U X s0 r) (r : Int) F p U X) (stonesI F (reachI F U X s0 F.length), piecesI F p.toNat (stonesI F (reachI F U X s0 F.length))) := by
  have hN := hG.ok.n3
  intro m
  induction m with
  | zero =>
    intro r hr
    refine Ev.succ ?_
    simp only [r_Refusal.l0]
    refine Ev.neg (by omega) ?_
    have h1 := reach_in (F := F) (U := U) (X := X) h0 F.length
    have h2 := Rp.nodup_len F.length _ h1.2 h1.1
    rw [show r = F.length by omega]
    exact rf_l3 hG (by omega) F.length 0 [] (by omega) (fun s hs => by simp at hs) (by simp) _ (by simp [stonesI])
  | succ m ih =>
    intro r hr
    refine Ev.succ ?_
    simp only [r_Refusal.l0]
    have h1 := reach_in (F := F) (U := U) (X := X) h0 r
    refine Ev.pos (by omega) (rf_l1 hG F.length 0 _ (by omega) h1.1 h1.2 (fun st' ho => ?_))
    rw [nxt64 (by omega), ho, List.drop_zero]
    exact ih (r + 1) (by omega)
theorem refusal_ev (hG : Good F p U X) {s0 : Nat} (h0 : s0 < F.length) : Ev (fun k => r_Refusal.f k F p U X (s0 : Int)) (stonesI F (reachI F U X s0 F.length), piecesI F p.toNat (stonesI F (reachI F U X s0 F.length))) := by
  unfold r_Refusal.f
  exact rf_l0 hG h0 F.length 0 (by omega)
end
end Go.Proofs.Ytkeomlmlimkebaa.Rq
