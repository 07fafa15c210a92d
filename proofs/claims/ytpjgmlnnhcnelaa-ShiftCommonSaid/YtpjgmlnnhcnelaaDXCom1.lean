import Derived.Test.YtpjgmlnnhcnelaaDXSh1
import Derived.Test.YtpjgmlnnhcnelaaDXQAx22
import Derived.Lib.SlicesCompact
namespace Go.Proofs.Ytpjgmlnnhcnelaa.Sh
open Go.RowKit Go.Proofs.Ytpjgmlnnhcnelaa.QA Go.Proofs.YtpjgmlnnhcnelaaW.PrintWords Go.Proofs.YtpjgmlnnhcnelaaW.PrintLast Go.Proofs.YtpjgmlnnhcnelaaW.PrintMore Go.Proofs.Ytpjgmlnnhcnelaa.EvKit
set_option linter.unusedVariables false
set_option linter.unusedSimpArgs false
def capS (x y : S54) : Option S54 := if x.f0 = y.f0 ∧ mx x.f1 y.f1 < mn x.f2 y.f2 then some ⟨x.f0, mx x.f1 y.f1, mn x.f2 y.f2⟩ else none
def lstS (o : List S54) : S54 := o.getD (o.length - 1) z54
def addS (o : List S54) (s : S54) : List S54 := if 0 < o.length ∧ (lstS o).f0 = s.f0 ∧ (lstS o).f2 = s.f1 then o.set (o.length - 1) ⟨(lstS o).f0, (lstS o).f1, s.f2⟩ else o ++ [s]
def optS (o : List S54) (s : Option S54) : List S54 := match s with | some s => addS o s | none => o
def rawS (a b : List S54) : List S54 := a.flatMap (fun x => b.filterMap (capS x))
def comS (a b : List S54) : List S54 := (rawS a b).foldl addS []
theorem mx_comm (a b : Int) : mx a b = mx b a := by unfold mx; split <;> split <;> omega
theorem mn_comm (a b : Int) : mn a b = mn b a := by unfold mn; split <;> split <;> omega
theorem mx_le (a b : Int) : a ≤ mx a b ∧ b ≤ mx a b ∧ (mx a b = a ∨ mx a b = b) := by unfold mx; split <;> omega
theorem mn_le (a b : Int) : mn a b ≤ a ∧ mn a b ≤ b ∧ (mn a b = a ∨ mn a b = b) := by unfold mn; split <;> omega
theorem capS_comm (x y : S54) : capS x y = capS y x := by
  unfold capS
  rw [mx_comm x.f1 y.f1, mn_comm x.f2 y.f2]
  by_cases h : x.f0 = y.f0
  · rw [h]
  · rw [if_neg (fun e => h e.1), if_neg (fun e => h e.1.symm)]
theorem capS_some {x y s : S54} (h : capS x y = some s) : x.f0 = y.f0 ∧ s.f0 = x.f0 ∧ s.f1 = mx x.f1 y.f1 ∧ s.f2 = mn x.f2 y.f2 ∧ s.f1 < s.f2 := by
  unfold capS at h
  split at h
  · rename_i h1
    obtain rfl := Option.some.inj h
    exact ⟨h1.1, rfl, rfl, rfl, h1.2⟩
  · cases h
theorem addS_length (o : List S54) (s : S54) : (addS o s).length ≤ o.length + 1 := by
  unfold addS
  split <;> simp
theorem optS_length (o : List S54) (s : Option S54) : (optS o s).length ≤ o.length + 1 := by
  cases s with
  | none => exact Nat.le_succ _
  | some s => exact addS_length o s
theorem fold_opt (x : S54) : ∀ (b : List S54) (o : List S54), b.foldl (fun o y => optS o (capS x y)) o = (b.filterMap (capS x)).foldl addS o
  | [], o => rfl
  | y :: b, o => by
    rw [List.foldl_cons, List.filterMap_cons, fold_opt x b]
    cases h : capS x y with
    | none => rfl
    | some s => rfl
theorem fold_raw (b : List S54) : ∀ (a : List S54) (o : List S54), a.foldl (fun o x => b.foldl (fun o y => optS o (capS x y)) o) o = (rawS a b).foldl addS o
  | [], o => rfl
  | x :: a, o => by
    rw [List.foldl_cons, fold_raw b a, fold_opt]
    unfold rawS
    rw [List.flatMap_cons, List.foldl_append]
theorem rawS_mem {a b : List S54} {s : S54} : s ∈ rawS a b ↔ ∃ x ∈ a, ∃ y ∈ b, capS x y = some s := by simp [rawS]
def RS (s t : S54) : Prop := s.f1 < s.f2 ∧ t.f1 < t.f2 ∧ (s.f0 < t.f0 ∨ (s.f0 = t.f0 ∧ s.f2 ≤ t.f1))
theorem RS_asym {s t : S54} (h : RS s t) (h2 : RS t s) : False := by unfold RS at *; omega
theorem eq_of_mem {α : Type} {R : α → α → Prop} (asym : ∀ a b, R a b → R b a → False) : ∀ l m : List α, l.Pairwise R → m.Pairwise R → (∀ x, x ∈ l ↔ x ∈ m) → l = m
  | [], [], _, _, _ => rfl
  | [], b :: m, _, _, h => absurd ((h b).2 (by simp)) (by simp)
  | a :: l, [], _, _, h => absurd ((h a).1 (by simp)) (by simp)
  | a :: l, b :: m, hl, hm, h => by
    have hl' := List.pairwise_cons.1 hl
    have hm' := List.pairwise_cons.1 hm
    have hab : a = b := by
      rcases List.mem_cons.1 ((h a).1 (by simp)) with e | h1
      · exact e
      · rcases List.mem_cons.1 ((h b).2 (by simp)) with e | h2
        · exact e.symm
        · exact (asym _ _ (hm'.1 a h1) (hl'.1 b h2)).elim
    subst hab
    congr 1
    refine eq_of_mem asym l m hl'.2 hm'.2 (fun x => ⟨fun hx => ?_, fun hx => ?_⟩)
    · rcases List.mem_cons.1 ((h x).1 (by simp [hx])) with e | h1
      · subst e; exact (asym _ _ (hl'.1 x hx) (hl'.1 x hx)).elim
      · exact h1
    · rcases List.mem_cons.1 ((h x).2 (by simp [hx])) with e | h1
      · subst e; exact (asym _ _ (hm'.1 x hx) (hm'.1 x hx)).elim
      · exact h1
abbrev PS (l : List S54) : Prop := l.Pairwise (fun a b => a.f0 < b.f0 ∨ (a.f0 = b.f0 ∧ a.f2 ≤ b.f1))
theorem cap_sorted (x : S54) : ∀ b : List S54, PS b → (b.filterMap (capS x)).Pairwise RS
  | [], _ => List.Pairwise.nil
  | y :: b, h => by
    have h' := List.pairwise_cons.1 h
    have ih := cap_sorted x b h'.2
    rw [List.filterMap_cons]
    cases hc : capS x y with
    | none => exact ih
    | some s =>
      refine List.pairwise_cons.2 ⟨fun t ht => ?_, ih⟩
      obtain ⟨y', hy', hc'⟩ := List.mem_filterMap.1 ht
      have c1 := capS_some hc
      have c2 := capS_some hc'
      have q := h'.1 y' hy'
      have m1 := mn_le x.f2 y.f2
      have m2 := mx_le x.f1 y'.f1
      unfold RS
      omega
theorem rawS_sorted {b : List S54} (hb : PS b) : ∀ a : List S54, PS a → (rawS a b).Pairwise RS
  | [], _ => List.Pairwise.nil
  | x :: a, h => by
    have h' := List.pairwise_cons.1 h
    have ih := rawS_sorted hb a h'.2
    have e : rawS (x :: a) b = b.filterMap (capS x) ++ rawS a b := by unfold rawS; rw [List.flatMap_cons]
    rw [e]
    refine List.pairwise_append.2 ⟨cap_sorted x b hb, ih, fun s hs t ht => ?_⟩
    obtain ⟨y, hy, hc⟩ := List.mem_filterMap.1 hs
    obtain ⟨x', hx', y', hy', hc'⟩ := rawS_mem.1 ht
    have c1 := capS_some hc
    have c2 := capS_some hc'
    have q := h'.1 x' hx'
    have m1 := mn_le x.f2 y.f2
    have m2 := mx_le x'.f1 y'.f1
    unfold RS
    omega
theorem rawS_comm {a b : List S54} (ha : PS a) (hb : PS b) : rawS a b = rawS b a := by
  refine eq_of_mem (fun _ _ => RS_asym) _ _ (rawS_sorted hb a ha) (rawS_sorted ha b hb) (fun s => ?_)
  rw [rawS_mem, rawS_mem]
  constructor
  · rintro ⟨x, hx, y, hy, h⟩; exact ⟨y, hy, x, hx, by rw [capS_comm]; exact h⟩
  · rintro ⟨x, hx, y, hy, h⟩; exact ⟨y, hy, x, hx, by rw [capS_comm]; exact h⟩
theorem comS_comm {a b : List S54} (ha : PS a) (hb : PS b) : comS a b = comS b a := by unfold comS; rw [rawS_comm ha hb]
theorem comp_inc (l : List Int) (h : l.Pairwise (· ≤ ·)) : ∀ m, m ≤ l.length → (Go.Lib.compactUpTo l.toArray m).Pairwise (· < ·) ∧ ∀ v, v ∈ Go.Lib.compactUpTo l.toArray m ↔ ∃ j, j < m ∧ l.toArray[j]! = v := by
  intro m
  induction m with
  | zero => intro _; exact ⟨List.Pairwise.nil, fun v => ⟨fun hv => absurd hv (by simp [Go.Lib.compactUpTo]), fun ⟨j, hj, _⟩ => absurd hj (by omega)⟩⟩
  | succ m ih =>
    intro hm
    obtain ⟨i1, i2⟩ := ih (by omega)
    have hget : ∀ j, j < l.length → l.toArray[j]! = l.getD j 0 := fun j hj => by
      rw [getElem!_pos l.toArray j (by simpa using hj)]
      simp [hj]
    have mono : ∀ i j, i ≤ j → j < l.length → l.getD i 0 ≤ l.getD j 0 := fun i j hij hj => by
      rcases Nat.lt_or_eq_of_le hij with h1 | rfl
      · have := List.pairwise_iff_getElem.1 h i j (by omega) hj h1
        simpa [show i < l.length by omega, hj] using this
      · exact Int.le_refl _
    rw [Go.Lib.compactUpTo_succ]
    by_cases hk : Go.Lib.keeps l.toArray m = true
    · rw [if_pos hk]
      refine ⟨List.pairwise_append.2 ⟨i1, List.pairwise_singleton _ _, fun v hv u hu => ?_⟩, fun v => ?_⟩
      · obtain rfl := List.mem_singleton.1 hu
        obtain ⟨j, hj, rfl⟩ := (i2 v).1 hv
        simp only [Go.Lib.keeps, decide_eq_true_eq] at hk
        have q1 := mono j (m - 1) (by omega) (by omega)
        have q2 := mono (m - 1) m (by omega) (by omega)
        rw [hget j (by omega), hget m (by omega)]
        rcases hk with hk | hk
        · omega
        · rw [hget m (by omega), hget (m - 1) (by omega)] at hk
          omega
      · rw [List.mem_append, i2]
        constructor
        · rintro (⟨j, hj, e⟩ | hv)
          · exact ⟨j, by omega, e⟩
          · exact ⟨m, by omega, (List.mem_singleton.1 hv).symm⟩
        · rintro ⟨j, hj, e⟩
          by_cases hjm : j = m
          · subst hjm; exact .inr (by simp [e])
          · exact .inl ⟨j, by omega, e⟩
    · rw [if_neg hk, List.append_nil]
      refine ⟨i1, fun v => ?_⟩
      rw [i2]
      simp only [Go.Lib.keeps, decide_eq_true_eq, not_or, ne_eq, Decidable.not_not] at hk
      constructor
      · rintro ⟨j, hj, e⟩; exact ⟨j, by omega, e⟩
      · rintro ⟨j, hj, e⟩
        by_cases hjm : j = m
        · subst hjm; exact ⟨j - 1, by omega, by rw [← hk.2]; exact e⟩
        · exact ⟨j, by omega, e⟩
def uniF (f g : List Int) : List Int := Go.Lib.compactUpTo (sortI (f ++ g)).toArray (sortI (f ++ g)).length
theorem sortI_sorted (l : List Int) : (sortI l).Pairwise (· ≤ ·) := by
  have := List.pairwise_mergeSort (le := fun x y : Int => decide (x ≤ y)) (by simp only [decide_eq_true_eq]; omega) (by simp only [Bool.or_eq_true, decide_eq_true_eq]; omega) l
  unfold sortI
  exact this.imp (fun h => by simpa using h)
theorem uniF_inc (f g : List Int) : (uniF f g).Pairwise (· < ·) := (comp_inc _ (sortI_sorted _) _ (Nat.le_refl _)).1
theorem uniF_mem (f g : List Int) (v : Int) : v ∈ uniF f g ↔ v ∈ f ∨ v ∈ g := by
  unfold uniF
  rw [(comp_inc _ (sortI_sorted _) _ (Nat.le_refl _)).2]
  have hm : v ∈ sortI (f ++ g) ↔ v ∈ f ∨ v ∈ g := by unfold sortI; rw [List.mem_mergeSort, List.mem_append]
  rw [← hm, List.mem_iff_getElem]
  constructor
  · rintro ⟨j, hj, e⟩
    refine ⟨j, hj, ?_⟩
    rw [getElem!_pos (sortI (f ++ g)).toArray j (by simpa using hj)] at e
    simpa using e
  · rintro ⟨j, hj, e⟩
    refine ⟨j, hj, ?_⟩
    rw [getElem!_pos (sortI (f ++ g)).toArray j (by simpa using hj)]
    simpa using e
theorem uniF_comm (f g : List Int) : uniF f g = uniF g f := by
  refine eq_of_mem (R := (· < ·)) (fun a b h1 h2 => by omega) _ _ (uniF_inc f g) (uniF_inc g f) (fun v => ?_)
  rw [uniF_mem, uniF_mem, or_comm]
end Go.Proofs.Ytpjgmlnnhcnelaa.Sh
