import Derived.Test.YtpjgmlnnhcnelaaDYSh1
import Derived.Test.YtpjgmlnnhcnelaaDYQAx22
import Derived.Lib.SlicesCompact
namespace Go.Proofs.Ytpjgmlnnhcnelaa.Sh
open Go.RowKit Go.Proofs.Ytpjgmlnnhcnelaa.QA Go.Proofs.YtpjgmlnnhcnelaaW.PrintWords Go.Proofs.YtpjgmlnnhcnelaaW.PrintLast Go.Proofs.YtpjgmlnnhcnelaaW.PrintMore Go.Proofs.Ytpjgmlnnhcnelaa.EvKit
set_option linter.unusedVariables false
set_option linter.unusedSimpArgs false
def capS (x y : S54) : Option S54 := if x.f0 = y.f0 ∧ mx x.f1 y.f1 < mn x.f2 y.f2 then some ⟨x.f0, mx x.f1 y.f1, mn x.f2 y.f2⟩ else none
def lstS (o : List S54) : S54 := o.getD (o.length - 1) z54
def addS (o : List S54) (s : S54) : List S54 := if 0 < o.length ∧ (lstS o).f0 = s.f0 ∧ (lstS o).f2 = s.f1 then o.set (o.length - 1) ⟨(lstS o).f0, (lstS o).f1, s.f2⟩ else o ++ [s]
def optS (o : List S54) (s : Option S54) : List S54 := match s with | some s => addS o s | none => o
def rawS (a b : List S54) : List S54 := a.flatMap (fun x => b.filterMap (capS x))
def comS (a b : List S54) : List S54 := (rawS a b).foldl addS []
theorem mx_le (a b : Int) : a ≤ mx a b ∧ b ≤ mx a b ∧ (mx a b = a ∨ mx a b = b) := by unfold mx; split <;> omega
theorem mn_le (a b : Int) : mn a b ≤ a ∧ mn a b ≤ b ∧ (mn a b = a ∨ mn a b = b) := by unfold mn; split <;> omega
theorem capS_some {x y s : S54} (h : capS x y = some s) : x.f0 = y.f0 ∧ s.f0 = x.f0 ∧ s.f1 = mx x.f1 y.f1 ∧ s.f2 = mn x.f2 y.f2 ∧ s.f1 < s.f2 := by
  unfold capS at h
  split at h
  · rename_i h1
    obtain rfl := Option.some.inj h
    exact ⟨h1.1, rfl, rfl, rfl, h1.2⟩
  · cases h
theorem addS_nil (s : S54) : addS [] s = [s] := by simp [addS]
theorem lstS_app (l : List S54) (z : S54) : lstS (l ++ [z]) = z := by simp [lstS]
theorem addS_app (l : List S54) (z s : S54) : addS (l ++ [z]) s = if z.f0 = s.f0 ∧ z.f2 = s.f1 then l ++ [⟨z.f0, z.f1, s.f2⟩] else l ++ [z] ++ [s] := by
  unfold addS
  rw [lstS_app]
  by_cases h : z.f0 = s.f0 ∧ z.f2 = s.f1
  · rw [if_pos h, if_pos ⟨by simp, h⟩]
    simp
  · rw [if_neg h, if_neg (fun e => h e.2)]
theorem addS_length (o : List S54) (s : S54) : (addS o s).length ≤ o.length + 1 := by
  unfold addS
  split <;> simp
theorem optS_length (o : List S54) (s : Option S54) : (optS o s).length ≤ o.length + 1 := by
  cases s with
  | none => exact Nat.le_succ _
  | some s => exact addS_length o s
theorem fold_opt (x : S54) : ∀ (b : List S54) (o : List S54), b.foldl (fun o y => optS o (capS x y)) o = (b.filterMap (capS x)).foldl addS o
  | [], o => rfl
  | y :: b, o => by
    rw [List.foldl_cons, List.filterMap_cons, fold_opt x b]
    cases h : capS x y with
    | none => rfl
    | some s => rfl
theorem fold_raw (b : List S54) : ∀ (a : List S54) (o : List S54), a.foldl (fun o x => b.foldl (fun o y => optS o (capS x y)) o) o = (rawS a b).foldl addS o
  | [], o => rfl
  | x :: a, o => by
    rw [List.foldl_cons, fold_raw b a, fold_opt]
    unfold rawS
    rw [List.flatMap_cons, List.foldl_append]
theorem rawS_mem {a b : List S54} {s : S54} : s ∈ rawS a b ↔ ∃ x ∈ a, ∃ y ∈ b, capS x y = some s := by simp [rawS]
def RS (s t : S54) : Prop := s.f1 < s.f2 ∧ t.f1 < t.f2 ∧ (s.f0 < t.f0 ∨ (s.f0 = t.f0 ∧ s.f2 ≤ t.f1))
abbrev PS (l : List S54) : Prop := l.Pairwise (fun a b => a.f0 < b.f0 ∨ (a.f0 = b.f0 ∧ a.f2 ≤ b.f1))
theorem cap_sorted (x : S54) : ∀ b : List S54, PS b → (b.filterMap (capS x)).Pairwise RS
  | [], _ => List.Pairwise.nil
  | y :: b, h => by
    have h' := List.pairwise_cons.1 h
    have ih := cap_sorted x b h'.2
    rw [List.filterMap_cons]
    cases hc : capS x y with
    | none => exact ih
    | some s =>
      refine List.pairwise_cons.2 ⟨fun t ht => ?_, ih⟩
      obtain ⟨y', hy', hc'⟩ := List.mem_filterMap.1 ht
      have c1 := capS_some hc
      have c2 := capS_some hc'
      have q := h'.1 y' hy'
      have m1 := mn_le x.f2 y.f2
      have m2 := mx_le x.f1 y'.f1
      unfold RS
      omega
theorem rawS_sorted {b : List S54} (hb : PS b) : ∀ a : List S54, PS a → (rawS a b).Pairwise RS
  | [], _ => List.Pairwise.nil
  | x :: a, h => by
    have h' := List.pairwise_cons.1 h
    have ih := rawS_sorted hb a h'.2
    have e : rawS (x :: a) b = b.filterMap (capS x) ++ rawS a b := by unfold rawS; rw [List.flatMap_cons]
    rw [e]
    refine List.pairwise_append.2 ⟨cap_sorted x b hb, ih, fun s hs t ht => ?_⟩
    obtain ⟨y, hy, hc⟩ := List.mem_filterMap.1 hs
    obtain ⟨x', hx', y', hy', hc'⟩ := rawS_mem.1 ht
    have c1 := capS_some hc
    have c2 := capS_some hc'
    have q := h'.1 x' hx'
    have m1 := mn_le x.f2 y.f2
    have m2 := mx_le x'.f1 y'.f1
    unfold RS
    omega
theorem app_cases (o : List S54) : o = [] ∨ ∃ l z, o = l ++ [z] := by
  rcases List.eq_nil_or_concat o with h | ⟨l, z, h⟩
  · exact .inl h
  · exact .inr ⟨l, z, by rw [h, List.concat_eq_append]⟩
theorem addS_sorted {o l : List S54} {s : S54} (h : (o ++ s :: l).Pairwise RS) : (addS o s ++ l).Pairwise RS := by
  rcases app_cases o with rfl | ⟨i, z, rfl⟩
  · rw [addS_nil]; exact h
  · rw [addS_app]
    split
    · rename_i hc
      have h1 := List.pairwise_append.1 h
      have h2 := List.pairwise_append.1 h1.1
      have h3 := List.pairwise_cons.1 h1.2.1
      refine List.pairwise_append.2 ⟨List.pairwise_append.2 ⟨h2.1, List.pairwise_singleton _ _, fun w hw v hv => ?_⟩, h3.2, fun w hw t ht => ?_⟩
      · obtain rfl := List.mem_singleton.1 hv
        have q1 := h2.2.2 w hw z (by simp)
        have q2 := h1.2.2 z (by simp) s (by simp)
        unfold RS at *
        dsimp only
        omega
      · rcases List.mem_append.1 hw with hw | hw
        · exact h1.2.2 w (by simp [hw]) t (by simp [ht])
        · obtain rfl := List.mem_singleton.1 hw
          have q1 := h3.1 t ht
          have q2 := h1.2.2 z (by simp) s (by simp)
          unfold RS at *
          dsimp only
          omega
    · simpa using h
theorem fold_sorted : ∀ (l o : List S54), (o ++ l).Pairwise RS → (l.foldl addS o).Pairwise RS
  | [], o, h => by simpa using h
  | s :: l, o, h => by rw [List.foldl_cons]; exact fold_sorted l _ (addS_sorted h)
def VS (s : S54) : Prop := (1 ≤ s.f0 ∧ s.f0 ≤ 7) ∧ 0 ≤ s.f1 ∧ s.f1 < s.f2 ∧ s.f2 ≤ 1440
def hitS (l : List S54) (d t : Int) : Prop := ∃ s ∈ l, s.f0 = d ∧ s.f1 ≤ t ∧ t < s.f2
theorem hitS_app (l m : List S54) (d t : Int) : hitS (l ++ m) d t ↔ hitS l d t ∨ hitS m d t := by
  unfold hitS
  constructor
  · rintro ⟨s, hs, h⟩
    rcases List.mem_append.1 hs with hs | hs
    · exact .inl ⟨s, hs, h⟩
    · exact .inr ⟨s, hs, h⟩
  · rintro (⟨s, hs, h⟩ | ⟨s, hs, h⟩)
    · exact ⟨s, by simp [hs], h⟩
    · exact ⟨s, by simp [hs], h⟩
theorem hitS_one (s : S54) (d t : Int) : hitS [s] d t ↔ s.f0 = d ∧ s.f1 ≤ t ∧ t < s.f2 := by
  unfold hitS
  constructor
  · rintro ⟨x, hx, h⟩
    obtain rfl := List.mem_singleton.1 hx
    exact h
  · intro h; exact ⟨s, by simp, h⟩
theorem addS_VS {o : List S54} {s : S54} (ho : ∀ x ∈ o, VS x) (hs : VS s) : ∀ x ∈ addS o s, VS x := by
  rcases app_cases o with rfl | ⟨i, z, rfl⟩
  · rw [addS_nil]
    intro x hx
    obtain rfl := List.mem_singleton.1 hx
    exact hs
  · rw [addS_app]
    have hz := ho z (by simp)
    split
    · rename_i hc
      intro x hx
      rcases List.mem_append.1 hx with hx | hx
      · exact ho x (by simp [hx])
      · obtain rfl := List.mem_singleton.1 hx
        unfold VS at *
        dsimp only
        omega
    · intro x hx
      rcases List.mem_append.1 hx with hx | hx
      · exact ho x hx
      · obtain rfl := List.mem_singleton.1 hx
        exact hs
theorem addS_hit {o : List S54} {s : S54} (ho : ∀ x ∈ o, VS x) (hs : VS s) (d t : Int) : hitS (addS o s) d t ↔ hitS (o ++ [s]) d t := by
  rcases app_cases o with rfl | ⟨i, z, rfl⟩
  · rw [addS_nil]; rfl
  · rw [addS_app]
    have hz := ho z (by simp)
    split
    · rename_i hc
      rw [hitS_app, hitS_app, hitS_app, hitS_one, hitS_one, hitS_one]
      unfold VS at *
      dsimp only
      constructor
      · rintro (h | h)
        · exact .inl (.inl h)
        · by_cases ht : t < z.f2
          · exact .inl (.inr ⟨h.1, h.2.1, ht⟩)
          · exact .inr ⟨by omega, by omega, by omega⟩
      · rintro ((h | h) | h)
        · exact .inl h
        · exact .inr ⟨h.1, h.2.1, by omega⟩
        · exact .inr ⟨by omega, by omega, h.2.2⟩
    · rfl
theorem fold_hit (d t : Int) : ∀ (l o : List S54), (∀ x ∈ o, VS x) → (∀ x ∈ l, VS x) → ((∀ x ∈ l.foldl addS o, VS x) ∧ (hitS (l.foldl addS o) d t ↔ hitS (o ++ l) d t))
  | [], o, ho, _ => ⟨ho, by simp⟩
  | s :: l, o, ho, hl => by
    rw [List.foldl_cons]
    have hs := hl s (by simp)
    obtain ⟨h1, h2⟩ := fold_hit d t l (addS o s) (addS_VS ho hs) (fun x hx => hl x (by simp [hx]))
    refine ⟨h1, h2.trans ?_⟩
    rw [hitS_app, addS_hit ho hs, hitS_app, hitS_app]
    have e : s :: l = [s] ++ l := rfl
    rw [e, hitS_app, or_assoc]
theorem rawS_VS {a b : List S54} (ha : ∀ x ∈ a, VS x) (hb : ∀ x ∈ b, VS x) : ∀ x ∈ rawS a b, VS x := by
  intro s hs
  obtain ⟨x, hx, y, hy, h⟩ := rawS_mem.1 hs
  have c := capS_some h
  have h1 := ha x hx
  have h2 := hb y hy
  have m1 := mn_le x.f2 y.f2
  have m2 := mx_le x.f1 y.f1
  unfold VS at *
  omega
theorem rawS_hit {a b : List S54} (d t : Int) : hitS (rawS a b) d t ↔ hitS a d t ∧ hitS b d t := by
  constructor
  · rintro ⟨s, hs, h⟩
    obtain ⟨x, hx, y, hy, hc⟩ := rawS_mem.1 hs
    have c := capS_some hc
    have m1 := mn_le x.f2 y.f2
    have m2 := mx_le x.f1 y.f1
    exact ⟨⟨x, hx, by omega, by omega, by omega⟩, ⟨y, hy, by omega, by omega, by omega⟩⟩
  · rintro ⟨⟨x, hx, h1⟩, ⟨y, hy, h2⟩⟩
    have m1 := mn_le x.f2 y.f2
    have m2 := mx_le x.f1 y.f1
    have hc : x.f0 = y.f0 ∧ mx x.f1 y.f1 < mn x.f2 y.f2 := by omega
    refine ⟨⟨x.f0, mx x.f1 y.f1, mn x.f2 y.f2⟩, rawS_mem.2 ⟨x, hx, y, hy, ?_⟩, ?_⟩
    · unfold capS; rw [if_pos hc]
    · dsimp only; omega
theorem comS_hit {a b : List S54} (ha : ∀ x ∈ a, VS x) (hb : ∀ x ∈ b, VS x) (d t : Int) : hitS (comS a b) d t ↔ hitS a d t ∧ hitS b d t := by
  have := (fold_hit d t (rawS a b) [] (by simp) (rawS_VS ha hb)).2
  rw [List.nil_append] at this
  exact this.trans (rawS_hit d t)
theorem comS_VS {a b : List S54} (ha : ∀ x ∈ a, VS x) (hb : ∀ x ∈ b, VS x) : ∀ x ∈ comS a b, VS x := (fold_hit 0 0 (rawS a b) [] (by simp) (rawS_VS ha hb)).1
theorem comS_sorted {a b : List S54} (ha : PS a) (hb : PS b) : (comS a b).Pairwise RS := fold_sorted _ _ (by rw [List.nil_append]; exact rawS_sorted hb a ha)
theorem dupS_no : ∀ l : List S54, l.Pairwise RS → dupS l = false
  | [], _ => rfl
  | [a], _ => rfl
  | a :: b :: l, h => by
    have h' := List.pairwise_cons.1 h
    have q := h'.1 b (by simp)
    unfold dupS
    rw [dupS_no (b :: l) h'.2]
    unfold RS at q
    simp
    omega
theorem dupF_no : ∀ l : List Int, l.Pairwise (· < ·) → dupF l = false
  | [], _ => rfl
  | [a], _ => rfl
  | a :: b :: l, h => by
    have h' := List.pairwise_cons.1 h
    have q := h'.1 b (by simp)
    unfold dupF
    rw [dupF_no (b :: l) h'.2]
    simp
    omega
theorem comp_inc (l : List Int) (h : l.Pairwise (· ≤ ·)) : ∀ m, m ≤ l.length → (Go.Lib.compactUpTo l.toArray m).Pairwise (· < ·) ∧ ∀ v, v ∈ Go.Lib.compactUpTo l.toArray m ↔ ∃ j, j < m ∧ l.toArray[j]! = v := by
  intro m
  induction m with
  | zero => intro _; exact ⟨List.Pairwise.nil, fun v => ⟨fun hv => absurd hv (by simp [Go.Lib.compactUpTo]), fun ⟨j, hj, _⟩ => absurd hj (by omega)⟩⟩
  | succ m ih =>
    intro hm
    obtain ⟨i1, i2⟩ := ih (by omega)
    have hget : ∀ j, j < l.length → l.toArray[j]! = l.getD j 0 := fun j hj => by
      rw [getElem!_pos l.toArray j (by simpa using hj)]
      simp [hj]
    have mono : ∀ i j, i ≤ j → j < l.length → l.getD i 0 ≤ l.getD j 0 := fun i j hij hj => by
      rcases Nat.lt_or_eq_of_le hij with h1 | rfl
      · have := List.pairwise_iff_getElem.1 h i j (by omega) hj h1
        simpa [show i < l.length by omega, hj] using this
      · exact Int.le_refl _
    rw [Go.Lib.compactUpTo_succ]
    by_cases hk : Go.Lib.keeps l.toArray m = true
    · rw [if_pos hk]
      refine ⟨List.pairwise_append.2 ⟨i1, List.pairwise_singleton _ _, fun v hv u hu => ?_⟩, fun v => ?_⟩
      · obtain rfl := List.mem_singleton.1 hu
        obtain ⟨j, hj, rfl⟩ := (i2 v).1 hv
        simp only [Go.Lib.keeps, decide_eq_true_eq] at hk
        have q1 := mono j (m - 1) (by omega) (by omega)
        have q2 := mono (m - 1) m (by omega) (by omega)
        rw [hget j (by omega), hget m (by omega)]
        rcases hk with hk | hk
        · omega
        · rw [hget m (by omega), hget (m - 1) (by omega)] at hk
          omega
      · rw [List.mem_append, i2]
        constructor
        · rintro (⟨j, hj, e⟩ | hv)
          · exact ⟨j, by omega, e⟩
          · exact ⟨m, by omega, (List.mem_singleton.1 hv).symm⟩
        · rintro ⟨j, hj, e⟩
          by_cases hjm : j = m
          · subst hjm; exact .inr (by simp [e])
          · exact .inl ⟨j, by omega, e⟩
    · rw [if_neg hk, List.append_nil]
      refine ⟨i1, fun v => ?_⟩
      rw [i2]
      simp only [Go.Lib.keeps, decide_eq_true_eq, not_or, ne_eq, Decidable.not_not] at hk
      constructor
      · rintro ⟨j, hj, e⟩; exact ⟨j, by omega, e⟩
      · rintro ⟨j, hj, e⟩
        by_cases hjm : j = m
        · subst hjm; exact ⟨j - 1, by omega, by rw [← hk.2]; exact e⟩
        · exact ⟨j, by omega, e⟩
def uniF (f g : List Int) : List Int := Go.Lib.compactUpTo (sortI (f ++ g)).toArray (sortI (f ++ g)).length
theorem sortI_sorted (l : List Int) : (sortI l).Pairwise (· ≤ ·) := by
  have := List.pairwise_mergeSort (le := fun x y : Int => decide (x ≤ y)) (by simp only [decide_eq_true_eq]; omega) (by simp only [Bool.or_eq_true, decide_eq_true_eq]; omega) l
  unfold sortI
  exact this.imp (fun h => by simpa using h)
theorem uniF_inc (f g : List Int) : (uniF f g).Pairwise (· < ·) := (comp_inc _ (sortI_sorted _) _ (Nat.le_refl _)).1
theorem uniF_mem (f g : List Int) (v : Int) : v ∈ uniF f g ↔ v ∈ f ∨ v ∈ g := by
  unfold uniF
  rw [(comp_inc _ (sortI_sorted _) _ (Nat.le_refl _)).2]
  have hm : v ∈ sortI (f ++ g) ↔ v ∈ f ∨ v ∈ g := by unfold sortI; rw [List.mem_mergeSort, List.mem_append]
  rw [← hm, List.mem_iff_getElem]
  constructor
  · rintro ⟨j, hj, e⟩
    refine ⟨j, hj, ?_⟩
    rw [getElem!_pos (sortI (f ++ g)).toArray j (by simpa using hj)] at e
    simpa using e
  · rintro ⟨j, hj, e⟩
    refine ⟨j, hj, ?_⟩
    rw [getElem!_pos (sortI (f ++ g)).toArray j (by simpa using hj)]
    simpa using e
end Go.Proofs.Ytpjgmlnnhcnelaa.Sh
