import Derived.Test.YtcofgnbopodahaaKMd2
namespace Md
set_option linter.unusedVariables false
set_option linter.unusedSimpArgs false
theorem head_of {l : List Int} {lo : Int} (hp : l.Pairwise (· < ·)) (hm : lo ∈ l) (hb : ∀ e ∈ l, lo ≤ e) : l.head? = some lo := by
  match l, hm with
  | a :: l, hm =>
    rcases List.mem_cons.1 hm with rfl | hm
    · rfl
    · have := (List.pairwise_cons.1 hp).1 lo hm
      have := hb a List.mem_cons_self
      omega
theorem last_of {l : List Int} {hi : Int} (hp : l.Pairwise (· < ·)) (hm : hi ∈ l) (hb : ∀ e ∈ l, e ≤ hi) : l.getLast? = some hi := by
  obtain ⟨a, b, rfl⟩ := List.append_of_mem hm
  match b with
  | [] => simp
  | c :: b =>
    have h1 := (List.pairwise_cons.1 (List.pairwise_append.1 hp).2.1).1 c List.mem_cons_self
    have h2 := hb c (by simp)
    omega
theorem Cut.mk' {lo hi : Int} {E l : List Int} (hp : l.Pairwise (· < ·)) (hlo : lo ∈ l) (hhi : hi ∈ l) (hb : ∀ e ∈ l, lo ≤ e ∧ e ≤ hi) (hE : ∀ e ∈ E, lo < e → e < hi → e ∈ l) : Cut lo hi E l :=
  ⟨hp, head_of hp hlo fun e he => (hb e he).1, last_of hp hhi fun e he => (hb e he).2, hE⟩
theorem Cut.of_inner {lo hi : Int} {E l : List Int} (hlt : lo < hi) (hp : l.Pairwise (· < ·)) (hb : ∀ e ∈ l, lo < e ∧ e < hi) (hE : ∀ e ∈ E, lo < e → e < hi → e ∈ l) : Cut lo hi E (lo :: (l ++ [hi])) := by
  refine Cut.mk' ?_ (by simp) (by simp) ?_ (fun e he h1 h2 => by simp [hE e he h1 h2])
  · refine List.pairwise_cons.2 ⟨fun e he => ?_, List.pairwise_append.2 ⟨hp, by simp, fun e he f hf => ?_⟩⟩
    · rcases List.mem_append.1 he with he | he
      · exact (hb e he).1
      · simp at he; omega
    · simp at hf; have := (hb e he).2; omega
  · intro e he
    rcases List.mem_cons.1 he with rfl | he
    · omega
    · rcases List.mem_append.1 he with he | he
      · have := hb e he; omega
      · simp at he; omega
def ins (l : List Int) (n lo hi : Int) : List Int := if n ≤ lo ∨ n ≥ hi ∨ n ∈ l then l else l.takeWhile (· < n) ++ n :: l.dropWhile (· < n)
structure In (lo hi : Int) (l : List Int) : Prop where
  p : l.Pairwise (· < ·)
  b : ∀ e ∈ l, lo < e ∧ e < hi
theorem dropWhile_lt : ∀ (l : List Int) (n : Int), l.Pairwise (· < ·) → ∀ e ∈ l.dropWhile (· < n), n ≤ e
  | [], _, _, e, h => by simp at h
  | a :: l, n, hp, e, h => by
    rw [List.dropWhile_cons] at h
    split at h
    · exact dropWhile_lt l n (List.pairwise_cons.1 hp).2 e h
    · rename_i hn
      have hn : n ≤ a := by simpa using hn
      rcases List.mem_cons.1 h with rfl | h
      · exact hn
      · have := (List.pairwise_cons.1 hp).1 e h; omega
theorem takeWhile_lt : ∀ (l : List Int) (n : Int), ∀ e ∈ l.takeWhile (· < n), e < n
  | [], _, e, h => by simp at h
  | a :: l, n, e, h => by
    rw [List.takeWhile_cons] at h
    split at h
    · rename_i hn
      rcases List.mem_cons.1 h with rfl | h
      · simpa using hn
      · exact takeWhile_lt l n e h
    · simp at h
theorem ins_in {lo hi n : Int} {l : List Int} (h : In lo hi l) : In lo hi (ins l n lo hi) ∧ (∀ e, e ∈ ins l n lo hi ↔ e ∈ l ∨ e = n ∧ lo < n ∧ n < hi) := by
  unfold ins
  by_cases hc : n ≤ lo ∨ n ≥ hi ∨ n ∈ l
  · rw [if_pos hc]
    refine ⟨h, fun e => ⟨.inl, fun he => he.elim id fun ⟨e1, e2, e3⟩ => ?_⟩⟩
    rcases hc with hc | hc | hc
    · omega
    · omega
    · exact e1 ▸ hc
  · rw [if_neg hc]
    have h1 : lo < n := by rcases Classical.em (n ≤ lo) with q | q; exact absurd (.inl q) hc; omega
    have h2 : n < hi := by rcases Classical.em (n ≥ hi) with q | q; exact absurd (.inr (.inl q)) hc; omega
    have h3 : n ∉ l := fun q => hc (.inr (.inr q))
    have hm : ∀ e, e ∈ l.takeWhile (· < n) ++ n :: l.dropWhile (· < n) ↔ e ∈ l ∨ e = n := by
      intro e
      conv => rhs; rw [← List.takeWhile_append_dropWhile (p := fun x => decide (x < n)) (l := l)]
      simp only [List.mem_append, List.mem_cons]
      constructor
      · rintro (a | a | a)
        · exact .inl (.inl a)
        · exact .inr a
        · exact .inl (.inr a)
      · rintro ((a | a) | a)
        · exact .inl a
        · exact .inr (.inr a)
        · exact .inr (.inl a)
    refine ⟨⟨?_, fun e he => ?_⟩, fun e => (hm e).trans ⟨fun q => q.imp id fun q => ⟨q, h1, h2⟩, fun q => q.imp id (·.1)⟩⟩
    · have hw := h.p
      have hd := dropWhile_lt l n hw
      refine List.pairwise_append.2 ⟨hw.sublist (List.takeWhile_sublist _), List.pairwise_cons.2 ⟨fun e he => ?_, hw.sublist (List.dropWhile_sublist _)⟩, fun a ha b hb => ?_⟩
      · have q := hd e he
        have : e ≠ n := fun q => h3 (q ▸ (List.dropWhile_sublist _).subset he)
        omega
      · have q := takeWhile_lt l n a ha
        rcases List.mem_cons.1 hb with rfl | hb
        · exact q
        · have := hd b hb; omega
    · rcases (hm e).1 he with he | rfl
      · exact h.b e he
      · exact ⟨h1, h2⟩
def insAll (lo hi : Int) (l : List Int) : List (Int × Int) → List Int
  | [] => l
  | p :: ps => insAll lo hi (ins (ins l p.1 lo hi) p.2 lo hi) ps
theorem insAll_in {lo hi : Int} : ∀ (ps : List (Int × Int)) (l : List Int), In lo hi l → In lo hi (insAll lo hi l ps) ∧ ∀ e, e ∈ insAll lo hi l ps ↔ e ∈ l ∨ (e ∈ ps.map (·.1) ++ ps.map (·.2)) ∧ lo < e ∧ e < hi
  | [], l, h => ⟨h, fun e => by simp [insAll]⟩
  | p :: ps, l, h => by
    obtain ⟨h1, m1⟩ := ins_in (n := p.1) h
    obtain ⟨h2, m2⟩ := ins_in (n := p.2) h1
    obtain ⟨h3, m3⟩ := insAll_in ps _ h2
    refine ⟨h3, fun e => (m3 e).trans ?_⟩
    rw [m2, m1]
    simp only [List.map_cons, List.mem_append, List.mem_cons]
    constructor
    · rintro (((a | ⟨rfl, a⟩) | ⟨rfl, a⟩) | ⟨a, b⟩)
      · exact .inl a
      · exact .inr ⟨.inl (.inl rfl), a⟩
      · exact .inr ⟨.inr (.inl rfl), a⟩
      · exact .inr ⟨a.elim (fun q => .inl (.inr q)) (fun q => .inr (.inr q)), b⟩
    · rintro (a | ⟨(rfl | a) | (rfl | a), b⟩)
      · exact .inl (.inl (.inl a))
      · exact .inl (.inl (.inr ⟨rfl, b⟩))
      · exact .inr ⟨.inl a, b⟩
      · exact .inl (.inr ⟨rfl, b⟩)
      · exact .inr ⟨.inr a, b⟩
theorem insAll_cut {lo hi : Int} (hlt : lo < hi) (ps : List (Int × Int)) : Cut lo hi (ps.map (·.1) ++ ps.map (·.2)) (lo :: (insAll lo hi [] ps ++ [hi])) := by
  obtain ⟨h1, m1⟩ := insAll_in ps [] (⟨List.Pairwise.nil, fun _ h => absurd h (by simp)⟩ : In lo hi [])
  exact Cut.of_inner hlt h1.p h1.b fun e he a b => (m1 e).2 (.inr ⟨he, a, b⟩)
end Md
