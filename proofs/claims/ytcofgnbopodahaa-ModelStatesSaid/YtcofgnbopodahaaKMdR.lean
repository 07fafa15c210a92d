
namespace Mr
def insU (a : List UInt8) (out : List (List UInt8)) : List (List UInt8) := if a ∈ out then out else out.takeWhile (fun x => decide (x < a)) ++ a :: out.dropWhile (fun x => decide (x < a))
theorem tri {a b : List UInt8} (h : ¬ a < b) (hne : a ≠ b) : b < a := by
  have h1 : b ≤ a := List.not_lt.1 h
  rcases List.le_iff_lt_or_eq.1 h1 with h2 | h2
  · exact h2
  · exact absurd h2.symm hne
theorem takeW (a : List UInt8) : ∀ (l : List (List UInt8)), ∀ e ∈ l.takeWhile (fun x => decide (x < a)), e < a
  | [], e, he => by simp at he
  | b :: l, e, he => by
    by_cases hb : b < a
    · rw [List.takeWhile_cons_of_pos (by simpa using hb)] at he
      rcases List.mem_cons.1 he with rfl | he
      · exact hb
      · exact takeW a l e he
    · rw [List.takeWhile_cons_of_neg (by simpa using hb)] at he; simp at he
theorem dropW (a : List UInt8) : ∀ (l : List (List UInt8)), l.Pairwise (· < ·) → a ∉ l → ∀ e ∈ l.dropWhile (fun x => decide (x < a)), a < e
  | [], _, _, e, he => by simp at he
  | b :: l, hp, hn, e, he => by
    by_cases hb : b < a
    · rw [List.dropWhile_cons_of_pos (by simpa using hb)] at he
      exact dropW a l (List.pairwise_cons.1 hp).2 (fun h => hn (List.mem_cons_of_mem _ h)) e he
    · rw [List.dropWhile_cons_of_neg (by simpa using hb)] at he
      have hab : a < b := tri hb (fun h => hn (by rw [h]; exact List.mem_cons_self))
      rcases List.mem_cons.1 he with rfl | he
      · exact hab
      · exact List.lt_trans hab ((List.pairwise_cons.1 hp).1 e he)
theorem insU_spec {a : List UInt8} {l : List (List UInt8)} (hp : l.Pairwise (· < ·)) : (insU a l).Pairwise (· < ·) ∧ ∀ e, e ∈ insU a l ↔ e ∈ l ∨ e = a := by
  unfold insU
  by_cases h : a ∈ l
  · rw [if_pos h]
    exact ⟨hp, fun e => ⟨.inl, fun h' => h'.elim id (fun e' => e' ▸ h)⟩⟩
  · rw [if_neg h]
    have e0 := List.takeWhile_append_dropWhile (p := fun x : List UInt8 => decide (x < a)) (l := l)
    have hp2 : (l.takeWhile (fun x => decide (x < a)) ++ l.dropWhile (fun x => decide (x < a))).Pairwise (· < ·) := by rw [e0]; exact hp
    obtain ⟨p1, p2, p3⟩ := List.pairwise_append.1 hp2
    refine ⟨List.pairwise_append.2 ⟨p1, List.pairwise_cons.2 ⟨dropW a l hp h, p2⟩, fun x hx y hy => ?_⟩, fun e => ?_⟩
    · rcases List.mem_cons.1 hy with rfl | hy
      · exact takeW _ l x hx
      · exact p3 x hx y hy
    · have : e ∈ l ↔ e ∈ l.takeWhile (fun x => decide (x < a)) ∨ e ∈ l.dropWhile (fun x => decide (x < a)) := by
        rw [← List.mem_append, e0]
      rw [List.mem_append, List.mem_cons, this]
      constructor
      · rintro (h | rfl | h)
        · exact .inl (.inl h)
        · exact .inr rfl
        · exact .inl (.inr h)
      · rintro ((h | h) | rfl)
        · exact .inl h
        · exact .inr (.inr h)
        · exact .inr (.inl rfl)
def refF : List (List UInt8) → List (List UInt8) → List (List UInt8)
  | [], out => out
  | a :: l, out => refF l (insU a out)
theorem refF_spec : ∀ (l out : List (List UInt8)), out.Pairwise (· < ·) → (refF l out).Pairwise (· < ·) ∧ ∀ e, e ∈ refF l out ↔ e ∈ out ∨ e ∈ l
  | [], out, h => ⟨h, fun e => by simp [refF]⟩
  | a :: l, out, h => by
    obtain ⟨h1, h2⟩ := insU_spec (a := a) h
    obtain ⟨h3, h4⟩ := refF_spec l (insU a out) h1
    refine ⟨h3, fun e => ?_⟩
    show e ∈ refF l (insU a out) ↔ _
    rw [h4, h2, List.mem_cons, or_assoc]
theorem nodup_of {l : List (List UInt8)} (h : l.Pairwise (· < ·)) : l.Nodup := h.imp fun {a b} hab e => by subst e; exact List.lt_irrefl _ hab
theorem sorted_eq {l m : List (List UInt8)} (hl : l.Pairwise (· ≤ ·)) (hn : l.Nodup) (hm : m.Pairwise (· < ·)) (h : ∀ e, e ∈ l ↔ e ∈ m) : l = m := by
  refine List.Perm.eq_of_pairwise (le := fun x y : List UInt8 => x ≤ y) (fun a b _ _ h1 h2 => List.le_antisymm h1 h2) hl (hm.imp fun {a b} h => List.le_of_lt h) ?_
  exact (List.perm_ext_iff_of_nodup hn (nodup_of hm)).2 h
end Mr
