import Derived.Test.YtkeomlmlimkebaaZRp1
namespace Rp
set_option linter.unusedVariables false
set_option linter.unusedSimpArgs false
section
variable (fit : Nat → List Int) (usr : Int → Option Nat) (fx : Nat → Bool)
def relax1 (i : Nat) (out : List Int) (x : Int) : List Int :=
  match usr x with
  | none => out.set i 1
  | some u => if u ≠ i ∧ fx u = false ∧ out.getD u 0 < 1000 then out.set i (min (out.getD i 0) (out.getD u 0 + 1)) else out
def relaxI (out : List Int) (i : Nat) : List Int := (fit i).foldl (relax1 usr fx i) out
def roundL (N : Nat) (out : List Int) : List Int := (List.range N).foldl (relaxI fit usr fx) out
def lensL (N : Nat) : Nat → List Int
  | 0 => List.replicate N 1000
  | r + 1 => roundL fit usr fx N (lensL N r)
def Sd (N : Nat) (out : List Int) : Prop := out.length = N ∧ ∀ i, i < N → out.getD i 0 = 1000 ∨ ∃ n : Nat, out.getD i 0 = (n : Int) + 1 ∧ Way fit usr fx n i
def Le (N : Nat) (a b : List Int) : Prop := ∀ i, i < N → b.getD i 0 ≤ a.getD i 0
variable {fit usr fx}
theorem getD_set (l : List Int) (i j : Nat) (v : Int) (h : i < l.length) : (l.set i v).getD j 0 = if i = j then v else l.getD j 0 := by
  simp only [List.getD_eq_getElem?_getD, List.getElem?_set]
  by_cases e : i = j
  · subst e; simp [h]
  · simp [e]
theorem Le.refl (N : Nat) (a : List Int) : Le N a a := fun _ _ => Int.le_refl _
theorem Le.trans {N : Nat} {a b c : List Int} (h : Le N a b) (h2 : Le N b c) : Le N a c := fun i hi => Int.le_trans (h2 i hi) (h i hi)
theorem relax1_ok {N : Nat} {out : List Int} (hS : Sd fit usr fx N out) {i : Nat} (hi : i < N) {x : Int} (hx : x ∈ fit i) (hb : ∀ x u, usr x = some u → u < N) :
    Sd fit usr fx N (relax1 usr fx i out x) ∧ Le N out (relax1 usr fx i out x) := by
  obtain ⟨hl, hS⟩ := hS
  unfold relax1
  cases hu : usr x with
  | none =>
    refine ⟨⟨by simp [hl], fun j hj => ?_⟩, fun j hj => ?_⟩
    · rw [getD_set _ _ _ _ (by omega)]
      split
      · rename_i e; subst e
        exact Or.inr ⟨0, by simp, .zero ⟨x, hx, hu⟩⟩
      · exact hS j hj
    · rw [getD_set _ _ _ _ (by omega)]
      split
      · rename_i e; subst e
        rcases hS i hi with h | ⟨n, h, _⟩ <;> omega
      · exact Int.le_refl _
  | some u =>
    dsimp only
    split
    · rename_i h
      obtain ⟨h1, h2, h3⟩ := h
      have hw : ∃ n : Nat, out.getD u 0 + 1 = (n : Int) + 1 ∧ Way fit usr fx n i := by
        rcases hS u (hb _ _ hu) with h | ⟨n, h, hw⟩
        · omega
        · exact ⟨n + 1, by omega, .succ hx (by simp [nf, hu, h2]) hw⟩
      refine ⟨⟨by simp [hl], fun j hj => ?_⟩, fun j hj => ?_⟩
      · rw [getD_set _ _ _ _ (by omega)]
        split
        · rename_i e; subst e
          rcases Int.le_total (out.getD i 0) (out.getD u 0 + 1) with h | h
          · rw [Int.min_eq_left h]; exact hS i hi
          · rw [Int.min_eq_right h]; exact Or.inr hw
        · exact hS j hj
      · rw [getD_set _ _ _ _ (by omega)]
        split
        · rename_i e; subst e
          exact Int.min_le_left _ _
        · exact Int.le_refl _
    · exact ⟨⟨hl, hS⟩, Le.refl _ _⟩
theorem fold1_ok {N : Nat} {i : Nat} (hi : i < N) (hb : ∀ x u, usr x = some u → u < N) : ∀ (l : List Int) (out : List Int), (∀ x ∈ l, x ∈ fit i) → Sd fit usr fx N out → Sd fit usr fx N (l.foldl (relax1 usr fx i) out) ∧ Le N out (l.foldl (relax1 usr fx i) out)
  | [], out, _, h => ⟨h, Le.refl _ _⟩
  | x :: l, out, hm, h => by
    have h1 := relax1_ok h hi (hm x (by simp)) hb
    have h2 := fold1_ok hi hb l _ (fun y hy => hm y (by simp [hy])) h1.1
    exact ⟨h2.1, h1.2.trans h2.2⟩
theorem fold1_get {N : Nat} {i n : Nat} (hi : i < N) (hb : ∀ x u, usr x = some u → u < N) (hn : n + 1 < 1000) : ∀ (l : List Int) (out : List Int), (∀ x ∈ l, x ∈ fit i) → Sd fit usr fx N out → ∀ x ∈ l,
    (usr x = none → (l.foldl (relax1 usr fx i) out).getD i 0 ≤ 1) ∧ (∀ u, nf usr fx x = some u → u ≠ i → out.getD u 0 ≤ (n : Int) + 1 → (l.foldl (relax1 usr fx i) out).getD i 0 ≤ (n : Int) + 2)
  | [], out, _, h, x, hx => by simp at hx
  | y :: l, out, hm, h, x, hx => by
    have h1 := relax1_ok h hi (hm y (by simp)) hb
    have h2 := fold1_ok hi hb l _ (fun y hy => hm y (by simp [hy])) h1.1
    rcases List.mem_cons.1 hx with rfl | hx
    · constructor
      · intro hu
        refine Int.le_trans (h2.2 i hi) ?_
        unfold relax1
        rw [hu]
        show (out.set i 1).getD i 0 ≤ 1
        rw [getD_set _ _ _ _ (by have := h.1; omega)]
        simp
      · intro u hu hne hle
        refine Int.le_trans (h2.2 i hi) ?_
        unfold nf at hu
        unfold relax1
        cases hus : usr x with
        | none => rw [hus] at hu; simp at hu
        | some v =>
          rw [hus] at hu
          simp at hu
          obtain ⟨hf, rfl⟩ := hu
          show (if v ≠ i ∧ fx v = false ∧ out.getD v 0 < 1000 then out.set i (min (out.getD i 0) (out.getD v 0 + 1)) else out).getD i 0 ≤ _
          rw [if_pos ⟨hne, hf, by omega⟩, getD_set _ _ _ _ (by have := h.1; omega), if_pos rfl]
          have := Int.min_le_right (out.getD i 0) (out.getD v 0 + 1)
          omega
    · have h3 := fold1_get hi hb hn l _ (fun y hy => hm y (by simp [hy])) h1.1 x hx
      exact ⟨h3.1, fun u hu hne hle => h3.2 u hu hne (Int.le_trans (h1.2 u (by
        unfold nf at hu
        cases hus : usr x with
        | none => rw [hus] at hu; simp at hu
        | some v => rw [hus] at hu; simp at hu; obtain ⟨_, rfl⟩ := hu; exact hb _ _ hus)) hle)⟩
def Done (fit : Nat → List Int) (usr : Int → Option Nat) (fx : Nat → Bool) (N r : Nat) (out : List Int) : Prop := ∀ n i, n < r → i < N → Way fit usr fx n i → out.getD i 0 ≤ (n : Int) + 1
theorem Done.le {N r : Nat} {a b : List Int} (h : Done fit usr fx N r a) (hl : Le N a b) : Done fit usr fx N r b := fun n i hn hi hw => Int.le_trans (hl i hi) (h n i hn hi hw)
theorem nf_lt {N : Nat} (hb : ∀ x u, usr x = some u → u < N) {x : Int} {u : Nat} (hu : nf usr fx x = some u) : u < N := by
  unfold nf at hu
  cases hus : usr x with
  | none => rw [hus] at hu; simp at hu
  | some v => rw [hus] at hu; simp at hu; obtain ⟨_, rfl⟩ := hu; exact hb _ _ hus
theorem fold2_ok {N r : Nat} (hr : r < 990) (hb : ∀ x u, usr x = some u → u < N) : ∀ (l : List Nat) (out : List Int), (∀ i ∈ l, i < N) → Sd fit usr fx N out → Done fit usr fx N r out →
    Sd fit usr fx N (l.foldl (relaxI fit usr fx) out) ∧ Le N out (l.foldl (relaxI fit usr fx) out) ∧ ∀ i ∈ l, ∀ n, n ≤ r → Way fit usr fx n i → (l.foldl (relaxI fit usr fx) out).getD i 0 ≤ (n : Int) + 1
  | [], out, _, h, _ => ⟨h, Le.refl _ _, by simp⟩
  | j :: l, out, hm, h, hd => by
    have hj := hm j (by simp)
    have h1 := fold1_ok hj hb (fit j) out (fun _ h => h) h
    have h2 := fold2_ok hr hb l (relaxI fit usr fx out j) (fun y hy => hm y (by simp [hy])) h1.1 (hd.le h1.2)
    refine ⟨h2.1, h1.2.trans h2.2.1, fun i hi n hn hw => ?_⟩
    rcases List.mem_cons.1 hi with rfl | hi
    · refine Int.le_trans (h2.2.1 i hj) ?_
      by_cases hnr : n < r
      · exact Int.le_trans (h1.2 i hj) (hd n i hnr hj hw)
      · cases hw with
        | zero ht =>
          obtain ⟨x, hx, hu⟩ := ht
          have := (fold1_get (n := 0) hj hb (by omega) (fit i) out (fun _ h => h) h x hx).1 hu
          exact Int.le_trans this (by omega)
        | succ hx hnf hw' =>
          rename_i m u x
          have hu := nf_lt hb hnf
          by_cases hne : u = i
          · subst hne
            have h3 := hd m u (by omega) hj hw'
            exact Int.le_trans (h1.2 u hj) (by omega)
          · have := (fold1_get (n := m) hj hb (by omega) (fit i) out (fun _ h => h) h x hx).2 u hnf hne (hd m u (by omega) hu hw')
            exact Int.le_trans this (by omega)
    · exact h2.2.2 i hi n hn hw
theorem lens_ok {N : Nat} (hb : ∀ x u, usr x = some u → u < N) : ∀ r, r < 990 → Sd fit usr fx N (lensL fit usr fx N r) ∧ Done fit usr fx N r (lensL fit usr fx N r)
  | 0, _ => ⟨⟨by simp [lensL], fun i hi => Or.inl (by simp [lensL, List.getD_eq_getElem?_getD, List.getElem?_replicate, hi])⟩, fun n i h => absurd h (by omega)⟩
  | r + 1, hr => by
    have h := lens_ok hb r (by omega)
    have h1 := fold2_ok (r := r) (by omega) hb (List.range N) _ (fun i hi => by simpa using hi) h.1 h.2
    exact ⟨h1.1, fun n i hn hi hw => h1.2.2 i (by simpa using hi) n (by omega) hw⟩
def MW (fit : Nat → List Int) (usr : Int → Option Nat) (fx : Nat → Bool) (n i : Nat) : Prop := Way fit usr fx n i ∧ ∀ m, m < n → ¬ Way fit usr fx m i
theorem MW.of {i : Nat} : ∀ n, Way fit usr fx n i → ∃ m, m ≤ n ∧ MW fit usr fx m i := by
  intro n
  induction n using Nat.strongRecOn with
  | ind n ih =>
    intro hw
    by_cases h : ∃ m, m < n ∧ Way fit usr fx m i
    · obtain ⟨m, h1, h2⟩ := h
      obtain ⟨k, h3, h4⟩ := ih m h1 h2
      exact ⟨k, by omega, h4⟩
    · exact ⟨n, Nat.le_refl _, hw, fun m hm hw' => h ⟨m, hm, hw'⟩⟩
theorem MW.inj {i n m : Nat} (h : MW fit usr fx n i) (h2 : MW fit usr fx m i) : n = m := by
  have h3 : ¬ m < n := fun h3 => h.2 m h3 h2.1
  have h4 : ¬ n < m := fun h4 => h2.2 n h4 h.1
  omega
theorem MW.list {N : Nat} (hb : ∀ x u, usr x = some u → u < N) : ∀ n i, i < N → MW fit usr fx n i → ∃ l : List Int, l.length = n + 1 ∧ l.Nodup ∧ (∀ v ∈ l, 0 ≤ v ∧ v < (N : Int)) ∧ ∀ v ∈ l, ∃ j, j ≤ n ∧ MW fit usr fx j v.toNat
  | 0, i, hi, h => ⟨[(i : Int)], rfl, by simp, fun v hv => by simp at hv; omega, fun v hv => by
      simp at hv; subst hv; exact ⟨0, Nat.le_refl _, h⟩⟩
  | n + 1, i, hi, h => by
    have hw := h.1
    cases hw with
    | succ hx hnf hw' =>
      rename_i u x
      have hu : MW fit usr fx n u := ⟨hw', fun m hm hw2 => h.2 (m + 1) (by omega) (.succ hx hnf hw2)⟩
      obtain ⟨l, h1, h2, h3, h4⟩ := MW.list hb n u (nf_lt hb hnf) hu
      refine ⟨(i : Int) :: l, by simp [h1], List.nodup_cons.2 ⟨fun hm => ?_, h2⟩, fun v hv => ?_, fun v hv => ?_⟩
      · obtain ⟨j, hj, hm'⟩ := h4 _ hm
        have := hm'.inj (by simpa using h)
        omega
      · rcases List.mem_cons.1 hv with rfl | hv
        · omega
        · exact h3 v hv
      · rcases List.mem_cons.1 hv with rfl | hv
        · exact ⟨n + 1, Nat.le_refl _, by simpa using h⟩
        · obtain ⟨j, hj, hm⟩ := h4 v hv
          exact ⟨j, by omega, hm⟩
theorem MW.lt {N : Nat} (hb : ∀ x u, usr x = some u → u < N) {n i : Nat} (hi : i < N) (h : MW fit usr fx n i) : n < N := by
  obtain ⟨l, h1, h2, h3, _⟩ := MW.list hb n i hi h
  have := nodup_len N l h2 h3
  omega
theorem lens_is {N : Nat} (hN : N ≤ 64) (hb : ∀ x u, usr x = some u → u < N) (i : Nat) (hi : i < N) :
    (∃ n : Nat, MW fit usr fx n i ∧ n < N ∧ (lensL fit usr fx N N).getD i 0 = (n : Int) + 1) ∨ ((lensL fit usr fx N N).getD i 0 = 1000 ∧ ∀ n, ¬ Way fit usr fx n i) := by
  have h := lens_ok (fit := fit) (fx := fx) hb N (by omega)
  by_cases hw : ∃ n, Way fit usr fx n i
  · obtain ⟨n, hw⟩ := hw
    obtain ⟨m, _, hm⟩ := MW.of n hw
    have hmN := hm.lt hb hi
    have h1 := h.2 m i hmN hi hm.1
    refine Or.inl ⟨m, hm, hmN, ?_⟩
    rcases h.1.2 i hi with h2 | ⟨k, h2, h3⟩
    · omega
    · have h4 : ¬ k < m := fun h4 => hm.2 k h4 h3
      omega
  · refine Or.inr ⟨?_, fun n hn => hw ⟨n, hn⟩⟩
    rcases h.1.2 i hi with h2 | ⟨k, _, h3⟩
    · exact h2
    · exact (hw ⟨k, h3⟩).elim
def goodP (usr : Int → Option Nat) (fx : Nat → Bool) (d : List Int) (s : Nat) (x : Int) : Bool :=
  match usr x with
  | none => d.getD s 0 == 1
  | some u => decide (1 < d.getD s 0) && decide (u ≠ s) && !fx u && (d.getD u 0 == d.getD s 0 - 1)
def Greedy (fit : Nat → List Int) (usr : Int → Option Nat) (fx : Nat → Bool) (d : List Int) : Nat → List (Nat × Int) → Prop
  | s, [] => False
  | s, [(t, x)] => s = t ∧ usr x = none ∧ (fit s).find? (goodP usr fx d s) = some x
  | s, (t, x) :: L => s = t ∧ ∃ u, usr x = some u ∧ (fit s).find? (goodP usr fx d s) = some x ∧ Greedy fit usr fx d u L
theorem find_first {p : Int → Bool} : ∀ {l : List Int} {x : Int}, l.Pairwise (· < ·) → x ∈ l → p x = true → (∀ y ∈ l, y < x → p y = false) → l.find? p = some x
  | [], x, _, hx, _, _ => by simp at hx
  | y :: l, x, hs, hx, hp, hn => by
    rw [List.pairwise_cons] at hs
    rcases List.mem_cons.1 hx with rfl | hx
    · simp [hp]
    · rw [List.find?_cons, hn y (by simp) (hs.1 x hx)]
      exact find_first hs.2 hx hp (fun z hz h => hn z (by simp [hz]) h)
theorem Dn.greedy {s0 a N : Nat} {xf : Int} {done : List Int} {T : List (Int × Nat)} (hN : N ≤ 64) (hb : ∀ x u, usr x = some u → u < N) (hsort : ∀ s, (fit s).Pairwise (· < ·)) (hI : Inv fit usr fx s0 a done T) (hs0 : s0 < N)
    {sf : Nat} (hsf : (Qu usr fx s0 T)[a]? = some sf) (hxf : xf ∈ fit sf) (hu : usr xf = none) (hfirst : ∀ y ∈ fit sf, y < xf → ∃ u, usr y = some u) {i : Nat} {L : List (Nat × Int)} (h : Dn (usr := usr) (fx := fx) s0 a xf T i L) :
    ∀ s : Nat, (Qu usr fx s0 T)[i]? = some s → Greedy fit usr fx (lensL fit usr fx N N) s L := by
  have hQ : ∀ (i s : Nat), (Qu usr fx s0 T)[i]? = some s → s < N := by
    intro i s hs
    have hm := List.mem_of_getElem? hs
    unfold Qu fm at hm
    rcases List.mem_cons.1 hm with rfl | hm
    · exact hs0
    · obtain ⟨e, _, he⟩ := List.mem_filterMap.1 hm
      exact nf_lt hb he
  have len_of : ∀ {i s n : Nat} {L : List (Nat × Int)}, (Qu usr fx s0 T)[i]? = some s → Dn (usr := usr) (fx := fx) s0 a xf T i L → (lensL fit usr fx N N).getD s 0 = (L.length : Int) := by
    intro i s _ L hs hd
    obtain ⟨t, ht, n, hn, hw⟩ := hd.way hI hsf hxf hu
    rw [hs] at ht
    obtain rfl := Option.some.inj ht
    rcases lens_is (fit := fit) (fx := fx) hN hb s (hQ i s hs) with ⟨m, hm, _, h2⟩ | ⟨_, h2⟩
    · have h3 := hd.least hI hs hm.1
      have h4 : ¬ n < m := fun h4 => hm.2 n h4 hw
      omega
    · exact (h2 n hw).elim
  induction h with
  | last hs =>
    rename_i s'
    intro s hs2
    rw [hs2] at hs
    obtain rfl := Option.some.inj hs
    rw [hs2] at hsf
    obtain rfl := Option.some.inj hsf
    have hl := len_of (n := 0) hs2 (.last hs2)
    refine ⟨rfl, hu, find_first (hsort s) hxf ?_ (fun y hy hlt => ?_)⟩
    · unfold goodP; rw [hu]; dsimp only; rw [hl]; rfl
    · obtain ⟨u, hyu⟩ := hfirst y hy hlt
      unfold goodP
      rw [hyu]
      simp only [List.length_singleton] at hl
      dsimp only
      rw [hl]
      simp
  | step hc hs hd ih =>
    rename_i i i' s' x L
    intro s hs2
    rw [hs2] at hs
    obtain rfl := Option.some.inj hs
    obtain ⟨u, hnf, hg⟩ := hc.get
    have hl := len_of (n := 0) hs2 (.step hc hs2 hd)
    have hlu := len_of (n := 0) hg hd
    have hxs : x ∈ fit s := by
      obtain ⟨A, B, v, hT, hv, _⟩ := hc
      obtain ⟨s2, h2, h3⟩ := hI.fits _ (by rw [hT]; exact List.mem_append_right _ (List.mem_cons_self ..))
      rw [hs2] at h2
      obtain rfl := Option.some.inj h2
      exact h3
    have hxu : usr x = some u ∧ fx u = false := by
      unfold nf at hnf
      cases hus : usr x with
      | none => rw [hus] at hnf; simp at hnf
      | some v => rw [hus] at hnf; simp at hnf; exact ⟨by rw [hnf.2], by rw [← hnf.2]; exact hnf.1⟩
    have hLpos : 0 < L.length := by cases hd <;> simp
    have hsu : u ≠ s := by
      intro e
      subst e
      rw [hl] at hlu
      simp at hlu
      omega
    have hfind : (fit s).find? (goodP usr fx (lensL fit usr fx N N) s) = some x := by
      refine find_first (hsort s) hxs ?_ (fun y hy hlt => ?_)
      · unfold goodP
        rw [hxu.1]
        simp only [List.length_cons] at hl
        dsimp only
        rw [hl, hlu]
        simp [hxu.2, hsu]
        omega
      · cases hg2 : goodP usr fx (lensL fit usr fx N N) s y with
        | false => rfl
        | true =>
          exfalso
          unfold goodP at hg2
          cases hyu : usr y with
          | none =>
            rw [hyu] at hg2
            simp only [List.length_cons] at hl
            dsimp only at hg2
            rw [hl] at hg2
            simp at hg2
            omega
          | some v =>
            rw [hyu] at hg2
            simp only [Bool.and_eq_true, decide_eq_true_eq, Bool.not_eq_true', beq_iff_eq] at hg2
            obtain ⟨⟨⟨g1, g2⟩, g3⟩, g4⟩ := hg2
            simp only [List.length_cons] at hl
            rcases lens_is (fit := fit) (fx := fx) hN hb v (hb _ _ hyu) with ⟨m, hm, _, h2⟩ | ⟨h2, _⟩
            · exact Dn.first hI hc hs2 hd hy hlt (by simp [nf, hyu, g3]) hm.1 (by omega)
            · have := hI.nd
              have hLl : (lensL fit usr fx N N).getD s 0 < 1000 := by
                rcases lens_is (fit := fit) (fx := fx) hN hb s (hQ i s hs2) with ⟨m, hm, h5, h6⟩ | ⟨_, h6⟩
                · omega
                · obtain ⟨t, ht, n, hn, hw⟩ := (Dn.step hc hs2 hd).way hI hsf hxf hu
                  rw [hs2] at ht
                  obtain rfl := Option.some.inj ht
                  exact (h6 n hw).elim
              omega
    have hgr := ih u hg
    cases L with
    | nil => simp at hLpos
    | cons e L => exact ⟨rfl, u, hxu.1, hfind, hgr⟩
end
end Rp
