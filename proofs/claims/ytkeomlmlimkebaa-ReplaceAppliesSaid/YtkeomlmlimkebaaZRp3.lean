import Derived.Test.YtkeomlmlimkebaaZRp2
namespace Rp
set_option linter.unusedVariables false
set_option linter.unusedSimpArgs false
def mgetR (M : List (Int × Int)) (x : Int) : Option Int := (M.reverse.find? fun e => e.1 == x).map (·.2)
theorem mgetR_snoc (M : List (Int × Int)) (x y v : Int) : mgetR (M ++ [(x, v)]) y = if x = y then some v else mgetR M y := by
  unfold mgetR
  simp only [List.reverse_append, List.reverse_cons, List.reverse_nil, List.nil_append, List.singleton_append, List.find?_cons]
  by_cases h : x = y
  · simp [h]
  · simp [beq_eq_false_iff_ne.2 h, h]
def idxI (l : List Int) (x : Int) : Int := if x ∈ l then (l.idxOf x : Int) else -1
structure St where
  m : List (Int × Int)
  q : List Int
  p : List Int
def scanS (uses : List Int) (fixed : List Bool) (s : Int) : List Int → St → Option (Sum (Int × List (Int × Int)) St)
  | [], t => some (.inr t)
  | x :: row, t =>
    if (mgetR t.m x).isSome then scanS uses fixed s row t
    else if idxI uses x < 0 then some (.inl (x, t.m ++ [(x, s)]))
    else if idxI uses x < fixed.length then
      (if fixed.getD (idxI uses x).toNat false = true then scanS uses fixed s row ⟨t.m ++ [(x, s)], t.q, t.p ++ [x]⟩ else scanS uses fixed s row ⟨t.m ++ [(x, s)], t.q ++ [idxI uses x], t.p ++ [x]⟩)
    else none
def bfsS (fits : List (List Int)) (uses : List Int) (fixed : List Bool) : Nat → Nat → St → Option (Sum (Int × List (Int × Int)) St)
  | 0, _, _ => none
  | k + 1, a, t =>
    if a < t.q.length then
      (if 0 ≤ t.q.getD a 0 then (if t.q.getD a 0 < fits.length then
        (match scanS uses fixed (t.q.getD a 0) (fits.getD (t.q.getD a 0).toNat []) t with
        | none => none
        | some (.inl r) => some (.inl r)
        | some (.inr t') => bfsS fits uses fixed k (a + 1) t') else none) else none)
    else some (.inr t)
def upS (uses : List Int) (M : List (Int × Int)) (stone : Int) : Nat → Int → List (Int × Int × Int) → Option (List (Int × Int × Int))
  | 0, _, _ => none
  | k + 1, x, acc =>
    if 0 ≤ (mgetR M x).getD 0 then (if (mgetR M x).getD 0 < uses.length then
      (if (mgetR M x).getD 0 = stone then some (acc ++ [((mgetR M x).getD 0, uses.getD ((mgetR M x).getD 0).toNat 0, x)]).reverse
       else upS uses M stone k (uses.getD ((mgetR M x).getD 0).toNat 0) (acc ++ [((mgetR M x).getD 0, uses.getD ((mgetR M x).getD 0).toNat 0, x)])) else none) else none
section
variable (fits : List (List Int)) (uses : List Int) (fixed : List Bool)
def fitF (s : Nat) : List Int := fits.getD s []
def usrF (x : Int) : Option Nat := if x ∈ uses then some (uses.idxOf x) else none
def fxF (u : Nat) : Bool := fixed.getD u false
structure PlanOk (P : Nat) : Prop where
  n1 : uses.length = fits.length
  n2 : fixed.length = fits.length
  n3 : fits.length ≤ 64
  inc : ∀ s, (fitF fits s).Pairwise (· < ·)
  rng : ∀ s, ∀ x ∈ fitF fits s, 0 ≤ x ∧ x < (P : Int)
  p64 : P ≤ 64
variable {fits uses fixed}
theorem usr_lt {x : Int} {u : Nat} (h : usrF uses x = some u) : u < uses.length ∧ uses.getD u 0 = x := by
  unfold usrF at h
  split at h
  · rename_i hm
    obtain rfl := Option.some.inj h
    have h1 := List.idxOf_lt_length_iff.2 hm
    refine ⟨h1, ?_⟩
    rw [List.getD_eq_getElem?_getD, List.getElem?_eq_getElem h1]
    simp
  · cases h
theorem usr_idx (x : Int) : idxI uses x = match usrF uses x with | some u => (u : Int) | none => -1 := by
  unfold idxI usrF
  split <;> rfl
abbrev QF (uses : List Int) (fixed : List Bool) (s0 : Nat) (T : List (Int × Nat)) : List Nat := Qu (usrF uses) (fxF fixed) s0 T
structure Sim (uses : List Int) (fixed : List Bool) (s0 : Nat) (T : List (Int × Nat)) (t : St) : Prop where
  q : t.q = (QF uses fixed s0 T).map (fun u : Nat => (u : Int))
  p : t.p = T.map (·.1)
  m1 : ∀ x, (mgetR t.m x).isSome = true ↔ x ∈ T.map (·.1)
  m2 : ∀ e ∈ T, ∃ s : Nat, (QF uses fixed s0 T)[e.2]? = some s ∧ mgetR t.m e.1 = some (s : Int)
theorem Sim.start (uses : List Int) (fixed : List Bool) (s0 : Nat) : Sim uses fixed s0 [] ⟨[], [(s0 : Int)], []⟩ :=
  ⟨rfl, rfl, fun x => by simp [mgetR], by simp⟩
theorem Sim.put {s0 a s : Nat} {T : List (Int × Nat)} {t : St} (h : Sim uses fixed s0 T t) {x : Int} (hs : (QF uses fixed s0 T)[a]? = some s) (hx : x ∉ T.map (·.1)) :
    ∀ t' : St, t'.m = t.m ++ [(x, (s : Int))] → t'.q = t.q ++ (match nf (usrF uses) (fxF fixed) x with | some u => [(u : Int)] | none => []) → t'.p = t.p ++ [x] → Sim uses fixed s0 (T ++ [(x, a)]) t' := by
  rintro ⟨m', q', p'⟩ h1 h2 h3
  dsimp only at h1 h2 h3
  subst h1 h2 h3
  refine ⟨?_, ?_, ?_, ?_⟩
  · show t.q ++ _ = _
    have e1 : QF uses fixed s0 (T ++ [(x, a)]) = QF uses fixed s0 T ++ fm (usrF uses) (fxF fixed) [(x, a)] := Qu_app _ _ _
    rw [h.q, e1, List.map_append]
    congr 1
    unfold fm
    cases hn : nf (usrF uses) (fxF fixed) x with
    | none => simp [hn]
    | some u => simp [hn]
  · show t.p ++ [x] = _
    rw [h.p]; simp
  · intro y
    show (mgetR (t.m ++ [(x, (s : Int))]) y).isSome = true ↔ _
    rw [mgetR_snoc, List.map_append]
    by_cases e : x = y
    · subst e; simp
    · rw [if_neg e, h.m1 y]
      simp only [List.map_cons, List.map_nil, List.mem_append, List.mem_singleton]
      constructor
      · exact fun z => Or.inl z
      · rintro (z | z)
        · exact z
        · exact (e z.symm).elim
  · intro e he
    show ∃ s' : Nat, _ ∧ mgetR (t.m ++ [(x, (s : Int))]) e.1 = some (s' : Int)
    rcases List.mem_append.1 he with he | he
    · obtain ⟨s', h4, h5⟩ := h.m2 e he
      refine ⟨s', Qu_get _ h4, ?_⟩
      rw [mgetR_snoc, if_neg, h5]
      intro e2
      exact hx (by rw [e2]; exact List.mem_map_of_mem he)
    · obtain rfl := List.mem_singleton.1 he
      exact ⟨s, Qu_get _ hs, by rw [mgetR_snoc, if_pos rfl]⟩
theorem scan_is {P s0 a s : Nat} (hP : PlanOk fits uses fixed P) (hlt : s < fits.length) : ∀ (row done : List Int) (T : List (Int × Nat)) (t : St), fitF fits s = done ++ row → (QF uses fixed s0 T)[a]? = some s → Inv (fitF fits) (usrF uses) (fxF fixed) s0 a done T → Sim uses fixed s0 T t →
    (∃ xf T' m', scanS uses fixed (s : Int) row t = some (.inl (xf, m')) ∧ (QF uses fixed s0 T')[a]? = some s ∧ (∃ done', Inv (fitF fits) (usrF uses) (fxF fixed) s0 a done' T') ∧ xf ∈ fitF fits s ∧ usrF uses xf = none ∧ xf ∉ T'.map (·.1) ∧
      (∀ y ∈ fitF fits s, y < xf → ∃ u, usrF uses y = some u) ∧ mgetR m' xf = some (s : Int) ∧ (∀ e ∈ T', ∃ s' : Nat, (QF uses fixed s0 T')[e.2]? = some s' ∧ mgetR m' e.1 = some (s' : Int))) ∨
    (∃ T' t', scanS uses fixed (s : Int) row t = some (.inr t') ∧ (QF uses fixed s0 T')[a]? = some s ∧ Inv (fitF fits) (usrF uses) (fxF fixed) s0 a (fitF fits s) T' ∧ Sim uses fixed s0 T' t') := by
  intro row
  induction row with
  | nil =>
    intro done T t hd hs hI hS
    rw [List.append_nil] at hd
    exact Or.inr ⟨T, t, rfl, hs, by rw [hd]; exact hI, hS⟩
  | cons x row ih =>
    intro done T t hd hs hI hS
    have hd' : fitF fits s = (done ++ [x]) ++ row := by rw [hd]; simp
    have hsort := hP.inc s
    rw [hd] at hsort
    have hsort' := List.pairwise_append.1 hsort
    have hlt2 : ∀ y ∈ done, y < x := fun y hy => hsort'.2.2 y hy x (by simp)
    have hxs : x ∈ fitF fits s := by rw [hd]; simp
    unfold scanS
    by_cases hseen : x ∈ T.map (·.1)
    · rw [if_pos ((hS.m1 x).2 hseen)]
      exact ih (done ++ [x]) T t hd' hs (hI.seen hseen) hS
    · have hns : ¬ (mgetR t.m x).isSome = true := fun h => hseen ((hS.m1 x).1 h)
      rw [if_neg hns]
      cases hu : usrF uses x with
      | none =>
        have hi : idxI uses x = -1 := by rw [usr_idx, hu]
        rw [hi, if_pos (by omega)]
        refine Or.inl ⟨x, T, _, rfl, hs, ⟨done, hI⟩, hxs, hu, hseen, fun y hy hyx => ?_, by rw [mgetR_snoc, if_pos rfl], fun e he => ?_⟩
        · rw [hd] at hy
          rcases List.mem_append.1 hy with hy | hy
          · obtain ⟨j, _, hm⟩ := hI.cov2 y hy
            exact hI.used _ hm
          · have := hsort'.2.1
            rw [List.pairwise_cons] at this
            rcases List.mem_cons.1 hy with rfl | hy
            · omega
            · have := this.1 y hy; omega
        · obtain ⟨s', h4, h5⟩ := hS.m2 e he
          refine ⟨s', h4, ?_⟩
          rw [mgetR_snoc, if_neg, h5]
          intro e2
          exact hseen (by rw [e2]; exact List.mem_map_of_mem he)
      | some u =>
        have hul := (usr_lt hu).1
        have hi : idxI uses x = (u : Int) := by rw [usr_idx, hu]
        rw [hi, if_neg (by omega), if_pos (by have := hP.n1; have := hP.n2; omega)]
        have hI' := hI.fresh hs hseen hxs hlt2 hu
        have hsq : (QF uses fixed s0 (T ++ [(x, a)]))[a]? = some s := Qu_get _ hs
        rw [Int.toNat_natCast]
        by_cases hf : fixed.getD u false = true
        · rw [if_pos hf]
          exact ih (done ++ [x]) _ _ hd' hsq hI' (hS.put hs hseen _ rfl (by
            have : nf (usrF uses) (fxF fixed) x = none := by unfold nf fxF; rw [hu]; simp only [Option.bind_some]; rw [hf]; rfl
            rw [this]; simp) rfl)
        · rw [if_neg hf]
          have hf' : fixed.getD u false = false := by simpa using hf
          exact ih (done ++ [x]) _ _ hd' hsq hI' (hS.put hs hseen _ rfl (by
            have : nf (usrF uses) (fxF fixed) x = some u := by unfold nf fxF; rw [hu]; simp only [Option.bind_some]; rw [hf']; rfl
            rw [this]) rfl)
theorem nodup_Q {s0 a : Nat} {done : List Int} {T : List (Int × Nat)} (hs0 : ∀ x, usrF uses x = some s0 → x < 0) (hT : ∀ e ∈ T, 0 ≤ e.1) (hI : Inv (fitF fits) (usrF uses) (fxF fixed) s0 a done T) : (QF uses fixed s0 T).Nodup := by
  have key : ∀ {x : Int} {u : Nat}, nf (usrF uses) (fxF fixed) x = some u → usrF uses x = some u := by
    intro x u h
    unfold nf at h
    cases hus : usrF uses x with
    | none => rw [hus] at h; simp at h
    | some v => rw [hus] at h; simp at h; rw [h.2]
  refine List.nodup_cons.2 ⟨fun hm => ?_, ?_⟩
  · obtain ⟨e, he, h2⟩ := List.mem_filterMap.1 hm
    have := hs0 _ (key h2)
    have := hT e he
    omega
  · have hnd := hI.nd
    unfold fm
    clear hI
    induction T with
    | nil => simp
    | cons e T ih =>
      rw [List.map_cons, List.nodup_cons] at hnd
      rw [List.filterMap_cons]
      have ih' := ih (fun e he => hT e (by simp [he])) hnd.2
      cases hn : nf (usrF uses) (fxF fixed) e.1 with
      | none => exact ih'
      | some u =>
        refine List.nodup_cons.2 ⟨fun hm => ?_, ih'⟩
        obtain ⟨e2, he2, h2⟩ := List.mem_filterMap.1 hm
        have h3 := (usr_lt (key hn)).2
        have h4 := (usr_lt (key h2)).2
        rw [h3] at h4
        exact hnd.1 (by rw [h4]; exact List.mem_map_of_mem he2)
theorem Q_lt {s0 : Nat} {T : List (Int × Nat)} (h0 : s0 < uses.length) {i s : Nat} (hs : (QF uses fixed s0 T)[i]? = some s) : s < uses.length := by
  have hm := List.mem_of_getElem? hs
  rcases List.mem_cons.1 hm with rfl | hm
  · exact h0
  · obtain ⟨e, _, h2⟩ := List.mem_filterMap.1 hm
    exact nf_lt (fun x u h => (usr_lt h).1) h2
theorem bfs_is {P s0 : Nat} (hP : PlanOk fits uses fixed P) (h0 : s0 < fits.length) (hs0 : ∀ x, usrF uses x = some s0 → x < 0) : ∀ (m a : Nat) (T : List (Int × Nat)) (t : St), 65 ≤ a + m → a ≤ (QF uses fixed s0 T).length → Inv (fitF fits) (usrF uses) (fxF fixed) s0 a [] T → Sim uses fixed s0 T t →
    (∃ xf a' s T' m', bfsS fits uses fixed (m + 1) a t = some (.inl (xf, m')) ∧ (QF uses fixed s0 T')[a']? = some s ∧ (∃ done', Inv (fitF fits) (usrF uses) (fxF fixed) s0 a' done' T') ∧ xf ∈ fitF fits s ∧ usrF uses xf = none ∧ xf ∉ T'.map (·.1) ∧
      (∀ y ∈ fitF fits s, y < xf → ∃ u, usrF uses y = some u) ∧ mgetR m' xf = some (s : Int) ∧ (∀ e ∈ T', ∃ s' : Nat, (QF uses fixed s0 T')[e.2]? = some s' ∧ mgetR m' e.1 = some (s' : Int))) ∨
    (∃ T' t', bfsS fits uses fixed (m + 1) a t = some (.inr t') ∧ Inv (fitF fits) (usrF uses) (fxF fixed) s0 (QF uses fixed s0 T').length [] T' ∧ Sim uses fixed s0 T' t') := by
  have bound : ∀ {a : Nat} {done : List Int} {T : List (Int × Nat)}, Inv (fitF fits) (usrF uses) (fxF fixed) s0 a done T → (QF uses fixed s0 T).length ≤ 64 := by
    intro a done T hI
    have hT : ∀ e ∈ T, 0 ≤ e.1 := fun e he => by obtain ⟨s, _, h2⟩ := hI.fits e he; exact (hP.rng s _ h2).1
    have h1 := nodup_Q hs0 hT hI
    have h2 := nodup_len uses.length ((QF uses fixed s0 T).map (fun u : Nat => (u : Int))) (by
      rw [List.nodup_iff_pairwise_ne] at h1 ⊢
      rw [List.pairwise_map]
      exact h1.imp (fun h e => h (by omega))) (fun x hx => by
        obtain ⟨u, hu, rfl⟩ := List.mem_map.1 hx
        obtain ⟨i, hi⟩ := List.getElem?_of_mem hu
        have := Q_lt (uses := uses) (fixed := fixed) (by have := hP.n1; omega) hi
        omega)
    rw [List.length_map] at h2
    have := hP.n1
    have := hP.n3
    omega
  intro m
  induction m with
  | zero =>
    intro a T t hm ha hI hS
    have := bound hI
    omega
  | succ m ih =>
    intro a T t hm ha hI hS
    have hql : t.q.length = (QF uses fixed s0 T).length := by rw [hS.q]; simp
    unfold bfsS
    by_cases hlt : a < t.q.length
    · have hlt' := hlt
      rw [hql] at hlt'
      obtain ⟨s, hs⟩ : ∃ s, (QF uses fixed s0 T)[a]? = some s := ⟨_, List.getElem?_eq_getElem hlt'⟩
      have hqa : t.q.getD a 0 = (s : Int) := by rw [hS.q, List.getD_eq_getElem?_getD, List.getElem?_map, hs]; rfl
      have hsl := Q_lt (uses := uses) (fixed := fixed) (by have := hP.n1; omega) hs
      have hsf : s < fits.length := by have := hP.n1; omega
      rw [if_pos hlt, hqa, if_pos (by omega), if_pos (by omega), Int.toNat_natCast]
      rcases scan_is (a := a) (s0 := s0) hP hsf (fits.getD s []) [] T t rfl hs hI hS with ⟨xf, T', m', h1, h2, h3, h4⟩ | ⟨T', t', h1, h2, h3, h4⟩
      · rw [h1]
        exact Or.inl ⟨xf, a, s, T', m', rfl, h2, h3, h4⟩
      · rw [h1]
        have ha' := (List.getElem?_eq_some_iff.1 h2).1
        exact ih (a + 1) T' t' (by omega) ha' (h3.next h2) h4
    · rw [if_neg hlt]
      have e : a = (QF uses fixed s0 T).length := by omega
      exact Or.inr ⟨T, t, rfl, by rw [← e]; exact hI, hS⟩
def chs (uses : List Int) (L : List (Nat × Int)) : List (Int × Int × Int) := L.map fun e => ((e.1 : Int), uses.getD e.1 0, e.2)
theorem up_is {P s0 a : Nat} {xf : Int} {done : List Int} {T : List (Int × Nat)} {M : List (Int × Int)} (hP : PlanOk fits uses fixed P) (h0 : s0 < fits.length) (hs0 : ∀ x, usrF uses x = some s0 → x < 0) (hI : Inv (fitF fits) (usrF uses) (fxF fixed) s0 a done T)
    (hM : ∀ e ∈ T, ∃ s' : Nat, (QF uses fixed s0 T)[e.2]? = some s' ∧ mgetR M e.1 = some (s' : Int)) : ∀ (k i : Nat) (x : Int) (s : Nat) (L : List (Nat × Int)) (acc : List (Int × Int × Int)), i < k → (QF uses fixed s0 T)[i]? = some s → mgetR M x = some (s : Int) →
    Dn (usr := usrF uses) (fx := fxF fixed) s0 a xf T i ((s, x) :: L) → acc.reverse = chs uses L → ∃ L', Dn (usr := usrF uses) (fx := fxF fixed) s0 a xf T 0 L' ∧ upS uses M (s0 : Int) k x acc = some (chs uses L') := by
  intro k
  induction k with
  | zero => intro i x s L acc hk; omega
  | succ k ih =>
    intro i x s L acc hk hs hm hd hacc
    have hsl := Q_lt (uses := uses) (fixed := fixed) (by have := hP.n1; omega) hs
    unfold upS
    rw [hm]
    simp only [Option.getD_some, Int.toNat_natCast]
    rw [if_pos (by omega), if_pos (by omega)]
    have hrev : (acc ++ [((s : Int), uses.getD s 0, x)]).reverse = chs uses ((s, x) :: L) := by
      rw [List.reverse_append, hacc]; rfl
    by_cases hi : i = 0
    · subst hi
      have e : s = s0 := by
        have : (QF uses fixed s0 T)[0]? = some s0 := rfl
        rw [this] at hs
        exact (Option.some.inj hs).symm
      subst e
      rw [if_pos rfl]
      exact ⟨_, hd, by rw [hrev]⟩
    · have hil := (List.getElem?_eq_some_iff.1 hs).1
      obtain ⟨j, y, hc⟩ := node_child (usr := usrF uses) (fx := fxF fixed) (s0 := s0) T i (by omega) hil
      obtain ⟨u, hnf, hg⟩ := hc.get
      rw [show (Qu (usrF uses) (fxF fixed) s0 T)[i]? = some s from hs] at hg
      obtain rfl := Option.some.inj hg
      have hus : usrF uses y = some s := by
        unfold nf at hnf
        cases hus : usrF uses y with
        | none => rw [hus] at hnf; simp at hnf
        | some v => rw [hus] at hnf; simp at hnf; rw [hnf.2]
      have hmem : (y, j) ∈ T := by
        obtain ⟨A, B, v, hT, _⟩ := hc
        rw [hT]; simp
      obtain ⟨s', h2, h3⟩ := hI.fits _ hmem
      have hy0 := (hP.rng s' y h3).1
      have hne : s ≠ s0 := fun e => by
        subst e
        have := hs0 y hus
        omega
      rw [if_neg (by omega), (usr_lt hus).2]
      obtain ⟨s2, h4, h5⟩ := hM _ hmem
      have e2 : s2 = s' := by
        rw [show (Qu (usrF uses) (fxF fixed) s0 T)[(y, j).2]? = some s2 from h4] at h2
        exact Option.some.inj h2
      subst e2
      have hlt := hc.lt hI
      obtain ⟨L', h6, h7⟩ := ih j y s2 ((s, x) :: L) (acc ++ [((s : Int), uses.getD s 0, x)]) (by omega) h4 h5 (.step hc h4 hd) hrev
      refine ⟨L', h6, ?_⟩
      rw [← h7, (usr_lt hus).2]
end
end Rp
