/-
  Hulls: directions, the chain of a sorted list, the next corner.
-/
import Derived.Test.YtcembjgpcbodcaaZPg2
namespace Go.Proofs.Ytcembjgpcbodcaa.Hl
open Go.RowKit Go.Proofs.Ytcembjgpcbodcaa.QA
set_option linter.unusedVariables false
set_option linter.unusedSimpArgs false
/-! vectors to the right -/
def cr (ux uy vx vy : Int) : Int := ux * vy - uy * vx
def Rt (x y : Int) : Prop := 0 < x ∨ x = 0 ∧ 0 < y
theorem cr_id (ux uy vx vy wx wy : Int) : cr ux uy wx wy * vx = cr ux uy vx vy * wx + cr vx vy wx wy * ux := by unfold cr; grind
theorem pos_of_mul {a b : Int} (h : 0 < a * b) (hb : 0 ≤ b) : 0 < a := by
  apply Classical.byContradiction
  intro hn
  have := Int.mul_nonneg (show 0 ≤ -a by omega) hb
  rw [Int.neg_mul] at this
  omega
/-- The order of directions to the right. -/
theorem cr_trans {ux uy vx vy wx wy : Int} (hu : Rt ux uy) (hv : Rt vx vy) (hw : Rt wx wy) (h1 : 0 ≤ cr ux uy vx vy) (h2 : 0 ≤ cr vx vy wx wy) (h3 : 0 < cr ux uy vx vy ∨ 0 < cr vx vy wx wy) : 0 < cr ux uy wx wy := by
  have id := cr_id ux uy vx vy wx wy
  have hux : 0 ≤ ux := by rcases hu with h | h <;> omega
  have hwx : 0 ≤ wx := by rcases hw with h | h <;> omega
  rcases hv with hv | ⟨rfl, hvy⟩
  · have m1 := Int.mul_nonneg h1 hwx
    have m2 := Int.mul_nonneg h2 hux
    refine pos_of_mul (b := vx) ?_ (by omega)
    rw [id]
    rcases h3 with h3 | h3
    · rcases hw with hw0 | ⟨rfl, hwy⟩
      · have := Int.mul_pos h3 hw0; omega
      · have e : cr vx vy 0 wy = vx * wy := by unfold cr; omega
        have h2' : 0 < cr vx vy 0 wy := by rw [e]; exact Int.mul_pos hv hwy
        rcases hu with hu0 | ⟨rfl, huy⟩
        · have := Int.mul_pos h2' hu0; omega
        · have e2 : cr 0 uy vx vy = -(uy * vx) := by unfold cr; omega
          have := Int.mul_pos huy hv
          omega
    · rcases hu with hu0 | ⟨rfl, huy⟩
      · have := Int.mul_pos h3 hu0; omega
      · have e2 : cr 0 uy vx vy = -(uy * vx) := by unfold cr; omega
        have := Int.mul_pos huy hv
        omega
  · have e1 : cr ux uy 0 vy = ux * vy := by unfold cr; omega
    have e2 : cr 0 vy wx wy = -(vy * wx) := by unfold cr; omega
    rw [e1] at h1 h3
    rw [e2] at h2 h3
    have hw0 : wx = 0 := by
      apply Classical.byContradiction
      intro hn
      have := Int.mul_pos hvy (show 0 < wx by omega)
      omega
    subst hw0
    have hwy : 0 < wy := by rcases hw with h | h <;> omega
    have e3 : cr ux uy 0 wy = ux * wy := by unfold cr; omega
    rw [e3]
    rcases h3 with h3 | h3
    · exact Int.mul_pos (pos_of_mul h3 (by omega)) hwy
    · rw [Int.mul_zero] at h3; omega
theorem cr_trans0 {ux uy vx vy wx wy : Int} (hu : Rt ux uy) (hv : Rt vx vy) (hw : Rt wx wy) (h1 : 0 ≤ cr ux uy vx vy) (h2 : 0 ≤ cr vx vy wx wy) : 0 ≤ cr ux uy wx wy := by
  by_cases h3 : 0 < cr ux uy vx vy ∨ 0 < cr vx vy wx wy
  · exact Int.le_of_lt (cr_trans hu hv hw h1 h2 h3)
  · have e1 : cr ux uy vx vy = 0 := by omega
    have e2 : cr vx vy wx wy = 0 := by omega
    have id := cr_id ux uy vx vy wx wy
    have id2 : cr ux uy wx wy * vy = cr ux uy vx vy * wy + cr vx vy wx wy * uy := by unfold cr; grind
    rw [e1, e2, Int.zero_mul, Int.zero_mul] at id id2
    rcases hv with hv | ⟨rfl, hvy⟩
    · rcases Int.mul_eq_zero.1 (by omega : cr ux uy wx wy * vx = 0) with h | h <;> omega
    · rcases Int.mul_eq_zero.1 (by omega : cr ux uy wx wy * vy = 0) with h | h <;> omega
/-! points -/
def D (a b c : S23) : Int := (b.f0 - a.f0) * (c.f1 - a.f1) - (b.f1 - a.f1) * (c.f0 - a.f0)
def lt (a b : S23) : Prop := a.f0 < b.f0 ∨ a.f0 = b.f0 ∧ a.f1 < b.f1
theorem lt_rt {a b : S23} (h : lt a b) : Rt (b.f0 - a.f0) (b.f1 - a.f1) := by unfold lt at h; unfold Rt; omega
theorem lt_trans {a b c : S23} (h1 : lt a b) (h2 : lt b c) : lt a c := by unfold lt at *; omega
theorem lt_irrefl (a : S23) : ¬ lt a a := by unfold lt; omega
theorem lt_tri (a b : S23) : lt a b ∨ a = b ∨ lt b a := by
  obtain ⟨a0, a1⟩ := a
  obtain ⟨b0, b1⟩ := b
  by_cases h : a0 = b0 ∧ a1 = b1
  · obtain ⟨rfl, rfl⟩ := h; exact .inr (.inl rfl)
  · unfold lt; simp only; omega
theorem D_cr (a b c : S23) : D a b c = cr (b.f0 - a.f0) (b.f1 - a.f1) (c.f0 - a.f0) (c.f1 - a.f1) := rfl
theorem D_12 (a b c : S23) : D a b c = cr (b.f0 - a.f0) (b.f1 - a.f1) (c.f0 - b.f0) (c.f1 - b.f1) := by unfold D cr; grind
theorem D_rot (a b c : S23) : D b c a = D a b c := by unfold D; grind
theorem D_swap (a b c : S23) : D b a c = - D a b c := by unfold D; grind
theorem D_swap2 (a b c : S23) : D a c b = - D a b c := by unfold D; grind
theorem D_aab (a b : S23) : D a a b = 0 := by unfold D; grind
theorem D_abb (a b : S23) : D a b b = 0 := by unfold D; grind
theorem D_aba (a b : S23) : D a b a = 0 := by unfold D; grind
theorem cr_neg (ux uy vx vy : Int) : cr vx vy ux uy = - cr ux uy vx vy := by unfold cr; grind
/-- Left turns go on: a, b, c, d from left to right. -/
theorem turn4 {a b c d : S23} (h1 : lt a b) (h2 : lt b c) (h3 : lt c d) (t1 : 0 < D a b c) (t2 : 0 ≤ D b c d) : 0 < D a b d := by
  rw [D_12] at t1 t2
  have t3 := cr_trans (lt_rt h1) (lt_rt h2) (lt_rt h3) (Int.le_of_lt t1) t2 (.inl t1)
  have e : D a b d = cr (b.f0 - a.f0) (b.f1 - a.f1) (c.f0 - b.f0) (c.f1 - b.f1) + cr (b.f0 - a.f0) (b.f1 - a.f1) (d.f0 - c.f0) (d.f1 - c.f1) := by unfold D cr; grind
  omega
/-- A point to the left of a chain's last corner. -/
theorem back4 {k l p q : S23} (h1 : lt k l) (h2 : lt l p) (h3 : lt q l) (t1 : 0 < D k l p) (t2 : 0 ≤ D k l q) : 0 < D l p q := by
  have r := cr_trans (ux := l.f0 - q.f0) (uy := l.f1 - q.f1) (lt_rt h3) (lt_rt h1) (lt_rt h2) (by
    have e : cr (l.f0 - q.f0) (l.f1 - q.f1) (l.f0 - k.f0) (l.f1 - k.f1) = D k l q := by unfold D cr; grind
    omega) (by rw [← D_12]; omega) (.inr (by rw [← D_12]; exact t1))
  have e : D l p q = cr (l.f0 - q.f0) (l.f1 - q.f1) (p.f0 - l.f0) (p.f1 - l.f1) := by unfold D cr; grind
  omega
/-- A point behind a corner that falls. -/
theorem fall4 {l m p q : S23} (h1 : lt l m) (h2 : lt l p) (h3 : lt l q) (t1 : D l m p ≤ 0) (t2 : 0 ≤ D l m q) : 0 ≤ D l p q := by
  have r := cr_trans0 (lt_rt h2) (lt_rt h1) (lt_rt h3) (by rw [cr_neg, ← D_cr]; omega) (by rw [← D_cr]; exact t2)
  rwa [← D_cr] at r
/-! the chain: a stack, its top first -/
def pop : List S23 → S23 → List S23
  | m :: l :: st, p => if D l m p ≤ 0 then pop (l :: st) p else m :: l :: st
  | st, _ => st
def chain (st : List S23) (l : List S23) : List S23 := l.foldl (fun st p => p :: pop st p) st
/-- A good stack over the points S. -/
def Good (S : List S23) : List S23 → Prop
  | m :: l :: st => lt l m ∧ (∀ q ∈ S, 0 ≤ D l m q) ∧ (match st with | k :: _ => 0 < D k l m | [] => True) ∧ l ∈ S ∧ m ∈ S ∧ Good S (l :: st)
  | [a] => a ∈ S ∧ ∀ q ∈ S, a = q ∨ lt a q
  | [] => True
theorem good_pop (S : List S23) (p : S23) (hp : ∀ q ∈ S, lt q p) : ∀ (st : List S23) (h : S23), Good S (h :: st) → (∀ q ∈ S, lt h q → 0 ≤ D h p q) →
    ∃ h' st', pop (h :: st) p = h' :: st' ∧ Good S (h' :: st') ∧ (∀ q ∈ S, lt h' q → 0 ≤ D h' p q) ∧ (match st' with | k :: _ => 0 < D k h' p | [] => True)
  | [], h, hg, hq => ⟨h, [], rfl, hg, hq, trivial⟩
  | l :: st, m, hg, hq => by
    obtain ⟨g1, g2, g3, g4, g5, g6⟩ := hg
    rw [pop]
    by_cases hd : D l m p ≤ 0
    · rw [if_pos hd]
      exact good_pop S p hp st l g6 (fun q hqS hlq => fall4 g1 (hp l g4) hlq hd (g2 q hqS))
    · rw [if_neg hd]
      exact ⟨m, l :: st, rfl, ⟨g1, g2, g3, g4, g5, g6⟩, hq, by show 0 < D l m p; omega⟩
theorem good_more (S : List S23) (p : S23) (hp : ∀ q ∈ S, lt q p) : ∀ (st : List S23) (h : S23), Good S (h :: st) → (match st with | k :: _ => 0 < D k h p | [] => True) → Good (S ++ [p]) (h :: st)
  | [], a, hg, _ => ⟨by simp [hg.1], fun q hq => by
      rcases List.mem_append.1 hq with hq | hq
      · exact hg.2 q hq
      · rw [List.mem_singleton.1 hq]; exact .inr (hp a hg.1)⟩
  | l :: st, m, hg, ht => by
    obtain ⟨g1, g2, g3, g4, g5, g6⟩ := hg
    refine ⟨g1, fun q hq => ?_, g3, by simp [g4], by simp [g5], good_more S p hp st l g6 ?_⟩
    · rcases List.mem_append.1 hq with hq | hq
      · exact g2 q hq
      · rw [List.mem_singleton.1 hq]; exact Int.le_of_lt ht
    · match st, g3, g6 with
      | [], _, _ => trivial
      | k :: st', g3, g6 => exact turn4 g6.1 g1 (hp m g5) g3 (Int.le_of_lt ht)
theorem good_push (S : List S23) (p : S23) (hp : ∀ q ∈ S, lt q p) (st : List S23) (h : S23) (hg : Good S (h :: st)) (hmax : ∀ q ∈ S, q = h ∨ lt q h) : Good (S ++ [p]) (p :: pop (h :: st) p) := by
  obtain ⟨h', st', e, g, hq, ht⟩ := good_pop S p hp st h hg (fun q hqS hl => by
    rcases hmax q hqS with rfl | hh
    · exact absurd hl (lt_irrefl _)
    · exact absurd (lt_trans hl hh) (lt_irrefl _))
  rw [e]
  have hm : h' ∈ S := by
    match st', g with
    | [], g => exact g.1
    | _ :: _, g => exact g.2.2.2.2.1
  refine ⟨hp h' hm, fun q hqS => ?_, ?_, by simp [hm], by simp, good_more S p hp st' h' g ht⟩
  · rcases List.mem_append.1 hqS with hqS | hqS
    · rcases lt_tri h' q with hl | rfl | hl
      · exact hq q hqS hl
      · rw [D_aba]; exact Int.le_refl _
      · match st', g, ht with
        | [], g, _ =>
          rcases g.2 q hqS with rfl | hh
          · exact absurd hl (lt_irrefl _)
          · exact absurd (lt_trans hl hh) (lt_irrefl _)
        | k :: st'', g, ht => exact Int.le_of_lt (back4 g.1 (hp h' hm) hl ht (g.2.1 q hqS))
    · rw [List.mem_singleton.1 hqS, D_abb]; exact Int.le_refl _
  · match st', ht with
    | [], _ => trivial
    | k :: _, ht => exact ht
theorem good_chain : ∀ (l S st : List S23) (h : S23), Good S (h :: st) → (∀ q ∈ S, q = h ∨ lt q h) → (h :: l).Pairwise lt →
    ∃ h' st', chain (h :: st) l = h' :: st' ∧ Good (S ++ l) (h' :: st') ∧ (∀ q ∈ S ++ l, q = h' ∨ lt q h') ∧ h' = (h :: l).getLast (by simp)
  | [], S, st, h, hg, hm, _ => ⟨h, st, rfl, by simpa using hg, by simpa using hm, rfl⟩
  | p :: l, S, st, h, hg, hm, hs => by
    obtain ⟨h1, h2⟩ := List.pairwise_cons.1 hs
    have hlt := h1 p (by simp)
    have hp : ∀ q ∈ S, lt q p := fun q hq => by
      rcases hm q hq with rfl | hh
      · exact hlt
      · exact lt_trans hh hlt
    have hg2 := good_push S p hp st h hg hm
    have hm2 : ∀ q ∈ S ++ [p], q = p ∨ lt q p := fun q hq => by
      rcases List.mem_append.1 hq with hq | hq
      · exact .inr (hp q hq)
      · exact .inl (List.mem_singleton.1 hq)
    obtain ⟨h', st', e1, e2, e3, e4⟩ := good_chain l (S ++ [p]) (pop (h :: st) p) p hg2 hm2 h2
    refine ⟨h', st', e1, ?_, ?_, ?_⟩
    · rw [List.append_assoc] at e2; exact e2
    · rw [List.append_assoc] at e3; exact e3
    · rw [e4]; exact (List.getLast_cons (by simp)).symm
theorem good_of (a : S23) (l : List S23) (hs : (a :: l).Pairwise lt) : ∃ h st, chain [] (a :: l) = h :: st ∧ Good (a :: l) (h :: st) ∧ (∀ q ∈ a :: l, q = h ∨ lt q h) ∧ h = (a :: l).getLast (by simp) := by
  have := good_chain l [a] [] a ⟨by simp, by simp⟩ (by simp) hs
  exact this
/-! what an edge of a chain is -/
def Edge (S : List S23) (l m : S23) : Prop := lt l m ∧ l ∈ S ∧ m ∈ S ∧ ∀ q ∈ S, 0 ≤ D l m q ∧ (D l m q = 0 → (q = l ∨ lt l q) ∧ (q = m ∨ lt q m))
def Edges (S : List S23) : List S23 → Prop
  | m :: l :: st => Edge S l m ∧ Edges S (l :: st)
  | _ => True
theorem good_edges (S : List S23) : ∀ (st : List S23) (m : S23), Good S (m :: st) → (match st with | l :: _ => (∀ q ∈ S, D l m q = 0 → q = m ∨ lt q m) | [] => True) → Edges S (m :: st)
  | [], m, _, _ => trivial
  | l :: st, m, hg, ht => by
    obtain ⟨g1, g2, g3, g4, g5, g6⟩ := hg
    refine ⟨⟨g1, g4, g5, fun q hq => ⟨g2 q hq, fun h0 => ⟨?_, ht q hq h0⟩⟩⟩, good_edges S st l g6 ?_⟩
    · rcases lt_tri l q with h | h | h
      · exact .inr h
      · exact .inl h.symm
      · exfalso
        match st, g3, g6 with
        | [], _, g6 =>
          rcases g6.2 q hq with rfl | hh
          · exact lt_irrefl _ h
          · exact lt_irrefl _ (lt_trans h hh)
        | k :: st', g3, g6 =>
          have := back4 g6.1 g1 h g3 (g6.2.1 q hq)
          omega
    · match st, g3, g6 with
      | [], _, _ => trivial
      | k :: st', g3, g6 =>
        intro q hq h0
        rcases lt_tri q l with h | h | h
        · exact .inr h
        · exact .inl h
        · exfalso
          by_cases hmq : lt m q
          · have := turn4 g6.1 g1 hmq g3 (g2 q hq)
            omega
          · have e : D k l q = cr (l.f0 - k.f0) (l.f1 - k.f1) (q.f0 - l.f0) (q.f1 - l.f1) := D_12 k l q
            have t1 : 0 < cr (l.f0 - k.f0) (l.f1 - k.f1) (m.f0 - l.f0) (m.f1 - l.f1) := by rw [← D_12]; exact g3
            have := cr_trans (lt_rt g6.1) (lt_rt g1) (lt_rt h) (Int.le_of_lt t1) (by rw [← D_cr]; exact g2 q hq) (.inl t1)
            omega
/-! the other way round -/
def neg (p : S23) : S23 := ⟨-p.f0, -p.f1⟩
theorem neg_neg (p : S23) : neg (neg p) = p := by unfold neg; simp
theorem neg_inj {p q : S23} (h : neg p = neg q) : p = q := by rw [← neg_neg p, h, neg_neg]
theorem D_neg (a b c : S23) : D (neg a) (neg b) (neg c) = D a b c := by unfold D neg; grind
theorem lt_neg (a b : S23) : lt (neg a) (neg b) ↔ lt b a := by unfold lt neg; simp only; omega
theorem pop_neg (p : S23) : ∀ st : List S23, (pop st p).map neg = pop (st.map neg) (neg p)
  | [] => rfl
  | [a] => rfl
  | m :: l :: st => by
    have ih := pop_neg p (l :: st)
    rw [List.map_cons, List.map_cons, pop, pop, D_neg]
    by_cases h : D l m p ≤ 0
    · rw [if_pos h, if_pos h, ih]; rfl
    · rw [if_neg h, if_neg h]; rfl
theorem chain_neg : ∀ (l st : List S23), (chain st l).map neg = chain (st.map neg) (l.map neg)
  | [], st => rfl
  | p :: l, st => by
    have ih := chain_neg l (p :: pop st p)
    rw [List.map_cons, pop_neg] at ih
    exact ih
/-- How far, squared. -/
def far (a b : S23) : Int := (a.f0 - b.f0) * (a.f0 - b.f0) + (a.f1 - b.f1) * (a.f1 - b.f1)
theorem far_neg (a b : S23) : far (neg a) (neg b) = far a b := by unfold far neg; grind
theorem sq_lt {a b : Int} (h0 : 0 ≤ a) (h : a < b) : a * a < b * b := by
  have h1 := Int.mul_le_mul_of_nonneg_left (show a ≤ b by omega) h0
  have h2 := Int.mul_lt_mul_of_pos_right h (show 0 < b by omega)
  omega
theorem far_lt {a q c : S23} (h1 : lt a q) (h2 : lt q c) (h0 : D a c q = 0) : far a q < far a c := by
  have e1 : far a q = (q.f0 - a.f0) * (q.f0 - a.f0) + (q.f1 - a.f1) * (q.f1 - a.f1) := by unfold far; grind
  have e2 : far a c = (c.f0 - a.f0) * (c.f0 - a.f0) + (c.f1 - a.f1) * (c.f1 - a.f1) := by unfold far; grind
  rw [e1, e2]
  unfold D at h0
  unfold lt at h1 h2
  generalize hbx : q.f0 - a.f0 = bx at *
  generalize hby : q.f1 - a.f1 = bY at *
  generalize hwx : c.f0 - a.f0 = wx at *
  generalize hwy : c.f1 - a.f1 = wy at *
  have b0 : 0 ≤ bx := by omega
  have b1 : bx ≤ wx := by omega
  by_cases hw : wx = 0
  · have hb : bx = 0 := by omega
    have k1 : 0 < bY := by omega
    have k2 : bY < wy := by omega
    have := sq_lt (by omega) k2
    rw [hw, hb]; omega
  · have hlt : bx < wx := by
      apply Classical.byContradiction
      intro hn
      have he : bx = wx := by omega
      rw [he] at h0
      have h0' : wx * (bY - wy) = 0 := by rw [Int.mul_sub]; have := Int.mul_comm wx wy; omega
      rcases Int.mul_eq_zero.1 h0' with h | h
      · omega
      · omega
    have hf : 0 < wx * wx + wy * wy := by
      have := Int.mul_pos (show 0 < wx by omega) (show 0 < wx by omega)
      have : 0 ≤ wy * wy := by
        rcases Int.le_total 0 wy with h | h
        · exact Int.mul_nonneg h h
        · have := Int.mul_nonneg (show 0 ≤ -wy by omega) (show 0 ≤ -wy by omega)
          rw [Int.neg_mul_neg] at this
          exact this
      omega
    have key : (wx * wx) * (bx * bx + bY * bY) = (bx * bx) * (wx * wx + wy * wy) := by
      have h3 : wx * bY = wy * bx := by omega
      have h4 : (wx * bY) * (wx * bY) = (wy * bx) * (wy * bx) := by rw [h3]
      grind
    have hsq := sq_lt b0 hlt
    apply Classical.byContradiction
    intro hn
    have g1 := Int.mul_lt_mul_of_pos_right hsq hf
    have hwp := Int.mul_pos (show 0 < wx by omega) (show 0 < wx by omega)
    have g2 := Int.mul_le_mul_of_nonneg_left (show wx * wx + wy * wy ≤ bx * bx + bY * bY by omega) (Int.le_of_lt hwp)
    omega
/-- Between two others, from left to right or from right to left. -/
def Bt (a q c : S23) : Prop := lt a q ∧ lt q c ∨ lt c q ∧ lt q a
theorem bt_neg {a q c : S23} (h : Bt (neg a) (neg q) (neg c)) : Bt a q c := by
  unfold Bt at *
  rw [lt_neg, lt_neg, lt_neg, lt_neg] at h
  rcases h with h | h
  · exact .inr ⟨h.2, h.1⟩
  · exact .inl ⟨h.2, h.1⟩
theorem far_bt {a q c : S23} (h : Bt a q c) (h0 : D a c q = 0) : far a q < far a c := by
  rcases h with ⟨h1, h2⟩ | ⟨h1, h2⟩
  · exact far_lt h1 h2 h0
  · rw [← far_neg a q, ← far_neg a c]
    exact far_lt ((lt_neg _ _).2 h2) ((lt_neg _ _).2 h1) (by rw [D_neg]; exact h0)
/-- The next corner. -/
def NE (S : List S23) (a c : S23) : Prop := a ≠ c ∧ a ∈ S ∧ c ∈ S ∧ ∀ q ∈ S, 0 ≤ D a c q ∧ (D a c q = 0 → q = a ∨ q = c ∨ Bt a q c)
theorem edge_ne {S : List S23} {l m : S23} (h : Edge S l m) : NE S l m := by
  obtain ⟨h1, h2, h3, h4⟩ := h
  refine ⟨fun e => lt_irrefl l (by rw [← e] at h1; exact h1), h2, h3, fun q hq => ⟨(h4 q hq).1, fun h0 => ?_⟩⟩
  obtain ⟨k1, k2⟩ := (h4 q hq).2 h0
  rcases k1 with rfl | k1
  · exact .inl rfl
  · rcases k2 with rfl | k2
    · exact .inr (.inl rfl)
    · exact .inr (.inr (.inl ⟨k1, k2⟩))
theorem ne_neg {S : List S23} {a c : S23} (h : NE (S.map neg) (neg a) (neg c)) : NE S a c := by
  obtain ⟨h1, h2, h3, h4⟩ := h
  have mem : ∀ q, neg q ∈ S.map neg → q ∈ S := fun q hq => by
    obtain ⟨r, hr, e⟩ := List.mem_map.1 hq
    rw [← neg_inj e]; exact hr
  refine ⟨fun e => h1 (by rw [e]), mem a h2, mem c h3, fun q hq => ?_⟩
  obtain ⟨k1, k2⟩ := h4 (neg q) (List.mem_map.2 ⟨q, hq, rfl⟩)
  rw [D_neg] at k1 k2
  refine ⟨k1, fun h0 => ?_⟩
  rcases k2 h0 with e | e | e
  · exact .inl (neg_inj e)
  · exact .inr (.inl (neg_inj e))
  · exact .inr (.inr (bt_neg e))
/-! going from corner to corner -/
def bstep (a b q : S23) : S23 := if q = a then b else if b = a ∨ D a b q < 0 ∨ D a b q = 0 ∧ far a b < far a q then q else b
def best (a b : S23) (l : List S23) : S23 := l.foldl (bstep a) b
theorem best_stays {S : List S23} {a c : S23} (h : NE S a c) : ∀ l : List S23, (∀ q ∈ l, q ∈ S) → best a c l = c
  | [], _ => rfl
  | q :: l, hl => by
    have e : bstep a c q = c := by
      unfold bstep
      by_cases hq : q = a
      · rw [if_pos hq]
      · rw [if_neg hq]
        by_cases hc : c = a ∨ D a c q < 0 ∨ D a c q = 0 ∧ far a c < far a q
        · exfalso
          obtain ⟨h1, h2, h3, h4⟩ := h
          obtain ⟨k1, k2⟩ := h4 q (hl q (by simp))
          rcases hc with hc | hc | ⟨hc, hf⟩
          · exact h1 hc.symm
          · omega
          · rcases k2 hc with e | e | e
            · exact hq e
            · rw [e] at hf; omega
            · have := far_bt e hc; omega
        · rw [if_neg hc]
    show best a (bstep a c q) l = c
    rw [e]
    exact best_stays h l (fun r hr => hl r (by simp [hr]))
theorem best_is {S : List S23} {a c : S23} (h : NE S a c) : ∀ (l : List S23) (b : S23), (∀ q ∈ l, q ∈ S) → (b = a ∨ b ∈ S) → c ∈ l → best a b l = c
  | q :: l, b, hl, hb, hc => by
    show best a (bstep a b q) l = c
    rcases List.mem_cons.1 hc with rfl | hc
    · have e : bstep a b c = c := by
        unfold bstep
        rw [if_neg (fun e => h.1 e.symm)]
        by_cases hcond : b = a ∨ D a b c < 0 ∨ D a b c = 0 ∧ far a b < far a c
        · rw [if_pos hcond]
        · rw [if_neg hcond]
          apply Classical.byContradiction
          intro hne
          apply hcond
          by_cases hba : b = a
          · exact .inl hba
          · have hbS : b ∈ S := by rcases hb with e | e; exact absurd e hba; exact e
            obtain ⟨k1, k2⟩ := h.2.2.2 b hbS
            rw [D_swap2] at k1 k2
            by_cases h0 : D a b c = 0
            · rcases k2 (by omega) with e | e | e
              · exact absurd e hba
              · exact absurd e hne
              · exact .inr (.inr ⟨h0, far_bt e (by rw [D_swap2]; omega)⟩)
            · exact .inr (.inl (by omega))
      rw [e]
      exact best_stays h l (fun r hr => hl r (by simp [hr]))
    · refine best_is h l _ (fun r hr => hl r (by simp [hr])) ?_ hc
      unfold bstep
      split
      · exact hb
      · split
        · exact .inr (hl q (by simp))
        · exact hb
/-! lists, one place after the other -/
def Con {α : Type} (R : α → α → Prop) : List α → Prop
  | a :: b :: t => R a b ∧ Con R (b :: t)
  | _ => True
theorem con_snoc {α : Type} (R : α → α → Prop) : ∀ (l : List α) (a b : α), Con R (l ++ [a]) → R a b → Con R (l ++ [a] ++ [b])
  | [], a, b, _, h => ⟨h, trivial⟩
  | [c], a, b, h, hr => ⟨h.1, hr, trivial⟩
  | c :: d :: l, a, b, h, hr => ⟨h.1, con_snoc R (d :: l) a b h.2 hr⟩
theorem con_rev {α : Type} (R : α → α → Prop) : ∀ l : List α, Con R l → Con (fun a b => R b a) l.reverse
  | [], _ => trivial
  | [a], _ => trivial
  | a :: b :: t, h => by
    have ih := con_rev R (b :: t) h.2
    rw [List.reverse_cons] at ih ⊢
    rw [List.reverse_cons]
    exact con_snoc _ t.reverse b a ih h.1
theorem con_mono {α : Type} {R T : α → α → Prop} (hr : ∀ a b, R a b → T a b) : ∀ l : List α, Con R l → Con T l
  | [], _ => trivial
  | [a], _ => trivial
  | a :: b :: t, h => ⟨hr a b h.1, con_mono hr (b :: t) h.2⟩
theorem con_map {α β : Type} (R : β → β → Prop) (f : α → β) : ∀ l : List α, Con R (l.map f) → Con (fun a b => R (f a) (f b)) l
  | [], _ => trivial
  | [a], _ => trivial
  | a :: b :: t, h => ⟨h.1, con_map R f (b :: t) h.2⟩
/-- Whoever is not the last has one behind it. -/
theorem con_next {α : Type} {R : α → α → Prop} : ∀ l : List α, Con R l → ∀ a ∈ l.dropLast, ∃ b, R a b
  | [], _, a, h => by simp at h
  | [b], _, a, h => by simp at h
  | b :: c :: t, h, a, ha => by
    rw [List.dropLast_cons_of_ne_nil (by simp)] at ha
    rcases List.mem_cons.1 ha with rfl | ha
    · exact ⟨c, h.1⟩
    · exact con_next (c :: t) h.2 a ha
theorem con_pair {α : Type} {R : α → α → Prop} (ht : ∀ a b c, R a b → R b c → R a c) : ∀ l : List α, Con R l → l.Pairwise R
  | [], _ => List.Pairwise.nil
  | [a], _ => List.pairwise_singleton _ _
  | a :: b :: t, h => by
    have ih := con_pair ht (b :: t) h.2
    refine List.pairwise_cons.2 ⟨fun c hc => ?_, ih⟩
    rcases List.mem_cons.1 hc with rfl | hc
    · exact h.1
    · exact ht a b c h.1 ((List.pairwise_cons.1 ih).1 c hc)
theorem edges_con (S : List S23) : ∀ st : List S23, Edges S st → Con (fun m l => Edge S l m) st
  | [], _ => trivial
  | [a], _ => trivial
  | m :: l :: st, h => ⟨h.1, edges_con S (l :: st) h.2⟩
/-- The chain over sorted points, from its first corner on. -/
def low (S : List S23) : List S23 := (chain [] S).reverse
theorem low_con (a : S23) (l : List S23) (hs : (a :: l).Pairwise lt) : Con (Edge (a :: l)) (low (a :: l)) ∧ (low (a :: l)).getLast? = (a :: l).getLast? := by
  obtain ⟨h, st, e, hg, hm, hl⟩ := good_of a l hs
  have he : Edges (a :: l) (h :: st) := by
    refine good_edges _ st h hg ?_
    match st with
    | [] => trivial
    | k :: _ => exact fun q hq _ => hm q hq
  refine ⟨?_, ?_⟩
  · unfold low
    rw [e]
    exact con_rev _ _ (edges_con _ _ he)
  · unfold low
    rw [e, List.getLast?_reverse, List.head?_cons, hl, List.getLast?_eq_some_getLast (by simp)]
theorem good_first (S : List S23) : ∀ (st : List S23) (h : S23), Good S (h :: st) → ∃ b, (h :: st).getLast? = some b ∧ b ∈ S ∧ ∀ q ∈ S, b = q ∨ lt b q
  | [], h, hg => ⟨h, rfl, hg.1, hg.2⟩
  | l :: st, h, hg => by
    obtain ⟨b, h1, h2⟩ := good_first S st l hg.2.2.2.2.2
    exact ⟨b, by rw [List.getLast?_cons_cons]; exact h1, h2⟩
theorem low_first (a : S23) (l : List S23) (hs : (a :: l).Pairwise lt) : (low (a :: l)).head? = some a := by
  obtain ⟨h, st, e, hg, hm, hl⟩ := good_of a l hs
  obtain ⟨b, h1, h2, h3⟩ := good_first _ st h hg
  unfold low
  rw [e, List.head?_reverse, h1]
  rcases h3 a (by simp) with rfl | hh
  · rfl
  · rcases List.mem_cons.1 h2 with rfl | hb
    · rfl
    · exact absurd (lt_trans hh ((List.pairwise_cons.1 hs).1 b hb)) (lt_irrefl _)
theorem ne_mem {S T : List S23} (h : ∀ q, q ∈ S ↔ q ∈ T) {a c : S23} (hn : NE S a c) : NE T a c := by
  obtain ⟨h1, h2, h3, h4⟩ := hn
  exact ⟨h1, (h a).1 h2, (h c).1 h3, fun q hq => h4 q ((h q).2 hq)⟩
theorem con_app {α : Type} (R : α → α → Prop) (x : α) (t : List α) : ∀ l : List α, Con R (l ++ [x]) → Con R (x :: t) → Con R (l ++ x :: t)
  | [], _, h2 => h2
  | [a], h1, h2 => ⟨h1.1, h2⟩
  | a :: b :: l, h1, h2 => ⟨h1.1, con_app R x t (b :: l) h1.2 h2⟩
/-- The upper chain, from the greatest point back to the least. -/
def upp (S : List S23) : List S23 := (chain [] S.reverse).reverse
theorem upp_neg (S : List S23) : (upp S).map neg = low (S.reverse.map neg) := by
  unfold upp low
  rw [List.map_reverse, chain_neg]
  rfl
theorem rev_sorted (S : List S23) (hs : S.Pairwise lt) : (S.reverse.map neg).Pairwise lt := by
  rw [List.pairwise_map, List.pairwise_reverse]
  exact hs.imp (fun h => (lt_neg _ _).2 h)
theorem mem_rev (S : List S23) (q : S23) : neg q ∈ S.reverse.map neg ↔ q ∈ S := by
  rw [List.mem_map]
  constructor
  · rintro ⟨r, hr, e⟩; rw [← neg_inj e]; exact List.mem_reverse.1 hr
  · intro h; exact ⟨q, List.mem_reverse.2 h, rfl⟩
/-- What the two chains are. -/
structure Chains (S : List S23) (a z : S23) : Prop where
  lcon : Con (Edge S) (low S)
  lhead : (low S).head? = some a
  llast : (low S).getLast? = some z
  ucon : Con (fun p q => Edge (S.reverse.map neg) (neg p) (neg q)) (upp S)
  uhead : (upp S).head? = some z
  ulast : (upp S).getLast? = some a
theorem map_head? (l : List S23) : (l.map neg).head? = l.head?.map neg := by cases l <;> rfl
theorem chains (a : S23) (l : List S23) (hs : (a :: l).Pairwise lt) : ∃ z, (a :: l).getLast? = some z ∧ Chains (a :: l) a z := by
  have hz : (a :: l).getLast? = some ((a :: l).getLast (by simp)) := List.getLast?_eq_some_getLast (by simp)
  refine ⟨_, hz, ?_⟩
  generalize (a :: l).getLast (by simp) = z at hz
  obtain ⟨h1, h2⟩ := low_con a l hs
  have hT := rev_sorted _ hs
  have hne : (a :: l).reverse.map neg ≠ [] := by simp
  obtain ⟨b, t, ht⟩ := List.exists_cons_of_ne_nil hne
  have hT2 := hT
  rw [ht] at hT2
  obtain ⟨k1, k2⟩ := low_con b t hT2
  have k3 := low_first b t hT2
  rw [← ht, ← upp_neg] at k1 k2 k3
  have hb : neg z = b := by
    have e : ((a :: l).reverse.map neg).head? = some b := by rw [ht]; rfl
    rw [map_head?, List.head?_reverse, hz] at e
    exact Option.some.inj e
  have inj : ∀ o : Option S23, ∀ p, o.map neg = some (neg p) → o = some p := fun o p h => by
    cases o with
    | none => cases h
    | some q => rw [neg_inj (Option.some.inj h)]
  refine ⟨h1, low_first a l hs, by rw [h2, hz], con_map _ neg _ k1, inj _ _ ?_, inj _ _ ?_⟩
  · rw [← map_head?, k3, hb]
  · have : ((upp (a :: l)).map neg).getLast? = ((a :: l).reverse.map neg).getLast? := k2
    rw [List.getLast?_map, List.getLast?_map, List.getLast?_reverse, List.head?_cons] at this
    exact this
/-- The corners of the hull. -/
def crn (S : List S23) : List S23 := (low S).dropLast ++ (upp S).dropLast
theorem snoc_of {α : Type} {l : List α} {z : α} (h : l.getLast? = some z) : l = l.dropLast ++ [z] := by
  have hne : l ≠ [] := by rintro rfl; cases h
  rw [List.getLast?_eq_some_getLast hne] at h
  rw [← Option.some.inj h, List.dropLast_concat_getLast]
theorem cons_of {α : Type} {l : List α} {z : α} (h : l.head? = some z) : ∃ t, l = z :: t := by
  cases l with
  | nil => cases h
  | cons b t => exact ⟨t, by rw [Option.some.inj h]⟩
theorem cyc (S : List S23) (a z : S23) (h : Chains S a z) : Con (NE S) (crn S ++ [a]) := by
  have e1 := snoc_of h.llast
  have e2 := snoc_of h.ulast
  obtain ⟨t, e3⟩ := cons_of h.uhead
  have c1 : Con (NE S) (low S) := con_mono (fun _ _ he => edge_ne he) _ h.lcon
  have c2 : Con (NE S) (upp S) := con_mono (fun _ _ he => ne_mem (fun q => by rw [List.mem_reverse]) (ne_neg (edge_ne he))) _ h.ucon
  unfold crn
  rw [List.append_assoc, ← e2, e3]
  rw [e3] at c2
  rw [e1] at c1
  rw [e1] at c1
  rw [List.dropLast_concat] at c1
  exact con_app _ z t _ c1 c2
theorem crn_nodup (S : List S23) (a z : S23) (h : Chains S a z) : (crn S).Nodup := by
  unfold crn
  rw [List.nodup_append]
  have l1 : (low S).Pairwise lt := con_pair (R := lt) (fun a b c => lt_trans) _ (con_mono (T := lt) (fun _ _ he => he.1) _ h.lcon)
  have u1 : (upp S).Pairwise (fun p q => lt q p) := con_pair (R := fun p q => lt q p) (fun a b c h1 h2 => lt_trans h2 h1) _ (con_mono (T := fun p q => lt q p) (fun _ _ he => (lt_neg _ _).1 he.1) _ h.ucon)
  refine ⟨?_, ?_, ?_⟩
  · exact List.Pairwise.imp (S := fun a b => a ≠ b) (fun {p q} (hlt : lt p q) (e : p = q) => lt_irrefl q (by rw [e] at hlt; exact hlt)) (l1.sublist (List.dropLast_sublist _))
  · exact List.Pairwise.imp (S := fun a b => a ≠ b) (fun {p q} (hlt : lt q p) (e : p = q) => lt_irrefl q (by rw [e] at hlt; exact hlt)) (u1.sublist (List.dropLast_sublist _))
  · intro x hx y hy e
    subst e
    obtain ⟨b, hb⟩ := con_next _ h.lcon x hx
    obtain ⟨n, hn⟩ := con_next _ h.ucon x hy
    have hnS : n ∈ S := (mem_rev S n).1 hn.2.2.1
    have hbS := hb.2.2.1
    have k1 := (hb.2.2.2 n hnS).1
    have k2 := (hn.2.2.2 (neg b) ((mem_rev S b).2 hbS)).1
    rw [D_neg, D_swap2] at k2
    have h0 : D x b n = 0 := by omega
    have hlt : lt n x := (lt_neg _ _).1 hn.1
    rcases ((hb.2.2.2 n hnS).2 h0).1 with rfl | hh
    · exact lt_irrefl _ hlt
    · exact lt_irrefl _ (lt_trans hlt hh)
theorem con_mem {α : Type} {R : α → α → Prop} {P : α → Prop} (h : ∀ a b, R a b → P a ∧ P b) : ∀ l : List α, Con R l → 2 ≤ l.length → ∀ a ∈ l, P a
  | [], _, h2, _, _ => by simp at h2
  | [_], _, h2, _, _ => by simp at h2
  | [a, b], hc, _, x, hx => by
    rcases List.mem_cons.1 hx with rfl | hx
    · exact (h _ _ hc.1).1
    · rw [List.mem_singleton.1 hx]; exact (h _ _ hc.1).2
  | a :: b :: c :: t, hc, _, x, hx => by
    rcases List.mem_cons.1 hx with rfl | hx
    · exact (h _ _ hc.1).1
    · exact con_mem h (b :: c :: t) hc.2 (by simp) x hx
/-! points on one line -/
def FlatP (S : List S23) : Prop := ∀ p ∈ S, ∀ q ∈ S, ∀ r ∈ S, D p q r = 0
theorem para {a z p q r : S23} (hne : a ≠ z) (h1 : D a z p = 0) (h2 : D a z q = 0) (h3 : D a z r = 0) : D p q r = 0 := by
  have i1 : D p q r * (z.f0 - a.f0) = (D a z p - D a z q) * (r.f0 - p.f0) + (D a z r - D a z p) * (q.f0 - p.f0) := by unfold D; grind
  have i2 : D p q r * (z.f1 - a.f1) = (D a z p - D a z q) * (r.f1 - p.f1) + (D a z r - D a z p) * (q.f1 - p.f1) := by unfold D; grind
  rw [h1, h2, h3] at i1 i2
  simp only [Int.sub_self, Int.zero_mul, Int.add_zero] at i1 i2
  rcases Int.mul_eq_zero.1 i1 with h | h
  · exact h
  · rcases Int.mul_eq_zero.1 i2 with h' | h'
    · exact h'
    · exfalso
      apply hne
      obtain ⟨a0, a1⟩ := a
      obtain ⟨z0, z1⟩ := z
      simp only at h h'
      rw [show a0 = z0 by omega, show a1 = z1 by omega]
theorem flat_iff {S : List S23} {a z : S23} (h : a ∈ S) (hz : z ∈ S) (hne : a ≠ z) : FlatP S ↔ ∀ q ∈ S, D a z q = 0 :=
  ⟨fun hf q hq => hf a h z hz q hq, fun hf p hp q hq r hr => para hne (hf p hp) (hf q hq) (hf r hr)⟩
theorem two_of {l : List S23} {a z : S23} (h1 : l.head? = some a) (h2 : l.getLast? = some z) (hne : a ≠ z) : 2 ≤ l.length := by
  match l, h1, h2 with
  | [b], h1, h2 => exact absurd ((Option.some.inj h1).symm.trans (Option.some.inj h2)) hne
  | b :: c :: t, _, _ => simp
theorem just_two {l : List S23} {a z : S23} (h1 : l.head? = some a) (h2 : l.getLast? = some z) (h : l.length = 2) : l = [a, z] := by
  match l, h1, h2, h with
  | [b, c], h1, h2, _ => rw [Option.some.inj h1]; simp at h2; rw [h2]
theorem flat_chains (S : List S23) (a z : S23) (h : Chains S a z) (ha : a ∈ S) (hz : z ∈ S) (hne : a ≠ z) : (low S).length + (upp S).length < 5 ↔ FlatP S := by
  have h2 := two_of h.lhead h.llast hne
  have h3 := two_of h.uhead h.ulast (fun e => hne e.symm)
  constructor
  · intro hl
    have e1 := just_two h.lhead h.llast (by omega)
    have e2 := just_two h.uhead h.ulast (by omega)
    have c1 := h.lcon
    have c2 := h.ucon
    rw [e1] at c1
    rw [e2] at c2
    refine (flat_iff ha hz hne).2 (fun q hq => ?_)
    have k1 := (c1.1.2.2.2 q hq).1
    have k2 := (c2.1.2.2.2 (neg q) ((mem_rev S q).2 hq)).1
    rw [D_neg, D_swap] at k2
    omega
  · intro hf
    have no : ∀ (R : List S23) (l : List S23), FlatP R → Con (Edge R) l → l.length ≤ 2 := fun R l hR hc => by
      match l, hc with
      | [], _ => simp
      | [_], _ => simp
      | [_, _], _ => simp
      | p :: q :: r :: t, hc =>
        exfalso
        have h0 := hR p hc.1.2.1 q hc.1.2.2.1 r hc.2.1.2.2.1
        rcases ((hc.1.2.2.2 r hc.2.1.2.2.1).2 h0).2 with rfl | hh
        · exact lt_irrefl _ hc.2.1.1
        · exact lt_irrefl _ (lt_trans hh hc.2.1.1)
    have n1 := no S (low S) hf h.lcon
    have n2 : ((upp S).map neg).length ≤ 2 := by
      rw [upp_neg]
      refine no (S.reverse.map neg) _ ?_ ?_
      · intro p hp q hq r hr
        rw [← neg_neg p, mem_rev] at hp
        rw [← neg_neg q, mem_rev] at hq
        rw [← neg_neg r, mem_rev] at hr
        rw [← D_neg]
        exact hf _ hp _ hq _ hr
      · rw [← upp_neg]
        have c2 := h.ucon
        clear n1
        generalize upp S = u at c2
        induction u with
        | nil => trivial
        | cons b t ih =>
          match t, c2, ih with
          | [], _, _ => trivial
          | c :: t', c2, ih => exact ⟨c2.1, ih c2.2⟩
    rw [List.length_map] at n2
    omega
end Go.Proofs.Ytcembjgpcbodcaa.Hl
