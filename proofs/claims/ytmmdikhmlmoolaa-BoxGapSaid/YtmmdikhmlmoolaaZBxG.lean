/-
  Chapter 06: Gap of the program finds the least open point.
-/
import Derived.Test.YtmmdikhmlmoolaaZBxE
import Derived.Test.YtmmdikhmlmoolaaZQAx8
namespace Go.Proofs.Ytmmdikhmlmoolaa.Bx
open Go.RowKit Go.Proofs.Ytmmdikhmlmoolaa.QA Go.Proofs.YtmmdikhmlmoolaaW.PrintWords Go.Proofs.YtmmdikhmlmoolaaW.PrintLast Go.Proofs.YtmmdikhmlmoolaaW.PrintMore Go.Proofs.Ytmmdikhmlmoolaa.EvKit
set_option linter.unusedVariables false
set_option linter.unusedSimpArgs false
abbrev G4 := Int × Int × Int × Int
def gX (row : List S25) (y z : Int) (R : G4) : List Int → G4
  | [] => R
  | x :: xs => if (atL 0 x row).length = 0 then (x, y, z, 0) else gX row y z R xs
def gY (plane : List S25) (b : S25) (z : Int) (R : G4) : List Int → G4
  | [] => R
  | y :: ys => gX (atL 1 y plane) y z (gY plane b z R ys) (endsL 0 b.f0.f0 b.f1.f0 (atL 1 y plane))
def gZ (list : List S25) (b : S25) : List Int → G4
  | [] => (0, 0, 0, 9)
  | z :: zs => gY (atL 2 z list) b z (gZ list b zs) (endsL 1 b.f0.f1 b.f1.f1 (atL 2 z list))
theorem rdI (l : List Int) (i : Nat) : rd l (i : Int) = l.getD i 0 := by simp [rd]
theorem gap_l2 (list plane row : List S25) (b : S25) (x y z : Int) (zs ys xs : List Int) (zi yi : Nat) (R : G4) (hr : row.length ≤ 1000000) (hx : xs.length ≤ 1000000) (hy : yi ≤ 1000000)
    (hR : Ev (fun k => box_Gap.l1 k list z plane zs (zs.length : Int) (zi : Int) ys (ys.length : Int) ((yi + 1 : Nat) : Int) b.f0.f0 b.f0.f1 b.f0.f2 b.f1.f0 b.f1.f1 b.f1.f2) R) :
    ∀ m i, xs.length = i + m → Ev (fun k => box_Gap.l2 k list z plane y row zs (zs.length : Int) (zi : Int) ys (ys.length : Int) (yi : Int) xs (xs.length : Int) (i : Int) b.f0.f0 b.f0.f1 b.f0.f2 b.f1.f0 b.f1.f1 b.f1.f2) (gX row y z R (xs.drop i)) := by
  intro m
  induction m with
  | zero =>
    intro i hi
    refine Ev.succ ?_
    simp only [box_Gap.l2]
    rw [List.drop_of_length_le (by omega), gX, stp hy]
    exact Ev.neg (by omega) hR
  | succ m ih =>
    intro i hi
    refine Ev.succ ?_
    simp only [box_Gap.l2]
    rw [drop_cons xs i 0 (by omega), gX, rdI, stp (by omega)]
    exact Ev.pos (by omega) (Ev.pos (by omega) (Ev.pos (by omega) (Ev.bind (at_ev 0 _ (by simp) row hr) (by
      by_cases h : (atL 0 (xs.getD i 0) row).length = 0
      · rw [if_pos h]; exact Ev.pos (by omega) (Ev.now _)
      · rw [if_neg h]; exact Ev.neg (by omega) (ih (i + 1) (by omega))))))
theorem gap_l1 (list plane : List S25) (b : S25) (z : Int) (zs ys : List Int) (zi : Nat) (R : G4) (hp : plane.length ≤ 1000) (hy : ys.length ≤ 100000) (hz : zi ≤ 1000000)
    (hR : Ev (fun k => box_Gap.l0 k list zs (zs.length : Int) ((zi + 1 : Nat) : Int) b.f0.f0 b.f0.f1 b.f0.f2 b.f1.f0 b.f1.f1 b.f1.f2) R) :
    ∀ m i, ys.length = i + m → Ev (fun k => box_Gap.l1 k list z plane zs (zs.length : Int) (zi : Int) ys (ys.length : Int) (i : Int) b.f0.f0 b.f0.f1 b.f0.f2 b.f1.f0 b.f1.f1 b.f1.f2) (gY plane b z R (ys.drop i)) := by
  intro m
  induction m with
  | zero =>
    intro i hi
    refine Ev.succ ?_
    simp only [box_Gap.l1]
    rw [List.drop_of_length_le (by omega), gY, stp hz]
    exact Ev.neg (by omega) hR
  | succ m ih =>
    intro i hi
    refine Ev.succ ?_
    simp only [box_Gap.l1]
    rw [drop_cons ys i 0 (by omega), gY, rdI]
    have ha := atL_len 1 (ys.getD i 0) plane
    have he := endsL_len 0 b.f0.f0 b.f1.f0 (atL 1 (ys.getD i 0) plane)
    exact Ev.pos (by omega) (Ev.pos (by omega) (Ev.pos (by omega) (Ev.bind (at_ev 1 _ (by simp) plane (by omega)) (Ev.bind (ends_ev 0 _ _ (by simp) _ (by omega)) (gap_l2 list plane _ b 0 _ z zs ys _ zi i _ (by omega) (by omega) (by omega) (ih (i + 1) (by omega)) _ 0 (Nat.zero_add _).symm)))))
theorem gap_l0 (list : List S25) (b : S25) (zs : List Int) (hl : list.length ≤ 1000) (hz : zs.length ≤ 100000) :
    ∀ m i, zs.length = i + m → Ev (fun k => box_Gap.l0 k list zs (zs.length : Int) (i : Int) b.f0.f0 b.f0.f1 b.f0.f2 b.f1.f0 b.f1.f1 b.f1.f2) (gZ list b (zs.drop i)) := by
  intro m
  induction m with
  | zero =>
    intro i hi
    refine Ev.succ ?_
    simp only [box_Gap.l0]
    rw [List.drop_of_length_le (by omega), gZ]
    exact Ev.neg (by omega) (Ev.now _)
  | succ m ih =>
    intro i hi
    refine Ev.succ ?_
    simp only [box_Gap.l0]
    rw [drop_cons zs i 0 (by omega), gZ, rdI]
    have ha := atL_len 2 (zs.getD i 0) list
    have he := endsL_len 1 b.f0.f1 b.f1.f1 (atL 2 (zs.getD i 0) list)
    exact Ev.pos (by omega) (Ev.pos (by omega) (Ev.pos (by omega) (Ev.bind (at_ev 2 _ (by simp) list (by omega)) (Ev.bind (ends_ev 1 _ _ (by simp) _ (by omega)) (gap_l1 list _ b _ zs _ i _ (by omega) (by omega) (by omega) (ih (i + 1) (by omega)) _ 0 (Nat.zero_add _).symm)))))
def gapS (b : S25) (l : List S25) : G4 := if manyS b l = 0 then gZ l b (endsL 2 b.f0.f2 b.f1.f2 l) else (0, 0, 0, manyS b l)
theorem many_256 {b : S25} {l : List S25} (h : manyS b l = 0) : l.length ≤ 256 ∧ V b ∧ ∀ c ∈ l, V c := by
  unfold manyS at h
  by_cases h1 : l.length > 256
  · rw [if_pos h1] at h; cases h
  · rw [if_neg h1] at h
    by_cases h2 : chk b = 0
    · rw [if_pos h2] at h
      exact ⟨by omega, (chk0 b).1 h2, (chkL_0 l).1 h⟩
    · rw [if_neg h2] at h; exact absurd h h2
theorem gap_ev (b : S25) (l : List S25) (hl : l.length ≤ 1000000) : Ev (fun k => box_Gap.f k b.f0.f0 b.f0.f1 b.f0.f2 b.f1.f0 b.f1.f1 b.f1.f2 l) (gapS b l) := by
  unfold box_Gap.f gapS
  refine Ev.bind (many_ev b l hl) (ifs (fun h => ?_) (fun h => Ev.now _))
  have h2 := (many_256 h).1
  have he := endsL_len 2 b.f0.f2 b.f1.f2 l
  exact Ev.bind (ends_ev 2 _ _ (by simp) _ (by omega)) (gap_l0 l b _ (by omega) (by omega) _ 0 (Nat.zero_add _).symm)
/-! ### what the search finds -/
/-- Going down from a place that has the property one comes to one of the ends. -/
theorem descend (P : Int → Prop) (E : List Int) (lo hi : Int) (h0 : lo ∈ E) (hstep : ∀ n, lo < n → n < hi → P n → ¬ P (n - 1) → n ∈ E) : ∀ (d : Nat) (n : Int), n = lo + d → n < hi → P n → ∃ m ∈ E, m ≤ n ∧ lo ≤ m ∧ P m
  | 0, n, hd, hn, hp => ⟨lo, h0, by omega, by omega, by rw [show lo = n by omega]; exact hp⟩
  | d + 1, n, hd, hn, hp => by
    by_cases hq : P (n - 1)
    · obtain ⟨m, hm, h1, h2, h3⟩ := descend P E lo hi h0 hstep d (n - 1) (by omega) (by omega) hq
      exact ⟨m, hm, by omega, h2, h3⟩
    · exact ⟨n, hstep n (by omega) hn hp hq, by omega, by omega, hp⟩
def opn (list : List S25) (x y z : Int) : Prop := ∀ c ∈ list, ¬ hasB c x y z = true
theorem opn_iff (list : List S25) (x y z : Int) : opn list x y z ↔ anyB list x y z = false := by
  unfold opn anyB
  rw [List.any_eq_false]
theorem has_iff (c : S25) (x y z : Int) : hasB c x y z = true ↔ c.f0.f0 ≤ x ∧ x < c.f1.f0 ∧ c.f0.f1 ≤ y ∧ y < c.f1.f1 ∧ c.f0.f2 ≤ z ∧ z < c.f1.f2 := by simp [hasB]
theorem at_opn (list : List S25) (x y z : Int) : (atL 0 x (atL 1 y (atL 2 z list))).length = 0 ↔ opn list x y z := by
  rw [List.length_eq_zero_iff, List.eq_nil_iff_forall_not_mem]
  unfold opn
  constructor
  · intro h c hc hh
    rw [has_iff] at hh
    exact h c (atL_mem.2 ⟨atL_mem.2 ⟨atL_mem.2 ⟨hc, hh.2.2.2.2⟩, hh.2.2.1, hh.2.2.2.1⟩, hh.1, hh.2.1⟩)
  · intro h c hc
    obtain ⟨hc, h0⟩ := atL_mem.1 hc
    obtain ⟨hc, h1⟩ := atL_mem.1 hc
    obtain ⟨hc, h2⟩ := atL_mem.1 hc
    exact h c hc ((has_iff c x y z).2 ⟨h0.1, h0.2, h1.1, h1.2, h2.1, h2.2⟩)
theorem gX_spec (list : List S25) (y z : Int) (R : G4) : ∀ xs : List Int, xs.Pairwise (· < ·) →
    (gX (atL 1 y (atL 2 z list)) y z R xs = R ∧ ∀ x ∈ xs, ¬ opn list x y z) ∨ ∃ x ∈ xs, opn list x y z ∧ gX (atL 1 y (atL 2 z list)) y z R xs = (x, y, z, 0) ∧ ∀ x2 ∈ xs, opn list x2 y z → x ≤ x2
  | [], _ => .inl ⟨rfl, by simp⟩
  | x :: xs, hs => by
    rw [gX]
    obtain ⟨h1, h2⟩ := List.pairwise_cons.1 hs
    by_cases h : opn list x y z
    · rw [if_pos ((at_opn list x y z).2 h)]
      refine .inr ⟨x, by simp, h, rfl, fun x2 hx2 _ => ?_⟩
      rcases List.mem_cons.1 hx2 with rfl | hx2
      · exact Int.le_refl _
      · exact Int.le_of_lt (h1 x2 hx2)
    · rw [if_neg (fun e => h ((at_opn list x y z).1 e))]
      rcases gX_spec list y z R xs h2 with ⟨e, hn⟩ | ⟨x1, hx1, o1, e, hmin⟩
      · refine .inl ⟨e, fun x2 hx2 => ?_⟩
        rcases List.mem_cons.1 hx2 with rfl | hx2
        · exact h
        · exact hn x2 hx2
      · refine .inr ⟨x1, by simp [hx1], o1, e, fun x2 hx2 ho2 => ?_⟩
        rcases List.mem_cons.1 hx2 with rfl | hx2
        · exact absurd ho2 h
        · exact hmin x2 hx2 ho2
theorem X_down (list : List S25) (y z lo hi x : Int) (h1 : lo ≤ x) (h2 : x < hi) (ho : opn list x y z) : ∃ m ∈ endsL 0 lo hi (atL 1 y (atL 2 z list)), m ≤ x ∧ lo ≤ m ∧ opn list m y z := by
  refine descend (fun x => opn list x y z) _ lo hi (endsL_mem.2 (.inl rfl)) (fun n hn1 hn2 hp hq => ?_) (x - lo).toNat x (by omega) h2 ho
  unfold opn at hq
  obtain ⟨c, hc⟩ := Classical.not_forall.1 hq
  obtain ⟨hc, hh⟩ := Classical.not_imp.1 hc
  have hh := Classical.not_not.1 hh
  have hno := hp c hc
  rw [has_iff] at hh hno
  refine endsL_mem.2 (.inr ⟨c, atL_mem.2 ⟨atL_mem.2 ⟨hc, hh.2.2.2.2⟩, hh.2.2.1, hh.2.2.2.1⟩, ?_, hn1, hn2⟩)
  show c.f1.f0 = n
  omega
/-- The row y of the plane z has an open place. -/
def oY (list : List S25) (b : S25) (y z : Int) : Prop := ∃ x, b.f0.f0 ≤ x ∧ x < b.f1.f0 ∧ opn list x y z
theorem X_found (list : List S25) (b : S25) (y z : Int) (R : G4) (hb : b.f0.f0 < b.f1.f0) :
    (gX (atL 1 y (atL 2 z list)) y z R (endsL 0 b.f0.f0 b.f1.f0 (atL 1 y (atL 2 z list))) = R ∧ ¬ oY list b y z) ∨ ∃ x, b.f0.f0 ≤ x ∧ x < b.f1.f0 ∧ opn list x y z ∧ gX (atL 1 y (atL 2 z list)) y z R (endsL 0 b.f0.f0 b.f1.f0 (atL 1 y (atL 2 z list))) = (x, y, z, 0) ∧ ∀ x2, b.f0.f0 ≤ x2 → x2 < b.f1.f0 → opn list x2 y z → x ≤ x2 := by
  rcases gX_spec list y z R _ (cmpL_inc _) with ⟨e, hn⟩ | ⟨x, hx, ho, e, hmin⟩
  · refine .inl ⟨e, ?_⟩
    rintro ⟨x, h1, h2, ho⟩
    obtain ⟨m, hm, _, _, hom⟩ := X_down list y z _ _ x h1 h2 ho
    exact hn m hm hom
  · refine .inr ⟨x, ?_, ?_, ho, e, fun x2 h1 h2 ho2 => ?_⟩
    · rcases endsL_mem.1 hx with rfl | ⟨_, _, _, h1, h2⟩ <;> omega
    · rcases endsL_mem.1 hx with rfl | ⟨_, _, _, h1, h2⟩ <;> omega
    · obtain ⟨m, hm, h3, _, hom⟩ := X_down list y z _ _ x2 h1 h2 ho2
      have := hmin m hm hom
      omega
theorem gY_spec (list : List S25) (b : S25) (z : Int) (R : G4) (hb : b.f0.f0 < b.f1.f0) : ∀ ys : List Int, ys.Pairwise (· < ·) →
    (gY (atL 2 z list) b z R ys = R ∧ ∀ y ∈ ys, ¬ oY list b y z) ∨ ∃ y ∈ ys, ∃ x, b.f0.f0 ≤ x ∧ x < b.f1.f0 ∧ opn list x y z ∧ gY (atL 2 z list) b z R ys = (x, y, z, 0) ∧ (∀ x2, b.f0.f0 ≤ x2 → x2 < b.f1.f0 → opn list x2 y z → x ≤ x2) ∧ ∀ y2 ∈ ys, oY list b y2 z → y ≤ y2
  | [], _ => .inl ⟨rfl, by simp⟩
  | y :: ys, hs => by
    rw [gY]
    obtain ⟨h1, h2⟩ := List.pairwise_cons.1 hs
    rcases X_found list b y z (gY (atL 2 z list) b z R ys) hb with ⟨e, hn⟩ | ⟨x, hx1, hx2, ho, e, hmin⟩
    · rw [e]
      rcases gY_spec list b z R hb ys h2 with ⟨e2, hn2⟩ | ⟨y1, hy1, x1, a1, a2, o1, e2, m1, m2⟩
      · refine .inl ⟨e2, fun y2 hy2 => ?_⟩
        rcases List.mem_cons.1 hy2 with rfl | hy2
        · exact hn
        · exact hn2 y2 hy2
      · refine .inr ⟨y1, by simp [hy1], x1, a1, a2, o1, e2, m1, fun y2 hy2 ho2 => ?_⟩
        rcases List.mem_cons.1 hy2 with rfl | hy2
        · exact absurd ho2 hn
        · exact m2 y2 hy2 ho2
    · refine .inr ⟨y, by simp, x, hx1, hx2, ho, e, hmin, fun y2 hy2 _ => ?_⟩
      rcases List.mem_cons.1 hy2 with rfl | hy2
      · exact Int.le_refl _
      · exact Int.le_of_lt (h1 y2 hy2)
theorem Y_down (list : List S25) (b : S25) (z lo hi y : Int) (h1 : lo ≤ y) (h2 : y < hi) (ho : oY list b y z) : ∃ m ∈ endsL 1 lo hi (atL 2 z list), m ≤ y ∧ lo ≤ m ∧ oY list b m z := by
  refine descend (fun y => oY list b y z) _ lo hi (endsL_mem.2 (.inl rfl)) (fun n hn1 hn2 hp hq => ?_) (y - lo).toNat y (by omega) h2 ho
  obtain ⟨x, hx1, hx2, hp⟩ := hp
  have hq2 : ¬ opn list x (n - 1) z := fun h => hq ⟨x, hx1, hx2, h⟩
  unfold opn at hq2
  obtain ⟨c, hc⟩ := Classical.not_forall.1 hq2
  obtain ⟨hc, hh⟩ := Classical.not_imp.1 hc
  have hh := Classical.not_not.1 hh
  have hno := hp c hc
  rw [has_iff] at hh hno
  refine endsL_mem.2 (.inr ⟨c, atL_mem.2 ⟨hc, hh.2.2.2.2⟩, ?_, hn1, hn2⟩)
  show c.f1.f1 = n
  omega
/-- The plane z has an open place. -/
def oZ (list : List S25) (b : S25) (z : Int) : Prop := ∃ y, b.f0.f1 ≤ y ∧ y < b.f1.f1 ∧ oY list b y z
theorem Y_found (list : List S25) (b : S25) (z : Int) (R : G4) (hb : V b) :
    (gY (atL 2 z list) b z R (endsL 1 b.f0.f1 b.f1.f1 (atL 2 z list)) = R ∧ ¬ oZ list b z) ∨ ∃ y x, b.f0.f1 ≤ y ∧ y < b.f1.f1 ∧ b.f0.f0 ≤ x ∧ x < b.f1.f0 ∧ opn list x y z ∧ gY (atL 2 z list) b z R (endsL 1 b.f0.f1 b.f1.f1 (atL 2 z list)) = (x, y, z, 0) ∧ (∀ x2, b.f0.f0 ≤ x2 → x2 < b.f1.f0 → opn list x2 y z → x ≤ x2) ∧ ∀ y2, b.f0.f1 ≤ y2 → y2 < b.f1.f1 → oY list b y2 z → y ≤ y2 := by
  have l1 := hb.l1
  rcases gY_spec list b z R hb.l0 _ (cmpL_inc _) with ⟨e, hn⟩ | ⟨y, hy, x, a1, a2, ho, e, m1, m2⟩
  · refine .inl ⟨e, ?_⟩
    rintro ⟨y, h1, h2, ho⟩
    obtain ⟨m, hm, _, _, hom⟩ := Y_down list b z _ _ y h1 h2 ho
    exact hn m hm hom
  · refine .inr ⟨y, x, ?_, ?_, a1, a2, ho, e, m1, fun y2 h1 h2 ho2 => ?_⟩
    · rcases endsL_mem.1 hy with rfl | ⟨_, _, _, h1, h2⟩ <;> omega
    · rcases endsL_mem.1 hy with rfl | ⟨_, _, _, h1, h2⟩ <;> omega
    · obtain ⟨m, hm, h3, _, hom⟩ := Y_down list b z _ _ y2 h1 h2 ho2
      have := m2 m hm hom
      omega
theorem gZ_spec (list : List S25) (b : S25) (hb : V b) : ∀ zs : List Int, zs.Pairwise (· < ·) →
    (gZ list b zs = (0, 0, 0, 9) ∧ ∀ z ∈ zs, ¬ oZ list b z) ∨ ∃ z ∈ zs, ∃ y x, b.f0.f1 ≤ y ∧ y < b.f1.f1 ∧ b.f0.f0 ≤ x ∧ x < b.f1.f0 ∧ opn list x y z ∧ gZ list b zs = (x, y, z, 0) ∧ (∀ x2, b.f0.f0 ≤ x2 → x2 < b.f1.f0 → opn list x2 y z → x ≤ x2) ∧ (∀ y2, b.f0.f1 ≤ y2 → y2 < b.f1.f1 → oY list b y2 z → y ≤ y2) ∧ ∀ z2 ∈ zs, oZ list b z2 → z ≤ z2
  | [], _ => .inl ⟨rfl, by simp⟩
  | z :: zs, hs => by
    rw [gZ]
    obtain ⟨h1, h2⟩ := List.pairwise_cons.1 hs
    rcases Y_found list b z (gZ list b zs) hb with ⟨e, hn⟩ | ⟨y, x, a1, a2, a3, a4, ho, e, m1, m2⟩
    · rw [e]
      rcases gZ_spec list b hb zs h2 with ⟨e2, hn2⟩ | ⟨z1, hz1, y1, x1, b1, b2, b3, b4, o1, e2, m1, m2, m3⟩
      · refine .inl ⟨e2, fun z2 hz2 => ?_⟩
        rcases List.mem_cons.1 hz2 with rfl | hz2
        · exact hn
        · exact hn2 z2 hz2
      · refine .inr ⟨z1, by simp [hz1], y1, x1, b1, b2, b3, b4, o1, e2, m1, m2, fun z2 hz2 ho2 => ?_⟩
        rcases List.mem_cons.1 hz2 with rfl | hz2
        · exact absurd ho2 hn
        · exact m3 z2 hz2 ho2
    · refine .inr ⟨z, by simp, y, x, a1, a2, a3, a4, ho, e, m1, m2, fun z2 hz2 _ => ?_⟩
      rcases List.mem_cons.1 hz2 with rfl | hz2
      · exact Int.le_refl _
      · exact Int.le_of_lt (h1 z2 hz2)
theorem Z_down (list : List S25) (b : S25) (lo hi z : Int) (h1 : lo ≤ z) (h2 : z < hi) (ho : oZ list b z) : ∃ m ∈ endsL 2 lo hi list, m ≤ z ∧ lo ≤ m ∧ oZ list b m := by
  refine descend (fun z => oZ list b z) _ lo hi (endsL_mem.2 (.inl rfl)) (fun n hn1 hn2 hp hq => ?_) (z - lo).toNat z (by omega) h2 ho
  obtain ⟨y, hy1, hy2, x, hx1, hx2, hp⟩ := hp
  have hq2 : ¬ opn list x y (n - 1) := fun h => hq ⟨y, hy1, hy2, x, hx1, hx2, h⟩
  unfold opn at hq2
  obtain ⟨c, hc⟩ := Classical.not_forall.1 hq2
  obtain ⟨hc, hh⟩ := Classical.not_imp.1 hc
  have hh := Classical.not_not.1 hh
  have hno := hp c hc
  rw [has_iff] at hh hno
  refine endsL_mem.2 (.inr ⟨c, hc, ?_, hn1, hn2⟩)
  show c.f1.f2 = n
  omega
/-- The order of points. -/
def le3 (x y z x2 y2 z2 : Int) : Prop := z < z2 ∨ z = z2 ∧ (y < y2 ∨ y = y2 ∧ x ≤ x2)
theorem gap_found (list : List S25) (b : S25) (hb : V b) :
    (gZ list b (endsL 2 b.f0.f2 b.f1.f2 list) = (0, 0, 0, 9) ∧ ∀ x y z, hasB b x y z = true → ¬ opn list x y z) ∨ ∃ x y z, hasB b x y z = true ∧ opn list x y z ∧ gZ list b (endsL 2 b.f0.f2 b.f1.f2 list) = (x, y, z, 0) ∧ ∀ x2 y2 z2, hasB b x2 y2 z2 = true → opn list x2 y2 z2 → le3 x y z x2 y2 z2 := by
  have l2 := hb.l2
  rcases gZ_spec list b hb _ (cmpL_inc _) with ⟨e, hn⟩ | ⟨z, hz, y, x, a1, a2, a3, a4, ho, e, m1, m2, m3⟩
  · refine .inl ⟨e, fun x y z hh ho => ?_⟩
    rw [has_iff] at hh
    obtain ⟨m, hm, _, _, hom⟩ := Z_down list b _ _ z hh.2.2.2.2.1 hh.2.2.2.2.2 ⟨y, hh.2.2.1, hh.2.2.2.1, x, hh.1, hh.2.1, ho⟩
    exact hn m hm hom
  · refine .inr ⟨x, y, z, (has_iff _ _ _ _).2 ⟨a3, a4, a1, a2, ?_, ?_⟩, ho, e, fun x2 y2 z2 hh ho2 => ?_⟩
    · rcases endsL_mem.1 hz with rfl | ⟨_, _, _, h1, h2⟩ <;> omega
    · rcases endsL_mem.1 hz with rfl | ⟨_, _, _, h1, h2⟩ <;> omega
    · rw [has_iff] at hh
      have hy : oY list b y2 z2 := ⟨x2, hh.1, hh.2.1, ho2⟩
      obtain ⟨m, hm, h3, _, hom⟩ := Z_down list b _ _ z2 hh.2.2.2.2.1 hh.2.2.2.2.2 ⟨y2, hh.2.2.1, hh.2.2.2.1, hy⟩
      have q1 := m3 m hm hom
      unfold le3
      by_cases e1 : z = z2
      · subst e1
        have q2 := m2 y2 hh.2.2.1 hh.2.2.2.1 hy
        by_cases e2 : y = y2
        · subst e2
          have q3 := m1 x2 hh.1 hh.2.1 ho2
          omega
        · omega
      · omega
end Go.Proofs.Ytmmdikhmlmoolaa.Bx
