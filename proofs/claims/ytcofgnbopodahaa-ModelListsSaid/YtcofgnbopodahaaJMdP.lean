import Derived.Test.YtcofgnbopodahaaJMdE
import Derived.Test.YtcofgnbopodahaaJQAx8
import Derived.Test.YtcofgnbopodahaaJQAx9
import Derived.Test.YtcofgnbopodahaaJQAx20
import Derived.Test.YtcofgnbopodahaaJQAx7
import Derived.Test.YtcofgnbopodahaaJQAx6
namespace Go.Proofs.Ytcofgnbopodahaa.Mp
open Go.RowKit Go.Proofs.Ytcofgnbopodahaa.QA Go.Proofs.YtcofgnbopodahaaW.PrintWords Go.Proofs.YtcofgnbopodahaaW.PrintLast Go.Proofs.YtcofgnbopodahaaW.PrintMore Go.Proofs.Ytcofgnbopodahaa.EvKit
set_option linter.unusedVariables false
set_option linter.unusedSimpArgs false
theorem comp_inc (l : List Int) (h : l.Pairwise (· ≤ ·)) : ∀ m, m ≤ l.length → (Go.Lib.compactUpTo l.toArray m).Pairwise (· < ·) ∧ ∀ v, v ∈ Go.Lib.compactUpTo l.toArray m ↔ ∃ j, j < m ∧ l.toArray[j]! = v := by
  intro m
  induction m with
  | zero => intro _; exact ⟨List.Pairwise.nil, fun v => ⟨fun hv => absurd hv (by simp [Go.Lib.compactUpTo]), fun ⟨j, hj, _⟩ => absurd hj (by omega)⟩⟩
  | succ m ih =>
    intro hm
    obtain ⟨i1, i2⟩ := ih (by omega)
    have hget : ∀ j, j < l.length → l.toArray[j]! = l.getD j 0 := fun j hj => by
      rw [getElem!_pos l.toArray j (by simpa using hj)]
      simp [hj]
    have mono : ∀ i j, i ≤ j → j < l.length → l.getD i 0 ≤ l.getD j 0 := fun i j hij hj => by
      rcases Nat.lt_or_eq_of_le hij with h1 | rfl
      · have := List.pairwise_iff_getElem.1 h i j (by omega) hj h1
        simpa [show i < l.length by omega, hj] using this
      · exact Int.le_refl _
    rw [Go.Lib.compactUpTo_succ]
    by_cases hk : Go.Lib.keeps l.toArray m = true
    · rw [if_pos hk]
      refine ⟨List.pairwise_append.2 ⟨i1, List.pairwise_singleton _ _, fun v hv u hu => ?_⟩, fun v => ?_⟩
      · obtain rfl := List.mem_singleton.1 hu
        obtain ⟨j, hj, rfl⟩ := (i2 v).1 hv
        simp only [Go.Lib.keeps, decide_eq_true_eq] at hk
        have q1 := mono j (m - 1) (by omega) (by omega)
        have q2 := mono (m - 1) m (by omega) (by omega)
        rw [hget j (by omega), hget m (by omega)]
        rcases hk with hk | hk
        · omega
        · rw [hget m (by omega), hget (m - 1) (by omega)] at hk
          omega
      · rw [List.mem_append, i2]
        constructor
        · rintro (⟨j, hj, e⟩ | hv)
          · exact ⟨j, by omega, e⟩
          · exact ⟨m, by omega, (List.mem_singleton.1 hv).symm⟩
        · rintro ⟨j, hj, e⟩
          by_cases hjm : j = m
          · subst hjm; exact .inr (by simp [e])
          · exact .inl ⟨j, by omega, e⟩
    · rw [if_neg hk, List.append_nil]
      refine ⟨i1, fun v => ?_⟩
      rw [i2]
      simp only [Go.Lib.keeps, decide_eq_true_eq, not_or, ne_eq, Decidable.not_not] at hk
      constructor
      · rintro ⟨j, hj, e⟩; exact ⟨j, by omega, e⟩
      · rintro ⟨j, hj, e⟩
        by_cases hjm : j = m
        · subst hjm; exact ⟨j - 1, by omega, by rw [← hk.2]; exact e⟩
        · exact ⟨j, by omega, e⟩
def cmpL (l : List Int) : List Int := Go.Lib.compactUpTo (insL l).toArray (insL l).length
theorem cmpL_inc (l : List Int) : (cmpL l).Pairwise (· < ·) := (comp_inc _ (insL_sorted l) _ (Nat.le_refl _)).1
theorem cmpL_mem (l : List Int) (v : Int) : v ∈ cmpL l ↔ v ∈ l := by
  unfold cmpL
  rw [(comp_inc _ (insL_sorted l) _ (Nat.le_refl _)).2, ← (insL_perm l).mem_iff, List.mem_iff_getElem]
  constructor
  · rintro ⟨j, hj, e⟩
    refine ⟨j, hj, ?_⟩
    rw [getElem!_pos (insL l).toArray j (by simpa using hj)] at e
    simpa using e
  · rintro ⟨j, hj, e⟩
    refine ⟨j, hj, ?_⟩
    rw [getElem!_pos (insL l).toArray j (by simpa using hj)]
    simpa using e
theorem segs_eq : ∀ l, segsI l = Md.segs l
  | [] => rfl
  | [_] => rfl
  | a :: b :: l => by
    have := segs_eq (b :: l)
    simp only [segsI, Md.segs, this]
theorem parts_eq (xs ys zs : List Int) : (partsB xs ys zs).map bx = Md.parts xs ys zs := by
  unfold partsB Md.parts
  simp only [fZ, fY, segs_eq, List.map_flatMap, List.map_map]
  rfl
theorem cutA_mem (p : S43 → Int × Int) (lo hi : Int) : ∀ (l : List S68) (out : List Int) (e : Int), e ∈ cutA p lo hi l out ↔ e ∈ out ∨ (∃ x ∈ l, e = (p x.f1).1 ∨ e = (p x.f1).2) ∧ lo < e ∧ e < hi
  | [], out, e => by simp [cutA]
  | x :: l, out, e => by
    unfold cutA
    rw [cutA_mem p lo hi l]
    simp only [List.mem_append, List.mem_filter, List.mem_cons, List.not_mem_nil, or_false, inC, Bool.and_eq_true, decide_eq_true_eq]
    constructor
    · rintro ((h | ⟨h, h1, h2⟩) | ⟨⟨y, hy, h⟩, h1, h2⟩)
      · exact .inl h
      · exact .inr ⟨⟨x, .inl rfl, h⟩, h1, h2⟩
      · exact .inr ⟨⟨y, .inr hy, h⟩, h1, h2⟩
    · rintro (h | ⟨⟨y, (rfl | hy), h⟩, h1, h2⟩)
      · exact .inl (.inl h)
      · exact .inl (.inr ⟨h, h1, h2⟩)
      · exact .inr ⟨⟨y, hy, h⟩, h1, h2⟩
theorem cutL_cut (p : S43 → Int × Int) {lo hi : Int} (hlt : lo < hi) (l : List S68) : Md.Cut lo hi (l.map (fun x => (p x.f1).1) ++ l.map (fun x => (p x.f1).2)) (cutL p lo hi l) := by
  have hm : ∀ e, e ∈ cutL p lo hi l ↔ e ∈ cutA p lo hi l [lo, hi] := fun e => cmpL_mem _ e
  refine Md.Cut.mk' (cmpL_inc _) ((hm lo).2 ((cutA_mem p lo hi l _ _).2 (.inl (by simp)))) ((hm hi).2 ((cutA_mem p lo hi l _ _).2 (.inl (by simp)))) (fun e he => ?_) (fun e he h1 h2 => ?_)
  · rcases (cutA_mem p lo hi l _ _).1 ((hm e).1 he) with h | ⟨_, _, _⟩
    · simp at h; omega
    · omega
  · refine (hm e).2 ((cutA_mem p lo hi l _ _).2 (.inr ⟨?_, h1, h2⟩))
    rcases List.mem_append.1 he with h | h
    · obtain ⟨x, hx, rfl⟩ := List.mem_map.1 h; exact ⟨x, hx, .inl rfl⟩
    · obtain ⟨x, hx, rfl⟩ := List.mem_map.1 h; exact ⟨x, hx, .inr rfl⟩
def xsL (b : S43) (l : List S68) : List Int := cutL endX b.f0.f0 b.f1.f0 l
def ysL (b : S43) (l : List S68) : List Int := cutL endY b.f0.f1 b.f1.f1 l
def zsL (b : S43) (l : List S68) : List Int := cutL endZ b.f0.f2 b.f1.f2 l
theorem cuts_is {b : S43} (hv : V b) (l : List S68) : Md.Cuts (bx b) (l.map ev) (xsL b l) (ysL b l) (zsL b l) :=
  ⟨by rw [List.map_map, List.map_map]; exact cutL_cut endX hv.l0 l, by rw [List.map_map, List.map_map]; exact cutL_cut endY hv.l1 l, by rw [List.map_map, List.map_map]; exact cutL_cut endZ hv.l2 l⟩
theorem near_ok {b : S43} {l : List S68} (h : ∀ x ∈ l, Ok x) : ∀ x ∈ nearL b l, Ok x := fun x hx => h x (List.mem_filter.1 hx).1
theorem near_st {b : S43} {l : List S68} (hk : ∀ x ∈ l, Ok x) {x y z : Int} (hb : Md.hasB (bx b) x y z = true) : Md.st ((nearL b l).map ev) x y z = Md.st (l.map ev) x y z :=
  Md.st_congr (ok_ev (near_ok hk)) (ok_ev hk) fun e he => by
    constructor
    · intro h
      obtain ⟨s, hs, rfl⟩ := List.mem_map.1 h
      exact List.mem_map.2 ⟨s, (List.mem_filter.1 hs).1, rfl⟩
    · intro h
      obtain ⟨s, hs, rfl⟩ := List.mem_map.1 h
      refine List.mem_map.2 ⟨s, List.mem_filter.2 ⟨hs, ?_⟩, rfl⟩
      obtain ⟨a0, a1, a2, a3, a4, a5⟩ := (Md.hasB_iff _ _ _ _).1 he
      obtain ⟨c0, c1, c2, c3, c4, c5⟩ := (Md.hasB_iff _ _ _ _).1 hb
      have mm : ∀ p q r s t : Int, p ≤ t → q ≤ t → t < r → t < s → mx p q < mn r s := by
        intro p q r s t h1 h2 h3 h4
        unfold mx mn
        split <;> split <;> omega
      have e1 : mx s.f1.f0.f0 b.f0.f0 < mn s.f1.f1.f0 b.f1.f0 := mm _ _ _ _ x a0 c0 a1 c1
      have e2 : mx s.f1.f0.f1 b.f0.f1 < mn s.f1.f1.f1 b.f1.f1 := mm _ _ _ _ y a2 c2 a3 c3
      have e3 : mx s.f1.f0.f2 b.f0.f2 < mn s.f1.f1.f2 b.f1.f2 := mm _ _ _ _ z a4 c4 a5 c5
      unfold ovB
      rw [decide_eq_true e1, decide_eq_true e2, decide_eq_true e3]
      rfl
def plist (b : S43) (l : List S68) : List S43 := partsB (xsL b l) (ysL b l) (zsL b l)
def readyE (l : List S68) (b : S43) (n : Int) : Int := if chkE l = 0 then (if chk b = 0 then (if okN n = true then 0 else 1) else chk b) else chkE l
structure Ready (l : List S68) (b : S43) : Prop where
  n : l.length ≤ 256
  o : ∀ x ∈ l, Ok x
  v : V b
theorem ready_of {l : List S68} {b : S43} {n : Int} (h : readyE l b n = 0) : Ready l b := by
  unfold readyE at h
  by_cases h1 : chkE l = 0
  · rw [if_pos h1] at h
    by_cases h2 : chk b = 0
    · exact ⟨((chkE0 l).1 h1).1, ((chkE0 l).1 h1).2, (chk0 b).1 h2⟩
    · rw [if_neg h2] at h; exact absurd h h2
  · rw [if_neg h1] at h; exact absurd h h1
section
variable {l : List S68} {b : S43} {n : Int}
theorem vb (h : Ready l b) : Md.Val (bx b) := ⟨h.v.l0, h.v.l1, h.v.l2⟩
end
end Go.Proofs.Ytcofgnbopodahaa.Mp
