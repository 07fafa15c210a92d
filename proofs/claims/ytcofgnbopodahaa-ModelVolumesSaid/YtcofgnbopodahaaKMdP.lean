import Derived.Test.YtcofgnbopodahaaKMdQ
import Derived.Test.YtcofgnbopodahaaKQAx8
import Derived.Test.YtcofgnbopodahaaKQAx9
import Derived.Test.YtcofgnbopodahaaKQAx20
import Derived.Test.YtcofgnbopodahaaKQAx7
import Derived.Test.YtcofgnbopodahaaKQAx6
namespace Go.Proofs.Ytcofgnbopodahaa.Mp
open Go.RowKit Go.Proofs.Ytcofgnbopodahaa.QA Go.Proofs.YtcofgnbopodahaaW.PrintWords Go.Proofs.YtcofgnbopodahaaW.PrintLast Go.Proofs.YtcofgnbopodahaaW.PrintMore Go.Proofs.Ytcofgnbopodahaa.EvKit
set_option linter.unusedVariables false
set_option linter.unusedSimpArgs false
theorem comp_inc (l : List Int) (h : l.Pairwise (· ≤ ·)) : ∀ m, m ≤ l.length → (Go.Lib.compactUpTo l.toArray m).Pairwise (· < ·) ∧ ∀ v, v ∈ Go.Lib.compactUpTo l.toArray m ↔ ∃ j, j < m ∧ l.toArray[j]! = v := by
  intro m
  induction m with
  | zero => intro _; exact ⟨List.Pairwise.nil, fun v => ⟨fun hv => absurd hv (by simp [Go.Lib.compactUpTo]), fun ⟨j, hj, _⟩ => absurd hj (by omega)⟩⟩
  | succ m ih =>
    intro hm
    obtain ⟨i1, i2⟩ := ih (by omega)
    have hget : ∀ j, j < l.length → l.toArray[j]! = l.getD j 0 := fun j hj => by
      rw [getElem!_pos l.toArray j (by simpa using hj)]
      simp [hj]
    have mono : ∀ i j, i ≤ j → j < l.length → l.getD i 0 ≤ l.getD j 0 := fun i j hij hj => by
      rcases Nat.lt_or_eq_of_le hij with h1 | rfl
      · have := List.pairwise_iff_getElem.1 h i j (by omega) hj h1
        simpa [show i < l.length by omega, hj] using this
      · exact Int.le_refl _
    rw [Go.Lib.compactUpTo_succ]
    by_cases hk : Go.Lib.keeps l.toArray m = true
    · rw [if_pos hk]
      refine ⟨List.pairwise_append.2 ⟨i1, List.pairwise_singleton _ _, fun v hv u hu => ?_⟩, fun v => ?_⟩
      · obtain rfl := List.mem_singleton.1 hu
        obtain ⟨j, hj, rfl⟩ := (i2 v).1 hv
        simp only [Go.Lib.keeps, decide_eq_true_eq] at hk
        have q1 := mono j (m - 1) (by omega) (by omega)
        have q2 := mono (m - 1) m (by omega) (by omega)
        rw [hget j (by omega), hget m (by omega)]
        rcases hk with hk | hk
        · omega
        · rw [hget m (by omega), hget (m - 1) (by omega)] at hk
          omega
      · rw [List.mem_append, i2]
        constructor
        · rintro (⟨j, hj, e⟩ | hv)
          · exact ⟨j, by omega, e⟩
          · exact ⟨m, by omega, (List.mem_singleton.1 hv).symm⟩
        · rintro ⟨j, hj, e⟩
          by_cases hjm : j = m
          · subst hjm; exact .inr (by simp [e])
          · exact .inl ⟨j, by omega, e⟩
    · rw [if_neg hk, List.append_nil]
      refine ⟨i1, fun v => ?_⟩
      rw [i2]
      simp only [Go.Lib.keeps, decide_eq_true_eq, not_or, ne_eq, Decidable.not_not] at hk
      constructor
      · rintro ⟨j, hj, e⟩; exact ⟨j, by omega, e⟩
      · rintro ⟨j, hj, e⟩
        by_cases hjm : j = m
        · subst hjm; exact ⟨j - 1, by omega, by rw [← hk.2]; exact e⟩
        · exact ⟨j, by omega, e⟩
def cmpL (l : List Int) : List Int := Go.Lib.compactUpTo (insL l).toArray (insL l).length
theorem cmpL_inc (l : List Int) : (cmpL l).Pairwise (· < ·) := (comp_inc _ (insL_sorted l) _ (Nat.le_refl _)).1
theorem cmpL_mem (l : List Int) (v : Int) : v ∈ cmpL l ↔ v ∈ l := by
  unfold cmpL
  rw [(comp_inc _ (insL_sorted l) _ (Nat.le_refl _)).2, ← (insL_perm l).mem_iff, List.mem_iff_getElem]
  constructor
  · rintro ⟨j, hj, e⟩
    refine ⟨j, hj, ?_⟩
    rw [getElem!_pos (insL l).toArray j (by simpa using hj)] at e
    simpa using e
  · rintro ⟨j, hj, e⟩
    refine ⟨j, hj, ?_⟩
    rw [getElem!_pos (insL l).toArray j (by simpa using hj)]
    simpa using e
theorem segs_eq : ∀ l, segsI l = Md.segs l
  | [] => rfl
  | [_] => rfl
  | a :: b :: l => by
    have := segs_eq (b :: l)
    simp only [segsI, Md.segs, this]
theorem parts_eq (xs ys zs : List Int) : (partsB xs ys zs).map bx = Md.parts xs ys zs := by
  unfold partsB Md.parts
  simp only [fZ, fY, segs_eq, List.map_flatMap, List.map_map]
  rfl
theorem cutA_mem (p : S43 → Int × Int) (lo hi : Int) : ∀ (l : List S68) (out : List Int) (e : Int), e ∈ cutA p lo hi l out ↔ e ∈ out ∨ (∃ x ∈ l, e = (p x.f1).1 ∨ e = (p x.f1).2) ∧ lo < e ∧ e < hi
  | [], out, e => by simp [cutA]
  | x :: l, out, e => by
    unfold cutA
    rw [cutA_mem p lo hi l]
    simp only [List.mem_append, List.mem_filter, List.mem_cons, List.not_mem_nil, or_false, inC, Bool.and_eq_true, decide_eq_true_eq]
    constructor
    · rintro ((h | ⟨h, h1, h2⟩) | ⟨⟨y, hy, h⟩, h1, h2⟩)
      · exact .inl h
      · exact .inr ⟨⟨x, .inl rfl, h⟩, h1, h2⟩
      · exact .inr ⟨⟨y, .inr hy, h⟩, h1, h2⟩
    · rintro (h | ⟨⟨y, (rfl | hy), h⟩, h1, h2⟩)
      · exact .inl (.inl h)
      · exact .inl (.inr ⟨h, h1, h2⟩)
      · exact .inr ⟨⟨y, hy, h⟩, h1, h2⟩
theorem cutL_cut (p : S43 → Int × Int) {lo hi : Int} (hlt : lo < hi) (l : List S68) : Md.Cut lo hi (l.map (fun x => (p x.f1).1) ++ l.map (fun x => (p x.f1).2)) (cutL p lo hi l) := by
  have hm : ∀ e, e ∈ cutL p lo hi l ↔ e ∈ cutA p lo hi l [lo, hi] := fun e => cmpL_mem _ e
  refine Md.Cut.mk' (cmpL_inc _) ((hm lo).2 ((cutA_mem p lo hi l _ _).2 (.inl (by simp)))) ((hm hi).2 ((cutA_mem p lo hi l _ _).2 (.inl (by simp)))) (fun e he => ?_) (fun e he h1 h2 => ?_)
  · rcases (cutA_mem p lo hi l _ _).1 ((hm e).1 he) with h | ⟨_, _, _⟩
    · simp at h; omega
    · omega
  · refine (hm e).2 ((cutA_mem p lo hi l _ _).2 (.inr ⟨?_, h1, h2⟩))
    rcases List.mem_append.1 he with h | h
    · obtain ⟨x, hx, rfl⟩ := List.mem_map.1 h; exact ⟨x, hx, .inl rfl⟩
    · obtain ⟨x, hx, rfl⟩ := List.mem_map.1 h; exact ⟨x, hx, .inr rfl⟩
def xsL (b : S43) (l : List S68) : List Int := cutL endX b.f0.f0 b.f1.f0 l
def ysL (b : S43) (l : List S68) : List Int := cutL endY b.f0.f1 b.f1.f1 l
def zsL (b : S43) (l : List S68) : List Int := cutL endZ b.f0.f2 b.f1.f2 l
theorem cuts_is {b : S43} (hv : V b) (l : List S68) : Md.Cuts (bx b) (l.map ev) (xsL b l) (ysL b l) (zsL b l) :=
  ⟨by rw [List.map_map, List.map_map]; exact cutL_cut endX hv.l0 l, by rw [List.map_map, List.map_map]; exact cutL_cut endY hv.l1 l, by rw [List.map_map, List.map_map]; exact cutL_cut endZ hv.l2 l⟩
theorem near_ok {b : S43} {l : List S68} (h : ∀ x ∈ l, Ok x) : ∀ x ∈ nearL b l, Ok x := fun x hx => h x (List.mem_filter.1 hx).1
theorem near_st {b : S43} {l : List S68} (hk : ∀ x ∈ l, Ok x) {x y z : Int} (hb : Md.hasB (bx b) x y z = true) : Md.st ((nearL b l).map ev) x y z = Md.st (l.map ev) x y z :=
  Md.st_congr (ok_ev (near_ok hk)) (ok_ev hk) fun e he => by
    constructor
    · intro h
      obtain ⟨s, hs, rfl⟩ := List.mem_map.1 h
      exact List.mem_map.2 ⟨s, (List.mem_filter.1 hs).1, rfl⟩
    · intro h
      obtain ⟨s, hs, rfl⟩ := List.mem_map.1 h
      refine List.mem_map.2 ⟨s, List.mem_filter.2 ⟨hs, ?_⟩, rfl⟩
      obtain ⟨a0, a1, a2, a3, a4, a5⟩ := (Md.hasB_iff _ _ _ _).1 he
      obtain ⟨c0, c1, c2, c3, c4, c5⟩ := (Md.hasB_iff _ _ _ _).1 hb
      have mm : ∀ p q r s t : Int, p ≤ t → q ≤ t → t < r → t < s → mx p q < mn r s := by
        intro p q r s t h1 h2 h3 h4
        unfold mx mn
        split <;> split <;> omega
      have e1 : mx s.f1.f0.f0 b.f0.f0 < mn s.f1.f1.f0 b.f1.f0 := mm _ _ _ _ x a0 c0 a1 c1
      have e2 : mx s.f1.f0.f1 b.f0.f1 < mn s.f1.f1.f1 b.f1.f1 := mm _ _ _ _ y a2 c2 a3 c3
      have e3 : mx s.f1.f0.f2 b.f0.f2 < mn s.f1.f1.f2 b.f1.f2 := mm _ _ _ _ z a4 c4 a5 c5
      unfold ovB
      rw [decide_eq_true e1, decide_eq_true e2, decide_eq_true e3]
      rfl
def plist (b : S43) (l : List S68) : List S43 := partsB (xsL b l) (ysL b l) (zsL b l)
theorem part_ok {b : S43} (hv : V b) (l : List S68) {p : S43} (hp : p ∈ plist b l) : V p := by
  have hm : bx p ∈ Md.parts (xsL b l) (ysL b l) (zsL b l) := by rw [← parts_eq]; exact List.mem_map.2 ⟨p, hp, rfl⟩
  obtain ⟨⟨v0, v1, v2⟩, a0, a1, a2, b0, b1, b2⟩ := (cuts_is hv l).part hm
  obtain ⟨r0, r1, r2, r3, r4, r5, l0, l1, l2⟩ := hv
  simp only [bx] at *
  exact ⟨by omega, by omega, by omega, by omega, by omega, by omega, v0, v1, v2⟩
theorem mul_bd {a b m n : Int} (ha : 0 ≤ a) (hm : a ≤ m) (hb : 0 ≤ b) (hn : b ≤ n) : 0 ≤ a * b ∧ a * b ≤ m * n :=
  ⟨Int.mul_nonneg ha hb, Int.mul_le_mul hm hn hb (by omega)⟩
theorem whole_is {x : S43} (hv : V x) : wrap64 (wrap64 (wrap64 (x.f1.f0 - x.f0.f0) * wrap64 (x.f1.f1 - x.f0.f1)) * wrap64 (x.f1.f2 - x.f0.f2)) = Md.vol (bx x) ∧ 0 < Md.vol (bx x) ∧ Md.vol (bx x) ≤ 8000000000000000000 := by
  obtain ⟨r0, r1, r2, r3, r4, r5, l0, l1, l2⟩ := hv
  have e0 : wrap64 (x.f1.f0 - x.f0.f0) = x.f1.f0 - x.f0.f0 := w64 (by omega) (by omega)
  have e1 : wrap64 (x.f1.f1 - x.f0.f1) = x.f1.f1 - x.f0.f1 := w64 (by omega) (by omega)
  have e2 : wrap64 (x.f1.f2 - x.f0.f2) = x.f1.f2 - x.f0.f2 := w64 (by omega) (by omega)
  have p1 := mul_bd (a := x.f1.f0 - x.f0.f0) (b := x.f1.f1 - x.f0.f1) (m := 2000000) (n := 2000000) (by omega) (by omega) (by omega) (by omega)
  have p2 := mul_bd (a := (x.f1.f0 - x.f0.f0) * (x.f1.f1 - x.f0.f1)) (b := x.f1.f2 - x.f0.f2) (m := 4000000000000) (n := 2000000) p1.1 (by omega) (by omega) (by omega)
  have ev : Md.vol (bx x) = (x.f1.f0 - x.f0.f0) * (x.f1.f1 - x.f0.f1) * (x.f1.f2 - x.f0.f2) := rfl
  have p3 : 0 < Md.vol (bx x) := by rw [ev]; exact Int.mul_pos (Int.mul_pos (by omega) (by omega)) (by omega)
  refine ⟨?_, p3, by rw [ev]; omega⟩
  have q1 : wrap64 ((x.f1.f0 - x.f0.f0) * (x.f1.f1 - x.f0.f1)) = (x.f1.f0 - x.f0.f0) * (x.f1.f1 - x.f0.f1) := w64 (by omega) (by omega)
  have q2 : wrap64 ((x.f1.f0 - x.f0.f0) * (x.f1.f1 - x.f0.f1) * (x.f1.f2 - x.f0.f2)) = Md.vol (bx x) := w64 (by omega) (by omega)
  rw [e0, e1, e2, q1, q2]
theorem vol_is {x : S43} (hv : V x) : box_Volume.f x.f0.f0 x.f0.f1 x.f0.f2 x.f1.f0 x.f1.f1 x.f1.f2 = some (Md.vol (bx x), 0) := by
  have h : box_volume.f x.f0.f0 x.f0.f1 x.f0.f2 x.f1.f0 x.f1.f1 x.f1.f2 = some (Md.vol (bx x)) := by
    rw [← (whole_is hv).1]; rfl
  simp only [box_Volume.f, check_is, (chk0 x).2 hv, Option.bind_some, h, if_true]
def gV (l : List S68) (n : Int) (q : Md.Bx) : Int := if Md.st (l.map ev) q.a0 q.a1 q.a2 = n then Md.vol q else 0
theorem gV_nonneg (l : List S68) (n : Int) : ∀ L : List S43, (∀ p ∈ L, V p) → 0 ≤ Md.sumL (gV l n) (L.map bx)
  | [], _ => Int.le_refl 0
  | p :: L, h => by
    have h1 := gV_nonneg l n L fun q hq => h q (List.mem_cons_of_mem _ hq)
    have h2 := (whole_is (h p List.mem_cons_self)).2.1
    simp only [List.map_cons, Md.sumL]
    unfold gV
    split <;> (unfold gV at h1; omega)
theorem yl_vol (l : List S68) (n : Int) (hl : l.length < 1000000) : ∀ (L : List S43) (s : Int), (∀ p ∈ L, V p) → 0 ≤ s → s + Md.sumL (gV l n) (L.map bx) ≤ 8000000000000000000 →
    Ev (fun k => yl (fun p => model_at.f k l p.f0.f0 p.f0.f1 p.f0.f2) (volStep n) L s) (s + Md.sumL (gV l n) (L.map bx))
  | [], s, _, _, _ => by
    simp only [yl, List.map_nil, Md.sumL, Int.add_zero]
    exact Ev.now _
  | p :: L, s, h, h0, hm => by
    have hp := h p List.mem_cons_self
    have hL : ∀ q ∈ L, V q := fun q hq => h q (List.mem_cons_of_mem _ hq)
    have h1 := gV_nonneg l n L hL
    have h2 := (whole_is hp).2
    simp only [yl]
    simp only [List.map_cons, Md.sumL] at hm ⊢
    refine Ev.bind (at_ev l _ _ _ hl) ?_
    by_cases hs : stL l p.f0.f0 p.f0.f1 p.f0.f2 = n
    · have e : gV l n (bx p) = Md.vol (bx p) := if_pos hs
      rw [e] at hm ⊢
      have hv : volStep n s p (stL l p.f0.f0 p.f0.f1 p.f0.f2) = some (s + Md.vol (bx p), true) := by
        unfold volStep
        rw [if_pos hs, vol_is hp, Option.bind_some, w64 (by omega) (by omega)]
      refine Ev.cbind hv (Ev.pos rfl (Ev.eq (yl_vol l n hl L (s + Md.vol (bx p)) hL (by omega) (by omega)) (by omega)))
    · have e : gV l n (bx p) = 0 := if_neg hs
      rw [e] at hm ⊢
      have hv : volStep n s p (stL l p.f0.f0 p.f0.f1 p.f0.f2) = some (s, true) := if_neg hs
      refine Ev.cbind hv (Ev.pos rfl (Ev.eq (yl_vol l n hl L s hL h0 (by omega)) (by omega)))
theorem yl_all (l : List S68) (n : Int) (hl : l.length < 1000000) : ∀ (L : List S43) (s : Bool),
    Ev (fun k => yl (fun p => model_at.f k l p.f0.f0 p.f0.f1 p.f0.f2) (allStep n) L s) (s && L.all fun p => stL l p.f0.f0 p.f0.f1 p.f0.f2 == n)
  | [], s => by
    simp only [yl, List.all_nil, Bool.and_true]
    exact Ev.now _
  | p :: L, s => by
    simp only [yl, List.all_cons]
    refine Ev.bind (at_ev l _ _ _ hl) (Ev.cbind (show allStep n s p _ = some _ from rfl) ?_)
    rw [← Bool.and_assoc]
    cases hc : (s && (stL l p.f0.f0 p.f0.f1 p.f0.f2 == n)) with
    | true => exact Ev.pos rfl (Ev.eq (yl_all l n hl L true) rfl)
    | false => exact Ev.neg (by simp) (Ev.now _)
theorem before_is (a0 a1 a2 b0 b1 b2 : Int) : model_before.f a0 a1 a2 b0 b1 b2 = some (Md.bef a0 a1 a2 b0 b1 b2) := by
  unfold model_before.f Md.bef
  by_cases h : a2 = b2
  · by_cases h' : a1 = b1
    · simp [h, h']
    · simp [h, h']
  · simp [h]
def Rf (s : Bool × S24) : Option Md.Bx → Prop
  | none => s.1 = false
  | some q => s.1 = true ∧ s.2 = ⟨q.a0, q.a1, q.a2⟩
def qF (l : List S68) (n : Int) (p : Md.Bx) : Bool := decide (Md.st (l.map ev) p.a0 p.a1 p.a2 = n)
theorem yl_fst (l : List S68) (n : Int) (hl : l.length < 1000000) : ∀ (L : List S43) (s : Bool × S24) (o : Option Md.Bx), Rf s o →
    ∃ s', Ev (fun k => yl (fun p => model_at.f k l p.f0.f0 p.f0.f1 p.f0.f2) (fstStep n) L s) s' ∧ Rf s' (Md.fst (qF l n) (L.map bx) o)
  | [], s, o, h => ⟨s, Ev.now _, by cases o <;> exact h⟩
  | p :: L, s, o, h => by
    simp only [yl, List.map_cons]
    have key : ∀ (s2 : Bool × S24) (o2 : Option Md.Bx), fstStep n s p (stL l p.f0.f0 p.f0.f1 p.f0.f2) = some (s2, true) → Rf s2 o2 → Md.fst (qF l n) (bx p :: L.map bx) o = Md.fst (qF l n) (L.map bx) o2 →
        ∃ s', Ev (fun k => (model_at.f k l p.f0.f0 p.f0.f1 p.f0.f2).bind fun m => (fstStep n s p m).bind fun r => if r.2 = true then yl (fun p => model_at.f k l p.f0.f0 p.f0.f1 p.f0.f2) (fstStep n) L r.1 else some r.1) s' ∧ Rf s' (Md.fst (qF l n) (bx p :: L.map bx) o) := by
      intro s2 o2 h1 h2 h3
      obtain ⟨s', e', r'⟩ := yl_fst l n hl L s2 o2 h2
      refine ⟨s', Ev.bind (at_ev l _ _ _ hl) (Ev.cbind h1 (Ev.pos rfl e')), ?_⟩
      rw [h3]; exact r'
    by_cases hs : stL l p.f0.f0 p.f0.f1 p.f0.f2 = n
    · have hq : qF l n (bx p) = true := decide_eq_true hs
      cases o with
      | none =>
        have h1 : s.1 = false := h
        refine key (true, p.f0) (some (bx p)) ?_ ⟨rfl, rfl⟩ ?_
        · unfold fstStep
          rw [if_pos hs, if_neg (by simp [h1])]
        · rw [Md.fst, if_pos hq]
      | some q =>
        obtain ⟨h1, h2⟩ := h
        by_cases hb : Md.bef p.f0.f0 p.f0.f1 p.f0.f2 q.a0 q.a1 q.a2 = true
        · refine key (true, p.f0) (some (bx p)) ?_ ⟨rfl, rfl⟩ ?_
          · unfold fstStep
            rw [if_pos hs, if_pos h1, h2, before_is, Option.bind_some, if_pos hb]
          · rw [Md.fst, if_pos ⟨hq, hb⟩]
        · refine key s (some q) ?_ ⟨h1, h2⟩ ?_
          · unfold fstStep
            rw [if_pos hs, if_pos h1, h2, before_is, Option.bind_some, if_neg hb]
          · rw [Md.fst, if_neg fun h => hb h.2]
    · have hq : qF l n (bx p) = false := decide_eq_false hs
      refine key s o (if_neg hs) h ?_
      cases o with
      | none => rw [Md.fst, if_neg (by simp [hq])]
      | some q => rw [Md.fst, if_neg (by simp [hq])]
def readyE (l : List S68) (b : S43) (n : Int) : Int := if chkE l = 0 then (if chk b = 0 then (if okN n = true then 0 else 1) else chk b) else chkE l
theorem ready_ev (l : List S68) (b : S43) (n : Int) : Ev (fun k => model_ready.f k l b.f0.f0 b.f0.f1 b.f0.f2 b.f1.f0 b.f1.f1 b.f1.f2 n) (readyE l b n) := by
  unfold model_ready.f
  refine Ev.bind (Check_ev l) ?_
  by_cases h : chkE l = 0
  · refine Ev.pos h (Ev.cbind (check_is b) ?_)
    by_cases h2 : chk b = 0
    · refine Ev.pos h2 (Ev.cbind (state_eq n) ?_)
      by_cases h3 : okN n = true
      · exact Ev.pos h3 (Ev.eq (Ev.now _) (by unfold readyE; rw [if_pos h, if_pos h2, if_pos h3]))
      · exact Ev.neg h3 (Ev.eq (Ev.now _) (by unfold readyE; rw [if_pos h, if_pos h2, if_neg h3]))
    · exact Ev.neg h2 (Ev.eq (Ev.now _) (by unfold readyE; rw [if_pos h, if_neg h2]))
  · exact Ev.neg h (Ev.eq (Ev.now _) (by unfold readyE; rw [if_neg h]))
structure Ready (l : List S68) (b : S43) : Prop where
  n : l.length ≤ 256
  o : ∀ x ∈ l, Ok x
  v : V b
theorem ready_of {l : List S68} {b : S43} {n : Int} (h : readyE l b n = 0) : Ready l b := by
  unfold readyE at h
  by_cases h1 : chkE l = 0
  · rw [if_pos h1] at h
    by_cases h2 : chk b = 0
    · exact ⟨((chkE0 l).1 h1).1, ((chkE0 l).1 h1).2, (chk0 b).1 h2⟩
    · rw [if_neg h2] at h; exact absurd h h2
  · rw [if_neg h1] at h; exact absurd h h1
section
variable {l : List S68} {b : S43} {n : Int}
theorem near_len (h : Ready l b) : (nearL b l).length < 1000000 := by
  have := List.length_filter_le (fun x : S68 => ovB x.f1 b) l
  have := h.n
  unfold nearL
  omega
theorem cnt_near (h : Ready l b) : Md.sumL (gV (nearL b l) n) ((plist b (nearL b l)).map bx) = Md.cnt (l.map ev) (bx b) n := by
  have e := Md.cnt_parts (cuts_is h.v (nearL b l)) n
  rw [plist, parts_eq, Md.cnt_congr (fun x y z hb => (near_st h.o hb).symm), e]
  rfl
theorem vb (h : Ready l b) : Md.Val (bx b) := ⟨h.v.l0, h.v.l1, h.v.l2⟩
theorem cnt_small (h : Ready l b) : 0 ≤ Md.cnt (l.map ev) (bx b) n ∧ Md.cnt (l.map ev) (bx b) n ≤ 8000000000000000000 := by
  have := Md.cnt_nonneg (l.map ev) (bx b) n
  have := Md.cnt_le (n := n) (ok_ev h.o) (vb h)
  have := (whole_is h.v).2.2
  omega
theorem Volume_ev (hr : readyE l b n = 0) : Ev (fun k => model_Volume.f k l b.f0.f0 b.f0.f1 b.f0.f2 b.f1.f0 b.f1.f1 b.f1.f2 n) (Md.cnt (l.map ev) (bx b) n, 0) := by
  have h := ready_of hr
  have hc := cnt_near (n := n) h
  have hs := cnt_small (n := n) h
  have y := yl_vol (nearL b l) n (near_len h) (plist b (nearL b l)) 0 (fun p hp => part_ok h.v _ hp) (by decide) (by omega)
  rw [hc, Int.zero_add] at y
  have hn := h.n
  unfold model_Volume.f
  exact Ev.bind (ready_ev l b n) (Ev.pos hr (Ev.pos (by omega) (Ev.bind y (Ev.now _))))
theorem Volume_no (hr : readyE l b n ≠ 0) : Ev (fun k => model_Volume.f k l b.f0.f0 b.f0.f1 b.f0.f2 b.f1.f0 b.f1.f1 b.f1.f2 n) (0, readyE l b n) := by
  unfold model_Volume.f
  exact Ev.bind (ready_ev l b n) (Ev.neg hr (Ev.now _))
theorem All_ev (hr : readyE l b n = 0) : ∃ r, Ev (fun k => model_All.f k l b.f0.f0 b.f0.f1 b.f0.f2 b.f1.f0 b.f1.f1 b.f1.f2 n) (r, 0) ∧ (r = true ↔ ∀ x y z, Md.hasB (bx b) x y z = true → Md.st (l.map ev) x y z = n) := by
  have h := ready_of hr
  have y := yl_all (nearL b l) n (near_len h) (plist b (nearL b l)) true
  have hn := h.n
  rw [Bool.true_and] at y
  refine ⟨(plist b (nearL b l)).all fun p => stL (nearL b l) p.f0.f0 p.f0.f1 p.f0.f2 == n, ?_, ?_⟩
  · unfold model_All.f
    exact Ev.bind (ready_ev l b n) (Ev.pos hr (Ev.pos (by omega) (Ev.bind y (Ev.now _))))
  · rw [List.all_eq_true]
    have hc := cuts_is h.v (nearL b l)
    constructor
    · intro ha x y z hb
      obtain ⟨q, hq, hx⟩ := hc.find hb
      rw [← parts_eq] at hq
      obtain ⟨p, hp, rfl⟩ := List.mem_map.1 hq
      have e := hc.st (by rw [← parts_eq]; exact List.mem_map.2 ⟨p, hp, rfl⟩) hx
      rw [← near_st h.o hb, e]
      exact beq_iff_eq.1 (ha p hp)
    · intro ha p hp
      have hm : bx p ∈ Md.parts (xsL b (nearL b l)) (ysL b (nearL b l)) (zsL b (nearL b l)) := by rw [← parts_eq]; exact List.mem_map.2 ⟨p, hp, rfl⟩
      have hl := (hc.least hm).2
      have := ha _ _ _ hl
      rw [← near_st h.o hl] at this
      exact beq_iff_eq.2 this
theorem First_ev (hr : readyE l b n = 0) :
    (∃ x y z, Md.Least (fun x y z => Md.hasB (bx b) x y z = true ∧ Md.st (l.map ev) x y z = n) x y z ∧ Ev (fun k => model_First.f k l b.f0.f0 b.f0.f1 b.f0.f2 b.f1.f0 b.f1.f1 b.f1.f2 n) (x, y, z, 0)) ∨
    ((∀ x y z, Md.hasB (bx b) x y z = true → Md.st (l.map ev) x y z ≠ n) ∧ Ev (fun k => model_First.f k l b.f0.f0 b.f0.f1 b.f0.f2 b.f1.f0 b.f1.f1 b.f1.f2 n) (0, 0, 0, 9)) := by
  have h := ready_of hr
  obtain ⟨s', y, hR⟩ := yl_fst (nearL b l) n (near_len h) (plist b (nearL b l)) (false, ⟨0, 0, 0⟩) none rfl
  have hn := h.n
  have hf := Md.fst_least (cuts_is h.v (nearL b l)) n
  have e : (plist b (nearL b l)).map bx = Md.parts (xsL b (nearL b l)) (ysL b (nearL b l)) (zsL b (nearL b l)) := parts_eq _ _ _
  rw [e] at hR
  have eq : qF (nearL b l) n = fun p => decide (Md.st ((nearL b l).map ev) p.a0 p.a1 p.a2 = n) := rfl
  rw [← eq] at hf
  cases hz : Md.fst (qF (nearL b l) n) (Md.parts (xsL b (nearL b l)) (ysL b (nearL b l)) (zsL b (nearL b l))) none with
  | none =>
    rw [hz] at hR hf
    have h1 : s'.1 = false := hR
    refine .inr ⟨fun x y z hb => by rw [← near_st h.o hb]; exact hf x y z hb, ?_⟩
    unfold model_First.f
    exact Ev.bind (ready_ev l b n) (Ev.pos hr (Ev.pos (by omega) (Ev.bind y (Ev.neg (by simp [h1]) (Ev.now _)))))
  | some q =>
    rw [hz] at hR hf
    obtain ⟨h1, h2⟩ := hR
    refine .inl ⟨q.a0, q.a1, q.a2, ⟨⟨hf.h.1, by rw [← near_st h.o hf.h.1]; exact hf.h.2⟩, fun x y z hp => hf.m x y z ⟨hp.1, by rw [near_st h.o hp.1]; exact hp.2⟩⟩, ?_⟩
    unfold model_First.f
    refine Ev.bind (ready_ev l b n) (Ev.pos hr (Ev.pos (by omega) (Ev.bind y (Ev.pos h1 ?_))))
    rw [h2]
    exact Ev.now _
end
end Go.Proofs.Ytcofgnbopodahaa.Mp
