/-
  Hulls: what the program's chain and Hull come to.
-/
import Derived.Test.YtcembjgpcbodcaaZHl2
import Derived.Test.YtcembjgpcbodcaaZQAx8
import Derived.Test.YtcembjgpcbodcaaZQAx9
import Derived.Test.YtcembjgpcbodcaaZQAx2
import Derived.Test.YtcembjgpcbodcaaZQAx6
import Derived.Test.YtcembjgpcbodcaaZQAx7
namespace Go.Proofs.Ytcembjgpcbodcaa.Hl
open Go.RowKit Go.Proofs.Ytcembjgpcbodcaa.QA Go.Proofs.YtcembjgpcbodcaaW.PrintWords Go.Proofs.Ytcembjgpcbodcaa.EvKit
set_option linter.unusedVariables false
set_option linter.unusedSimpArgs false
theorem ifs {α : Type} {f g : Nat → Option α} {r s : α} {c : Prop} [Decidable c] (h1 : c → Ev f r) (h2 : ¬ c → Ev g s) : Ev (fun k => if c then f k else g k) (if c then r else s) := by
  by_cases hc : c
  · rw [if_pos hc]; exact Ev.pos hc (h1 hc)
  · rw [if_neg hc]; exact Ev.neg hc (h2 hc)
theorem drop_cons {α : Type} (l : List α) (i : Nat) (d : α) (h : i < l.length) : l.drop i = l.getD i d :: l.drop (i + 1) := by
  rw [List.drop_eq_getElem_cons h, List.getD_eq_getElem?_getD, List.getElem?_eq_getElem h]; rfl
theorem stp {i : Nat} (h : i ≤ 1000000) : wrap64 ((i : Int) + 1) = ((i + 1 : Nat) : Int) := by rw [w64 (by omega) (by omega)]; omega
theorem ori_le {a b c : S23} (ha : Pg.okP a) (hb : Pg.okP b) (hc : Pg.okP c) : Pg.ori a b c ≤ 0 ↔ D a b c ≤ 0 := by
  have e : Pg.oriN a b c = D a b c := Pg.oriN_is ha hb hc
  unfold Pg.ori Pg.sgn
  rw [e]
  split
  · constructor <;> intro h <;> omega
  · split <;> constructor <;> intro h <;> omega
theorem pop_sub (p : S23) : ∀ (st : List S23) (q : S23), q ∈ pop st p → q ∈ st
  | [], q, h => h
  | [a], q, h => h
  | m :: l :: st, q, h => by
    rw [pop] at h
    by_cases hd : D l m p ≤ 0
    · rw [if_pos hd] at h
      have := pop_sub p (l :: st) q h
      simp at this ⊢; exact .inr this
    · rw [if_neg hd] at h; exact h
theorem pop_len (p : S23) : ∀ st : List S23, (pop st p).length ≤ st.length
  | [] => Nat.le_refl _
  | [a] => Nat.le_refl _
  | m :: l :: st => by
    rw [pop]
    split
    · have := pop_len p (l :: st); simp at this ⊢; omega
    · exact Nat.le_refl _
theorem chain_l1 (L : List S23) (i : Nat) (p : S23) (R : List S23) (hp : Pg.okP p) (hi : i ≤ 1000000) : ∀ st : List S23, (∀ q ∈ st, Pg.okP q) → st.length ≤ 1000000 → Ev (fun k => polygon_chain.j2 k (pop st p).reverse L (L.length : Int) (i : Int) p.f0 p.f1) R → Ev (fun k => polygon_chain.l1 k st.reverse L (L.length : Int) (i : Int) p.f0 p.f1) R
  | [], _, _, hR => by
    refine Ev.succ ?_
    simp only [polygon_chain.l1]
    exact Ev.neg (by simp) hR
  | [a], _, _, hR => by
    refine Ev.succ ?_
    simp only [polygon_chain.l1]
    exact Ev.neg (by simp) hR
  | m :: l :: st, hok, hlen, hR => by
    have hlen' : (m :: l :: st).length = st.length + 2 := rfl
    have hrl : (m :: l :: st).reverse.length = st.length + 2 := by rw [List.length_reverse]; rfl
    refine Ev.succ ?_
    simp only [polygon_chain.l1]
    rw [hrl, w64 (n := ((st.length + 2 : Nat) : Int) - 2) (by omega) (by omega), w64 (n := ((st.length + 2 : Nat) : Int) - 1) (by omega) (by omega)]
    have e1 : rd_T23 (m :: l :: st).reverse (((st.length + 2 : Nat) : Int) - 2) = l := by
      rw [show ((st.length + 2 : Nat) : Int) - 2 = (st.length : Int) by omega]
      simp [rd_T23]
    have e2 : rd_T23 (m :: l :: st).reverse (((st.length + 2 : Nat) : Int) - 1) = m := by
      rw [show ((st.length + 2 : Nat) : Int) - 1 = ((st.length + 1 : Nat) : Int) by omega]
      simp [rd_T23]
    have e3 : (m :: l :: st).reverse.take (((st.length + 2 : Nat) : Int) - 1).toNat = (l :: st).reverse := by
      rw [show (((st.length + 2 : Nat) : Int) - 1).toNat = st.length + 1 by omega, List.reverse_cons, List.take_append_of_le_length (by simp), List.take_of_length_le (by simp)]
    rw [e1, e2, e3]
    refine Ev.pos (by omega) (Ev.pos (by omega) (Ev.pos (by omega) (Ev.pos (by omega) (Ev.pos (by omega) (Ev.cbind (Pg.ori_is l m p) ?_)))))
    have hle := ori_le (hok l (by simp)) (hok m (by simp)) hp
    rw [pop] at hR
    by_cases hd : D l m p ≤ 0
    · rw [if_pos hd] at hR
      exact Ev.pos (hle.2 hd) (Ev.pos (by omega) (chain_l1 L i p R hp hi (l :: st) (fun q hq => hok q (by simp at hq ⊢; exact .inr hq)) (by simp at hlen ⊢; omega) hR))
    · rw [if_neg hd] at hR
      exact Ev.neg (fun h => hd (hle.1 h)) hR
theorem pt_get (L : List S23) (i : Nat) : rd_T23 L (i : Int) = L.getD i z23 := by simp [rd_T23]
theorem mem_get {L : List S23} {i : Nat} (h : i < L.length) : L.getD i z23 ∈ L := by
  rw [List.getD_eq_getElem?_getD, List.getElem?_eq_getElem h]; simp
theorem chain_l0 (L : List S23) (hL : ∀ q ∈ L, Pg.okP q) (hl : L.length ≤ 100000) : ∀ m i (st : List S23), L.length = i + m → (∀ q ∈ st, Pg.okP q) → st.length ≤ i → Ev (fun k => polygon_chain.l0 k st.reverse L (L.length : Int) (i : Int)) (chain st (L.drop i)).reverse := by
  intro m
  induction m with
  | zero =>
    intro i st hi hok hlen
    refine Ev.succ ?_
    simp only [polygon_chain.l0]
    rw [List.drop_of_length_le (by omega)]
    exact Ev.neg (by omega) (Ev.now _)
  | succ m ih =>
    intro i st hi hok hlen
    have hp := hL _ (mem_get (L := L) (i := i) (by omega))
    have hpl := pop_len (L.getD i z23) st
    refine Ev.succ ?_
    simp only [polygon_chain.l0]
    rw [pt_get, drop_cons L i z23 (by omega)]
    refine Ev.pos (by omega) (Ev.pos (by omega) (Ev.pos (by omega) ?_))
    refine chain_l1 L i (L.getD i z23) _ hp (by omega) st hok (by omega) (Ev.succ ?_)
    simp only [polygon_chain.j2]
    rw [stp (by omega)]
    refine Ev.pos (by rw [List.length_reverse]; omega) ?_
    have := ih (i + 1) (L.getD i z23 :: pop st (L.getD i z23)) (by omega) (fun q hq => by
      rcases List.mem_cons.1 hq with rfl | hq
      · exact hp
      · exact hok q (pop_sub _ _ _ hq)) (by rw [List.length_cons]; omega)
    rw [List.reverse_cons] at this
    exact this
theorem chain_ev (L : List S23) (hL : ∀ q ∈ L, Pg.okP q) (hl : L.length ≤ 100000) : Ev (fun k => polygon_chain.f k L) (low L) := by
  unfold polygon_chain.f
  exact chain_l0 L hL hl L.length 0 [] (by omega) (by simp) (by simp)
/-! ### sorted, each once -/
def srt (L : List S23) : List S23 := Go.Lib.compactUpTo (Go.Proofs.Ytcembjgpcbodcaa.SortRow.sortL ltB L).toArray (Go.Proofs.Ytcembjgpcbodcaa.SortRow.sortL ltB L).length
theorem ltB_lt (a b : S23) : ltB a b = true ↔ lt a b := ltB_is a b
theorem comp_pts (l : List S23) (h : l.Pairwise (fun a b => ltB b a = false)) : ∀ m, m ≤ l.length → (Go.Lib.compactUpTo l.toArray m).Pairwise lt ∧ ∀ v, v ∈ Go.Lib.compactUpTo l.toArray m ↔ ∃ j, j < m ∧ l.toArray[j]! = v := by
  intro m
  induction m with
  | zero => intro _; exact ⟨List.Pairwise.nil, fun v => ⟨fun hv => absurd hv (by simp [Go.Lib.compactUpTo]), fun ⟨j, hj, _⟩ => absurd hj (by omega)⟩⟩
  | succ m ih =>
    intro hm
    obtain ⟨i1, i2⟩ := ih (by omega)
    have hget : ∀ j, j < l.length → l.toArray[j]! = l.getD j z23 := fun j hj => by
      rw [getElem!_pos l.toArray j (by simpa using hj)]
      simp [hj]
    have mono : ∀ i j, i ≤ j → j < l.length → l.getD i z23 = l.getD j z23 ∨ lt (l.getD i z23) (l.getD j z23) := fun i j hij hj => by
      rcases Nat.lt_or_eq_of_le hij with h1 | rfl
      · have := List.pairwise_iff_getElem.1 h i j (by omega) hj h1
        rw [← Bool.not_eq_true, ltB_lt] at this
        have e1 : l.getD i z23 = l[i] := by rw [List.getD_eq_getElem?_getD, List.getElem?_eq_getElem (by omega)]; rfl
        have e2 : l.getD j z23 = l[j] := by rw [List.getD_eq_getElem?_getD, List.getElem?_eq_getElem hj]; rfl
        rw [e1, e2]
        rcases lt_tri l[i] l[j] with h | h | h
        · exact .inr h
        · exact .inl h
        · exact absurd h this
      · exact .inl rfl
    rw [Go.Lib.compactUpTo_succ]
    by_cases hk : Go.Lib.keeps l.toArray m = true
    · rw [if_pos hk]
      refine ⟨List.pairwise_append.2 ⟨i1, List.pairwise_singleton _ _, fun v hv u hu => ?_⟩, fun v => ?_⟩
      · obtain rfl := List.mem_singleton.1 hu
        obtain ⟨j, hj, rfl⟩ := (i2 v).1 hv
        simp only [Go.Lib.keeps, decide_eq_true_eq] at hk
        have q1 := mono j (m - 1) (by omega) (by omega)
        have q2 := mono (m - 1) m (by omega) (by omega)
        rw [hget j (by omega), hget m (by omega)]
        rcases hk with hk | hk
        · omega
        · rw [hget m (by omega), hget (m - 1) (by omega)] at hk
          rcases q2 with q2 | q2
          · exact absurd q2.symm hk
          · rcases q1 with q1 | q1
            · rw [q1]; exact q2
            · exact lt_trans q1 q2
      · rw [List.mem_append, i2]
        constructor
        · rintro (⟨j, hj, e⟩ | hv)
          · exact ⟨j, by omega, e⟩
          · exact ⟨m, by omega, (List.mem_singleton.1 hv).symm⟩
        · rintro ⟨j, hj, e⟩
          by_cases hjm : j = m
          · subst hjm; exact .inr (by simp [e])
          · exact .inl ⟨j, by omega, e⟩
    · rw [if_neg hk, List.append_nil]
      refine ⟨i1, fun v => ?_⟩
      rw [i2]
      simp only [Go.Lib.keeps, decide_eq_true_eq, not_or, ne_eq, Decidable.not_not] at hk
      constructor
      · rintro ⟨j, hj, e⟩; exact ⟨j, by omega, e⟩
      · rintro ⟨j, hj, e⟩
        by_cases hjm : j = m
        · subst hjm; exact ⟨j - 1, by omega, by rw [← hk.2]; exact e⟩
        · exact ⟨j, by omega, e⟩
theorem srt_inc (L : List S23) : (srt L).Pairwise lt := (comp_pts _ (Go.Proofs.Ytcembjgpcbodcaa.SortRow.sortL_sorted ltB swoB L) _ (Nat.le_refl _)).1
theorem srt_mem (L : List S23) (v : S23) : v ∈ srt L ↔ v ∈ L := by
  unfold srt
  rw [(comp_pts _ (Go.Proofs.Ytcembjgpcbodcaa.SortRow.sortL_sorted ltB swoB L) _ (Nat.le_refl _)).2, ← (Go.Proofs.Ytcembjgpcbodcaa.SortRow.sortL_perm ltB swoB L).mem_iff, List.mem_iff_getElem]
  constructor
  · rintro ⟨j, hj, e⟩
    refine ⟨j, hj, ?_⟩
    rw [getElem!_pos _ j (by simpa using hj)] at e
    simpa using e
  · rintro ⟨j, hj, e⟩
    refine ⟨j, hj, ?_⟩
    rw [getElem!_pos _ j (by simpa using hj)]
    simpa using e
theorem srt_len (L : List S23) : (srt L).length ≤ L.length := by
  unfold srt
  rw [← (Go.Proofs.Ytcembjgpcbodcaa.SortRow.sortL_perm ltB swoB L).length_eq]
  exact compactUpTo_length _
/-! ### Hull -/
def hullS (L : List S23) : List S23 × Int := if L.length > 1000 then ([], 7) else if L.all nearP = true then (if (low (srt L)).length + (upp (srt L)).length < 5 then ([], 9) else (crn (srt L), 0)) else ([], 6)
theorem chain_len : ∀ (l st : List S23), (chain st l).length ≤ st.length + l.length
  | [], st => Nat.le_refl _
  | p :: l, st => by
    have := chain_len l (p :: pop st p)
    have h2 := pop_len p st
    show (chain (p :: pop st p) l).length ≤ _
    simp at this ⊢
    omega
theorem low_len (L : List S23) : (low L).length ≤ L.length := by
  unfold low; rw [List.length_reverse]; have := chain_len L []; simp at this; exact this
theorem upp_len (L : List S23) : (upp L).length ≤ L.length := by
  unfold upp; rw [List.length_reverse]; have := chain_len L.reverse []; simp at this; exact this
theorem hull_ev (L : List S23) : Ev (fun k => polygon_Hull.f k L) (hullS L) := by
  unfold polygon_Hull.f hullS
  by_cases h1 : L.length > 1000
  · rw [if_pos h1]; exact Ev.pos (by omega) (Ev.now _)
  rw [if_neg h1]
  refine Ev.neg (by omega) (Ev.cbind (a := L.all nearP) rfl (ifs (fun h2 => ?_) (fun h2 => Ev.now _)))
  have hsl := srt_len L
  have e1 : api_Point_47.f L = some L := if_pos (by omega)
  have e2 : api_Point_48.f L 49 = some (Go.Proofs.Ytcembjgpcbodcaa.SortRow.sortL ltB L) := if_pos ⟨rfl, by omega⟩
  have hpl := (Go.Proofs.Ytcembjgpcbodcaa.SortRow.sortL_perm ltB swoB L).length_eq
  have e3 : api_Point_50.f (Go.Proofs.Ytcembjgpcbodcaa.SortRow.sortL ltB L) = some (srt L) := if_pos (by omega)
  have e4 : api_Point_52.f (srt L) = some (srt L).reverse := if_pos (by omega)
  have hok : ∀ q ∈ srt L, Pg.okP q := fun q hq => (Pg.nearP_is q).1 (List.all_eq_true.1 h2 q ((srt_mem L q).1 hq))
  have c1 := chain_ev (srt L) hok (by omega)
  have c2 := chain_ev (srt L).reverse (fun q hq => hok q (List.mem_reverse.1 hq)) (by rw [List.length_reverse]; omega)
  have eu : low (srt L).reverse = upp (srt L) := rfl
  rw [eu] at c2
  have l1 := low_len (srt L)
  have l2 := upp_len (srt L)
  refine Ev.cbind e1 (Ev.cbind e2 (Ev.cbind e3 (Ev.bind c1 (Ev.cbind e4 (Ev.bind c2 ?_)))))
  rw [w64 (n := ((low (srt L)).length : Int) + ((upp (srt L)).length : Int)) (by omega) (by omega), w64 (n := ((low (srt L)).length : Int) - 1) (by omega) (by omega), w64 (n := ((upp (srt L)).length : Int) - 1) (by omega) (by omega)]
  by_cases h5 : (low (srt L)).length + (upp (srt L)).length < 5
  · rw [if_pos h5]; exact Ev.pos (by omega) (Ev.now _)
  rw [if_neg h5]
  have e5 : (low (srt L)).take (((low (srt L)).length : Int) - 1).toNat = (low (srt L)).dropLast := by
    rw [List.dropLast_eq_take]; congr 1; omega
  have e6 : (upp (srt L)).take (((upp (srt L)).length : Int) - 1).toNat = (upp (srt L)).dropLast := by
    rw [List.dropLast_eq_take]; congr 1; omega
  rw [e5, e6]
  have e7 : api_Point_53.f [(low (srt L)).dropLast, (upp (srt L)).dropLast] = some (crn (srt L)) := by
    have : [(low (srt L)).dropLast, (upp (srt L)).dropLast].flatten = crn (srt L) := by unfold crn; simp
    unfold api_Point_53.f
    rw [this]
    refine if_pos ?_
    unfold crn
    rw [List.length_append, List.length_dropLast, List.length_dropLast]
    omega
  -- a chain of a list that is not empty is not empty
  by_cases g1 : (low (srt L)).length = 0
  · exfalso
    have hnil : srt L = [] := by
      cases hS : srt L with
      | nil => rfl
      | cons a l =>
        have hs := srt_inc L
        rw [hS] at hs
        obtain ⟨z, hz, hc⟩ := chains a l hs
        have := hc.lhead
        rw [hS] at g1
        rw [List.length_eq_zero_iff.1 g1] at this
        cases this
    rw [hnil] at h5
    exact h5 (by decide)
  by_cases g2 : (upp (srt L)).length = 0
  · exfalso
    have hnil : srt L = [] := by
      cases hS : srt L with
      | nil => rfl
      | cons a l =>
        have hs := srt_inc L
        rw [hS] at hs
        obtain ⟨z, hz, hc⟩ := chains a l hs
        have := hc.uhead
        rw [hS] at g2
        rw [List.length_eq_zero_iff.1 g2] at this
        cases this
    rw [hnil] at h5
    exact h5 (by decide)
  exact Ev.neg (by omega) (Ev.pos (by omega) (Ev.pos (by omega) (Ev.pos (by omega) (Ev.pos (by omega) (Ev.cbind e7 (Ev.now _))))))
end Go.Proofs.Ytcembjgpcbodcaa.Hl
