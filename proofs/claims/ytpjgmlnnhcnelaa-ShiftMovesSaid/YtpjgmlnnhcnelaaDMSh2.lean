import Derived.Test.YtpjgmlnnhcnelaaDMSh1
import Derived.Test.YtpjgmlnnhcnelaaDMQAx6
import Derived.Test.YtpjgmlnnhcnelaaDMQAx7
import Derived.Test.YtpjgmlnnhcnelaaDMQAx8
import Derived.Test.YtpjgmlnnhcnelaaDMQAx5
/-
  Lists of ranges that lie in order: which minutes they hold, how many; and what the loops over them come to.
-/
namespace Go.Proofs.Ytpjgmlnnhcnelaa.Sh
open Go.RowKit Go.Proofs.Ytpjgmlnnhcnelaa.QA Go.Proofs.YtpjgmlnnhcnelaaW.PrintWords Go.Proofs.YtpjgmlnnhcnelaaW.PrintLast Go.Proofs.YtpjgmlnnhcnelaaW.PrintMore Go.Proofs.Ytpjgmlnnhcnelaa.EvKit
set_option linter.unusedVariables false
set_option linter.unusedSimpArgs false
abbrev R := Int × Int
theorem mx_is (a b : Int) : mx a b = max a b := by unfold mx; split <;> omega
theorem mn_is (a b : Int) : mn a b = min a b := by unfold mn; split <;> omega
structure Srt (Z : List R) : Prop where
  p : Z.Pairwise (fun x y => x.2 ≤ y.1)
  v : ∀ x ∈ Z, x.1 < x.2 ∧ 0 ≤ x.1 ∧ x.2 ≤ 14400000
theorem Srt.tail {x : R} {Z : List R} (h : Srt (x :: Z)) : Srt Z := ⟨(List.pairwise_cons.1 h.p).2, fun y hy => h.v y (List.mem_cons_of_mem _ hy)⟩
theorem Srt.lt {x : R} {Z : List R} (h : Srt (x :: Z)) : ∀ y ∈ Z, x.2 ≤ y.1 := (List.pairwise_cons.1 h.p).1
theorem Srt.hd {x : R} {Z : List R} (h : Srt (x :: Z)) : x.1 < x.2 ∧ 0 ≤ x.1 ∧ x.2 ≤ 14400000 := h.v x (by simp)
def opn (Z : List R) (m : Int) : Prop := ∃ x ∈ Z, x.1 ≤ m ∧ m < x.2
theorem opn_nil (m : Int) : ¬ opn [] m := fun ⟨x, h, _⟩ => by simp at h
theorem opn_cons (x : R) (Z : List R) (m : Int) : opn (x :: Z) m ↔ (x.1 ≤ m ∧ m < x.2) ∨ opn Z m := by
  constructor
  · rintro ⟨y, hy, h⟩
    rcases List.mem_cons.1 hy with rfl | hy
    · exact .inl h
    · exact .inr ⟨y, hy, h⟩
  · rintro (h | ⟨y, hy, h⟩)
    · exact ⟨x, by simp, h⟩
    · exact ⟨y, by simp [hy], h⟩
theorem opn_append (Y Z : List R) (m : Int) : opn (Y ++ Z) m ↔ opn Y m ∨ opn Z m := by
  induction Y with
  | nil => simp [opn_nil]
  | cons x Y ih => rw [List.cons_append, opn_cons, ih, opn_cons, or_assoc]
theorem cutL_cons (t : Int) (x : R) (Z : List R) : cutL t (x :: Z) = if x.2 > t then (max x.1 t, x.2) :: cutL t Z else cutL t Z := by
  unfold cutL
  by_cases h : x.2 > t
  · rw [List.filter_cons_of_pos (by simpa using h), List.map_cons, if_pos h, mx_is]
  · rw [List.filter_cons_of_neg (by simpa using h), if_neg h]
theorem cutB_cons (t : Int) (x : R) (Z : List R) : cutB t (x :: Z) = if x.1 < t then (x.1, min x.2 t) :: cutB t Z else cutB t Z := by
  unfold cutB
  by_cases h : x.1 < t
  · rw [List.filter_cons_of_pos (by simpa using h), List.map_cons, if_pos h, mn_is]
  · rw [List.filter_cons_of_neg (by simpa using h), if_neg h]
/-- Ranges that lie in the other order. -/
structure Dsc (Z : List R) : Prop where
  p : Z.Pairwise (fun x y => y.2 ≤ x.1)
  v : ∀ x ∈ Z, x.1 < x.2 ∧ 0 ≤ x.1 ∧ x.2 ≤ 14400000
theorem Srt.rev {Z : List R} (h : Srt Z) : Dsc Z.reverse := ⟨List.pairwise_reverse.2 h.p, fun x hx => h.v x (List.mem_reverse.1 hx)⟩
/-- All the minutes from m on, so many. -/
def good (Z : List R) (nd m : Int) : Prop := ∀ i, m ≤ i → i < m + nd → opn Z i
theorem whole_is' (F : List R) (a nd : Int) (hnd : 1 ≤ nd) (ha : 0 ≤ a) : ∀ (Z : List R), Z.Pairwise (fun x y => x.2 ≤ y.1) → (∀ x ∈ Z, x.1 < x.2 ∧ x.2 ≤ 14400000) → ∀ b e, a ≤ b → b ≤ e → e - b < nd → (∀ x ∈ Z, e ≤ x.1) → (∀ i, b ≤ i → i < e → opn F i) → (∀ m, a ≤ m → m < b → ¬ good F nd m) → (∀ i, e ≤ i → (opn F i ↔ opn Z i)) →
    ∀ t r, wholeF nd b e Z = (t, r) → (r = 0 ∧ a ≤ t ∧ good F nd t ∧ ∀ m, a ≤ m → m < t → ¬ good F nd m) ∨ (r = 9 ∧ t = 0 ∧ ∀ m, a ≤ m → ¬ good F nd m) := by
  intro Z
  induction Z with
  | nil =>
    intro _ _ b e h1 h2 h3 _ h4 h5 h6 t r h
    simp only [wholeF, Prod.mk.injEq] at h
    refine .inr ⟨h.2.symm, h.1.symm, fun m hm hg => ?_⟩
    by_cases c : m < b
    · exact h5 m hm c hg
    · have := hg (max m e) (by omega) (by omega)
      exact opn_nil _ ((h6 _ (by omega)).1 this)
  | cons x Z ih =>
    intro hp hv b e h1 h2 h3 hle h4 h5 h6 t r h
    have hx := hv x (by simp)
    have hxe := hle x (by simp)
    have hlt := (List.pairwise_cons.1 hp).1
    rw [wholeF] at h
    obtain ⟨c, hc⟩ : ∃ c, c = (if x.1 = e then b else x.1) := ⟨_, rfl⟩
    rw [← hc] at h
    have hcb : b ≤ c ∧ c ≤ x.1 := by rw [hc]; split <;> omega
    have hco : ∀ i, c ≤ i → i < x.2 → opn F i := fun i k1 k2 => by
      by_cases q : i < x.1
      · refine h4 i (by omega) ?_
        rw [hc] at k1; split at k1 <;> omega
      · exact (h6 i (by omega)).2 ⟨x, by simp, by omega, k2⟩
    have hN : ∀ m, a ≤ m → m < c → ¬ good F nd m := fun m k1 k2 hg => by
      by_cases q : m < b
      · exact h5 m k1 q hg
      · have hne : ¬ x.1 = e := fun q' => by rw [hc, if_pos q'] at k2; omega
        have hc' : c = x.1 := by rw [hc, if_neg hne]
        obtain ⟨y, hy, q1, q2⟩ := (h6 _ (by omega)).1 (hg (max m e) (by omega) (by omega))
        rcases List.mem_cons.1 hy with rfl | hy
        · omega
        · have := hlt y hy; omega
    rw [w64 (n := x.2 - c) (by omega) (by omega)] at h
    by_cases hd : x.2 - c ≥ nd
    · rw [if_pos hd] at h
      simp only [Prod.mk.injEq] at h
      obtain ⟨rfl, rfl⟩ := h
      exact .inl ⟨rfl, by omega, fun i k1 k2 => hco i k1 (by omega), hN⟩
    · rw [if_neg hd] at h
      refine ih (List.pairwise_cons.1 hp).2 (fun y hy => hv y (by simp [hy])) c x.2 (by omega) (by omega) (by omega) (fun y hy => hlt y hy) hco hN (fun i hi => ?_) t r h
      rw [h6 i (by omega), opn_cons]
      exact ⟨fun q => q.resolve_left (by omega), .inr⟩
theorem opn_cut (Z : List R) (a : Int) : ∀ i, a ≤ i → (opn (cutL a Z) i ↔ opn Z i) := by
  intro i hi
  induction Z with
  | nil => rfl
  | cons x Z ih =>
    rw [cutL_cons, opn_cons]
    by_cases h : x.2 > a
    · rw [if_pos h, opn_cons, ih]
      simp only
      have : (max x.1 a ≤ i ∧ i < x.2) ↔ (x.1 ≤ i ∧ i < x.2) := by omega
      rw [this]
    · rw [if_neg h, ih]
      exact ⟨.inr, fun q => q.resolve_left (by omega)⟩
theorem cut_mem {Z : List R} {a : Int} {x : R} (h : x ∈ cutL a Z) : ∃ y ∈ Z, y.2 > a ∧ x = (max y.1 a, y.2) := by
  unfold cutL at h
  obtain ⟨y, hy, rfl⟩ := List.mem_map.1 h
  obtain ⟨h1, h2⟩ := List.mem_filter.1 hy
  exact ⟨y, h1, by simpa using h2, by rw [mx_is]⟩
theorem cut_srt {Z : List R} (hZ : Srt Z) (a : Int) : (cutL a Z).Pairwise (fun x y => x.2 ≤ y.1) := by
  induction Z with
  | nil => exact List.Pairwise.nil
  | cons x Z ih =>
    rw [cutL_cons]
    by_cases h : x.2 > a
    · rw [if_pos h]
      refine List.pairwise_cons.2 ⟨fun y hy => ?_, ih hZ.tail⟩
      obtain ⟨q, hq, _, rfl⟩ := cut_mem hy
      have := hZ.lt q hq
      simp only; omega
    · rw [if_neg h]; exact ih hZ.tail
theorem whole_is {Z : List R} (hZ : Srt Z) {a nd : Int} (hnd : 1 ≤ nd) (ha : 0 ≤ a) (t r : Int) (h : wholeF nd a a (cutL a Z) = (t, r)) :
    (r = 0 ∧ a ≤ t ∧ good Z nd t ∧ ∀ m, a ≤ m → m < t → ¬ good Z nd m) ∨ (r = 9 ∧ t = 0 ∧ ∀ m, a ≤ m → ¬ good Z nd m) := by
  refine whole_is' Z a nd hnd ha (cutL a Z) (cut_srt hZ a) (fun x hx => ?_) a a (Int.le_refl _) (Int.le_refl _) (by omega) (fun x hx => ?_) (fun i k1 k2 => by omega) (fun m k1 k2 => by omega) (fun i hi => (opn_cut Z a i hi).symm) t r h
  · obtain ⟨y, hy, h1, rfl⟩ := cut_mem hx
    have := hZ.v y hy
    simp only; omega
  · obtain ⟨y, hy, h1, rfl⟩ := cut_mem hx
    simp only; omega
def rawK (sh : List S54) (fr : List Int) (d0 : Int) : Nat → List R
  | 0 => []
  | k + 1 => rawK sh fr d0 k ++ ofL sh fr (d0 + k)
/-- All days' ranges; behind a choice, so that nothing unfolds ten thousand days. -/
theorem Z0_ex (sh : List S54) (fr : List Int) : ∃ Z, Z = rawK sh fr 0 10000 := ⟨_, rfl⟩
noncomputable def Z0 (sh : List S54) (fr : List Int) : List R := Classical.choose (Z0_ex sh fr)
theorem Z0_eq (sh : List S54) (fr : List Int) : Z0 sh fr = rawK sh fr 0 10000 := Classical.choose_spec (Z0_ex sh fr)
theorem rngK_raw (sh : List S54) (fr : List Int) (t d0 : Int) : ∀ k, rngK sh fr t d0 k = cutL t (rawK sh fr d0 k)
  | 0 => rfl
  | k + 1 => by rw [rngK, rawK, cutL_append, rngK_raw sh fr t d0 k]
theorem rawK_add (sh : List S54) (fr : List Int) (d0 : Int) (a : Nat) : ∀ b, rawK sh fr d0 (a + b) = rawK sh fr d0 a ++ rawK sh fr (d0 + a) b
  | 0 => by simp [rawK]
  | b + 1 => by rw [← Nat.add_assoc, rawK, rawK, rawK_add sh fr d0 a b, List.append_assoc]; congr 3; omega
theorem rawK_left (sh : List S54) (fr : List Int) (d0 : Int) (k : Nat) : rawK sh fr d0 (k + 1) = ofL sh fr d0 ++ rawK sh fr (d0 + 1) k := by
  rw [Nat.add_comm, rawK_add]
  simp [rawK]
theorem ofL_mem {sh : List S54} {fr : List Int} (hV : Val sh fr) {d : Int} {x : R} (h : x ∈ ofL sh fr d) : 0 ≤ d ∧ d < 10000 ∧ d * 1440 ≤ x.1 ∧ x.1 < x.2 ∧ x.2 ≤ d * 1440 + 1440 := by
  unfold ofL at h
  split at h
  case isFalse => simp at h
  case isTrue hd =>
    unfold dayOn at hd
    simp only [Bool.and_eq_true, decide_eq_true_eq] at hd
    unfold ofS at h
    obtain ⟨s, hs, rfl⟩ := List.mem_map.1 h
    have := hV.s s (List.mem_filter.1 hs).1
    simp only
    omega
theorem ofS_srt {sh : List S54} {fr : List Int} (hV : Val sh fr) (d : Int) : (ofS sh d).Pairwise (fun x y => x.2 ≤ y.1) := by
  unfold ofS
  rw [List.pairwise_map]
  have h1 := hV.p.filter (fun s => s.f0 == d % 7 + 1)
  refine h1.imp_of_mem ?_
  intro a b ha hb h
  have e1 := (List.mem_filter.1 ha).2
  have e2 := (List.mem_filter.1 hb).2
  simp only [beq_iff_eq] at e1 e2
  simp only
  omega
theorem ofL_srt {sh : List S54} {fr : List Int} (hV : Val sh fr) (d : Int) : (ofL sh fr d).Pairwise (fun x y => x.2 ≤ y.1) := by
  unfold ofL
  split
  · exact ofS_srt hV d
  · exact List.Pairwise.nil
theorem rawK_mem {sh : List S54} {fr : List Int} (hV : Val sh fr) (d0 : Int) : ∀ k x, x ∈ rawK sh fr d0 k → x.1 < x.2 ∧ 0 ≤ x.1 ∧ x.2 ≤ 14400000 ∧ d0 * 1440 ≤ x.1 ∧ x.2 ≤ (d0 + k) * 1440 := by
  intro k
  induction k with
  | zero => intro x h; simp [rawK] at h
  | succ k ih =>
    intro x h
    rw [rawK] at h
    rcases List.mem_append.1 h with h | h
    · have := ih x h; omega
    · have := ofL_mem hV h; omega
theorem rawK_srt {sh : List S54} {fr : List Int} (hV : Val sh fr) (d0 : Int) : ∀ k, Srt (rawK sh fr d0 k) := by
  intro k
  refine ⟨?_, fun x hx => by have := rawK_mem hV d0 k x hx; omega⟩
  induction k with
  | zero => exact List.Pairwise.nil
  | succ k ih =>
    rw [rawK, List.pairwise_append]
    refine ⟨ih, ofL_srt hV _, fun x hx y hy => ?_⟩
    have h1 := rawK_mem hV d0 k x hx
    have h2 := ofL_mem hV hy
    omega
theorem Z0_srt {sh : List S54} {fr : List Int} (hV : Val sh fr) : Srt (Z0 sh fr) := by rw [Z0_eq]; exact rawK_srt hV 0 10000
theorem cutL_none (t : Int) (l : List R) (h : ∀ x ∈ l, x.2 ≤ t) : cutL t l = [] := by
  unfold cutL
  rw [List.filter_eq_nil_iff.2 (fun x hx => by have := h x hx; simp; omega)]; rfl
theorem cutB_none (t : Int) (l : List R) (h : ∀ x ∈ l, t ≤ x.1) : cutB t l = [] := by
  unfold cutB
  rw [List.filter_eq_nil_iff.2 (fun x hx => by have := h x hx; simp; omega)]; rfl
theorem rng_is {sh : List S54} {fr : List Int} (hV : Val sh fr) {t : Int} (h0 : 0 ≤ t) (h1 : t ≤ 14400000) : rngL sh fr t = cutL t (Z0 sh fr) := by
  unfold rngL
  rw [Z0_eq, rngK_raw, show (10000 : Nat) = (t / 1440).toNat + (10000 - t / 1440).toNat by omega, rawK_add, cutL_append, cutL_none t (rawK sh fr 0 (t / 1440).toNat), List.nil_append]
  · congr 3
    omega
  · intro x hx
    have := rawK_mem hV 0 _ x hx
    omega
theorem allB_raw (sh : List S54) (fr : List Int) (t d0 : Int) : ∀ k, allB sh fr t d0 k = (cutB t (rawK sh fr (d0 - k + 1) k)).reverse
  | 0 => rfl
  | k + 1 => by
    rw [allB, allB_raw sh fr t d0 k, rawK_left, show d0 - ((k + 1 : Nat) : Int) + 1 = d0 - k by omega]
    unfold cutB
    rw [List.filter_append, List.map_append, List.reverse_append]
theorem cutB_append (t : Int) (l m : List R) : cutB t (l ++ m) = cutB t l ++ cutB t m := by unfold cutB; rw [List.filter_append, List.map_append]
theorem allB_is {sh : List S54} {fr : List Int} (hV : Val sh fr) {t : Int} (h0 : 0 ≤ t) (h1 : t ≤ 14400000) : allB sh fr t (t / 1440) (t / 1440 + 1).toNat = (cutB t (Z0 sh fr)).reverse := by
  rw [allB_raw, show t / 1440 - ((t / 1440 + 1).toNat : Int) + 1 = 0 by omega]
  refine congrArg List.reverse ?_
  rw [Z0_eq]
  by_cases h : t / 1440 + 1 ≤ 10000
  · rw [show (10000 : Nat) = (t / 1440 + 1).toNat + (10000 - (t / 1440 + 1)).toNat by omega, rawK_add, cutB_append, cutB_none t (rawK sh fr (0 + ((t / 1440 + 1).toNat : Int)) (10000 - (t / 1440 + 1)).toNat), List.append_nil]
    intro x hx
    have := rawK_mem hV _ _ x hx
    omega
  · rw [show (t / 1440 + 1).toNat = 10000 + 1 by omega, rawK]
    have : ofL sh fr (0 + ((10000 : Nat) : Int)) = [] := by
      unfold ofL dayOn
      rw [decide_eq_false (show ¬ (0 + ((10000 : Nat) : Int) < 10000) by omega)]
      simp
    rw [this, List.append_nil]
theorem rawK_opn {sh : List S54} {fr : List Int} (hV : Val sh fr) (m d0 : Int) : ∀ k, opn (rawK sh fr d0 k) m ↔ d0 ≤ m / 1440 ∧ m / 1440 < d0 + k ∧ opn (ofL sh fr (m / 1440)) m := by
  intro k
  induction k with
  | zero => exact ⟨fun h => (opn_nil _ h).elim, fun h => by omega⟩
  | succ k ih =>
    rw [rawK, opn_append, ih]
    constructor
    · rintro (⟨q1, q2, q3⟩ | ⟨x, hx, q1, q2⟩)
      · exact ⟨q1, by omega, q3⟩
      · have := ofL_mem hV hx
        have e : m / 1440 = d0 + k := by omega
        exact ⟨by omega, by omega, ⟨x, by rw [e]; exact hx, q1, q2⟩⟩
    · rintro ⟨q1, q2, q3⟩
      by_cases e : m / 1440 = d0 + k
      · exact .inr (by rw [← e]; exact q3)
      · exact .inl ⟨q1, by omega, q3⟩
theorem open_is {sh : List S54} {fr : List Int} (hV : Val sh fr) (m : Int) : openR (ofL sh fr (m / 1440)) m = true ↔ opn (Z0 sh fr) m := by
  rw [Z0_eq]
  rw [rawK_opn hV]
  unfold openR
  rw [List.any_eq_true]
  unfold inside
  constructor
  · rintro ⟨x, hx, h⟩
    simp only [Bool.and_eq_true, decide_eq_true_eq] at h
    have := ofL_mem hV hx
    exact ⟨by omega, by omega, x, hx, h⟩
  · rintro ⟨_, _, x, hx, h⟩
    exact ⟨x, hx, by simp only [Bool.and_eq_true, decide_eq_true_eq]; exact h⟩
end Go.Proofs.Ytpjgmlnnhcnelaa.Sh
