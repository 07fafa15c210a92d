import Derived.Test.YtpjgmlnnhcnelaaDKSh1
import Derived.Test.YtpjgmlnnhcnelaaDKQAx6
import Derived.Test.YtpjgmlnnhcnelaaDKQAx7
import Derived.Test.YtpjgmlnnhcnelaaDKQAx8
import Derived.Test.YtpjgmlnnhcnelaaDKQAx5
/-
  Lists of ranges that lie in order: which minutes they hold, how many; and what the loops over them come to.
-/
namespace Go.Proofs.Ytpjgmlnnhcnelaa.Sh
open Go.RowKit Go.Proofs.Ytpjgmlnnhcnelaa.QA Go.Proofs.YtpjgmlnnhcnelaaW.PrintWords Go.Proofs.YtpjgmlnnhcnelaaW.PrintLast Go.Proofs.YtpjgmlnnhcnelaaW.PrintMore Go.Proofs.Ytpjgmlnnhcnelaa.EvKit
set_option linter.unusedVariables false
set_option linter.unusedSimpArgs false
abbrev R := Int × Int
theorem mx_is (a b : Int) : mx a b = max a b := by unfold mx; split <;> omega
theorem mn_is (a b : Int) : mn a b = min a b := by unfold mn; split <;> omega
structure Srt (Z : List R) : Prop where
  p : Z.Pairwise (fun x y => x.2 ≤ y.1)
  v : ∀ x ∈ Z, x.1 < x.2 ∧ 0 ≤ x.1 ∧ x.2 ≤ 14400000
theorem Srt.tail {x : R} {Z : List R} (h : Srt (x :: Z)) : Srt Z := ⟨(List.pairwise_cons.1 h.p).2, fun y hy => h.v y (List.mem_cons_of_mem _ hy)⟩
theorem Srt.lt {x : R} {Z : List R} (h : Srt (x :: Z)) : ∀ y ∈ Z, x.2 ≤ y.1 := (List.pairwise_cons.1 h.p).1
theorem Srt.hd {x : R} {Z : List R} (h : Srt (x :: Z)) : x.1 < x.2 ∧ 0 ≤ x.1 ∧ x.2 ≤ 14400000 := h.v x (by simp)
def opn (Z : List R) (m : Int) : Prop := ∃ x ∈ Z, x.1 ≤ m ∧ m < x.2
theorem opn_nil (m : Int) : ¬ opn [] m := fun ⟨x, h, _⟩ => by simp at h
theorem opn_cons (x : R) (Z : List R) (m : Int) : opn (x :: Z) m ↔ (x.1 ≤ m ∧ m < x.2) ∨ opn Z m := by
  constructor
  · rintro ⟨y, hy, h⟩
    rcases List.mem_cons.1 hy with rfl | hy
    · exact .inl h
    · exact .inr ⟨y, hy, h⟩
  · rintro (h | ⟨y, hy, h⟩)
    · exact ⟨x, by simp, h⟩
    · exact ⟨y, by simp [hy], h⟩
def cnt : List R → Int → Int → Int
  | [], _, _ => 0
  | x :: Z, a, b => max 0 (min b x.2 - max a x.1) + cnt Z a b
theorem cnt_append (Y Z : List R) (a b : Int) : cnt (Y ++ Z) a b = cnt Y a b + cnt Z a b := by
  induction Y with
  | nil => simp [cnt]
  | cons x Y ih => rw [List.cons_append, cnt, cnt, ih]; omega
theorem cnt_nonneg (Z : List R) (a b : Int) : 0 ≤ cnt Z a b := by
  induction Z with
  | nil => simp [cnt]
  | cons x Z ih => rw [cnt]; omega
theorem cnt_none (Z : List R) (a b : Int) (h : ∀ y ∈ Z, b ≤ y.1 ∨ y.2 ≤ a ∨ b ≤ a) : cnt Z a b = 0 := by
  induction Z with
  | nil => rfl
  | cons x Z ih =>
    rw [cnt, ih (fun y hy => h y (by simp [hy]))]
    have := h x (by simp)
    omega
theorem cnt_self (Z : List R) (a : Int) : cnt Z a a = 0 := cnt_none Z a a (fun _ _ => by omega)
theorem cnt_succ {Z : List R} (hZ : Srt Z) {a b : Int} (h : a ≤ b) : (opn Z b → cnt Z a (b + 1) = cnt Z a b + 1) ∧ (¬ opn Z b → cnt Z a (b + 1) = cnt Z a b) := by
  induction Z with
  | nil => exact ⟨fun h => (opn_nil _ h).elim, fun _ => rfl⟩
  | cons x Z ih =>
    have ih := ih hZ.tail
    rw [opn_cons, cnt, cnt]
    by_cases hx : x.1 ≤ b ∧ b < x.2
    · have hn : ¬ opn Z b := by
        rintro ⟨y, hy, h1, h2⟩
        have := hZ.lt y hy
        omega
      rw [ih.2 hn]
      exact ⟨fun _ => by omega, fun h => (h (.inl hx)).elim⟩
    · refine ⟨fun h => ?_, fun h => ?_⟩
      · rw [ih.1 (h.resolve_left hx)]; omega
      · rw [ih.2 (fun q => h (.inr q))]; omega
/-- What holds at a and is handed on holds from a on. -/
theorem from_to {p : Int → Prop} {a : Int} (h0 : p a) (hs : ∀ b, a ≤ b → p b → p (b + 1)) : ∀ b, a ≤ b → p b := by
  have key : ∀ n : Nat, p (a + n) := by
    intro n
    induction n with
    | zero => simpa using h0
    | succ n ih =>
      have := hs (a + n) (by omega) ih
      rw [show a + ((n + 1 : Nat) : Int) = a + n + 1 by omega]
      exact this
  intro b hb
  have := key (b - a).toNat
  rwa [show a + (((b - a).toNat : Nat) : Int) = b by omega] at this
theorem cnt_step {Z : List R} (hZ : Srt Z) {a b : Int} (h : a ≤ b) : cnt Z a b ≤ cnt Z a (b + 1) ∧ cnt Z a (b + 1) ≤ cnt Z a b + 1 := by
  have := cnt_succ hZ h
  by_cases ho : opn Z b
  · have := this.1 ho; omega
  · have := this.2 ho; omega
theorem cnt_le {Z : List R} (hZ : Srt Z) {a b : Int} (h : a ≤ b) : cnt Z a b ≤ b - a := by
  refine from_to (p := fun b => cnt Z a b ≤ b - a) ?_ (fun b hb ih => ?_) b h
  · have := cnt_self Z a; omega
  · have := (cnt_step hZ hb).2; omega
theorem cutL_cons (t : Int) (x : R) (Z : List R) : cutL t (x :: Z) = if x.2 > t then (max x.1 t, x.2) :: cutL t Z else cutL t Z := by
  unfold cutL
  by_cases h : x.2 > t
  · rw [List.filter_cons_of_pos (by simpa using h), List.map_cons, if_pos h, mx_is]
  · rw [List.filter_cons_of_neg (by simpa using h), if_neg h]
theorem work_is {Z : List R} (hZ : Srt Z) {a b : Int} (ha : 0 ≤ a) (hb : b ≤ 14400000) : ∀ s, 0 ≤ s → s + cnt Z a b ≤ 1000000000 → workF b s (cutL a Z) = s + cnt Z a b := by
  induction Z with
  | nil => intro s _ _; simp [cutL, workF, cnt]
  | cons x Z ih =>
    intro s hs hsc
    have hx := hZ.hd
    have hn := cnt_nonneg Z a b
    rw [cnt] at hsc ⊢
    rw [cutL_cons]
    by_cases h : x.2 > a
    · rw [if_pos h, workF]
      by_cases h2 : max x.1 a ≥ b
      · rw [if_pos h2]
        have : cnt Z a b = 0 := cnt_none Z a b (fun y hy => by have := hZ.lt y hy; omega)
        omega
      · rw [if_neg h2, mn_is]
        simp only at h2 ⊢
        rw [w64 (n := min x.2 b - max x.1 a) (by omega) (by omega), w64 (by omega) (by omega), ih hZ.tail _ (by omega) (by omega)]
        omega
    · rw [if_neg h, ih hZ.tail s hs (by omega)]
      omega
/-- Ranges that lie in the other order. -/
structure Dsc (Z : List R) : Prop where
  p : Z.Pairwise (fun x y => y.2 ≤ x.1)
  v : ∀ x ∈ Z, x.1 < x.2 ∧ 0 ≤ x.1 ∧ x.2 ≤ 14400000
theorem opn_cut (Z : List R) (a : Int) : ∀ i, a ≤ i → (opn (cutL a Z) i ↔ opn Z i) := by
  intro i hi
  induction Z with
  | nil => rfl
  | cons x Z ih =>
    rw [cutL_cons, opn_cons]
    by_cases h : x.2 > a
    · rw [if_pos h, opn_cons, ih]
      simp only
      have : (max x.1 a ≤ i ∧ i < x.2) ↔ (x.1 ≤ i ∧ i < x.2) := by omega
      rw [this]
    · rw [if_neg h, ih]
      exact ⟨.inr, fun q => q.resolve_left (by omega)⟩
theorem cut_mem {Z : List R} {a : Int} {x : R} (h : x ∈ cutL a Z) : ∃ y ∈ Z, y.2 > a ∧ x = (max y.1 a, y.2) := by
  unfold cutL at h
  obtain ⟨y, hy, rfl⟩ := List.mem_map.1 h
  obtain ⟨h1, h2⟩ := List.mem_filter.1 hy
  exact ⟨y, h1, by simpa using h2, by rw [mx_is]⟩
theorem cut_srt {Z : List R} (hZ : Srt Z) (a : Int) : (cutL a Z).Pairwise (fun x y => x.2 ≤ y.1) := by
  induction Z with
  | nil => exact List.Pairwise.nil
  | cons x Z ih =>
    rw [cutL_cons]
    by_cases h : x.2 > a
    · rw [if_pos h]
      refine List.pairwise_cons.2 ⟨fun y hy => ?_, ih hZ.tail⟩
      obtain ⟨q, hq, _, rfl⟩ := cut_mem hy
      have := hZ.lt q hq
      simp only; omega
    · rw [if_neg h]; exact ih hZ.tail
theorem next_is {Z : List R} (hZ : Srt Z) {a : Int} (t e : Int) (h : nextR (cutL a Z) = (t, e)) :
    (e = 0 ∧ a ≤ t ∧ opn Z t ∧ ∀ m, a ≤ m → m < t → ¬ opn Z m) ∨ (e = 9 ∧ t = 0 ∧ ∀ m, a ≤ m → ¬ opn Z m) := by
  have hp := cut_srt hZ a
  have ho := opn_cut Z a
  have hm : ∀ x ∈ cutL a Z, a ≤ x.1 ∧ x.1 < x.2 := fun x hx => by
    obtain ⟨y, hy, h1, rfl⟩ := cut_mem hx
    have := hZ.v y hy
    simp only; omega
  generalize cutL a Z = L at h hp ho hm
  cases L with
  | nil =>
    simp only [nextR, Prod.mk.injEq] at h
    exact .inr ⟨h.2.symm, h.1.symm, fun m hm' hq => opn_nil m ((ho m hm').2 hq)⟩
  | cons x L =>
    simp only [nextR, Prod.mk.injEq] at h
    obtain ⟨rfl, rfl⟩ := h
    have hx := hm x (by simp)
    refine .inl ⟨rfl, hx.1, (ho _ hx.1).1 ⟨x, by simp, Int.le_refl _, hx.2⟩, fun m k1 k2 hq => ?_⟩
    obtain ⟨y, hy, q1, q2⟩ := (ho m k1).2 hq
    rcases List.mem_cons.1 hy with rfl | hy
    · omega
    · have := (List.pairwise_cons.1 hp).1 y hy; omega
def rawK (sh : List S54) (fr : List Int) (d0 : Int) : Nat → List R
  | 0 => []
  | k + 1 => rawK sh fr d0 k ++ ofL sh fr (d0 + k)
/-- All days' ranges; behind a choice, so that nothing unfolds ten thousand days. -/
theorem Z0_ex (sh : List S54) (fr : List Int) : ∃ Z, Z = rawK sh fr 0 10000 := ⟨_, rfl⟩
noncomputable def Z0 (sh : List S54) (fr : List Int) : List R := Classical.choose (Z0_ex sh fr)
theorem Z0_eq (sh : List S54) (fr : List Int) : Z0 sh fr = rawK sh fr 0 10000 := Classical.choose_spec (Z0_ex sh fr)
theorem rngK_raw (sh : List S54) (fr : List Int) (t d0 : Int) : ∀ k, rngK sh fr t d0 k = cutL t (rawK sh fr d0 k)
  | 0 => rfl
  | k + 1 => by rw [rngK, rawK, cutL_append, rngK_raw sh fr t d0 k]
theorem rawK_add (sh : List S54) (fr : List Int) (d0 : Int) (a : Nat) : ∀ b, rawK sh fr d0 (a + b) = rawK sh fr d0 a ++ rawK sh fr (d0 + a) b
  | 0 => by simp [rawK]
  | b + 1 => by rw [← Nat.add_assoc, rawK, rawK, rawK_add sh fr d0 a b, List.append_assoc]; congr 3; omega
theorem rawK_left (sh : List S54) (fr : List Int) (d0 : Int) (k : Nat) : rawK sh fr d0 (k + 1) = ofL sh fr d0 ++ rawK sh fr (d0 + 1) k := by
  rw [Nat.add_comm, rawK_add]
  simp [rawK]
theorem ofL_mem {sh : List S54} {fr : List Int} (hV : Val sh fr) {d : Int} {x : R} (h : x ∈ ofL sh fr d) : 0 ≤ d ∧ d < 10000 ∧ d * 1440 ≤ x.1 ∧ x.1 < x.2 ∧ x.2 ≤ d * 1440 + 1440 := by
  unfold ofL at h
  split at h
  case isFalse => simp at h
  case isTrue hd =>
    unfold dayOn at hd
    simp only [Bool.and_eq_true, decide_eq_true_eq] at hd
    unfold ofS at h
    obtain ⟨s, hs, rfl⟩ := List.mem_map.1 h
    have := hV.s s (List.mem_filter.1 hs).1
    simp only
    omega
theorem ofS_srt {sh : List S54} {fr : List Int} (hV : Val sh fr) (d : Int) : (ofS sh d).Pairwise (fun x y => x.2 ≤ y.1) := by
  unfold ofS
  rw [List.pairwise_map]
  have h1 := hV.p.filter (fun s => s.f0 == d % 7 + 1)
  refine h1.imp_of_mem ?_
  intro a b ha hb h
  have e1 := (List.mem_filter.1 ha).2
  have e2 := (List.mem_filter.1 hb).2
  simp only [beq_iff_eq] at e1 e2
  simp only
  omega
theorem ofL_srt {sh : List S54} {fr : List Int} (hV : Val sh fr) (d : Int) : (ofL sh fr d).Pairwise (fun x y => x.2 ≤ y.1) := by
  unfold ofL
  split
  · exact ofS_srt hV d
  · exact List.Pairwise.nil
theorem rawK_mem {sh : List S54} {fr : List Int} (hV : Val sh fr) (d0 : Int) : ∀ k x, x ∈ rawK sh fr d0 k → x.1 < x.2 ∧ 0 ≤ x.1 ∧ x.2 ≤ 14400000 ∧ d0 * 1440 ≤ x.1 ∧ x.2 ≤ (d0 + k) * 1440 := by
  intro k
  induction k with
  | zero => intro x h; simp [rawK] at h
  | succ k ih =>
    intro x h
    rw [rawK] at h
    rcases List.mem_append.1 h with h | h
    · have := ih x h; omega
    · have := ofL_mem hV h; omega
theorem rawK_srt {sh : List S54} {fr : List Int} (hV : Val sh fr) (d0 : Int) : ∀ k, Srt (rawK sh fr d0 k) := by
  intro k
  refine ⟨?_, fun x hx => by have := rawK_mem hV d0 k x hx; omega⟩
  induction k with
  | zero => exact List.Pairwise.nil
  | succ k ih =>
    rw [rawK, List.pairwise_append]
    refine ⟨ih, ofL_srt hV _, fun x hx y hy => ?_⟩
    have h1 := rawK_mem hV d0 k x hx
    have h2 := ofL_mem hV hy
    omega
theorem Z0_srt {sh : List S54} {fr : List Int} (hV : Val sh fr) : Srt (Z0 sh fr) := by rw [Z0_eq]; exact rawK_srt hV 0 10000
theorem cutL_none (t : Int) (l : List R) (h : ∀ x ∈ l, x.2 ≤ t) : cutL t l = [] := by
  unfold cutL
  rw [List.filter_eq_nil_iff.2 (fun x hx => by have := h x hx; simp; omega)]; rfl
theorem rng_is {sh : List S54} {fr : List Int} (hV : Val sh fr) {t : Int} (h0 : 0 ≤ t) (h1 : t ≤ 14400000) : rngL sh fr t = cutL t (Z0 sh fr) := by
  unfold rngL
  rw [Z0_eq, rngK_raw, show (10000 : Nat) = (t / 1440).toNat + (10000 - t / 1440).toNat by omega, rawK_add, cutL_append, cutL_none t (rawK sh fr 0 (t / 1440).toNat), List.nil_append]
  · congr 3
    omega
  · intro x hx
    have := rawK_mem hV 0 _ x hx
    omega
end Go.Proofs.Ytpjgmlnnhcnelaa.Sh
