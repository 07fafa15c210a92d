import Derived.Test.YtpjgmlnnhcnelaaDKSh4
import Derived.Test.YtpjgmlnnhcnelaaDKQAx10
import Derived.Test.YtpjgmlnnhcnelaaDKQAx11
import Derived.Test.YtpjgmlnnhcnelaaDKQAx0
/-
  The reference's functions: what they come to.
-/
namespace Go.Proofs.Ytpjgmlnnhcnelaa.Sh
open Go.RowKit Go.Proofs.Ytpjgmlnnhcnelaa.QA Go.Proofs.YtpjgmlnnhcnelaaW.PrintWords Go.Proofs.YtpjgmlnnhcnelaaW.PrintLast Go.Proofs.YtpjgmlnnhcnelaaW.PrintMore Go.Proofs.Ytpjgmlnnhcnelaa.EvKit
set_option linter.unusedVariables false
set_option linter.unusedSimpArgs false
theorem free_l0 (sh : List S54) (fr : List Int) (hf : fr.length ≤ 64) (d : Int) : ∀ n j, fr.length = j + n → Ev (fun k => gangsawref12_Calendar_free.l0 k d (j : Int) sh fr) (decide (d ∈ fr.drop j)) := by
  intro n
  induction n with
  | zero =>
    intro j h
    refine Ev.succ ?_
    simp only [gangsawref12_Calendar_free.l0]
    refine Ev.neg (by omega) (Ev.eq (Ev.now _) ?_)
    rw [List.drop_of_length_le (show fr.length ≤ j by omega)]; simp
  | succ n ih =>
    intro j h
    refine Ev.succ ?_
    simp only [gangsawref12_Calendar_free.l0]
    refine Ev.pos (by omega) (Ev.pos (by omega) ?_)
    rw [rdI fr j (by omega), List.drop_eq_getElem_cons (show j < fr.length by omega)]
    refine Ev.ite (fun hc => Ev.eq (Ev.now _) ?_) (fun hc => ?_)
    · simp [hc]
    · rw [show wrap64 ((j : Int) + 1) = ((j + 1 : Nat) : Int) from by rw [w64 (by omega) (by omega)]; omega]
      refine Ev.eq (ih (j + 1) (by omega)) ?_
      have : d ≠ fr[j] := fun e => hc e.symm
      rw [decide_eq_decide]
      exact ⟨fun h => List.mem_cons_of_mem _ h, fun h => (List.mem_cons.1 h).resolve_left this⟩
theorem free_ev {sh : List S54} {fr : List Int} (hV : Val sh fr) (d : Int) : Ev (fun k => gangsawref12_Calendar_free.f k sh fr d) (decide (d ∈ fr)) := by
  unfold gangsawref12_Calendar_free.f
  exact free_l0 sh fr hV.l2 d fr.length 0 (by omega)
theorem ofS_cons (s : S54) (l : List S54) (d : Int) : ofS (s :: l) d = if s.f0 = d % 7 + 1 then (d * 1440 + s.f1, d * 1440 + s.f2) :: ofS l d else ofS l d := by
  unfold ofS
  by_cases h : s.f0 = d % 7 + 1
  · rw [List.filter_cons_of_pos (by simpa using h), List.map_cons, if_pos h]
  · rw [List.filter_cons_of_neg (by simpa using h), if_neg h]
theorem ofL_free {sh : List S54} {fr : List Int} {d : Int} (h : d ∈ fr) : ofL sh fr d = [] := by unfold ofL dayOn; simp [h]
theorem ofL_on {sh : List S54} {fr : List Int} {d : Int} (h : d ∉ fr) (h0 : 0 ≤ d) (h1 : d < 10000) : ofL sh fr d = ofS sh d := by unfold ofL dayOn; simp [h, h0, h1]
theorem day_wd {d : Int} (h0 : 0 ≤ d) (h1 : d ≤ 10000) : wrap64 (Int.tmod d 7 + 1) = d % 7 + 1 := by
  rw [Int.tmod_eq_emod_of_nonneg h0]
  exact w64 (by omega) (by omega)
theorem day_at {d q : Int} (h0 : 0 ≤ d) (h1 : d ≤ 10000) (h2 : 0 ≤ q) (h3 : q ≤ 1440) : wrap64 (wrap64 (1440 * d) + q) = d * 1440 + q := by
  rw [w64 (n := 1440 * d) (by omega) (by omega), w64 (by omega) (by omega)]; omega
theorem nxt1 {d : Int} (h0 : -10 ≤ d) (h1 : d ≤ 1000000) : wrap64 (d + 1) = d + 1 := w64 (by omega) (by omega)
theorem nxtN {j : Nat} (h1 : j ≤ 1000000) : wrap64 ((j : Int) + 1) = ((j + 1 : Nat) : Int) := by rw [w64 (by omega) (by omega)]; omega
theorem div_day {m : Int} (h0 : 0 ≤ m) (h1 : m ≤ 14400000) : wrap64 (Int.tdiv m 1440) = m / 1440 := by
  rw [Int.tdiv_eq_ediv_of_nonneg h0]
  exact w64 (by omega) (by omega)
def nextG (m : Int) : List R → Int
  | [] => -1
  | x :: Z => if x.2 > m then max m x.1 else nextG m Z
theorem nextG_skip (m : Int) (Y Z : List R) (h : ∀ x ∈ Y, x.2 ≤ m) : nextG m (Y ++ Z) = nextG m Z := by
  induction Y with
  | nil => rfl
  | cons x Y ih =>
    have := h x (by simp)
    rw [List.cons_append, nextG, if_neg (by omega), ih (fun y hy => h y (by simp [hy]))]
theorem nextG_is {Z : List R} (hZ : Srt Z) {m : Int} (hm : 0 ≤ m) : (nextG m Z = -1 ∧ ∀ i, m ≤ i → ¬ opn Z i) ∨ (m ≤ nextG m Z ∧ opn Z (nextG m Z) ∧ ∀ i, m ≤ i → i < nextG m Z → ¬ opn Z i) := by
  induction Z with
  | nil => exact .inl ⟨rfl, fun i _ => opn_nil i⟩
  | cons x Z ih =>
    have hx := hZ.hd
    rw [nextG]
    by_cases h : x.2 > m
    · rw [if_pos h]
      refine .inr ⟨by omega, ⟨x, by simp, by omega, by omega⟩, fun i h1 h2 ho => ?_⟩
      rcases (opn_cons _ _ _).1 ho with q | ⟨y, hy, q1, q2⟩
      · omega
      · have := hZ.lt y hy; omega
    · rw [if_neg h]
      rcases ih hZ.tail with ⟨e, q⟩ | ⟨h1, h2, h3⟩
      · exact .inl ⟨e, fun i hi ho => q i hi (((opn_cons _ _ _).1 ho).resolve_left (by omega))⟩
      · exact .inr ⟨h1, (opn_cons _ _ _).2 (.inr h2), fun i hi hl ho => h3 i hi hl (((opn_cons _ _ _).1 ho).resolve_left (by omega))⟩
theorem rnext_l1 {sh : List S54} {fr : List Int} (hV : Val sh fr) (m d : Int) (h0 : 0 ≤ d) (h1 : d < 10000) (rest : List R) (hr : Ev (fun k => gangsawref12_Calendar_Next.l0 k m (d + 1) sh fr) (nextG m rest)) :
    ∀ n j, sh.length = j + n → Ev (fun k => gangsawref12_Calendar_Next.l1 k m d (j : Int) sh fr) (nextG m (ofS (sh.drop j) d ++ rest)) := by
  intro n
  induction n with
  | zero =>
    intro j h
    refine Ev.succ ?_
    simp only [gangsawref12_Calendar_Next.l1]
    refine Ev.neg (by omega) (Ev.succ ?_)
    simp only [gangsawref12_Calendar_Next.j3]
    rw [nxt1 (by omega) (by omega), List.drop_of_length_le (show sh.length ≤ j by omega)]
    exact hr
  | succ n ih =>
    intro j h
    have hj : j < sh.length := by omega
    have hl := hV.l1
    have hs := hV.s _ (List.getElem_mem hj)
    have step : Ev (fun k => gangsawref12_Calendar_Next.j2 k m d (j : Int) sh fr) (nextG m (ofS (sh.drop (j + 1)) d ++ rest)) := by
      refine Ev.succ ?_
      simp only [gangsawref12_Calendar_Next.j2]
      rw [nxtN (by omega)]
      exact ih (j + 1) (by omega)
    refine Ev.succ ?_
    simp only [gangsawref12_Calendar_Next.l1]
    refine Ev.pos (by omega) (Ev.pos (by omega) ?_)
    rw [rdT sh j hj, day_wd h0 (by omega), day_at h0 (by omega) (by omega) hs.2.2.2, day_at h0 (by omega) hs.2.1 (by omega), List.drop_eq_getElem_cons hj, ofS_cons]
    refine Ev.ite (fun hc => ?_) (fun hc => by rw [if_neg hc]; exact step)
    rw [if_pos hc, List.cons_append, nextG]
    refine Ev.ite (fun h2 => by rw [if_pos h2, mx_is]; exact Ev.now _) (fun h2 => by rw [if_neg h2]; exact step)
theorem rnext_l0 {sh : List S54} {fr : List Int} (hV : Val sh fr) (m : Int) : ∀ n : Nat, ∀ d : Int, 0 ≤ d → d + n = 10000 → Ev (fun k => gangsawref12_Calendar_Next.l0 k m d sh fr) (nextG m (rawK sh fr d n)) := by
  intro n
  induction n with
  | zero =>
    intro d h0 h1
    refine Ev.succ ?_
    simp only [gangsawref12_Calendar_Next.l0]
    exact Ev.neg (by omega) (Ev.now _)
  | succ n ih =>
    intro d h0 h1
    have hr := ih (d + 1) (by omega) (by omega)
    refine Ev.succ ?_
    simp only [gangsawref12_Calendar_Next.l0]
    refine Ev.pos (by omega) (Ev.bind (free_ev hV d) ?_)
    rw [rawK_left]
    by_cases hd : d ∈ fr
    · rw [decide_eq_true hd, ofL_free hd, List.nil_append]
      refine Ev.pos rfl (Ev.succ ?_)
      simp only [gangsawref12_Calendar_Next.j3]
      rw [nxt1 (by omega) (by omega)]
      exact hr
    · rw [decide_eq_false hd, ofL_on hd h0 (by omega)]
      exact Ev.neg (by decide) (rnext_l1 hV m d h0 (by omega) _ hr sh.length 0 (by omega))
theorem raw_from {sh : List S54} {fr : List Int} (hV : Val sh fr) {t : Int} (h0 : 0 ≤ t) (h1 : t ≤ 14400000) : ∃ Y, Z0 sh fr = Y ++ rawK sh fr (t / 1440) (10000 - t / 1440).toNat ∧ ∀ x ∈ Y, x.2 ≤ t := by
  refine ⟨rawK sh fr 0 (t / 1440).toNat, ?_, fun x hx => by have := rawK_mem hV 0 _ x hx; omega⟩
  rw [Z0_eq, show (10000 : Nat) = (t / 1440).toNat + (10000 - t / 1440).toNat by omega, rawK_add]
  congr 2
  omega
theorem rnext_ev {sh : List S54} {fr : List Int} (hV : Val sh fr) {m : Int} (h0 : 0 ≤ m) (h1 : m ≤ 14400000) : Ev (fun k => gangsawref12_Calendar_Next.f k sh fr m) (nextG m (Z0 sh fr)) := by
  unfold gangsawref12_Calendar_Next.f
  rw [div_day h0 h1]
  obtain ⟨Y, hY, hy⟩ := raw_from hV h0 h1
  rw [hY, nextG_skip m Y _ hy]
  exact rnext_l0 hV m (10000 - m / 1440).toNat (m / 1440) (by omega) (by omega)
theorem rwork_l1 {sh : List S54} {fr : List Int} (hV : Val sh fr) (a b d : Int) (ha : 0 ≤ a ∧ a ≤ 14400000) (hb : 0 ≤ b ∧ b ≤ 14400000) (h0 : 0 ≤ d) (h1 : d < 10000) (rest : List R)
    (hr : ∀ s, 0 ≤ s → s + cnt rest a b ≤ 1000000000 → Ev (fun k => gangsawref12_Calendar_Work.l0 k a b s (d + 1) sh fr) (s + cnt rest a b)) :
    ∀ n j, sh.length = j + n → ∀ s, 0 ≤ s → s + cnt (ofS (sh.drop j) d ++ rest) a b ≤ 1000000000 → Ev (fun k => gangsawref12_Calendar_Work.l1 k a b s d (j : Int) sh fr) (s + cnt (ofS (sh.drop j) d ++ rest) a b) := by
  intro n
  induction n with
  | zero =>
    intro j h s hs hb'
    have e : ofS (sh.drop j) d ++ rest = rest := by rw [List.drop_of_length_le (show sh.length ≤ j by omega)]; rfl
    rw [e] at hb' ⊢
    refine Ev.succ ?_
    simp only [gangsawref12_Calendar_Work.l1]
    refine Ev.neg (by omega) ?_
    rw [nxt1 (by omega) (by omega)]
    exact hr s hs hb'
  | succ n ih =>
    intro j h s hs hb'
    have hj : j < sh.length := by omega
    have hl := hV.l1
    have hv := hV.s _ (List.getElem_mem hj)
    refine Ev.succ ?_
    simp only [gangsawref12_Calendar_Work.l1]
    refine Ev.pos (by omega) (Ev.pos (by omega) ?_)
    rw [List.drop_eq_getElem_cons hj, ofS_cons] at hb' ⊢
    rw [rdT sh j hj, day_wd h0 (by omega), day_at h0 (by omega) (by omega) hv.2.2.2, day_at h0 (by omega) hv.2.1 (by omega), nxtN (by omega)]
    refine Ev.ite (fun hc => ?_) (fun hc => by rw [if_neg hc] at hb' ⊢; exact ih (j + 1) (by omega) s hs hb')
    rw [if_pos hc, List.cons_append, cnt] at hb' ⊢
    simp only at hb' ⊢
    have hn := cnt_nonneg (ofS (sh.drop (j + 1)) d ++ rest) a b
    rw [mn_is, mx_is, mx_is, w64 (n := min b (d * 1440 + sh[j].f2) - max a (d * 1440 + sh[j].f1)) (by omega) (by omega), w64 (n := s + max 0 (min b (d * 1440 + sh[j].f2) - max a (d * 1440 + sh[j].f1))) (by omega) (by omega)]
    refine Ev.eq (ih (j + 1) (by omega) _ (by omega) (by omega)) ?_
    omega
theorem rwork_l0 {sh : List S54} {fr : List Int} (hV : Val sh fr) (a b : Int) (ha : 0 ≤ a ∧ a ≤ 14400000) (hb : 0 ≤ b ∧ b ≤ 14400000) : ∀ n : Nat, ∀ d : Int, 0 ≤ d → d + n = 10000 → ∀ s, 0 ≤ s → s + cnt (rawK sh fr d n) a b ≤ 1000000000 →
    Ev (fun k => gangsawref12_Calendar_Work.l0 k a b s d sh fr) (s + cnt (rawK sh fr d n) a b) := by
  intro n
  induction n with
  | zero =>
    intro d h0 h1 s hs hb'
    have stop : Ev (fun k => gangsawref12_Calendar_Work.j1 k a b s d false sh fr) (s + cnt (rawK sh fr d 0) a b) := Ev.step (f := fun _ => some s) (fun _ => rfl) (Ev.eq (Ev.now _) (by simp [rawK, cnt]))
    refine Ev.succ ?_
    simp only [gangsawref12_Calendar_Work.l0]
    rw [decide_eq_false (show ¬ d < 10000 by omega)]
    exact Ev.ite (fun _ => stop) (fun _ => stop)
  | succ n ih =>
    intro d h0 h1 s hs hb'
    refine Ev.succ ?_
    simp only [gangsawref12_Calendar_Work.l0]
    rw [w64 (n := d * 1440) (by omega) (by omega)]
    refine Ev.ite (fun hlt => ?_) (fun hge => ?_)
    · rw [decide_eq_true (show d < 10000 by omega)]
      refine Ev.succ ?_
      simp only [gangsawref12_Calendar_Work.j1]
      refine Ev.pos (by trivial) (Ev.bind (free_ev hV d) ?_)
      rw [rawK_left] at hb' ⊢
      by_cases hd : d ∈ fr
      · rw [ofL_free hd, List.nil_append] at hb' ⊢
        rw [decide_eq_true hd, nxt1 (by omega) (by omega)]
        exact Ev.pos rfl (ih (d + 1) (by omega) (by omega) s hs hb')
      · rw [ofL_on hd h0 (by omega)] at hb' ⊢
        rw [decide_eq_false hd]
        exact Ev.neg (by decide) (rwork_l1 hV a b d ha hb h0 (by omega) _ (fun s hs hb => ih (d + 1) (by omega) (by omega) s hs hb) sh.length 0 (by omega) s hs hb')
    · have : cnt (rawK sh fr d (n + 1)) a b = 0 := cnt_none _ _ _ (fun y hy => by have := rawK_mem hV d _ y hy; omega)
      rw [this]
      exact Ev.step (f := fun _ => some s) (fun _ => rfl) (Ev.eq (Ev.now _) (by omega))
theorem rwork_ev {sh : List S54} {fr : List Int} (hV : Val sh fr) {a b : Int} (ha : 0 ≤ a ∧ a ≤ 14400000) (hb : 0 ≤ b ∧ b ≤ 14400000) (hab : a ≤ b) : Ev (fun k => gangsawref12_Calendar_Work.f k sh fr a b) (cnt (Z0 sh fr) a b) := by
  unfold gangsawref12_Calendar_Work.f
  rw [div_day ha.1 ha.2]
  obtain ⟨Y, hY, hy⟩ := raw_from hV ha.1 ha.2
  have h1 := cnt_le (Z0_srt hV) hab
  rw [hY, cnt_append, cnt_none Y a b (fun y h => .inr (.inl (hy y h)))] at h1 ⊢
  exact Ev.eq (rwork_l0 hV a b ha hb (10000 - a / 1440).toNat (a / 1440) (by omega) (by omega) 0 (Int.le_refl _) (by omega)) (by omega)
/-- How an answer of the reference stands to the program's. -/
def ansR (p : Int × Int) (g : Int) : Prop := (p = (0, 9) ∧ g = -1) ∨ (p = (g, 0) ∧ 0 ≤ g)
end Go.Proofs.Ytpjgmlnnhcnelaa.Sh
