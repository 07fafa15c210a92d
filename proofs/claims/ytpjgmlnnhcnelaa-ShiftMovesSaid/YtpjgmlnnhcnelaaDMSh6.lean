import Derived.Test.YtpjgmlnnhcnelaaDMSh5
/-
  The reference's Whole, and how the answers stand to each other.
-/
namespace Go.Proofs.Ytpjgmlnnhcnelaa.Sh
open Go.RowKit Go.Proofs.Ytpjgmlnnhcnelaa.QA Go.Proofs.YtpjgmlnnhcnelaaW.PrintWords Go.Proofs.YtpjgmlnnhcnelaaW.PrintLast Go.Proofs.YtpjgmlnnhcnelaaW.PrintMore Go.Proofs.Ytpjgmlnnhcnelaa.EvKit
set_option linter.unusedVariables false
set_option linter.unusedSimpArgs false
theorem rawK_has {sh : List S54} {fr : List Int} (d0 d : Int) (x : R) (hx : x ∈ ofL sh fr d) : ∀ k : Nat, d0 ≤ d → d < d0 + k → x ∈ rawK sh fr d0 k := by
  intro k
  induction k with
  | zero => intro h1 h2; omega
  | succ k ih =>
    intro h1 h2
    rw [rawK, List.mem_append]
    by_cases e : d = d0 + k
    · exact .inr (by rw [← e]; exact hx)
    · exact .inl (ih h1 (by omega))
theorem Z0_has {sh : List S54} {fr : List Int} (hV : Val sh fr) {d : Int} {x : R} (hx : x ∈ ofL sh fr d) : x ∈ Z0 sh fr := by
  have := ofL_mem hV hx
  rw [Z0_eq]
  exact rawK_has 0 d x hx 10000 (by omega) (by omega)
theorem opn_day {sh : List S54} {fr : List Int} (hV : Val sh fr) {m : Int} (h : opn (Z0 sh fr) m) : opn (ofL sh fr (m / 1440)) m := by
  rw [Z0_eq, rawK_opn hV] at h
  exact h.2.2
theorem opn_on {sh : List S54} {fr : List Int} {d m : Int} (h : opn (ofL sh fr d) m) : ofL sh fr d = ofS sh d := by
  unfold ofL at h ⊢
  split
  · rfl
  · rename_i hd
    rw [if_neg hd] at h
    exact (opn_nil _ h).elim
structure SpanOK (Z : List R) (m r : Int) : Prop where
  lt : m < r
  le : r ≤ 14400000
  all : ∀ i, m ≤ i → i < r → opn Z i
  no : ¬ opn Z r
/-- The end of a range that holds m. -/
def Hit (Z : List R) (m e : Int) : Prop := ∃ x ∈ Z, x.1 ≤ m ∧ m < x.2 ∧ e = x.2
theorem span_l1 {sh : List S54} {fr : List Int} (hV : Val sh fr) (m : Int) (h0 : 0 ≤ m) (h1 : m < 14400000) (hon : ofL sh fr (m / 1440) = ofS sh (m / 1440)) (hne : sh.length ≠ 0)
    (hnext : ∀ e, m < e → opn (Z0 sh fr) e → ∃ r, Ev (fun k => gangsawref12_Calendar_Span.l0 k e sh fr) r ∧ SpanOK (Z0 sh fr) e r) :
    ∀ n j, sh.length = j + n → ∀ e, (e = m ∨ Hit (Z0 sh fr) m e) → (Hit (Z0 sh fr) m e ∨ opn (ofS (sh.drop j) (m / 1440)) m) →
      ∃ r, Ev (fun k => gangsawref12_Calendar_Span.l1 k m e (j : Int) sh fr) r ∧ SpanOK (Z0 sh fr) m r := by
  have hZ := Z0_srt hV
  intro n
  induction n with
  | zero =>
    intro j h e he hq
    have hjl : ¬ ((j : Int) < (sh.length : Int)) := by omega
    have hne' : ¬ ((sh.length : Int) = 0) := by omega
    have hd : sh.drop j = [] := List.drop_of_length_le (by omega)
    rw [hd] at hq
    obtain ⟨x, hx, x1, x2, rfl⟩ := hq.resolve_right (opn_nil m)
    have hxv := hZ.v x hx
    have hall : ∀ i, m ≤ i → i < x.2 → opn (Z0 sh fr) i := fun i k1 k2 => ⟨x, hx, by omega, k2⟩
    have hop := ropen_ev hV (m := x.2) (by omega) (by omega)
    cases ho : openR (ofL sh fr (x.2 / 1440)) x.2 with
    | true =>
      rw [ho] at hop
      have hopn := (open_is hV x.2).1 ho
      obtain ⟨r, hr, ⟨q1, q2, q3, q4⟩⟩ := hnext x.2 x2 hopn
      refine ⟨r, ?_, ⟨by omega, q2, fun i k1 k2 => ?_, q4⟩⟩
      · refine Ev.succ ?_
        simp only [gangsawref12_Calendar_Span.l1]
        exact Ev.neg hjl (Ev.bind hop (Ev.pos rfl (Ev.neg hne' hr)))
      · by_cases c : i < x.2
        · exact hall i k1 c
        · exact q3 i (by omega) k2
    | false =>
      rw [ho] at hop
      refine ⟨x.2, ?_, ⟨x2, by omega, hall, fun hq => by rw [(open_is hV x.2).2 hq] at ho; cases ho⟩⟩
      refine Ev.succ ?_
      simp only [gangsawref12_Calendar_Span.l1]
      exact Ev.neg hjl (Ev.bind hop (Ev.neg (by decide) (Ev.now _)))
  | succ n ih =>
    intro j h e he hq
    have hj : j < sh.length := by omega
    have hl := hV.l1
    have hs := hV.s _ (List.getElem_mem hj)
    have ec : sh.drop j = sh[j] :: sh.drop (j + 1) := List.drop_eq_getElem_cons hj
    rw [ec, ofS_cons] at hq
    have skip : ¬ (sh[j].f0 = m / 1440 % 7 + 1 ∧ sh[j].f1 ≤ m % 1440 ∧ m % 1440 < sh[j].f2) → ∃ r, Ev (fun k => gangsawref12_Calendar_Span.l1 k m e ((j + 1 : Nat) : Int) sh fr) r ∧ SpanOK (Z0 sh fr) m r := fun hn => by
      refine ih (j + 1) (by omega) e he (hq.imp_right (fun ho => ?_))
      split at ho
      · rename_i hw
        refine ((opn_cons _ _ _).1 ho).resolve_left (fun hh => hn ⟨hw, ?_⟩)
        simp only at hh
        omega
      · exact ho
    by_cases c1 : sh[j].f0 = m / 1440 % 7 + 1
    · by_cases c2 : sh[j].f1 ≤ m % 1440
      · by_cases c3 : m % 1440 < sh[j].f2
        · have hmem : (m / 1440 * 1440 + sh[j].f1, m / 1440 * 1440 + sh[j].f2) ∈ Z0 sh fr := by
            refine Z0_has hV (d := m / 1440) ?_
            rw [hon]
            unfold ofS
            exact List.mem_map.2 ⟨sh[j], List.mem_filter.2 ⟨List.getElem_mem hj, by simpa using c1⟩, rfl⟩
          have hQ : Hit (Z0 sh fr) m (m / 1440 * 1440 + sh[j].f2) := ⟨_, hmem, by simp only; omega, by simp only; omega, rfl⟩
          obtain ⟨r, hr, hok⟩ := ih (j + 1) (by omega) _ (.inr hQ) (.inl hQ)
          refine ⟨r, Ev.succ ?_, hok⟩
          simp only [gangsawref12_Calendar_Span.l1]
          rw [rdT sh j hj, div_day h0 (by omega), day_wd (by omega) (by omega), mod_day h0 (by omega), nxtN (by omega), w64 (n := m - m % 1440) (by omega) (by omega), w64 (n := m - m % 1440 + sh[j].f2) (by omega) (by omega), show m - m % 1440 + sh[j].f2 = m / 1440 * 1440 + sh[j].f2 by omega]
          exact Ev.pos (by omega) (Ev.pos (by omega) (Ev.pos c1 (Ev.pos c2 (Ev.pos c3 hr))))
        · obtain ⟨r, hr, hok⟩ := skip (fun q => c3 q.2.2)
          refine ⟨r, Ev.succ ?_, hok⟩
          simp only [gangsawref12_Calendar_Span.l1]
          rw [rdT sh j hj, div_day h0 (by omega), day_wd (by omega) (by omega), mod_day h0 (by omega), nxtN (by omega)]
          exact Ev.pos (by omega) (Ev.pos (by omega) (Ev.pos c1 (Ev.pos c2 (Ev.neg c3 hr))))
      · obtain ⟨r, hr, hok⟩ := skip (fun q => c2 q.2.1)
        refine ⟨r, Ev.succ ?_, hok⟩
        simp only [gangsawref12_Calendar_Span.l1]
        rw [rdT sh j hj, div_day h0 (by omega), day_wd (by omega) (by omega), mod_day h0 (by omega), nxtN (by omega)]
        exact Ev.pos (by omega) (Ev.pos (by omega) (Ev.pos c1 (Ev.neg c2 hr)))
    · obtain ⟨r, hr, hok⟩ := skip (fun q => c1 q.1)
      refine ⟨r, Ev.succ ?_, hok⟩
      simp only [gangsawref12_Calendar_Span.l1]
      rw [rdT sh j hj, div_day h0 (by omega), day_wd (by omega) (by omega), mod_day h0 (by omega), nxtN (by omega)]
      exact Ev.pos (by omega) (Ev.pos (by omega) (Ev.neg c1 hr))
theorem span_l0 {sh : List S54} {fr : List Int} (hV : Val sh fr) : ∀ N : Nat, ∀ m : Int, 14400000 - m ≤ N → opn (Z0 sh fr) m → ∃ r, Ev (fun k => gangsawref12_Calendar_Span.l0 k m sh fr) r ∧ SpanOK (Z0 sh fr) m r := by
  intro N
  induction N with
  | zero =>
    intro m hm ho
    have := opn_in hV ho
    omega
  | succ N ih =>
    intro m hm ho
    have hb := opn_in hV ho
    have hd := opn_day hV ho
    have hon := opn_on hd
    have hne : sh.length ≠ 0 := fun hz => by
      rw [List.eq_nil_of_length_eq_zero hz] at hon
      rw [show sh = [] from List.eq_nil_of_length_eq_zero hz] at hd
      rw [hon] at hd
      exact opn_nil m hd
    obtain ⟨r, hr, hok⟩ := span_l1 hV m hb.1 hb.2 hon hne (fun e he heo => ih e (by omega) heo) sh.length 0 (by omega) m (.inl rfl) (.inr (by rw [List.drop_zero, ← hon]; exact hd))
    refine ⟨r, Ev.succ ?_, hok⟩
    simp only [gangsawref12_Calendar_Span.l0]
    exact hr
def WG (Z : List R) (a nd r : Int) : Prop := (r = -1 ∧ ∀ m, a ≤ m → ¬ good Z nd m) ∨ (a ≤ r ∧ good Z nd r ∧ ∀ m, a ≤ m → m < r → ¬ good Z nd m)
theorem rwhole_l0 {sh : List S54} {fr : List Int} (hV : Val sh fr) (a z : Int) (ha : 0 ≤ a) (hz : 0 ≤ z ∧ z ≤ 14400000) : ∀ N : Nat, ∀ m : Int, 14400000 - m ≤ N → a ≤ m → opn (Z0 sh fr) m → (∀ m', a ≤ m' → m' < m → ¬ good (Z0 sh fr) (max z 1) m') →
    ∃ r, Ev (fun k => gangsawref12_Calendar_Whole.l0 k z m sh fr) r ∧ WG (Z0 sh fr) a (max z 1) r := by
  have hZ := Z0_srt hV
  intro N
  induction N with
  | zero =>
    intro m hm _ ho _
    have := opn_in hV ho
    omega
  | succ N ih =>
    intro m hm ham ho hno
    have hb := opn_in hV ho
    obtain ⟨e, he, ⟨q1, q2, q3, q4⟩⟩ := span_l0 hV (14400000 - m).toNat m (by omega) ho
    by_cases c : e - m ≥ z
    · refine ⟨m, ?_, .inr ⟨ham, fun i k1 k2 => q3 i k1 (by omega), hno⟩⟩
      refine Ev.succ ?_
      simp only [gangsawref12_Calendar_Whole.l0]
      refine Ev.pos (by omega) (Ev.bind he ?_)
      rw [w64 (n := e - m) (by omega) (by omega)]
      exact Ev.pos c (Ev.now _)
    · have hno2 : ∀ m', a ≤ m' → m' ≤ e → ¬ good (Z0 sh fr) (max z 1) m' := fun m' k1 k2 hg => by
        by_cases k3 : m' < m
        · exact hno m' k1 k3 hg
        · exact q4 (hg e k2 (by omega))
      have hn := rnext_ev hV (m := e) (by omega) q2
      rcases nextG_is hZ (show 0 ≤ e by omega) with ⟨g1, g2⟩ | ⟨g1, g2, g3⟩
      · rw [g1] at hn
        refine ⟨-1, ?_, .inl ⟨rfl, fun m' k1 hg => ?_⟩⟩
        · refine Ev.succ ?_
          simp only [gangsawref12_Calendar_Whole.l0]
          refine Ev.pos (by omega) (Ev.bind he ?_)
          rw [w64 (n := e - m) (by omega) (by omega)]
          refine Ev.neg c (Ev.bind hn (Ev.succ ?_))
          simp only [gangsawref12_Calendar_Whole.l0]
          exact Ev.neg (by omega) (Ev.now _)
        · by_cases k2 : m' ≤ e
          · exact hno2 m' k1 k2 hg
          · exact g2 m' (by omega) (hg m' (Int.le_refl _) (by omega))
      · obtain ⟨r, hr, hw⟩ := ih (nextG e (Z0 sh fr)) (by omega) (by omega) g2 (fun m' k1 k2 hg => by
          by_cases k3 : m' ≤ e
          · exact hno2 m' k1 k3 hg
          · exact g3 m' (by omega) k2 (hg m' (Int.le_refl _) (by omega)))
        refine ⟨r, ?_, hw⟩
        refine Ev.succ ?_
        simp only [gangsawref12_Calendar_Whole.l0]
        refine Ev.pos (by omega) (Ev.bind he ?_)
        rw [w64 (n := e - m) (by omega) (by omega)]
        exact Ev.neg c (Ev.bind hn hr)
theorem rwhole_ev {sh : List S54} {fr : List Int} (hV : Val sh fr) {a z : Int} (ha : 0 ≤ a ∧ a ≤ 14400000) (hz : 0 ≤ z ∧ z ≤ 14400000) : ∃ r, Ev (fun k => gangsawref12_Calendar_Whole.f k sh fr a z) r ∧ ansR (wholeF (max z 1) a a (cutL a (Z0 sh fr))) r := by
  have hZ := Z0_srt hV
  have main : ∃ r, Ev (fun k => gangsawref12_Calendar_Whole.f k sh fr a z) r ∧ WG (Z0 sh fr) a (max z 1) r := by
    unfold gangsawref12_Calendar_Whole.f
    have hn := rnext_ev hV ha.1 ha.2
    rcases nextG_is hZ ha.1 with ⟨g1, g2⟩ | ⟨g1, g2, g3⟩
    · rw [g1] at hn
      refine ⟨-1, Ev.bind hn (Ev.succ ?_), .inl ⟨rfl, fun m k1 hg => g2 m k1 (hg m (Int.le_refl _) (by omega))⟩⟩
      simp only [gangsawref12_Calendar_Whole.l0]
      exact Ev.neg (by omega) (Ev.now _)
    · obtain ⟨r, hr, hw⟩ := rwhole_l0 hV a z ha.1 hz (14400000 - nextG a (Z0 sh fr)).toNat _ (by omega) g1 g2 (fun m k1 k2 hg => g3 m k1 k2 (hg m (Int.le_refl _) (by omega)))
      exact ⟨r, Ev.bind hn hr, hw⟩
  obtain ⟨r, hr, hw⟩ := main
  refine ⟨r, hr, ?_⟩
  obtain ⟨t, e, hte⟩ : ∃ t e, wholeF (max z 1) a a (cutL a (Z0 sh fr)) = (t, e) := ⟨_, _, rfl⟩
  rw [hte]
  rcases whole_is hZ (by omega) ha.1 t e hte with ⟨rfl, k2, k3, k4⟩ | ⟨rfl, rfl, k3⟩
  · rcases hw with ⟨_, w2⟩ | ⟨w1, w2, w3⟩
    · exact (w2 t k2 k3).elim
    · have : t = r := by
        by_cases c1 : t < r
        · exact (w3 t k2 c1 k3).elim
        · by_cases c2 : r < t
          · exact (k4 r w1 c2 w2).elim
          · omega
      subst this
      exact .inr ⟨rfl, by omega⟩
  · rcases hw with ⟨w1, w2⟩ | ⟨w1, w2, w3⟩
    · exact .inl ⟨rfl, w1⟩
    · exact (k3 r w1 w2).elim
theorem answer_is {p : Int × Int} {g : Int} (h : ansR p g) : gangsawlaw12_answer.f p.1 p.2 g = some true := by
  unfold gangsawlaw12_answer.f
  rcases h with ⟨rfl, rfl⟩ | ⟨rfl, h⟩
  · rfl
  · rw [if_neg (by omega), if_pos rfl]; simp
end Go.Proofs.Ytpjgmlnnhcnelaa.Sh
