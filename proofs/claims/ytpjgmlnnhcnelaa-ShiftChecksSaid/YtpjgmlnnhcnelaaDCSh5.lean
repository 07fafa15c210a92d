import Derived.Test.YtpjgmlnnhcnelaaDCSh4
import Derived.Test.YtpjgmlnnhcnelaaDCQAx10
import Derived.Test.YtpjgmlnnhcnelaaDCQAx0
import Derived.Test.YtpjgmlnnhcnelaaDCQAx15
import Derived.Test.YtpjgmlnnhcnelaaDCQAx17
/-
  The reference's functions: what they come to.
-/
namespace Go.Proofs.Ytpjgmlnnhcnelaa.Sh
open Go.RowKit Go.Proofs.Ytpjgmlnnhcnelaa.QA Go.Proofs.YtpjgmlnnhcnelaaW.PrintWords Go.Proofs.YtpjgmlnnhcnelaaW.PrintLast Go.Proofs.YtpjgmlnnhcnelaaW.PrintMore Go.Proofs.Ytpjgmlnnhcnelaa.EvKit
set_option linter.unusedVariables false
set_option linter.unusedSimpArgs false
theorem free_l0 (sh : List S54) (fr : List Int) (hf : fr.length ≤ 64) (d : Int) : ∀ n j, fr.length = j + n → Ev (fun k => gangsawref12_Calendar_free.l0 k d (j : Int) sh fr) (decide (d ∈ fr.drop j)) := by
  intro n
  induction n with
  | zero =>
    intro j h
    refine Ev.succ ?_
    simp only [gangsawref12_Calendar_free.l0]
    refine Ev.neg (by omega) (Ev.eq (Ev.now _) ?_)
    rw [List.drop_of_length_le (show fr.length ≤ j by omega)]; simp
  | succ n ih =>
    intro j h
    refine Ev.succ ?_
    simp only [gangsawref12_Calendar_free.l0]
    refine Ev.pos (by omega) (Ev.pos (by omega) ?_)
    rw [rdI fr j (by omega), List.drop_eq_getElem_cons (show j < fr.length by omega)]
    refine Ev.ite (fun hc => Ev.eq (Ev.now _) ?_) (fun hc => ?_)
    · simp [hc]
    · rw [show wrap64 ((j : Int) + 1) = ((j + 1 : Nat) : Int) from by rw [w64 (by omega) (by omega)]; omega]
      refine Ev.eq (ih (j + 1) (by omega)) ?_
      have : d ≠ fr[j] := fun e => hc e.symm
      rw [decide_eq_decide]
      exact ⟨fun h => List.mem_cons_of_mem _ h, fun h => (List.mem_cons.1 h).resolve_left this⟩
theorem free_ev {sh : List S54} {fr : List Int} (hV : Val sh fr) (d : Int) : Ev (fun k => gangsawref12_Calendar_free.f k sh fr d) (decide (d ∈ fr)) := by
  unfold gangsawref12_Calendar_free.f
  exact free_l0 sh fr hV.l2 d fr.length 0 (by omega)
theorem ofS_cons (s : S54) (l : List S54) (d : Int) : ofS (s :: l) d = if s.f0 = d % 7 + 1 then (d * 1440 + s.f1, d * 1440 + s.f2) :: ofS l d else ofS l d := by
  unfold ofS
  by_cases h : s.f0 = d % 7 + 1
  · rw [List.filter_cons_of_pos (by simpa using h), List.map_cons, if_pos h]
  · rw [List.filter_cons_of_neg (by simpa using h), if_neg h]
theorem ofL_free {sh : List S54} {fr : List Int} {d : Int} (h : d ∈ fr) : ofL sh fr d = [] := by unfold ofL dayOn; simp [h]
theorem ofL_on {sh : List S54} {fr : List Int} {d : Int} (h : d ∉ fr) (h0 : 0 ≤ d) (h1 : d < 10000) : ofL sh fr d = ofS sh d := by unfold ofL dayOn; simp [h, h0, h1]
theorem day_wd {d : Int} (h0 : 0 ≤ d) (h1 : d ≤ 10000) : wrap64 (Int.tmod d 7 + 1) = d % 7 + 1 := by
  rw [Int.tmod_eq_emod_of_nonneg h0]
  exact w64 (by omega) (by omega)
theorem nxtN {j : Nat} (h1 : j ≤ 1000000) : wrap64 ((j : Int) + 1) = ((j + 1 : Nat) : Int) := by rw [w64 (by omega) (by omega)]; omega
theorem div_day {m : Int} (h0 : 0 ≤ m) (h1 : m ≤ 14400000) : wrap64 (Int.tdiv m 1440) = m / 1440 := by
  rw [Int.tdiv_eq_ediv_of_nonneg h0]
  exact w64 (by omega) (by omega)
theorem mod_day {m : Int} (h0 : 0 ≤ m) (h1 : m ≤ 14400000) : Int.tmod m 1440 = m % 1440 := Int.tmod_eq_emod_of_nonneg h0
theorem ropen_l0 {sh : List S54} {fr : List Int} (hV : Val sh fr) (m : Int) (h0 : 0 ≤ m) (h1 : m < 14400000) : ∀ n j, sh.length = j + n → Ev (fun k => gangsawref12_Calendar_Open.l0 k m (j : Int) sh fr) (openR (ofS (sh.drop j) (m / 1440)) m) := by
  intro n
  induction n with
  | zero =>
    intro j h
    refine Ev.succ ?_
    simp only [gangsawref12_Calendar_Open.l0]
    refine Ev.neg (by omega) (Ev.eq (Ev.now _) ?_)
    rw [List.drop_of_length_le (show sh.length ≤ j by omega)]; rfl
  | succ n ih =>
    intro j h
    have hj : j < sh.length := by omega
    have hl := hV.l1
    have hs := hV.s _ (List.getElem_mem hj)
    have yes : Ev (fun k => gangsawref12_Calendar_Open.j2 k m (j : Int) true sh fr) true := Ev.step (f := fun _ => some true) (fun _ => rfl) (Ev.now _)
    have step : Ev (fun k => gangsawref12_Calendar_Open.j2 k m (j : Int) false sh fr) (openR (ofS (sh.drop (j + 1)) (m / 1440)) m) := by
      refine Ev.step (f := fun k => gangsawref12_Calendar_Open.l0 k m (wrap64 ((j : Int) + 1)) sh fr) (fun _ => rfl) ?_
      rw [nxtN (by omega)]
      exact ih (j + 1) (by omega)
    refine Ev.succ ?_
    simp only [gangsawref12_Calendar_Open.l0]
    refine Ev.pos (by omega) (Ev.pos (by omega) ?_)
    rw [rdT sh j hj, div_day h0 (by omega), day_wd (by omega) (by omega), mod_day h0 (by omega), List.drop_eq_getElem_cons hj, ofS_cons]
    refine Ev.ite (fun hc => ?_) (fun hc => by rw [if_neg hc]; exact step)
    rw [if_pos hc]
    have e : openR ((m / 1440 * 1440 + sh[j].f1, m / 1440 * 1440 + sh[j].f2) :: ofS (sh.drop (j + 1)) (m / 1440)) m = (inside m (m / 1440 * 1440 + sh[j].f1, m / 1440 * 1440 + sh[j].f2) || openR (ofS (sh.drop (j + 1)) (m / 1440)) m) := rfl
    rw [e]
    refine Ev.ite (fun h2 => ?_) (fun h2 => ?_)
    · by_cases h3 : m % 1440 < sh[j].f2
      · rw [decide_eq_true h3]
        have : inside m (m / 1440 * 1440 + sh[j].f1, m / 1440 * 1440 + sh[j].f2) = true := by unfold inside; simp; omega
        rw [this]; exact yes
      · rw [decide_eq_false h3]
        have : inside m (m / 1440 * 1440 + sh[j].f1, m / 1440 * 1440 + sh[j].f2) = false := by unfold inside; simp; omega
        rw [this, Bool.false_or]; exact step
    · have : inside m (m / 1440 * 1440 + sh[j].f1, m / 1440 * 1440 + sh[j].f2) = false := by unfold inside; simp; omega
      rw [this, Bool.false_or]; exact step
theorem ropen_ev {sh : List S54} {fr : List Int} (hV : Val sh fr) {m : Int} (h0 : 0 ≤ m) (h1 : m ≤ 14400000) : Ev (fun k => gangsawref12_Calendar_Open.f k sh fr m) (openR (ofL sh fr (m / 1440)) m) := by
  unfold gangsawref12_Calendar_Open.f
  have stop : Ev (fun k => gangsawref12_Calendar_Open.j0 k m true sh fr) false := Ev.step (f := fun _ => some false) (fun _ => rfl) (Ev.now _)
  refine Ev.neg (by omega) (Ev.ite (fun h => Ev.eq stop ?_) (fun h => ?_))
  · cases hq : openR (ofL sh fr (m / 1440)) m with
    | false => rfl
    | true => have := opn_in hV ((open_is hV m).1 hq); omega
  · rw [div_day h0 h1]
    refine Ev.bind (free_ev hV (m / 1440)) ?_
    by_cases hd : m / 1440 ∈ fr
    · rw [decide_eq_true hd, ofL_free hd]; exact stop
    · rw [decide_eq_false hd, ofL_on hd (by omega) (by omega)]
      exact Ev.step (f := fun k => gangsawref12_Calendar_Open.l0 k m 0 sh fr) (fun _ => rfl) (ropen_l0 hV m h0 (by omega) sh.length 0 (by omega))
theorem rweek_l0 {sh : List S54} {fr : List Int} (hV : Val sh fr) : ∀ n j, sh.length = j + n → ∀ s : Int, 0 ≤ s → s ≤ 1440 * j → Ev (fun k => gangsawref12_Calendar_Week.l0 k s (j : Int) sh fr) (s + sumS (sh.drop j)) := by
  intro n
  induction n with
  | zero =>
    intro j h s _ _
    refine Ev.succ ?_
    simp only [gangsawref12_Calendar_Week.l0]
    refine Ev.neg (by omega) (Ev.eq (Ev.now _) ?_)
    rw [List.drop_of_length_le (show sh.length ≤ j by omega)]; simp [sumS]
  | succ n ih =>
    intro j h s h1 h2
    have hl := hV.l1
    refine Ev.succ ?_
    simp only [gangsawref12_Calendar_Week.l0]
    refine Ev.pos (by omega) (Ev.pos (by omega) ?_)
    rw [rdT sh j (by omega)]
    have hx := hV.s _ (List.getElem_mem (show j < sh.length by omega))
    rw [w64 (n := sh[j].f2 - sh[j].f1) (by omega) (by omega), w64 (by omega) (by omega), nxtN (by omega)]
    refine Ev.eq (ih (j + 1) (by omega) _ (by omega) (by omega)) ?_
    rw [List.drop_eq_getElem_cons (show j < sh.length by omega), sumS, Int.add_assoc]
theorem rweek_ev {sh : List S54} {fr : List Int} (hV : Val sh fr) : Ev (fun k => gangsawref12_Calendar_Week.f k sh fr) (sumS sh) := by
  unfold gangsawref12_Calendar_Week.f
  exact Ev.eq (rweek_l0 hV sh.length 0 (by omega) 0 (Int.le_refl _) (by omega)) (by simp)
end Go.Proofs.Ytpjgmlnnhcnelaa.Sh
