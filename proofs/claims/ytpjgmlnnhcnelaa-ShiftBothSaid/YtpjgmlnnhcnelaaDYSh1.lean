import Derived.Test.YtpjgmlnnhcnelaaDYQAx3
import Derived.Test.YtpjgmlnnhcnelaaDYQAx4
import Derived.Test.YtpjgmlnnhcnelaaDYQAx0
import Derived.Test.YtpjgmlnnhcnelaaDYQAx5
import Derived.Test.YtpjgmlnnhcnelaaDYEvKit
namespace Go.Proofs.Ytpjgmlnnhcnelaa.Sh
open Go.RowKit Go.Proofs.Ytpjgmlnnhcnelaa.QA Go.Proofs.YtpjgmlnnhcnelaaW.PrintWords Go.Proofs.YtpjgmlnnhcnelaaW.PrintLast Go.Proofs.YtpjgmlnnhcnelaaW.PrintMore Go.Proofs.Ytpjgmlnnhcnelaa.EvKit
set_option linter.unusedVariables false
set_option linter.unusedSimpArgs false
def dupS : List S54 → Bool
  | a :: b :: l => (decide (a.f0 > b.f0) || (decide (a.f0 = b.f0) && decide (a.f2 > b.f1))) || dupS (b :: l)
  | _ => false
def dupF : List Int → Bool
  | a :: b :: l => decide (a ≥ b) || dupF (b :: l)
  | _ => false
def ck (sh : List S54) (fr : List Int) : Int :=
  if sh.length > 64 ∨ fr.length > 64 then 7 else if (sh.any wrongS || fr.any offDay) = true then 6 else if dupS sh = true then 5 else if dupF fr = true then 5 else 0
theorem rdT (sh : List S54) (j : Nat) (h : j < sh.length) : rd_T54 sh (j : Int) = sh[j] := by simp [rd_T54, List.getD_eq_getElem?_getD, List.getElem?_eq_getElem h]
theorem rdI (fr : List Int) (j : Nat) (h : j < fr.length) : rd fr (j : Int) = fr[j] := by simp [rd, List.getD_eq_getElem?_getD, List.getElem?_eq_getElem h]
theorem nxt (j : Nat) (hj : j ≤ 1000000) : wrap64 ((j : Int) + 1 + 1) = ((j + 1 : Nat) : Int) + 1 := by rw [w64 (by omega) (by omega)]; omega
theorem prv (j : Nat) (hj : j ≤ 1000000) : wrap64 ((j : Int) + 1 - 1) = (j : Int) := by rw [w64 (by omega) (by omega)]; omega
theorem ck_l1 (sh : List S54) (fr : List Int) (hf : fr.length ≤ 64) : ∀ n j, fr.length = j + n → Ev (fun k => shift_Check.l1 k ((j : Int) + 1) sh fr) (if dupF (fr.drop j) = true then 5 else 0) := by
  intro n
  induction n with
  | zero =>
    intro j h
    refine Ev.succ ?_
    simp only [shift_Check.l1]
    refine Ev.neg (by omega) (Ev.eq (Ev.now _) ?_)
    rw [List.drop_of_length_le (by omega)]; rfl
  | succ n ih =>
    intro j h
    refine Ev.succ ?_
    simp only [shift_Check.l1]
    by_cases hj : j + 1 < fr.length
    · have e1 : fr.drop j = fr[j] :: fr[j + 1] :: fr.drop (j + 1 + 1) := by rw [List.drop_eq_getElem_cons (by omega), List.drop_eq_getElem_cons hj]
      have e2 : fr.drop (j + 1) = fr[j + 1] :: fr.drop (j + 1 + 1) := List.drop_eq_getElem_cons hj
      have e3 : ((j : Int) + 1) = ((j + 1 : Nat) : Int) := by omega
      rw [prv j (by omega)]
      refine Ev.pos (by omega) (Ev.pos (by omega) (Ev.pos (by omega) (Ev.pos (by omega) ?_)))
      rw [nxt j (by omega), e3, rdI fr j (by omega), rdI fr (j + 1) hj]
      refine Ev.ite (fun hc => Ev.eq (Ev.now _) ?_) (fun hc => Ev.eq (ih (j + 1) (by omega)) ?_)
      · rw [e1, dupF, decide_eq_true hc]; rfl
      · rw [e1, dupF, decide_eq_false hc, Bool.false_or, ← e2]
    · refine Ev.neg (by omega) (Ev.eq (Ev.now _) ?_)
      rw [List.drop_eq_getElem_cons (by omega), List.drop_of_length_le (by omega)]; rfl
theorem ck_l0 (sh : List S54) (fr : List Int) (hs : sh.length ≤ 64) (hf : fr.length ≤ 64) : ∀ n j, sh.length = j + n → Ev (fun k => shift_Check.l0 k ((j : Int) + 1) sh fr) (if dupS (sh.drop j) = true then 5 else if dupF fr = true then 5 else 0) := by
  intro n
  induction n with
  | zero =>
    intro j h
    refine Ev.succ ?_
    simp only [shift_Check.l0]
    refine Ev.neg (by omega) (Ev.eq (ck_l1 sh fr hf fr.length 0 (by omega)) ?_)
    rw [List.drop_of_length_le (show sh.length ≤ j by omega)]; rfl
  | succ n ih =>
    intro j h
    refine Ev.succ ?_
    simp only [shift_Check.l0]
    by_cases hj : j + 1 < sh.length
    · have e1 : sh.drop j = sh[j] :: sh[j + 1] :: sh.drop (j + 1 + 1) := by rw [List.drop_eq_getElem_cons (by omega), List.drop_eq_getElem_cons hj]
      have e2 : sh.drop (j + 1) = sh[j + 1] :: sh.drop (j + 1 + 1) := List.drop_eq_getElem_cons hj
      have e3 : ((j : Int) + 1) = ((j + 1 : Nat) : Int) := by omega
      rw [prv j (by omega)]
      refine Ev.pos (by omega) (Ev.pos (by omega) (Ev.pos (by omega) (Ev.pos (by omega) ?_)))
      rw [e3, rdT sh j (by omega), rdT sh (j + 1) hj]
      have stop : Ev (fun k => shift_Check.j3 k ((j + 1 : Nat) : Int) true sh fr) 5 := Ev.step (f := fun _ => some _) (fun _ => rfl) (Ev.now _)
      have go : Ev (fun k => shift_Check.j3 k ((j + 1 : Nat) : Int) false sh fr) (if dupS (sh.drop (j + 1)) = true then 5 else if dupF fr = true then 5 else 0) := by
        refine Ev.step (f := fun k => shift_Check.l0 k (wrap64 (((j + 1 : Nat) : Int) + 1)) sh fr) (fun _ => rfl) ?_
        rw [show wrap64 (((j + 1 : Nat) : Int) + 1) = ((j + 1 : Nat) : Int) + 1 from w64 (by omega) (by omega)]
        exact ih (j + 1) (by omega)
      refine Ev.ite (fun hc => Ev.eq stop ?_) (fun hc => Ev.ite (fun hd => ?_) (fun hd => Ev.eq go ?_))
      · rw [e1, dupS, decide_eq_true hc]; rfl
      · by_cases he : sh[j].f2 > sh[j + 1].f1
        · rw [decide_eq_true he]
          refine Ev.eq stop ?_
          rw [e1, dupS, decide_eq_true hd, decide_eq_true he]; simp
        · rw [decide_eq_false he]
          refine Ev.eq go ?_
          rw [e1, dupS, decide_eq_false hc, decide_eq_false he, Bool.and_false, Bool.false_or, Bool.false_or, ← e2]
      · rw [e1, dupS, decide_eq_false hc, decide_eq_false hd, Bool.false_and, Bool.false_or, Bool.false_or, ← e2]
    · refine Ev.neg (by omega) (Ev.eq (ck_l1 sh fr hf fr.length 0 (by omega)) ?_)
      rw [List.drop_eq_getElem_cons (show j < sh.length by omega), List.drop_of_length_le (show sh.length ≤ j + 1 by omega)]; rfl
theorem check_ev (sh : List S54) (fr : List Int) : Ev (fun k => shift_Check.f k sh fr) (ck sh fr) := by
  unfold shift_Check.f ck
  have many : Ev (fun k => shift_Check.j0 k true sh fr) 7 := Ev.step (f := fun _ => some _) (fun _ => rfl) (Ev.now _)
  refine Ev.ite (fun h => Ev.eq many ?_) (fun h => ?_)
  · rw [if_pos (by omega)]
  by_cases h2 : (fr.length : Int) > 64
  · rw [decide_eq_true h2]
    refine Ev.eq many ?_
    rw [if_pos (by omega)]
  rw [decide_eq_false h2, if_neg (by omega)]
  refine Ev.succ ?_
  simp only [shift_Check.j0]
  refine Ev.neg (by decide) ?_
  have bad : Ev (fun k => shift_Check.j1 k true sh fr) 6 := Ev.step (f := fun _ => some _) (fun _ => rfl) (Ev.now _)
  have e1 : api_Shift.f sh 41 = some (sh.any wrongS) := rfl
  have e2 : slices_ContainsFunc_int_int.f fr 45 = some (fr.any offDay) := rfl
  refine Ev.cbind e1 ?_
  refine Ev.ite (fun h3 => Ev.eq bad ?_) (fun h3 => Ev.cbind e2 ?_)
  · rw [h3]; rfl
  rw [Bool.not_eq_true] at h3
  rw [h3, Bool.false_or]
  cases h4 : fr.any offDay with
  | true => exact bad
  | false =>
    refine Ev.step (f := fun k => shift_Check.l0 k 1 sh fr) (fun _ => rfl) ?_
    exact ck_l0 sh fr (by omega) (by omega) sh.length 0 (by omega)
theorem minutes_ev (sh : List S54) (fr l : List Int) : Ev (fun k => shift_minutes.f k sh fr l) (if ck sh fr = 0 then (if l.any offMin = true then 6 else 0) else ck sh fr) := by
  unfold shift_minutes.f
  refine Ev.bind (check_ev sh fr) ?_
  refine Ev.ite (fun h => ?_) (fun h => Ev.eq (Ev.now _) ?_)
  · rw [if_pos h]
    have e2 : slices_ContainsFunc_int_int.f l 49 = some (l.any offMin) := rfl
    refine Ev.cbind e2 ?_
    exact Ev.ite (fun h => by rw [if_pos h]; exact Ev.now _) (fun h => by rw [if_neg h]; exact Ev.now _)
  · rw [if_neg h]
structure Val (sh : List S54) (fr : List Int) : Prop where
  l1 : sh.length ≤ 64
  l2 : fr.length ≤ 64
  s : ∀ x ∈ sh, (1 ≤ x.f0 ∧ x.f0 ≤ 7) ∧ 0 ≤ x.f1 ∧ x.f1 < x.f2 ∧ x.f2 ≤ 1440
  p : sh.Pairwise (fun a b => a.f0 < b.f0 ∨ (a.f0 = b.f0 ∧ a.f2 ≤ b.f1))
  f : ∀ d ∈ fr, 0 ≤ d ∧ d ≤ 9999
  q : fr.Pairwise (· < ·)
theorem dupF_is : ∀ l : List Int, dupF l = false → l.Pairwise (· < ·)
  | [], _ => List.Pairwise.nil
  | [a], _ => List.pairwise_singleton _ _
  | a :: b :: l, h => by
    simp only [dupF, Bool.or_eq_false_iff, decide_eq_false_iff_not] at h
    have ih := dupF_is (b :: l) h.2
    refine List.pairwise_cons.2 ⟨fun x hx => ?_, ih⟩
    rcases List.mem_cons.1 hx with rfl | hx
    · omega
    · have := (List.pairwise_cons.1 ih).1 x hx; omega
theorem dupS_is : ∀ l : List S54, (∀ x ∈ l, x.f1 < x.f2) → dupS l = false → l.Pairwise (fun a b => a.f0 < b.f0 ∨ (a.f0 = b.f0 ∧ a.f2 ≤ b.f1))
  | [], _, _ => List.Pairwise.nil
  | [a], _, _ => List.pairwise_singleton _ _
  | a :: b :: l, hv, h => by
    simp only [dupS, Bool.or_eq_false_iff, Bool.and_eq_false_iff, decide_eq_false_iff_not] at h
    have ih := dupS_is (b :: l) (fun x hx => hv x (by simp [List.mem_cons.1 hx])) h.2
    have hb := hv b (by simp)
    refine List.pairwise_cons.2 ⟨fun x hx => ?_, ih⟩
    rcases List.mem_cons.1 hx with rfl | hx
    · omega
    · have := (List.pairwise_cons.1 ih).1 x hx; omega
theorem Val.of {sh : List S54} {fr : List Int} (h : ck sh fr = 0) : Val sh fr := by
  unfold ck at h
  split at h; · cases h
  rename_i h1
  split at h; · cases h
  rename_i h2
  split at h; · cases h
  rename_i h3
  split at h; · cases h
  rename_i h4
  simp only [Bool.or_eq_true, not_or, Bool.not_eq_true, List.any_eq_false] at h2
  have hs : ∀ x ∈ sh, (1 ≤ x.f0 ∧ x.f0 ≤ 7) ∧ 0 ≤ x.f1 ∧ x.f1 < x.f2 ∧ x.f2 ≤ 1440 := fun x hx => by
    have := h2.1 x hx
    simp [wrongS, inR] at this
    omega
  refine ⟨by omega, by omega, hs, dupS_is sh (fun x hx => (hs x hx).2.2.1) (by simpa using h3), fun d hd => ?_, dupF_is fr (by simpa using h4)⟩
  have := h2.2 d hd
  simp [offDay, inR] at this
  omega
theorem Val.okB {sh : List S54} {fr : List Int} (h : Val sh fr) : okB sh fr = true := by
  unfold QA.okB
  simp only [Bool.and_eq_true, decide_eq_true_eq, List.all_eq_true]
  refine ⟨⟨⟨h.l1, h.l2⟩, fun x hx => ?_⟩, h.q⟩
  have := h.s x hx
  simp [wrongS, inR]
  omega
theorem offMin_is' (n : Int) : offMin n = false ↔ 0 ≤ n ∧ n ≤ 14400000 := by
  unfold offMin inR
  simp
end Go.Proofs.Ytpjgmlnnhcnelaa.Sh
