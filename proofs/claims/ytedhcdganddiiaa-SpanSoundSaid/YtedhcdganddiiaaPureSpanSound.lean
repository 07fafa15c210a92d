/-
  The pure statement of SpanSound: whatever list of intervals and whatever choices, a sum of chosen numbers lies in Sum, and Sum's ends are the sums of the ends, wherever Sum has a result; else it is empty with an error. (Lists of more than 30 intervals, or with too few choices, are not examined.)
-/
import Derived.Test.YtedhcdganddiiaaSumSpec
import Derived.Test.YtedhcdganddiiaaQAx8
import Derived.Test.YtedhcdganddiiaaQAx5
namespace Go.Proofs.Ytedhcdganddiiaa.Pure
open Go.RowKit Go.Proofs.Ytedhcdganddiiaa.QA Go.Proofs.YtedhcdganddiiaaW.PrintWords Go.Proofs.YtedhcdganddiiaaW.PrintLast Go.Proofs.Ytedhcdganddiiaa.EvKit
set_option linter.unusedVariables false
set_option linter.unusedSimpArgs false

def sLo (l : List S23) : Int := (l.map (·.f0)).sum
def sHi (l : List S23) : Int := (l.map (·.f1)).sum
abbrev Ok23 (x : S23) : Prop := -1000000000000 ≤ x.f0 ∧ x.f0 ≤ x.f1 ∧ x.f1 ≤ 1000000000000
theorem sLo_bd : ∀ {l : List S23}, (∀ x ∈ l, Ok23 x) → -1000000000000 * (l.length : Int) ≤ sLo l ∧ sLo l ≤ 1000000000000 * (l.length : Int)
  | [], _ => by simp [sLo]
  | a :: l, h => by
    have h1 := sLo_bd (l := l) (fun x hx => h x (by simp [hx]))
    have h2 := h a (by simp)
    simp only [sLo, List.map_cons, List.sum_cons, List.length_cons] at h1 ⊢
    omega
theorem sHi_bd : ∀ {l : List S23}, (∀ x ∈ l, Ok23 x) → -1000000000000 * (l.length : Int) ≤ sHi l ∧ sHi l ≤ 1000000000000 * (l.length : Int)
  | [], _ => by simp [sHi]
  | a :: l, h => by
    have h1 := sHi_bd (l := l) (fun x hx => h x (by simp [hx]))
    have h2 := h a (by simp)
    simp only [sHi, List.map_cons, List.sum_cons, List.length_cons] at h1 ⊢
    omega
theorem sumL_plain : ∀ (l : List S23), (∀ x ∈ l, Ok23 x) → ∀ a b : Int, -1000000000000000 ≤ a → a ≤ 1000000000000000 → -1000000000000000 ≤ b → b ≤ 1000000000000000 → l.length ≤ 100 → sumL (a, b) l = (a + sLo l, b + sHi l) := by
  have key : ∀ (n : Nat) (l : List S23), (∀ x ∈ l, Ok23 x) → l.length ≤ n → ∀ a b : Int, -1000000000000000 - 1000000000000 * (100 - (n : Int)) ≤ a → a ≤ 1000000000000000 + 1000000000000 * (100 - (n : Int)) → -1000000000000000 - 1000000000000 * (100 - (n : Int)) ≤ b → b ≤ 1000000000000000 + 1000000000000 * (100 - (n : Int)) → n ≤ 100 → sumL (a, b) l = (a + sLo l, b + sHi l) := by
    intro n
    induction n with
    | zero =>
      intro l _ hl a b _ _ _ _ _
      obtain rfl : l = [] := List.eq_nil_of_length_eq_zero (by omega)
      simp [sumL, sLo, sHi]
    | succ n ih =>
      intro l h hl a b h1 h2 h3 h4 hn
      cases l with
      | nil => simp [sumL, sLo, sHi]
      | cons x l =>
        have hx := h x (by simp)
        have h' : ∀ y ∈ l, Ok23 y := fun y hy => h y (by simp [hy])
        simp only [List.length_cons] at hl
        have := ih l h' (by omega) (a + x.f0) (b + x.f1) (by omega) (by omega) (by omega) (by omega) (by omega)
        have e : sumL (a, b) (x :: l) = sumL (wrap64 (a + x.f0), wrap64 (b + x.f1)) l := rfl
        rw [e, w64 (by omega) (by omega), w64 (by omega) (by omega), this]
        simp only [sLo, sHi, List.map_cons, List.sum_cons, Int.add_assoc]
  intro l h a b h1 h2 h3 h4 hl
  exact key 100 l h hl a b (by omega) (by omega) (by omega) (by omega) (by omega)
theorem u64_wrap (n : Int) : 0 ≤ IntKind.u64.wrap n ∧ IntKind.u64.wrap n < 18446744073709551616 := by
  have : IntKind.u64.wrap n = n % 18446744073709551616 := by simp [IntKind.wrap, IntKind.bits, IntKind.signed]
  rw [this]
  omega
theorem u64_same {n : Int} (h0 : 0 ≤ n) (h1 : n < 18446744073709551616) : IntKind.u64.wrap n = n := by
  have : IntKind.u64.wrap n = n % 18446744073709551616 := by simp [IntKind.wrap, IntKind.bits, IntKind.signed]
  rw [this]
  omega
theorem lenOf_ok {x : S23} (h : Ok23 x) : lenOf x = x.f1 - x.f0 + 1 := by
  have hc : chk [x] = 0 := chk_zero (fun y hy => by rw [List.mem_singleton.1 hy]; exact h)
  unfold lenOf
  rw [if_pos hc, w64 (n := x.f1 - x.f0) (by omega) (by omega), w64 (n := x.f1 - x.f0 + 1) (by omega) (by omega)]
theorem sound_l0 (x : List S23) (c : List Int) (hv : ∀ y ∈ x, Ok23 y) (hx : x.length ≤ 30) (hc : x.length ≤ c.length) (A B : Int) : ∀ i, i ≤ x.length → ∀ s lo hi : Int, -1000000000000 * (i : Int) ≤ lo → lo ≤ s → s ≤ hi → hi ≤ 1000000000000 * (i : Int) → A = lo + sLo (x.drop i) → B = hi + sHi (x.drop i) → Ev (fun k => gangsawlaw01_SpanSound.l0 k x c s lo hi (i : Int) A B) true := by
  refine up_to x.length ?_
  intro i hi' ih s lo hi h1 h2 h3 h4 hA hB
  refine Ev.succ ?_
  simp only [gangsawlaw01_SpanSound.l0]
  by_cases h : i < x.length
  · refine Ev.pos (by omega) (Ev.pos (by omega) (Ev.pos (by omega) ?_))
    refine Ev.bind (rLength_is _ _) ?_
    have hmem : rd_T23 x (i : Int) ∈ x := by
      have : rd_T23 x (i : Int) = x[i] := by simp [rd_T23, List.getD_eq_getElem?_getD, List.getElem?_eq_getElem h]
      rw [this]; exact List.getElem_mem h
    have hok := hv _ hmem
    obtain ⟨y, hy⟩ : ∃ y, y = rd_T23 x (i : Int) := ⟨_, rfl⟩
    rw [← hy] at hok
    have hlen : lenOf ⟨(rd_T23 x (i : Int)).f0, (rd_T23 x (i : Int)).f1⟩ = y.f1 - y.f0 + 1 := by rw [← hy]; exact lenOf_ok hok
    rw [hlen, u64_same (n := y.f1 - y.f0 + 1) (by omega) (by omega)]
    refine Ev.neg (by omega) ?_
    have hr := u64_wrap (rd c (i : Int))
    obtain ⟨u, hu⟩ : ∃ u, u = IntKind.u64.wrap (rd c (i : Int)) := ⟨_, rfl⟩
    rw [← hu] at hr ⊢
    have ht0 : 0 ≤ Int.tmod u (y.f1 - y.f0 + 1) := Int.tmod_nonneg _ hr.1
    have ht1 : Int.tmod u (y.f1 - y.f0 + 1) < y.f1 - y.f0 + 1 := Int.tmod_lt_of_pos _ (by omega)
    obtain ⟨m, hm⟩ : ∃ m, m = Int.tmod u (y.f1 - y.f0 + 1) := ⟨_, rfl⟩
    rw [← hm] at ht0 ht1 ⊢
    have e := rd_at x i h
    rw [← hy] at e ⊢
    rw [w64 (n := m) (by omega) (by omega), w64 (n := y.f0 + m) (by omega) (by omega), w64 (n := s + (y.f0 + m)) (by omega) (by omega), w64 (n := lo + y.f0) (by omega) (by omega), w64 (n := hi + y.f1) (by omega) (by omega), w64 (n := (i : Int) + 1) (by omega) (by omega)]
    have hA' : A = lo + y.f0 + sLo (x.drop (i + 1)) := by rw [hA, e]; simp only [sLo, List.map_cons, List.sum_cons]; omega
    have hB' : B = hi + y.f1 + sHi (x.drop (i + 1)) := by rw [hB, e]; simp only [sHi, List.map_cons, List.sum_cons]; omega
    exact ih h (s + (y.f0 + m)) (lo + y.f0) (hi + y.f1) (by omega) (by omega) (by omega) (by omega) hA' hB'
  · refine Ev.neg (by omega) ?_
    rw [List.drop_of_length_le (show x.length ≤ i by omega)] at hA hB
    have hA' : A = lo := by simpa [sLo] using hA
    have hB' : B = hi := by simpa [sHi] using hB
    refine Ev.cbind (a := true) (by unfold span_Contains.f; rw [if_pos (by omega), decide_eq_true (by omega)]) (Ev.pos rfl (Ev.pos hA' ?_))
    refine Ev.succ ?_
    simp only [gangsawlaw01_SpanSound.j3]
    exact Ev.eq (Ev.now _) (by simp [hB'])
theorem SpanSound : gangsawlaw01_SpanSound.Pure := by
  intro l c _ _
  refine Ev.rounds (r := true) ?_
  have hj0t : Ev (fun k => gangsawlaw01_SpanSound.j0 k l c true) true := Ev.succ (by simp only [gangsawlaw01_SpanSound.j0]; exact Ev.pos trivial (Ev.now _))
  refine Ev.bind awake_is (Ev.pos rfl (Ev.ite (fun _ => hj0t) (fun h30 => ?_)))
  by_cases hlen : (c.length : Int) < (l.length : Int)
  · rw [decide_eq_true hlen]; exact hj0t
  · rw [decide_eq_false hlen]
    refine Ev.succ ?_
    simp only [gangsawlaw01_SpanSound.j0]
    refine Ev.neg (by simp) (Ev.bind (Sum_is l (by omega)) ?_)
    have hbad : ∀ e : Int, e ≠ 0 → Ev (fun k => gangsawlaw01_SpanSound.j1 k l c e true 0 0) true := by
      intro e he
      refine Ev.succ ?_
      simp only [gangsawlaw01_SpanSound.j1]
      exact Ev.pos trivial (Ev.pos (by simp) (Ev.eq (Ev.now _) (by simpa using he)))
    by_cases hs : lst [l] = 0
    · have hv : ∀ y ∈ l, Ok23 y := by
        have : chk l = 0 := by
          unfold lst at hs
          split at hs
          · simp at hs
          · simpa using hs
        exact chk_ok this
      have hp := sumL_plain l hv 0 0 (by omega) (by omega) (by omega) (by omega) (by omega)
      have e : sumR l = madeR (sLo l) (sHi l) := by unfold sumR; rw [if_pos hs, hp]; simp
      rw [e]
      unfold madeR
      by_cases ho : out23 ⟨sLo l, sHi l⟩ = true
      · rw [if_pos ho]
        exact Ev.neg (by simp) (hbad 6 (by simp))
      · rw [if_neg ho]
        refine Ev.pos rfl (Ev.bind (rLists_is l [] (by omega) (by simp)) ?_)
        rw [lst_nil, hs]
        refine Ev.succ ?_
        simp only [gangsawlaw01_SpanSound.j1]
        refine Ev.neg (by simp) ?_
        exact sound_l0 l c hv (by omega) (by omega) (sLo l) (sHi l) 0 (Nat.zero_le _) 0 0 0 (by omega) (by omega) (by omega) (by omega) (by simp) (by simp)
    · have e : sumR l = (0, 0, lst [l]) := by unfold sumR; rw [if_neg hs]
      rw [e]
      exact Ev.neg hs (hbad _ hs)
end Go.Proofs.Ytedhcdganddiiaa.Pure
