/-
  Chapter 06: Total of the program is the number of points in at least one box.
-/
import Derived.Test.YtmmdikhmlmoolaaZBxE
import Derived.Test.YtmmdikhmlmoolaaZQAx8
import Derived.Test.YtmmdikhmlmoolaaZQAx9
import Derived.Test.YtmmdikhmlmoolaaZQAx10
namespace Go.Proofs.Ytmmdikhmlmoolaa.Bx
open Go.RowKit Go.Proofs.Ytmmdikhmlmoolaa.QA Go.Proofs.YtmmdikhmlmoolaaW.PrintWords Go.Proofs.YtmmdikhmlmoolaaW.PrintLast Go.Proofs.YtmmdikhmlmoolaaW.PrintMore Go.Proofs.Ytmmdikhmlmoolaa.EvKit
set_option linter.unusedVariables false
set_option linter.unusedSimpArgs false
/-! ### cuts -/
def cutR (a : Int) (l : List S25) : List Int := l.flatMap fun b => [loA a b, hiA a b]
def cuts (a : Int) (l : List S25) : List Int := cmpL (cutR a l)
theorem cutR_len (a : Int) : ∀ l : List S25, (cutR a l).length = 2 * l.length
  | [] => rfl
  | b :: l => by
    have := cutR_len a l
    unfold cutR at this ⊢
    rw [List.flatMap_cons, List.length_append, this]; simp; omega
theorem cuts_len (a : Int) (l : List S25) : (cuts a l).length ≤ 2 * l.length := by
  rw [← cutR_len a l]; exact cmpL_len _
theorem cuts_mem {a : Int} {l : List S25} {v : Int} : v ∈ cuts a l ↔ ∃ b ∈ l, v = loA a b ∨ v = hiA a b := by
  unfold cuts cutR
  rw [cmpL_mem, List.mem_flatMap]
  simp
theorem cuts_l0 (a : Int) (ha : a = 0 ∨ a = 1 ∨ a = 2) (l : List S25) (hl : l.length ≤ 1000000) : ∀ m i acc, l.length = i + m → acc.length ≤ 2 * i → Ev (fun k => box_cuts.l0 k a acc l (l.length : Int) (i : Int)) (cmpL (acc ++ cutR a (l.drop i))) := by
  intro m
  induction m with
  | zero =>
    intro i acc hi h
    refine Ev.succ ?_
    simp only [box_cuts.l0]
    rw [List.drop_of_length_le (by omega), show cutR a [] = [] from rfl, List.append_nil]
    exact Ev.neg (by omega) (Ev.const (cmp_ev acc (by omega)))
  | succ m ih =>
    intro i acc hi h
    refine Ev.succ ?_
    simp only [box_cuts.l0]
    rw [drop_cons l i z25 (by omega), rdN]
    generalize l.getD i z25 = b
    have go : Ev (fun k => box_cuts.j1 k a (acc ++ [loA a b, hiA a b]) l (l.length : Int) (i : Int)) (cmpL (acc ++ cutR a (b :: l.drop (i + 1)))) := by
      refine Ev.succ ?_
      simp only [box_cuts.j1]
      rw [stp (by omega)]
      have := ih (i + 1) (acc ++ [loA a b, hiA a b]) (by omega) (by simp; omega)
      rw [List.append_assoc] at this
      exact this
    have hlen : acc.length + 2 < 17592186044416 := by omega
    refine Ev.pos (by omega) (Ev.pos (by omega) (Ev.pos (by omega) (Ev.cbind rfl ?_)))
    rcases ha with rfl | rfl | rfl
    · exact Ev.pos rfl (Ev.cbind rfl (Ev.pos hlen go))
    · exact Ev.neg (by decide) (Ev.pos rfl (Ev.cbind rfl (Ev.pos hlen go)))
    · exact Ev.neg (by decide) (Ev.neg (by decide) (Ev.pos rfl (Ev.cbind rfl (Ev.pos hlen go))))
theorem cuts_ev (a : Int) (ha : a = 0 ∨ a = 1 ∨ a = 2) (l : List S25) (hl : l.length ≤ 1000000) : Ev (fun k => box_cuts.f k l a) (cuts a l) := cuts_l0 a ha l hl l.length 0 [] (by omega) (by simp)
section
open Go.Sort
theorem sortB_sorted {α : Type} [Inhabited α] (lt : α → α → Bool) (hO : SWO lt) (l : List α) : (Go.Proofs.Ytmmdikhmlmoolaa.SortRow.sortL lt l).Pairwise (fun a b => lt b a = false) := by
  have h := (pdq_sorts lt hO l.toArray 0 l.toArray.size (Lib.bitLen l.toArray.size) true true (Nat.zero_le _) (Nat.le_refl _) (Or.inl rfl))
  have hs := h.1.1
  have h2 := h.2
  rw [List.pairwise_iff_getElem]
  intro i j hi hj hij
  have hj' : j < (pdq lt l.toArray 0 l.toArray.size (Lib.bitLen l.toArray.size) true true).size := by simpa [Go.Proofs.Ytmmdikhmlmoolaa.SortRow.sortL] using hj
  have := h2 i j (Nat.zero_le _) hij (by omega)
  rw [getElem!_pos (pdq lt l.toArray 0 l.toArray.size (Lib.bitLen l.toArray.size) true true) _ hj', getElem!_pos (pdq lt l.toArray 0 l.toArray.size (Lib.bitLen l.toArray.size) true true) _ (by omega)] at this
  simpa [Go.Proofs.Ytmmdikhmlmoolaa.SortRow.sortL] using this
end
/-! ### one line of points -/
def anyX (l : List S25) (x : Int) : Bool := l.any fun b => inI b.f0.f0 b.f1.f0 x
theorem anyX_perm {l m : List S25} (h : l.Perm m) (x : Int) : anyX l x = anyX m x := by
  rw [Bool.eq_iff_iff]
  unfold anyX
  rw [List.any_eq_true, List.any_eq_true]
  constructor
  · rintro ⟨b, hb, e⟩; exact ⟨b, h.mem_iff.1 hb, e⟩
  · rintro ⟨b, hb, e⟩; exact ⟨b, h.mem_iff.2 hb, e⟩
def cF (e : Int) (l : List S25) : Int := S1 fun x => ind (decide (e ≤ x) && anyX l x)
theorem S1_inI2 {a b : Int} (h1 : -1000000 ≤ a) (h3 : b ≤ 1000000) (h4 : a ≤ 1000000) : S1 (fun i => ind (inI a b i)) = mx 0 (b - a) := by
  by_cases h : a ≤ b
  · rw [S1_inI h1 h h3]; unfold mx; split <;> omega
  · rw [S1_congr (g := fun _ => 0) (fun i _ _ => ?_)]
    · unfold S1; rw [si_const (c := 0) (by omega) (fun _ _ _ => rfl)]; unfold mx; split <;> omega
    · have : inI a b i = false := by rw [← Bool.not_eq_true, inI_iff]; omega
      rw [this]; rfl
theorem mx_or (a b : Int) : (mx a b = a ∧ b ≤ a) ∨ (mx a b = b ∧ a ≤ b) := by unfold mx; split <;> omega
theorem cF_cons (e : Int) (b : S25) (l : List S25) (hv : V b) (hs : ∀ c ∈ l, b.f0.f0 ≤ c.f0.f0) (he : -1000001 ≤ e) (he2 : e ≤ 1000000) : cF e (b :: l) = mx 0 (b.f1.f0 - mx e b.f0.f0) + cF (mx e b.f1.f0) l := by
  have r0 := hv.r0
  have r3 := hv.r3
  have l0 := hv.l0
  have q := mx_or e b.f0.f0
  rw [← S1_inI2 (a := mx e b.f0.f0) (b := b.f1.f0) (by omega) r3.2 (by omega)]
  unfold cF
  rw [← S1_add]
  refine S1_congr fun x _ _ => ?_
  have q2 := mx_or e b.f1.f0
  unfold anyX
  rw [List.any_cons]
  cases ha : (l.any fun c => inI c.f0.f0 c.f1.f0 x) with
  | false =>
    rw [Bool.or_false, Bool.and_false]
    have : (decide (e ≤ x) && inI b.f0.f0 b.f1.f0 x) = inI (mx e b.f0.f0) b.f1.f0 x := by
      rw [Bool.eq_iff_iff, Bool.and_eq_true, inI_iff, inI_iff, decide_eq_true_eq]; omega
    rw [this]; simp [ind]
  | true =>
    rw [Bool.or_true, Bool.and_true, Bool.and_true]
    obtain ⟨c, hc, hx⟩ := List.any_eq_true.1 ha
    have hx := (inI_iff _ _ _).1 hx
    have hlo := hs c hc
    by_cases h1 : e ≤ x
    · by_cases h2 : x < b.f1.f0
      · rw [decide_eq_true h1, (inI_iff (mx e b.f0.f0) b.f1.f0 x).2 ⟨by omega, h2⟩, decide_eq_false (by omega : ¬ mx e b.f1.f0 ≤ x)]; rfl
      · have : inI (mx e b.f0.f0) b.f1.f0 x = false := by rw [← Bool.not_eq_true, inI_iff]; omega
        rw [decide_eq_true h1, this, decide_eq_true (by omega : mx e b.f1.f0 ≤ x)]; rfl
    · have : inI (mx e b.f0.f0) b.f1.f0 x = false := by rw [← Bool.not_eq_true, inI_iff]; omega
      rw [decide_eq_false h1, this, decide_eq_false (by omega : ¬ mx e b.f1.f0 ≤ x)]; rfl
theorem cF_nonneg (e : Int) (l : List S25) : 0 ≤ cF e l := si_nonneg (fun x => ind_nonneg _) _ _
theorem cF_nil (e : Int) : cF e [] = 0 := by
  unfold cF
  rw [S1_congr (g := fun _ => 0) (fun x _ _ => by simp [anyX, ind])]
  unfold S1; rw [si_const (c := 0) (by omega) (fun _ _ _ => rfl), Int.mul_zero]
theorem S1_le (f : Int → Int) (h : ∀ x, f x ≤ 1) : S1 f ≤ 2000000 := by
  have := si_mono h (-1000000) 1000000
  rw [si_const (f := fun _ => 1) (c := 1) (by omega) (fun _ _ _ => rfl)] at this
  unfold S1; omega
theorem covered_l0 (s : List S25) (hV : ∀ b ∈ s, V b) (hl : s.length ≤ 1000000) (hs : s.Pairwise (fun a b => a.f0.f0 ≤ b.f0.f0)) (T : Int) (hT : T ≤ 2000000) : ∀ m i (n e : Int), s.length = i + m → n + cF e (s.drop i) = T → 0 ≤ n → -1000001 ≤ e → e ≤ 1000000 → Ev (fun k => box_covered.l0 k n e s (s.length : Int) (i : Int)) T := by
  intro m
  induction m with
  | zero =>
    intro i n e hi h h0 h1 h2
    refine Ev.succ ?_
    simp only [box_covered.l0]
    rw [List.drop_of_length_le (by omega), cF_nil, Int.add_zero] at h
    subst h
    exact Ev.neg (by omega) (Ev.now _)
  | succ m ih =>
    intro i n e hi h h0 h1 h2
    refine Ev.succ ?_
    simp only [box_covered.l0]
    have hm := getD_mem (l := s) (i := i) (by omega)
    have hd := drop_cons s i z25 (by omega)
    have hsort : ∀ c ∈ s.drop (i + 1), (s.getD i z25).f0.f0 ≤ c.f0.f0 := by
      have := hs.sublist (List.drop_sublist i s)
      rw [hd, List.pairwise_cons] at this
      exact this.1
    rw [hd] at h
    rw [rdN, stp (by omega)]
    have hv := hV _ hm
    generalize s.getD i z25 = b at h hsort hv ⊢
    rw [cF_cons e b _ hv hsort h1 h2] at h
    have r0 := hv.r0
    have r3 := hv.r3
    have hn := cF_nonneg (mx e b.f1.f0) (s.drop (i + 1))
    have q := mx_or e b.f0.f0
    have q2 := mx_or e b.f1.f0
    have q3 := mx_or 0 (b.f1.f0 - mx e b.f0.f0)
    rw [w64 (n := b.f1.f0 - mx e b.f0.f0) (by omega) (by omega), w64 (n := n + mx 0 (b.f1.f0 - mx e b.f0.f0)) (by omega) (by omega)]
    exact Ev.pos (by omega) (Ev.pos (by omega) (Ev.pos (by omega) (ih (i + 1) _ _ (by omega) (by omega) (by omega) (by omega) (by omega))))
/-- How many places of a line are in at least one box. -/
def cX (row : List S25) : Int := S1 fun x => ind (anyX row x)
theorem cX_nonneg (row : List S25) : 0 ≤ cX row := si_nonneg (fun x => ind_nonneg _) _ _
theorem cX_le (row : List S25) : cX row ≤ 2000000 := S1_le _ (fun x => ind_le _)
theorem covered_ev (row : List S25) (hV : ∀ b ∈ row, V b) (hl : row.length ≤ 1000000) : Ev (fun k => box_covered.f k row) (cX row) := by
  unfold box_covered.f
  have hp := Go.Proofs.Ytmmdikhmlmoolaa.SortRow.sortL_perm ltB swoB row
  have hs := sortB_sorted ltB swoB row
  have h1 : api_Box_70.f row = some row := if_pos (by omega)
  have h2 : api_Box_71.f row 72 = some (Go.Proofs.Ytmmdikhmlmoolaa.SortRow.sortL ltB row) := if_pos ⟨rfl, by omega⟩
  refine Ev.cbind h1 (Ev.cbind h2 ?_)
  have hlen := hp.length_eq
  rw [← hlen]
  refine covered_l0 _ (fun b hb => hV b (hp.mem_iff.1 hb)) (by omega) (hs.imp (fun {a b} h => by
    simp only [ltB, decide_eq_false_iff_not] at h; omega)) _ (cX_le row) _ 0 0 (-1000001) (Nat.zero_add _).symm ?_ (by omega) (by omega) (by omega)
  rw [List.drop_zero, Int.zero_add]
  unfold cF cX
  refine S1_congr fun x h1 h2 => ?_
  rw [decide_eq_true (by omega : -1000001 ≤ x), Bool.true_and, anyX_perm hp]
/-! ### the sweep -/
def swp (f : Int → Int) : List Int → Int
  | [] => 0
  | a :: t => (match t with | [] => 0 | b :: _ => f a * (b - a)) + swp f t
theorem swp_two (f : Int → Int) (a b : Int) (t : List Int) : swp f (a :: b :: t) = f a * (b - a) + swp f (b :: t) := rfl
theorem swp_one (f : Int → Int) (a : Int) : swp f [a] = 0 := rfl
theorem swp_nonneg (f : Int → Int) (hf : ∀ i, 0 ≤ f i) : ∀ l : List Int, l.Pairwise (· < ·) → 0 ≤ swp f l
  | [], _ => Int.le_refl _
  | [a], _ => Int.le_refl _
  | a :: b :: t, h => by
    obtain ⟨h1, h2⟩ := List.pairwise_cons.1 h
    have := h1 b (by simp)
    have h3 := swp_nonneg f hf (b :: t) h2
    have h4 := Int.mul_nonneg (hf a) (show 0 ≤ b - a by omega)
    rw [swp_two]; omega
theorem sweep_from (f : Int → Int) (E : List Int) (h1 : ∀ a y, a ≤ y → (∀ e ∈ E, ¬ (a < e ∧ e ≤ y)) → f y = f a) (h3 : ∀ y, (∀ e ∈ E, e ≤ y) → f y = 0) (hE : ∀ e ∈ E, e ≤ 1000000) :
    ∀ (t : List Int) (a : Int), (a :: t).Pairwise (· < ·) → (∀ e ∈ E, e ≤ a ∨ e ∈ t) → (∀ e ∈ a :: t, e ∈ E) → si f a 1000000 = swp f (a :: t)
  | [], a, hs, hp, hm => by
    rw [swp_one, si_const (c := 0) (hE a (hm a (by simp))) (fun i h4 h5 => h3 i (fun e he => ?_)), Int.mul_zero]
    rcases hp e he with h | h
    · omega
    · cases h
  | b :: t, a, hs, hp, hm => by
    obtain ⟨h4, h5⟩ := List.pairwise_cons.1 hs
    have hab := h4 b (by simp)
    rw [swp_two, si_split f (Int.le_of_lt hab) (hE b (hm b (by simp))), sweep_from f E h1 h3 hE t b h5 (fun e he => ?_) (fun e he => hm e (by simp at he ⊢; exact .inr he)), si_const (c := f a) (Int.le_of_lt hab) (fun i h6 h7 => h1 a i h6 (fun e he hh => ?_)), Int.mul_comm]
    · rcases hp e he with h | h
      · omega
      · rcases List.mem_cons.1 h with rfl | h
        · omega
        · have := (List.pairwise_cons.1 h5).1 e h
          omega
    · rcases hp e he with h | h
      · exact .inl (by omega)
      · rcases List.mem_cons.1 h with rfl | h
        · exact .inl (Int.le_refl _)
        · exact .inr h
theorem sweep (f : Int → Int) (E : List Int) (hs : E.Pairwise (· < ·)) (h1 : ∀ a y, a ≤ y → (∀ e ∈ E, ¬ (a < e ∧ e ≤ y)) → f y = f a) (h2 : ∀ y, (∀ e ∈ E, y < e) → f y = 0) (h3 : ∀ y, (∀ e ∈ E, e ≤ y) → f y = 0) (hE : ∀ e ∈ E, -1000000 ≤ e ∧ e ≤ 1000000) : S1 f = swp f E := by
  unfold S1
  match E, hs, h1, h2, h3, hE with
  | [], hs, h1, h2, h3, hE => rw [si_const (c := 0) (by omega) (fun i _ _ => h2 i (by simp)), Int.mul_zero]; rfl
  | a :: t, hs, h1, h2, h3, hE =>
    have hpw := List.pairwise_cons.1 hs
    have ha := hE a (by simp)
    rw [si_split f ha.1 ha.2, si_const (c := 0) ha.1 (fun i h4 h5 => h2 i (fun e he => ?_)), Int.mul_zero, Int.zero_add]
    · exact sweep_from f (a :: t) h1 h3 (fun e he => (hE e he).2) t a hs (fun e he => by
        rcases List.mem_cons.1 he with rfl | he
        · exact .inl (Int.le_refl _)
        · exact .inr he) (fun e he => he)
    · rcases List.mem_cons.1 he with rfl | he
      · exact h5
      · have := hpw.1 e he; omega
/-! ### planes -/
theorem at_same (c : Int) (l : List S25) (a y : Int) (hay : a ≤ y) (h : ∀ e ∈ cuts c l, ¬ (a < e ∧ e ≤ y)) : atL c y l = atL c a l := by
  unfold atL
  refine List.filter_congr fun b hb => ?_
  have h1 := h _ (cuts_mem.2 ⟨b, hb, .inl rfl⟩)
  have h2 := h _ (cuts_mem.2 ⟨b, hb, .inr rfl⟩)
  rw [Bool.eq_iff_iff, Bool.and_eq_true, Bool.and_eq_true]
  simp only [decide_eq_true_eq]
  omega
theorem at_low (c : Int) (l : List S25) (y : Int) (h : ∀ e ∈ cuts c l, y < e) : atL c y l = [] := by
  unfold atL
  rw [List.filter_eq_nil_iff]
  intro b hb
  have h1 := h _ (cuts_mem.2 ⟨b, hb, .inl rfl⟩)
  simp; omega
theorem at_high (c : Int) (l : List S25) (y : Int) (h : ∀ e ∈ cuts c l, e ≤ y) : atL c y l = [] := by
  unfold atL
  rw [List.filter_eq_nil_iff]
  intro b hb
  have h1 := h _ (cuts_mem.2 ⟨b, hb, .inr rfl⟩)
  simp; omega
theorem cuts_in (c : Int) (hc : c = 0 ∨ c = 1 ∨ c = 2) (l : List S25) (hV : ∀ b ∈ l, V b) : ∀ e ∈ cuts c l, -1000000 ≤ e ∧ e ≤ 1000000 := by
  intro e he
  obtain ⟨b, hb, h⟩ := cuts_mem.1 he
  have hv := hV b hb
  obtain ⟨r0, r1, r2, r3, r4, r5, _, _, _⟩ := hv
  rcases hc with rfl | rfl | rfl <;> rcases h with rfl | rfl <;> simp only [loA, hiA] <;> simp <;> omega
def fY (plane : List S25) (y : Int) : Int := cX (atL 1 y plane)
theorem cX_nil : cX [] = 0 := by
  unfold cX
  rw [S1_congr (g := fun _ => 0) (fun x _ _ => by simp [anyX, ind])]
  unfold S1; rw [si_const (c := 0) (by omega) (fun _ _ _ => rfl), Int.mul_zero]
theorem sweepY (plane : List S25) (hV : ∀ b ∈ plane, V b) : S1 (fY plane) = swp (fY plane) (cuts 1 plane) := by
  refine sweep _ _ (cmpL_inc _) (fun a y h1 h2 => ?_) (fun y h => ?_) (fun y h => ?_) (cuts_in 1 (by simp) plane hV)
  · unfold fY; rw [at_same 1 plane a y h1 h2]
  · unfold fY; rw [at_low 1 plane y h, cX_nil]
  · unfold fY; rw [at_high 1 plane y h, cX_nil]
def fZ (list : List S25) (z : Int) : Int := S1 (fY (atL 2 z list))
theorem fZ_nil : S1 (fY []) = 0 := by
  rw [S1_congr (f := fY []) (g := fun _ => 0) (fun x _ _ => cX_nil)]
  unfold S1; rw [si_const (c := 0) (by omega) (fun _ _ _ => rfl), Int.mul_zero]
theorem sweepZ (list : List S25) (hV : ∀ b ∈ list, V b) : S1 (fZ list) = swp (fZ list) (cuts 2 list) := by
  refine sweep _ _ (cmpL_inc _) (fun a y h1 h2 => ?_) (fun y h => ?_) (fun y h => ?_) (cuts_in 2 (by simp) list hV)
  · unfold fZ; rw [at_same 2 list a y h1 h2]
  · unfold fZ; rw [at_low 2 list y h, fZ_nil]
  · unfold fZ; rw [at_high 2 list y h, fZ_nil]
theorem any_at (list : List S25) (x y z : Int) : anyX (atL 1 y (atL 2 z list)) x = anyB list x y z := by
  rw [Bool.eq_iff_iff]
  unfold anyX anyB
  rw [List.any_eq_true, List.any_eq_true]
  constructor
  · rintro ⟨b, hb, e⟩
    obtain ⟨hb, h1⟩ := atL_mem.1 hb
    obtain ⟨hb, h2⟩ := atL_mem.1 hb
    refine ⟨b, hb, ?_⟩
    rw [hasB_is, Bool.and_eq_true, Bool.and_eq_true]
    exact ⟨(inI_iff _ _ _).2 h2, (inI_iff _ _ _).2 h1, e⟩
  · rintro ⟨b, hb, e⟩
    rw [hasB_is, Bool.and_eq_true, Bool.and_eq_true] at e
    exact ⟨b, atL_mem.2 ⟨atL_mem.2 ⟨hb, (inI_iff _ _ _).1 e.1⟩, (inI_iff _ _ _).1 e.2.1⟩, e.2.2⟩
/-- The number of points in at least one box. -/
def uni (list : List S25) : Int := S3 fun x y z => ind (anyB list x y z)
theorem uni_is (list : List S25) : uni list = S1 (fZ list) := by
  unfold uni S3
  refine S1_congr fun z _ _ => S1_congr fun y _ _ => S1_congr fun x _ _ => ?_
  rw [any_at]
theorem uni_le (list : List S25) : uni list ≤ 8000000000000000000 := by
  have h : uni list ≤ S3 (fun _ _ _ => 1) := S3_mono (fun x y z => ind_le _)
  have e : S3 (fun _ _ _ => 1) = 8000000000000000000 := by
    show S1 (fun _ => S1 fun _ => S1 fun _ => 1) = _
    have e1 : ∀ c : Int, S1 (fun _ => c) = 2000000 * c := fun c => by unfold S1; rw [si_const (c := c) (by omega) (fun _ _ _ => rfl)]; omega
    rw [e1, e1, e1]; rfl
  omega
theorem uni_nonneg (list : List S25) : 0 ≤ uni list := S3_nonneg (fun x y z => ind_nonneg _)
end Go.Proofs.Ytmmdikhmlmoolaa.Bx
