import Derived.Test.YtpjgmlnnhcnelaaDMSh4
import Derived.Test.YtpjgmlnnhcnelaaDMQAx10
import Derived.Test.YtpjgmlnnhcnelaaDMQAx0
import Derived.Test.YtpjgmlnnhcnelaaDMQAx13
import Derived.Test.YtpjgmlnnhcnelaaDMQAx14
import Derived.Test.YtpjgmlnnhcnelaaDMQAx15
/-
  The reference's functions: what they come to.
-/
namespace Go.Proofs.Ytpjgmlnnhcnelaa.Sh
open Go.RowKit Go.Proofs.Ytpjgmlnnhcnelaa.QA Go.Proofs.YtpjgmlnnhcnelaaW.PrintWords Go.Proofs.YtpjgmlnnhcnelaaW.PrintLast Go.Proofs.YtpjgmlnnhcnelaaW.PrintMore Go.Proofs.Ytpjgmlnnhcnelaa.EvKit
set_option linter.unusedVariables false
set_option linter.unusedSimpArgs false
theorem free_l0 (sh : List S54) (fr : List Int) (hf : fr.length ≤ 64) (d : Int) : ∀ n j, fr.length = j + n → Ev (fun k => gangsawref12_Calendar_free.l0 k d (j : Int) sh fr) (decide (d ∈ fr.drop j)) := by
  intro n
  induction n with
  | zero =>
    intro j h
    refine Ev.succ ?_
    simp only [gangsawref12_Calendar_free.l0]
    refine Ev.neg (by omega) (Ev.eq (Ev.now _) ?_)
    rw [List.drop_of_length_le (show fr.length ≤ j by omega)]; simp
  | succ n ih =>
    intro j h
    refine Ev.succ ?_
    simp only [gangsawref12_Calendar_free.l0]
    refine Ev.pos (by omega) (Ev.pos (by omega) ?_)
    rw [rdI fr j (by omega), List.drop_eq_getElem_cons (show j < fr.length by omega)]
    refine Ev.ite (fun hc => Ev.eq (Ev.now _) ?_) (fun hc => ?_)
    · simp [hc]
    · rw [show wrap64 ((j : Int) + 1) = ((j + 1 : Nat) : Int) from by rw [w64 (by omega) (by omega)]; omega]
      refine Ev.eq (ih (j + 1) (by omega)) ?_
      have : d ≠ fr[j] := fun e => hc e.symm
      rw [decide_eq_decide]
      exact ⟨fun h => List.mem_cons_of_mem _ h, fun h => (List.mem_cons.1 h).resolve_left this⟩
theorem free_ev {sh : List S54} {fr : List Int} (hV : Val sh fr) (d : Int) : Ev (fun k => gangsawref12_Calendar_free.f k sh fr d) (decide (d ∈ fr)) := by
  unfold gangsawref12_Calendar_free.f
  exact free_l0 sh fr hV.l2 d fr.length 0 (by omega)
theorem ofS_cons (s : S54) (l : List S54) (d : Int) : ofS (s :: l) d = if s.f0 = d % 7 + 1 then (d * 1440 + s.f1, d * 1440 + s.f2) :: ofS l d else ofS l d := by
  unfold ofS
  by_cases h : s.f0 = d % 7 + 1
  · rw [List.filter_cons_of_pos (by simpa using h), List.map_cons, if_pos h]
  · rw [List.filter_cons_of_neg (by simpa using h), if_neg h]
theorem ofL_free {sh : List S54} {fr : List Int} {d : Int} (h : d ∈ fr) : ofL sh fr d = [] := by unfold ofL dayOn; simp [h]
theorem ofL_on {sh : List S54} {fr : List Int} {d : Int} (h : d ∉ fr) (h0 : 0 ≤ d) (h1 : d < 10000) : ofL sh fr d = ofS sh d := by unfold ofL dayOn; simp [h, h0, h1]
theorem day_wd {d : Int} (h0 : 0 ≤ d) (h1 : d ≤ 10000) : wrap64 (Int.tmod d 7 + 1) = d % 7 + 1 := by
  rw [Int.tmod_eq_emod_of_nonneg h0]
  exact w64 (by omega) (by omega)
theorem day_at {d q : Int} (h0 : 0 ≤ d) (h1 : d ≤ 10000) (h2 : 0 ≤ q) (h3 : q ≤ 1440) : wrap64 (wrap64 (1440 * d) + q) = d * 1440 + q := by
  rw [w64 (n := 1440 * d) (by omega) (by omega), w64 (by omega) (by omega)]; omega
theorem nxt1 {d : Int} (h0 : -10 ≤ d) (h1 : d ≤ 1000000) : wrap64 (d + 1) = d + 1 := w64 (by omega) (by omega)
theorem nxtN {j : Nat} (h1 : j ≤ 1000000) : wrap64 ((j : Int) + 1) = ((j + 1 : Nat) : Int) := by rw [w64 (by omega) (by omega)]; omega
theorem div_day {m : Int} (h0 : 0 ≤ m) (h1 : m ≤ 14400000) : wrap64 (Int.tdiv m 1440) = m / 1440 := by
  rw [Int.tdiv_eq_ediv_of_nonneg h0]
  exact w64 (by omega) (by omega)
def nextG (m : Int) : List R → Int
  | [] => -1
  | x :: Z => if x.2 > m then max m x.1 else nextG m Z
theorem nextG_skip (m : Int) (Y Z : List R) (h : ∀ x ∈ Y, x.2 ≤ m) : nextG m (Y ++ Z) = nextG m Z := by
  induction Y with
  | nil => rfl
  | cons x Y ih =>
    have := h x (by simp)
    rw [List.cons_append, nextG, if_neg (by omega), ih (fun y hy => h y (by simp [hy]))]
theorem nextG_is {Z : List R} (hZ : Srt Z) {m : Int} (hm : 0 ≤ m) : (nextG m Z = -1 ∧ ∀ i, m ≤ i → ¬ opn Z i) ∨ (m ≤ nextG m Z ∧ opn Z (nextG m Z) ∧ ∀ i, m ≤ i → i < nextG m Z → ¬ opn Z i) := by
  induction Z with
  | nil => exact .inl ⟨rfl, fun i _ => opn_nil i⟩
  | cons x Z ih =>
    have hx := hZ.hd
    rw [nextG]
    by_cases h : x.2 > m
    · rw [if_pos h]
      refine .inr ⟨by omega, ⟨x, by simp, by omega, by omega⟩, fun i h1 h2 ho => ?_⟩
      rcases (opn_cons _ _ _).1 ho with q | ⟨y, hy, q1, q2⟩
      · omega
      · have := hZ.lt y hy; omega
    · rw [if_neg h]
      rcases ih hZ.tail with ⟨e, q⟩ | ⟨h1, h2, h3⟩
      · exact .inl ⟨e, fun i hi ho => q i hi (((opn_cons _ _ _).1 ho).resolve_left (by omega))⟩
      · exact .inr ⟨h1, (opn_cons _ _ _).2 (.inr h2), fun i hi hl ho => h3 i hi hl (((opn_cons _ _ _).1 ho).resolve_left (by omega))⟩
theorem rnext_l1 {sh : List S54} {fr : List Int} (hV : Val sh fr) (m d : Int) (h0 : 0 ≤ d) (h1 : d < 10000) (rest : List R) (hr : Ev (fun k => gangsawref12_Calendar_Next.l0 k m (d + 1) sh fr) (nextG m rest)) :
    ∀ n j, sh.length = j + n → Ev (fun k => gangsawref12_Calendar_Next.l1 k m d (j : Int) sh fr) (nextG m (ofS (sh.drop j) d ++ rest)) := by
  intro n
  induction n with
  | zero =>
    intro j h
    refine Ev.succ ?_
    simp only [gangsawref12_Calendar_Next.l1]
    refine Ev.neg (by omega) (Ev.succ ?_)
    simp only [gangsawref12_Calendar_Next.j3]
    rw [nxt1 (by omega) (by omega), List.drop_of_length_le (show sh.length ≤ j by omega)]
    exact hr
  | succ n ih =>
    intro j h
    have hj : j < sh.length := by omega
    have hl := hV.l1
    have hs := hV.s _ (List.getElem_mem hj)
    have step : Ev (fun k => gangsawref12_Calendar_Next.j2 k m d (j : Int) sh fr) (nextG m (ofS (sh.drop (j + 1)) d ++ rest)) := by
      refine Ev.succ ?_
      simp only [gangsawref12_Calendar_Next.j2]
      rw [nxtN (by omega)]
      exact ih (j + 1) (by omega)
    refine Ev.succ ?_
    simp only [gangsawref12_Calendar_Next.l1]
    refine Ev.pos (by omega) (Ev.pos (by omega) ?_)
    rw [rdT sh j hj, day_wd h0 (by omega), day_at h0 (by omega) (by omega) hs.2.2.2, day_at h0 (by omega) hs.2.1 (by omega), List.drop_eq_getElem_cons hj, ofS_cons]
    refine Ev.ite (fun hc => ?_) (fun hc => by rw [if_neg hc]; exact step)
    rw [if_pos hc, List.cons_append, nextG]
    refine Ev.ite (fun h2 => by rw [if_pos h2, mx_is]; exact Ev.now _) (fun h2 => by rw [if_neg h2]; exact step)
theorem rnext_l0 {sh : List S54} {fr : List Int} (hV : Val sh fr) (m : Int) : ∀ n : Nat, ∀ d : Int, 0 ≤ d → d + n = 10000 → Ev (fun k => gangsawref12_Calendar_Next.l0 k m d sh fr) (nextG m (rawK sh fr d n)) := by
  intro n
  induction n with
  | zero =>
    intro d h0 h1
    refine Ev.succ ?_
    simp only [gangsawref12_Calendar_Next.l0]
    exact Ev.neg (by omega) (Ev.now _)
  | succ n ih =>
    intro d h0 h1
    have hr := ih (d + 1) (by omega) (by omega)
    refine Ev.succ ?_
    simp only [gangsawref12_Calendar_Next.l0]
    refine Ev.pos (by omega) (Ev.bind (free_ev hV d) ?_)
    rw [rawK_left]
    by_cases hd : d ∈ fr
    · rw [decide_eq_true hd, ofL_free hd, List.nil_append]
      refine Ev.pos rfl (Ev.succ ?_)
      simp only [gangsawref12_Calendar_Next.j3]
      rw [nxt1 (by omega) (by omega)]
      exact hr
    · rw [decide_eq_false hd, ofL_on hd h0 (by omega)]
      exact Ev.neg (by decide) (rnext_l1 hV m d h0 (by omega) _ hr sh.length 0 (by omega))
theorem raw_from {sh : List S54} {fr : List Int} (hV : Val sh fr) {t : Int} (h0 : 0 ≤ t) (h1 : t ≤ 14400000) : ∃ Y, Z0 sh fr = Y ++ rawK sh fr (t / 1440) (10000 - t / 1440).toNat ∧ ∀ x ∈ Y, x.2 ≤ t := by
  refine ⟨rawK sh fr 0 (t / 1440).toNat, ?_, fun x hx => by have := rawK_mem hV 0 _ x hx; omega⟩
  rw [Z0_eq, show (10000 : Nat) = (t / 1440).toNat + (10000 - t / 1440).toNat by omega, rawK_add]
  congr 2
  omega
theorem rnext_ev {sh : List S54} {fr : List Int} (hV : Val sh fr) {m : Int} (h0 : 0 ≤ m) (h1 : m ≤ 14400000) : Ev (fun k => gangsawref12_Calendar_Next.f k sh fr m) (nextG m (Z0 sh fr)) := by
  unfold gangsawref12_Calendar_Next.f
  rw [div_day h0 h1]
  obtain ⟨Y, hY, hy⟩ := raw_from hV h0 h1
  rw [hY, nextG_skip m Y _ hy]
  exact rnext_l0 hV m (10000 - m / 1440).toNat (m / 1440) (by omega) (by omega)
def afterG (a : Int) : Int → List R → Int
  | _, [] => -1
  | z, x :: Z => if x.2 ≤ max a x.1 then afterG a z Z else if x.2 - max a x.1 ≥ z then max a x.1 + z else afterG a (z - (x.2 - max a x.1)) Z
theorem afterG_skip (a : Int) (z : Int) (Y Z : List R) (h : ∀ x ∈ Y, x.2 ≤ a) : afterG a z (Y ++ Z) = afterG a z Z := by
  induction Y with
  | nil => rfl
  | cons x Y ih =>
    have := h x (by simp)
    rw [List.cons_append, afterG, if_pos (by omega), ih (fun y hy => h y (by simp [hy]))]
/-- How an answer of the reference stands to the program's. -/
def ansR (p : Int × Int) (g : Int) : Prop := (p = (0, 9) ∧ g = -1) ∨ (p = (g, 0) ∧ 0 ≤ g)
theorem afterG_is {Z : List R} (hZ : Srt Z) {a : Int} (ha : 0 ≤ a) : ∀ z, 1 ≤ z → z ≤ 14400000 → ansR (afterF z (cutL a Z)) (afterG a z Z) := by
  induction Z with
  | nil => intro z _ _; exact .inl ⟨rfl, rfl⟩
  | cons x Z ih =>
    intro z h1 h2
    have hx := hZ.hd
    rw [cutL_cons, afterG]
    by_cases hc : x.2 > a
    · rw [if_pos hc, if_neg (by omega), afterF]
      simp only
      rw [w64 (n := x.2 - max x.1 a) (by omega) (by omega), show max x.1 a = max a x.1 by omega]
      by_cases hd : x.2 - max a x.1 ≥ z
      · rw [if_pos hd, if_pos hd, w64 (by omega) (by omega)]
        exact .inr ⟨rfl, by omega⟩
      · rw [if_neg hd, if_neg hd, w64 (by omega) (by omega)]
        exact ih hZ.tail _ (by omega) (by omega)
    · rw [if_neg hc, if_pos (by omega)]
      exact ih hZ.tail z h1 h2
theorem rafter_l1 {sh : List S54} {fr : List Int} (hV : Val sh fr) (a d : Int) (ha : 0 ≤ a ∧ a ≤ 14400000) (h0 : 0 ≤ d) (h1 : d < 10000) (rest : List R)
    (hr : ∀ z, 1 ≤ z → z ≤ 14400000 → Ev (fun k => gangsawref12_Calendar_After.l0 k a z (d + 1) sh fr) (afterG a z rest)) :
    ∀ n j, sh.length = j + n → ∀ z, 1 ≤ z → z ≤ 14400000 → Ev (fun k => gangsawref12_Calendar_After.l1 k a z d (j : Int) sh fr) (afterG a z (ofS (sh.drop j) d ++ rest)) := by
  intro n
  induction n with
  | zero =>
    intro j h z z1 z2
    refine Ev.succ ?_
    simp only [gangsawref12_Calendar_After.l1]
    refine Ev.neg (by omega) (Ev.succ ?_)
    simp only [gangsawref12_Calendar_After.j3]
    rw [nxt1 (by omega) (by omega), List.drop_of_length_le (show sh.length ≤ j by omega)]
    exact hr z z1 z2
  | succ n ih =>
    intro j h z z1 z2
    have hj : j < sh.length := by omega
    have hl := hV.l1
    have hv := hV.s _ (List.getElem_mem hj)
    have step : ∀ z, 1 ≤ z → z ≤ 14400000 → Ev (fun k => gangsawref12_Calendar_After.j2 k a z d (j : Int) sh fr) (afterG a z (ofS (sh.drop (j + 1)) d ++ rest)) := fun z z1 z2 => by
      refine Ev.succ ?_
      simp only [gangsawref12_Calendar_After.j2]
      rw [nxtN (by omega)]
      exact ih (j + 1) (by omega) z z1 z2
    refine Ev.succ ?_
    simp only [gangsawref12_Calendar_After.l1]
    refine Ev.pos (by omega) (Ev.pos (by omega) ?_)
    rw [rdT sh j hj, day_wd h0 (by omega), day_at h0 (by omega) (by omega) hv.2.2.2, day_at h0 (by omega) hv.2.1 (by omega), List.drop_eq_getElem_cons hj, ofS_cons, mx_is]
    refine Ev.ite (fun hc => ?_) (fun hc => by rw [if_neg hc]; exact step z z1 z2)
    rw [if_pos hc, List.cons_append, afterG]
    simp only
    refine Ev.ite (fun h2 => by rw [if_pos h2]; exact step z z1 z2) (fun h2 => ?_)
    rw [if_neg h2, w64 (n := d * 1440 + sh[j].f2 - max a (d * 1440 + sh[j].f1)) (by omega) (by omega)]
    refine Ev.ite (fun h3 => ?_) (fun h3 => ?_)
    · rw [if_pos h3, w64 (by omega) (by omega)]; exact Ev.now _
    · rw [if_neg h3, w64 (by omega) (by omega)]; exact step _ (by omega) (by omega)
theorem rafter_l0 {sh : List S54} {fr : List Int} (hV : Val sh fr) (a : Int) (ha : 0 ≤ a ∧ a ≤ 14400000) : ∀ n : Nat, ∀ d : Int, 0 ≤ d → d + n = 10000 → ∀ z, 1 ≤ z → z ≤ 14400000 → Ev (fun k => gangsawref12_Calendar_After.l0 k a z d sh fr) (afterG a z (rawK sh fr d n)) := by
  intro n
  induction n with
  | zero =>
    intro d h0 h1 z z1 z2
    refine Ev.succ ?_
    simp only [gangsawref12_Calendar_After.l0]
    exact Ev.neg (by omega) (Ev.now _)
  | succ n ih =>
    intro d h0 h1 z z1 z2
    refine Ev.succ ?_
    simp only [gangsawref12_Calendar_After.l0]
    refine Ev.pos (by omega) (Ev.bind (free_ev hV d) ?_)
    rw [rawK_left]
    by_cases hd : d ∈ fr
    · rw [decide_eq_true hd, ofL_free hd, List.nil_append]
      refine Ev.pos rfl (Ev.succ ?_)
      simp only [gangsawref12_Calendar_After.j3]
      rw [nxt1 (by omega) (by omega)]
      exact ih (d + 1) (by omega) (by omega) z z1 z2
    · rw [decide_eq_false hd, ofL_on hd h0 (by omega)]
      exact Ev.neg (by decide) (rafter_l1 hV a d ha h0 (by omega) _ (fun z z1 z2 => ih (d + 1) (by omega) (by omega) z z1 z2) sh.length 0 (by omega) z z1 z2)
theorem rafter_ev {sh : List S54} {fr : List Int} (hV : Val sh fr) {a z : Int} (ha : 0 ≤ a ∧ a ≤ 14400000) (hz : 0 ≤ z ∧ z ≤ 14400000) : ∃ g, Ev (fun k => gangsawref12_Calendar_After.f k sh fr a z) g ∧ ansR (if z = 0 then (a, 0) else afterF z (cutL a (Z0 sh fr))) g := by
  by_cases h : z = 0
  · exact ⟨a, by unfold gangsawref12_Calendar_After.f; exact Ev.pos h (Ev.now _), by rw [if_pos h]; exact .inr ⟨rfl, ha.1⟩⟩
  · refine ⟨afterG a z (Z0 sh fr), ?_, by rw [if_neg h]; exact afterG_is (Z0_srt hV) ha.1 z (by omega) hz.2⟩
    unfold gangsawref12_Calendar_After.f
    rw [div_day ha.1 ha.2]
    obtain ⟨Y, hY, hy⟩ := raw_from hV ha.1 ha.2
    rw [hY, afterG_skip a z Y _ hy]
    exact Ev.neg h (rafter_l0 hV a ha (10000 - a / 1440).toNat (a / 1440) (by omega) (by omega) z (by omega) hz.2)
def beforeG (b : Int) : Int → List R → Int
  | _, [] => -1
  | z, x :: Z => if min b x.2 ≤ x.1 then beforeG b z Z else if min b x.2 - x.1 ≥ z then min b x.2 - z else beforeG b (z - (min b x.2 - x.1)) Z
theorem beforeG_skip (b : Int) (z : Int) (Y Z : List R) (h : ∀ x ∈ Y, b ≤ x.1) : beforeG b z (Y ++ Z) = beforeG b z Z := by
  induction Y with
  | nil => rfl
  | cons x Y ih =>
    have := h x (by simp)
    rw [List.cons_append, beforeG, if_pos (by omega), ih (fun y hy => h y (by simp [hy]))]
theorem beforeG_is {L : List R} (hL : Dsc L) {b : Int} (hb : b ≤ 14400000) : ∀ z, 1 ≤ z → z ≤ 14400000 → ansR (backF z (cutB b L)) (beforeG b z L) := by
  induction L with
  | nil => intro z _ _; exact .inl ⟨rfl, rfl⟩
  | cons x L ih =>
    intro z h1 h2
    have hx := hL.v x (by simp)
    have hT : Dsc L := ⟨(List.pairwise_cons.1 hL.p).2, fun y hy => hL.v y (List.mem_cons_of_mem _ hy)⟩
    rw [cutB_cons, beforeG]
    by_cases hc : x.1 < b
    · rw [if_pos hc, if_neg (by omega), backF]
      simp only
      rw [w64 (n := min x.2 b - x.1) (by omega) (by omega), show min x.2 b = min b x.2 by omega]
      by_cases hd : min b x.2 - x.1 ≥ z
      · rw [if_pos hd, if_pos hd, w64 (by omega) (by omega)]
        exact .inr ⟨rfl, by omega⟩
      · rw [if_neg hd, if_neg hd, w64 (by omega) (by omega)]
        exact ih hT _ (by omega) (by omega)
    · rw [if_neg hc, if_pos (by omega)]
      exact ih hT z h1 h2
theorem ofS_take {sh : List S54} (d : Int) {j : Nat} (hj : j < sh.length) : (ofS (sh.take (j + 1)) d).reverse = (if sh[j].f0 = d % 7 + 1 then [(d * 1440 + sh[j].f1, d * 1440 + sh[j].f2)] else []) ++ (ofS (sh.take j) d).reverse := by
  have e : ofS (sh.take (j + 1)) d = ofS (sh.take j) d ++ ofS [sh[j]] d := by unfold ofS; rw [List.take_succ_eq_append_getElem hj, List.filter_append, List.map_append]
  rw [e, List.reverse_append, ofS_cons]
  have : ofS [] d = [] := rfl
  split <;> simp [this]
theorem rbefore_l1 {sh : List S54} {fr : List Int} (hV : Val sh fr) (b d : Int) (hb : 0 ≤ b ∧ b ≤ 14400000) (h0 : 0 ≤ d) (h1 : d < 10000) (rest : List R)
    (hr : ∀ z, 1 ≤ z → z ≤ 14400000 → Ev (fun k => gangsawref12_Calendar_Before.l0 k b z (d - 1) sh fr) (beforeG b z rest)) :
    ∀ j, j ≤ sh.length → ∀ z, 1 ≤ z → z ≤ 14400000 → Ev (fun k => gangsawref12_Calendar_Before.l1 k b z d ((j : Int) - 1) sh fr) (beforeG b z ((ofS (sh.take j) d).reverse ++ rest)) := by
  intro j
  induction j with
  | zero =>
    intro h z z1 z2
    refine Ev.succ ?_
    simp only [gangsawref12_Calendar_Before.l1]
    refine Ev.neg (by omega) (Ev.succ ?_)
    simp only [gangsawref12_Calendar_Before.j3]
    rw [w64 (n := d - 1) (by omega) (by omega)]
    exact hr z z1 z2
  | succ j ih =>
    intro h z z1 z2
    have hj : j < sh.length := by omega
    have hl := hV.l1
    have hv := hV.s _ (List.getElem_mem hj)
    have ej : ((j + 1 : Nat) : Int) - 1 = (j : Int) := by omega
    rw [ej]
    have step : ∀ z, 1 ≤ z → z ≤ 14400000 → Ev (fun k => gangsawref12_Calendar_Before.j2 k b z d (j : Int) sh fr) (beforeG b z ((ofS (sh.take j) d).reverse ++ rest)) := fun z z1 z2 => by
      refine Ev.succ ?_
      simp only [gangsawref12_Calendar_Before.j2]
      rw [w64 (n := (j : Int) - 1) (by omega) (by omega)]
      exact ih (by omega) z z1 z2
    refine Ev.succ ?_
    simp only [gangsawref12_Calendar_Before.l1]
    refine Ev.pos (by omega) (Ev.pos (by omega) (Ev.pos (by omega) ?_))
    rw [rdT sh j hj, day_wd h0 (by omega), day_at h0 (by omega) (by omega) hv.2.2.2, day_at h0 (by omega) hv.2.1 (by omega), ofS_take d hj, mn_is]
    refine Ev.ite (fun hc => ?_) (fun hc => by rw [if_neg hc]; exact step z z1 z2)
    rw [if_pos hc, List.append_assoc, List.cons_append, List.nil_append, beforeG]
    simp only
    refine Ev.ite (fun h2 => by rw [if_pos h2]; exact step z z1 z2) (fun h2 => ?_)
    rw [if_neg h2, w64 (n := min b (d * 1440 + sh[j].f2) - (d * 1440 + sh[j].f1)) (by omega) (by omega)]
    refine Ev.ite (fun h3 => ?_) (fun h3 => ?_)
    · rw [if_pos h3, w64 (by omega) (by omega)]; exact Ev.now _
    · rw [if_neg h3, w64 (by omega) (by omega)]; exact step _ (by omega) (by omega)
theorem rbefore_l0 {sh : List S54} {fr : List Int} (hV : Val sh fr) (b : Int) (hb : 0 ≤ b ∧ b ≤ 14400000) : ∀ n : Nat, n ≤ 10000 → ∀ z, 1 ≤ z → z ≤ 14400000 → Ev (fun k => gangsawref12_Calendar_Before.l0 k b z ((n : Int) - 1) sh fr) (beforeG b z (rawK sh fr 0 n).reverse) := by
  intro n
  induction n with
  | zero =>
    intro h z z1 z2
    refine Ev.succ ?_
    simp only [gangsawref12_Calendar_Before.l0]
    exact Ev.neg (by omega) (Ev.now _)
  | succ n ih =>
    intro h z z1 z2
    have ej : ((n + 1 : Nat) : Int) - 1 = (n : Int) := by omega
    rw [ej]
    refine Ev.succ ?_
    simp only [gangsawref12_Calendar_Before.l0]
    refine Ev.pos (by omega) (Ev.bind (free_ev hV (n : Int)) ?_)
    rw [rawK, List.reverse_append, Int.zero_add]
    have hl := hV.l1
    by_cases hd : (n : Int) ∈ fr
    · rw [decide_eq_true hd, ofL_free hd, List.reverse_nil, List.nil_append]
      refine Ev.pos rfl (Ev.succ ?_)
      simp only [gangsawref12_Calendar_Before.j3]
      rw [w64 (n := (n : Int) - 1) (by omega) (by omega)]
      exact ih (by omega) z z1 z2
    · rw [decide_eq_false hd, ofL_on hd (by omega) (by omega), w64 (n := (sh.length : Int) - 1) (by omega) (by omega)]
      have := rbefore_l1 hV b (n : Int) hb (by omega) (by omega) _ (fun z z1 z2 => ih (by omega) z z1 z2) sh.length (Nat.le_refl _) z z1 z2
      rw [List.take_length] at this
      exact Ev.neg (by decide) this
theorem rbefore_ev {sh : List S54} {fr : List Int} (hV : Val sh fr) {b z : Int} (hb : 0 ≤ b ∧ b ≤ 14400000) (hz : 0 ≤ z ∧ z ≤ 14400000) : ∃ g, Ev (fun k => gangsawref12_Calendar_Before.f k sh fr b z) g ∧ ansR (if z = 0 then (b, 0) else backF z (cutB b (Z0 sh fr)).reverse) g := by
  by_cases h : z = 0
  · exact ⟨b, by unfold gangsawref12_Calendar_Before.f; exact Ev.pos h (Ev.now _), by rw [if_pos h]; exact .inr ⟨rfl, hb.1⟩⟩
  · have e1 : (cutB b (Z0 sh fr)).reverse = cutB b (Z0 sh fr).reverse := by unfold cutB; rw [List.filter_reverse, List.map_reverse]
    refine ⟨beforeG b z (Z0 sh fr).reverse, ?_, by rw [if_neg h, e1]; exact beforeG_is (Z0_srt hV).rev hb.2 z (by omega) hz.2⟩
    unfold gangsawref12_Calendar_Before.f
    rw [mn_is, div_day (m := min b 14399999) (by omega) (by omega)]
    have hb1 : (((min b 14399999 / 1440 + 1).toNat : Nat) : Int) - 1 = min b 14399999 / 1440 := by omega
    rw [← hb1]
    have e2 : Z0 sh fr = rawK sh fr 0 (min b 14399999 / 1440 + 1).toNat ++ rawK sh fr (0 + ((min b 14399999 / 1440 + 1).toNat : Int)) (10000 - (min b 14399999 / 1440 + 1)).toNat := by
      rw [Z0_eq, ← rawK_add]
      congr 1
      omega
    rw [e2, List.reverse_append, beforeG_skip]
    · exact Ev.neg h (rbefore_l0 hV b hb _ (by omega) z (by omega) hz.2)
    · intro x hx
      have := rawK_mem hV _ _ x (List.mem_reverse.1 hx)
      omega
theorem mod_day {m : Int} (h0 : 0 ≤ m) (h1 : m ≤ 14400000) : Int.tmod m 1440 = m % 1440 := Int.tmod_eq_emod_of_nonneg h0
theorem ropen_l0 {sh : List S54} {fr : List Int} (hV : Val sh fr) (m : Int) (h0 : 0 ≤ m) (h1 : m < 14400000) : ∀ n j, sh.length = j + n → Ev (fun k => gangsawref12_Calendar_Open.l0 k m (j : Int) sh fr) (openR (ofS (sh.drop j) (m / 1440)) m) := by
  intro n
  induction n with
  | zero =>
    intro j h
    refine Ev.succ ?_
    simp only [gangsawref12_Calendar_Open.l0]
    refine Ev.neg (by omega) (Ev.eq (Ev.now _) ?_)
    rw [List.drop_of_length_le (show sh.length ≤ j by omega)]; rfl
  | succ n ih =>
    intro j h
    have hj : j < sh.length := by omega
    have hl := hV.l1
    have hs := hV.s _ (List.getElem_mem hj)
    have yes : Ev (fun k => gangsawref12_Calendar_Open.j2 k m (j : Int) true sh fr) true := Ev.step (f := fun _ => some true) (fun _ => rfl) (Ev.now _)
    have step : Ev (fun k => gangsawref12_Calendar_Open.j2 k m (j : Int) false sh fr) (openR (ofS (sh.drop (j + 1)) (m / 1440)) m) := by
      refine Ev.step (f := fun k => gangsawref12_Calendar_Open.l0 k m (wrap64 ((j : Int) + 1)) sh fr) (fun _ => rfl) ?_
      rw [nxtN (by omega)]
      exact ih (j + 1) (by omega)
    refine Ev.succ ?_
    simp only [gangsawref12_Calendar_Open.l0]
    refine Ev.pos (by omega) (Ev.pos (by omega) ?_)
    rw [rdT sh j hj, div_day h0 (by omega), day_wd (by omega) (by omega), mod_day h0 (by omega), List.drop_eq_getElem_cons hj, ofS_cons]
    refine Ev.ite (fun hc => ?_) (fun hc => by rw [if_neg hc]; exact step)
    rw [if_pos hc]
    have e : openR ((m / 1440 * 1440 + sh[j].f1, m / 1440 * 1440 + sh[j].f2) :: ofS (sh.drop (j + 1)) (m / 1440)) m = (inside m (m / 1440 * 1440 + sh[j].f1, m / 1440 * 1440 + sh[j].f2) || openR (ofS (sh.drop (j + 1)) (m / 1440)) m) := rfl
    rw [e]
    refine Ev.ite (fun h2 => ?_) (fun h2 => ?_)
    · by_cases h3 : m % 1440 < sh[j].f2
      · rw [decide_eq_true h3]
        have : inside m (m / 1440 * 1440 + sh[j].f1, m / 1440 * 1440 + sh[j].f2) = true := by unfold inside; simp; omega
        rw [this]; exact yes
      · rw [decide_eq_false h3]
        have : inside m (m / 1440 * 1440 + sh[j].f1, m / 1440 * 1440 + sh[j].f2) = false := by unfold inside; simp; omega
        rw [this, Bool.false_or]; exact step
    · have : inside m (m / 1440 * 1440 + sh[j].f1, m / 1440 * 1440 + sh[j].f2) = false := by unfold inside; simp; omega
      rw [this, Bool.false_or]; exact step
theorem ropen_ev {sh : List S54} {fr : List Int} (hV : Val sh fr) {m : Int} (h0 : 0 ≤ m) (h1 : m ≤ 14400000) : Ev (fun k => gangsawref12_Calendar_Open.f k sh fr m) (openR (ofL sh fr (m / 1440)) m) := by
  unfold gangsawref12_Calendar_Open.f
  have stop : Ev (fun k => gangsawref12_Calendar_Open.j0 k m true sh fr) false := Ev.step (f := fun _ => some false) (fun _ => rfl) (Ev.now _)
  refine Ev.neg (by omega) (Ev.ite (fun h => Ev.eq stop ?_) (fun h => ?_))
  · cases hq : openR (ofL sh fr (m / 1440)) m with
    | false => rfl
    | true => have := opn_in hV ((open_is hV m).1 hq); omega
  · rw [div_day h0 h1]
    refine Ev.bind (free_ev hV (m / 1440)) ?_
    by_cases hd : m / 1440 ∈ fr
    · rw [decide_eq_true hd, ofL_free hd]; exact stop
    · rw [decide_eq_false hd, ofL_on hd (by omega) (by omega)]
      exact Ev.step (f := fun k => gangsawref12_Calendar_Open.l0 k m 0 sh fr) (fun _ => rfl) (ropen_l0 hV m h0 (by omega) sh.length 0 (by omega))
end Go.Proofs.Ytpjgmlnnhcnelaa.Sh
