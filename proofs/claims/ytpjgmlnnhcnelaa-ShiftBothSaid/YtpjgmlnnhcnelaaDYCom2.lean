import Derived.Test.YtpjgmlnnhcnelaaDYCom1
import Derived.Test.YtpjgmlnnhcnelaaDYSh5
import Derived.Test.YtpjgmlnnhcnelaaDYQAx0
import Derived.Test.YtpjgmlnnhcnelaaDYQAx23
namespace Go.Proofs.Ytpjgmlnnhcnelaa.Sh
open Go.RowKit Go.Proofs.Ytpjgmlnnhcnelaa.QA Go.Proofs.YtpjgmlnnhcnelaaW.PrintWords Go.Proofs.YtpjgmlnnhcnelaaW.PrintLast Go.Proofs.YtpjgmlnnhcnelaaW.PrintMore Go.Proofs.Ytpjgmlnnhcnelaa.EvKit
set_option linter.unusedVariables false
set_option linter.unusedSimpArgs false
theorem rdL (o : List S54) : rd_T54 o ((o.length - 1 : Nat) : Int) = lstS o := by simp [rd_T54, lstS]
theorem lst64 {o : List S54} (h : 0 < o.length) (hl : o.length ≤ 100000) : wrap64 ((o.length : Int) - 1) = ((o.length - 1 : Nat) : Int) := by rw [w64 (by omega) (by omega)]; omega
theorem in_len (x : S54) : ∀ (b o : List S54), (b.foldl (fun o y => optS o (capS x y)) o).length ≤ o.length + b.length
  | [], o => by simp
  | y :: b, o => by
    rw [List.foldl_cons]
    have h1 := in_len x b (optS o (capS x y))
    have h2 := optS_length o (capS x y)
    rw [List.length_cons]
    omega
theorem drop_at {α : Type} (l : List α) (i : Nat) (h : i < l.length) : l.drop i = l[i] :: l.drop (i + 1) := by rw [List.drop_eq_getElem_cons h]
theorem cap_flag (x y : S54) : capS x y = if x.f0 = y.f0 then (if decide (mx x.f1 y.f1 ≥ mn x.f2 y.f2) = true then none else some ⟨x.f0, mx x.f1 y.f1, mn x.f2 y.f2⟩) else none := by
  unfold capS
  by_cases h : x.f0 = y.f0
  · rw [if_pos h]
    by_cases h2 : mx x.f1 y.f1 < mn x.f2 y.f2
    · rw [if_pos ⟨h, h2⟩, if_neg (by simp; omega)]
    · rw [if_neg (fun e => h2 e.2), if_pos (by simp; omega)]
  · rw [if_neg (fun e => h e.1), if_neg h]
section ref
variable {a b : List S54} {fa fb : List Int}
def finC (c : List S54) (f : List Int) : List S54 × List Int × Int := if c.length > 64 ∨ f.length > 64 then ([], [], 7) else (c, f, 0)
end ref
section prog
variable {a b : List S54} {fa fb u : List Int}
theorem pj3 {i j : Int} {w o : List S54} {x0 x1 x2 la lb : Int} (s : S54) {r : List S54 × List Int × Int} (ho : o.length ≤ 10000) (h : Ev (fun k => shift_Common.l2 k a la i b lb (wrap64 (j + 1)) w fb (addS o s) u x0 x1 x2) r) :
    Ev (fun k => shift_Common.j3 k a la i b lb j false w fb o u x0 x1 x2 s.f0 s.f1 s.f2) r := by
  refine Ev.succ ?_
  simp only [shift_Common.j3]
  refine Ev.neg (by decide) ?_
  have room : o.length < 5864062014805 := by omega
  refine Ev.ite (fun h0 => ?_) (fun h0 => ?_)
  · have hpos : 0 < o.length := by omega
    rw [lst64 hpos (by omega), rdL]
    refine Ev.pos (by omega) (Ev.pos (by omega) ?_)
    rw [Int.toNat_natCast]
    unfold addS at h
    refine Ev.ite (fun h1 => Ev.ite (fun h2 => ?_) (fun h2 => Ev.pos room ?_)) (fun h1 => Ev.pos room ?_)
    · rw [if_pos ⟨hpos, h1, h2⟩] at h
      exact h
    · rw [if_neg (fun e => h2 e.2.2)] at h
      exact h
    · rw [if_neg (fun e => h1 e.2.1)] at h
      exact h
  · unfold addS at h
    rw [if_neg (fun e => h0 (by omega))] at h
    exact Ev.pos room h
theorem pin {i : Nat} (hi : i < a.length) (ha : a.length ≤ 64) (hb : b.length ≤ 64) {r : List S54 × List Int × Int} : ∀ m j o, b.length = j + m → o.length ≤ 64 * i + j →
    Ev (fun k => shift_Common.l1 k a (a.length : Int) (wrap64 ((i : Int) + 1)) b fb ((b.drop j).foldl (fun o y => optS o (capS a[i] y)) o) u) r →
    Ev (fun k => shift_Common.l2 k a (a.length : Int) (i : Int) b (b.length : Int) (j : Int) b fb o u a[i].f0 a[i].f1 a[i].f2) r := by
  intro m
  induction m with
  | zero =>
    intro j o hj ho h
    refine Ev.succ ?_
    simp only [shift_Common.l2]
    refine Ev.neg (by omega) ?_
    rw [List.drop_eq_nil_of_le (by omega), List.foldl_nil] at h
    exact h
  | succ m ih =>
    intro j o hj ho h
    have hjl : j < b.length := by omega
    refine Ev.succ ?_
    simp only [shift_Common.l2]
    refine Ev.pos (by omega) (Ev.pos (by omega) (Ev.pos (by omega) ?_))
    rw [rdT b j hjl]
    rw [drop_at b j hjl, List.foldl_cons] at h
    have hn := ih (j + 1) _ (by omega) (by have := optS_length o (capS a[i] b[j]); omega) h
    rw [← nxtN (by omega)] at hn
    have yes : ∀ s0 s1 s2, capS a[i] b[j] = none → Ev (fun k => shift_Common.j3 k a (a.length : Int) (i : Int) b (b.length : Int) (j : Int) true b fb o u a[i].f0 a[i].f1 a[i].f2 s0 s1 s2) r := fun s0 s1 s2 hc => by
      rw [hc] at hn
      exact Ev.step (f := fun k => shift_Common.l2 k a (a.length : Int) (i : Int) b (b.length : Int) (wrap64 ((j : Int) + 1)) b fb o u a[i].f0 a[i].f1 a[i].f2) (fun _ => rfl) hn
    refine Ev.ite (fun h1 => ?_) (fun h1 => ?_)
    · cases hd : decide (mx a[i].f1 b[j].f1 ≥ mn a[i].f2 b[j].f2) with
      | true => exact yes _ _ _ (by rw [cap_flag, if_pos h1, if_pos hd])
      | false =>
        have hc : capS a[i] b[j] = some ⟨a[i].f0, mx a[i].f1 b[j].f1, mn a[i].f2 b[j].f2⟩ := by rw [cap_flag, if_pos h1, if_neg (by rw [hd]; decide)]
        rw [hc] at hn
        exact pj3 ⟨a[i].f0, mx a[i].f1 b[j].f1, mn a[i].f2 b[j].f2⟩ (by omega) hn
    · exact yes _ _ _ (by rw [cap_flag, if_neg h1])
theorem pout (ha : a.length ≤ 64) (hb : b.length ≤ 64) : ∀ m i o, a.length = i + m → o.length ≤ 64 * i →
    Ev (fun k => shift_Common.l1 k a (a.length : Int) (i : Int) b fb o u) (finC ((a.drop i).foldl (fun o x => b.foldl (fun o y => optS o (capS x y)) o) o) u) := by
  intro m
  induction m with
  | zero =>
    intro i o hi ho
    refine Ev.succ ?_
    simp only [shift_Common.l1]
    refine Ev.neg (by omega) ?_
    rw [List.drop_eq_nil_of_le (by omega), List.foldl_nil]
    unfold finC
    refine Ev.ite (fun h => ?_) (fun h => Ev.ite (fun h2 => ?_) (fun h2 => ?_))
    · rw [if_pos (by omega)]; exact Ev.now _
    · rw [if_pos (by omega)]; exact Ev.now _
    · rw [if_neg (by omega)]; exact Ev.now _
  | succ m ih =>
    intro i o hi ho
    have hil : i < a.length := by omega
    refine Ev.succ ?_
    simp only [shift_Common.l1]
    refine Ev.pos (by omega) (Ev.pos (by omega) (Ev.pos (by omega) ?_))
    rw [rdT a i hil, drop_at a i hil, List.foldl_cons]
    have hn := ih (i + 1) (b.foldl (fun o y => optS o (capS a[i] y)) o) (by omega) (by have := in_len a[i] b o; omega)
    rw [← nxtN (by omega)] at hn
    exact pin hil ha hb b.length 0 o (by omega) (by omega) hn
def comP (a : List S54) (fa : List Int) (b : List S54) (fb : List Int) : List S54 × List Int × Int := if ck a fa = 0 then (if ck b fb = 0 then finC (comS a b) (uniF fa fb) else ([], [], ck b fb)) else ([], [], ck a fa)
theorem com_ev (a : List S54) (fa : List Int) (b : List S54) (fb : List Int) : Ev (fun k => shift_Common.f k a fa b fb) (comP a fa b fb) := by
  unfold shift_Common.f comP
  simp only [Option.bind_some]
  have e1 : wrap64 (0 + 1) = 1 := w64 (by omega) (by omega)
  have e2 : wrap64 (1 + 1) = 2 := w64 (by omega) (by omega)
  have len : (([⟨a, fa⟩, ⟨b, fb⟩] : List S31).length : Int) = 2 := rfl
  have r0 : rd_T31 [⟨a, fa⟩, ⟨b, fb⟩] 0 = ⟨a, fa⟩ := rfl
  have r1 : rd_T31 [⟨a, fa⟩, ⟨b, fb⟩] 1 = ⟨b, fb⟩ := rfl
  rw [len]
  refine Ev.succ ?_
  simp only [shift_Common.l0]
  refine Ev.pos (by omega) (Ev.pos (by omega) (Ev.pos (by rw [len]; omega) ?_))
  rw [r0, e1]
  refine Ev.bind (check_ev a fa) (Ev.ite (fun h => ?_) (fun h => by rw [if_neg h]; exact Ev.now _))
  rw [if_pos h]
  have hVa := Val.of h
  refine Ev.succ ?_
  simp only [shift_Common.l0]
  refine Ev.pos (by omega) (Ev.pos (by omega) (Ev.pos (by rw [len]; omega) ?_))
  rw [r1, e2]
  refine Ev.bind (check_ev b fb) (Ev.ite (fun h2 => ?_) (fun h2 => by rw [if_neg h2]; exact Ev.now _))
  rw [if_pos h2]
  have hVb := Val.of h2
  refine Ev.succ ?_
  simp only [shift_Common.l0]
  have l1 := hVa.l2
  have l2 := hVb.l2
  have c1 : slices_Concat_int_int.f [fa, fb] = some (fa ++ fb) := by
    unfold slices_Concat_int_int.f
    rw [if_pos (by simp; omega)]
    simp
  have c2 : slices_Sort_int_int.f (fa ++ fb) = some (sortI (fa ++ fb)) := by
    unfold slices_Sort_int_int.f
    rw [if_pos (by simp; omega)]
  have c3 : slices_Compact_int_int.f (sortI (fa ++ fb)) = some (uniF fa fb) := by
    unfold slices_Compact_int_int.f
    rw [if_pos (by rw [sortI_length]; simp; omega)]
    rfl
  refine Ev.neg (by omega) (Ev.cbind c1 (Ev.cbind c2 (Ev.cbind c3 ?_)))
  have h3 := pout (u := uniF fa fb) (fb := fb) hVa.l1 hVb.l1 a.length 0 [] (by omega) (by simp)
  rw [List.drop_zero, fold_raw] at h3
  exact h3
end prog
theorem finC_ok {c : List S54} {f : List Int} (h : (finC c f).2.2 = 0) : finC c f = (c, f, 0) ∧ c.length ≤ 64 ∧ f.length ≤ 64 := by
  unfold finC at *
  split
  · rename_i h1; rw [if_pos h1] at h; cases h
  · exact ⟨rfl, by omega, by omega⟩
theorem VS_of {sh : List S54} {fr : List Int} (h : Val sh fr) : ∀ x ∈ sh, VS x := fun x hx => by
  have := h.s x hx
  unfold VS
  omega
theorem ck_com {a b : List S54} {fa fb : List Int} (hVa : Val a fa) (hVb : Val b fb) (h1 : (comS a b).length ≤ 64) (h2 : (uniF fa fb).length ≤ 64) : ck (comS a b) (uniF fa fb) = 0 := by
  unfold ck
  rw [if_neg (by omega), dupS_no _ (comS_sorted hVa.p hVb.p), dupF_no _ (uniF_inc fa fb)]
  have hw : (comS a b).any wrongS = false := by
    rw [List.any_eq_false]
    intro x hx
    have := comS_VS (VS_of hVa) (VS_of hVb) x hx
    unfold VS at this
    simp [wrongS, inR]
    omega
  have ho : (uniF fa fb).any offDay = false := by
    rw [List.any_eq_false]
    intro d hd
    have hd2 : 0 ≤ d ∧ d ≤ 9999 := by
      rcases (uniF_mem fa fb d).1 hd with h | h
      · exact hVa.f d h
      · exact hVb.f d h
    simp [offDay, inR]
    omega
  rw [hw, ho]
  rfl
theorem openR_hit {sh : List S54} {fr : List Int} (d m : Int) (h0 : 0 ≤ d) (h1 : d < 10000) : openR (ofL sh fr d) m = true ↔ d ∉ fr ∧ hitS sh (d % 7 + 1) (m - d * 1440) := by
  by_cases hd : d ∈ fr
  · rw [ofL_free hd]
    constructor
    · intro h; simp [openR] at h
    · intro h; exact absurd hd h.1
  · rw [ofL_on hd h0 h1]
    unfold openR ofS hitS
    rw [List.any_map, List.any_eq_true]
    constructor
    · rintro ⟨x, hx, hi⟩
      obtain ⟨hx1, hx2⟩ := List.mem_filter.1 hx
      simp [inside] at hi
      exact ⟨hd, x, hx1, by simpa using hx2, by omega, by omega⟩
    · rintro ⟨_, x, hx, e, h2, h3⟩
      refine ⟨x, List.mem_filter.2 ⟨hx, by simpa using e⟩, ?_⟩
      simp [inside]
      omega
theorem open_both {a b : List S54} {fa fb : List Int} (hVa : Val a fa) (hVb : Val b fb) (m : Int) (h0 : 0 ≤ m) (h1 : m ≤ 14400000) :
    openR (ofL (comS a b) (uniF fa fb) (m / 1440)) m = (openR (ofL a fa (m / 1440)) m && openR (ofL b fb (m / 1440)) m) := by
  rw [Bool.eq_iff_iff, Bool.and_eq_true]
  by_cases hm : m / 1440 < 10000
  · rw [openR_hit _ _ (by omega) hm, openR_hit _ _ (by omega) hm, openR_hit _ _ (by omega) hm, comS_hit (VS_of hVa) (VS_of hVb), uniF_mem]
    constructor
    · rintro ⟨n1, h1, h2⟩; exact ⟨⟨fun e => n1 (.inl e), h1⟩, fun e => n1 (.inr e), h2⟩
    · rintro ⟨⟨n1, h1⟩, n2, h2⟩; exact ⟨fun e => e.elim n1 n2, h1, h2⟩
  · have e : ∀ sh fr, openR (ofL sh fr (m / 1440)) m = false := fun sh fr => by
      have : ofL sh fr (m / 1440) = [] := by unfold ofL dayOn; simp [hm]
      rw [this]; rfl
    simp [e]
end Go.Proofs.Ytpjgmlnnhcnelaa.Sh
