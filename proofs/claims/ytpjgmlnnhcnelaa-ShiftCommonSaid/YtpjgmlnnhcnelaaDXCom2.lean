import Derived.Test.YtpjgmlnnhcnelaaDXCom1
import Derived.Test.YtpjgmlnnhcnelaaDXSh5
import Derived.Test.YtpjgmlnnhcnelaaDXQAx25
import Derived.Test.YtpjgmlnnhcnelaaDXQAx23
namespace Go.Proofs.Ytpjgmlnnhcnelaa.Sh
open Go.RowKit Go.Proofs.Ytpjgmlnnhcnelaa.QA Go.Proofs.YtpjgmlnnhcnelaaW.PrintWords Go.Proofs.YtpjgmlnnhcnelaaW.PrintLast Go.Proofs.YtpjgmlnnhcnelaaW.PrintMore Go.Proofs.Ytpjgmlnnhcnelaa.EvKit
set_option linter.unusedVariables false
set_option linter.unusedSimpArgs false
theorem rdL (o : List S54) : rd_T54 o ((o.length - 1 : Nat) : Int) = lstS o := by simp [rd_T54, lstS]
theorem lst64 {o : List S54} (h : 0 < o.length) (hl : o.length ≤ 100000) : wrap64 ((o.length : Int) - 1) = ((o.length - 1 : Nat) : Int) := by rw [w64 (by omega) (by omega)]; omega
theorem in_len (x : S54) : ∀ (b o : List S54), (b.foldl (fun o y => optS o (capS x y)) o).length ≤ o.length + b.length
  | [], o => by simp
  | y :: b, o => by
    rw [List.foldl_cons]
    have h1 := in_len x b (optS o (capS x y))
    have h2 := optS_length o (capS x y)
    rw [List.length_cons]
    omega
theorem drop_at {α : Type} (l : List α) (i : Nat) (h : i < l.length) : l.drop i = l[i] :: l.drop (i + 1) := by rw [List.drop_eq_getElem_cons h]
theorem cap_flag (x y : S54) : capS x y = if x.f0 = y.f0 then (if decide (mx x.f1 y.f1 ≥ mn x.f2 y.f2) = true then none else some ⟨x.f0, mx x.f1 y.f1, mn x.f2 y.f2⟩) else none := by
  unfold capS
  by_cases h : x.f0 = y.f0
  · rw [if_pos h]
    by_cases h2 : mx x.f1 y.f1 < mn x.f2 y.f2
    · rw [if_pos ⟨h, h2⟩, if_neg (by simp; omega)]
    · rw [if_neg (fun e => h2 e.2), if_pos (by simp; omega)]
  · rw [if_neg (fun e => h e.1), if_neg h]
section ref
variable {a b : List S54} {fa fb : List Int}
theorem rj2 {i j : Int} {o : List S54} (s : S54) {r : List S54 × List Int × Int} (ho : o.length ≤ 10000) (h : Ev (fun k => r_Common.l1 k i (wrap64 (j + 1)) a fa b fb (addS o s)) r) :
    Ev (fun k => r_Common.j2 k i j false a fa b fb o s.f0 s.f1 s.f2) r := by
  refine Ev.succ ?_
  simp only [r_Common.j2]
  refine Ev.neg (by decide) ?_
  have room : o.length < 5864062014805 := by omega
  refine Ev.ite (fun h0 => ?_) (fun h0 => ?_)
  · have hpos : 0 < o.length := by omega
    rw [lst64 hpos (by omega), rdL]
    refine Ev.pos (by omega) (Ev.pos (by omega) ?_)
    rw [Int.toNat_natCast]
    unfold addS at h
    refine Ev.ite (fun h1 => Ev.ite (fun h2 => ?_) (fun h2 => Ev.pos room ?_)) (fun h1 => Ev.pos room ?_)
    · rw [if_pos ⟨hpos, h1, h2⟩] at h
      exact h
    · rw [if_neg (fun e => h2 e.2.2)] at h
      exact h
    · rw [if_neg (fun e => h1 e.2.1)] at h
      exact h
  · unfold addS at h
    rw [if_neg (fun e => h0 (by omega))] at h
    exact Ev.pos room h
theorem rin {i : Nat} (hi : i < a.length) (ha : a.length ≤ 64) (hb : b.length ≤ 64) {r : List S54 × List Int × Int} : ∀ m j o, b.length = j + m → o.length ≤ 64 * i + j →
    Ev (fun k => r_Common.l0 k (wrap64 ((i : Int) + 1)) a fa b fb ((b.drop j).foldl (fun o y => optS o (capS a[i] y)) o)) r →
    Ev (fun k => r_Common.l1 k (i : Int) (j : Int) a fa b fb o) r := by
  intro m
  induction m with
  | zero =>
    intro j o hj ho h
    refine Ev.succ ?_
    simp only [r_Common.l1]
    refine Ev.neg (by omega) ?_
    rw [List.drop_eq_nil_of_le (by omega), List.foldl_nil] at h
    exact h
  | succ m ih =>
    intro j o hj ho h
    have hjl : j < b.length := by omega
    refine Ev.succ ?_
    simp only [r_Common.l1]
    refine Ev.pos (by omega) (Ev.pos (by omega) (Ev.pos (by omega) (Ev.pos (by omega) ?_)))
    rw [rdT a i hi, rdT b j hjl]
    rw [drop_at b j hjl, List.foldl_cons] at h
    have hn := ih (j + 1) _ (by omega) (by have := optS_length o (capS a[i] b[j]); omega) h
    rw [← nxtN (by omega)] at hn
    have yes : ∀ s0 s1 s2, capS a[i] b[j] = none → Ev (fun k => r_Common.j2 k (i : Int) (j : Int) true a fa b fb o s0 s1 s2) r := fun s0 s1 s2 hc => by
      rw [hc] at hn
      exact Ev.step (f := fun k => r_Common.l1 k (i : Int) (wrap64 ((j : Int) + 1)) a fa b fb o) (fun _ => rfl) hn
    refine Ev.ite (fun h1 => ?_) (fun h1 => ?_)
    · cases hd : decide (mx a[i].f1 b[j].f1 ≥ mn a[i].f2 b[j].f2) with
      | true => exact yes _ _ _ (by rw [cap_flag, if_pos h1, if_pos hd])
      | false =>
        have hc : capS a[i] b[j] = some ⟨a[i].f0, mx a[i].f1 b[j].f1, mn a[i].f2 b[j].f2⟩ := by rw [cap_flag, if_pos h1, if_neg (by rw [hd]; decide)]
        rw [hc] at hn
        exact rj2 ⟨a[i].f0, mx a[i].f1 b[j].f1, mn a[i].f2 b[j].f2⟩ (by omega) hn
    · exact yes _ _ _ (by rw [cap_flag, if_neg h1])
theorem rout (ha : a.length ≤ 64) (hb : b.length ≤ 64) {r : List S54 × List Int × Int} : ∀ m i o, a.length = i + m → o.length ≤ 64 * i →
    Ev (fun k => r_Common.l2 k 0 a fa b fb ((a.drop i).foldl (fun o x => b.foldl (fun o y => optS o (capS x y)) o) o) []) r →
    Ev (fun k => r_Common.l0 k (i : Int) a fa b fb o) r := by
  intro m
  induction m with
  | zero =>
    intro i o hi ho h
    refine Ev.succ ?_
    simp only [r_Common.l0]
    refine Ev.neg (by omega) ?_
    rw [List.drop_eq_nil_of_le (by omega), List.foldl_nil] at h
    exact h
  | succ m ih =>
    intro i o hi ho h
    have hil : i < a.length := by omega
    refine Ev.succ ?_
    simp only [r_Common.l0]
    refine Ev.pos (by omega) ?_
    rw [drop_at a i hil, List.foldl_cons] at h
    have hn := ih (i + 1) _ (by omega) (by have := in_len a[i] b o; omega) h
    rw [← nxtN (by omega)] at hn
    exact rin hil ha hb b.length 0 o (by omega) (by omega) hn
def frL (fa fb : List Int) (d : Int) : Nat → List Int
  | 0 => []
  | m + 1 => (if d ∈ fa ∨ d ∈ fb then [d] else []) ++ frL fa fb (d + 1) m
theorem frL_mem (fa fb : List Int) (v : Int) : ∀ m d, v ∈ frL fa fb d m ↔ (d ≤ v ∧ v < d + (m : Nat)) ∧ (v ∈ fa ∨ v ∈ fb) := by
  intro m
  induction m with
  | zero => intro d; simp [frL]; intros; omega
  | succ m ih =>
    intro d
    unfold frL
    rw [List.mem_append, ih]
    constructor
    · rintro (h | h)
      · split at h
        · rename_i h1
          obtain rfl := List.mem_singleton.1 h
          exact ⟨⟨by omega, by omega⟩, h1⟩
        · simp at h
      · exact ⟨⟨by omega, by omega⟩, h.2⟩
    · rintro ⟨h1, h2⟩
      by_cases hd : v = d
      · subst hd; left; rw [if_pos h2]; simp
      · right; exact ⟨⟨by omega, by omega⟩, h2⟩
theorem frL_inc (fa fb : List Int) : ∀ m d, (frL fa fb d m).Pairwise (· < ·) := by
  intro m
  induction m with
  | zero => intro d; exact List.Pairwise.nil
  | succ m ih =>
    intro d
    unfold frL
    refine List.pairwise_append.2 ⟨?_, ih _, fun x hx y hy => ?_⟩
    · split
      · exact List.pairwise_singleton _ _
      · exact List.Pairwise.nil
    · have h1 := ((frL_mem fa fb y m (d + 1)).1 hy).1
      split at hx
      · obtain rfl := List.mem_singleton.1 hx
        omega
      · simp at hx
theorem frL_is {fa fb : List Int} (h1 : ∀ d ∈ fa, 0 ≤ d ∧ d ≤ 9999) (h2 : ∀ d ∈ fb, 0 ≤ d ∧ d ≤ 9999) (m : Nat) (hm : m = 10000) : frL fa fb 0 m = uniF fa fb := by
  refine eq_of_mem (R := (· < ·)) (fun a b h1 h2 => by omega) _ _ (frL_inc fa fb m 0) (uniF_inc fa fb) (fun v => ?_)
  rw [frL_mem, uniF_mem]
  constructor
  · intro h; exact h.2
  · intro h
    refine ⟨?_, h⟩
    rcases h with h | h
    · have := h1 v h; omega
    · have := h2 v h; omega
def finC (c : List S54) (f : List Int) : List S54 × List Int × Int := if c.length > 64 ∨ f.length > 64 then ([], [], 7) else (c, f, 0)
theorem rfree {c : List S54} (hVa : Val a fa) (hVb : Val b fb) : ∀ m : Nat, ∀ d : Int, ∀ o : List Int, 0 ≤ d → d + m = 10000 → o.length ≤ d →
    Ev (fun k => r_Common.l2 k d a fa b fb c o) (finC c (o ++ frL fa fb d m)) := by
  intro m
  induction m with
  | zero =>
    intro d o h0 hd ho
    refine Ev.succ ?_
    simp only [r_Common.l2]
    refine Ev.neg (by omega) ?_
    unfold frL finC
    rw [List.append_nil]
    refine Ev.ite (fun h => ?_) (fun h => Ev.ite (fun h2 => ?_) (fun h2 => ?_))
    · rw [if_pos (by omega)]; exact Ev.now _
    · rw [if_pos (by omega)]; exact Ev.now _
    · rw [if_neg (by omega)]; exact Ev.now _
  | succ m ih =>
    intro d o h0 hd ho
    refine Ev.succ ?_
    simp only [r_Common.l2]
    have e : frL fa fb d (m + 1) = (if d ∈ fa ∨ d ∈ fb then [d] else []) ++ frL fa fb (d + 1) m := rfl
    rw [e]
    have room : o.length < 17592186044416 := by omega
    have go : ∀ o' : List Int, o'.length ≤ d + 1 → Ev (fun k => r_Common.l2 k (wrap64 (d + 1)) a fa b fb c o') (finC c (o' ++ frL fa fb (d + 1) m)) := fun o' ho' => by
      rw [nxt1 (by omega) (by omega)]
      exact ih (d + 1) o' (by omega) (by omega) ho'
    have e2 : ∀ z : List Int, o ++ ([d] ++ z) = (o ++ [d]) ++ z := fun z => by simp
    refine Ev.pos (by omega) (Ev.bind (free_ev hVa d) (Ev.ite (fun h => ?_) (fun h => Ev.bind (free_ev hVb d) (Ev.ite (fun h2 => ?_) (fun h2 => ?_)))))
    · rw [if_pos (.inl (by simpa using h)), e2]
      exact Ev.pos room (go _ (by simp; omega))
    · rw [if_pos (.inr (by simpa using h2)), e2]
      exact Ev.pos room (go _ (by simp; omega))
    · rw [if_neg (by simp at h h2; exact fun e => e.elim h h2), List.nil_append]
      exact go o (by omega)
theorem rcom_ev (hVa : Val a fa) (hVb : Val b fb) : Ev (fun k => r_Common.f k a fa b fb) (finC (comS a b) (uniF fa fb)) := by
  unfold r_Common.f
  obtain ⟨m, hm⟩ : ∃ m : Nat, m = 10000 := ⟨_, rfl⟩
  refine rout hVa.l1 hVb.l1 a.length 0 [] (by omega) (by simp) ?_
  rw [List.drop_zero, fold_raw]
  have h := rfree (c := (rawS a b).foldl addS []) hVa hVb m 0 [] (Int.le_refl _) (by omega) (by simp)
  rw [List.nil_append, frL_is hVa.f hVb.f m hm] at h
  exact h
end ref
section prog
variable {a b : List S54} {fa fb u : List Int}
theorem pj3 {i j : Int} {w o : List S54} {x0 x1 x2 la lb : Int} (s : S54) {r : List S54 × List Int × Int} (ho : o.length ≤ 10000) (h : Ev (fun k => shift_Common.l2 k a la i b lb (wrap64 (j + 1)) w fb (addS o s) u x0 x1 x2) r) :
    Ev (fun k => shift_Common.j3 k a la i b lb j false w fb o u x0 x1 x2 s.f0 s.f1 s.f2) r := by
  refine Ev.succ ?_
  simp only [shift_Common.j3]
  refine Ev.neg (by decide) ?_
  have room : o.length < 5864062014805 := by omega
  refine Ev.ite (fun h0 => ?_) (fun h0 => ?_)
  · have hpos : 0 < o.length := by omega
    rw [lst64 hpos (by omega), rdL]
    refine Ev.pos (by omega) (Ev.pos (by omega) ?_)
    rw [Int.toNat_natCast]
    unfold addS at h
    refine Ev.ite (fun h1 => Ev.ite (fun h2 => ?_) (fun h2 => Ev.pos room ?_)) (fun h1 => Ev.pos room ?_)
    · rw [if_pos ⟨hpos, h1, h2⟩] at h
      exact h
    · rw [if_neg (fun e => h2 e.2.2)] at h
      exact h
    · rw [if_neg (fun e => h1 e.2.1)] at h
      exact h
  · unfold addS at h
    rw [if_neg (fun e => h0 (by omega))] at h
    exact Ev.pos room h
theorem pin {i : Nat} (hi : i < a.length) (ha : a.length ≤ 64) (hb : b.length ≤ 64) {r : List S54 × List Int × Int} : ∀ m j o, b.length = j + m → o.length ≤ 64 * i + j →
    Ev (fun k => shift_Common.l1 k a (a.length : Int) (wrap64 ((i : Int) + 1)) b fb ((b.drop j).foldl (fun o y => optS o (capS a[i] y)) o) u) r →
    Ev (fun k => shift_Common.l2 k a (a.length : Int) (i : Int) b (b.length : Int) (j : Int) b fb o u a[i].f0 a[i].f1 a[i].f2) r := by
  intro m
  induction m with
  | zero =>
    intro j o hj ho h
    refine Ev.succ ?_
    simp only [shift_Common.l2]
    refine Ev.neg (by omega) ?_
    rw [List.drop_eq_nil_of_le (by omega), List.foldl_nil] at h
    exact h
  | succ m ih =>
    intro j o hj ho h
    have hjl : j < b.length := by omega
    refine Ev.succ ?_
    simp only [shift_Common.l2]
    refine Ev.pos (by omega) (Ev.pos (by omega) (Ev.pos (by omega) ?_))
    rw [rdT b j hjl]
    rw [drop_at b j hjl, List.foldl_cons] at h
    have hn := ih (j + 1) _ (by omega) (by have := optS_length o (capS a[i] b[j]); omega) h
    rw [← nxtN (by omega)] at hn
    have yes : ∀ s0 s1 s2, capS a[i] b[j] = none → Ev (fun k => shift_Common.j3 k a (a.length : Int) (i : Int) b (b.length : Int) (j : Int) true b fb o u a[i].f0 a[i].f1 a[i].f2 s0 s1 s2) r := fun s0 s1 s2 hc => by
      rw [hc] at hn
      exact Ev.step (f := fun k => shift_Common.l2 k a (a.length : Int) (i : Int) b (b.length : Int) (wrap64 ((j : Int) + 1)) b fb o u a[i].f0 a[i].f1 a[i].f2) (fun _ => rfl) hn
    refine Ev.ite (fun h1 => ?_) (fun h1 => ?_)
    · cases hd : decide (mx a[i].f1 b[j].f1 ≥ mn a[i].f2 b[j].f2) with
      | true => exact yes _ _ _ (by rw [cap_flag, if_pos h1, if_pos hd])
      | false =>
        have hc : capS a[i] b[j] = some ⟨a[i].f0, mx a[i].f1 b[j].f1, mn a[i].f2 b[j].f2⟩ := by rw [cap_flag, if_pos h1, if_neg (by rw [hd]; decide)]
        rw [hc] at hn
        exact pj3 ⟨a[i].f0, mx a[i].f1 b[j].f1, mn a[i].f2 b[j].f2⟩ (by omega) hn
    · exact yes _ _ _ (by rw [cap_flag, if_neg h1])
theorem pout (ha : a.length ≤ 64) (hb : b.length ≤ 64) : ∀ m i o, a.length = i + m → o.length ≤ 64 * i →
    Ev (fun k => shift_Common.l1 k a (a.length : Int) (i : Int) b fb o u) (finC ((a.drop i).foldl (fun o x => b.foldl (fun o y => optS o (capS x y)) o) o) u) := by
  intro m
  induction m with
  | zero =>
    intro i o hi ho
    refine Ev.succ ?_
    simp only [shift_Common.l1]
    refine Ev.neg (by omega) ?_
    rw [List.drop_eq_nil_of_le (by omega), List.foldl_nil]
    unfold finC
    refine Ev.ite (fun h => ?_) (fun h => Ev.ite (fun h2 => ?_) (fun h2 => ?_))
    · rw [if_pos (by omega)]; exact Ev.now _
    · rw [if_pos (by omega)]; exact Ev.now _
    · rw [if_neg (by omega)]; exact Ev.now _
  | succ m ih =>
    intro i o hi ho
    have hil : i < a.length := by omega
    refine Ev.succ ?_
    simp only [shift_Common.l1]
    refine Ev.pos (by omega) (Ev.pos (by omega) (Ev.pos (by omega) ?_))
    rw [rdT a i hil, drop_at a i hil, List.foldl_cons]
    have hn := ih (i + 1) (b.foldl (fun o y => optS o (capS a[i] y)) o) (by omega) (by have := in_len a[i] b o; omega)
    rw [← nxtN (by omega)] at hn
    exact pin hil ha hb b.length 0 o (by omega) (by omega) hn
def comP (a : List S54) (fa : List Int) (b : List S54) (fb : List Int) : List S54 × List Int × Int := if ck a fa = 0 then (if ck b fb = 0 then finC (comS a b) (uniF fa fb) else ([], [], ck b fb)) else ([], [], ck a fa)
theorem com_ev (a : List S54) (fa : List Int) (b : List S54) (fb : List Int) : Ev (fun k => shift_Common.f k a fa b fb) (comP a fa b fb) := by
  unfold shift_Common.f comP
  simp only [Option.bind_some]
  have e1 : wrap64 (0 + 1) = 1 := w64 (by omega) (by omega)
  have e2 : wrap64 (1 + 1) = 2 := w64 (by omega) (by omega)
  have len : (([⟨a, fa⟩, ⟨b, fb⟩] : List S31).length : Int) = 2 := rfl
  have r0 : rd_T31 [⟨a, fa⟩, ⟨b, fb⟩] 0 = ⟨a, fa⟩ := rfl
  have r1 : rd_T31 [⟨a, fa⟩, ⟨b, fb⟩] 1 = ⟨b, fb⟩ := rfl
  rw [len]
  refine Ev.succ ?_
  simp only [shift_Common.l0]
  refine Ev.pos (by omega) (Ev.pos (by omega) (Ev.pos (by rw [len]; omega) ?_))
  rw [r0, e1]
  refine Ev.bind (check_ev a fa) (Ev.ite (fun h => ?_) (fun h => by rw [if_neg h]; exact Ev.now _))
  rw [if_pos h]
  have hVa := Val.of h
  refine Ev.succ ?_
  simp only [shift_Common.l0]
  refine Ev.pos (by omega) (Ev.pos (by omega) (Ev.pos (by rw [len]; omega) ?_))
  rw [r1, e2]
  refine Ev.bind (check_ev b fb) (Ev.ite (fun h2 => ?_) (fun h2 => by rw [if_neg h2]; exact Ev.now _))
  rw [if_pos h2]
  have hVb := Val.of h2
  refine Ev.succ ?_
  simp only [shift_Common.l0]
  have l1 := hVa.l2
  have l2 := hVb.l2
  have c1 : slices_Concat_int_int.f [fa, fb] = some (fa ++ fb) := by
    unfold slices_Concat_int_int.f
    rw [if_pos (by simp; omega)]
    simp
  have c2 : slices_Sort_int_int.f (fa ++ fb) = some (sortI (fa ++ fb)) := by
    unfold slices_Sort_int_int.f
    rw [if_pos (by simp; omega)]
  have c3 : slices_Compact_int_int.f (sortI (fa ++ fb)) = some (uniF fa fb) := by
    unfold slices_Compact_int_int.f
    rw [if_pos (by rw [sortI_length]; simp; omega)]
    rfl
  refine Ev.neg (by omega) (Ev.cbind c1 (Ev.cbind c2 (Ev.cbind c3 ?_)))
  have h3 := pout (u := uniF fa fb) (fb := fb) hVa.l1 hVb.l1 a.length 0 [] (by omega) (by simp)
  rw [List.drop_zero, fold_raw] at h3
  exact h3
end prog
end Go.Proofs.Ytpjgmlnnhcnelaa.Sh
