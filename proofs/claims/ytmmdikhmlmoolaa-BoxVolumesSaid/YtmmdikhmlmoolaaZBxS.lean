/-
  Chapter 06: counting points.
-/
import Derived.Test.YtmmdikhmlmoolaaZBx5
namespace Go.Proofs.Ytmmdikhmlmoolaa.Bx
open Go.RowKit Go.Proofs.Ytmmdikhmlmoolaa.QA Go.Proofs.YtmmdikhmlmoolaaW.PrintWords Go.Proofs.YtmmdikhmlmoolaaW.PrintLast Go.Proofs.YtmmdikhmlmoolaaW.PrintMore Go.Proofs.Ytmmdikhmlmoolaa.EvKit
set_option linter.unusedVariables false
set_option linter.unusedSimpArgs false
def sm (f : Int → Int) (lo : Int) : Nat → Int
  | 0 => 0
  | n + 1 => sm f lo n + f (lo + n)
theorem sm_congr {f g : Int → Int} (lo : Int) : ∀ n : Nat, (∀ i, lo ≤ i → i < lo + n → f i = g i) → sm f lo n = sm g lo n
  | 0, _ => rfl
  | n + 1, h => by
    rw [sm, sm, sm_congr lo n (fun i h1 h2 => h i h1 (by omega)), h (lo + n) (by omega) (by omega)]
theorem sm_add (f g : Int → Int) (lo : Int) : ∀ n : Nat, sm (fun i => f i + g i) lo n = sm f lo n + sm g lo n
  | 0 => rfl
  | n + 1 => by rw [sm, sm, sm, sm_add f g lo n]; omega
theorem sm_mul (c : Int) (f : Int → Int) (lo : Int) : ∀ n : Nat, sm (fun i => c * f i) lo n = c * sm f lo n
  | 0 => by rw [sm, sm, Int.mul_zero]
  | n + 1 => by rw [sm, sm, sm_mul c f lo n, Int.mul_add]
theorem sm_split (f : Int → Int) (lo : Int) (m : Nat) : ∀ n : Nat, sm f lo (m + n) = sm f lo m + sm f (lo + m) n
  | 0 => by rw [Nat.add_zero, sm, Int.add_zero]
  | n + 1 => by
    rw [← Nat.add_assoc, sm, sm, sm_split f lo m n, show lo + ((m + n : Nat) : Int) = lo + m + n by omega]; omega
theorem sm_const (c lo : Int) : ∀ n : Nat, sm (fun _ => c) lo n = n * c
  | 0 => by rw [sm]; simp
  | n + 1 => by rw [sm, sm_const c lo n, show ((n + 1 : Nat) : Int) = (n : Int) + 1 by omega, Int.add_mul, Int.one_mul]
theorem sm_nonneg {f : Int → Int} (h : ∀ i, 0 ≤ f i) (lo : Int) : ∀ n : Nat, 0 ≤ sm f lo n
  | 0 => Int.le_refl _
  | n + 1 => by rw [sm]; have := sm_nonneg h lo n; have := h (lo + n); omega
theorem sm_mono {f g : Int → Int} (h : ∀ i, f i ≤ g i) (lo : Int) : ∀ n : Nat, sm f lo n ≤ sm g lo n
  | 0 => Int.le_refl _
  | n + 1 => by rw [sm, sm]; have := sm_mono h lo n; have := h (lo + n); omega
/-- The sum over a ≤ i < b. -/
def si (f : Int → Int) (a b : Int) : Int := sm f a (b - a).toNat
theorem si_congr {f g : Int → Int} {a b : Int} (h : ∀ i, a ≤ i → i < b → f i = g i) : si f a b = si g a b := by
  unfold si
  by_cases hab : a ≤ b
  · exact sm_congr a _ (fun i h1 h2 => h i h1 (by omega))
  · rw [show (b - a).toNat = 0 by omega]; rfl
theorem si_add (f g : Int → Int) (a b : Int) : si (fun i => f i + g i) a b = si f a b + si g a b := sm_add f g a _
theorem si_mul (c : Int) (f : Int → Int) (a b : Int) : si (fun i => c * f i) a b = c * si f a b := sm_mul c f a _
theorem si_split (f : Int → Int) {a b c : Int} (h1 : a ≤ b) (h2 : b ≤ c) : si f a c = si f a b + si f b c := by
  unfold si
  rw [show (c - a).toNat = (b - a).toNat + (c - b).toNat by omega, sm_split, show a + (((b - a).toNat : Nat) : Int) = b by omega]
theorem si_const {f : Int → Int} {a b c : Int} (hab : a ≤ b) (h : ∀ i, a ≤ i → i < b → f i = c) : si f a b = (b - a) * c := by
  rw [si_congr (g := fun _ => c) h]
  unfold si
  rw [sm_const, show (((b - a).toNat : Nat) : Int) = b - a by omega]
theorem si_nonneg {f : Int → Int} (h : ∀ i, 0 ≤ f i) (a b : Int) : 0 ≤ si f a b := sm_nonneg h a _
theorem si_mono {f g : Int → Int} (h : ∀ i, f i ≤ g i) (a b : Int) : si f a b ≤ si g a b := sm_mono h a _
theorem si_nil (f : Int → Int) (a : Int) : si f a a = 0 := by unfold si; rw [show (a - a).toNat = 0 by omega]; rfl
/-- The sum over all points that valid boxes can have. -/
def S1 (f : Int → Int) : Int := si f (-1000000) 1000000
def S3 (f : Int → Int → Int → Int) : Int := S1 fun z => S1 fun y => S1 fun x => f x y z
theorem S1_congr {f g : Int → Int} (h : ∀ i, -1000000 ≤ i → i < 1000000 → f i = g i) : S1 f = S1 g := si_congr h
theorem S1_add (f g : Int → Int) : S1 (fun i => f i + g i) = S1 f + S1 g := si_add f g _ _
theorem S3_congr {f g : Int → Int → Int → Int} (h : ∀ x y z, f x y z = g x y z) : S3 f = S3 g := S1_congr fun z _ _ => S1_congr fun y _ _ => S1_congr fun x _ _ => h x y z
theorem S3_add (f g : Int → Int → Int → Int) : S3 (fun x y z => f x y z + g x y z) = S3 f + S3 g := by
  unfold S3
  rw [← S1_add]
  refine S1_congr fun z _ _ => ?_
  rw [← S1_add]
  exact S1_congr fun y _ _ => S1_add _ _
theorem S3_nonneg {f : Int → Int → Int → Int} (h : ∀ x y z, 0 ≤ f x y z) : 0 ≤ S3 f := si_nonneg (fun z => si_nonneg (fun y => si_nonneg (fun x => h x y z) _ _) _ _) _ _
theorem S3_mono {f g : Int → Int → Int → Int} (h : ∀ x y z, f x y z ≤ g x y z) : S3 f ≤ S3 g := si_mono (fun z => si_mono (fun y => si_mono (fun x => h x y z) _ _) _ _) _ _
theorem S3_zero : S3 (fun _ _ _ => 0) = 0 := by
  have h : S1 (fun _ => 0) = 0 := by unfold S1; rw [si_const (c := 0) (by omega) (fun _ _ _ => rfl), Int.mul_zero]
  show S1 (fun _ => S1 fun _ => S1 fun _ => 0) = 0
  rw [h, h, h]
def ind (b : Bool) : Int := if b = true then 1 else 0
theorem ind_and (a b : Bool) : ind (a && b) = ind a * ind b := by cases a <;> cases b <;> rfl
theorem ind_nonneg (b : Bool) : 0 ≤ ind b := by cases b <;> decide
theorem ind_le (b : Bool) : ind b ≤ 1 := by cases b <;> decide
/-- One coordinate in a range. -/
def inI (a b i : Int) : Bool := decide (a ≤ i) && decide (i < b)
theorem inI_iff (a b i : Int) : inI a b i = true ↔ a ≤ i ∧ i < b := by simp [inI]
theorem hasB_is (b : S25) (x y z : Int) : hasB b x y z = (inI b.f0.f2 b.f1.f2 z && (inI b.f0.f1 b.f1.f1 y && inI b.f0.f0 b.f1.f0 x)) := by
  rw [Bool.eq_iff_iff]
  unfold hasB
  simp only [Bool.and_eq_true, inI_iff, decide_eq_true_eq]
  omega
theorem S1_inI {a b : Int} (h1 : -1000000 ≤ a) (h2 : a ≤ b) (h3 : b ≤ 1000000) : S1 (fun i => ind (inI a b i)) = b - a := by
  unfold S1
  rw [si_split _ h1 (by omega : a ≤ 1000000), si_split _ h2 h3, si_const (c := 0) h1 (fun i h4 h5 => ?_), si_const (c := 1) h2 (fun i h4 h5 => ?_), si_const (c := 0) h3 (fun i h4 h5 => ?_)]
  · omega
  · have : inI a b i = false := by rw [← Bool.not_eq_true, inI_iff]; omega
    rw [this]; rfl
  · have : inI a b i = true := by rw [inI_iff]; omega
    rw [this]; rfl
  · have : inI a b i = false := by rw [← Bool.not_eq_true, inI_iff]; omega
    rw [this]; rfl
theorem S3_has (b : S25) (hv : V b) : S3 (fun x y z => ind (hasB b x y z)) = volS b := by
  obtain ⟨r0, r1, r2, r3, r4, r5, l0, l1, l2⟩ := hv
  have e : ∀ x y z, ind (hasB b x y z) = ind (inI b.f0.f2 b.f1.f2 z) * (ind (inI b.f0.f1 b.f1.f1 y) * ind (inI b.f0.f0 b.f1.f0 x)) := fun x y z => by rw [hasB_is, ind_and, ind_and]
  rw [S3_congr e]
  have f : ∀ z y : Int, S1 (fun x => ind (inI b.f0.f2 b.f1.f2 z) * (ind (inI b.f0.f1 b.f1.f1 y) * ind (inI b.f0.f0 b.f1.f0 x))) = ind (inI b.f0.f2 b.f1.f2 z) * (ind (inI b.f0.f1 b.f1.f1 y) * (b.f1.f0 - b.f0.f0)) := fun z y => by
    have h := S1_inI r0.1 (Int.le_of_lt l0) r3.2
    unfold S1 at h ⊢
    rw [si_mul, si_mul, h]
  have g : ∀ z : Int, S1 (fun y => ind (inI b.f0.f2 b.f1.f2 z) * (ind (inI b.f0.f1 b.f1.f1 y) * (b.f1.f0 - b.f0.f0))) = ind (inI b.f0.f2 b.f1.f2 z) * ((b.f1.f1 - b.f0.f1) * (b.f1.f0 - b.f0.f0)) := fun z => by
    have h := S1_inI r1.1 (Int.le_of_lt l1) r4.2
    rw [S1_congr (g := fun y => ind (inI b.f0.f2 b.f1.f2 z) * ((b.f1.f0 - b.f0.f0) * ind (inI b.f0.f1 b.f1.f1 y))) (fun y _ _ => by rw [Int.mul_comm (b.f1.f0 - b.f0.f0)])]
    unfold S1 at h ⊢
    rw [si_mul, si_mul, h, Int.mul_comm (b.f1.f0 - b.f0.f0)]
  unfold S3
  rw [S1_congr (g := fun z => ind (inI b.f0.f2 b.f1.f2 z) * ((b.f1.f1 - b.f0.f1) * (b.f1.f0 - b.f0.f0))) (fun z _ _ => by rw [← g z]; exact S1_congr fun y _ _ => f z y)]
  have h := S1_inI r2.1 (Int.le_of_lt l2) r5.2
  rw [S1_congr (g := fun z => ((b.f1.f1 - b.f0.f1) * (b.f1.f0 - b.f0.f0)) * ind (inI b.f0.f2 b.f1.f2 z)) (fun y _ _ => by rw [Int.mul_comm])]
  unfold S1 at h ⊢
  rw [si_mul, h]
  unfold volS
  rw [Int.mul_comm (b.f1.f1 - b.f0.f1)]
/-- How many boxes of a list have a point. -/
def cn : List S25 → Int → Int → Int → Int
  | [], _, _, _ => 0
  | b :: l, x, y, z => ind (hasB b x y z) + cn l x y z
def volL : List S25 → Int
  | [] => 0
  | b :: l => volS b + volL l
theorem S3_cn : ∀ l : List S25, (∀ b ∈ l, V b) → S3 (cn l) = volL l
  | [], _ => S3_zero
  | b :: l, h => by
    have e : S3 (cn (b :: l)) = S3 (fun x y z => ind (hasB b x y z) + cn l x y z) := S3_congr fun x y z => rfl
    rw [e, S3_add, S3_has b (h b (by simp)), S3_cn l (fun c hc => h c (by simp [hc])), volL]
theorem cn_app : ∀ (l m : List S25) (x y z : Int), cn (l ++ m) x y z = cn l x y z + cn m x y z
  | [], m, x, y, z => by simp [cn]
  | b :: l, m, x, y, z => by rw [List.cons_append, cn, cn, cn_app l m]; omega
theorem cn_nonneg : ∀ (l : List S25) (x y z : Int), 0 ≤ cn l x y z
  | [], _, _, _ => Int.le_refl _
  | b :: l, x, y, z => by rw [cn]; have := ind_nonneg (hasB b x y z); have := cn_nonneg l x y z; omega
def anyB (l : List S25) (x y z : Int) : Bool := l.any fun b => hasB b x y z
theorem cn_pos : ∀ (l : List S25) (x y z : Int), anyB l x y z = true ↔ 0 < cn l x y z
  | [], _, _, _ => by simp [anyB, cn]
  | b :: l, x, y, z => by
    have h := cn_pos l x y z
    have h2 := cn_nonneg l x y z
    unfold anyB at h ⊢
    rw [List.any_cons, cn, Bool.or_eq_true, h]
    unfold ind
    split
    · simp [*]; omega
    · simp [*]
theorem cn_pt (k : Nat) (l0 l1 l2 l3 l4 l5 lo hi : Int) (hk : k < 3) (x y z : Int) : cn (pt k l0 l1 l2 l3 l4 l5 lo hi) x y z = ind (hasB (nb k l0 l1 l2 l3 l4 l5 lo hi) x y z) := by
  unfold pt
  by_cases h : lo < hi
  · rw [if_pos h]; simp [cn]
  · rw [if_neg h]
    have : hasB (nb k l0 l1 l2 l3 l4 l5 lo hi) x y z = false := by
      rw [← Bool.not_eq_true, hasB_is]
      simp only [Bool.and_eq_true, inI_iff]
      rcases k with _ | _ | _ | k
      · simp [nb]; omega
      · simp [nb]; omega
      · simp [nb]; omega
      · omega
    rw [this]; rfl
theorem six_key : ∀ i0 i1 i2 a0 b0 a1 b1 a2 b2 : Bool, (a0 && b0) = false → (a1 && b1) = false → (a2 && b2) = false →
    ind ((i2 && a2) && (i1 && i0)) + ind ((i2 && b2) && (i1 && i0)) + ind ((i2 && (!a2 && !b2)) && ((i1 && a1) && i0)) + ind ((i2 && (!a2 && !b2)) && ((i1 && b1) && i0)) + ind ((i2 && (!a2 && !b2)) && ((i1 && (!a1 && !b1)) && (i0 && a0))) + ind ((i2 && (!a2 && !b2)) && ((i1 && (!a1 && !b1)) && (i0 && b0))) = ind ((i2 && (i1 && i0)) && !((!a2 && !b2) && ((!a1 && !b1) && (!a0 && !b0)))) := by decide +kernel
theorem inI_lo (a b c i : Int) (h : mx a c < b) : inI a (mx a c) i = (inI a b i && decide (i < c)) := by
  rw [Bool.eq_iff_iff, Bool.and_eq_true, inI_iff, inI_iff, decide_eq_true_eq, lt_mx]; rw [mx_lt] at h; omega
theorem inI_hi (a b c i : Int) (h : a < mn b c) : inI (mn b c) b i = (inI a b i && decide (c ≤ i)) := by
  rw [Bool.eq_iff_iff, Bool.and_eq_true, inI_iff, inI_iff, decide_eq_true_eq, mn_le]; rw [lt_mn] at h; omega
theorem inI_mid (a b c d i : Int) : inI (mx a c) (mn b d) i = (inI a b i && (!decide (i < c) && !decide (d ≤ i))) := by
  rw [Bool.eq_iff_iff, Bool.and_eq_true, Bool.and_eq_true, inI_iff, inI_iff, Bool.not_eq_true', Bool.not_eq_true', decide_eq_false_iff_not, decide_eq_false_iff_not, mx_le, lt_mn]; omega
theorem inI_y (c d i : Int) : inI c d i = (!decide (i < c) && !decide (d ≤ i)) := by
  rw [Bool.eq_iff_iff, Bool.and_eq_true, inI_iff, Bool.not_eq_true', Bool.not_eq_true', decide_eq_false_iff_not, decide_eq_false_iff_not]; omega
theorem nb_0 (l0 l1 l2 l3 l4 l5 lo hi : Int) : nb 0 l0 l1 l2 l3 l4 l5 lo hi = ⟨⟨lo, l2, l4⟩, ⟨hi, l3, l5⟩⟩ := rfl
theorem nb_1 (l0 l1 l2 l3 l4 l5 lo hi : Int) : nb 1 l0 l1 l2 l3 l4 l5 lo hi = ⟨⟨l0, lo, l4⟩, ⟨l1, hi, l5⟩⟩ := rfl
theorem nb_2 (l0 l1 l2 l3 l4 l5 lo hi : Int) : nb 2 l0 l1 l2 l3 l4 l5 lo hi = ⟨⟨l0, l2, lo⟩, ⟨l1, l3, hi⟩⟩ := rfl
theorem cn_sub (a b : S25) (x y z : Int) : cn (sub a b) x y z = ind (hasB a x y z && !hasB b x y z) := by
  unfold sub
  by_cases ho : ovB a b = true
  · rw [if_pos ho]
    obtain ⟨o0, o1, o2⟩ := (ov_iff a b).1 ho
    have p0 := mx_lt.1 (Int.lt_of_lt_of_le o0 (le_mn.1 (Int.le_refl _)).1)
    unfold subt
    simp only [cn_app, cn, cn_pt _ _ _ _ _ _ _ _ _ (show 0 < 3 by omega), cn_pt _ _ _ _ _ _ _ _ _ (show 1 < 3 by omega), cn_pt _ _ _ _ _ _ _ _ _ (show 2 < 3 by omega)]
    have q0 : mx a.f0.f0 b.f0.f0 < a.f1.f0 := (lt_mn.1 o0).1
    have q1 : mx a.f0.f1 b.f0.f1 < a.f1.f1 := (lt_mn.1 o1).1
    have q2 : mx a.f0.f2 b.f0.f2 < a.f1.f2 := (lt_mn.1 o2).1
    have r0 : a.f0.f0 < mn a.f1.f0 b.f1.f0 := (mx_lt.1 o0).1
    have r1 : a.f0.f1 < mn a.f1.f1 b.f1.f1 := (mx_lt.1 o1).1
    have r2 : a.f0.f2 < mn a.f1.f2 b.f1.f2 := (mx_lt.1 o2).1
    have s0 : b.f0.f0 < b.f1.f0 := (lt_mn.1 (mx_lt.1 o0).2).2
    have s1 : b.f0.f1 < b.f1.f1 := (lt_mn.1 (mx_lt.1 o1).2).2
    have s2 : b.f0.f2 < b.f1.f2 := (lt_mn.1 (mx_lt.1 o2).2).2
    have ex : ∀ c d i : Int, c < d → (decide (i < c) && decide (d ≤ i)) = false := fun c d i h => by
      rw [Bool.and_eq_false_imp, decide_eq_true_eq, decide_eq_false_iff_not]; omega
    have key := six_key (inI a.f0.f0 a.f1.f0 x) (inI a.f0.f1 a.f1.f1 y) (inI a.f0.f2 a.f1.f2 z) _ _ _ _ _ _ (ex _ _ x s0) (ex _ _ y s1) (ex _ _ z s2)
    simp only [hasB_is, nb_0, nb_1, nb_2, inI_lo _ _ _ _ q0, inI_lo _ _ _ _ q1, inI_lo _ _ _ _ q2, inI_hi _ _ _ _ r0, inI_hi _ _ _ _ r1, inI_hi _ _ _ _ r2, inI_mid, inI_y b.f0.f0, inI_y b.f0.f1, inI_y b.f0.f2]
    rw [← key]
    simp
  · rw [if_neg ho]
    have : (hasB a x y z && !hasB b x y z) = hasB a x y z := by
      cases h : hasB a x y z with
      | false => rfl
      | true =>
        cases h2 : hasB b x y z with
        | false => rfl
        | true =>
          exfalso
          apply ho
          rw [ov_iff, mx_lt, mx_lt, mx_lt, lt_mn, lt_mn, lt_mn, lt_mn, lt_mn, lt_mn]
          unfold hasB at h h2
          rw [decide_eq_true_eq] at h h2
          omega
    rw [this]; simp [cn]
theorem cn_flat (c : S25) : ∀ (l : List S25) (x y z : Int), cn (l.flatMap (fun b => sub b c)) x y z = if hasB c x y z = true then 0 else cn l x y z
  | [], x, y, z => by simp [cn]
  | b :: l, x, y, z => by
    rw [List.flatMap_cons, cn_app, cn_flat c l, cn_sub, cn]
    by_cases h : hasB c x y z = true
    · rw [if_pos h, if_pos h, h]; simp [ind]
    · rw [if_neg h, if_neg h]; simp at h; rw [h]; simp
theorem cn_rest : ∀ (l out : List S25) (x y z : Int), (restL l out).2 = 0 → cn (restL l out).1 x y z = if anyB l x y z = true then 0 else cn out x y z
  | [], out, x, y, z, _ => by simp [restL, anyB]
  | c :: l, out, x, y, z, h => by
    rw [restL] at h ⊢
    by_cases hc : (out.flatMap (fun z => sub z c)).length > 4096
    · rw [if_pos hc] at h; cases h
    · rw [if_neg hc] at h ⊢
      rw [cn_rest l _ x y z h, cn_flat]
      unfold anyB
      rw [List.any_cons]
      by_cases h1 : (l.any fun b => hasB b x y z) = true
      · simp [h1]
      · simp at h1
        by_cases h2 : hasB c x y z = true
        · simp [h2]
        · simp [h1, h2]
theorem restL_V : ∀ (l out : List S25), (∀ b ∈ l, V b) → (∀ b ∈ out, V b) → ∀ b ∈ (restL l out).1, V b
  | [], out, _, h => h
  | c :: l, out, hl, h => by
    rw [restL]
    split
    · intro b hb; cases hb
    · exact restL_V l _ (fun b hb => hl b (by simp [hb])) (flat_V out c (hl c (by simp)) h)
theorem restL_snd : ∀ (l out : List S25), (restL l out).2 = 0 ∨ (restL l out) = ([], 7)
  | [], out => Or.inl rfl
  | c :: l, out => by
    rw [restL]
    split
    · exact Or.inr rfl
    · exact restL_snd l _
end Go.Proofs.Ytmmdikhmlmoolaa.Bx
