/-
  BoxVolumes: volumes add up.
-/
import Derived.Test.YtmmdikhmlmoolaaZBxC
import Derived.Test.YtmmdikhmlmoolaaZQAx33
namespace Go.Proofs.Ytmmdikhmlmoolaa.Pure
open Go.RowKit Go.Proofs.Ytmmdikhmlmoolaa.QA Go.Proofs.YtmmdikhmlmoolaaW.PrintWords Go.Proofs.Ytmmdikhmlmoolaa.EvKit Go.Proofs.Ytmmdikhmlmoolaa.Bx
set_option linter.unusedVariables false
set_option linter.unusedSimpArgs false
theorem two_V (x y : S25) (hx : V x) (hy : V y) : two x y = 0 := by unfold two; rw [if_pos ((chk0 x).2 hx)]; exact (chk0 y).2 hy
/-- The volume of what two boxes have in common. -/
def comV (x y : S25) : Int := if ovB x y = true then volS (com x y) else 0
theorem comV_is (x y : S25) (hx : V x) (hy : V y) : comV x y = S3 fun p q r => ind (hasB x p q r && hasB y p q r) := by
  unfold comV
  by_cases h : ovB x y = true
  · rw [if_pos h, ← S3_has _ (com_V x y hx hy h)]
    exact S3_congr fun p q r => by rw [com_has]
  · rw [if_neg h, ← S3_zero]
    exact S3_congr fun p q r => by
      have : (hasB x p q r && hasB y p q r) = false := by
        rw [← Bool.not_eq_true, Bool.and_eq_true]
        rintro ⟨h1, h2⟩
        exact h (ov_has x y p q r h1 h2)
      rw [this]; rfl
theorem sub_vol (x y : S25) (hx : V x) (hy : V y) : volL (sub x y) + comV x y = volS x := by
  rw [← S3_cn _ (sub_V x y hx hy), comV_is x y hx hy, ← S3_has x hx, ← S3_add]
  refine S3_congr fun p q r => ?_
  rw [cn_sub]
  cases hasB x p q r <;> cases hasB y p q r <;> rfl
theorem volL_nonneg : ∀ l : List S25, (∀ b ∈ l, V b) → 0 ≤ volL l
  | [], _ => Int.le_refl _
  | b :: l, h => by
    have h1 := (volume_is b (h b (by simp))).2.1
    have h2 := volL_nonneg l (fun c hc => h c (by simp [hc]))
    rw [volL]; omega
theorem comV_nonneg (x y : S25) (hx : V x) (hy : V y) : 0 ≤ comV x y := by
  unfold comV
  split
  · rename_i h; exact Int.le_of_lt (volume_is _ (com_V x y hx hy h)).2.1
  · exact Int.le_refl _
/-- What a list has in common with a box. -/
def insS (a : S25) (l : List S25) : List S25 := (l.filter fun c => ovB a c).map (com a)
theorem insS_V (a : S25) (l : List S25) (ha : V a) (hl : ∀ c ∈ l, V c) : ∀ c ∈ insS a l, V c := by
  intro c hc
  obtain ⟨d, hd, rfl⟩ := List.mem_map.1 hc
  obtain ⟨hd, ho⟩ := List.mem_filter.1 hd
  exact com_V a d ha (hl d hd) ho
theorem insS_len (a : S25) (l : List S25) : (insS a l).length ≤ l.length := by
  unfold insS; rw [List.length_map]; exact List.length_filter_le _ _
theorem insS_any (a : S25) : ∀ (l : List S25) (x y z : Int), Bx.anyB (insS a l) x y z = (hasB a x y z && Bx.anyB l x y z)
  | [], x, y, z => by simp [insS, Bx.anyB]
  | c :: l, x, y, z => by
    have ih := insS_any a l x y z
    have e : Bx.anyB (c :: l) x y z = (hasB c x y z || Bx.anyB l x y z) := rfl
    rw [e]
    by_cases ho : ovB a c = true
    · have e2 : insS a (c :: l) = com a c :: insS a l := by unfold insS; rw [List.filter_cons_of_pos ho, List.map_cons]
      have e3 : Bx.anyB (com a c :: insS a l) x y z = (hasB (com a c) x y z || Bx.anyB (insS a l) x y z) := rfl
      rw [e2, e3, ih, com_has, Bool.and_or_distrib_left]
    · have e2 : insS a (c :: l) = insS a l := by unfold insS; rw [List.filter_cons_of_neg (by simpa using ho)]
      rw [e2, ih]
      cases ha : hasB a x y z with
      | false => rfl
      | true =>
        cases hc : hasB c x y z with
        | false => rfl
        | true => exact absurd (ov_has a c x y z ha hc) ho
theorem rest_any (a : S25) (l : List S25) (h : (restL l [a]).2 = 0) (x y z : Int) : Bx.anyB (restL l [a]).1 x y z = (hasB a x y z && !Bx.anyB l x y z) := by
  have hc := cn_rest l [a] x y z h
  rw [Bool.eq_iff_iff, cn_pos, hc]
  cases h1 : Bx.anyB l x y z with
  | true => simp
  | false =>
    cases h2 : hasB a x y z with
    | true => simp [cn, h2, ind]
    | false => simp [cn, h2, ind]
theorem fill (a : S25) (l : List S25) (ha : V a) (h : (restL l [a]).2 = 0) : uni (insS a l) + uni (restL l [a]).1 = volS a := by
  unfold uni
  rw [← S3_has a ha, ← S3_add]
  refine S3_congr fun x y z => ?_
  rw [insS_any, rest_any a l h]
  cases hasB a x y z <;> cases Bx.anyB l x y z <;> rfl
/-- What is asked once the list has been gone through. -/
theorem vol_fin (a : S25) (l : List S25) (ha : V a) (hV : ∀ c ∈ l, V c) (hl : l.length ≤ 6) : Ev (fun k => (box_Rest.f k a.f0.f0 a.f0.f1 a.f0.f2 a.f1.f0 a.f1.f1 a.f1.f2 l).bind fun bt789 => ((box_Total.f k (insS a l)).bind fun bt793 => ((box_Total.f k bt789.1).bind fun bt795 => (if bt789.2 = 7 then (some true) else (if bt795.2 = 7 then (some true) else ((box_Clash.f k bt789.1).bind fun bt797 => (if bt789.2 = 0 then (if bt793.2 = 0 then (if bt795.2 = 0 then (if (wrap64 (bt793.1 + bt795.1)) = volS a then (some (bt797.2.2 == 9)) else (some false)) else (some false)) else (some false)) else (some false)))))))) true := by
  have hm : manyS a l = 0 := by
    unfold manyS
    rw [if_neg (by omega), if_pos ((chk0 a).2 ha)]
    exact (chkL_0 l).2 hV
  have hr : restS a l = restL l [a] := by unfold restS; rw [if_pos hm]
  have hi := insS_len a l
  refine Ev.bind (rest_ev a l (by omega)) (Ev.bind (tot_ev (insS a l) (by omega)) ?_)
  rw [hr]
  have hlen := restL_len l [a] (by simp)
  refine Ev.bind (tot_ev (restL l [a]).1 (by omega)) ?_
  rcases restL_snd l [a] with h0 | h7
  rotate_left
  · rw [h7]; exact Ev.pos rfl (Ev.now _)
  have hrV := restL_V l [a] hV (by simpa using ha)
  refine Ev.neg (by rw [h0]; decide) (Ev.ite (fun _ => Ev.now _) (fun h => ?_))
  have mI : manyN (insS a l) = 0 := by
    unfold manyN
    rw [if_neg (by omega)]
    exact (chkL_0 _).2 (insS_V a l ha hV)
  have mR : manyN (restL l [a]).1 = 0 := by
    have h2 : manyN (restL l [a]).1 ≠ 7 := fun e => by
      apply h
      unfold totS
      rw [if_neg (by rw [e]; decide)]
      exact e
    unfold manyN at h2 ⊢
    by_cases h3 : (restL l [a]).1.length > 256
    · rw [if_pos h3] at h2; exact absurd rfl h2
    · rw [if_neg h3]; exact (chkL_0 _).2 hrV
  have tI : totS (insS a l) = (uni (insS a l), 0) := by unfold totS; rw [if_pos mI]
  have tR : totS (restL l [a]).1 = (uni (restL l [a]).1, 0) := by unfold totS; rw [if_pos mR]
  have cl : clashS (restL l [a]).1 = (0, 0, 9) := by
    have hp : pairO 0 (restL l [a]).1 = none := pairO_none _ 0 hrV (fun x y z => by
      rw [cn_rest l [a] x y z h0]
      have := ind_le (hasB a x y z)
      by_cases hb : Bx.anyB l x y z = true
      · rw [if_pos hb]; omega
      · rw [if_neg hb]; simp only [cn]; omega)
    unfold clashS
    rw [if_pos mR, hp]
  rw [tI, tR]
  refine Ev.bind (Clash_ev (restL l [a]).1 (by omega)) ?_
  rw [cl]
  have hf := fill a l ha h0
  have hv := (volume_is a ha).2
  refine Ev.pos h0 (Ev.pos rfl (Ev.pos rfl (Ev.pos ?_ (Ev.eq (Ev.now _) rfl))))
  show wrap64 (uni (insS a l) + uni (restL l [a]).1) = volS a
  rw [hf]
  exact w64 (by omega) (by omega)
theorem vol_l1 (a : S25) (l : List S25) (ha : V a) (hl : l.length ≤ 6) : ∀ m i acc, l.length = i + m → (∀ c ∈ l.take i, V c) → acc = insS a (l.take i) → Ev (fun k => w_BoxVolumes.l1 k l (volS a) acc (i : Int) a.f0.f0 a.f0.f1 a.f0.f2 a.f1.f0 a.f1.f1 a.f1.f2) true := by
  intro m
  induction m with
  | zero =>
    intro i acc hi hV he
    rw [List.take_of_length_le (by omega)] at hV he
    subst he
    refine Ev.succ ?_
    simp only [w_BoxVolumes.l1]
    exact Ev.neg (by omega) (vol_fin a l ha hV hl)
  | succ m ih =>
    intro i acc hi hV he
    have htake : l.take (i + 1) = l.take i ++ [l.getD i z25] := by
      rw [List.take_add_one, List.getElem?_eq_getElem (by omega), List.getD_eq_getElem?_getD, List.getElem?_eq_getElem (by omega)]
      rfl
    refine Ev.succ ?_
    simp only [w_BoxVolumes.l1]
    rw [rdN, stp (i := i) (by omega)]
    refine Ev.pos (by omega) (Ev.pos (by omega) (Ev.cbind (check_is _) ?_))
    by_cases hc : chk (l.getD i z25) = 0
    rotate_left
    · exact Ev.neg hc (Ev.now _)
    have hv := (chk0 _).1 hc
    have hV2 : ∀ c ∈ l.take (i + 1), V c := by
      rw [htake]
      intro c hcm
      rcases List.mem_append.1 hcm with h | h
      · exact hV c h
      · rw [List.mem_singleton.1 h]; exact hv
    have hj5 : ∀ acc2, acc2 = insS a (l.take (i + 1)) → Ev (fun k => w_BoxVolumes.l1 k l (volS a) acc2 ((i + 1 : Nat) : Int) a.f0.f0 a.f0.f1 a.f0.f2 a.f1.f0 a.f1.f1 a.f1.f2) true := fun acc2 he2 => ih (i + 1) acc2 (by omega) hV2 he2
    have hlenA : acc.length ≤ 6 := by
      rw [he]
      have := insS_len a (l.take i)
      have := List.length_take_le i l
      omega
    refine Ev.pos hc (Ev.bind (int_ev a _) ?_)
    have hI : intS a (l.getD i z25) = if ovB a (l.getD i z25) = true then ((com a (l.getD i z25)).f0.f0, (com a (l.getD i z25)).f0.f1, (com a (l.getD i z25)).f0.f2, (com a (l.getD i z25)).f1.f0, (com a (l.getD i z25)).f1.f1, (com a (l.getD i z25)).f1.f2, 0) else (0, 0, 0, 0, 0, 0, 9) := by unfold intS; rw [if_pos (two_V a _ ha hv)]
    rw [hI]
    by_cases ho : ovB a (l.getD i z25) = true
    · rw [if_pos ho]
      refine Ev.pos rfl (Ev.pos (by omega) (hj5 _ ?_))
      rw [htake, he]
      unfold insS
      rw [List.filter_append, List.map_append, List.filter_cons_of_pos ho]
      rfl
    · rw [if_neg ho]
      refine Ev.neg (by decide) (hj5 _ ?_)
      rw [htake, he]
      unfold insS
      rw [List.filter_append, List.filter_cons_of_neg (by simpa using ho)]
      simp
theorem vol_j2 (a : S25) (l : List S25) (ha : V a) (hl : l.length ≤ 6) : Ev (fun k => w_BoxVolumes.j2 k l (volS a) 0 0 (volS a) a.f0.f0 a.f0.f1 a.f0.f2 a.f1.f0 a.f1.f1 a.f1.f2) true := by
  refine Ev.succ ?_
  simp only [w_BoxVolumes.j2]
  rw [bne_self_eq_false]
  refine Ev.pos trivial (Ev.pos trivial (Ev.succ ?_))
  simp only [w_BoxVolumes.j3]
  exact Ev.neg (by decide) (vol_l1 a l ha hl l.length 0 [] (by omega) (by simp) rfl)
theorem vol_l0 (a b : S25) (l : List S25) (ha : V a) (hb : V b) (hl : l.length ≤ 6) (ps : List S25) (hps : ∀ c ∈ ps, V c) (hpl : ps.length ≤ 6) : ∀ m i (n : Int), ps.length = i + m → 0 ≤ n → n + volL (ps.drop i) + comV a b = volS a → Ev (fun k => w_BoxVolumes.l0 k l (volS a) 0 ps 0 n (i : Int) a.f0.f0 a.f0.f1 a.f0.f2 a.f1.f0 a.f1.f1 a.f1.f2 b.f0.f0 b.f0.f1 b.f0.f2 b.f1.f0 b.f1.f1 b.f1.f2) true := by
  have hva := (volume_is a ha).2
  intro m
  induction m with
  | zero =>
    intro i n hi h0 hn
    refine Ev.succ ?_
    simp only [w_BoxVolumes.l0]
    rw [List.drop_of_length_le (by omega), volL, Int.add_zero] at hn
    refine Ev.neg (by omega) (Ev.bind (int_ev a b) ?_)
    have hI : intS a b = if ovB a b = true then ((com a b).f0.f0, (com a b).f0.f1, (com a b).f0.f2, (com a b).f1.f0, (com a b).f1.f1, (com a b).f1.f2, 0) else (0, 0, 0, 0, 0, 0, 9) := by unfold intS; rw [if_pos (two_V a b ha hb)]
    rw [hI]
    unfold comV at hn
    by_cases ho : ovB a b = true
    · rw [if_pos ho] at hn ⊢
      have hv := com_V a b ha hb ho
      have h1 := (volume_is _ hv).2
      refine Ev.pos rfl (Ev.cbind (vol_is (com a b) hv) (Ev.pos rfl ?_))
      rw [w64 (n := n + volS (com a b)) (by omega) (by omega), hn]
      exact vol_j2 a l ha hl
    · rw [if_neg ho] at hn ⊢
      rw [Int.add_zero] at hn
      subst hn
      exact Ev.neg (by decide) (vol_j2 a l ha hl)
  | succ m ih =>
    intro i n hi h0 hn
    refine Ev.succ ?_
    simp only [w_BoxVolumes.l0]
    rw [drop_cons ps i z25 (by omega), volL] at hn
    rw [rdN, stp (i := i) (by omega)]
    have hv := hps _ (getD_mem (l := ps) (i := i) (by omega))
    have h1 := (volume_is _ hv).2
    have h2 := volL_nonneg (ps.drop (i + 1)) (fun c hc => hps c (List.mem_of_mem_drop hc))
    have h3 := comV_nonneg a b ha hb
    refine Ev.pos (by omega) (Ev.pos (by omega) (Ev.cbind (vol_is _ hv) (Ev.pos rfl ?_)))
    rw [w64 (n := n + volS (ps.getD i z25)) (by omega) (by omega)]
    exact ih (i + 1) _ (by omega) (by omega) (by omega)
theorem vol_j0 (a b : S25) (l : List S25) (hl : l.length ≤ 6) (ha : V a) (hb : V b) : Ev (fun k => w_BoxVolumes.j0 k l false a.f0.f0 a.f0.f1 a.f0.f2 a.f1.f0 a.f1.f1 a.f1.f2 b.f0.f0 b.f0.f1 b.f0.f2 b.f1.f0 b.f1.f1 b.f1.f2) true := by
  refine Ev.succ ?_
  simp only [w_BoxVolumes.j0]
  have hs := subtract_ev a b
  rw [if_pos (two_V a b ha hb)] at hs
  refine Ev.neg (by decide) (Ev.cbind (vol_is a ha) (Ev.bind hs ?_))
  exact vol_l0 a b l ha hb hl (sub a b) (sub_V a b ha hb) (sub_len a b) (sub a b).length 0 0 (by omega) (by omega) (by rw [List.drop_zero, Int.zero_add]; exact sub_vol a b ha hb)
theorem vol_j0t (l : List S25) (y0 y1 y2 y3 y4 y5 y6 y7 y8 y9 y10 y11 : Int) : Ev (fun k => w_BoxVolumes.j0 k l true y0 y1 y2 y3 y4 y5 y6 y7 y8 y9 y10 y11) true := by
  refine Ev.succ ?_
  simp only [w_BoxVolumes.j0]
  exact Ev.pos trivial (Ev.now _)
theorem volumes_true (a b : S25) (l : List S25) : Ev (fun k => w_BoxVolumes.f k a.f0.f0 a.f0.f1 a.f0.f2 a.f1.f0 a.f1.f1 a.f1.f2 b.f0.f0 b.f0.f1 b.f0.f2 b.f1.f0 b.f1.f1 b.f1.f2 l) true := by
  unfold w_BoxVolumes.f
  refine Ev.cbind rfl (Ev.pos rfl (Ev.ite (fun h => vol_j0t _ _ _ _ _ _ _ _ _ _ _ _ _) (fun h => Ev.cbind (check_is a) (Ev.ite (fun h2 => Ev.cbind (check_is b) ?_) (fun h2 => vol_j0t _ _ _ _ _ _ _ _ _ _ _ _ _)))))
  by_cases h3 : chk b = 0
  · rw [h3]
    exact vol_j0 a b l (by omega) ((chk0 a).1 h2) ((chk0 b).1 h3)
  · rw [show (chk b != 0) = true from by simpa using h3]
    exact vol_j0t _ _ _ _ _ _ _ _ _ _ _ _ _
theorem BoxVolumes : w_BoxVolumes.Pure := by
  intro a0 a1 a2 a3 a4 a5 b0 b1 b2 b3 b4 b5 l
  intros
  exact Ev.rounds (volumes_true ⟨⟨a0, a1, a2⟩, ⟨a3, a4, a5⟩⟩ ⟨⟨b0, b1, b2⟩, ⟨b3, b4, b5⟩⟩ l)
end Go.Proofs.Ytmmdikhmlmoolaa.Pure
