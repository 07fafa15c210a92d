import Derived.Test.YtkeomlmlimkebaaZRp3
import Derived.Test.YtkeomlmlimkebaaZQAx4
import Derived.Test.YtkeomlmlimkebaaZQAx3
namespace Go.Proofs.Ytkeomlmlimkebaa.Rq
open Go.RowKit Go.Proofs.Ytkeomlmlimkebaa.QA Go.Proofs.YtkeomlmlimkebaaW.PrintWords Go.Proofs.Ytkeomlmlimkebaa.EvKit Go.Proofs.Ytkeomlmlimkebaa.MapKit
set_option linter.unusedVariables false
set_option linter.unusedSimpArgs false
def toS (e : Int × Int × Int) : S52 := ⟨e.1, e.2.1, e.2.2⟩
theorem repair_sim (uses : List Int) (M : List (Int × Int)) (stone : Int) (hU : ∀ u ∈ uses, -1 ≤ u ∧ u ≤ 64) : ∀ (m k : Nat) (x : Int) (acc R : List (Int × Int × Int)), Rp.upS uses M stone m x acc = some R → m ≤ k → acc.length + m < 1000000 → -1 ≤ x → x ≤ 64 →
    replace_repair.l0 k M uses stone x (acc.map toS) = some (R.map toS)
  | 0, k, x, acc, R, h, _, _, _, _ => by simp [Rp.upS] at h
  | m + 1, 0, x, acc, R, h, hk, _, _, _ => by omega
  | m + 1, k + 1, x, acc, R, h, hk, ha, h1, h2 => by
    have e0 : Rp.mgetR M x = mget M x := rfl
    unfold Rp.upS at h
    rw [e0] at h
    unfold replace_repair.l0
    by_cases c1 : 0 ≤ (mget M x).getD 0
    · rw [if_pos c1] at h
      by_cases c2 : (mget M x).getD 0 < (uses.length : Int)
      · rw [if_pos c2] at h
        rw [if_pos (by omega), if_pos (by omega), if_pos c1, if_pos c2, if_pos (by rw [List.length_map]; omega)]
        have em : ((acc ++ [((mget M x).getD 0, uses.getD ((mget M x).getD 0).toNat 0, x)]).map toS) = acc.map toS ++ [(⟨(mget M x).getD 0, rd uses ((mget M x).getD 0), x⟩ : S52)] := by
          rw [List.map_append]; rfl
        by_cases c3 : (mget M x).getD 0 = stone
        · rw [if_pos c3] at h ⊢
          rw [← em, ← List.map_reverse, Option.some.inj h]
        · rw [if_neg c3] at h ⊢
          rw [← em]
          have hu : -1 ≤ uses.getD ((mget M x).getD 0).toNat 0 ∧ uses.getD ((mget M x).getD 0).toNat 0 ≤ 64 := by
            rw [List.getD_eq_getElem?_getD]
            cases e : uses[((mget M x).getD 0).toNat]? with
            | none => simp
            | some u => exact hU u (List.mem_of_getElem? e)
          exact repair_sim uses M stone hU m k _ _ R h (by omega) (by simp; omega) hu.1 hu.2
      · rw [if_neg c2] at h; cases h
    · rw [if_neg c1] at h; cases h
theorem l1_zero {fits : List (List Int)} {uses : List Int} {fixed : List Bool} {stone s a : Int} {M : List (Int × Int)} {q p : List Int} (k i : Nat) (hi : (rd_L1 fits s).length ≤ i) : replace_search.l1 (k + 1) fits uses fixed stone M q p a s (i : Int) = replace_search.l0 k fits uses fixed stone M q p (wrap64 (a + 1)) := by
  rw [replace_search.l1, if_neg (by omega)]
theorem l1_succ {fits : List (List Int)} {uses : List Int} {fixed : List Bool} {stone s a : Int} {M : List (Int × Int)} {q p : List Int} (k i : Nat) (hi : i < (rd_L1 fits s).length) (hl : i < 1000000) {x : Int} (hx : (rd_L1 fits s).getD i 0 = x) (h0 : 0 ≤ x) (h1 : x ≤ 64) (hm : M.length < 1000000) (hp : p.length < 1000000) (hq : q.length < 1000000) :
    replace_search.l1 (k + 1) fits uses fixed stone M q p a s (i : Int) =
      if (mget M x).isSome = true then replace_search.l1 k fits uses fixed stone M q p a s ((i + 1 : Nat) : Int)
      else if idxI uses x < 0 then (replace_repair.f k uses (M ++ [(x, s)]) x stone).bind fun L => some (.inl L)
      else if idxI uses x < (fixed.length : Int) then
        (if fixed.getD (idxI uses x).toNat false = true then replace_search.l1 k fits uses fixed stone (M ++ [(x, s)]) q (p ++ [x]) a s ((i + 1 : Nat) : Int)
         else replace_search.l1 k fits uses fixed stone (M ++ [(x, s)]) (q ++ [idxI uses x]) (p ++ [x]) a s ((i + 1 : Nat) : Int))
      else none := by
  have e : wrap64 ((i : Int) + 1) = ((i + 1 : Nat) : Int) := nxt64 (by omega)
  rw [replace_search.l1, if_pos (show (i : Int) < ((rd_L1 fits s).length : Int) by omega), if_pos (show (0 : Int) ≤ (i : Int) by omega), rdN, hx, e,
    if_pos (show -9223372036854775808 ≤ x by omega), if_pos (show x ≤ 9223372036854775807 by omega), if_pos hm, if_pos hp, if_pos hq]
def ScanOk (fits : List (List Int)) (uses : List Int) (fixed : List Bool) (stone s a : Int) (n k : Nat) (lhs : Option (Sum (List S52) (List Int × List Int))) : Option (Sum (Int × List (Int × Int)) Rp.St) → Prop
  | none => True
  | some (.inl (x, m')) => ∀ K R, (∀ k', K ≤ k' → replace_repair.f k' uses m' x stone = some R) → K + n + 1 ≤ k → lhs = some (.inl R)
  | some (.inr t') => ∃ k', k ≤ k' + n + 1 ∧ t'.m.length + k' ≤ 100000 ∧ t'.p.length + k' ≤ 100000 ∧ t'.q.length + k' ≤ 100001 ∧ lhs = replace_search.l0 k' fits uses fixed stone t'.m t'.q t'.p (wrap64 (a + 1))
theorem ScanOk.succ {fits : List (List Int)} {uses : List Int} {fixed : List Bool} {stone s a : Int} {n k : Nat} {lhs : Option (Sum (List S52) (List Int × List Int))} {r : Option (Sum (Int × List (Int × Int)) Rp.St)} (h : ScanOk fits uses fixed stone s a n k lhs r) : ScanOk fits uses fixed stone s a (n + 1) (k + 1) lhs r := by
  cases r with
  | none => trivial
  | some r =>
    rcases r with ⟨y, m'⟩ | t'
    · intro K R h1 h2
      exact h K R h1 (by omega)
    · obtain ⟨k', h1, h2, h3, h4, h5⟩ := h
      exact ⟨k', by omega, h2, h3, h4, h5⟩
theorem scan_sim {fits : List (List Int)} {uses : List Int} {fixed : List Bool} {stone s : Int} {a : Int} (hrow : ∀ x ∈ rd_L1 fits s, 0 ≤ x ∧ x ≤ 64) : ∀ (n i k : Nat) (t : Rp.St), (rd_L1 fits s).length = i + n → i + n < 1000000 → n + 1 ≤ k → t.m.length + k ≤ 100000 → t.p.length + k ≤ 100000 → t.q.length + k ≤ 100001 →
    ScanOk fits uses fixed stone s a n k (replace_search.l1 k fits uses fixed stone t.m t.q t.p a s (i : Int)) (Rp.scanS uses fixed s ((rd_L1 fits s).drop i) t) := by
  intro n
  induction n with
  | zero =>
    intro i k t hi hi2 hk hm hp hq
    rw [List.drop_of_length_le (by omega)]
    obtain ⟨k, rfl⟩ : ∃ k', k = k' + 1 := ⟨k - 1, by omega⟩
    exact ⟨k, by omega, by omega, by omega, by omega, l1_zero k i (by omega)⟩
  | succ n ih =>
    intro i k t hi hi2 hk hm hp hq
    obtain ⟨k, rfl⟩ : ∃ k', k = k' + 1 := ⟨k - 1, by omega⟩
    have hx : (rd_L1 fits s).getD i 0 ∈ rd_L1 fits s := by
      rw [List.getD_eq_getElem?_getD, List.getElem?_eq_getElem (show i < (rd_L1 fits s).length by omega)]
      exact List.getElem_mem _
    obtain ⟨h0, h1⟩ := hrow _ hx
    rw [drop_cons _ i 0 (by omega), l1_succ k i (by omega) (by omega) rfl h0 h1 (by omega) (by omega) (by omega)]
    clear hx
    generalize (rd_L1 fits s).getD i 0 = x at h0 h1 ⊢
    show ScanOk fits uses fixed stone s a (n + 1) (k + 1) _ (if (mget t.m x).isSome then _ else if idxI uses x < 0 then _ else if idxI uses x < fixed.length then (if _ then _ else _) else _)
    by_cases c1 : (mget t.m x).isSome = true
    · rw [if_pos c1, if_pos c1]
      exact (ih (i + 1) k t (by omega) (by omega) (by omega) (by omega) (by omega) (by omega)).succ
    · rw [if_neg c1, if_neg c1]
      by_cases c2 : idxI uses x < 0
      · rw [if_pos c2, if_pos c2]
        intro K R h1 h2
        rw [h1 k (by omega)]; rfl
      · rw [if_neg c2, if_neg c2]
        by_cases c3 : idxI uses x < (fixed.length : Int)
        · rw [if_pos c3, if_pos c3]
          by_cases c4 : fixed.getD (idxI uses x).toNat false = true
          · rw [if_pos c4]
            have c4' : fixed.getD (Rp.idxI uses x).toNat false = true := c4
            rw [if_pos c4']
            exact (ih (i + 1) k ⟨t.m ++ [(x, s)], t.q, t.p ++ [x]⟩ (by omega) (by omega) (by omega) (by simp; omega) (by simp; omega) (by show t.q.length + k ≤ _; omega)).succ
          · rw [if_neg c4]
            have c4' : ¬ fixed.getD (Rp.idxI uses x).toNat false = true := c4
            rw [if_neg c4']
            exact (ih (i + 1) k ⟨t.m ++ [(x, s)], t.q ++ [idxI uses x], t.p ++ [x]⟩ (by omega) (by omega) (by omega) (by simp; omega) (by simp; omega) (by simp; omega)).succ
        · rw [if_neg c3, if_neg c3]; trivial
theorem bfs_sim {fits : List (List Int)} {uses : List Int} {fixed : List Bool} {stone : Int} (hrow : ∀ s, ∀ x ∈ rd_L1 fits s, 0 ≤ x ∧ x ≤ 64) (hlen : ∀ s, (rd_L1 fits s).length ≤ 64) : ∀ (m a k : Nat) (t : Rp.St) (r : Sum (Int × List (Int × Int)) Rp.St), Rp.bfsS fits uses fixed m a t = some r → a + m < 1000000 → m * 66 + 100 ≤ k → t.m.length + k ≤ 100000 → t.p.length + k ≤ 100000 → t.q.length + k ≤ 100001 →
    match r with
    | .inl (x, m') => ∀ R, (∀ k', 100 ≤ k' → replace_repair.f k' uses m' x stone = some R) → replace_search.l0 k fits uses fixed stone t.m t.q t.p (a : Int) = some (.inl R)
    | .inr t' => replace_search.l0 k fits uses fixed stone t.m t.q t.p (a : Int) = some (.inr (insL t'.q, insL t'.p)) := by
  intro m
  induction m with
  | zero => intro a k t r h; simp [Rp.bfsS] at h
  | succ m ih =>
    intro a k t r h ha hk hm hp hq
    obtain ⟨k, rfl⟩ : ∃ k', k = k' + 1 := ⟨k - 1, by omega⟩
    have b1 : a + 1 + m < 1000000 := by omega
    have b2 : ∀ k' nn, k ≤ k' + nn + 1 → nn ≤ 64 → m * 66 + 100 ≤ k' := by intro k' nn h1 h2; omega
    have b3 : ∀ nn, nn ≤ 64 → 100 + nn + 1 ≤ k := by intro nn h2; omega
    have b4 : wrap64 ((a : Int) + 1) = ((a + 1 : Nat) : Int) := nxt64 (by omega)
    have b5 : ∀ nn, nn ≤ 64 → 0 + nn < 1000000 ∧ nn + 1 ≤ k := by intro nn h2; omega
    have b6 : t.m.length + k ≤ 100000 ∧ t.p.length + k ≤ 100000 ∧ t.q.length + k ≤ 100001 := by omega
    have b7 : t.q.length < 1099511627776 ∧ t.p.length < 1099511627776 := by omega
    clear hk hm hp hq ha
    unfold Rp.bfsS at h
    rw [replace_search.l0]
    by_cases c1 : a < t.q.length
    · rw [if_pos c1] at h
      rw [if_pos (show (a : Int) < (t.q.length : Int) by omega), if_pos (show (0 : Int) ≤ (a : Int) by omega), rdN]
      by_cases c2 : 0 ≤ t.q.getD a 0
      · rw [if_pos c2] at h ⊢
        by_cases c3 : t.q.getD a 0 < (fits.length : Int)
        · rw [if_pos c3] at h ⊢
          have hl := hlen (t.q.getD a 0)
          have hsc := scan_sim (uses := uses) (fixed := fixed) (stone := stone) (a := (a : Int)) (hrow (t.q.getD a 0)) (rd_L1 fits (t.q.getD a 0)).length 0 k t (Nat.zero_add _).symm (b5 _ hl).1 (b5 _ hl).2 b6.1 b6.2.1 b6.2.2
          rw [List.drop_zero] at hsc
          have er : fits.getD (t.q.getD a 0).toNat [] = rd_L1 fits (t.q.getD a 0) := rfl
          rw [er] at h
          generalize (rd_L1 fits (t.q.getD a 0)).length = nn at hl hsc
          generalize Rp.scanS uses fixed (t.q.getD a 0) (rd_L1 fits (t.q.getD a 0)) t = sr at h hsc
          have e0 : ((0 : Nat) : Int) = 0 := rfl
          rw [e0] at hsc
          generalize replace_search.l1 k fits uses fixed stone t.m t.q t.p (a : Int) (t.q.getD a 0) 0 = lhs at hsc ⊢
          cases sr with
          | none => cases h
          | some r1 =>
            rcases r1 with ⟨y, m'⟩ | t'
            · obtain rfl := Option.some.inj h
              intro R hR
              have hsc' : ∀ K R, (∀ k', K ≤ k' → replace_repair.f k' uses m' y stone = some R) → K + nn + 1 ≤ k → lhs = some (.inl R) := hsc
              exact hsc' 100 R hR (b3 _ hl)
            · obtain ⟨k', h1, h2, h3, h4, h5⟩ := hsc
              rw [h5, b4]
              exact ih (a + 1) k' t' r h b1 (b2 _ _ h1 hl) h2 h3 h4
        · rw [if_neg c3] at h; cases h
      · rw [if_neg c2] at h; cases h
    · rw [if_neg c1] at h
      obtain rfl := Option.some.inj h
      rw [if_neg (by omega)]
      unfold slices_Sort_int_int.f
      show ((if t.q.length < 1099511627776 then some (insL t.q) else none).bind fun q' => (if t.p.length < 1099511627776 then some (insL t.p) else none).bind fun p' => some (Sum.inr (q', p'))) = _
      rw [if_pos b7.1, if_pos b7.2]
      rfl
end Go.Proofs.Ytkeomlmlimkebaa.Rq
