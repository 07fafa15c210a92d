import Derived.Test.YtcofgnbopodahaaKMdP
import Derived.Test.YtcofgnbopodahaaKQAx21
import Derived.Test.YtcofgnbopodahaaKQAx22
namespace Go.Proofs.Ytcofgnbopodahaa.Mp
open Go.RowKit Go.Proofs.Ytcofgnbopodahaa.QA Go.Proofs.YtcofgnbopodahaaW.PrintWords Go.Proofs.YtcofgnbopodahaaW.PrintLast Go.Proofs.YtcofgnbopodahaaW.PrintMore Go.Proofs.Ytcofgnbopodahaa.EvKit
set_option linter.unusedVariables false
set_option linter.unusedSimpArgs false
theorem twI (p : Int → Bool) : ∀ (l : List Int) (n : Nat), n ≤ l.length → (∀ x ∈ l.take n, p x = true) → (∀ h : n < l.length, p l[n] = false) → l.takeWhile p = l.take n ∧ l.dropWhile p = l.drop n
  | [], n, hn, _, _ => by simp at hn; subst hn; simp
  | a :: l, 0, _, _, h => by
    have := h (by simp)
    simp at this
    simp [this]
  | a :: l, n + 1, hn, h1, h2 => by
    have ha : p a = true := h1 a (by simp)
    obtain ⟨e1, e2⟩ := twI p l n (by simpa using hn) (fun x hx => h1 x (by simp [hx])) (fun h => h2 (Nat.succ_lt_succ h))
    simp [ha, e1, e2]
theorem rdI (l : List Int) (n : Nat) (h : n < l.length) : rd l (n : Int) = l[n] := by
  unfold rd
  rw [Int.toNat_natCast, List.getD_eq_getElem?_getD, List.getElem?_eq_getElem h]; rfl
section
variable {l : List Int} {n lo hi : Int}
theorem insI_end (hl : l.length < 1000000) (hp : l.Pairwise (· < ·)) (hc : ¬ (n ≤ lo ∨ n ≥ hi)) (m : Nat) (hm : m ≤ l.length) (h1 : ∀ y ∈ l.take m, y < n) (h2 : ∀ h : m < l.length, ¬ l[m] < n) :
    Ev (fun k => r_insert.j2 k l n (m : Int)) (Md.ins l n lo hi) := by
  have hst := twI (fun y => decide (y < n)) l m hm (fun y hy => decide_eq_true (h1 y hy)) (fun h => decide_eq_false (h2 h))
  have hput : n ∉ l → l.take m ++ [n] ++ l.drop m = Md.ins l n lo hi := fun h => by
    unfold Md.ins
    rw [if_neg (fun q => q.elim (fun a => hc (.inl a)) (fun q => q.elim (fun a => hc (.inr a)) h)), hst.1, hst.2]; simp
  have t1 : (l.take m).length ≤ l.length := by rw [List.length_take]; omega
  have t2 : (l.drop m).length ≤ l.length := by rw [List.length_drop]; omega
  refine Ev.succ ?_
  simp only [r_insert.j2]
  rw [Int.toNat_natCast]
  by_cases hend : m = l.length
  · have hnot : n ∉ l := fun h => by
      have := h1 n (by rw [hend, List.take_length]; exact h)
      omega
    refine Ev.neg (by omega) (Ev.cbind rfl (Ev.pos (by omega) (Ev.pos (by omega) (Ev.cbind rfl (Ev.pos (by simp only [List.length_nil]; omega) (Ev.cbind rfl (Ev.cbind rfl (Ev.pos ?_ (Ev.cbind rfl (Ev.cbind rfl (Ev.pos ?_ (Ev.const ?_))))))))))))
    · simp only [List.length_append, List.length_nil, List.length_cons]; omega
    · simp only [List.length_append, List.length_nil, List.length_cons]; omega
    · rw [List.nil_append, hput hnot]
  · have hlt : m < l.length := by omega
    refine Ev.pos (by omega) (Ev.pos (by omega) ?_)
    rw [rdI l m hlt]
    by_cases he : l[m] = n
    · refine Ev.pos he (Ev.const ?_)
      unfold Md.ins; rw [if_pos (.inr (.inr (he ▸ List.getElem_mem hlt)))]
    · have hgt : n < l[m] := by have := h2 hlt; omega
      have hnot : n ∉ l := fun h => by
        obtain ⟨q, hq, e⟩ := List.mem_iff_getElem.1 h
        rcases Nat.lt_trichotomy q m with h | h | h
        · have hm : l[q] ∈ l.take m := by
            have h3 : q < (l.take m).length := by rw [List.length_take]; omega
            have e2 : l[q] = (l.take m)[q] := by simp
            rw [e2]; exact List.getElem_mem h3
          have := h1 _ hm
          omega
        · subst h; exact he e
        · have := List.pairwise_iff_getElem.1 hp m q hlt hq h
          omega
      refine Ev.neg he (Ev.cbind rfl (Ev.pos (by omega) (Ev.cbind rfl (Ev.pos (by simp only [List.length_nil]; omega) (Ev.cbind rfl (Ev.cbind rfl (Ev.pos ?_ (Ev.cbind rfl (Ev.cbind rfl (Ev.pos ?_ (Ev.const ?_)))))))))))
      · simp only [List.length_append, List.length_nil, List.length_cons]; omega
      · simp only [List.length_append, List.length_nil, List.length_cons]; omega
      · rw [List.nil_append, hput hnot]
theorem insI_loop (hl : l.length < 1000000) (hp : l.Pairwise (· < ·)) (hc : ¬ (n ≤ lo ∨ n ≥ hi)) : ∀ m, m ≤ l.length → (∀ y ∈ l.take m, y < n) → Ev (fun k => r_insert.l0 k l n (m : Int)) (Md.ins l n lo hi) := by
  refine up_to l.length ?_
  intro m hm ih h1
  refine Ev.succ ?_
  simp only [r_insert.l0]
  by_cases hlt : m < l.length
  · refine Ev.pos (by omega) (Ev.pos (by omega) ?_)
    rw [rdI l m hlt]
    by_cases hb : l[m] < n
    · refine Ev.pos hb ?_
      rw [wi (by omega)]
      refine ih hlt fun y hy => ?_
      rw [List.take_succ_eq_append_getElem hlt, List.mem_append, List.mem_singleton] at hy
      exact hy.elim (h1 y) (fun e => e ▸ hb)
    · exact Ev.neg hb (insI_end hl hp hc m hm h1 fun _ => hb)
  · exact Ev.neg (by omega) (insI_end hl hp hc m hm h1 fun h => absurd h hlt)
theorem insert_ev (hl : l.length < 1000000) (hp : l.Pairwise (· < ·)) : Ev (fun k => r_insert.f k l n lo hi) (Md.ins l n lo hi) := by
  have keep : n ≤ lo ∨ n ≥ hi → Ev (fun k => r_insert.j0 k l n true) (Md.ins l n lo hi) := fun h => by
    refine Ev.succ ?_
    simp only [r_insert.j0]
    refine Ev.pos trivial (Ev.const ?_)
    unfold Md.ins; rw [if_pos (h.elim .inl (fun a => .inr (.inl a)))]
  unfold r_insert.f
  by_cases h1 : n ≤ lo
  · exact Ev.pos h1 (keep (.inl h1))
  · refine Ev.neg h1 ?_
    by_cases h2 : n ≥ hi
    · rw [decide_eq_true h2]; exact keep (.inr h2)
    · rw [decide_eq_false h2]
      refine Ev.succ ?_
      simp only [r_insert.j0]
      exact Ev.neg (by decide) (insI_loop hl hp (fun h => h.elim h1 h2) 0 (Nat.zero_le _) (fun y hy => by simp at hy))
end
theorem ins_len (l : List Int) (n lo hi : Int) : (Md.ins l n lo hi).length ≤ l.length + 1 := by
  unfold Md.ins
  split
  · omega
  · have e := congrArg List.length (List.takeWhile_append_dropWhile (p := fun x : Int => decide (x < n)) (l := l))
    simp only [List.length_append, List.length_cons] at e ⊢
    omega
theorem getD_rd (l : List Int) (i : Nat) : rd l (i : Int) = l.getD i 0 := by unfold rd; rw [Int.toNat_natCast]
section
variable {X Y Z : List Int} {R : List S43}
theorem p3 (hX : X.length ≤ 100) (hY : Y.length ≤ 100) (hZ : Z.length ≤ 100) (kz jy : Nat) (hz : kz + 1 < Z.length) (hy : jy + 1 < Y.length) : ∀ i, i ≤ X.length → ∀ out : List S43, out.length ≤ 10000 * kz + 100 * jy + i →
    (∀ o, o = out ++ ((segsI X).drop i).map (fX (Z.getD kz 0, Z.getD (kz + 1) 0) (Y.getD jy 0, Y.getD (jy + 1) 0)) → Ev (fun k => r_Parts.l2 k X Y Z o (kz : Int) ((jy + 1 : Nat) : Int)) R) → Ev (fun k => r_Parts.l3 k X Y Z out (kz : Int) (jy : Int) (i : Int)) R := by
  refine up_to X.length ?_
  intro i hi ih out ho next
  refine Ev.succ ?_
  simp only [r_Parts.l3]
  rw [wi (i := i) (by omega), wi (i := jy) (by omega), wi (i := kz) (by omega)]
  by_cases hlt : i + 1 < X.length
  · refine Ev.pos (by omega) (Ev.pos (by omega) (Ev.pos (by omega) (Ev.pos (by omega) (Ev.pos (by omega) (Ev.pos (by omega) (Ev.pos (by omega) (Ev.pos (by omega) (Ev.pos (by omega) (Ev.pos (by omega) (Ev.pos (by omega) (Ev.pos (by omega) (Ev.cbind rfl (Ev.pos (by simp only [List.length_cons, List.length_nil]; omega) ?_)))))))))))))
    refine ih (by omega) _ (by simp only [List.length_append, List.length_cons, List.length_nil]; omega) fun o e => next o ?_
    rw [e, segsI_drop X i hlt, List.map_cons, List.append_assoc]
    simp only [getD_rd, fX, List.cons_append, List.nil_append]
  · refine Ev.neg (by omega) (next _ ?_)
    rw [List.drop_of_length_le (by rw [segsI_len]; omega), List.map_nil, List.append_nil]
theorem p2 (hX : X.length ≤ 100) (hY : Y.length ≤ 100) (hZ : Z.length ≤ 100) (kz : Nat) (hz : kz + 1 < Z.length) : ∀ j, j ≤ Y.length → ∀ out : List S43, out.length ≤ 10000 * kz + 100 * j →
    (∀ o, o.length ≤ 10000 * (kz + 1) → o = out ++ ((segsI Y).drop j).flatMap (fY X (Z.getD kz 0, Z.getD (kz + 1) 0)) → Ev (fun k => r_Parts.l1 k X Y Z o ((kz + 1 : Nat) : Int)) R) → Ev (fun k => r_Parts.l2 k X Y Z out (kz : Int) (j : Int)) R := by
  refine up_to Y.length ?_
  intro j hj ih out ho next
  refine Ev.succ ?_
  simp only [r_Parts.l2]
  rw [wi (i := j) (by omega)]
  by_cases hlt : j + 1 < Y.length
  · refine Ev.pos (by omega) (p3 hX hY hZ kz j hz hlt 0 (Nat.zero_le _) out (by omega) fun o e => ?_)
    refine ih (by omega) o ?_ fun o2 h2 e2 => next o2 h2 ?_
    · have := congrArg List.length e
      rw [List.length_append, List.length_map, List.drop_zero, segsI_len] at this
      omega
    · rw [e2, e, segsI_drop Y j hlt, List.flatMap_cons, List.append_assoc, List.drop_zero]
      rfl
  · refine Ev.neg (by omega) ?_
    rw [wi (i := kz) (by omega)]
    refine next _ (by omega) ?_
    rw [List.drop_of_length_le (by rw [segsI_len]; omega), List.flatMap_nil, List.append_nil]
theorem p1 (hX : X.length ≤ 100) (hY : Y.length ≤ 100) (hZ : Z.length ≤ 100) : ∀ kz, kz ≤ Z.length → ∀ out : List S43, out.length ≤ 10000 * kz → Ev (fun k => r_Parts.l1 k X Y Z out (kz : Int)) (out ++ ((segsI Z).drop kz).flatMap (fZ X Y)) := by
  refine up_to Z.length ?_
  intro kz hk ih out ho
  refine Ev.succ ?_
  simp only [r_Parts.l1]
  rw [wi (i := kz) (by omega)]
  by_cases hlt : kz + 1 < Z.length
  · refine Ev.pos (by omega) (p2 hX hY hZ kz hlt 0 (Nat.zero_le _) out (by omega) fun o h2 e => ?_)
    refine Ev.eq (ih (by omega) o h2) ?_
    rw [e, segsI_drop Z kz hlt, List.flatMap_cons, List.append_assoc, List.drop_zero]
    rfl
  · refine Ev.neg (by omega) (Ev.const ?_)
    rw [List.drop_of_length_le (by rw [segsI_len]; omega), List.flatMap_nil, List.append_nil]
end
def prX (x : S68) : Int × Int := (x.f1.f0.f0, x.f1.f1.f0)
def prY (x : S68) : Int × Int := (x.f1.f0.f1, x.f1.f1.f1)
def prZ (x : S68) : Int × Int := (x.f1.f0.f2, x.f1.f1.f2)
def cutR (lo hi : Int) (xs : List Int) (ps : List (Int × Int)) : List Int := lo :: (Md.insAll lo hi xs ps ++ [hi])
theorem parts_loop (b : S43) (l : List S68) (hl : l.length ≤ 20) : ∀ i, i ≤ l.length → ∀ xs ys zs : List Int, Md.In b.f0.f0 b.f1.f0 xs → Md.In b.f0.f1 b.f1.f1 ys → Md.In b.f0.f2 b.f1.f2 zs → xs.length ≤ 2 * i → ys.length ≤ 2 * i → zs.length ≤ 2 * i →
    Ev (fun k => r_Parts.l0 k l xs ys zs (i : Int) b.f0.f0 b.f0.f1 b.f0.f2 b.f1.f0 b.f1.f1 b.f1.f2)
      (partsB (cutR b.f0.f0 b.f1.f0 xs ((l.drop i).map prX)) (cutR b.f0.f1 b.f1.f1 ys ((l.drop i).map prY)) (cutR b.f0.f2 b.f1.f2 zs ((l.drop i).map prZ))) := by
  refine up_to l.length ?_
  intro i hi ih xs ys zs hx hy hz lx ly lz
  refine Ev.succ ?_
  simp only [r_Parts.l0]
  by_cases hlt : i < l.length
  · rw [rd_at, wi (by omega)]
    have hd := drop_cons l i z68 hlt
    rw [hd]
    have ax := Md.ins_in (n := (l.getD i z68).f1.f0.f0) hx
    have bx' := Md.ins_in (n := (l.getD i z68).f1.f1.f0) ax.1
    have ay := Md.ins_in (n := (l.getD i z68).f1.f0.f1) hy
    have by' := Md.ins_in (n := (l.getD i z68).f1.f1.f1) ay.1
    have az := Md.ins_in (n := (l.getD i z68).f1.f0.f2) hz
    have bz' := Md.ins_in (n := (l.getD i z68).f1.f1.f2) az.1
    have l1 := ins_len xs (l.getD i z68).f1.f0.f0 b.f0.f0 b.f1.f0
    have l2 := ins_len (Md.ins xs (l.getD i z68).f1.f0.f0 b.f0.f0 b.f1.f0) (l.getD i z68).f1.f1.f0 b.f0.f0 b.f1.f0
    have l3 := ins_len ys (l.getD i z68).f1.f0.f1 b.f0.f1 b.f1.f1
    have l4 := ins_len (Md.ins ys (l.getD i z68).f1.f0.f1 b.f0.f1 b.f1.f1) (l.getD i z68).f1.f1.f1 b.f0.f1 b.f1.f1
    have l5 := ins_len zs (l.getD i z68).f1.f0.f2 b.f0.f2 b.f1.f2
    have l6 := ins_len (Md.ins zs (l.getD i z68).f1.f0.f2 b.f0.f2 b.f1.f2) (l.getD i z68).f1.f1.f2 b.f0.f2 b.f1.f2
    refine Ev.pos (by omega) (Ev.pos (by omega) (Ev.bind (insert_ev (by omega) hx.p) (Ev.bind (insert_ev (by omega) ax.1.p) (Ev.bind (insert_ev (by omega) hy.p) (Ev.bind (insert_ev (by omega) ay.1.p) (Ev.bind (insert_ev (by omega) hz.p) (Ev.bind (insert_ev (by omega) az.1.p) ?_)))))))
    exact ih (by omega) _ _ _ bx'.1 by'.1 bz'.1 (by omega) (by omega) (by omega)
  · have e : l.drop i = [] := List.drop_of_length_le (by omega)
    rw [e]
    refine Ev.neg (by omega) (Ev.cbind rfl (Ev.pos ?_ (Ev.cbind rfl (Ev.cbind rfl (Ev.pos ?_ (Ev.cbind rfl (Ev.pos ?_ (Ev.cbind rfl (Ev.cbind rfl (Ev.pos ?_ (Ev.cbind rfl (Ev.pos ?_ (Ev.cbind rfl (Ev.cbind rfl (Ev.pos ?_ ?_))))))))))))))) <;> try (simp only [List.length_append, List.length_cons, List.length_nil]; omega)
    refine Ev.eq (p1 ?_ ?_ ?_ 0 (Nat.zero_le _) [] (Nat.zero_le _)) ?_ <;> try (simp only [List.length_append, List.length_cons, List.length_nil]; omega)
    rw [List.drop_zero, List.nil_append]
    rfl
def plR (b : S43) (l : List S68) : List S43 := partsB (cutR b.f0.f0 b.f1.f0 [] (l.map prX)) (cutR b.f0.f1 b.f1.f1 [] (l.map prY)) (cutR b.f0.f2 b.f1.f2 [] (l.map prZ))
theorem nilIn (lo hi : Int) : Md.In lo hi [] := ⟨List.Pairwise.nil, fun _ h => absurd h (by simp)⟩
theorem Parts_ev (b : S43) (l : List S68) (hl : l.length ≤ 20) : Ev (fun k => r_Parts.f k l b.f0.f0 b.f0.f1 b.f0.f2 b.f1.f0 b.f1.f1 b.f1.f2) (plR b l) :=
  parts_loop b l hl 0 (Nat.zero_le _) [] [] [] (nilIn _ _) (nilIn _ _) (nilIn _ _) (Nat.le_refl _) (Nat.le_refl _) (Nat.le_refl _)
theorem cutsR {b : S43} (hv : V b) (l : List S68) : Md.Cuts (bx b) (l.map ev) (cutR b.f0.f0 b.f1.f0 [] (l.map prX)) (cutR b.f0.f1 b.f1.f1 [] (l.map prY)) (cutR b.f0.f2 b.f1.f2 [] (l.map prZ)) := by
  refine ⟨?_, ?_, ?_⟩
  · have := Md.insAll_cut hv.l0 (l.map prX)
    rw [List.map_map, List.map_map] at this ⊢
    exact this
  · have := Md.insAll_cut hv.l1 (l.map prY)
    rw [List.map_map, List.map_map] at this ⊢
    exact this
  · have := Md.insAll_cut hv.l2 (l.map prZ)
    rw [List.map_map, List.map_map] at this ⊢
    exact this
theorem cutR_len (lo hi : Int) (ps : List (Int × Int)) : ∀ xs : List Int, (Md.insAll lo hi xs ps).length ≤ xs.length + 2 * ps.length := by
  induction ps with
  | nil => intro xs; exact Nat.le_refl _
  | cons p ps ih =>
    intro xs
    have h1 := ih (Md.ins (Md.ins xs p.1 lo hi) p.2 lo hi)
    have h2 := ins_len xs p.1 lo hi
    have h3 := ins_len (Md.ins xs p.1 lo hi) p.2 lo hi
    show (Md.insAll lo hi (Md.ins (Md.ins xs p.1 lo hi) p.2 lo hi) ps).length ≤ _
    rw [List.length_cons]; omega
theorem flat_len {α β : Type} (f : α → List β) (n : Nat) (h : ∀ a, (f a).length ≤ n) : ∀ l : List α, (l.flatMap f).length ≤ l.length * n
  | [] => Nat.zero_le _
  | a :: l => by
    have h1 := flat_len f n h l
    have h2 := h a
    rw [List.flatMap_cons, List.length_append, List.length_cons, Nat.succ_mul]; omega
theorem plR_len (b : S43) (l : List S68) (hl : l.length ≤ 20) : (plR b l).length < 1000000 := by
  have c : ∀ lo hi (f : S68 → Int × Int), (segsI (cutR lo hi [] (l.map f))).length ≤ 41 := fun lo hi f => by
    have := cutR_len lo hi (l.map f) []
    rw [List.length_map] at this
    rw [segsI_len]
    unfold cutR
    simp only [List.length_cons, List.length_append, List.length_nil] at this ⊢
    omega
  unfold plR partsB
  have h1 := flat_len (fZ (cutR b.f0.f0 b.f1.f0 [] (l.map prX)) (cutR b.f0.f1 b.f1.f1 [] (l.map prY))) (41 * 41) (fun z => by
    unfold fZ
    have h2 := flat_len (fY (cutR b.f0.f0 b.f1.f0 [] (l.map prX)) z) 41 (fun y => by unfold fY; rw [List.length_map]; exact c _ _ _) (segsI (cutR b.f0.f1 b.f1.f1 [] (l.map prY)))
    have h3 := c b.f0.f1 b.f1.f1 prY
    exact Nat.le_trans h2 (Nat.mul_le_mul_right _ h3)) (segsI (cutR b.f0.f2 b.f1.f2 [] (l.map prZ)))
  have h3 := c b.f0.f2 b.f1.f2 prZ
  have := Nat.mul_le_mul_right (41 * 41) h3
  omega
theorem plR_parts (b : S43) (l : List S68) : (plR b l).map bx = Md.parts (cutR b.f0.f0 b.f1.f0 [] (l.map prX)) (cutR b.f0.f1 b.f1.f1 [] (l.map prY)) (cutR b.f0.f2 b.f1.f2 [] (l.map prZ)) := parts_eq _ _ _
theorem plR_ok {b : S43} (hv : V b) (l : List S68) {p : S43} (hp : p ∈ plR b l) : V p := by
  have hm : bx p ∈ Md.parts (cutR b.f0.f0 b.f1.f0 [] (l.map prX)) (cutR b.f0.f1 b.f1.f1 [] (l.map prY)) (cutR b.f0.f2 b.f1.f2 [] (l.map prZ)) := by rw [← plR_parts]; exact List.mem_map.2 ⟨p, hp, rfl⟩
  obtain ⟨⟨v0, v1, v2⟩, a0, a1, a2, b0, b1, b2⟩ := (cutsR hv l).part hm
  obtain ⟨r0, r1, r2, r3, r4, r5, l0, l1, l2⟩ := hv
  simp only [bx] at *
  exact ⟨by omega, by omega, by omega, by omega, by omega, by omega, v0, v1, v2⟩
end Go.Proofs.Ytcofgnbopodahaa.Mp
