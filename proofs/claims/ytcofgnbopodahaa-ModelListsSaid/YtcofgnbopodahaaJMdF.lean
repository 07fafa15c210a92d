import Derived.Test.YtcofgnbopodahaaJMdP
import Derived.Test.YtcofgnbopodahaaJQAx9
import Derived.Test.YtcofgnbopodahaaJQAx27
import Derived.Test.YtcofgnbopodahaaJQAx7
import Derived.Test.YtcofgnbopodahaaJQAx21
import Derived.Test.YtcofgnbopodahaaJQAx22
import Derived.Test.YtcofgnbopodahaaJMdE
import Derived.Test.YtcofgnbopodahaaJQAx11
import Derived.Test.YtcofgnbopodahaaJQAx28
import Derived.Test.YtcofgnbopodahaaJQAx29
import Derived.Test.YtcofgnbopodahaaJQAx30
import Derived.Test.YtcofgnbopodahaaJQAx10
import Derived.Test.YtcofgnbopodahaaJQAx31
namespace Go.Proofs.Ytcofgnbopodahaa.Mp
section
open Go.RowKit Go.Proofs.Ytcofgnbopodahaa.QA Go.Proofs.YtcofgnbopodahaaW.PrintWords Go.Proofs.YtcofgnbopodahaaW.PrintLast Go.Proofs.YtcofgnbopodahaaW.PrintMore Go.Proofs.Ytcofgnbopodahaa.EvKit
set_option linter.unusedVariables false
set_option linter.unusedSimpArgs false
def badP (x y : S68) : Bool := !(x.f2 == y.f2) && ovB x.f1 y.f1
def rowC (x : S68) (i : Int) : List S68 → Int → List S65
  | [], _ => []
  | y :: r, j => (if badP x y = true then [⟨i, j⟩] else []) ++ rowC x i r (j + 1)
def allC : List S68 → Int → List S65
  | [], _ => []
  | x :: r, i => rowC x i r (i + 1) ++ allC r (i + 1)
theorem row_loop (l : List S68) (hl : l.length ≤ 256) (i : Nat) (hi : i < l.length) (x : S68) (hx : x = l.getD i z68) (R : List S65)
    (next : ∀ out : List S65, out.length ≤ 256 * (i + 1) → Ev (fun k => model_Clashes.l0 k l out l (l.length : Int) ((i + 1 : Nat) : Int)) (out ++ R, 0)) :
    ∀ j, j ≤ l.length → ∀ out : List S65, out.length ≤ 256 * i + j → Ev (fun k => model_Clashes.l1 k l out (i : Int) (j : Int) l (l.length : Int) (i : Int) x.f0 x.f1.f0.f0 x.f1.f0.f1 x.f1.f0.f2 x.f1.f1.f0 x.f1.f1.f1 x.f1.f1.f2 x.f2) (out ++ (rowC x i (l.drop j) j ++ R), 0) := by
  refine up_to l.length ?_
  intro j hj ih out ho
  refine Ev.succ ?_
  simp only [model_Clashes.l1]
  by_cases hlt : j < l.length
  · refine Ev.pos (by omega) (Ev.pos (by omega) ?_)
    have hd := drop_cons l j z68 hlt
    rw [rd_at]
    obtain ⟨y, hy⟩ : ∃ y, y = l.getD j z68 := ⟨_, rfl⟩
    rw [← hy] at hd ⊢
    rw [hd]
    have again : ∀ o2 : List S65, o2.length ≤ 256 * i + (j + 1) → Ev (fun k => model_Clashes.j2 k l o2 (i : Int) (j : Int) l (l.length : Int) (i : Int) x.f0 x.f1.f0.f0 x.f1.f0.f1 x.f1.f0.f2 x.f1.f1.f0 x.f1.f1.f1 x.f1.f1.f2 x.f2) (o2 ++ (rowC x i (l.drop (j + 1)) ((j : Int) + 1) ++ R), 0) := by
      intro o2 h2
      refine Ev.succ ?_
      simp only [model_Clashes.j2]
      rw [wi (by omega)]
      exact ih hlt o2 h2
    unfold rowC
    by_cases hs : x.f2 = y.f2
    · rw [if_neg (by simp [badP, hs]), List.nil_append]
      exact Ev.pos hs (again out (by omega))
    · refine Ev.neg hs (Ev.cbind (show box_Overlap.f x.f1.f0.f0 x.f1.f0.f1 x.f1.f0.f2 x.f1.f1.f0 x.f1.f1.f1 x.f1.f1.f2 y.f1.f0.f0 y.f1.f0.f1 y.f1.f0.f2 y.f1.f1.f0 y.f1.f1.f1 y.f1.f1.f2 = some (ovB x.f1 y.f1) from rfl) ?_)
      by_cases ho2 : ovB x.f1 y.f1 = true
      · rw [if_pos (by simp [badP, hs, ho2])]
        refine Ev.pos ho2 (Ev.pos (by omega) (Ev.eq (again _ (by simp only [List.length_append, List.length_cons, List.length_nil]; omega)) ?_))
        simp
      · rw [if_neg (by simp [badP, ho2]), List.nil_append]
        exact Ev.neg ho2 (again out (by omega))
  · rw [List.drop_eq_nil_of_le (by omega)]
    refine Ev.neg (by omega) ?_
    rw [wi (by omega)]
    exact next out (by omega)
theorem all_loop (l : List S68) (hl : l.length ≤ 256) : ∀ i, i ≤ l.length → ∀ out : List S65, out.length ≤ 256 * i → Ev (fun k => model_Clashes.l0 k l out l (l.length : Int) (i : Int)) (out ++ allC (l.drop i) i, 0) := by
  refine up_to l.length ?_
  intro i hi ih out ho
  refine Ev.succ ?_
  simp only [model_Clashes.l0]
  by_cases hlt : i < l.length
  · refine Ev.pos (by omega) (Ev.pos (by omega) (Ev.pos (by omega) ?_))
    have hd := drop_cons l i z68 hlt
    rw [rd_at, wi (by omega)]
    obtain ⟨x, hx⟩ : ∃ x, x = l.getD i z68 := ⟨_, rfl⟩
    rw [← hx] at hd ⊢
    rw [hd]
    exact row_loop l hl i hlt x hx _ (fun o2 h2 => ih hlt o2 h2) (i + 1) hlt out (by omega)
  · rw [List.drop_eq_nil_of_le (by omega)]
    refine Ev.neg (by omega) (Ev.eq (Ev.now _) ?_)
    simp [allC]
def clashP (l : List S68) : List S65 × Int := if chkE l = 0 then (allC l 0, 0) else ([], chkE l)
theorem Clashes_ev (l : List S68) : Ev (fun k => model_Clashes.f k l) (clashP l) := by
  unfold model_Clashes.f
  refine Ev.bind (Check_ev l) ?_
  by_cases h : chkE l = 0
  · refine Ev.pos h (Ev.eq (all_loop l ((chkE0 l).1 h).1 0 (Nat.zero_le _) [] (by simp)) ?_)
    unfold clashP; rw [if_pos h]; rfl
  · refine Ev.neg h (Ev.eq (Ev.now _) ?_)
    unfold clashP; rw [if_neg h]
def withP (l : List S68) (a : ByteArray) : List S68 × Int := if chkE l = 0 then (l.filter (keepB a), 0) else ([], chkE l)
theorem Without_ev (l : List S68) (a : ByteArray) : Ev (fun k => model_Without.f k l a) (withP l a) := by
  unfold model_Without.f
  refine Ev.bind (Check_ev l) ?_
  by_cases h : chkE l = 0
  · refine Ev.pos h (Ev.pos (by have := ((chkE0 l).1 h).1; omega) (Ev.eq (Ev.now _) ?_))
    unfold withP; rw [if_pos h]
  · refine Ev.neg h (Ev.eq (Ev.now _) ?_)
    unfold withP; rw [if_neg h]
theorem ovB_iff (x y : S43) : ovB x y = true ↔ (mx x.f0.f0 y.f0.f0 < mn x.f1.f0 y.f1.f0) ∧ (mx x.f0.f1 y.f0.f1 < mn x.f1.f1 y.f1.f1) ∧ (mx x.f0.f2 y.f0.f2 < mn x.f1.f2 y.f1.f2) := by simp [ovB]
theorem mm (p q r s t : Int) (h1 : p ≤ t) (h2 : q ≤ t) (h3 : t < r) (h4 : t < s) : mx p q < mn r s := by
  unfold mx mn
  split <;> split <;> omega
end
section
open Go.RowKit Go.Proofs.Ytcofgnbopodahaa.QA Go.Proofs.YtcofgnbopodahaaW.PrintWords Go.Proofs.YtcofgnbopodahaaW.PrintLast Go.Proofs.YtcofgnbopodahaaW.PrintMore Go.Proofs.Ytcofgnbopodahaa.EvKit
set_option linter.unusedVariables false
set_option linter.unusedSimpArgs false
theorem twI (p : Int → Bool) : ∀ (l : List Int) (n : Nat), n ≤ l.length → (∀ x ∈ l.take n, p x = true) → (∀ h : n < l.length, p l[n] = false) → l.takeWhile p = l.take n ∧ l.dropWhile p = l.drop n
  | [], n, hn, _, _ => by simp at hn; subst hn; simp
  | a :: l, 0, _, _, h => by
    have := h (by simp)
    simp at this
    simp [this]
  | a :: l, n + 1, hn, h1, h2 => by
    have ha : p a = true := h1 a (by simp)
    obtain ⟨e1, e2⟩ := twI p l n (by simpa using hn) (fun x hx => h1 x (by simp [hx])) (fun h => h2 (Nat.succ_lt_succ h))
    simp [ha, e1, e2]
theorem rdI (l : List Int) (n : Nat) (h : n < l.length) : rd l (n : Int) = l[n] := by
  unfold rd
  rw [Int.toNat_natCast, List.getD_eq_getElem?_getD, List.getElem?_eq_getElem h]; rfl
section
variable {l : List Int} {n lo hi : Int}
theorem insI_end (hl : l.length < 1000000) (hp : l.Pairwise (· < ·)) (hc : ¬ (n ≤ lo ∨ n ≥ hi)) (m : Nat) (hm : m ≤ l.length) (h1 : ∀ y ∈ l.take m, y < n) (h2 : ∀ h : m < l.length, ¬ l[m] < n) :
    Ev (fun k => r_insert.j2 k l n (m : Int)) (Md.ins l n lo hi) := by
  have hst := twI (fun y => decide (y < n)) l m hm (fun y hy => decide_eq_true (h1 y hy)) (fun h => decide_eq_false (h2 h))
  have hput : n ∉ l → l.take m ++ [n] ++ l.drop m = Md.ins l n lo hi := fun h => by
    unfold Md.ins
    rw [if_neg (fun q => q.elim (fun a => hc (.inl a)) (fun q => q.elim (fun a => hc (.inr a)) h)), hst.1, hst.2]; simp
  have t1 : (l.take m).length ≤ l.length := by rw [List.length_take]; omega
  have t2 : (l.drop m).length ≤ l.length := by rw [List.length_drop]; omega
  refine Ev.succ ?_
  simp only [r_insert.j2]
  rw [Int.toNat_natCast]
  by_cases hend : m = l.length
  · have hnot : n ∉ l := fun h => by
      have := h1 n (by rw [hend, List.take_length]; exact h)
      omega
    refine Ev.neg (by omega) (Ev.cbind rfl (Ev.pos (by omega) (Ev.pos (by omega) (Ev.cbind rfl (Ev.pos (by simp only [List.length_nil]; omega) (Ev.cbind rfl (Ev.cbind rfl (Ev.pos ?_ (Ev.cbind rfl (Ev.cbind rfl (Ev.pos ?_ (Ev.const ?_))))))))))))
    · simp only [List.length_append, List.length_nil, List.length_cons]; omega
    · simp only [List.length_append, List.length_nil, List.length_cons]; omega
    · rw [List.nil_append, hput hnot]
  · have hlt : m < l.length := by omega
    refine Ev.pos (by omega) (Ev.pos (by omega) ?_)
    rw [rdI l m hlt]
    by_cases he : l[m] = n
    · refine Ev.pos he (Ev.const ?_)
      unfold Md.ins; rw [if_pos (.inr (.inr (he ▸ List.getElem_mem hlt)))]
    · have hgt : n < l[m] := by have := h2 hlt; omega
      have hnot : n ∉ l := fun h => by
        obtain ⟨q, hq, e⟩ := List.mem_iff_getElem.1 h
        rcases Nat.lt_trichotomy q m with h | h | h
        · have hm : l[q] ∈ l.take m := by
            have h3 : q < (l.take m).length := by rw [List.length_take]; omega
            have e2 : l[q] = (l.take m)[q] := by simp
            rw [e2]; exact List.getElem_mem h3
          have := h1 _ hm
          omega
        · subst h; exact he e
        · have := List.pairwise_iff_getElem.1 hp m q hlt hq h
          omega
      refine Ev.neg he (Ev.cbind rfl (Ev.pos (by omega) (Ev.cbind rfl (Ev.pos (by simp only [List.length_nil]; omega) (Ev.cbind rfl (Ev.cbind rfl (Ev.pos ?_ (Ev.cbind rfl (Ev.cbind rfl (Ev.pos ?_ (Ev.const ?_)))))))))))
      · simp only [List.length_append, List.length_nil, List.length_cons]; omega
      · simp only [List.length_append, List.length_nil, List.length_cons]; omega
      · rw [List.nil_append, hput hnot]
theorem insI_loop (hl : l.length < 1000000) (hp : l.Pairwise (· < ·)) (hc : ¬ (n ≤ lo ∨ n ≥ hi)) : ∀ m, m ≤ l.length → (∀ y ∈ l.take m, y < n) → Ev (fun k => r_insert.l0 k l n (m : Int)) (Md.ins l n lo hi) := by
  refine up_to l.length ?_
  intro m hm ih h1
  refine Ev.succ ?_
  simp only [r_insert.l0]
  by_cases hlt : m < l.length
  · refine Ev.pos (by omega) (Ev.pos (by omega) ?_)
    rw [rdI l m hlt]
    by_cases hb : l[m] < n
    · refine Ev.pos hb ?_
      rw [wi (by omega)]
      refine ih hlt fun y hy => ?_
      rw [List.take_succ_eq_append_getElem hlt, List.mem_append, List.mem_singleton] at hy
      exact hy.elim (h1 y) (fun e => e ▸ hb)
    · exact Ev.neg hb (insI_end hl hp hc m hm h1 fun _ => hb)
  · exact Ev.neg (by omega) (insI_end hl hp hc m hm h1 fun h => absurd h hlt)
theorem insert_ev (hl : l.length < 1000000) (hp : l.Pairwise (· < ·)) : Ev (fun k => r_insert.f k l n lo hi) (Md.ins l n lo hi) := by
  have keep : n ≤ lo ∨ n ≥ hi → Ev (fun k => r_insert.j0 k l n true) (Md.ins l n lo hi) := fun h => by
    refine Ev.succ ?_
    simp only [r_insert.j0]
    refine Ev.pos trivial (Ev.const ?_)
    unfold Md.ins; rw [if_pos (h.elim .inl (fun a => .inr (.inl a)))]
  unfold r_insert.f
  by_cases h1 : n ≤ lo
  · exact Ev.pos h1 (keep (.inl h1))
  · refine Ev.neg h1 ?_
    by_cases h2 : n ≥ hi
    · rw [decide_eq_true h2]; exact keep (.inr h2)
    · rw [decide_eq_false h2]
      refine Ev.succ ?_
      simp only [r_insert.j0]
      exact Ev.neg (by decide) (insI_loop hl hp (fun h => h.elim h1 h2) 0 (Nat.zero_le _) (fun y hy => by simp at hy))
end
theorem ins_len (l : List Int) (n lo hi : Int) : (Md.ins l n lo hi).length ≤ l.length + 1 := by
  unfold Md.ins
  split
  · omega
  · have e := congrArg List.length (List.takeWhile_append_dropWhile (p := fun x : Int => decide (x < n)) (l := l))
    simp only [List.length_append, List.length_cons] at e ⊢
    omega
theorem getD_rd (l : List Int) (i : Nat) : rd l (i : Int) = l.getD i 0 := by unfold rd; rw [Int.toNat_natCast]
section
variable {X Y Z : List Int} {R : List S43}
theorem p3 (hX : X.length ≤ 100) (hY : Y.length ≤ 100) (hZ : Z.length ≤ 100) (kz jy : Nat) (hz : kz + 1 < Z.length) (hy : jy + 1 < Y.length) : ∀ i, i ≤ X.length → ∀ out : List S43, out.length ≤ 10000 * kz + 100 * jy + i →
    (∀ o, o = out ++ ((segsI X).drop i).map (fX (Z.getD kz 0, Z.getD (kz + 1) 0) (Y.getD jy 0, Y.getD (jy + 1) 0)) → Ev (fun k => r_Parts.l2 k X Y Z o (kz : Int) ((jy + 1 : Nat) : Int)) R) → Ev (fun k => r_Parts.l3 k X Y Z out (kz : Int) (jy : Int) (i : Int)) R := by
  refine up_to X.length ?_
  intro i hi ih out ho next
  refine Ev.succ ?_
  simp only [r_Parts.l3]
  rw [wi (i := i) (by omega), wi (i := jy) (by omega), wi (i := kz) (by omega)]
  by_cases hlt : i + 1 < X.length
  · refine Ev.pos (by omega) (Ev.pos (by omega) (Ev.pos (by omega) (Ev.pos (by omega) (Ev.pos (by omega) (Ev.pos (by omega) (Ev.pos (by omega) (Ev.pos (by omega) (Ev.pos (by omega) (Ev.pos (by omega) (Ev.pos (by omega) (Ev.pos (by omega) (Ev.cbind rfl (Ev.pos (by simp only [List.length_cons, List.length_nil]; omega) ?_)))))))))))))
    refine ih (by omega) _ (by simp only [List.length_append, List.length_cons, List.length_nil]; omega) fun o e => next o ?_
    rw [e, segsI_drop X i hlt, List.map_cons, List.append_assoc]
    simp only [getD_rd, fX, List.cons_append, List.nil_append]
  · refine Ev.neg (by omega) (next _ ?_)
    rw [List.drop_of_length_le (by rw [segsI_len]; omega), List.map_nil, List.append_nil]
theorem p2 (hX : X.length ≤ 100) (hY : Y.length ≤ 100) (hZ : Z.length ≤ 100) (kz : Nat) (hz : kz + 1 < Z.length) : ∀ j, j ≤ Y.length → ∀ out : List S43, out.length ≤ 10000 * kz + 100 * j →
    (∀ o, o.length ≤ 10000 * (kz + 1) → o = out ++ ((segsI Y).drop j).flatMap (fY X (Z.getD kz 0, Z.getD (kz + 1) 0)) → Ev (fun k => r_Parts.l1 k X Y Z o ((kz + 1 : Nat) : Int)) R) → Ev (fun k => r_Parts.l2 k X Y Z out (kz : Int) (j : Int)) R := by
  refine up_to Y.length ?_
  intro j hj ih out ho next
  refine Ev.succ ?_
  simp only [r_Parts.l2]
  rw [wi (i := j) (by omega)]
  by_cases hlt : j + 1 < Y.length
  · refine Ev.pos (by omega) (p3 hX hY hZ kz j hz hlt 0 (Nat.zero_le _) out (by omega) fun o e => ?_)
    refine ih (by omega) o ?_ fun o2 h2 e2 => next o2 h2 ?_
    · have := congrArg List.length e
      rw [List.length_append, List.length_map, List.drop_zero, segsI_len] at this
      omega
    · rw [e2, e, segsI_drop Y j hlt, List.flatMap_cons, List.append_assoc, List.drop_zero]
      rfl
  · refine Ev.neg (by omega) ?_
    rw [wi (i := kz) (by omega)]
    refine next _ (by omega) ?_
    rw [List.drop_of_length_le (by rw [segsI_len]; omega), List.flatMap_nil, List.append_nil]
theorem p1 (hX : X.length ≤ 100) (hY : Y.length ≤ 100) (hZ : Z.length ≤ 100) : ∀ kz, kz ≤ Z.length → ∀ out : List S43, out.length ≤ 10000 * kz → Ev (fun k => r_Parts.l1 k X Y Z out (kz : Int)) (out ++ ((segsI Z).drop kz).flatMap (fZ X Y)) := by
  refine up_to Z.length ?_
  intro kz hk ih out ho
  refine Ev.succ ?_
  simp only [r_Parts.l1]
  rw [wi (i := kz) (by omega)]
  by_cases hlt : kz + 1 < Z.length
  · refine Ev.pos (by omega) (p2 hX hY hZ kz hlt 0 (Nat.zero_le _) out (by omega) fun o h2 e => ?_)
    refine Ev.eq (ih (by omega) o h2) ?_
    rw [e, segsI_drop Z kz hlt, List.flatMap_cons, List.append_assoc, List.drop_zero]
    rfl
  · refine Ev.neg (by omega) (Ev.const ?_)
    rw [List.drop_of_length_le (by rw [segsI_len]; omega), List.flatMap_nil, List.append_nil]
end
def prX (x : S68) : Int × Int := (x.f1.f0.f0, x.f1.f1.f0)
def prY (x : S68) : Int × Int := (x.f1.f0.f1, x.f1.f1.f1)
def prZ (x : S68) : Int × Int := (x.f1.f0.f2, x.f1.f1.f2)
def cutR (lo hi : Int) (xs : List Int) (ps : List (Int × Int)) : List Int := lo :: (Md.insAll lo hi xs ps ++ [hi])
theorem parts_loop (b : S43) (l : List S68) (hl : l.length ≤ 20) : ∀ i, i ≤ l.length → ∀ xs ys zs : List Int, Md.In b.f0.f0 b.f1.f0 xs → Md.In b.f0.f1 b.f1.f1 ys → Md.In b.f0.f2 b.f1.f2 zs → xs.length ≤ 2 * i → ys.length ≤ 2 * i → zs.length ≤ 2 * i →
    Ev (fun k => r_Parts.l0 k l xs ys zs (i : Int) b.f0.f0 b.f0.f1 b.f0.f2 b.f1.f0 b.f1.f1 b.f1.f2)
      (partsB (cutR b.f0.f0 b.f1.f0 xs ((l.drop i).map prX)) (cutR b.f0.f1 b.f1.f1 ys ((l.drop i).map prY)) (cutR b.f0.f2 b.f1.f2 zs ((l.drop i).map prZ))) := by
  refine up_to l.length ?_
  intro i hi ih xs ys zs hx hy hz lx ly lz
  refine Ev.succ ?_
  simp only [r_Parts.l0]
  by_cases hlt : i < l.length
  · rw [rd_at, wi (by omega)]
    have hd := drop_cons l i z68 hlt
    rw [hd]
    have ax := Md.ins_in (n := (l.getD i z68).f1.f0.f0) hx
    have bx' := Md.ins_in (n := (l.getD i z68).f1.f1.f0) ax.1
    have ay := Md.ins_in (n := (l.getD i z68).f1.f0.f1) hy
    have by' := Md.ins_in (n := (l.getD i z68).f1.f1.f1) ay.1
    have az := Md.ins_in (n := (l.getD i z68).f1.f0.f2) hz
    have bz' := Md.ins_in (n := (l.getD i z68).f1.f1.f2) az.1
    have l1 := ins_len xs (l.getD i z68).f1.f0.f0 b.f0.f0 b.f1.f0
    have l2 := ins_len (Md.ins xs (l.getD i z68).f1.f0.f0 b.f0.f0 b.f1.f0) (l.getD i z68).f1.f1.f0 b.f0.f0 b.f1.f0
    have l3 := ins_len ys (l.getD i z68).f1.f0.f1 b.f0.f1 b.f1.f1
    have l4 := ins_len (Md.ins ys (l.getD i z68).f1.f0.f1 b.f0.f1 b.f1.f1) (l.getD i z68).f1.f1.f1 b.f0.f1 b.f1.f1
    have l5 := ins_len zs (l.getD i z68).f1.f0.f2 b.f0.f2 b.f1.f2
    have l6 := ins_len (Md.ins zs (l.getD i z68).f1.f0.f2 b.f0.f2 b.f1.f2) (l.getD i z68).f1.f1.f2 b.f0.f2 b.f1.f2
    refine Ev.pos (by omega) (Ev.pos (by omega) (Ev.bind (insert_ev (by omega) hx.p) (Ev.bind (insert_ev (by omega) ax.1.p) (Ev.bind (insert_ev (by omega) hy.p) (Ev.bind (insert_ev (by omega) ay.1.p) (Ev.bind (insert_ev (by omega) hz.p) (Ev.bind (insert_ev (by omega) az.1.p) ?_)))))))
    exact ih (by omega) _ _ _ bx'.1 by'.1 bz'.1 (by omega) (by omega) (by omega)
  · have e : l.drop i = [] := List.drop_of_length_le (by omega)
    rw [e]
    refine Ev.neg (by omega) (Ev.cbind rfl (Ev.pos ?_ (Ev.cbind rfl (Ev.cbind rfl (Ev.pos ?_ (Ev.cbind rfl (Ev.pos ?_ (Ev.cbind rfl (Ev.cbind rfl (Ev.pos ?_ (Ev.cbind rfl (Ev.pos ?_ (Ev.cbind rfl (Ev.cbind rfl (Ev.pos ?_ ?_))))))))))))))) <;> try (simp only [List.length_append, List.length_cons, List.length_nil]; omega)
    refine Ev.eq (p1 ?_ ?_ ?_ 0 (Nat.zero_le _) [] (Nat.zero_le _)) ?_ <;> try (simp only [List.length_append, List.length_cons, List.length_nil]; omega)
    rw [List.drop_zero, List.nil_append]
    rfl
def plR (b : S43) (l : List S68) : List S43 := partsB (cutR b.f0.f0 b.f1.f0 [] (l.map prX)) (cutR b.f0.f1 b.f1.f1 [] (l.map prY)) (cutR b.f0.f2 b.f1.f2 [] (l.map prZ))
theorem nilIn (lo hi : Int) : Md.In lo hi [] := ⟨List.Pairwise.nil, fun _ h => absurd h (by simp)⟩
theorem Parts_ev (b : S43) (l : List S68) (hl : l.length ≤ 20) : Ev (fun k => r_Parts.f k l b.f0.f0 b.f0.f1 b.f0.f2 b.f1.f0 b.f1.f1 b.f1.f2) (plR b l) :=
  parts_loop b l hl 0 (Nat.zero_le _) [] [] [] (nilIn _ _) (nilIn _ _) (nilIn _ _) (Nat.le_refl _) (Nat.le_refl _) (Nat.le_refl _)
theorem cutsR {b : S43} (hv : V b) (l : List S68) : Md.Cuts (bx b) (l.map ev) (cutR b.f0.f0 b.f1.f0 [] (l.map prX)) (cutR b.f0.f1 b.f1.f1 [] (l.map prY)) (cutR b.f0.f2 b.f1.f2 [] (l.map prZ)) := by
  refine ⟨?_, ?_, ?_⟩
  · have := Md.insAll_cut hv.l0 (l.map prX)
    rw [List.map_map, List.map_map] at this ⊢
    exact this
  · have := Md.insAll_cut hv.l1 (l.map prY)
    rw [List.map_map, List.map_map] at this ⊢
    exact this
  · have := Md.insAll_cut hv.l2 (l.map prZ)
    rw [List.map_map, List.map_map] at this ⊢
    exact this
theorem cutR_len (lo hi : Int) (ps : List (Int × Int)) : ∀ xs : List Int, (Md.insAll lo hi xs ps).length ≤ xs.length + 2 * ps.length := by
  induction ps with
  | nil => intro xs; exact Nat.le_refl _
  | cons p ps ih =>
    intro xs
    have h1 := ih (Md.ins (Md.ins xs p.1 lo hi) p.2 lo hi)
    have h2 := ins_len xs p.1 lo hi
    have h3 := ins_len (Md.ins xs p.1 lo hi) p.2 lo hi
    show (Md.insAll lo hi (Md.ins (Md.ins xs p.1 lo hi) p.2 lo hi) ps).length ≤ _
    rw [List.length_cons]; omega
theorem flat_len {α β : Type} (f : α → List β) (n : Nat) (h : ∀ a, (f a).length ≤ n) : ∀ l : List α, (l.flatMap f).length ≤ l.length * n
  | [] => Nat.zero_le _
  | a :: l => by
    have h1 := flat_len f n h l
    have h2 := h a
    rw [List.flatMap_cons, List.length_append, List.length_cons, Nat.succ_mul]; omega
theorem plR_len (b : S43) (l : List S68) (hl : l.length ≤ 20) : (plR b l).length < 1000000 := by
  have c : ∀ lo hi (f : S68 → Int × Int), (segsI (cutR lo hi [] (l.map f))).length ≤ 41 := fun lo hi f => by
    have := cutR_len lo hi (l.map f) []
    rw [List.length_map] at this
    rw [segsI_len]
    unfold cutR
    simp only [List.length_cons, List.length_append, List.length_nil] at this ⊢
    omega
  unfold plR partsB
  have h1 := flat_len (fZ (cutR b.f0.f0 b.f1.f0 [] (l.map prX)) (cutR b.f0.f1 b.f1.f1 [] (l.map prY))) (41 * 41) (fun z => by
    unfold fZ
    have h2 := flat_len (fY (cutR b.f0.f0 b.f1.f0 [] (l.map prX)) z) 41 (fun y => by unfold fY; rw [List.length_map]; exact c _ _ _) (segsI (cutR b.f0.f1 b.f1.f1 [] (l.map prY)))
    have h3 := c b.f0.f1 b.f1.f1 prY
    exact Nat.le_trans h2 (Nat.mul_le_mul_right _ h3)) (segsI (cutR b.f0.f2 b.f1.f2 [] (l.map prZ)))
  have h3 := c b.f0.f2 b.f1.f2 prZ
  have := Nat.mul_le_mul_right (41 * 41) h3
  omega
theorem plR_parts (b : S43) (l : List S68) : (plR b l).map bx = Md.parts (cutR b.f0.f0 b.f1.f0 [] (l.map prX)) (cutR b.f0.f1 b.f1.f1 [] (l.map prY)) (cutR b.f0.f2 b.f1.f2 [] (l.map prZ)) := parts_eq _ _ _
end
section
open Go.RowKit Go.Proofs.Ytcofgnbopodahaa.QA Go.Proofs.YtcofgnbopodahaaW.PrintWords Go.Proofs.YtcofgnbopodahaaW.PrintLast Go.Proofs.YtcofgnbopodahaaW.PrintMore Go.Proofs.Ytcofgnbopodahaa.EvKit
set_option linter.unusedVariables false
set_option linter.unusedSimpArgs false
theorem rov_ev {x y : S43} (hx : V x) (hy : V y) : Ev (fun k => r_overlap.f k x.f0.f0 x.f0.f1 x.f0.f2 x.f1.f0 x.f1.f1 x.f1.f2 y.f0.f0 y.f0.f1 y.f0.f2 y.f1.f0 y.f1.f1 y.f1.f2) (ovB x y) := by
  have j : ∀ t : Bool, Ev (fun k => r_overlap.j0 k t) t := fun t => Ev.succ (by simp only [r_overlap.j0]; exact Ev.now _)
  have mm : ∀ p q r s : Int, p < r → q < s → (mx p q < mn r s ↔ p < s ∧ q < r) := by
    intro p q r s h1 h2
    unfold mx mn
    split <;> split <;> omega
  have e : ∀ t : Bool, (t = true ↔ (x.f0.f0 < y.f1.f0 ∧ y.f0.f0 < x.f1.f0) ∧ (x.f0.f1 < y.f1.f1 ∧ y.f0.f1 < x.f1.f1) ∧ (x.f0.f2 < y.f1.f2 ∧ y.f0.f2 < x.f1.f2)) → t = ovB x y := fun t h => by
    rw [Bool.eq_iff_iff, h, ovB_iff, mm _ _ _ _ hx.l0 hy.l0, mm _ _ _ _ hx.l1 hy.l1, mm _ _ _ _ hx.l2 hy.l2]
  unfold r_overlap.f
  by_cases h1 : x.f0.f0 < y.f1.f0
  · by_cases h2 : y.f0.f0 < x.f1.f0
    · by_cases h3 : x.f0.f1 < y.f1.f1
      · by_cases h4 : y.f0.f1 < x.f1.f1
        · by_cases h5 : x.f0.f2 < y.f1.f2
          · exact Ev.pos h1 (Ev.pos h2 (Ev.pos h3 (Ev.pos h4 (Ev.pos h5 (Ev.eq (j _) (e _ (by simp [h1, h2, h3, h4, h5])))))))
          · exact Ev.pos h1 (Ev.pos h2 (Ev.pos h3 (Ev.pos h4 (Ev.neg h5 (Ev.eq (j _) (e _ (by simp [h5])))))))
        · exact Ev.pos h1 (Ev.pos h2 (Ev.pos h3 (Ev.neg h4 (Ev.eq (j _) (e _ (by simp [h4]))))))
      · exact Ev.pos h1 (Ev.pos h2 (Ev.neg h3 (Ev.eq (j _) (e _ (by simp [h3])))))
    · exact Ev.pos h1 (Ev.neg h2 (Ev.eq (j _) (e _ (by simp [h2]))))
  · exact Ev.neg h1 (Ev.eq (j _) (e _ (by simp [h1])))
theorem rrow_loop (l : List S68) (hl : l.length ≤ 256) (ok : ∀ x ∈ l, V x.f1) (i : Nat) (hi : i < l.length) (x : S68) (hx : x = l.getD i z68) (R : List S65)
    (next : ∀ out : List S65, out.length ≤ 256 * (i + 1) → Ev (fun k => r_Clashes.l0 k l out ((i + 1 : Nat) : Int)) (out ++ R)) :
    ∀ j, j ≤ l.length → ∀ out : List S65, out.length ≤ 256 * i + j → Ev (fun k => r_Clashes.l1 k l out (i : Int) (j : Int)) (out ++ (rowC x i (l.drop j) j ++ R)) := by
  have vx : V x.f1 := ok x (by rw [hx, List.getD_eq_getElem?_getD, List.getElem?_eq_getElem hi]; exact List.getElem_mem hi)
  refine up_to l.length ?_
  intro j hj ih out ho
  refine Ev.succ ?_
  simp only [r_Clashes.l1]
  by_cases hlt : j < l.length
  · refine Ev.pos (by omega) (Ev.pos (by omega) (Ev.pos (by omega) (Ev.pos (by omega) ?_)))
    have hd := drop_cons l j z68 hlt
    rw [rd_at, rd_at, ← hx]
    obtain ⟨y, hy⟩ : ∃ y, y = l.getD j z68 := ⟨_, rfl⟩
    have vy : V y.f1 := ok y (by rw [hy, List.getD_eq_getElem?_getD, List.getElem?_eq_getElem hlt]; exact List.getElem_mem hlt)
    rw [← hy] at hd ⊢
    rw [hd]
    have again : ∀ o2 : List S65, o2.length ≤ 256 * i + (j + 1) → Ev (fun k => r_Clashes.j2 k l o2 (i : Int) (j : Int)) (o2 ++ (rowC x i (l.drop (j + 1)) ((j : Int) + 1) ++ R)) := by
      intro o2 h2
      refine Ev.succ ?_
      simp only [r_Clashes.j2]
      rw [wi (by omega)]
      exact ih hlt o2 h2
    unfold rowC
    by_cases hs : x.f2 = y.f2
    · rw [if_neg (by simp [badP, hs]), List.nil_append]
      exact Ev.pos hs (again out (by omega))
    · refine Ev.neg hs (Ev.bind (rov_ev vx vy) ?_)
      by_cases ho2 : ovB x.f1 y.f1 = true
      · rw [if_pos (by simp [badP, hs, ho2])]
        refine Ev.pos ho2 (Ev.pos (by omega) (Ev.eq (again _ (by simp only [List.length_append, List.length_cons, List.length_nil]; omega)) ?_))
        simp
      · rw [if_neg (by simp [badP, ho2]), List.nil_append]
        exact Ev.neg ho2 (again out (by omega))
  · rw [List.drop_eq_nil_of_le (by omega)]
    refine Ev.neg (by omega) ?_
    rw [wi (by omega)]
    exact next out (by omega)
theorem rall_loop (l : List S68) (hl : l.length ≤ 256) (ok : ∀ x ∈ l, V x.f1) : ∀ i, i ≤ l.length → ∀ out : List S65, out.length ≤ 256 * i → Ev (fun k => r_Clashes.l0 k l out (i : Int)) (out ++ allC (l.drop i) i) := by
  refine up_to l.length ?_
  intro i hi ih out ho
  refine Ev.succ ?_
  simp only [r_Clashes.l0]
  by_cases hlt : i < l.length
  · refine Ev.pos (by omega) ?_
    have hd := drop_cons l i z68 hlt
    rw [wi (by omega)]
    obtain ⟨x, hx⟩ : ∃ x, x = l.getD i z68 := ⟨_, rfl⟩
    rw [← hx] at hd
    rw [hd]
    exact rrow_loop l hl ok i hlt x hx _ (fun o2 h2 => ih hlt o2 h2) (i + 1) hlt out (by omega)
  · rw [List.drop_eq_nil_of_le (by omega)]
    refine Ev.neg (by omega) (Ev.eq (Ev.now _) ?_)
    simp [allC]
theorem rClashes_ev (l : List S68) (hl : l.length ≤ 256) (ok : ∀ x ∈ l, V x.f1) : Ev (fun k => r_Clashes.f k l) (allC l 0) := Ev.eq (rall_loop l hl ok 0 (Nat.zero_le _) [] (by simp)) rfl
theorem rowC_len (x : S68) (i : Int) : ∀ (l : List S68) (j : Int), (rowC x i l j).length ≤ l.length
  | [], j => Nat.le_refl _
  | y :: r, j => by
    have := rowC_len x i r (j + 1)
    unfold rowC
    rw [List.length_append, List.length_cons]
    split <;> simp <;> omega
theorem allC_len : ∀ (l : List S68) (i : Int), (allC l i).length ≤ l.length * l.length
  | [], i => Nat.le_refl _
  | x :: r, i => by
    have h1 := rowC_len x i r (i + 1)
    have h2 := allC_len r (i + 1)
    have h3 : r.length * r.length + r.length ≤ (r.length + 1) * (r.length + 1) := by
      rw [Nat.succ_mul, Nat.mul_succ]; omega
    unfold allC
    rw [List.length_append, List.length_cons]
    omega
theorem rwith_loop (l : List S68) (hl : l.length ≤ 256) (a : ByteArray) : ∀ i, i ≤ l.length → ∀ out : List S68, out.length ≤ i → Ev (fun k => r_Without.l0 k l a out (i : Int)) (out ++ (l.drop i).filter (keepB a)) := by
  refine up_to l.length ?_
  intro i hi ih out ho
  refine Ev.succ ?_
  simp only [r_Without.l0]
  by_cases hlt : i < l.length
  · refine Ev.pos (by omega) (Ev.pos (by omega) ?_)
    have hd := drop_cons l i z68 hlt
    rw [rd_at]
    obtain ⟨x, hx⟩ : ∃ x, x = l.getD i z68 := ⟨_, rfl⟩
    rw [← hx] at hd ⊢
    rw [hd]
    have again : ∀ o2 : List S68, o2.length ≤ i + 1 → Ev (fun k => r_Without.j1 k l a o2 (i : Int)) (o2 ++ (l.drop (i + 1)).filter (keepB a)) := by
      intro o2 h2
      refine Ev.succ ?_
      simp only [r_Without.j1]
      rw [wi (by omega)]
      exact ih hlt o2 h2
    by_cases he : x.f0.toList = a.toList
    · rw [List.filter_cons_of_neg (by simp [keepB, he])]
      exact Ev.pos he (again out (by omega))
    · rw [List.filter_cons_of_pos (by simp [keepB, he])]
      refine Ev.neg he (Ev.pos (by omega) (Ev.eq (again _ (by simp only [List.length_append, List.length_cons, List.length_nil]; omega)) ?_))
      rw [List.append_assoc]; rfl
  · rw [List.drop_eq_nil_of_le (by omega)]
    refine Ev.neg (by omega) (Ev.eq (Ev.now _) ?_)
    simp
theorem rWithout_ev (l : List S68) (hl : l.length ≤ 256) (a : ByteArray) : Ev (fun k => r_Without.f k l a) (l.filter (keepB a)) := Ev.eq (rwith_loop l hl a 0 (Nat.zero_le _) [] (Nat.le_refl _)) rfl
theorem rsame_loop (l : List S68) (hl : l.length ≤ 256) : ∀ i, i ≤ l.length → Ev (fun k => r_Same.l0 k l l (i : Int)) true := by
  refine up_to l.length ?_
  intro i hi ih
  refine Ev.succ ?_
  simp only [r_Same.l0]
  by_cases hlt : i < l.length
  · rw [wi (by omega)]
    exact Ev.pos (by omega) (Ev.pos (by omega) (Ev.pos (by omega) (Ev.neg (by simp) (ih hlt))))
  · exact Ev.neg (by omega) (Ev.now _)
theorem rSame_ev (l : List S68) (hl : l.length ≤ 256) : Ev (fun k => r_Same.f k l l) true := by
  unfold r_Same.f
  exact Ev.pos rfl (rsame_loop l hl 0 (Nat.zero_le _))
section
variable {l : List S68} {i : Nat} {x : S68}
def NoCh (l rest : List S68) (b : S43) : Prop := ∀ p0 p1 p2, Md.hasB (bx b) p0 p1 p2 = true → Md.st (l.map ev) p0 p1 p2 = Md.st (rest.map ev) p0 p1 p2
theorem hit_one (y : Md.Ev) (m : List Md.Ev) (n p0 p1 p2 : Int) : Md.hit (y :: m) n p0 p1 p2 = (decide (y.s = n) && Md.hasB y.b p0 p1 p2 || Md.hit m n p0 p1 p2) := by simp [Md.hit]
theorem st_with {A B : List S68} (ok : ∀ y ∈ A ++ x :: B, Ok y) {p0 p1 p2 : Int} (hb : Md.hasB (bx x.f1) p0 p1 p2 = true) : Md.st ((A ++ x :: B).map ev) p0 p1 p2 = Md.jn (Md.st ((A ++ B).map ev) p0 p1 p2) x.f2 := by
  have ok2 : ∀ y ∈ A ++ B, Ok y := fun y hy => ok y (by
    rcases List.mem_append.1 hy with h | h
    · exact List.mem_append.2 (.inl h)
    · exact List.mem_append.2 (.inr (List.mem_cons_of_mem _ h)))
  have hx : Ok x := ok x (List.mem_append.2 (.inr List.mem_cons_self))
  have hh : ∀ n, Md.hit ((A ++ x :: B).map ev) n p0 p1 p2 = (Md.hit ((A ++ B).map ev) n p0 p1 p2 || decide (x.f2 = n)) := fun n => by
    rw [List.map_append, List.map_append, List.map_cons, Md.hit_app, Md.hit_app, hit_one]
    have e : Md.hasB (ev x).b p0 p1 p2 = true := hb
    rw [e, Bool.and_true]
    show (_ || (decide (x.f2 = n) || _)) = _
    cases Md.hit (A.map ev) n p0 p1 p2 <;> cases Md.hit (B.map ev) n p0 p1 p2 <;> cases decide (x.f2 = n) <;> rfl
  rw [Md.st_val (ok_ev ok), Md.st_val (ok_ev ok2), Md.jn_val hx.s, hh, hh]
theorem yl_use (m : List S68) (hm : m.length < 1000000) (st : Int) : ∀ L : List S43, Ev (fun k => yl (fun p => model_at.f k m p.f0.f0 p.f0.f1 p.f0.f2) (useStep k st) L true) (L.all fun p => Md.jn (stL m p.f0.f0 p.f0.f1 p.f0.f2) st == stL m p.f0.f0 p.f0.f1 p.f0.f2)
  | [] => by
    simp only [yl, List.all_nil]
    exact Ev.now _
  | p :: L => by
    simp only [yl, List.all_cons]
    refine Ev.bind (at_ev m _ _ _ hm) (Ev.bind (a := (Md.jn (stL m p.f0.f0 p.f0.f1 p.f0.f2) st == stL m p.f0.f0 p.f0.f1 p.f0.f2, Md.jn (stL m p.f0.f0 p.f0.f1 p.f0.f2) st == stL m p.f0.f0 p.f0.f1 p.f0.f2)) ?_ ?_)
    · unfold useStep
      exact Ev.bind (join_ev _ _) (Ev.now _)
    · cases hc : (Md.jn (stL m p.f0.f0 p.f0.f1 p.f0.f2) st == stL m p.f0.f0 p.f0.f1 p.f0.f2) with
      | true => exact Ev.pos rfl (Ev.eq (yl_use m hm st L) (by simp))
      | false => exact Ev.neg (by simp) (Ev.eq (Ev.now _) (by simp))
theorem split_at (hi : i < l.length) (hx : x = l.getD i z68) : l = l.take i ++ x :: l.drop (i + 1) := by
  conv => lhs; rw [← List.take_append_drop i l, drop_cons l i z68 hi, ← hx]
theorem Useless_ev (hc : chkE l = 0) (hl : l.length ≤ 20) (hi : i < l.length) (hx : x = l.getD i z68) : ∃ r, Ev (fun k => model_Useless.f k l (i : Int)) (r, 0) ∧ (r = true ↔ NoCh l (l.take i ++ l.drop (i + 1)) x.f1) := by
  have ok := ((chkE0 l).1 hc).2
  have hs := split_at hi hx
  obtain ⟨rest, er⟩ : ∃ rest, rest = l.take i ++ l.drop (i + 1) := ⟨_, rfl⟩
  have okr : ∀ y ∈ rest, Ok y := fun y hy => ok y (by
    rw [er] at hy
    rcases List.mem_append.1 hy with h | h
    · exact List.mem_of_mem_take h
    · exact List.mem_of_mem_drop h)
  have hlr : rest.length ≤ 20 := by rw [er, List.length_append, List.length_take, List.length_drop]; omega
  have okx : Ok x := ok x (by rw [hs]; exact List.mem_append.2 (.inr List.mem_cons_self))
  have hw : ∀ p0 p1 p2, Md.hasB (bx x.f1) p0 p1 p2 = true → Md.st (l.map ev) p0 p1 p2 = Md.jn (Md.st (rest.map ev) p0 p1 p2) x.f2 := fun p0 p1 p2 hb => by
    have := st_with (A := l.take i) (B := l.drop (i + 1)) (x := x) (by rw [← hs]; exact ok) hb
    rw [← hs, ← er] at this
    exact this
  have hnl : (nearL x.f1 rest).length < 1000000 := by
    have := List.length_filter_le (fun z : S68 => ovB z.f1 x.f1) rest
    unfold nearL
    omega
  have y := yl_use (nearL x.f1 rest) hnl x.f2 (plist x.f1 (nearL x.f1 rest))
  refine ⟨(plist x.f1 (nearL x.f1 rest)).all fun p => Md.jn (stL (nearL x.f1 rest) p.f0.f0 p.f0.f1 p.f0.f2) x.f2 == stL (nearL x.f1 rest) p.f0.f0 p.f0.f1 p.f0.f2, ?_, ?_⟩
  · unfold model_Useless.f
    refine Ev.bind (Check_ev l) (Ev.pos hc (Ev.pos (by omega) (Ev.pos (by omega) (Ev.pos (by omega) (Ev.bind ?_ (Ev.now _))))))
    rw [rd_at, ← hx, Int.toNat_natCast, ← er]
    exact y
  · rw [List.all_eq_true, ← er]
    have hcu := cuts_is okx.v (nearL x.f1 rest)
    constructor
    · intro ha p0 p1 p2 hb
      obtain ⟨q, hq, hxq⟩ := hcu.find hb
      rw [← parts_eq] at hq
      obtain ⟨p, hp, rfl⟩ := List.mem_map.1 hq
      have e := hcu.st (by rw [← parts_eq]; exact List.mem_map.2 ⟨p, hp, rfl⟩) hxq
      have h1 : Md.jn (Md.st ((nearL x.f1 rest).map ev) p.f0.f0 p.f0.f1 p.f0.f2) x.f2 = Md.st ((nearL x.f1 rest).map ev) p.f0.f0 p.f0.f1 p.f0.f2 := beq_iff_eq.1 (ha p hp)
      have e2 : Md.st ((nearL x.f1 rest).map ev) p0 p1 p2 = Md.st ((nearL x.f1 rest).map ev) p.f0.f0 p.f0.f1 p.f0.f2 := e
      rw [hw p0 p1 p2 hb, ← near_st okr hb, e2, h1]
    · intro ha p hp
      have hm : bx p ∈ Md.parts (xsL x.f1 (nearL x.f1 rest)) (ysL x.f1 (nearL x.f1 rest)) (zsL x.f1 (nearL x.f1 rest)) := by rw [← parts_eq]; exact List.mem_map.2 ⟨p, hp, rfl⟩
      have hlst := (hcu.least hm).2
      have := ha _ _ _ hlst
      rw [hw _ _ _ hlst, ← near_st okr hlst] at this
      exact beq_iff_eq.2 this
theorem ruse_loop (m P0 : List S68) (h1 : m.length < 1000000) (h2 : P0.length < 1000000) (P : List S43) (hn : P.length < 1000000) : ∀ i, i ≤ P.length →
    Ev (fun k => r_Useless.l0 k m P0 P (i : Int)) ((P.drop i).all fun p => stL m p.f0.f0 p.f0.f1 p.f0.f2 == stL P0 p.f0.f0 p.f0.f1 p.f0.f2) := by
  refine up_to P.length ?_
  intro i hi ih
  refine Ev.succ ?_
  simp only [r_Useless.l0]
  by_cases hlt : i < P.length
  · have hd : P.drop i = P.getD i z43 :: P.drop (i + 1) := drop_cons P i z43 hlt
    have e43 : rd_T43 P (i : Int) = P.getD i z43 := by unfold rd_T43; rw [Int.toNat_natCast]
    rw [e43, hd, List.all_cons]
    refine Ev.pos (by omega) (Ev.pos (by omega) (Ev.bind (rstate_ev m _ _ _ h1) (Ev.bind (rstate_ev P0 _ _ _ h2) ?_)))
    by_cases hs : stL m (P.getD i z43).f0.f0 (P.getD i z43).f0.f1 (P.getD i z43).f0.f2 = stL P0 (P.getD i z43).f0.f0 (P.getD i z43).f0.f1 (P.getD i z43).f0.f2
    · refine Ev.pos hs ?_
      rw [wi (by omega)]
      exact Ev.eq (ih hlt) (by rw [beq_iff_eq.2 hs, Bool.true_and])
    · refine Ev.neg hs (Ev.eq (Ev.now _) ?_)
      rw [beq_eq_false_iff_ne.2 hs, Bool.false_and]
  · rw [List.drop_of_length_le (by omega)]
    exact Ev.neg (by omega) (Ev.now _)
theorem rUseless_ev (hc : chkE l = 0) (hl : l.length ≤ 20) (hi : i < l.length) (hx : x = l.getD i z68) : ∃ r, Ev (fun k => r_Useless.f k l (i : Int)) r ∧ (r = true ↔ NoCh l (l.take i ++ l.drop (i + 1)) x.f1) := by
  have ok := ((chkE0 l).1 hc).2
  have hs := split_at hi hx
  obtain ⟨rest, er⟩ : ∃ rest, rest = l.take i ++ l.drop (i + 1) := ⟨_, rfl⟩
  have hlr : rest.length ≤ 20 := by rw [er, List.length_append, List.length_take, List.length_drop]; omega
  have okx : Ok x := ok x (by rw [hs]; exact List.mem_append.2 (.inr List.mem_cons_self))
  have y := ruse_loop l rest (by omega) (by omega) (plR x.f1 l) (plR_len x.f1 l hl) 0 (Nat.zero_le _)
  rw [List.drop_zero] at y
  have t1 : (l.take i).length ≤ l.length := by rw [List.length_take]; omega
  have t2 : (l.drop (i + 1)).length ≤ l.length := by rw [List.length_drop]; omega
  refine ⟨(plR x.f1 l).all fun p => stL l p.f0.f0 p.f0.f1 p.f0.f2 == stL rest p.f0.f0 p.f0.f1 p.f0.f2, ?_, ?_⟩
  · unfold r_Useless.f
    rw [wi (by omega), rd_at, ← hx, Int.toNat_natCast, Int.toNat_natCast]
    refine Ev.cbind rfl (Ev.pos (by omega) (Ev.pos (by omega) (Ev.cbind rfl (Ev.pos (by simp only [List.length_nil]; omega) (Ev.cbind rfl (Ev.pos (by omega) (Ev.pos (by omega) (Ev.cbind rfl (Ev.pos ?_ (Ev.pos (by omega) (Ev.bind (Parts_ev x.f1 l hl) ?_)))))))))))
    · rw [List.nil_append]; omega
    · rw [List.nil_append, ← er]; exact y
  · rw [List.all_eq_true, ← er]
    have hcu := cutsR okx.v l
    have sub : ∀ y ∈ rest, y ∈ l := fun y hy => by
      rw [er] at hy
      rcases List.mem_append.1 hy with h | h
      · exact List.mem_of_mem_take h
      · exact List.mem_of_mem_drop h
    constructor
    · intro ha p0 p1 p2 hb
      obtain ⟨q, hq, hxq⟩ := hcu.find hb
      have hq' := hq
      rw [← plR_parts] at hq'
      obtain ⟨p, hp, rfl⟩ := List.mem_map.1 hq'
      have e1 : Md.st (l.map ev) p0 p1 p2 = Md.st (l.map ev) p.f0.f0 p.f0.f1 p.f0.f2 := hcu.st hq hxq
      have e2 : Md.st (rest.map ev) p0 p1 p2 = Md.st (rest.map ev) p.f0.f0 p.f0.f1 p.f0.f2 := Md.st_same fun e he => by
        obtain ⟨z, hz, rfl⟩ := List.mem_map.1 he
        exact hcu.same hq hxq (List.mem_map.2 ⟨z, sub z hz, rfl⟩)
      have h1 : Md.st (l.map ev) p.f0.f0 p.f0.f1 p.f0.f2 = Md.st (rest.map ev) p.f0.f0 p.f0.f1 p.f0.f2 := beq_iff_eq.1 (ha p hp)
      rw [e1, e2, h1]
    · intro ha p hp
      have hm : bx p ∈ Md.parts (cutR x.f1.f0.f0 x.f1.f1.f0 [] (l.map prX)) (cutR x.f1.f0.f1 x.f1.f1.f1 [] (l.map prY)) (cutR x.f1.f0.f2 x.f1.f1.f2 [] (l.map prZ)) := by rw [← plR_parts]; exact List.mem_map.2 ⟨p, hp, rfl⟩
      exact beq_iff_eq.2 (ha _ _ _ (hcu.least hm).2)
end
theorem Useless_bad (l : List S68) (n : Int) (hc : chkE l ≠ 0) : Ev (fun k => model_Useless.f k l n) (false, chkE l) := by
  unfold model_Useless.f
  exact Ev.bind (Check_ev l) (Ev.neg hc (Ev.now _))
theorem Useless_out (l : List S68) (n : Int) (hc : chkE l = 0) (hn : ¬ (0 ≤ n ∧ n < (l.length : Int))) : Ev (fun k => model_Useless.f k l n) (false, 6) := by
  unfold model_Useless.f
  refine Ev.bind (Check_ev l) (Ev.pos hc ?_)
  by_cases h : 0 ≤ n
  · exact Ev.pos h (Ev.neg (fun h2 => hn ⟨h, h2⟩) (Ev.now _))
  · exact Ev.neg h (Ev.now _)
theorem clash_loop (l : List S68) (n : Int) (C : List S65) (hC : C.length < 1000000) (u : Bool) (e : Int) (fin : Ev (fun k => if n < 0 then (if e = 6 then some (!u) else some false) else (if n ≥ (l.length : Int) then (if e = 6 then some (!u) else some false) else (if e = 0 then ((r_Useless.f k l n).bind fun t => some (u == t)) else some false))) true) :
    ∀ i, i ≤ C.length → Ev (fun k => w_ModelLists.l0 k l n C u e C (i : Int)) true := by
  refine up_to C.length ?_
  intro i hi ih
  refine Ev.succ ?_
  simp only [w_ModelLists.l0]
  by_cases hlt : i < C.length
  · rw [wi (by omega)]
    exact Ev.pos (by omega) (Ev.pos (by omega) (Ev.pos (by omega) (Ev.neg (by simp) (ih hlt))))
  · exact Ev.neg (by omega) fin
theorem Lists_core (l : List S68) (a : ByteArray) (n : Int) : Ev (fun k => w_ModelLists.f k l a n) true := by
  obtain ⟨s0, hs0, hsm⟩ := small_ev l 10 (by decide)
  have j0 : ∀ t : Bool, (t = false → s0 = true) → Ev (fun k => w_ModelLists.j0 k l a n t) true := by
    intro t ht
    refine Ev.succ ?_
    simp only [w_ModelLists.j0]
    cases t with
    | true => exact Ev.pos rfl (Ev.now _)
    | false =>
      have hlen : l.length ≤ 20 := by have := (hsm (ht rfl)).1; omega
      refine Ev.neg (by simp) (Ev.bind (Clashes_ev l) (Ev.bind (Without_ev l a) ?_))
      by_cases hc : chkE l = 0
      · have ok := ((chkE0 l).1 hc).2
        have e1 : clashP l = (allC l 0, 0) := if_pos hc
        have e2 : withP l a = (l.filter (keepB a), 0) := if_pos hc
        rw [e1, e2]
        have hlc := allC_len l 0
        have hlc2 : l.length * l.length ≤ 20 * 20 := Nat.mul_le_mul hlen hlen
        have hlf := List.length_filter_le (keepB a) l
        have mid : ∀ (u : Bool) (e : Int), Ev (fun k => model_Useless.f k l n) (u, e) →
            Ev (fun k => if n < 0 then (if e = 6 then some (!u) else some false) else (if n ≥ (l.length : Int) then (if e = 6 then some (!u) else some false) else (if e = 0 then ((r_Useless.f k l n).bind fun t => some (u == t)) else some false))) true →
            Ev (fun k => (model_Useless.f k l n).bind fun bt432 => ((r_Check.f k l).bind fun t434 => (if t434 = 0 then ((r_Clashes.f k l).bind fun t435 => (if (0 : Int) = 0 then (if (0 : Int) = 0 then (if ((allC l 0).length : Int) = (t435.length : Int) then ((r_Without.f k l a).bind fun t438 => ((r_Same.f k (l.filter (keepB a)) t438).bind fun t441 => (w_ModelLists.j2 k l n (allC l 0) bt432.1 bt432.2 t435 (!t441)))) else (w_ModelLists.j2 k l n (allC l 0) bt432.1 bt432.2 t435 true)) else (w_ModelLists.j2 k l n (allC l 0) bt432.1 bt432.2 t435 true)) else (w_ModelLists.j2 k l n (allC l 0) bt432.1 bt432.2 t435 true))) else (if (0 : Int) = t434 then (if (0 : Int) = t434 then (if bt432.2 = t434 then (if ((allC l 0).length : Int) = 0 then (if ((l.filter (keepB a)).length : Int) = 0 then (w_ModelLists.j1 k (!bt432.1)) else (w_ModelLists.j1 k false)) else (w_ModelLists.j1 k false)) else (w_ModelLists.j1 k false)) else (w_ModelLists.j1 k false)) else (w_ModelLists.j1 k false))))) true := by
          intro u e hU fin
          refine Ev.bind hU (Ev.bind (rCheck_ev l) (Ev.pos hc (Ev.bind (rClashes_ev l (by omega) fun x hx => (ok x hx).v) (Ev.pos rfl (Ev.pos rfl (Ev.pos rfl (Ev.bind (rWithout_ev l (by omega) a) (Ev.bind (rSame_ev _ (by omega)) (Ev.succ ?_)))))))))
          simp only [w_ModelLists.j2]
          exact Ev.neg (by simp) (clash_loop l n _ (by omega) u e fin 0 (Nat.zero_le _))
        by_cases hn : 0 ≤ n ∧ n < (l.length : Int)
        · obtain ⟨i, rfl⟩ : ∃ i : Nat, n = (i : Int) := ⟨n.toNat, by omega⟩
          obtain ⟨r, hr, hrq⟩ := Useless_ev hc hlen (by omega : i < l.length) rfl
          obtain ⟨r', hr', hrq'⟩ := rUseless_ev hc hlen (by omega : i < l.length) rfl
          have e3 : r = r' := by rw [Bool.eq_iff_iff, hrq, hrq']
          exact mid r 0 hr (Ev.neg (by omega) (Ev.neg (by omega) (Ev.pos rfl (Ev.bind hr' (Ev.const (by rw [e3]; simp))))))
        · refine mid false 6 (Useless_out l n hc hn) ?_
          by_cases h0 : n < 0
          · exact Ev.pos h0 (Ev.pos rfl (Ev.now _))
          · exact Ev.neg h0 (Ev.pos (by omega) (Ev.pos rfl (Ev.now _)))
      · have e1 : clashP l = ([], chkE l) := if_neg hc
        have e2 : withP l a = ([], chkE l) := if_neg hc
        rw [e1, e2]
        refine Ev.bind (Useless_bad l n hc) (Ev.bind (rCheck_ev l) (Ev.neg hc (Ev.pos rfl (Ev.pos rfl (Ev.pos rfl (Ev.pos rfl (Ev.pos rfl (Ev.succ ?_))))))))
        simp only [w_ModelLists.j1]
        exact Ev.now _
  unfold w_ModelLists.f
  refine Ev.bind awake_ev (Ev.pos rfl (Ev.bind hs0 ?_))
  cases s0 with
  | false => exact Ev.neg (by simp) (j0 _ (fun h => by cases h))
  | true => exact Ev.pos rfl (j0 _ fun _ => rfl)
end
end Go.Proofs.Ytcofgnbopodahaa.Mp
