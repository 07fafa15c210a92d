import Derived.Test.YtcofgnbopodahaaJMdB
import Derived.Test.YtcofgnbopodahaaJEvKit
import Derived.Test.YtcofgnbopodahaaJQAx6
import Derived.Test.YtcofgnbopodahaaJQAx5
import Derived.Test.YtcofgnbopodahaaJQAx4
import Derived.Test.YtcofgnbopodahaaJQAx11
import Derived.Test.YtcofgnbopodahaaJQAx12
import Derived.Test.YtcofgnbopodahaaJQAx13
import Derived.Test.YtcofgnbopodahaaJQAx16
import Derived.Test.YtcofgnbopodahaaJQAx14
import Derived.Test.YtcofgnbopodahaaJQAx7
namespace Go.Proofs.Ytcofgnbopodahaa.Mp
section
open Go.RowKit Go.Proofs.Ytcofgnbopodahaa.QA Go.Proofs.YtcofgnbopodahaaW.PrintWords Go.Proofs.YtcofgnbopodahaaW.PrintLast Go.Proofs.YtcofgnbopodahaaW.PrintMore Go.Proofs.Ytcofgnbopodahaa.EvKit
set_option linter.unusedVariables false
set_option linter.unusedSimpArgs false
def bx (b : S43) : Md.Bx := ⟨b.f0.f0, b.f0.f1, b.f0.f2, b.f1.f0, b.f1.f1, b.f1.f2⟩
def ev (x : S68) : Md.Ev := ⟨bx x.f1, x.f2⟩
theorem has_ev (b : S43) (p0 p1 p2 : Int) : Ev (fun k => box_Has.f k b.f0.f0 b.f0.f1 b.f0.f2 b.f1.f0 b.f1.f1 b.f1.f2 p0 p1 p2) (Md.hasB (bx b) p0 p1 p2) := by
  refine ⟨2, fun k hk => ?_⟩
  obtain ⟨n, rfl⟩ : ∃ n, k = n + 2 := ⟨k - 2, by omega⟩
  have e : Md.hasB (bx b) p0 p1 p2 = decide (b.f0.f0 ≤ p0 ∧ p0 < b.f1.f0 ∧ b.f0.f1 ≤ p1 ∧ p1 < b.f1.f1 ∧ b.f0.f2 ≤ p2 ∧ p2 < b.f1.f2) := by
    rw [Bool.eq_iff_iff, Md.hasB_iff, decide_eq_true_eq]; exact Iff.rfl
  rw [e]
  simp only [box_Has.f, box_Has.j0]
  repeat' split
  all_goals (congr 1; simp only [decide_eq_decide, eq_comm (a := false), decide_eq_false_iff_not]; omega)
theorem join_eq (n : Nat) (a b : Int) : model_join.f (n + 1) a b = some (Md.jn a b) := by
  unfold model_join.f Md.jn
  by_cases h1 : a = 0
  · simp [h1, model_join.j0]
  · by_cases h2 : a = b
    · simp [h2, model_join.j0]
    · by_cases h3 : b = 0
      · simp [h1, h3, model_join.j0]
      · simp [h1, h2, h3, model_join.j0]
theorem join_ev (a b : Int) : Ev (fun k => model_join.f k a b) (Md.jn a b) := by
  refine ⟨1, fun k hk => ?_⟩
  obtain ⟨n, rfl⟩ : ∃ n, k = n + 1 := ⟨k - 1, by omega⟩
  exact join_eq n a b
theorem rd_at (l : List S68) (i : Nat) : rd_T68 l (i : Int) = l.getD i z68 := by unfold rd_T68; rw [Int.toNat_natCast]
theorem wi {i : Nat} (h : i < 1000000) : wrap64 ((i : Int) + 1) = ((i + 1 : Nat) : Int) := by rw [w64 (by omega) (by omega)]; omega
theorem at_loop (l : List S68) (p0 p1 p2 : Int) (hl : l.length < 1000000) : ∀ i, i ≤ l.length → ∀ o : Int, Ev (fun k => model_at.l0 k o l (l.length : Int) (i : Int) p0 p1 p2) (((l.drop i).map ev).foldl (Md.step p0 p1 p2) o) := by
  refine up_to l.length ?_
  intro i hi ih o
  refine Ev.succ ?_
  simp only [model_at.l0]
  by_cases hlt : i < l.length
  · refine Ev.pos (by omega) (Ev.pos (by omega) (Ev.pos (by omega) ?_))
    have hd := drop_cons l i z68 hlt
    rw [rd_at]
    obtain ⟨x, hx⟩ : ∃ x, x = l.getD i z68 := ⟨_, rfl⟩
    rw [← hx] at hd ⊢
    rw [hd, List.map_cons, List.foldl_cons]
    refine Ev.bind (has_ev x.f1 p0 p1 p2) ?_
    have st : Md.step p0 p1 p2 o (ev x) = if Md.hasB (bx x.f1) p0 p1 p2 = true then Md.jn o x.f2 else o := rfl
    by_cases hb : Md.hasB (bx x.f1) p0 p1 p2 = true
    · rw [st, if_pos hb]
      refine Ev.pos hb (Ev.bind (join_ev o x.f2) (Ev.succ ?_))
      simp only [model_at.j1]
      rw [wi (by omega)]
      exact ih hlt _
    · rw [st, if_neg hb]
      refine Ev.neg hb (Ev.succ ?_)
      simp only [model_at.j1]
      rw [wi (by omega)]
      exact ih hlt _
  · rw [List.drop_eq_nil_of_le (by omega)]
    exact Ev.neg (by omega) (Ev.now _)
def stL (l : List S68) (p0 p1 p2 : Int) : Int := Md.st (l.map ev) p0 p1 p2
theorem at_ev (l : List S68) (p0 p1 p2 : Int) (hl : l.length < 1000000) : Ev (fun k => model_at.f k l p0 p1 p2) (stL l p0 p1 p2) := at_loop l p0 p1 p2 hl 0 (Nat.zero_le _) 0
def okB (s : ByteArray) (i : Int) : Bool := !(decide (bt s i < 32) || (decide (bt s i > 126) || bt s i == 34))
def labR (s : ByteArray) : Nat → Nat → Bool
  | 0, _ => true
  | d + 1, i => okB s (i : Int) && labR s d (i + 1)
def labB (s : ByteArray) : Bool := if (s.size : Int) < 1 then false else if (s.size : Int) > 40 then false else if bt s 0 = 32 then false else if bt s ((s.size : Int) - 1) = 32 then false else labR s s.size 0
theorem lab_loop (s : ByteArray) (hs : s.size ≤ 40) : ∀ (d i : Nat), i + d = s.size → Ev (fun k => model_label.l0 k s (s.size : Int) (i : Int)) (labR s d i)
  | 0, i, h => by
    refine Ev.succ ?_
    simp only [model_label.l0]
    exact Ev.neg (by omega) (Ev.now _)
  | d + 1, i, h => by
    refine Ev.succ ?_
    simp only [model_label.l0]
    refine Ev.pos (by omega) (Ev.pos (by omega) (Ev.pos (by omega) ?_))
    have ih := lab_loop s hs d (i + 1) (by omega)
    have go : ∀ b : Bool, okB s (i : Int) = !b → Ev (fun k => model_label.j2 k s (s.size : Int) (i : Int) b) (labR s (d + 1) i) := by
      intro b hb
      refine Ev.succ ?_
      simp only [model_label.j2]
      unfold labR
      rw [hb]
      cases b with
      | true => exact Ev.pos rfl (Ev.now _)
      | false =>
        refine Ev.neg (by simp) ?_
        rw [wi (by omega)]
        simpa using ih
    by_cases c1 : bt s (i : Int) < 32
    · exact Ev.pos c1 (go true (by simp [okB, c1]))
    · refine Ev.neg c1 ?_
      by_cases c2 : bt s (i : Int) > 126
      · exact Ev.pos c2 (go true (by simp [okB, c2]))
      · exact Ev.neg c2 (go _ (by simp [okB, c1, c2]))
theorem label_ev (s : ByteArray) : Ev (fun k => model_label.f k s) (labB s) := by
  have no : Ev (fun k => model_label.j0 k s true) false := by
    refine Ev.succ ?_
    simp only [model_label.j0]
    exact Ev.pos trivial (Ev.now _)
  unfold model_label.f labB
  by_cases c1 : (s.size : Int) < 1
  · rw [if_pos c1]; exact Ev.pos c1 no
  rw [if_neg c1]
  refine Ev.neg c1 ?_
  by_cases c2 : (s.size : Int) > 40
  · rw [if_pos c2]; exact Ev.pos c2 no
  rw [if_neg c2]
  refine Ev.neg c2 (Ev.pos (by omega) ?_)
  by_cases c3 : bt s 0 = 32
  · rw [if_pos c3]; exact Ev.pos c3 no
  rw [if_neg c3, w64 (by omega) (by omega)]
  refine Ev.neg c3 (Ev.pos (by omega) (Ev.pos (by omega) (Ev.succ ?_)))
  simp only [model_label.j0]
  by_cases c4 : bt s ((s.size : Int) - 1) = 32
  · rw [if_pos c4]; exact Ev.pos (by simpa using c4) (Ev.now _)
  · rw [if_neg c4]
    exact Ev.neg (by simpa using c4) (lab_loop s (by omega) s.size 0 (by omega))
def inR (n : Int) : Bool := decide (-1000000 ≤ n) && decide (n ≤ 1000000)
def chk (x : S43) : Int := if inR x.f0.f0 && inR x.f1.f0 && inR x.f0.f1 && inR x.f1.f1 && inR x.f0.f2 && inR x.f1.f2 then (if x.f0.f0 < x.f1.f0 ∧ x.f0.f1 < x.f1.f1 ∧ x.f0.f2 < x.f1.f2 then 0 else 1) else 6
theorem in_is (n : Int) : box_in.f n = some (inR n) := by
  unfold box_in.f inR
  by_cases h : n ≥ -1000000
  · rw [if_pos h, decide_eq_true (show -1000000 ≤ n from h), Bool.true_and]
  · rw [if_neg h, decide_eq_false (show ¬ -1000000 ≤ n from h), Bool.false_and]
theorem check_is (x : S43) : box_Check.f x.f0.f0 x.f0.f1 x.f0.f2 x.f1.f0 x.f1.f1 x.f1.f2 = some (chk x) := by
  unfold box_Check.f chk
  simp only [box_sides.f, in_is, Option.bind_some]
  cases inR x.f0.f0 <;> cases inR x.f1.f0 <;> cases inR x.f0.f1 <;> cases inR x.f1.f1 <;> cases inR x.f0.f2 <;> cases inR x.f1.f2 <;> first | rfl | (simp; repeat' split) <;> first | rfl | omega
structure V (x : S43) : Prop where
  r0 : -1000000 ≤ x.f0.f0 ∧ x.f0.f0 ≤ 1000000
  r1 : -1000000 ≤ x.f0.f1 ∧ x.f0.f1 ≤ 1000000
  r2 : -1000000 ≤ x.f0.f2 ∧ x.f0.f2 ≤ 1000000
  r3 : -1000000 ≤ x.f1.f0 ∧ x.f1.f0 ≤ 1000000
  r4 : -1000000 ≤ x.f1.f1 ∧ x.f1.f1 ≤ 1000000
  r5 : -1000000 ≤ x.f1.f2 ∧ x.f1.f2 ≤ 1000000
  l0 : x.f0.f0 < x.f1.f0
  l1 : x.f0.f1 < x.f1.f1
  l2 : x.f0.f2 < x.f1.f2
theorem inR_iff (n : Int) : inR n = true ↔ -1000000 ≤ n ∧ n ≤ 1000000 := by simp [inR]
theorem chk0 (x : S43) : chk x = 0 ↔ V x := by
  unfold chk
  simp only [Bool.and_eq_true, inR_iff]
  constructor
  · intro h
    by_cases hr : (((((-1000000 ≤ x.f0.f0 ∧ x.f0.f0 ≤ 1000000) ∧ -1000000 ≤ x.f1.f0 ∧ x.f1.f0 ≤ 1000000) ∧ -1000000 ≤ x.f0.f1 ∧ x.f0.f1 ≤ 1000000) ∧ -1000000 ≤ x.f1.f1 ∧ x.f1.f1 ≤ 1000000) ∧ -1000000 ≤ x.f0.f2 ∧ x.f0.f2 ≤ 1000000) ∧ -1000000 ≤ x.f1.f2 ∧ x.f1.f2 ≤ 1000000
    · rw [if_pos hr] at h
      by_cases hv : x.f0.f0 < x.f1.f0 ∧ x.f0.f1 < x.f1.f1 ∧ x.f0.f2 < x.f1.f2
      · exact ⟨by omega, by omega, by omega, by omega, by omega, by omega, hv.1, hv.2.1, hv.2.2⟩
      · rw [if_neg hv] at h; cases h
    · rw [if_neg hr] at h; cases h
  · rintro ⟨⟩
    rw [if_pos ⟨⟨⟨⟨⟨by assumption, by assumption⟩, by assumption⟩, by assumption⟩, by assumption⟩, by assumption⟩, if_pos ⟨by assumption, by assumption, by assumption⟩]
def badS (x : S68) : Bool := if x.f2 = 1 then false else x.f2 != 2
def chkR (l : List S68) : List S68 → Int
  | [] => if l.any badS = true then 1 else 0
  | x :: r => if chk x.f1 = 0 then chkR l r else chk x.f1
def chkE (l : List S68) : Int := if (l.length : Int) > 256 then 7 else if (l.any fun x => !labB x.f0) = true then 4 else chkR l l
theorem any1_ev : ∀ l : List S68, Ev (fun k => anyK (fun x => model_Check_1.f k x.f0 x.f1.f0.f0 x.f1.f0.f1 x.f1.f0.f2 x.f1.f1.f0 x.f1.f1.f1 x.f1.f1.f2 x.f2) l) (l.any fun x => !labB x.f0)
  | [] => Ev.now _
  | x :: l => by
    simp only [anyK, model_Check_1.f]
    refine Ev.bind (g := fun k => (model_label.f k x.f0).bind fun t => some (!t)) (Ev.bind (label_ev x.f0) (Ev.now _)) ?_
    rw [List.any_cons]
    cases hb : labB x.f0 with
    | true =>
      refine Ev.neg (by simp) ?_
      exact any1_ev l
    | false => exact Ev.pos rfl (Ev.now _)
theorem any2_ev : ∀ l : List S68, Ev (fun k => anyK (fun x => model_Check_2.f x.f0 x.f1.f0.f0 x.f1.f0.f1 x.f1.f0.f2 x.f1.f1.f0 x.f1.f1.f1 x.f1.f1.f2 x.f2) l) (l.any badS)
  | [] => Ev.now _
  | x :: l => by
    have e : model_Check_2.f x.f0 x.f1.f0.f0 x.f1.f0.f1 x.f1.f0.f2 x.f1.f1.f0 x.f1.f1.f1 x.f1.f1.f2 x.f2 = some (badS x) := by
      unfold model_Check_2.f badS
      by_cases h : x.f2 = 1
      · rw [if_pos h, if_pos h]
      · rw [if_neg h, if_neg h]
    simp only [anyK]
    refine Ev.cbind e ?_
    rw [List.any_cons]
    cases hb : badS x with
    | true => exact Ev.pos rfl (Ev.now _)
    | false =>
      refine Ev.neg (by simp) ?_
      exact any2_ev l
theorem check_loop (l : List S68) (hl : l.length < 1000000) : ∀ i, i ≤ l.length → Ev (fun k => model_Check.l0 k l l (l.length : Int) (i : Int)) (chkR l (l.drop i)) := by
  refine up_to l.length ?_
  intro i hi ih
  refine Ev.succ ?_
  simp only [model_Check.l0]
  by_cases hlt : i < l.length
  · refine Ev.pos (by omega) (Ev.pos (by omega) (Ev.pos (by omega) ?_))
    have hd := drop_cons l i z68 hlt
    rw [rd_at]
    obtain ⟨x, hx⟩ : ∃ x, x = l.getD i z68 := ⟨_, rfl⟩
    rw [← hx] at hd ⊢
    rw [hd]
    refine Ev.cbind (check_is x.f1) ?_
    unfold chkR
    by_cases hc : chk x.f1 = 0
    · rw [if_pos hc, wi (by omega)]
      exact Ev.pos hc (ih hlt)
    · rw [if_neg hc]
      exact Ev.neg hc (Ev.now _)
  · rw [List.drop_eq_nil_of_le (by omega)]
    refine Ev.neg (by omega) (Ev.bind (g := fun k => api_Evidence_40.f k l 44) (any2_ev l) ?_)
    unfold chkR
    by_cases hb : l.any badS = true
    · refine Ev.pos hb (Ev.eq (Ev.now _) ?_)
      rw [if_pos hb]
    · refine Ev.neg hb (Ev.eq (Ev.now _) ?_)
      rw [if_neg hb]
theorem Check_ev (l : List S68) : Ev (fun k => model_Check.f k l) (chkE l) := by
  unfold model_Check.f chkE
  by_cases c1 : (l.length : Int) > 256
  · rw [if_pos c1]; exact Ev.pos c1 (Ev.now _)
  rw [if_neg c1]
  refine Ev.neg c1 (Ev.bind (g := fun k => api_Evidence_40.f k l 41) (any1_ev l) ?_)
  by_cases hb : (l.any fun x => !labB x.f0) = true
  · rw [if_pos hb]; exact Ev.pos hb (Ev.now _)
  · rw [if_neg hb]; exact Ev.neg hb (check_loop l (by omega) 0 (Nat.zero_le _))
structure Ok (x : S68) : Prop where
  l : labB x.f0 = true
  v : V x.f1
  s : x.f2 = 1 ∨ x.f2 = 2
theorem badS_iff (x : S68) : badS x = false ↔ x.f2 = 1 ∨ x.f2 = 2 := by
  unfold badS
  by_cases h : x.f2 = 1
  · simp [h]
  · simp [h]
theorem chkR0 (l : List S68) : ∀ r : List S68, chkR l r = 0 ↔ (∀ x ∈ r, V x.f1) ∧ ∀ x ∈ l, x.f2 = 1 ∨ x.f2 = 2
  | [] => by
    unfold chkR
    by_cases hb : l.any badS = true
    · rw [if_pos hb]
      obtain ⟨x, hx, hq⟩ := List.any_eq_true.1 hb
      refine ⟨fun h => (by cases h), fun h => ?_⟩
      rw [(badS_iff x).2 (h.2 x hx)] at hq
      cases hq
    · rw [if_neg hb]
      refine ⟨fun _ => ⟨fun x hx => by simp at hx, fun x hx => (badS_iff x).1 ?_⟩, fun _ => rfl⟩
      exact Bool.eq_false_iff.2 fun h => hb (List.any_eq_true.2 ⟨x, hx, h⟩)
  | x :: r => by
    unfold chkR
    by_cases hc : chk x.f1 = 0
    · rw [if_pos hc, chkR0 l r]
      have := (chk0 x.f1).1 hc
      simp [this]
    · rw [if_neg hc]
      refine ⟨fun h => absurd h hc, fun h => absurd ((chk0 x.f1).2 (h.1 x List.mem_cons_self)) hc⟩
theorem chkE0 (l : List S68) : chkE l = 0 ↔ l.length ≤ 256 ∧ ∀ x ∈ l, Ok x := by
  unfold chkE
  by_cases c1 : (l.length : Int) > 256
  · rw [if_pos c1]; exact ⟨fun h => (by cases h), fun h => by omega⟩
  rw [if_neg c1]
  by_cases hb : (l.any fun x => !labB x.f0) = true
  · rw [if_pos hb]
    obtain ⟨x, hx, h⟩ := List.any_eq_true.1 hb
    refine ⟨fun h => (by cases h), fun h2 => ?_⟩
    rw [(h2.2 x hx).l] at h
    simp at h
  · rw [if_neg hb, chkR0]
    have hlab : ∀ x ∈ l, labB x.f0 = true := fun x hx => by
      cases h : labB x.f0 with
      | true => rfl
      | false => exact absurd (List.any_eq_true.2 ⟨x, hx, by simp [h]⟩) hb
    exact ⟨fun h => ⟨by omega, fun x hx => ⟨hlab x hx, h.1 x hx, h.2 x hx⟩⟩, fun h => ⟨fun x hx => (h.2 x hx).v, fun x hx => (h.2 x hx).s⟩⟩
theorem ok_ev {l : List S68} (h : ∀ x ∈ l, Ok x) : ∀ e ∈ l.map ev, Md.EvOk e := by
  intro e he
  obtain ⟨x, hx, rfl⟩ := List.mem_map.1 he
  exact ⟨⟨(h x hx).v.l0, (h x hx).v.l1, (h x hx).v.l2⟩, (h x hx).s⟩
theorem small_loop (l : List S68) (hl : l.length < 1000000) : ∀ i, i ≤ l.length → Ev (fun k => r_Small.l0 k l (i : Int)) ((l.drop i).all fun x => !decide ((x.f0.size : Int) > 60)) := by
  refine up_to l.length ?_
  intro i hi ih
  refine Ev.succ ?_
  simp only [r_Small.l0]
  by_cases hlt : i < l.length
  · refine Ev.pos (by omega) (Ev.pos (by omega) ?_)
    have hd := drop_cons l i z68 hlt
    rw [rd_at]
    obtain ⟨x, hx⟩ : ∃ x, x = l.getD i z68 := ⟨_, rfl⟩
    rw [← hx] at hd ⊢
    rw [hd, List.all_cons]
    by_cases hc : (x.f0.size : Int) > 60
    · rw [decide_eq_true hc]; exact Ev.pos hc (Ev.now _)
    · rw [decide_eq_false hc, wi (by omega)]
      refine Ev.neg hc ?_
      simpa using ih hlt
  · rw [List.drop_eq_nil_of_le (by omega)]
    exact Ev.neg (by omega) (Ev.now _)
theorem small_ev (l : List S68) (n : Int) (hn : n < 1000000) : ∃ b, Ev (fun k => r_Small.f k l n) b ∧ (b = true → (l.length : Int) ≤ n ∧ ∀ x ∈ l, x.f0.size ≤ 60) := by
  unfold r_Small.f
  by_cases h : (l.length : Int) > n
  · exact ⟨false, Ev.pos h (Ev.now _), fun h => by cases h⟩
  · refine ⟨_, Ev.neg h (small_loop l (by omega) 0 (Nat.zero_le _)), fun hb => ⟨by omega, fun x hx => ?_⟩⟩
    have := List.all_eq_true.1 hb x hx
    simp at this
    omega
end
section
open Go.RowKit Go.Proofs.Ytcofgnbopodahaa.QA Go.Proofs.YtcofgnbopodahaaW.PrintWords Go.Proofs.YtcofgnbopodahaaW.PrintLast Go.Proofs.YtcofgnbopodahaaW.PrintMore Go.Proofs.Ytcofgnbopodahaa.EvKit
set_option linter.unusedVariables false
set_option linter.unusedSimpArgs false
theorem w1 : wrap64 (0 + 1) = 1 := w64 (by omega) (by omega)
theorem w2 : wrap64 (1 + 1) = 2 := w64 (by omega) (by omega)
theorem w3 : wrap64 (2 + 1) = 3 := w64 (by omega) (by omega)
theorem at0 (x y z : Int) : r06_At.f x y z 0 = some x := rfl
theorem at1 (x y z : Int) : r06_At.f x y z 1 = some y := rfl
theorem at2 (x y z : Int) : r06_At.f x y z 2 = some z := rfl
theorem l03 : ((0 : Int) < 3) = True := by simp
theorem l13 : ((1 : Int) < 3) = True := by simp
theorem l23 : ((2 : Int) < 3) = True := by simp
theorem l33 : ((3 : Int) < 3) = False := by simp
theorem rcheck_ev (x : S43) : Ev (fun k => r06_Check.f k x.f0.f0 x.f0.f1 x.f0.f2 x.f1.f0 x.f1.f1 x.f1.f2) (chk x) := by
  refine ⟨12, fun k hk => ?_⟩
  obtain ⟨n, rfl⟩ : ∃ n, k = n + 12 := ⟨k - 12, by omega⟩
  obtain ⟨⟨x0, x1, x2⟩, ⟨x3, x4, x5⟩⟩ := x
  simp only [r06_Check.f, r06_Check.l0, r06_Check.j1, r06_Check.l1, Option.bind_some, w1, w2, w3, at0, at1, at2, l03, l13, l23, l33, if_true, if_false]
  unfold chk inR
  simp only [Bool.and_eq_true, decide_eq_true_eq]
  by_cases hr : (((((-1000000 ≤ x0 ∧ x0 ≤ 1000000) ∧ -1000000 ≤ x3 ∧ x3 ≤ 1000000) ∧ -1000000 ≤ x1 ∧ x1 ≤ 1000000) ∧ -1000000 ≤ x4 ∧ x4 ≤ 1000000) ∧ -1000000 ≤ x2 ∧ x2 ≤ 1000000) ∧ -1000000 ≤ x5 ∧ x5 ≤ 1000000
  · rw [if_pos hr, if_neg (by omega), if_neg (by omega), if_neg (by omega), if_neg (by omega), if_neg (by omega), if_neg (by omega), if_neg (by omega), if_neg (by omega), if_neg (by omega), if_neg (by omega), if_neg (by omega), if_neg (by omega)]
    by_cases hv : x0 < x3 ∧ x1 < x4 ∧ x2 < x5
    · rw [if_pos hv, if_neg (by omega), if_neg (by omega), if_neg (by omega)]
    · rw [if_neg hv]
      by_cases c0 : x0 ≥ x3
      · rw [if_pos c0]
      by_cases c1 : x1 ≥ x4
      · rw [if_neg c0, if_pos c1]
      · rw [if_neg c0, if_neg c1, if_pos (by omega)]
  · rw [if_neg hr]
    have st : ∀ (c : Prop) [Decidable c] (o : Option Int), (¬ c → o = some 6) → (if c then some 6 else o) = some 6 := fun c _ o h => by
      by_cases hc : c
      · rw [if_pos hc]
      · rw [if_neg hc, h hc]
    refine st _ _ fun h1 => st _ _ fun h2 => st _ _ fun h3 => st _ _ fun h4 => st _ _ fun h5 => st _ _ fun h6 => st _ _ fun h7 => st _ _ fun h8 => st _ _ fun h9 => st _ _ fun h10 => st _ _ fun h11 => st _ _ fun h12 => ?_
    exact absurd (show _ from ⟨⟨⟨⟨⟨⟨by omega, by omega⟩, by omega, by omega⟩, by omega, by omega⟩, by omega, by omega⟩, by omega, by omega⟩, by omega, by omega⟩) hr
theorem rlab_loop (s : ByteArray) (hs : s.size ≤ 40) : ∀ (d i : Nat), i + d = s.size → Ev (fun k => r_Label.l0 k s (i : Int)) (labR s d i)
  | 0, i, h => by
    refine Ev.succ ?_
    simp only [r_Label.l0]
    exact Ev.neg (by omega) (Ev.now _)
  | d + 1, i, h => by
    refine Ev.succ ?_
    simp only [r_Label.l0]
    refine Ev.pos (by omega) (Ev.pos (by omega) ?_)
    have ih := rlab_loop s hs d (i + 1) (by omega)
    have go : ∀ b : Bool, okB s (i : Int) = !b → Ev (fun k => r_Label.j2 k s (i : Int) b) (labR s (d + 1) i) := by
      intro b hb
      refine Ev.succ ?_
      simp only [r_Label.j2]
      unfold labR
      rw [hb]
      cases b with
      | true => exact Ev.pos rfl (Ev.now _)
      | false =>
        refine Ev.neg (by simp) ?_
        rw [wi (by omega)]
        simpa using ih
    by_cases c1 : bt s (i : Int) < 32
    · exact Ev.pos c1 (go true (by simp [okB, c1]))
    · refine Ev.neg c1 ?_
      by_cases c2 : bt s (i : Int) > 126
      · exact Ev.pos c2 (go true (by simp [okB, c2]))
      · exact Ev.neg c2 (go _ (by simp [okB, c1, c2]))
theorem rlabel_ev (s : ByteArray) : Ev (fun k => r_Label.f k s) (labB s) := by
  have no : Ev (fun k => r_Label.j0 k s true) false := by
    refine Ev.succ ?_
    simp only [r_Label.j0]
    exact Ev.pos trivial (Ev.now _)
  unfold r_Label.f labB
  by_cases c1 : (s.size : Int) < 1
  · rw [if_pos c1]; exact Ev.pos c1 no
  rw [if_neg c1]
  refine Ev.neg c1 ?_
  by_cases c2 : (s.size : Int) > 40
  · rw [if_pos c2]; exact Ev.pos c2 no
  rw [if_neg c2]
  refine Ev.neg c2 (Ev.pos (by omega) ?_)
  by_cases c3 : bt s 0 = 32
  · rw [if_pos c3]; exact Ev.pos c3 no
  rw [if_neg c3, w64 (by omega) (by omega)]
  refine Ev.neg c3 (Ev.pos (by omega) (Ev.pos (by omega) (Ev.succ ?_)))
  simp only [r_Label.j0]
  by_cases c4 : bt s ((s.size : Int) - 1) = 32
  · rw [if_pos c4]; exact Ev.pos (by simpa using c4) (Ev.now _)
  · rw [if_neg c4]
    exact Ev.neg (by simpa using c4) (rlab_loop s (by omega) s.size 0 (by omega))
theorem rhas_ev (b : S43) (p0 p1 p2 : Int) : Ev (fun k => r_has.f k b.f0.f0 b.f0.f1 b.f0.f2 b.f1.f0 b.f1.f1 b.f1.f2 p0 p1 p2) (Md.hasB (bx b) p0 p1 p2) := by
  refine ⟨2, fun k hk => ?_⟩
  obtain ⟨n, rfl⟩ : ∃ n, k = n + 2 := ⟨k - 2, by omega⟩
  have e : Md.hasB (bx b) p0 p1 p2 = decide (b.f0.f0 ≤ p0 ∧ p0 < b.f1.f0 ∧ b.f0.f1 ≤ p1 ∧ p1 < b.f1.f1 ∧ b.f0.f2 ≤ p2 ∧ p2 < b.f1.f2) := by
    rw [Bool.eq_iff_iff, Md.hasB_iff, decide_eq_true_eq]; exact Iff.rfl
  rw [e]
  simp only [r_has.f, r_has.j0]
  repeat' split
  all_goals (congr 1; simp only [decide_eq_decide, eq_comm (a := false), decide_eq_false_iff_not]; omega)
theorem rjoin_eq (n : Nat) (a b : Int) : r_Join.f (n + 1) a b = some (Md.jn a b) := by
  unfold r_Join.f Md.jn
  by_cases h1 : a = 0
  · simp [h1, r_Join.j0]
  · by_cases h2 : a = b
    · simp [h2, r_Join.j0]
    · by_cases h3 : b = 0
      · simp [h1, h3, r_Join.j0]
      · simp [h1, h2, h3, r_Join.j0]
theorem rjoin_ev (a b : Int) : Ev (fun k => r_Join.f k a b) (Md.jn a b) := by
  refine ⟨1, fun k hk => ?_⟩
  obtain ⟨n, rfl⟩ : ∃ n, k = n + 1 := ⟨k - 1, by omega⟩
  exact rjoin_eq n a b
theorem rstate_loop (l : List S68) (p0 p1 p2 : Int) (hl : l.length < 1000000) : ∀ i, i ≤ l.length → ∀ o : Int, Ev (fun k => r_State.l0 k l o (i : Int) p0 p1 p2) (((l.drop i).map ev).foldl (Md.step p0 p1 p2) o) := by
  refine up_to l.length ?_
  intro i hi ih o
  refine Ev.succ ?_
  simp only [r_State.l0]
  by_cases hlt : i < l.length
  · refine Ev.pos (by omega) (Ev.pos (by omega) ?_)
    have hd := drop_cons l i z68 hlt
    rw [rd_at]
    obtain ⟨x, hx⟩ : ∃ x, x = l.getD i z68 := ⟨_, rfl⟩
    rw [← hx] at hd ⊢
    rw [hd, List.map_cons, List.foldl_cons]
    refine Ev.bind (rhas_ev x.f1 p0 p1 p2) ?_
    have st : Md.step p0 p1 p2 o (ev x) = if Md.hasB (bx x.f1) p0 p1 p2 = true then Md.jn o x.f2 else o := rfl
    by_cases hb : Md.hasB (bx x.f1) p0 p1 p2 = true
    · rw [st, if_pos hb]
      refine Ev.pos hb (Ev.bind (rjoin_ev o x.f2) (Ev.succ ?_))
      simp only [r_State.j1]
      rw [wi (by omega)]
      exact ih hlt _
    · rw [st, if_neg hb]
      refine Ev.neg hb (Ev.succ ?_)
      simp only [r_State.j1]
      rw [wi (by omega)]
      exact ih hlt _
  · rw [List.drop_eq_nil_of_le (by omega)]
    exact Ev.neg (by omega) (Ev.now _)
theorem rstate_ev (l : List S68) (p0 p1 p2 : Int) (hl : l.length < 1000000) : Ev (fun k => r_State.f k l p0 p1 p2) (stL l p0 p1 p2) := rstate_loop l p0 p1 p2 hl 0 (Nat.zero_le _) 0
theorem rchk2 (l : List S68) (hl : l.length < 1000000) : ∀ i, i ≤ l.length → Ev (fun k => r_Check.l2 k l (i : Int)) (if (l.drop i).any badS = true then 1 else 0) := by
  refine up_to l.length ?_
  intro i hi ih
  refine Ev.succ ?_
  simp only [r_Check.l2]
  by_cases hlt : i < l.length
  · refine Ev.pos (by omega) (Ev.pos (by omega) ?_)
    have hd := drop_cons l i z68 hlt
    rw [rd_at]
    obtain ⟨x, hx⟩ : ∃ x, x = l.getD i z68 := ⟨_, rfl⟩
    rw [← hx] at hd ⊢
    rw [hd, List.any_cons]
    have again : Ev (fun k => r_Check.j3 k l (i : Int)) (if (l.drop (i + 1)).any badS = true then 1 else 0) := by
      refine Ev.succ ?_
      simp only [r_Check.j3]
      rw [wi (by omega)]
      exact ih hlt
    by_cases h1 : x.f2 = 1
    · have hb : badS x = false := (badS_iff x).2 (.inl h1)
      rw [hb, Bool.false_or]
      exact Ev.pos h1 again
    · refine Ev.neg h1 ?_
      by_cases h2 : x.f2 = 2
      · have hb : badS x = false := (badS_iff x).2 (.inr h2)
        rw [hb, Bool.false_or]
        exact Ev.pos h2 again
      · have hb : badS x = true := by
          cases h : badS x with
          | true => rfl
          | false => exact absurd ((badS_iff x).1 h) (fun h => h.elim h1 h2)
        rw [hb, Bool.true_or, if_pos rfl]
        exact Ev.neg h2 (Ev.now _)
  · rw [List.drop_eq_nil_of_le (by omega)]
    exact Ev.neg (by omega) (Ev.now _)
theorem rchk1 (l : List S68) (hl : l.length < 1000000) : ∀ i, i ≤ l.length → Ev (fun k => r_Check.l1 k l (i : Int)) (chkR l (l.drop i)) := by
  refine up_to l.length ?_
  intro i hi ih
  refine Ev.succ ?_
  simp only [r_Check.l1]
  by_cases hlt : i < l.length
  · refine Ev.pos (by omega) (Ev.pos (by omega) ?_)
    have hd := drop_cons l i z68 hlt
    rw [rd_at]
    obtain ⟨x, hx⟩ : ∃ x, x = l.getD i z68 := ⟨_, rfl⟩
    rw [← hx] at hd ⊢
    rw [hd]
    refine Ev.bind (rcheck_ev x.f1) ?_
    unfold chkR
    by_cases hc : chk x.f1 = 0
    · rw [if_pos hc, wi (by omega)]
      exact Ev.pos hc (ih hlt)
    · rw [if_neg hc]
      exact Ev.neg hc (Ev.now _)
  · rw [List.drop_eq_nil_of_le (by omega)]
    refine Ev.neg (by omega) (Ev.eq (rchk2 l hl 0 (Nat.zero_le _)) ?_)
    unfold chkR
    rw [List.drop_zero]
theorem rchk0 (l : List S68) (hl : l.length < 1000000) : ∀ i, i ≤ l.length → Ev (fun k => r_Check.l0 k l (i : Int)) (if ((l.drop i).any fun x => !labB x.f0) = true then 4 else chkR l l) := by
  refine up_to l.length ?_
  intro i hi ih
  refine Ev.succ ?_
  simp only [r_Check.l0]
  by_cases hlt : i < l.length
  · refine Ev.pos (by omega) (Ev.pos (by omega) ?_)
    have hd := drop_cons l i z68 hlt
    rw [rd_at]
    obtain ⟨x, hx⟩ : ∃ x, x = l.getD i z68 := ⟨_, rfl⟩
    rw [← hx] at hd ⊢
    rw [hd, List.any_cons]
    refine Ev.bind (rlabel_ev x.f0) ?_
    cases hb : labB x.f0 with
    | true =>
      rw [wi (by omega)]
      exact Ev.pos rfl (ih hlt)
    | false => exact Ev.neg (by simp) (Ev.now _)
  · rw [List.drop_eq_nil_of_le (by omega)]
    exact Ev.neg (by omega) (rchk1 l hl 0 (Nat.zero_le _))
theorem rCheck_ev (l : List S68) : Ev (fun k => r_Check.f k l) (chkE l) := by
  unfold r_Check.f chkE
  by_cases c1 : (l.length : Int) > 256
  · rw [if_pos c1]; exact Ev.pos c1 (Ev.now _)
  rw [if_neg c1]
  exact Ev.neg c1 (rchk0 l (by omega) 0 (Nat.zero_le _))
end
section
open Go.RowKit Go.Proofs.Ytcofgnbopodahaa.QA Go.Proofs.YtcofgnbopodahaaW.PrintWords Go.Proofs.YtcofgnbopodahaaW.PrintLast Go.Proofs.YtcofgnbopodahaaW.PrintMore Go.Proofs.Ytcofgnbopodahaa.EvKit
set_option linter.unusedVariables false
set_option linter.unusedSimpArgs false
def okN (a : Int) : Bool := decide (0 ≤ a) && decide (a ≤ 3)
end
section
open Go.RowKit Go.Proofs.Ytcofgnbopodahaa.QA Go.Proofs.YtcofgnbopodahaaW.PrintWords Go.Proofs.YtcofgnbopodahaaW.PrintLast Go.Proofs.YtcofgnbopodahaaW.PrintMore Go.Proofs.Ytcofgnbopodahaa.EvKit
theorem awake_ev : Ev (fun _ => w_awake.f) true := Ev.const rfl
end
end Go.Proofs.Ytcofgnbopodahaa.Mp
