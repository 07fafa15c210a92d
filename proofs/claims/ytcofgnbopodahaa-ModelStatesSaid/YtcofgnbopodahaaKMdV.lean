import Derived.Test.YtcofgnbopodahaaKMdT
import Derived.Test.YtcofgnbopodahaaKMdU
import Derived.Test.YtcofgnbopodahaaKMdW
import Derived.Test.YtcofgnbopodahaaKQAx11
import Derived.Test.YtcofgnbopodahaaKQAx15
import Derived.Test.YtcofgnbopodahaaKQAx17
import Derived.Sort.Walk0
namespace Go.Proofs.Ytcofgnbopodahaa.Mp
open Go.RowKit Go.Proofs.Ytcofgnbopodahaa.QA Go.Proofs.YtcofgnbopodahaaW.PrintWords Go.Proofs.YtcofgnbopodahaaW.PrintLast Go.Proofs.YtcofgnbopodahaaW.PrintMore Go.Proofs.Ytcofgnbopodahaa.EvKit
set_option linter.unusedVariables false
set_option linter.unusedSimpArgs false
theorem toB_list (l : List ByteArray) : (l.map ofB).map toB = l := by
  rw [List.map_map]
  have : (toB ∘ ofB) = id := by funext b; exact toB_ofB b
  rw [this, List.map_id]
def insB (a : ByteArray) (out : List ByteArray) : List ByteArray := if ofB a ∈ out.map ofB then out else out.takeWhile (fun x => decide (ofB x < ofB a)) ++ a :: out.dropWhile (fun x => decide (ofB x < ofB a))
theorem insB_is (a : ByteArray) (out : List ByteArray) : (insB a out).map ofB = Mr.insU (ofB a) (out.map ofB) := by
  unfold insB Mr.insU
  by_cases h : ofB a ∈ out.map ofB
  · rw [if_pos h, if_pos h]
  · rw [if_neg h, if_neg h, List.map_append, List.map_cons, List.takeWhile_map, List.dropWhile_map]
    rfl
theorem tw_stop (p : ByteArray → Bool) : ∀ (l : List ByteArray) (n : Nat), n ≤ l.length → (∀ x ∈ l.take n, p x = true) → (∀ h : n < l.length, p l[n] = false) → l.takeWhile p = l.take n ∧ l.dropWhile p = l.drop n
  | [], n, hn, _, _ => by simp at hn; subst hn; simp
  | a :: l, 0, _, _, h => by
    have := h (by simp)
    simp at this
    simp [this]
  | a :: l, n + 1, hn, h1, h2 => by
    have ha : p a = true := h1 a (by simp)
    obtain ⟨e1, e2⟩ := tw_stop p l n (by simpa using hn) (fun x hx => h1 x (by simp [hx])) (fun h => h2 (Nat.succ_lt_succ h))
    simp [ha, e1, e2]
theorem tl (b : ByteArray) : b.toList = ofB b := ByteArray.toList_eq b
theorem rdS (out : List ByteArray) (n : Nat) (h : n < out.length) : rdOf ByteArray.empty out (n : Int) = out[n] := by
  unfold rdOf
  rw [Int.toNat_natCast, List.getD_eq_getElem?_getD, List.getElem?_eq_getElem h]; rfl
section
variable {l : List S68} {i : Nat} {x : S68} {p0 p1 p2 : Int} {R : List ByteArray} {out : List ByteArray}
theorem ins_end (hl : l.length < 1000000) (hi : i < l.length) (hx : x = l.getD i z68) (ho : out.length ≤ i) (hs : (out.map ofB).Pairwise (· < ·)) (next : ∀ o, o = insB x.f0 out → Ev (fun k => r_Sources.j3 k l o (i : Int) p0 p1 p2) R)
    (n : Nat) (hn : n ≤ out.length) (h1 : ∀ y ∈ out.take n, ofB y < ofB x.f0) (h2 : ∀ h : n < out.length, ¬ ofB out[n] < ofB x.f0) : Ev (fun k => r_Sources.j2 k l out (i : Int) (n : Int) p0 p1 p2) R := by
  have hst := tw_stop (fun y => decide (ofB y < ofB x.f0)) out n hn (fun y hy => decide_eq_true (h1 y hy)) (fun h => decide_eq_false (h2 h))
  have hput : ofB x.f0 ∉ out.map ofB → out.take n ++ [x.f0] ++ out.drop n = insB x.f0 out := fun h => by
    unfold insB
    rw [if_neg h, hst.1, hst.2]; simp
  have rx : rd_T68 l (i : Int) = x := by rw [rd_at, hx]
  have t1 : (out.take n).length ≤ out.length := by rw [List.length_take]; omega
  have t2 : (out.drop n).length ≤ out.length := by rw [List.length_drop]; omega
  refine Ev.succ ?_
  simp only [r_Sources.j2]
  rw [Int.toNat_natCast, rx]
  by_cases hend : n = out.length
  · have hnot : ofB x.f0 ∉ out.map ofB := fun h => by
      obtain ⟨y, hy, e⟩ := List.mem_map.1 h
      have := h1 y (by rw [hend, List.take_length]; exact hy)
      rw [e] at this
      exact List.lt_irrefl _ this
    refine Ev.pos (by omega) (Ev.cbind rfl (Ev.pos (by omega) (Ev.pos (by omega) (Ev.cbind rfl (Ev.pos (by simp only [List.length_nil]; omega) (Ev.cbind rfl (Ev.pos (by omega) (Ev.pos (by omega) (Ev.cbind rfl (Ev.pos ?_ (Ev.cbind rfl (Ev.cbind rfl (Ev.pos ?_ (next _ ?_))))))))))))))
    · simp only [List.length_append, List.length_nil, List.length_cons]; omega
    · simp only [List.length_append, List.length_nil, List.length_cons]; omega
    · rw [List.nil_append]; exact hput hnot
  · have hlt : n < out.length := by omega
    refine Ev.neg (by omega) (Ev.pos (by omega) (Ev.pos (by omega) (Ev.pos (by omega) (Ev.pos (by omega) ?_))))
    rw [rdS out n hlt]
    by_cases he : out[n].toList = x.f0.toList
    · refine Ev.pos he (next _ ?_)
      have hm : ofB x.f0 ∈ out.map ofB := List.mem_map.2 ⟨out[n], List.getElem_mem hlt, by rw [← tl, ← tl]; exact he⟩
      unfold insB; rw [if_pos hm]
    · have hne : ofB out[n] ≠ ofB x.f0 := fun e => he (by rw [tl, tl]; exact e)
      have hgt := Mr.tri (h2 hlt) hne
      have hnot : ofB x.f0 ∉ out.map ofB := fun h => by
        obtain ⟨y, hy, e⟩ := List.mem_map.1 h
        obtain ⟨q, hq, rfl⟩ := List.mem_iff_getElem.1 hy
        rcases Nat.lt_trichotomy q n with h | h | h
        · have hm : out[q] ∈ out.take n := by
            have h3 : q < (out.take n).length := by rw [List.length_take]; omega
            have e2 : out[q] = (out.take n)[q] := by simp
            rw [e2]; exact List.getElem_mem h3
          have := h1 _ hm
          rw [e] at this
          exact List.lt_irrefl _ this
        · subst h; exact hne e
        · have := List.pairwise_iff_getElem.1 hs n q (by simpa using hlt) (by simpa using hq) h
          simp only [List.getElem_map] at this
          rw [e] at this
          exact List.lt_irrefl _ (List.lt_trans hgt this)
      refine Ev.neg he (Ev.cbind rfl (Ev.pos (by omega) (Ev.cbind rfl (Ev.pos (by simp only [List.length_nil]; omega) (Ev.cbind rfl (Ev.cbind rfl (Ev.pos ?_ (Ev.cbind rfl (Ev.cbind rfl (Ev.pos ?_ (next _ ?_)))))))))))
      · simp only [List.length_append, List.length_nil, List.length_cons]; omega
      · simp only [List.length_append, List.length_nil, List.length_cons]; omega
      · rw [List.nil_append]; exact hput hnot
theorem ins_loop (hl : l.length < 1000000) (hi : i < l.length) (hx : x = l.getD i z68) (ho : out.length ≤ i) (hs : (out.map ofB).Pairwise (· < ·)) (next : ∀ o, o = insB x.f0 out → Ev (fun k => r_Sources.j3 k l o (i : Int) p0 p1 p2) R) :
    ∀ n, n ≤ out.length → (∀ y ∈ out.take n, ofB y < ofB x.f0) → Ev (fun k => r_Sources.l1 k l out (i : Int) (n : Int) p0 p1 p2) R := by
  have rx : rd_T68 l (i : Int) = x := by rw [rd_at, hx]
  refine up_to out.length ?_
  intro n hn ih h1
  refine Ev.succ ?_
  simp only [r_Sources.l1]
  by_cases hlt : n < out.length
  · refine Ev.pos (by omega) (Ev.pos (by omega) (Ev.pos (by omega) (Ev.pos (by omega) ?_)))
    rw [rdS out n hlt, rx, Go.Proofs.bytesLess_eq, tl, tl]
    by_cases hb : ofB out[n] < ofB x.f0
    · refine Ev.pos (decide_eq_true hb) ?_
      rw [wi (by omega)]
      refine ih hlt fun y hy => ?_
      rw [List.take_succ_eq_append_getElem hlt, List.mem_append, List.mem_singleton] at hy
      exact hy.elim (h1 y) (fun e => e ▸ hb)
    · refine Ev.neg (by rw [decide_eq_false hb]; decide) (ins_end hl hi hx ho hs next n hn h1 fun _ => hb)
  · exact Ev.neg (by omega) (ins_end hl hi hx ho hs next n hn h1 fun h => absurd h hlt)
end
theorem insB_len (a : ByteArray) (out : List ByteArray) : (insB a out).length ≤ out.length + 1 := by
  unfold insB
  by_cases h : ofB a ∈ out.map ofB
  · rw [if_pos h]; omega
  · rw [if_neg h]
    have e := congrArg List.length (List.takeWhile_append_dropWhile (p := fun x : ByteArray => decide (ofB x < ofB a)) (l := out))
    simp only [List.length_append, List.length_cons] at e ⊢
    omega
def refP (p0 p1 p2 : Int) : List S68 → List ByteArray → List ByteArray
  | [], out => out
  | x :: l, out => refP p0 p1 p2 l (if Md.hasB (bx x.f1) p0 p1 p2 = true then insB x.f0 out else out)
theorem refS_loop (l : List S68) (p0 p1 p2 : Int) (hl : l.length < 1000000) : ∀ i, i ≤ l.length → ∀ out : List ByteArray, (out.map ofB).Pairwise (· < ·) → out.length ≤ i → Ev (fun k => r_Sources.l0 k l out (i : Int) p0 p1 p2) (refP p0 p1 p2 (l.drop i) out) := by
  refine up_to l.length ?_
  intro i hi ih out hs ho
  refine Ev.succ ?_
  simp only [r_Sources.l0]
  by_cases hlt : i < l.length
  · refine Ev.pos (by omega) (Ev.pos (by omega) ?_)
    have hd := drop_cons l i z68 hlt
    rw [rd_at]
    obtain ⟨x, hx⟩ : ∃ x, x = l.getD i z68 := ⟨_, rfl⟩
    rw [← hx] at hd ⊢
    rw [hd]
    have again : ∀ o : List ByteArray, (o.map ofB).Pairwise (· < ·) → o.length ≤ i + 1 → Ev (fun k => r_Sources.j3 k l o (i : Int) p0 p1 p2) (refP p0 p1 p2 (l.drop (i + 1)) o) := by
      intro o h1 h2
      refine Ev.succ ?_
      simp only [r_Sources.j3]
      rw [wi (by omega)]
      exact ih hlt o h1 h2
    refine Ev.bind (rhas_ev x.f1 p0 p1 p2) ?_
    unfold refP
    by_cases hb : Md.hasB (bx x.f1) p0 p1 p2 = true
    · rw [if_pos hb]
      have hs2 : ((insB x.f0 out).map ofB).Pairwise (· < ·) := by rw [insB_is]; exact (Mr.insU_spec hs).1
      have hl2 := insB_len x.f0 out
      refine Ev.pos hb (ins_loop hl hlt hx ho hs (fun o e => ?_) 0 (Nat.zero_le _) (fun y hy => by simp at hy))
      rw [e]
      exact again _ hs2 (by omega)
    · rw [if_neg hb]
      exact Ev.neg hb (again out hs (by omega))
  · rw [List.drop_eq_nil_of_le (by omega)]
    exact Ev.neg (by omega) (Ev.now _)
theorem refP_is (p0 p1 p2 : Int) : ∀ (l : List S68) (out : List ByteArray), (refP p0 p1 p2 l out).map ofB = Mr.refF (srcM p0 p1 p2 l) (out.map ofB)
  | [], out => rfl
  | x :: l, out => by
    unfold refP
    by_cases hb : Md.hasB (bx x.f1) p0 p1 p2 = true
    · have hm : srcM p0 p1 p2 (x :: l) = ofB x.f0 :: srcM p0 p1 p2 l := by simp [srcM, hb]
      rw [if_pos hb, hm, refP_is p0 p1 p2 l, insB_is]
      rfl
    · have hm : srcM p0 p1 p2 (x :: l) = srcM p0 p1 p2 l := by simp [srcM, hb]
      rw [if_neg hb, hm, refP_is p0 p1 p2 l]
theorem rSources_ev (l : List S68) (p0 p1 p2 : Int) (hl : l.length < 1000000) : Ev (fun k => r_Sources.f k l p0 p1 p2) (srcF p0 p1 p2 l) := by
  refine Ev.eq (refS_loop l p0 p1 p2 hl 0 (Nat.zero_le _) [] List.Pairwise.nil (Nat.le_refl _)) ?_
  rw [List.drop_zero, ← toB_list (refP p0 p1 p2 l []), refP_is]
  rfl
theorem State_any (l : List S68) (p0 p1 p2 : Int) : Ev (fun k => model_State.f k l p0 p1 p2) (stateP l p0 p1 p2) := by
  by_cases h : chkE l = 0
  · exact State_ev l p0 p1 p2 (by have := ((chkE0 l).1 h).1; omega)
  · unfold model_State.f
    refine Ev.bind (Check_ev l) (Ev.neg h (Ev.eq (Ev.now _) ?_))
    unfold stateP; rw [if_neg h]
theorem same_loop (a : List ByteArray) (hl : a.length < 1000000) : ∀ i, i ≤ a.length → Ev (fun k => w_ModelStates.l0 k a a (i : Int)) true := by
  refine up_to a.length ?_
  intro i hi ih
  refine Ev.succ ?_
  simp only [w_ModelStates.l0]
  by_cases hlt : i < a.length
  · refine Ev.pos (by omega) (Ev.pos (by omega) (Ev.pos (by omega) (Ev.pos trivial ?_)))
    rw [wi (by omega)]
    exact ih hlt
  · exact Ev.neg (by omega) (Ev.now _)
theorem refF_len : ∀ (l out : List (List UInt8)), (Mr.refF l out).length ≤ out.length + l.length
  | [], out => by simp [Mr.refF]
  | a :: l, out => by
    have h := refF_len l (Mr.insU a out)
    have h2 : (Mr.insU a out).length ≤ out.length + 1 := by
      unfold Mr.insU
      by_cases h : a ∈ out
      · rw [if_pos h]; omega
      · rw [if_neg h]
        have e := congrArg List.length (List.takeWhile_append_dropWhile (p := fun x : List UInt8 => decide (x < a)) (l := out))
        simp only [List.length_append, List.length_cons] at e ⊢
        omega
    simp only [Mr.refF, List.length_cons]
    omega
theorem srcF_len (p0 p1 p2 : Int) (l : List S68) : (srcF p0 p1 p2 l).length ≤ l.length := by
  unfold srcF srcM
  rw [List.length_map]
  have h := refF_len ((l.filter fun x => Md.hasB (bx x.f1) p0 p1 p2).map fun x => ofB x.f0) []
  have h2 := List.length_filter_le (fun x : S68 => Md.hasB (bx x.f1) p0 p1 p2) l
  rw [List.length_map, List.length_nil] at h
  omega
theorem States_core (l : List S68) (p0 p1 p2 : Int) : Ev (fun k => w_ModelStates.f k l p0 p1 p2) true := by
  obtain ⟨s0, hs0, -⟩ := small_ev l 20 (by decide)
  unfold w_ModelStates.f
  refine Ev.bind awake_ev (Ev.pos rfl (Ev.bind hs0 ?_))
  have j0 : ∀ t : Bool, Ev (fun k => w_ModelStates.j0 k l t p0 p1 p2) true := by
    intro t
    refine Ev.succ ?_
    simp only [w_ModelStates.j0]
    cases t with
    | true => exact Ev.pos rfl (Ev.now _)
    | false =>
      refine Ev.neg (by simp) (Ev.bind (rCheck_ev l) (Ev.bind (State_any l p0 p1 p2) (Ev.bind (Sources_ev l p0 p1 p2) (Ev.bind (Check_ev l) (Ev.pos rfl ?_)))))
      have bad : ∀ e : Int, e ≠ 0 → stateP l p0 p1 p2 = (0, e) → sourcesP l p0 p1 p2 = ([], e) → Ev (fun k => w_ModelStates.j2 k l e (stateP l p0 p1 p2).1 (stateP l p0 p1 p2).2 (sourcesP l p0 p1 p2).1 (sourcesP l p0 p1 p2).2 p0 p1 p2) true := by
        intro e he h1 h2
        rw [h1, h2]
        refine Ev.succ ?_
        simp only [w_ModelStates.j2]
        refine Ev.neg he (Ev.pos trivial (Ev.pos trivial (Ev.pos trivial (Ev.succ ?_))))
        simp only [w_ModelStates.j3]
        exact Ev.now _
      by_cases h : chkE l = 0
      · refine Ev.pos h (Ev.bind (rcell_ev p0 p1 p2) (Ev.succ ?_))
        simp only [w_ModelStates.j1]
        cases hc : cellB p0 p1 p2 with
        | false =>
          refine Ev.pos rfl (bad 6 (by decide) ?_ ?_)
          · unfold stateP; rw [if_pos h, hc]; rfl
          · unfold sourcesP; rw [if_pos h, hc]; rfl
        | true =>
          have hn := ((chkE0 l).1 h).1
          have e1 : stateP l p0 p1 p2 = (stL l p0 p1 p2, 0) := by unfold stateP; rw [if_pos h, if_pos hc]
          have e2 : sourcesP l p0 p1 p2 = (srcF p0 p1 p2 l, 0) := by unfold sourcesP; rw [if_pos h, if_pos hc]
          rw [e1, e2]
          refine Ev.neg (by simp) (Ev.succ ?_)
          simp only [w_ModelStates.j2]
          refine Ev.pos h (Ev.bind (rSources_ev l p0 p1 p2 (by omega)) (Ev.pos trivial (Ev.pos trivial (Ev.bind (rstate_ev l p0 p1 p2 (by omega)) (Ev.pos rfl (Ev.succ ?_))))))
          simp only [w_ModelStates.j4]
          have := srcF_len p0 p1 p2 l
          exact Ev.neg (by simp) (same_loop _ (by omega) 0 (Nat.zero_le _))
      · refine Ev.neg h (Ev.succ ?_)
        simp only [w_ModelStates.j1]
        refine Ev.neg (by simp) (bad _ h ?_ ?_)
        · unfold stateP; rw [if_neg h]
        · unfold sourcesP; rw [if_neg h]
  cases s0 with
  | false => exact Ev.neg (by simp) (j0 _)
  | true => exact Ev.pos rfl (j0 false)
end Go.Proofs.Ytcofgnbopodahaa.Mp
