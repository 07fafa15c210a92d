import Derived.Test.YtcofgnbopodahaaKMdX
import Derived.Test.YtcofgnbopodahaaKMdN
import Derived.Test.YtcofgnbopodahaaKMdW
import Derived.Test.YtcofgnbopodahaaKQAx11
import Derived.Test.YtcofgnbopodahaaKQAx23
import Derived.Test.YtcofgnbopodahaaKQAx24
import Derived.Test.YtcofgnbopodahaaKQAx20
import Derived.Test.YtcofgnbopodahaaKQAx9
import Derived.Test.YtcofgnbopodahaaKQAx25
namespace Go.Proofs.Ytcofgnbopodahaa.Mp
open Go.RowKit Go.Proofs.Ytcofgnbopodahaa.QA Go.Proofs.YtcofgnbopodahaaW.PrintWords Go.Proofs.YtcofgnbopodahaaW.PrintLast Go.Proofs.YtcofgnbopodahaaW.PrintMore Go.Proofs.Ytcofgnbopodahaa.EvKit
set_option linter.unusedVariables false
set_option linter.unusedSimpArgs false
section
variable {l : List S68} {b : S43} {n : Int}
theorem All_no (hr : readyE l b n ≠ 0) : Ev (fun k => model_All.f k l b.f0.f0 b.f0.f1 b.f0.f2 b.f1.f0 b.f1.f1 b.f1.f2 n) (false, readyE l b n) := by
  unfold model_All.f
  exact Ev.bind (ready_ev l b n) (Ev.neg hr (Ev.now _))
theorem First_no (hr : readyE l b n ≠ 0) : Ev (fun k => model_First.f k l b.f0.f0 b.f0.f1 b.f0.f2 b.f1.f0 b.f1.f1 b.f1.f2 n) (0, 0, 0, readyE l b n) := by
  unfold model_First.f
  exact Ev.bind (ready_ev l b n) (Ev.neg hr (Ev.now _))
end
theorem rd43 (P : List S43) (i : Nat) : rd_T43 P (i : Int) = P.getD i z43 := by unfold rd_T43; rw [Int.toNat_natCast]
theorem rvol_is {x : S43} (hv : V x) : r_volume.f x.f0.f0 x.f0.f1 x.f0.f2 x.f1.f0 x.f1.f1 x.f1.f2 = some (Md.vol (bx x)) := by
  rw [← (whole_is hv).1]; rfl
theorem rvol_loop (l : List S68) (n : Int) (hl : l.length < 1000000) (P : List S43) (hP : ∀ p ∈ P, V p) (hn : P.length < 1000000) : ∀ i, i ≤ P.length → ∀ s : Int, 0 ≤ s → s + Md.sumL (gV l n) ((P.drop i).map bx) ≤ 8000000000000000000 →
    Ev (fun k => r_Volume.l0 k l n s P (i : Int)) (s + Md.sumL (gV l n) ((P.drop i).map bx)) := by
  refine up_to P.length ?_
  intro i hi ih s h0 hm
  refine Ev.succ ?_
  simp only [r_Volume.l0]
  by_cases hlt : i < P.length
  · have hd := drop_cons P i z43 hlt
    have hp : V (P.getD i z43) := hP _ (by rw [List.getD_eq_getElem?_getD, List.getElem?_eq_getElem hlt]; exact List.getElem_mem hlt)
    have hq := gV_nonneg l n (P.drop (i + 1)) fun q hq => hP q (List.mem_of_mem_drop hq)
    have hv := (whole_is hp).2
    rw [rd43]
    obtain ⟨p, ep⟩ : ∃ p, p = P.getD i z43 := ⟨_, rfl⟩
    rw [← ep] at hd hp hv ⊢
    rw [hd, List.map_cons, Md.sumL] at hm ⊢
    have next : ∀ s' : Int, 0 ≤ s' → s' + Md.sumL (gV l n) ((P.drop (i + 1)).map bx) ≤ 8000000000000000000 → Ev (fun k => r_Volume.j1 k l n s' P (i : Int)) (s' + Md.sumL (gV l n) ((P.drop (i + 1)).map bx)) := by
      intro s' h1 h2
      refine Ev.succ ?_
      simp only [r_Volume.j1]
      rw [wi (by omega)]
      exact ih hlt s' h1 h2
    refine Ev.pos (by omega) (Ev.pos (by omega) (Ev.bind (rstate_ev l _ _ _ hl) ?_))
    by_cases hs : stL l p.f0.f0 p.f0.f1 p.f0.f2 = n
    · have e : gV l n (bx p) = Md.vol (bx p) := if_pos hs
      rw [e] at hm ⊢
      refine Ev.pos hs (Ev.cbind (rvol_is hp) ?_)
      rw [w64 (by omega) (by omega)]
      exact Ev.eq (next _ (by omega) (by omega)) (by omega)
    · have e : gV l n (bx p) = 0 := if_neg hs
      rw [e] at hm ⊢
      exact Ev.neg hs (Ev.eq (next s h0 (by omega)) (by omega))
  · rw [List.drop_of_length_le (by omega)]
    refine Ev.neg (by omega) (Ev.const ?_)
    simp [Md.sumL]
theorem rVolume_ev {l : List S68} {b : S43} {n : Int} (h : Ready l b) (hl : l.length ≤ 20) : Ev (fun k => r_Volume.f k l b.f0.f0 b.f0.f1 b.f0.f2 b.f1.f0 b.f1.f1 b.f1.f2 n) (Md.cnt (l.map ev) (bx b) n) := by
  have hs := cnt_small (n := n) h
  have e := Md.cnt_parts (cutsR h.v l) n
  rw [← plR_parts] at e
  have e' : Md.cnt (l.map ev) (bx b) n = Md.sumL (gV l n) ((plR b l).map bx) := e
  have y := rvol_loop l n (by omega) (plR b l) (fun p hp => plR_ok h.v l hp) (plR_len b l hl) 0 (Nat.zero_le _) 0 (by decide) (by rw [List.drop_zero]; omega)
  rw [List.drop_zero, Int.zero_add, ← e'] at y
  unfold r_Volume.f
  exact Ev.bind (Parts_ev b l hl) y
theorem rbefore_is (a0 a1 a2 b0 b1 b2 : Int) : r_Before.f a0 a1 a2 b0 b1 b2 = some (Md.bef a0 a1 a2 b0 b1 b2) := by
  unfold r_Before.f Md.bef
  by_cases h : a2 = b2
  · by_cases h' : a1 = b1
    · simp [h, h']
    · simp [h, h']
  · simp [h]
def RF (f : Bool) (x y z : Int) : Option Md.Bx → Prop
  | none => f = false ∧ x = 0 ∧ y = 0 ∧ z = 0
  | some q => f = true ∧ x = q.a0 ∧ y = q.a1 ∧ z = q.a2
theorem rfst_loop (l : List S68) (n : Int) (hl : l.length < 1000000) (P : List S43) (hn : P.length < 1000000) : ∀ i, i ≤ P.length → ∀ (f : Bool) (x y z : Int) (o : Option Md.Bx), RF f x y z o →
    ∃ f' x' y' z', Ev (fun k => r_First.l0 k l n f P (i : Int) x y z) (x', y', z', f') ∧ RF f' x' y' z' (Md.fst (qF l n) ((P.drop i).map bx) o) := by
  refine up_to P.length ?_
  intro i hi ih f x y z o h
  by_cases hlt : i < P.length
  · have hd := drop_cons P i z43 hlt
    obtain ⟨p, ep⟩ : ∃ p, p = P.getD i z43 := ⟨_, rfl⟩
    rw [← ep] at hd
    rw [hd, List.map_cons]
    have keep : ∀ (o2 : Option Md.Bx) (f2 : Bool) (x2 y2 z2 : Int), RF f2 x2 y2 z2 o2 → ∃ f' x' y' z', Ev (fun k => r_First.j2 k l n f2 P (i : Int) x2 y2 z2) (x', y', z', f') ∧ RF f' x' y' z' (Md.fst (qF l n) ((P.drop (i + 1)).map bx) o2) := by
      intro o2 f2 x2 y2 z2 h2
      obtain ⟨f', x', y', z', e, r⟩ := ih hlt f2 x2 y2 z2 o2 h2
      refine ⟨f', x', y', z', Ev.succ ?_, r⟩
      simp only [r_First.j2]
      rw [wi (by omega)]
      exact e
    have key : ∀ (t : Bool) (o2 : Option Md.Bx), (t = true → o2 = some (bx p)) → (t = false → o2 = o) → ∃ f' x' y' z', Ev (fun k => r_First.j1 k l n f P (i : Int) t x y z) (x', y', z', f') ∧ RF f' x' y' z' (Md.fst (qF l n) ((P.drop (i + 1)).map bx) o2) := by
      intro t o2 h1 h2
      cases t with
      | true =>
        obtain ⟨f', x', y', z', e, r⟩ := keep o2 true p.f0.f0 p.f0.f1 p.f0.f2 (by rw [h1 rfl]; exact ⟨rfl, rfl, rfl, rfl⟩)
        refine ⟨f', x', y', z', Ev.succ ?_, r⟩
        simp only [r_First.j1]
        rw [rd43, ← ep]
        exact Ev.pos trivial (Ev.pos (by omega) (Ev.pos (by omega) e))
      | false =>
        obtain ⟨f', x', y', z', e, r⟩ := keep o2 f x y z (by rw [h2 rfl]; exact h)
        refine ⟨f', x', y', z', Ev.succ ?_, r⟩
        simp only [r_First.j1]
        exact Ev.neg (by simp) e
    have go : ∀ (t : Bool) (o2 : Option Md.Bx), (t = true → o2 = some (bx p)) → (t = false → o2 = o) → Md.fst (qF l n) (bx p :: (P.drop (i + 1)).map bx) o = Md.fst (qF l n) ((P.drop (i + 1)).map bx) o2 →
        (∀ r, Ev (fun k => r_First.j1 k l n f P (i : Int) t x y z) r → Ev (fun k => r_First.l0 k l n f P (i : Int) x y z) r) →
        ∃ f' x' y' z', Ev (fun k => r_First.l0 k l n f P (i : Int) x y z) (x', y', z', f') ∧ RF f' x' y' z' (Md.fst (qF l n) (bx p :: (P.drop (i + 1)).map bx) o) := by
      intro t o2 h1 h2 h3 h4
      obtain ⟨f', x', y', z', e, r⟩ := key t o2 h1 h2
      exact ⟨f', x', y', z', h4 _ e, by rw [h3]; exact r⟩
    have enter : ∀ (t : Bool), (∀ r, Ev (fun k => r_First.j1 k l n f P (i : Int) t x y z) r → Ev (fun k => if stL l p.f0.f0 p.f0.f1 p.f0.f2 = n then (if f = true then ((r_Before.f p.f0.f0 p.f0.f1 p.f0.f2 x y z).bind fun t352 => r_First.j1 k l n f P (i : Int) t352 x y z) else r_First.j1 k l n f P (i : Int) true x y z) else r_First.j1 k l n f P (i : Int) false x y z) r) →
        ∀ r, Ev (fun k => r_First.j1 k l n f P (i : Int) t x y z) r → Ev (fun k => r_First.l0 k l n f P (i : Int) x y z) r := by
      intro t h r e
      refine Ev.succ ?_
      simp only [r_First.l0]
      rw [rd43, ← ep]
      exact Ev.pos (by omega) (Ev.pos (by omega) (Ev.bind (rstate_ev l _ _ _ hl) (h r e)))
    by_cases hs : stL l p.f0.f0 p.f0.f1 p.f0.f2 = n
    · have hq : qF l n (bx p) = true := decide_eq_true hs
      cases o with
      | none =>
        obtain ⟨h1, -⟩ := h
        refine go true (some (bx p)) (fun _ => rfl) (fun h => by cases h) (by rw [Md.fst, if_pos hq]) (enter true fun r e => Ev.pos hs (Ev.neg (by simp [h1]) e))
      | some q =>
        obtain ⟨h1, rfl, rfl, rfl⟩ := h
        by_cases hb : Md.bef p.f0.f0 p.f0.f1 p.f0.f2 q.a0 q.a1 q.a2 = true
        · refine go true (some (bx p)) (fun _ => rfl) (fun h => by cases h) (by rw [Md.fst, if_pos ⟨hq, hb⟩]) (enter true fun r e => Ev.pos hs (Ev.pos h1 (Ev.cbind (rbefore_is _ _ _ _ _ _) (by rw [hb]; exact e))))
        · refine go false (some q) (fun h => by cases h) (fun _ => rfl) (by rw [Md.fst, if_neg fun h => hb h.2]) (enter false fun r e => Ev.pos hs (Ev.pos h1 (Ev.cbind (rbefore_is _ _ _ _ _ _) (by rw [Bool.eq_false_iff.2 hb]; exact e))))
    · have hq : qF l n (bx p) = false := decide_eq_false hs
      refine go false o (fun h => by cases h) (fun _ => rfl) ?_ (enter false fun r e => Ev.neg hs e)
      cases o with
      | none => rw [Md.fst, if_neg (by simp [hq])]
      | some q => rw [Md.fst, if_neg (by simp [hq])]
  · refine ⟨f, x, y, z, Ev.succ ?_, ?_⟩
    · simp only [r_First.l0]
      exact Ev.neg (by omega) (Ev.now _)
    · rw [List.drop_of_length_le (by omega)]
      cases o <;> exact h
theorem rFirst_ev {l : List S68} {b : S43} {n : Int} (h : Ready l b) (hl : l.length ≤ 20) :
    (∃ x y z, Md.Least (fun x y z => Md.hasB (bx b) x y z = true ∧ Md.st (l.map ev) x y z = n) x y z ∧ Ev (fun k => r_First.f k l b.f0.f0 b.f0.f1 b.f0.f2 b.f1.f0 b.f1.f1 b.f1.f2 n) (x, y, z, true)) ∨
    ((∀ x y z, Md.hasB (bx b) x y z = true → Md.st (l.map ev) x y z ≠ n) ∧ Ev (fun k => r_First.f k l b.f0.f0 b.f0.f1 b.f0.f2 b.f1.f0 b.f1.f1 b.f1.f2 n) (0, 0, 0, false)) := by
  obtain ⟨f', x', y', z', y, hR⟩ := rfst_loop l n (by omega) (plR b l) (plR_len b l hl) 0 (Nat.zero_le _) false 0 0 0 none ⟨rfl, rfl, rfl, rfl⟩
  have hf := Md.fst_least (cutsR h.v l) n
  rw [List.drop_zero, plR_parts] at hR
  have eq : qF l n = fun p => decide (Md.st (l.map ev) p.a0 p.a1 p.a2 = n) := rfl
  rw [← eq] at hf
  have go : Ev (fun k => r_First.f k l b.f0.f0 b.f0.f1 b.f0.f2 b.f1.f0 b.f1.f1 b.f1.f2 n) (x', y', z', f') := by
    unfold r_First.f
    exact Ev.bind (Parts_ev b l hl) y
  cases hz : Md.fst (qF l n) (Md.parts (cutR b.f0.f0 b.f1.f0 [] (l.map prX)) (cutR b.f0.f1 b.f1.f1 [] (l.map prY)) (cutR b.f0.f2 b.f1.f2 [] (l.map prZ))) none with
  | none =>
    rw [hz] at hR hf
    obtain ⟨rfl, rfl, rfl, rfl⟩ := hR
    exact .inr ⟨hf, go⟩
  | some q =>
    rw [hz] at hR hf
    obtain ⟨rfl, rfl, rfl, rfl⟩ := hR
    exact .inl ⟨q.a0, q.a1, q.a2, hf, go⟩
theorem vol_bad (l : List S68) (b : S43) (n e : Int) (he : e ≠ 0) : Ev (fun k => w_ModelVolumes.j2 k l n 0 e e false e e b.f0.f0 b.f0.f1 b.f0.f2 b.f1.f0 b.f1.f1 b.f1.f2 0 0 0) true := by
  refine Ev.succ ?_
  simp only [w_ModelVolumes.j2]
  refine Ev.neg he (Ev.pos trivial (Ev.pos trivial (Ev.pos trivial (Ev.pos trivial (Ev.pos rfl (Ev.succ ?_))))))
  simp only [w_ModelVolumes.j3]
  exact Ev.now _
theorem vol_j1 (l : List S68) (b : S43) (n e : Int) (t : Bool) (x13 : Int) (h : (t = true → e = 1) ∧ (t = false → e = x13)) (he : e ≠ 0) : Ev (fun k => w_ModelVolumes.j1 k l n 0 e e false e x13 t b.f0.f0 b.f0.f1 b.f0.f2 b.f1.f0 b.f1.f1 b.f1.f2 0 0 0) true := by
  refine Ev.succ ?_
  simp only [w_ModelVolumes.j1]
  cases t with
  | true => have := h.1 rfl; subst this; exact Ev.pos rfl (vol_bad l b n 1 he)
  | false => have := h.2 rfl; subst this; exact Ev.neg (by simp) (vol_bad l b n e he)
theorem Volumes_core (l : List S68) (b : S43) (n : Int) : Ev (fun k => w_ModelVolumes.f k l b.f0.f0 b.f0.f1 b.f0.f2 b.f1.f0 b.f1.f1 b.f1.f2 n) true := by
  obtain ⟨s0, hs0, hsm⟩ := small_ev l 10 (by decide)
  unfold w_ModelVolumes.f
  refine Ev.bind awake_ev (Ev.pos rfl (Ev.bind hs0 ?_))
  cases s0 with
  | false => exact Ev.neg (by simp) (Ev.now _)
  | true =>
    have hlen : l.length ≤ 20 := by have := (hsm rfl).1; omega
    refine Ev.pos rfl ?_
    by_cases hr : readyE l b n = 0
    · have h := ready_of hr
      have hc : chkE l = 0 := (chkE0 l).2 ⟨h.n, h.o⟩
      have hb : chk b = 0 := (chk0 b).2 h.v
      have hk : okN n = true := by
        unfold readyE at hr
        rw [if_pos hc, if_pos hb] at hr
        cases hq : okN n with
        | true => rfl
        | false => rw [hq] at hr; exact absurd hr (by decide)
      have hn : 0 ≤ n ∧ n ≤ 3 := by rcases okN_iff.1 hk with h | h | h | h <;> omega
      obtain ⟨r, hA, hAr⟩ := All_ev hr
      have hv := Md.cnt_vol (vb h) n (l := l.map ev)
      have hw := (whole_is h.v).1
      have hL := rFirst_ev (n := n) h hlen
      have last : ∀ (x y z e : Int), Ev (fun k => model_First.f k l b.f0.f0 b.f0.f1 b.f0.f2 b.f1.f0 b.f1.f1 b.f1.f2 n) (x, y, z, e) →
          Ev (fun k => w_ModelVolumes.j4 k l n e false b.f0.f0 b.f0.f1 b.f0.f2 b.f1.f0 b.f1.f1 b.f1.f2 x y z) true → Ev (fun k => (model_First.f k l b.f0.f0 b.f0.f1 b.f0.f2 b.f1.f0 b.f1.f1 b.f1.f2 n).bind fun bt359 => ((model_All.f k l b.f0.f0 b.f0.f1 b.f0.f2 b.f1.f0 b.f1.f1 b.f1.f2 n).bind fun bt364 => ((r_Check.f k l).bind fun t366 => (if t366 = 0 then ((r06_Check.f k b.f0.f0 b.f0.f1 b.f0.f2 b.f1.f0 b.f1.f1 b.f1.f2).bind fun t367 => (w_ModelVolumes.j0 k l n (Md.cnt (l.map ev) (bx b) n) 0 bt359.2.2.2 bt364.1 bt364.2 t367 b.f0.f0 b.f0.f1 b.f0.f2 b.f1.f0 b.f1.f1 b.f1.f2 bt359.1 bt359.2.1 bt359.2.2.1)) else (w_ModelVolumes.j0 k l n (Md.cnt (l.map ev) (bx b) n) 0 bt359.2.2.2 bt364.1 bt364.2 t366 b.f0.f0 b.f0.f1 b.f0.f2 b.f1.f0 b.f1.f1 b.f1.f2 bt359.1 bt359.2.1 bt359.2.2.1))))) true := by
        intro x y z e hF hj
        refine Ev.bind hF (Ev.bind hA (Ev.bind (rCheck_ev l) (Ev.pos hc (Ev.bind (rcheck_ev b) (Ev.succ ?_)))))
        simp only [w_ModelVolumes.j0]
        refine Ev.pos hb (Ev.neg (by omega) (Ev.succ ?_))
        simp only [w_ModelVolumes.j1]
        refine Ev.neg (by simp; omega) (Ev.succ ?_)
        simp only [w_ModelVolumes.j2]
        refine Ev.pos hb (Ev.bind (rVolume_ev h hlen) (Ev.pos trivial (Ev.pos rfl (Ev.pos trivial ?_))))
        rw [hw]
        have e1 : (r != (Md.cnt (l.map ev) (bx b) n == Md.vol (bx b))) = false := by
          have q : r = (Md.cnt (l.map ev) (bx b) n == Md.vol (bx b)) := by
            rw [Bool.eq_iff_iff, hAr, beq_iff_eq, hv]
          rw [q]; simp
        rw [e1]
        exact hj
      refine Ev.bind (Volume_ev hr) ?_
      rcases First_ev hr with ⟨x, y, z, hl1, hF⟩ | ⟨hno, hF⟩
      · refine last x y z 0 hF (Ev.succ ?_)
        simp only [w_ModelVolumes.j4]
        rcases hL with ⟨x', y', z', hl2, hG⟩ | ⟨hno, hG⟩
        · obtain ⟨rfl, rfl, rfl⟩ := hl1.unique hl2
          exact Ev.neg (by simp) (Ev.bind hG (Ev.pos rfl (Ev.pos trivial (Ev.const (by simp)))))
        · exact absurd hl1.h.2 (hno _ _ _ hl1.h.1)
      · refine last 0 0 0 9 hF (Ev.succ ?_)
        simp only [w_ModelVolumes.j4]
        rcases hL with ⟨x', y', z', hl2, hG⟩ | ⟨hno2, hG⟩
        · exact absurd hl2.h.2 (hno _ _ _ hl2.h.1)
        · exact Ev.neg (by simp) (Ev.bind hG (Ev.neg (by simp) (Ev.pos trivial (Ev.const (by simp)))))
    · refine Ev.bind (Volume_no hr) (Ev.bind (First_no hr) (Ev.bind (All_no hr) (Ev.bind (rCheck_ev l) ?_)))
      by_cases hc : chkE l = 0
      · refine Ev.pos hc (Ev.bind (rcheck_ev b) (Ev.succ ?_))
        simp only [w_ModelVolumes.j0]
        by_cases hb : chk b = 0
        · have e : readyE l b n = 1 ∧ okN n = false := by
            unfold readyE at hr ⊢
            rw [if_pos hc, if_pos hb] at hr ⊢
            cases hq : okN n with
            | true => rw [hq] at hr; exact absurd rfl hr
            | false => exact ⟨if_neg (by decide), rfl⟩
          have hn : ¬ (0 ≤ n ∧ n ≤ 3) := fun h => by
            have := okN_iff.2 (show n = 0 ∨ n = 1 ∨ n = 2 ∨ n = 3 by omega)
            rw [e.2] at this; cases this
          refine Ev.pos hb ?_
          by_cases h0 : n < 0
          · exact Ev.pos h0 (vol_j1 l b n _ true _ ⟨fun _ => e.1, fun h => (by cases h)⟩ hr)
          · refine Ev.neg h0 ?_
            rw [decide_eq_true (show n > 3 by omega)]
            exact vol_j1 l b n _ true _ ⟨fun _ => e.1, fun h => (by cases h)⟩ hr
        · refine Ev.neg hb (vol_j1 l b n _ false _ ⟨fun h => (by cases h), fun _ => ?_⟩ hr)
          unfold readyE; rw [if_pos hc, if_neg hb]
      · refine Ev.neg hc (Ev.succ ?_)
        simp only [w_ModelVolumes.j0]
        refine Ev.neg hc (vol_j1 l b n _ false _ ⟨fun h => (by cases h), fun _ => ?_⟩ hr)
        unfold readyE; rw [if_neg hc]
end Go.Proofs.Ytcofgnbopodahaa.Mp
