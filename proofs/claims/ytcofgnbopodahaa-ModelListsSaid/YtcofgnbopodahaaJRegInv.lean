import Derived.Test.YtcofgnbopodahaaJWWords
import Derived.Test.YtcofgnbopodahaaJWLast
import Derived.RegionTactic
namespace Go.Proofs.Ytcofgnbopodahaa.RegInv
open Go
section
variable {P : Program} {ops : Array Oper} {Q : Exit → Act → World → Prop} {md : Region.Mode}
def upd (f : Nat → Bool) (i : Nat) : Nat → Bool := fun j => if j == i then true else f j
def flag (l : Array Bool) : Nat → Bool := fun i => l.getD i false
theorem flag_set (l : Array Bool) (i : Nat) (h : i < l.size) : flag (l.setIfInBounds i true) = upd (flag l) i := by
  funext j
  show (l.setIfInBounds i true).getD j false = if j == i then true else l.getD j false
  simp only [Array.getD_eq_getD_getElem?, Array.getElem?_setIfInBounds]
  by_cases e : i = j
  · subst e; simp [h]
  · have : (j == i) = false := by simp; omega
    rw [if_neg e, this]
    rfl
def cnt (l : List Bool) : Nat := l.countP fun b => !b
theorem cnt_set : ∀ (l : List Bool) (i : Nat), l[i]? = some false → cnt (l.set i true) + 1 = cnt l
  | [], i, h => by simp at h
  | b :: l, 0, h => by
    simp at h; subst h; simp [cnt]
  | b :: l, i + 1, h => by
    have := cnt_set l i (by simpa using h)
    simp only [cnt, List.set_cons_succ, List.countP_cons] at this ⊢
    omega
theorem cnt_zero : ∀ (l : List Bool), cnt l = 0 → ∀ b ∈ l, b = true
  | [], _, b, hb => by cases hb
  | x :: l, h, b, hb => by
    simp only [cnt, List.countP_cons] at h
    rcases List.mem_cons.1 hb with rfl | hb
    · cases b with
      | true => rfl
      | false => simp at h
    · exact cnt_zero l (by unfold cnt; omega) b hb
def orderedB (md : Region.Mode) (ops : Array Oper) : Bool := (List.range ops.size).all fun i => ((ops[i]?).map (·.after.all fun e => !Region.binds md e || decide (e.on < i))).getD true
theorem mem_ready {l : Array Bool} {i : Nat} (h : i ∈ Region.ready md ops l) : i < ops.size ∧ l.getD i true = false ∧ ∀ o, ops[i]? = some o → ∀ e ∈ o.after, Region.binds md e = true → flag l e.on = true := by
  unfold Region.ready at h
  rw [List.mem_filter, List.mem_range, Bool.and_eq_true] at h
  obtain ⟨h1, h2, h3⟩ := h
  refine ⟨h1, by simpa using h2, fun o ho e he hb => ?_⟩
  rw [ho, Option.map_some, Option.getD_some, Array.all_eq_true_iff_forall_mem] at h3
  have := h3 e he
  rw [hb] at this
  simpa [flag] using this
theorem ready_of {l : Array Bool} {i : Nat} {o : Oper} (ho : ops[i]? = some o) (hl : l.getD i true = false) (hd : ∀ e ∈ o.after, Region.binds md e = true → flag l e.on = true) : i ∈ Region.ready md ops l := by
  unfold Region.ready
  rw [List.mem_filter, List.mem_range, Bool.and_eq_true, ho, Option.map_some, Option.getD_some, Array.all_eq_true_iff_forall_mem]
  refine ⟨(Array.getElem?_eq_some_iff.1 ho).1, by simp [hl], fun e he => ?_⟩
  cases hb : Region.binds md e with
  | false => rfl
  | true => simpa [flag] using hd e he hb
theorem all_listed {l : Array Bool} (hord : orderedB md ops = true) (hsz : l.size = ops.size) (h : Region.ready md ops l = []) : ∀ i, i < ops.size → flag l i = true := by
  intro i
  induction i using Nat.strongRecOn with
  | ind i ih =>
    intro hi
    cases hf : flag l i with
    | true => rfl
    | false =>
      exfalso
      have hl : l.getD i true = false := by
        have hi' : i < l.size := by omega
        unfold flag at hf
        rw [Array.getD_eq_getD_getElem?, Array.getElem?_eq_getElem hi', Option.getD_some] at hf ⊢
        exact hf
      obtain ⟨o, ho⟩ : ∃ o, ops[i]? = some o := ⟨_, Array.getElem?_eq_getElem hi⟩
      have := ready_of (md := md) (l := l) ho hl (fun e he hb => by
        have h1 := List.all_eq_true.1 hord i (List.mem_range.2 hi)
        rw [ho, Option.map_some, Option.getD_some, Array.all_eq_true_iff_forall_mem] at h1
        have h2 := h1 e he
        rw [hb] at h2
        have h3 : e.on < i := by simpa using h2
        exact ih e.on h3 (by omega))
      rw [h] at this
      cases this
theorem any_inv (I : (Nat → Bool) → Act → World → Prop) (hord : orderedB md ops = true)
    (hstep : ∀ i o, ops[i]? = some o → ∀ f a w, I f a w → f i = false → (∀ e ∈ o.after, Region.binds md e = true → f e.on = true) → ∀ K' : Act → World → Prop, (∀ a' w', I (upd f i) a' w' → K' a' w') →
      if Region.wanted o (yielded ops a.tmps) = true then Oper.wp P o a w K' Q else K' (a.put o.dst undef) w)
    (hend : ∀ f a w, I f a w → (∀ i, i < ops.size → f i = true) → Q .normal a w) :
    ∀ (fuel : Nat) (l : Array Bool) (a : Act) (w : World), l.size = ops.size → cnt l.toList ≤ fuel → I (flag l) a w → wpAny P md ops Q fuel l a w := by
  intro fuel
  induction fuel with
  | zero =>
    intro l a w hsz hc hI
    have hall : ∀ i, i < ops.size → flag l i = true := fun i hi => by
      unfold flag
      rw [Array.getD_eq_getD_getElem?, Array.getElem?_eq_getElem (by omega), Option.getD_some]
      exact cnt_zero l.toList (by omega) _ (by simp)
    refine ⟨?_, hend _ a w hI hall⟩
    apply List.eq_nil_iff_forall_not_mem.2
    intro i hi
    obtain ⟨h1, h2, _⟩ := mem_ready hi
    have := hall i h1
    unfold flag at this
    rw [Array.getD_eq_getD_getElem?, Array.getElem?_eq_getElem (by omega), Option.getD_some] at this h2
    rw [this] at h2
    cases h2
  | succ fuel ih =>
    intro l a w hsz hc hI
    refine ⟨fun h => hend _ a w hI (all_listed hord hsz h), fun i hi => ?_⟩
    obtain ⟨h1, h2, h3⟩ := mem_ready hi
    have hil : i < l.size := by omega
    obtain ⟨o, ho⟩ : ∃ o, ops[i]? = some o := ⟨_, Array.getElem?_eq_getElem h1⟩
    have hf : flag l i = false := by
      unfold flag
      rw [Array.getD_eq_getD_getElem?, Array.getElem?_eq_getElem hil, Option.getD_some] at h2 ⊢
      exact h2
    have hget : l.toList[i]? = some false := by
      rw [Array.getD_eq_getD_getElem?, Array.getElem?_eq_getElem hil, Option.getD_some] at h2
      rw [Array.getElem?_toList, Array.getElem?_eq_getElem hil, h2]
    refine wpOp_step ho (fun K' hK => hstep i o ho (flag l) a w hI hf (h3 o ho) K' (fun a' w' h => hK a' w' (ih _ a' w' (by simp [hsz]) ?_ ?_)))
    · have := cnt_set l.toList i hget
      rw [Array.toList_setIfInBounds]
      omega
    · rw [flag_set l i hil]; exact h
theorem region_inv {id : Nat} {a : Act} {w : World} (I : (Nat → Bool) → Act → World → Prop) (hm : P.follows .mixedOrders = true) (hord : orderedB .any ops = true) (h0 : I (fun _ => false) a w.drew)
    (hstep : ∀ i o, ops[i]? = some o → ∀ f a w, I f a w → f i = false → (∀ e ∈ o.after, Region.binds .any e = true → f e.on = true) → ∀ K' : Act → World → Prop, (∀ a' w', I (upd f i) a' w' → K' a' w') →
      if Region.wanted o (yielded ops a.tmps) = true then Oper.wp P o a w K' Q else K' (a.put o.dst undef) w)
    (hend : ∀ f a w, I f a w → (∀ i, i < ops.size → f i = true) → Q .normal a w) : (Code.region id ops true).wp P Q a w := by
  refine wp_region_any hm (any_inv I hord hstep hend _ _ _ _ (by simp) ?_ ?_)
  · unfold cnt
    have := List.countP_le_length (p := fun b : Bool => !b) (l := List.replicate ops.size false)
    simpa using this
  · have e : flag (Array.replicate ops.size false) = fun _ => false := by
      funext i
      unfold flag
      rw [Array.getD_eq_getD_getElem?, Array.getElem?_replicate]
      split <;> rfl
    rw [e]
    exact h0
end
section
open Go.Proofs.YtcofgnbopodahaaW.PrintWords Go.RowKit
variable {W W' w : World} {g i : Nat} {a b c d e f a' b' c' d' e' f' : Value} {t t' : TypeId} {cs : Array Value}
theorem cells6 (h : W.heap[g]? = some (.cells #[a, b, c, d, e, f] t (0, 0))) : W.cell? ⟨g, 0, none⟩ = some a ∧ W.cell? ⟨g, 1, none⟩ = some b ∧ W.cell? ⟨g, 2, none⟩ = some c ∧ W.cell? ⟨g, 3, none⟩ = some d ∧ W.cell? ⟨g, 4, none⟩ = some e ∧ W.cell? ⟨g, 5, none⟩ = some f :=
  ⟨(blk_cell h 0).trans rfl, (blk_cell h 1).trans rfl, (blk_cell h 2).trans rfl, (blk_cell h 3).trans rfl, (blk_cell h 4).trans rfl, (blk_cell h 5).trans rfl⟩
theorem free6 (h : W.heap[g]? = some (.cells #[a, b, c, d, e, f] t (0, 0))) : W.frozen? ⟨g, 0, none⟩ = false ∧ W.frozen? ⟨g, 1, none⟩ = false ∧ W.frozen? ⟨g, 2, none⟩ = false ∧ W.frozen? ⟨g, 3, none⟩ = false ∧ W.frozen? ⟨g, 4, none⟩ = false ∧ W.frozen? ⟨g, 5, none⟩ = false :=
  ⟨blk_frozen h 0, blk_frozen h 1, blk_frozen h 2, blk_frozen h 3, blk_frozen h 4, blk_frozen h 5⟩
def set6 (W : World) (g : Nat) (a b c d e f : Value) : World := (((((W.setCell ⟨g, 0, none⟩ a).setCell ⟨g, 1, none⟩ b).setCell ⟨g, 2, none⟩ c).setCell ⟨g, 3, none⟩ d).setCell ⟨g, 4, none⟩ e).setCell ⟨g, 5, none⟩ f
theorem set6_at (h : W.heap[g]? = some (.cells #[a, b, c, d, e, f] t (0, 0))) : (set6 W g a' b' c' d' e' f').heap[g]? = some (.cells #[a', b', c', d', e', f'] t (0, 0)) :=
  blk_put (blk_put (blk_put (blk_put (blk_put (blk_put h 0 _ rfl) 1 _ rfl) 2 _ rfl) 3 _ rfl) 4 _ rfl) 5 _ rfl
theorem set6_far (h : W.heap[i]? = some (.cells cs t (0, 0))) (hn : i ≠ g) : (set6 W g a b c d e f).heap[i]? = some (.cells cs t (0, 0)) :=
  blk_far (blk_far (blk_far (blk_far (blk_far (blk_far h hn _) hn _) hn _) hn _) hn _) hn _
theorem set6_below (h : Below w.heap.size w W) (hg : w.heap.size ≤ g) : Below w.heap.size w (set6 W g a b c d e f) :=
  below_set (below_set (below_set (below_set (below_set (below_set h hg) hg) hg) hg) hg) hg
end
end Go.Proofs.Ytcofgnbopodahaa.RegInv
