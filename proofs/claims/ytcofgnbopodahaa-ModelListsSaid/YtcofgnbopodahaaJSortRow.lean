import Derived.Test.YtcofgnbopodahaaJWWords
import Derived.Test.YtcofgnbopodahaaJWKept
import Derived.Test.YtcofgnbopodahaaJWMore
import Derived.Shelf.GgSortFunc.InsertionK
import Derived.Sort.AssemblyPlain
import Derived.Shelf.SlSortCmp.InsertionK
namespace Go.Proofs.Ytcofgnbopodahaa.SortRow
open Go.RowKit Go.Proofs.YtcofgnbopodahaaW.PrintWords Go.Sort
set_option linter.unusedVariables false

structure Flat {α : Type} (d : Kd α) (enc : α → List Value) : Prop where
  open_ : ∀ w base ok x cs, d.M w base ok x cs → cs = enc x
  mk_ : ∀ w base ok x, d.M w base ok x (enc x)
  len_ : ∀ x, (enc x).length = d.sz

section
variable {α : Type} [Inhabited α] {d : Kd α} {enc : α → List Value}

theorem flat_inner (F : Flat d enc) {R : α → List Value → Prop} (hR : ∀ x cs, R x cs → cs = enc x) {l : List α} {inner : List Value} (h : Reps R d.sz l inner) : inner = (flatK enc d.sz l.toArray).toList := by
  apply List.ext_getElem
  · rw [h.1]; simp [flatK]
  · intro t h1 h2
    have ht : t < l.length * d.sz := by rw [← h.1]; exact h1
    have hs : 0 < d.sz := by
      rcases Nat.eq_zero_or_pos d.sz with h0 | h0
      · rw [h0] at ht; simp at ht
      · exact h0
    have hj : t / d.sz < l.length := Nat.div_lt_of_lt_mul (by rw [Nat.mul_comm]; exact ht)
    have hp := hR _ _ (h.2 (t / d.sz) (l[t / d.sz]) (List.getElem?_eq_getElem hj))
    have hm : t % d.sz < d.sz := Nat.mod_lt _ hs
    have e1 : (enc l[t / d.sz])[t % d.sz]? = inner[t]? := by
      rw [← hp, List.getElem?_take, if_pos hm, List.getElem?_drop]
      congr 1
      rw [Nat.mul_comm]; exact Nat.div_add_mod t d.sz
    have hl : t % d.sz < (enc l[t / d.sz]).length := by rw [F.len_]; exact hm
    have e2 : inner[t] = (enc l[t / d.sz])[t % d.sz]'hl := by
      rw [List.getElem?_eq_getElem hl, List.getElem?_eq_getElem h1] at e1
      exact (Option.some.inj e1).symm
    rw [e2]
    have hj' : t / d.sz < l.toArray.size := by simpa using hj
    simp only [flatK, Array.toList_map, Array.toList_range, List.getElem_map, List.getElem_range]
    rw [getElem!_pos l.toArray _ hj', List.getElem_toArray, getElem!_pos (enc l[t / d.sz]) _ hl]

theorem reps_flat (F : Flat d enc) {R : α → List Value → Prop} (hR : ∀ x, R x (enc x)) (hs : 0 < d.sz) (l : List α) : Reps R d.sz l (flatK enc d.sz l.toArray).toList := by
  refine ⟨by simp [flatK], fun j p hj => ?_⟩
  have hjl : j < l.length := (List.getElem?_eq_some_iff.1 hj).1
  have hp : l[j] = p := (List.getElem?_eq_some_iff.1 hj).2
  have e : (((flatK enc d.sz l.toArray).toList.drop (j * d.sz)).take d.sz) = enc p := by
    apply List.ext_getElem
    · rw [F.len_, List.length_take, List.length_drop]
      have : (j + 1) * d.sz ≤ l.length * d.sz := Nat.mul_le_mul_right _ hjl
      rw [Nat.add_mul, Nat.one_mul] at this
      simp only [flatK, Array.toList_map, Array.toList_range, List.length_map, List.length_range, List.size_toArray]
      omega
    · intro t h1 h2
      have ht : t < d.sz := by rw [F.len_] at h2; exact h2
      rw [List.getElem_take, List.getElem_drop]
      simp only [flatK, Array.toList_map, Array.toList_range, List.getElem_map, List.getElem_range]
      have a1 : (j * d.sz + t) / d.sz = j := by rw [Nat.mul_comm, Nat.mul_add_div hs, Nat.div_eq_of_lt ht, Nat.add_zero]
      have a2 : (j * d.sz + t) % d.sz = t := by rw [Nat.mul_comm, Nat.mul_add_mod, Nat.mod_eq_of_lt ht]
      rw [a1, a2]
      have hj' : j < l.toArray.size := by simpa using hjl
      rw [getElem!_pos l.toArray _ hj', List.getElem_toArray, hp, getElem!_pos (enc p) _ h2]
  rw [e]
  exact hR p

theorem holds_of_R (F : Flat d enc) {e : Nat} {w : World} {base : Nat} {ok : Nat → Prop} {v : Value} {l : List α} (h : d.R e w base ok v l) (hl : l ≠ []) :
    ∃ g cap, v = .slice (some ⟨g, 0, none⟩) l.toArray.size cap ∧ HoldsK enc d.sz w g 0 l.toArray ∧ g < w.heap.size ∧ base ≤ g ∧ ok g := by
  obtain ⟨hok, inner, hown, hr⟩ := h
  have hin := flat_inner F (fun x cs hx => F.open_ _ _ _ x cs hx) hr
  have hpos : 0 < l.length := List.length_pos_iff.2 hl
  rcases hown.2 with ⟨_, h0⟩ | ⟨g, cap, cur, rfl, hb, hh, h1, h2, h3, h4⟩
  · omega
  refine ⟨g, cap, by simp, ?_, (Array.getElem?_eq_some_iff.1 hh).1, hb, hok g rfl⟩
  intro j hj
  have hj2 : j < inner.length := by rw [hin, Array.length_toList]; exact hj
  constructor
  · have hc := hown.cells (g := g) rfl j inner[j] (List.getElem?_eq_getElem hj2)
    rw [add_plain] at hc
    rw [Nat.zero_add, hc]
    have : (flatK enc d.sz l.toArray)[j]! = inner[j] := by
      rw [getElem!_pos (flatK enc d.sz l.toArray) _ hj]
      have := List.getElem_of_eq hin hj2
      rw [this, Array.getElem_toList]
    rw [this]; rfl
  · simp [World.frozen?, hh]

theorem R_of_sorted (F : Flat d enc) (hs : 0 < d.sz) {e : Nat} {w : World} {base : Nat} {ok : Nat → Prop} {g n cap : Nat} {l l' : List α} (h : d.R e w base ok (.slice (some ⟨g, 0, none⟩) n cap) l) (hn : n = l.length) (hlen : l'.length = l.length) (hl : l ≠ []) (m : Nat) (os : Array Obj) :
    d.R e (sortWorldK enc d.sz w g 0 m l'.toArray os) base ok (.slice (some ⟨g, 0, none⟩) n cap) l' := by
  subst hn
  obtain ⟨hok, inner, hown, hr⟩ := h
  have hpos : 0 < l.length := List.length_pos_iff.2 hl
  rcases hown.2 with ⟨he, _⟩ | ⟨g', cap', cur, he, hb, hh, h1, h2, h3, h4⟩
  · cases he
  injection he with he1 he2 he3
  injection he1 with he1
  injection he1 with he1
  subst he1 he3
  refine ⟨hok, (flatK enc d.sz l'.toArray).toList, ⟨by simp [flatK], .inr ⟨g, cap, putCells id 0 (flatK enc d.sz l'.toArray) cur, by rw [hlen], hb, ?_, by omega, h2, ?_, ?_⟩⟩, reps_flat F (fun x => F.mk_ _ _ _ x) hs l'⟩
  · have hg : g < w.heap.size := (Array.getElem?_eq_some_iff.1 hh).1
    show ((w.heap.modify g (onCells (putCells id 0 (flatK enc d.sz l'.toArray)))) ++ os)[g]? = _
    rw [Array.getElem?_append_left (by simpa using hg), Array.getElem?_modify, if_pos rfl, hh]
    rfl
  · rw [putCells, Array.size_mapIdx, h3]
  · apply List.ext_getElem
    · simp only [List.length_take, Array.length_toList, putCells, Array.size_mapIdx, h3, size_flatK, List.size_toArray]
      exact Nat.min_eq_left (Nat.mul_le_mul_right _ (by omega))
    · intro t ha hb2
      have ht : t < (flatK enc d.sz l'.toArray).size := by simpa using hb2
      rw [List.getElem_take, Array.getElem_toList, Array.getElem_toList]
      simp only [putCells, Array.getElem_mapIdx]
      rw [if_pos ⟨Nat.zero_le _, by omega⟩, Nat.sub_zero, getElem!_pos (flatK enc d.sz l'.toArray) _ ht]
      rfl

theorem sorted_size (w : World) (g m : Nat) (l' : Array α) (os : Array Obj) : w.heap.size ≤ (sortWorldK enc d.sz w g 0 m l' os).heap.size := by
  show w.heap.size ≤ ((w.heap.modify g (onCells (putCells id 0 (flatK enc d.sz l')))) ++ os).size
  simp

theorem sorted_block (w : World) (g m : Nat) (l' : Array α) (os : Array Obj) (i : Nat) (hi : i < w.heap.size) (hne : i ≠ g) : (sortWorldK enc d.sz w g 0 m l' os).heap[i]? = w.heap[i]? := by
  show ((w.heap.modify g (onCells (putCells id 0 (flatK enc d.sz l')))) ++ os)[i]? = _
  rw [Array.getElem?_append_left (by simpa using hi), Array.getElem?_modify, if_neg (by omega)]

theorem kept_sorted (w : World) (g m : Nat) (l' : Array α) (os : Array Obj) (S : Nat → Prop) (hS : S g) : Kept w (sortWorldK enc d.sz w g 0 m l' os) S :=
  ⟨sorted_size (d := d) w g m l' os, fun i hi hn => sorted_block (d := d) w g m l' os i hi (fun e => hn (e ▸ hS))⟩

theorem below_sorted {w0 w : World} (hB : Below w0.heap.size w0 w) (g m : Nat) (l' : Array α) (os : Array Obj) (hg : w0.heap.size ≤ g) : Below w0.heap.size w0 (sortWorldK enc d.sz w g 0 m l' os) :=
  hB.trans ⟨rfl, rfl, rfl, sorted_size (d := d) w g m l' os, fun i hi => sorted_block (d := d) w g m l' os i (Nat.lt_of_lt_of_le hi hB.size) (by omega)⟩
end

end Go.Proofs.Ytcofgnbopodahaa.SortRow
