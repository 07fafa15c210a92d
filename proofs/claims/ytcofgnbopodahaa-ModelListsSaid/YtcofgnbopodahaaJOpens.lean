import Derived.Test.YtcofgnbopodahaaJWWords
import Derived.ChangeArms
import Derived.DataReads
import Derived.WideShapes
import Derived.ChangeOld
import Derived.Carry
namespace Go.Proofs.Ytcofgnbopodahaa.Opn
open Go.ChangeShapes Go.WideShapes Go.RowKit Go.Proofs.YtcofgnbopodahaaW.PrintWords
set_option linter.unusedVariables false

def Opens {H : Type} (enc : TypeId × Value → H) (P : Program) (w : World) (t : TypeId) {α : Type} (d : Kd α) (ok : α → Prop) : Prop :=
  ∀ (fuel : Nat) (cs : List Value) (x : DataW H × List MemPlace), DataW.trod enc P w 0 (fun _ => true) true fuel t cs = some x → ∃ a : α, d.K w a cs ∧ ok a
def OpensF {H : Type} (enc : TypeId × Value → H) (P : Program) (w : World) (fs : List Field) (off : Nat) {α : Type} (d : Kd α) (ok : α → Prop) : Prop :=
  ∀ (n : Nat) (cs : List Value), cs.length = off + d.sz → (∀ f, f ∈ fs → ∃ y : DataW H × List MemPlace, DataW.trod enc P w 0 (fun _ => true) true n f.type ((cs.drop f.offset).take (P.cellsOf f.type)) = some y) → ∃ a : α, d.K w a (cs.drop off) ∧ ok a

section
variable {H : Type} {enc : TypeId × Value → H} {P : Program} {w : World} {t : TypeId} {α β : Type}
theorem opens_int {k : IntKind} (ht : P.underlying t = some (.int k)) : Opens enc P w t (Kd.int k) (fun n => (Lit.int k n).wf = true) := by
  intro fuel cs x h
  obtain ⟨n, rfl, _, hw⟩ := DataW.trod_int ht h
  exact ⟨n, rfl, hw⟩
theorem opens_string (ht : P.underlying t = some .string) : Opens enc P w t Kd.string (fun s => s.size ≤ maxLen) := by
  intro fuel cs x h
  obtain ⟨s, rfl, _, hs⟩ := DataW.trod_string ht h
  exact ⟨s, rfl, hs⟩
theorem list_of {p : Nat → α → Prop} : ∀ n : Nat, (∀ i, i < n → ∃ a, p i a) → ∃ l : List α, l.length = n ∧ ∀ i a, l[i]? = some a → p i a
  | 0, _ => ⟨[], rfl, fun i a h => by simp at h⟩
  | n + 1, h => by
    obtain ⟨l, hl, hp⟩ := list_of n (fun i hi => h i (by omega))
    obtain ⟨a, ha⟩ := h n (by omega)
    refine ⟨l ++ [a], by simp [hl], fun i b hb => ?_⟩
    by_cases hi : i < n
    · rw [List.getElem?_append_left (by omega)] at hb
      exact hp i b hb
    · have : i = n := by
        have := (List.getElem?_eq_some_iff.1 hb).1
        simp [hl] at this
        omega
      subst this
      rw [List.getElem?_append_right (by omega), hl] at hb
      simp at hb
      subst hb
      exact ha
theorem opens_slice {e : TypeId} {d : Kd α} {ok : α → Prop} (ht : P.underlying t = some (.slice e)) (h : Opens enc P w e d ok) (hsz : P.cellsOf e = d.sz) :
    Opens enc P w t (Kd.slice e d) (fun l => l.length ≤ maxLen ∧ ∀ x, x ∈ l → ok x) := by
  intro fuel cs x hx
  rcases DataW.trod_slice ht hx with ⟨rfl, _⟩ | ⟨a, len, cap, elems, rest, n, _, rfl, _, _, hl, hm, hlen, hel, _, _⟩
  · exact ⟨[], ⟨none, 0, rfl, Nat.le_refl _, rfl, by simp, fun h0 => absurd h0 (by simp)⟩, by simp, fun _ hx => by simp at hx⟩
  · have each : ∀ i, i < len → ∃ z : α, ok z ∧ ∃ c, c.length = d.sz ∧ d.K w z c ∧ ∀ j u, c[j]? = some u → w.cell? (a.add (i * d.sz + j)) = some u := by
      intro i hi
      have he := hel i hi
      rw [List.getElem?_eq_getElem (by omega), Option.bind_eq_some_iff] at he
      obtain ⟨c, hc, hy⟩ := he
      obtain ⟨z, hK, hz⟩ := h n c _ hy
      obtain ⟨_, hcl, hcell⟩ := World.cells?_some hc
      refine ⟨z, hz, c, by rw [hcl, hsz], hK, fun j u hu => ?_⟩
      have hj : j < c.length := (List.getElem?_eq_some_iff.1 hu).1
      have := hcell j (by omega)
      rw [hu, hsz] at this
      have hadd : (a.add (i * d.sz)).add j = a.add (i * d.sz + j) := by
        unfold Addr.add
        by_cases h1 : i * d.sz = 0 <;> by_cases h2 : j = 0 <;> simp [h1, h2, Nat.add_assoc]
      rwa [hadd] at this
    obtain ⟨l, hll, hp⟩ := list_of len each
    have hb : l.length ≤ maxLen := by omega
    refine ⟨l, ⟨some a, cap, by rw [hll], by omega, rfl, by unfold maxLen at hb; omega, fun _ => ⟨a, rfl, fun j p hj => ?_⟩⟩, hb, fun x hx => ?_⟩
    · obtain ⟨_, c, h1, h2, h3⟩ := hp j p hj
      exact ⟨c, h1, h2, h3⟩
    · obtain ⟨j, hj⟩ := List.getElem?_of_mem hx
      exact (hp j x hj).1
theorem opens_iso {d : Kd α} {ok : α → Prop} (f : β → α) (g : α → β) (hg : ∀ a, f (g a) = a) (h : Opens enc P w t d ok) : Opens enc P w t (Kd.iso d f) (fun b => ok (f b)) := by
  intro fuel cs x hx
  obtain ⟨a, hK, ha⟩ := h fuel cs x hx
  exact ⟨g a, by show d.K w (f (g a)) cs; rw [hg]; exact hK, by show ok (f (g a)); rw [hg]; exact ha⟩
theorem opens_imp {d : Kd α} {ok ok' : α → Prop} (h : Opens enc P w t d ok) (hi : ∀ a, ok a → ok' a) : Opens enc P w t d ok' := by
  intro fuel cs x hx
  obtain ⟨a, hK, ha⟩ := h fuel cs x hx
  exact ⟨a, hK, hi a ha⟩
theorem opensF_last {f : Field} {off : Nat} {d : Kd α} {ok : α → Prop} (ho : f.offset = off) (hs : P.cellsOf f.type = d.sz) (h : Opens enc P w f.type d ok) : OpensF enc P w [f] off d ok := by
  intro n cs hl hy
  obtain ⟨y, hy⟩ := hy f (by simp)
  obtain ⟨a, hK, ha⟩ := h n _ y hy
  rw [ho, hs, List.take_of_length_le (by rw [List.length_drop]; omega)] at hK
  exact ⟨a, hK, ha⟩
theorem opensF_cons {f : Field} {fs : List Field} {off : Nat} {d : Kd α} {d2 : Kd β} {ok : α → Prop} {ok2 : β → Prop} (ho : f.offset = off) (hs : P.cellsOf f.type = d.sz) (h : Opens enc P w f.type d ok)
    (h2 : OpensF enc P w fs (off + d.sz) d2 ok2) : OpensF enc P w (f :: fs) off (Kd.pair d d2) (fun p => ok p.1 ∧ ok2 p.2) := by
  intro n cs hl hy
  have hl' : cs.length = off + (d.sz + d2.sz) := hl
  obtain ⟨y, hy1⟩ := hy f (by simp)
  obtain ⟨a, hK, ha⟩ := h n _ y hy1
  obtain ⟨b, hK2, hb⟩ := h2 n cs (by omega) (fun f' hf' => hy f' (by simp [hf']))
  rw [ho, hs] at hK
  refine ⟨(a, b), ⟨(cs.drop off).take d.sz, cs.drop (off + d.sz), ?_, hK, hK2⟩, ha, hb⟩
  rw [← List.drop_drop, List.take_append_drop]
theorem opens_struct {fs : Array Field} {d : Kd α} {ok : α → Prop} (ht : P.underlying t = some (.struct fs)) (hs : P.cellsOf t = d.sz) (h : OpensF enc P w fs.toList 0 d ok) : Opens enc P w t d ok := by
  intro fuel cs x hx
  obtain ⟨xs, n, _, _, hl, hxl, hf⟩ := DataW.trod_struct ht hx
  obtain ⟨a, hK, ha⟩ := h n cs (by rw [hl, hs, Nat.zero_add]) (fun f hf' => by
    obtain ⟨i, hi⟩ := List.getElem?_of_mem hf'
    have hi' : fs[i]? = some f := by simpa using hi
    have h1 := hf i f hi'
    have : i < xs.length := by
      have := (Array.getElem?_eq_some_iff.1 hi').1
      omega
    rw [List.getElem?_eq_getElem this] at h1
    exact ⟨_, h1⟩)
  exact ⟨a, by simpa using hK, ha⟩
end
end Go.Proofs.Ytcofgnbopodahaa.Opn
