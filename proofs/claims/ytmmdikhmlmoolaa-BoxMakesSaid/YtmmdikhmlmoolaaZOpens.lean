import Derived.Test.YtmmdikhmlmoolaaZWWords
import Derived.ChangeArms
import Derived.DataReads
import Derived.WideShapes
import Derived.ChangeOld
import Derived.Carry
namespace Go.Proofs.Ytmmdikhmlmoolaa.Opn
open Go.ChangeShapes Go.WideShapes Go.RowKit Go.Proofs.YtmmdikhmlmoolaaW.PrintWords
set_option linter.unusedVariables false

def Opens {H : Type} (enc : TypeId × Value → H) (P : Program) (w : World) (t : TypeId) {α : Type} (d : Kd α) (ok : α → Prop) : Prop :=
  ∀ (fuel : Nat) (cs : List Value) (x : DataW H × List MemPlace), DataW.trod enc P w 0 (fun _ => true) true fuel t cs = some x → ∃ a : α, d.K w a cs ∧ ok a
def OpensF {H : Type} (enc : TypeId × Value → H) (P : Program) (w : World) (fs : List Field) (off : Nat) {α : Type} (d : Kd α) (ok : α → Prop) : Prop :=
  ∀ (n : Nat) (cs : List Value), cs.length = off + d.sz → (∀ f, f ∈ fs → ∃ y : DataW H × List MemPlace, DataW.trod enc P w 0 (fun _ => true) true n f.type ((cs.drop f.offset).take (P.cellsOf f.type)) = some y) → ∃ a : α, d.K w a (cs.drop off) ∧ ok a

section
variable {H : Type} {enc : TypeId × Value → H} {P : Program} {w : World} {t : TypeId} {α β : Type}
theorem opens_int {k : IntKind} (ht : P.underlying t = some (.int k)) : Opens enc P w t (Kd.int k) (fun n => (Lit.int k n).wf = true) := by
  intro fuel cs x h
  obtain ⟨n, rfl, _, hw⟩ := DataW.trod_int ht h
  exact ⟨n, rfl, hw⟩
theorem opens_iso {d : Kd α} {ok : α → Prop} (f : β → α) (g : α → β) (hg : ∀ a, f (g a) = a) (h : Opens enc P w t d ok) : Opens enc P w t (Kd.iso d f) (fun b => ok (f b)) := by
  intro fuel cs x hx
  obtain ⟨a, hK, ha⟩ := h fuel cs x hx
  exact ⟨g a, by show d.K w (f (g a)) cs; rw [hg]; exact hK, by show ok (f (g a)); rw [hg]; exact ha⟩
theorem opens_imp {d : Kd α} {ok ok' : α → Prop} (h : Opens enc P w t d ok) (hi : ∀ a, ok a → ok' a) : Opens enc P w t d ok' := by
  intro fuel cs x hx
  obtain ⟨a, hK, ha⟩ := h fuel cs x hx
  exact ⟨a, hK, hi a ha⟩
theorem opensF_last {f : Field} {off : Nat} {d : Kd α} {ok : α → Prop} (ho : f.offset = off) (hs : P.cellsOf f.type = d.sz) (h : Opens enc P w f.type d ok) : OpensF enc P w [f] off d ok := by
  intro n cs hl hy
  obtain ⟨y, hy⟩ := hy f (by simp)
  obtain ⟨a, hK, ha⟩ := h n _ y hy
  rw [ho, hs, List.take_of_length_le (by rw [List.length_drop]; omega)] at hK
  exact ⟨a, hK, ha⟩
theorem opensF_cons {f : Field} {fs : List Field} {off : Nat} {d : Kd α} {d2 : Kd β} {ok : α → Prop} {ok2 : β → Prop} (ho : f.offset = off) (hs : P.cellsOf f.type = d.sz) (h : Opens enc P w f.type d ok)
    (h2 : OpensF enc P w fs (off + d.sz) d2 ok2) : OpensF enc P w (f :: fs) off (Kd.pair d d2) (fun p => ok p.1 ∧ ok2 p.2) := by
  intro n cs hl hy
  have hl' : cs.length = off + (d.sz + d2.sz) := hl
  obtain ⟨y, hy1⟩ := hy f (by simp)
  obtain ⟨a, hK, ha⟩ := h n _ y hy1
  obtain ⟨b, hK2, hb⟩ := h2 n cs (by omega) (fun f' hf' => hy f' (by simp [hf']))
  rw [ho, hs] at hK
  refine ⟨(a, b), ⟨(cs.drop off).take d.sz, cs.drop (off + d.sz), ?_, hK, hK2⟩, ha, hb⟩
  rw [← List.drop_drop, List.take_append_drop]
theorem opens_struct {fs : Array Field} {d : Kd α} {ok : α → Prop} (ht : P.underlying t = some (.struct fs)) (hs : P.cellsOf t = d.sz) (h : OpensF enc P w fs.toList 0 d ok) : Opens enc P w t d ok := by
  intro fuel cs x hx
  obtain ⟨xs, n, _, _, hl, hxl, hf⟩ := DataW.trod_struct ht hx
  obtain ⟨a, hK, ha⟩ := h n cs (by rw [hl, hs, Nat.zero_add]) (fun f hf' => by
    obtain ⟨i, hi⟩ := List.getElem?_of_mem hf'
    have hi' : fs[i]? = some f := by simpa using hi
    have h1 := hf i f hi'
    have : i < xs.length := by
      have := (Array.getElem?_eq_some_iff.1 hi').1
      omega
    rw [List.getElem?_eq_getElem this] at h1
    exact ⟨_, h1⟩)
  exact ⟨a, by simpa using hK, ha⟩
end
end Go.Proofs.Ytmmdikhmlmoolaa.Opn
