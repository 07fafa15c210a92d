import Derived.Test.YtcofgnbopodahaaJSortRow
namespace Go.Proofs.Ytcofgnbopodahaa.RowOne
open Go.RowKit Go.Proofs.YtcofgnbopodahaaW.PrintWords Go.Sort
set_option linter.unusedVariables false
section
variable {α : Type} [Inhabited α] (enc : α → Value)
theorem flat_one (d : Array α) (t : Nat) (h : t < d.size) : (flatK (fun x => [enc x]) 1 d)[t]! = enc d[t]! := by
  rw [get_flatK _ _ _ t (by omega), Nat.div_one, Nat.mod_one]; rfl
theorem putRow_one (w : World) (blk off : Nat) (d : Array α) : putRow enc w blk off d = putRowK (fun x => [enc x]) 1 w blk off d := by
  unfold putRowK putRow
  congr 1
  unfold putCells
  funext c
  apply Array.ext
  · simp
  · intro i h1 h2
    simp only [Array.getElem_mapIdx, size_flatK, Nat.mul_one]
    split
    · rename_i h
      rw [flat_one enc d _ (by omega)]; rfl
    · rfl
theorem holds_one {w : World} {blk off : Nat} {d : Array α} (h : HoldsK (fun x => [enc x]) 1 w blk off d) : Holds enc w blk off d := by
  intro j hj
  have := h j (by rw [size_flatK]; omega)
  rw [flat_one enc d j hj] at this
  exact this
end
theorem flatI (k : IntKind) : SortRow.Flat (Kd.int k) (fun x => [Value.int k x]) := ⟨fun _ _ _ _ _ h => h, fun _ _ _ _ => rfl, fun _ => rfl⟩
end Go.Proofs.Ytcofgnbopodahaa.RowOne
