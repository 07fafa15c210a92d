/-
  No cell of these rows narrows 'for every input' (looked for: loops, veiled, ifaces, maps, wideKeys, modest, calm, conditions, laid).
  DERIVED. THE GIVEN ROWS OF THIS SEAT. 7 by the template 'for every input the law returns true; each argument reads behind the call as it read before'; 0 by the template 'total and deterministic' (their statements: YtcofgnbopodahaaTotals.lean).
  GIVEN WITH THE SEED: the statements are not yours to turn. If you find one false, say at which input.
  Laid BY PROGRAM, IN A SANDBOX (cutbox-rows.mjs): the forced cells as the released guide's own fill.sh prints them over the translation 3d58948e769ab87c… (all of the seat's roots in one cut). By AI agents, Wed Nov 11 2026. No macro, syntax, notation, axiom, sorry.
-/
import Derived.Test.YtcofgnbopodahaaChecked
import GoSem.Claim
import GoSem.ClaimJoined
import GoSem.ClaimMapViews
import Derived.JoinedTies
import Derived.KernelRfl
namespace Go.Proofs.Ytcofgnbopodahaa
/- THE CELL 'sum', in the pinned program and in every row, IS THE sha256 OF THE DUMP (.gsa) THAT YtcofgnbopodahaaProg.lean LOADS. Nothing in Lean hashes anything: it is a label: what it is worth is what the hold of that sum in a sandbox is worth. -/
noncomputable def Try.pinned : Pinned := { name := "ytcofgnbopodahaa", sum := "3d58948e769ab87c9948d11a5cac90497a892d2ee51ec7cf359feac24247407f", checked := Try.checked }
namespace Rows
def none {H : Type} : Left H := { results := [], args := [] }

/-- 'gangsawlaw15.ModelStates': WHATEVER THE INPUT: true; the input reads as it did. -/
def modelStatesSpec : ChangeSpec := { name := "modelStates", fn := fun _ => fun
  | [d1, d2] => { results := [.lit (.bool true)], args := [d1, d2] }
  | _ => none }
def modelStatesRow : OpenClaim := { program := "ytcofgnbopodahaa", sum := "3d58948e769ab87c9948d11a5cac90497a892d2ee51ec7cf359feac24247407f", func := "gangsaw/gangsawlaw15.ModelStates", spec := "modelStates", unfollowed := true, recurses := true, apart := false }
def ModelStatesSaid : Prop := modelStatesRow.holds Try.pinned (OpenSpec.ofChange modelStatesSpec)

/-- ITS FALSE NEIGHBOUR: 'it returns false'. Refute it at one input. -/
def modelStatesWrong : ChangeSpec := { name := "modelStates", fn := fun _ => fun
  | [d1, d2] => { results := [.lit (.bool false)], args := [d1, d2] }
  | _ => none }
def ModelStatesWrongFalsely : Prop := modelStatesRow.holds Try.pinned (OpenSpec.ofChange modelStatesWrong)

/-- 'gangsawlaw15.ModelJoins': WHATEVER THE INPUT: true; the input reads as it did. -/
def modelJoinsSpec : ChangeSpec := { name := "modelJoins", fn := fun _ => fun
  | [d1, d2, d3] => { results := [.lit (.bool true)], args := [d1, d2, d3] }
  | _ => none }
def modelJoinsRow : OpenClaim := { program := "ytcofgnbopodahaa", sum := "3d58948e769ab87c9948d11a5cac90497a892d2ee51ec7cf359feac24247407f", func := "gangsaw/gangsawlaw15.ModelJoins", spec := "modelJoins", unfollowed := true, recurses := true, apart := false }
def ModelJoinsSaid : Prop := modelJoinsRow.holds Try.pinned (OpenSpec.ofChange modelJoinsSpec)

/-- ITS FALSE NEIGHBOUR: 'it returns false'. Refute it at one input. -/
def modelJoinsWrong : ChangeSpec := { name := "modelJoins", fn := fun _ => fun
  | [d1, d2, d3] => { results := [.lit (.bool false)], args := [d1, d2, d3] }
  | _ => none }
def ModelJoinsWrongFalsely : Prop := modelJoinsRow.holds Try.pinned (OpenSpec.ofChange modelJoinsWrong)

/-- 'gangsawlaw15.ModelGrows': WHATEVER THE INPUT: true; the input reads as it did. -/
def modelGrowsSpec : ChangeSpec := { name := "modelGrows", fn := fun _ => fun
  | [d1, d2, d3] => { results := [.lit (.bool true)], args := [d1, d2, d3] }
  | _ => none }
def modelGrowsRow : OpenClaim := { program := "ytcofgnbopodahaa", sum := "3d58948e769ab87c9948d11a5cac90497a892d2ee51ec7cf359feac24247407f", func := "gangsaw/gangsawlaw15.ModelGrows", spec := "modelGrows", unfollowed := true, recurses := true, apart := false }
def ModelGrowsSaid : Prop := modelGrowsRow.holds Try.pinned (OpenSpec.ofChange modelGrowsSpec)

/-- ITS FALSE NEIGHBOUR: 'it returns false'. Refute it at one input. -/
def modelGrowsWrong : ChangeSpec := { name := "modelGrows", fn := fun _ => fun
  | [d1, d2, d3] => { results := [.lit (.bool false)], args := [d1, d2, d3] }
  | _ => none }
def ModelGrowsWrongFalsely : Prop := modelGrowsRow.holds Try.pinned (OpenSpec.ofChange modelGrowsWrong)

/-- 'gangsawlaw15.ModelVolumes': WHATEVER THE INPUT: true; the input reads as it did. -/
def modelVolumesSpec : ChangeSpec := { name := "modelVolumes", fn := fun _ => fun
  | [d1, d2, d3] => { results := [.lit (.bool true)], args := [d1, d2, d3] }
  | _ => none }
def modelVolumesRow : OpenClaim := { program := "ytcofgnbopodahaa", sum := "3d58948e769ab87c9948d11a5cac90497a892d2ee51ec7cf359feac24247407f", func := "gangsaw/gangsawlaw15.ModelVolumes", spec := "modelVolumes", unfollowed := true, recurses := true, apart := false }
def ModelVolumesSaid : Prop := modelVolumesRow.holds Try.pinned (OpenSpec.ofChange modelVolumesSpec)

/-- ITS FALSE NEIGHBOUR: 'it returns false'. Refute it at one input. -/
def modelVolumesWrong : ChangeSpec := { name := "modelVolumes", fn := fun _ => fun
  | [d1, d2, d3] => { results := [.lit (.bool false)], args := [d1, d2, d3] }
  | _ => none }
def ModelVolumesWrongFalsely : Prop := modelVolumesRow.holds Try.pinned (OpenSpec.ofChange modelVolumesWrong)

/-- 'gangsawlaw15.ModelSums': WHATEVER THE INPUT: true; the input reads as it did. -/
def modelSumsSpec : ChangeSpec := { name := "modelSums", fn := fun _ => fun
  | [d1, d2] => { results := [.lit (.bool true)], args := [d1, d2] }
  | _ => none }
def modelSumsRow : OpenClaim := { program := "ytcofgnbopodahaa", sum := "3d58948e769ab87c9948d11a5cac90497a892d2ee51ec7cf359feac24247407f", func := "gangsaw/gangsawlaw15.ModelSums", spec := "modelSums", unfollowed := true, recurses := true, apart := false }
def ModelSumsSaid : Prop := modelSumsRow.holds Try.pinned (OpenSpec.ofChange modelSumsSpec)

/-- ITS FALSE NEIGHBOUR: 'it returns false'. Refute it at one input. -/
def modelSumsWrong : ChangeSpec := { name := "modelSums", fn := fun _ => fun
  | [d1, d2] => { results := [.lit (.bool false)], args := [d1, d2] }
  | _ => none }
def ModelSumsWrongFalsely : Prop := modelSumsRow.holds Try.pinned (OpenSpec.ofChange modelSumsWrong)

/-- 'gangsawlaw15.ModelLists': WHATEVER THE INPUT: true; the input reads as it did. -/
def modelListsSpec : ChangeSpec := { name := "modelLists", fn := fun _ => fun
  | [d1, d2, d3] => { results := [.lit (.bool true)], args := [d1, d2, d3] }
  | _ => none }
def modelListsRow : OpenClaim := { program := "ytcofgnbopodahaa", sum := "3d58948e769ab87c9948d11a5cac90497a892d2ee51ec7cf359feac24247407f", func := "gangsaw/gangsawlaw15.ModelLists", spec := "modelLists", unfollowed := true, recurses := true, apart := false }
def ModelListsSaid : Prop := modelListsRow.holds Try.pinned (OpenSpec.ofChange modelListsSpec)

/-- ITS FALSE NEIGHBOUR: 'it returns false'. Refute it at one input. -/
def modelListsWrong : ChangeSpec := { name := "modelLists", fn := fun _ => fun
  | [d1, d2, d3] => { results := [.lit (.bool false)], args := [d1, d2, d3] }
  | _ => none }
def ModelListsWrongFalsely : Prop := modelListsRow.holds Try.pinned (OpenSpec.ofChange modelListsWrong)

/-- 'gangsawlaw15.ModelClashes': WHATEVER THE INPUT: true; the input reads as it did. -/
def modelClashesSpec : ChangeSpec := { name := "modelClashes", fn := fun _ => fun
  | [d1, d2, d3] => { results := [.lit (.bool true)], args := [d1, d2, d3] }
  | _ => none }
def modelClashesRow : OpenClaim := { program := "ytcofgnbopodahaa", sum := "3d58948e769ab87c9948d11a5cac90497a892d2ee51ec7cf359feac24247407f", func := "gangsaw/gangsawlaw15.ModelClashes", spec := "modelClashes", unfollowed := true, recurses := true, apart := false }
def ModelClashesSaid : Prop := modelClashesRow.holds Try.pinned (OpenSpec.ofChange modelClashesSpec)

/-- ITS FALSE NEIGHBOUR: 'it returns false'. Refute it at one input. -/
def modelClashesWrong : ChangeSpec := { name := "modelClashes", fn := fun _ => fun
  | [d1, d2, d3] => { results := [.lit (.bool false)], args := [d1, d2, d3] }
  | _ => none }
def ModelClashesWrongFalsely : Prop := modelClashesRow.holds Try.pinned (OpenSpec.ofChange modelClashesWrong)

/- THE SECOND FORM. 'bulk': how many values and letters a reading holds, each counted each time it is reached (what is shared counts as often as it is met; a slice's spare places count too). A statement '..UptoSaid' is the law's where the arguments, and the package variables that the reading takes, are together of bulk at most 1048576: NARROWER than '..Said'. Prove '..Said' where nothing that the law and all that it calls make is longer than what came in: it says more and counts as full. Else prove '..UptoSaid'. A law counts once. -/
mutual
def uptoBulk {H : Type} : DataW H → Nat
  | .lit (.string bytes) => bytes.length + 1
  | .lit _ => 1
  | .nil => 1
  | .ptr d => uptoBulk d + 1
  | .slice elems spare => uptoBulkAll elems + uptoBulkAll spare + 1
  | .agg parts => uptoBulkAll parts + 1
  | .iface _ d => uptoBulk d + 1
  | .map entries => uptoBulkEntries entries + 1
  | .held _ => 1
def uptoBulkAll {H : Type} : List (DataW H) → Nat
  | [] => 0
  | d :: r => uptoBulk d + uptoBulkAll r
def uptoBulkEntries {H : Type} : List (Lit × DataW H) → Nat
  | [] => 0
  | x :: r => uptoBulkEntry x + uptoBulkEntries r
def uptoBulkEntry {H : Type} : Lit × DataW H → Nat
  | (.string bytes, d) => bytes.length + uptoBulk d + 1
  | (_, d) => uptoBulk d + 1
 end
def uptoSmall : (H : Type) → List (DataW H) → Bool := fun _ ds => decide (uptoBulkAll ds ≤ 1048576)
def OpenSpec.upto (s : _root_.Go.ChangeSpec) : _root_.Go.OpenSpec := { _root_.Go.OpenSpec.ofChange s with cond := some uptoSmall }

/-- 'gangsawlaw15.ModelStates', WHERE WHAT IT READS IS OF BULK AT MOST 1048576: true; the input reads as it did. -/
def modelStatesUptoRow : OpenClaim := { program := "ytcofgnbopodahaa", sum := "3d58948e769ab87c9948d11a5cac90497a892d2ee51ec7cf359feac24247407f", func := "gangsaw/gangsawlaw15.ModelStates", spec := "modelStates", unfollowed := true, recurses := true, apart := false, narrowed := true }
def ModelStatesUptoSaid : Prop := modelStatesUptoRow.holds Try.pinned (OpenSpec.upto modelStatesSpec)

/-- 'gangsawlaw15.ModelJoins', WHERE WHAT IT READS IS OF BULK AT MOST 1048576: true; the input reads as it did. -/
def modelJoinsUptoRow : OpenClaim := { program := "ytcofgnbopodahaa", sum := "3d58948e769ab87c9948d11a5cac90497a892d2ee51ec7cf359feac24247407f", func := "gangsaw/gangsawlaw15.ModelJoins", spec := "modelJoins", unfollowed := true, recurses := true, apart := false, narrowed := true }
def ModelJoinsUptoSaid : Prop := modelJoinsUptoRow.holds Try.pinned (OpenSpec.upto modelJoinsSpec)

/-- 'gangsawlaw15.ModelGrows', WHERE WHAT IT READS IS OF BULK AT MOST 1048576: true; the input reads as it did. -/
def modelGrowsUptoRow : OpenClaim := { program := "ytcofgnbopodahaa", sum := "3d58948e769ab87c9948d11a5cac90497a892d2ee51ec7cf359feac24247407f", func := "gangsaw/gangsawlaw15.ModelGrows", spec := "modelGrows", unfollowed := true, recurses := true, apart := false, narrowed := true }
def ModelGrowsUptoSaid : Prop := modelGrowsUptoRow.holds Try.pinned (OpenSpec.upto modelGrowsSpec)

/-- 'gangsawlaw15.ModelVolumes', WHERE WHAT IT READS IS OF BULK AT MOST 1048576: true; the input reads as it did. -/
def modelVolumesUptoRow : OpenClaim := { program := "ytcofgnbopodahaa", sum := "3d58948e769ab87c9948d11a5cac90497a892d2ee51ec7cf359feac24247407f", func := "gangsaw/gangsawlaw15.ModelVolumes", spec := "modelVolumes", unfollowed := true, recurses := true, apart := false, narrowed := true }
def ModelVolumesUptoSaid : Prop := modelVolumesUptoRow.holds Try.pinned (OpenSpec.upto modelVolumesSpec)

/-- 'gangsawlaw15.ModelSums', WHERE WHAT IT READS IS OF BULK AT MOST 1048576: true; the input reads as it did. -/
def modelSumsUptoRow : OpenClaim := { program := "ytcofgnbopodahaa", sum := "3d58948e769ab87c9948d11a5cac90497a892d2ee51ec7cf359feac24247407f", func := "gangsaw/gangsawlaw15.ModelSums", spec := "modelSums", unfollowed := true, recurses := true, apart := false, narrowed := true }
def ModelSumsUptoSaid : Prop := modelSumsUptoRow.holds Try.pinned (OpenSpec.upto modelSumsSpec)

/-- 'gangsawlaw15.ModelLists', WHERE WHAT IT READS IS OF BULK AT MOST 1048576: true; the input reads as it did. -/
def modelListsUptoRow : OpenClaim := { program := "ytcofgnbopodahaa", sum := "3d58948e769ab87c9948d11a5cac90497a892d2ee51ec7cf359feac24247407f", func := "gangsaw/gangsawlaw15.ModelLists", spec := "modelLists", unfollowed := true, recurses := true, apart := false, narrowed := true }
def ModelListsUptoSaid : Prop := modelListsUptoRow.holds Try.pinned (OpenSpec.upto modelListsSpec)

/-- 'gangsawlaw15.ModelClashes', WHERE WHAT IT READS IS OF BULK AT MOST 1048576: true; the input reads as it did. -/
def modelClashesUptoRow : OpenClaim := { program := "ytcofgnbopodahaa", sum := "3d58948e769ab87c9948d11a5cac90497a892d2ee51ec7cf359feac24247407f", func := "gangsaw/gangsawlaw15.ModelClashes", spec := "modelClashes", unfollowed := true, recurses := true, apart := false, narrowed := true }
def ModelClashesUptoSaid : Prop := modelClashesUptoRow.holds Try.pinned (OpenSpec.upto modelClashesSpec)

end Rows
end Go.Proofs.Ytcofgnbopodahaa
