import Derived.Test.YtkeomlmlimkebaaProg
import Derived.Shelf.SlLaysH
namespace Go.Proofs.Ytkeomlmlimkebaa
open Go.Shelf
def Lay.delF_ren : Go.Shelf.Ren := ⟨fun | 10 => 49 | 6 => 57 | n => n, fun | 22 => 23 | 23 => 3 | 25 => 76 | 3 => 3 | 4 => 4 | 0 => 0 | n => n, fun | n => n⟩
theorem Lay.delF : Go.Proofs.SlLaysH.n10 Try.prog Lay.delF_ren := {
  mixed := by kernel_rfl
  f6 := ⟨Try.f57.name, by decide, Try.func57.trans (congrArg some (by kernel_rfl))⟩
  f10 := ⟨Try.f49.name, by decide, Try.func49.trans (congrArg some (by kernel_rfl))⟩
  t0 := Try.underlying0
  a0 := Try.isAgg0
  z0 := Try.sizeOf0
  v0 := Try.zeroValue0
  t3 := Try.underlying3
  a3 := Try.isAgg3
  z3 := Try.sizeOf3
  v3 := Try.zeroValue3
  t4 := Try.underlying4
  a4 := Try.isAgg4
  z4 := Try.sizeOf4
  v4 := Try.zeroValue4
  t22 := Try.underlying23
  a22 := Try.isAgg23
  z22 := Try.sizeOf23
  v22 := Try.zeroValue23
  a23 := Try.isAgg3
  z23 := Try.sizeOf3
  t25 := Try.underlying76
  a25 := Try.isAgg76
  z25 := Try.sizeOf76
  v25 := Try.zeroValue76 }
end Go.Proofs.Ytkeomlmlimkebaa
