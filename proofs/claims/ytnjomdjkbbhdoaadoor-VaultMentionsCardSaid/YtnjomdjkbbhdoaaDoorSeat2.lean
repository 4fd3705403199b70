/-
  More closed facts on this seat's types and functions, each met by the kernel.
  No condition.
-/
import Derived.Test.YtnjomdjkbbhdoaaDoorMB
import Derived.Test.YtnjomdjkbbhdoaaDoorSeat
namespace Go.Proofs.YtnjomdjkbbhdoaaDoor
set_option linter.unusedVariables false
set_option maxRecDepth 100000
instance : PtrT Tryd.prog 24 68 := ⟨Tryd.underlying24, _, rfl⟩
instance : PtrT Tryd.prog 39 41 := ⟨Tryd.underlying39, _, rfl⟩
instance : PtrT Tryd.prog 85 87 := ⟨Tryd.underlying85, _, rfl⟩
instance : BldT Tryd.prog 85 87 138 5 := ⟨Tryd.underlying85, Tryd.underlying138, ⟨_, rfl, of_decide_eq_true (by kernel_rfl)⟩, by kernel_rfl, by decide⟩
instance : ArrT Tryd.prog 100 4 := ⟨2, Tryd.underlying100, by kernel_rfl, Tryd.underlying2⟩
instance : PtrT Tryd.prog 107 5 := ⟨Tryd.underlying107, _, rfl⟩
instance : UStrT Tryd.prog 107 5 := ⟨Tryd.underlying107, by kernel_rfl⟩
instance : PtrT Tryd.prog 135 3 := ⟨Tryd.underlying135, _, rfl⟩
instance : PtrT Tryd.prog 146 131 := ⟨Tryd.underlying146, _, rfl⟩
instance : ByteZ Tryd.prog 5 := ⟨fun i h => by cases h; rfl⟩
instance : NoEscT Tryd.prog 117 := ⟨⟨_, Tryd.func117, by kernel_rfl, rfl, by kernel_rfl, by kernel_rfl⟩⟩
end Go.Proofs.YtnjomdjkbbhdoaaDoor
