/-
  DERIVED: THE SHELF's CONTRACTS AT THIS DUMP, IN PLAIN WORDS (tools/lay-plain.mjs out of 'YthpggoophcdgnaaDoorShelf.lean', which tools/lay-shelf.mjs wrote): THE SAME DECLARATIONS UNDER THE SAME NAMES: 'import', 'namespace', 'open', 'def', 'theorem' AND NOTHING ELSE: no command of the shelf's: FOR A HAND-IN. Each laying: the table of numbers ('.._ren') and one theorem, a field a fact of the dump's own or the kernel's comparison; each contract: ONE APPLICATION.
-/
import Derived.Shelf.SlGeneric
import Derived.Ground.Names8Prog
import Derived.Ground.Names7Prog
import Derived.Shelf.Spec.SlicesGrow
import Derived.Shelf.Spec.TrailingZeros
import Derived.Test.YthpggoophcdgnaaDoorProg
namespace Go.Proofs
open Go.Shelf
def Tryd.laysNm84_ren : Go.Shelf.Ren := ⟨fun | 4 => 45 | n => n, fun | 22 => 22 | 25 => 43 | 3 => 3 | 4 => 4 | 9 => 9 | 20 => 20 | 0 => 0 | n => n, fun | n => n⟩
theorem Tryd.laysNm84 : Go.Proofs.Lays8.n4 Tryd.prog Tryd.laysNm84_ren := {
  mixed := by kernel_rfl
  f4 := ⟨Tryd.f45.name, by decide, Tryd.func45.trans (congrArg some (by kernel_rfl))⟩
  t0 := Tryd.underlying0
  a0 := Tryd.isAgg0
  z0 := Tryd.sizeOf0
  v0 := Tryd.zeroValue0
  t3 := Tryd.underlying3
  a3 := Tryd.isAgg3
  z3 := Tryd.sizeOf3
  v3 := Tryd.zeroValue3
  t4 := Tryd.underlying4
  a4 := Tryd.isAgg4
  z4 := Tryd.sizeOf4
  v4 := Tryd.zeroValue4
  t9 := Tryd.underlying9
  a9 := Tryd.isAgg9
  z9 := Tryd.sizeOf9
  v9 := Tryd.zeroValue9
  t20 := Tryd.underlying20
  a20 := Tryd.isAgg20
  z20 := Tryd.sizeOf20
  v20 := Tryd.zeroValue20
  t22 := Tryd.underlying22
  a22 := Tryd.isAgg22
  z22 := Tryd.sizeOf22
  v22 := Tryd.zeroValue22 }
def Tryd.laysNm729_ren : Go.Shelf.Ren := ⟨fun | 29 => 49 | n => n, fun | 22 => 72 | 3 => 3 | 4 => 4 | 25 => 113 | 54 => 112 | 0 => 0 | 5 => 5 | n => n, fun | 1 => 2 | n => n⟩
theorem Tryd.laysNm729 : Go.Proofs.Lays7.n29 Tryd.prog Tryd.laysNm729_ren := {
  mixed := by kernel_rfl
  f29 := Tryd.func49.trans (congrArg some (by kernel_rfl))
  t0 := Tryd.underlying0
  a0 := Tryd.isAgg0
  z0 := Tryd.sizeOf0
  v0 := Tryd.zeroValue0
  i0 := by kernel_rfl
  t3 := Tryd.underlying3
  a3 := Tryd.isAgg3
  z3 := Tryd.sizeOf3
  v3 := Tryd.zeroValue3
  i3 := by kernel_rfl
  t4 := Tryd.underlying4
  a4 := Tryd.isAgg4
  z4 := Tryd.sizeOf4
  v4 := Tryd.zeroValue4
  i4 := by kernel_rfl
  t5 := Tryd.underlying5
  a5 := Tryd.isAgg5
  z5 := Tryd.sizeOf5
  v5 := Tryd.zeroValue5
  i5 := by kernel_rfl
  t22 := Tryd.underlying72
  a22 := Tryd.isAgg72
  z22 := Tryd.sizeOf72
  v22 := Tryd.zeroValue72
  i22 := by kernel_rfl
  t25 := Tryd.underlying113
  a25 := Tryd.isAgg113
  z25 := Tryd.sizeOf113
  v25 := Tryd.zeroValue113
  i25 := by kernel_rfl
  t54 := Tryd.underlying112
  a54 := Tryd.isAgg112
  z54 := Tryd.sizeOf112
  g1 := by kernel_rfl }
end Go.Proofs
