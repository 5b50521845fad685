/- The abstract machine, parts 36 to 40. Conditions: none. -/
import Derived.Laws.CopyRow
import Derived.Test.YtepaabbfindaeaaGreatDoorAmD
set_option linter.unusedVariables false
set_option linter.unusedSimpArgs false
namespace Go.Proofs.YtepaabbfindaeaaGreatDoor.Am
open Go Go.RowKit

section
variable {P : Program} {w0 : Cx} {ops : List Oper} {rest : List Oper} {R : Exit → St → Prop} {st : St} {ty : TypeId} {pos : String} {after : Array Edge}
theorem Ext.newRow {w : World} {o : Obj} {cs : Array Value} : Ext w ((w.alloc o).setRow w.heap.size cs) := by
  have h := (Ext.refl w).alloc o
  exact ⟨h.os, h.tape, h.output, by rw [setRow_size]; exact h.size, fun k hk => by rw [setRow_block (by omega)]; exact h.block k hk⟩
end
end Go.Proofs.YtepaabbfindaeaaGreatDoor.Am
namespace Go.Proofs.YtepaabbfindaeaaGreatDoor.Am
open Go Go.RowKit

section
variable {P : Program} {w0 : Cx} {n : Nat} {s : Nat → Site} {ev : Operand → T} {dst : Option Tmp} {ty : TypeId} {pos : String} {after : Array Edge} {g : Option (Nat × Bool)}
end
end Go.Proofs.YtepaabbfindaeaaGreatDoor.Am
namespace Go.Proofs.YtepaabbfindaeaaGreatDoor.Am
open Go Go.RowKit

section
variable {P : Program} {w0 : Cx}
end
end Go.Proofs.YtepaabbfindaeaaGreatDoor.Am
namespace Go.Proofs.YtepaabbfindaeaaGreatDoor.Am
open Go Go.RowKit

section
variable {P : Program} {w0 : Cx} {st : St}
end
section
variable {P : Program} {w0 : Cx} {n : Nat} {s : Nat → Site} {ev : Operand → T} {dst : Option Tmp} {ty : TypeId} {pos : String} {after : Array Edge} {g : Option (Nat × Bool)}
end

end Go.Proofs.YtepaabbfindaeaaGreatDoor.Am
namespace Go.Proofs.YtepaabbfindaeaaGreatDoor.Am
open Go Go.RowKit

/-- The slice v is elements lo to hi of the slice u, whose elements take sz cells each. -/
def subV (sz lo hi : Nat) (u v : Value) : Prop :=
  (u = .slice none 0 0 ∧ v = .slice none 0 0 ∧ hi = 0 ∧ lo = 0) ∨
  ∃ b n cap, u = .slice (some ⟨b, 0, none⟩) n cap ∧ ((cap = lo ∧ hi = lo ∧ v = .slice (some ⟨b, 0, none⟩) 0 0) ∨ (lo < cap ∧ lo ≤ hi ∧ hi ≤ cap ∧ v = .slice (some ⟨b, lo * sz, none⟩) (hi - lo) (cap - lo)))
abbrev T.sub (k sz lo hi : Nat) : T := .own k ⟨true, true⟩ [] (fun _ u _ v => subV sz lo hi u v)
section
variable {P : Program} {w0 : Cx} {n : Nat} {s : Nat → Site} {ev : Operand → T} {dst : Option Tmp} {ty : TypeId} {pos : String} {after : Array Edge} {g : Option (Nat × Bool)}
end
section
variable {P : Program} {w0 : Cx} {ops : List Oper} {rest : List Oper} {R : Exit → St → Prop} {st : St} {ty : TypeId} {pos : String} {after : Array Edge}
end
section
variable {w0 : Cx} {st : St}
end
end Go.Proofs.YtepaabbfindaeaaGreatDoor.Am
