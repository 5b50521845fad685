/-
  No cell of these rows narrows 'for every input' (looked for: loops, veiled, ifaces, maps, wideKeys, modest, calm, conditions, laid).
  DERIVED. THE GIVEN ROWS OF THIS SEAT. 6 by the template 'for every input the law returns true; each argument reads behind the call as it read before'; 0 by the template 'total and deterministic' (their statements: YtblbnagdhcpnoaaGreatTotals.lean).
  GIVEN WITH THE SEED: the statements are not yours to turn. If you find one false, say at which input.
  Laid BY PROGRAM, IN A SANDBOX (cutbox-rows.mjs): the forced cells as the released guide's own fill.sh prints them over the translation ad33dda6f80067a2… (all of the seat's roots in one cut). By AI agents, Wed Nov 11 2026. No macro, syntax, notation, axiom, sorry.
-/
import Derived.Test.YtblbnagdhcpnoaaGreatChecked
import GoSem.Claim
import GoSem.ClaimJoined
import GoSem.ClaimMapViews
import Derived.JoinedTies
import Derived.KernelRfl
namespace Go.Proofs.YtblbnagdhcpnoaaGreat
/- THE CELL 'sum', in the pinned program and in every row, IS THE sha256 OF THE DUMP (.gsa) THAT YtblbnagdhcpnoaaGreatProg.lean LOADS. Nothing in Lean hashes anything: it is a label: what it is worth is what the hold of that sum in a sandbox is worth. -/
noncomputable def Tryz.pinned : Pinned := { name := "ytblbnagdhcpnoaagreat", sum := "ad33dda6f80067a2230cf3bc0321990ef72770832c24847355b9cc363aeb0f9e", checked := Tryz.checked }
namespace Rows
def none {H : Type} : Left H := { results := [], args := [] }

/-- 'couplantlaw04.BenchTraces': WHATEVER THE INPUT: true; the input reads as it did. -/
def benchTracesSpec : ChangeSpec := { name := "benchTraces", fn := fun _ => fun
  | [d1, d2] => { results := [.lit (.bool true)], args := [d1, d2] }
  | _ => none }
def benchTracesRow : OpenClaim := { program := "ytblbnagdhcpnoaagreat", sum := "ad33dda6f80067a2230cf3bc0321990ef72770832c24847355b9cc363aeb0f9e", func := "couplant/couplantlaw04.BenchTraces", spec := "benchTraces", inPlace := ["math.Float32bits"], unfollowed := true, recurses := true, apart := false }
def BenchTracesSaid : Prop := benchTracesRow.holds Tryz.pinned (OpenSpec.ofChange benchTracesSpec)

/-- ITS FALSE NEIGHBOUR: 'it returns false'. Refute it at one input. -/
def benchTracesWrong : ChangeSpec := { name := "benchTraces", fn := fun _ => fun
  | [d1, d2] => { results := [.lit (.bool false)], args := [d1, d2] }
  | _ => none }
def BenchTracesWrongFalsely : Prop := benchTracesRow.holds Tryz.pinned (OpenSpec.ofChange benchTracesWrong)

/-- 'couplantlaw04.BenchSees': WHATEVER THE INPUT: true; the input reads as it did. -/
def benchSeesSpec : ChangeSpec := { name := "benchSees", fn := fun _ => fun
  | [d1, d2] => { results := [.lit (.bool true)], args := [d1, d2] }
  | _ => none }
def benchSeesRow : OpenClaim := { program := "ytblbnagdhcpnoaagreat", sum := "ad33dda6f80067a2230cf3bc0321990ef72770832c24847355b9cc363aeb0f9e", func := "couplant/couplantlaw04.BenchSees", spec := "benchSees", inPlace := ["math.Float32bits"], unfollowed := true, recurses := true, apart := false }
def BenchSeesSaid : Prop := benchSeesRow.holds Tryz.pinned (OpenSpec.ofChange benchSeesSpec)

/-- ITS FALSE NEIGHBOUR: 'it returns false'. Refute it at one input. -/
def benchSeesWrong : ChangeSpec := { name := "benchSees", fn := fun _ => fun
  | [d1, d2] => { results := [.lit (.bool false)], args := [d1, d2] }
  | _ => none }
def BenchSeesWrongFalsely : Prop := benchSeesRow.holds Tryz.pinned (OpenSpec.ofChange benchSeesWrong)

/-- 'couplantlaw04.BenchMatrices': WHATEVER THE INPUT: true; the input reads as it did. -/
def benchMatricesSpec : ChangeSpec := { name := "benchMatrices", fn := fun _ => fun
  | [d] => { results := [.lit (.bool true)], args := [d] }
  | _ => none }
def benchMatricesRow : OpenClaim := { program := "ytblbnagdhcpnoaagreat", sum := "ad33dda6f80067a2230cf3bc0321990ef72770832c24847355b9cc363aeb0f9e", func := "couplant/couplantlaw04.BenchMatrices", spec := "benchMatrices", inPlace := ["math.Float32bits"], unfollowed := true, recurses := true, apart := false }
def BenchMatricesSaid : Prop := benchMatricesRow.holds Tryz.pinned (OpenSpec.ofChange benchMatricesSpec)

/-- ITS FALSE NEIGHBOUR: 'it returns false'. Refute it at one input. -/
def benchMatricesWrong : ChangeSpec := { name := "benchMatrices", fn := fun _ => fun
  | [d] => { results := [.lit (.bool false)], args := [d] }
  | _ => none }
def BenchMatricesWrongFalsely : Prop := benchMatricesRow.holds Tryz.pinned (OpenSpec.ofChange benchMatricesWrong)

/-- 'couplantlaw04.BenchEchoes': WHATEVER THE INPUT: true; the input reads as it did. -/
def benchEchoesSpec : ChangeSpec := { name := "benchEchoes", fn := fun _ => fun
  | [d1, d2, d3] => { results := [.lit (.bool true)], args := [d1, d2, d3] }
  | _ => none }
def benchEchoesRow : OpenClaim := { program := "ytblbnagdhcpnoaagreat", sum := "ad33dda6f80067a2230cf3bc0321990ef72770832c24847355b9cc363aeb0f9e", func := "couplant/couplantlaw04.BenchEchoes", spec := "benchEchoes", inPlace := ["math.Float32bits"], unfollowed := true, recurses := true, apart := false }
def BenchEchoesSaid : Prop := benchEchoesRow.holds Tryz.pinned (OpenSpec.ofChange benchEchoesSpec)

/-- ITS FALSE NEIGHBOUR: 'it returns false'. Refute it at one input. -/
def benchEchoesWrong : ChangeSpec := { name := "benchEchoes", fn := fun _ => fun
  | [d1, d2, d3] => { results := [.lit (.bool false)], args := [d1, d2, d3] }
  | _ => none }
def BenchEchoesWrongFalsely : Prop := benchEchoesRow.holds Tryz.pinned (OpenSpec.ofChange benchEchoesWrong)

/-- 'couplantlaw04.BenchMoves': WHATEVER THE INPUT: true; the input reads as it did. -/
def benchMovesSpec : ChangeSpec := { name := "benchMoves", fn := fun _ => fun
  | [d1, d2, d3] => { results := [.lit (.bool true)], args := [d1, d2, d3] }
  | _ => none }
def benchMovesRow : OpenClaim := { program := "ytblbnagdhcpnoaagreat", sum := "ad33dda6f80067a2230cf3bc0321990ef72770832c24847355b9cc363aeb0f9e", func := "couplant/couplantlaw04.BenchMoves", spec := "benchMoves", inPlace := ["math.Float32bits"], unfollowed := true, recurses := true, apart := false }
def BenchMovesSaid : Prop := benchMovesRow.holds Tryz.pinned (OpenSpec.ofChange benchMovesSpec)

/-- ITS FALSE NEIGHBOUR: 'it returns false'. Refute it at one input. -/
def benchMovesWrong : ChangeSpec := { name := "benchMoves", fn := fun _ => fun
  | [d1, d2, d3] => { results := [.lit (.bool false)], args := [d1, d2, d3] }
  | _ => none }
def BenchMovesWrongFalsely : Prop := benchMovesRow.holds Tryz.pinned (OpenSpec.ofChange benchMovesWrong)

/-- 'couplantlaw04.BenchAlong': WHATEVER THE INPUT: true; the input reads as it did. -/
def benchAlongSpec : ChangeSpec := { name := "benchAlong", fn := fun _ => fun
  | [d1, d2, d3] => { results := [.lit (.bool true)], args := [d1, d2, d3] }
  | _ => none }
def benchAlongRow : OpenClaim := { program := "ytblbnagdhcpnoaagreat", sum := "ad33dda6f80067a2230cf3bc0321990ef72770832c24847355b9cc363aeb0f9e", func := "couplant/couplantlaw04.BenchAlong", spec := "benchAlong", inPlace := ["math.Float32bits"], unfollowed := true, recurses := true, apart := false }
def BenchAlongSaid : Prop := benchAlongRow.holds Tryz.pinned (OpenSpec.ofChange benchAlongSpec)

/-- ITS FALSE NEIGHBOUR: 'it returns false'. Refute it at one input. -/
def benchAlongWrong : ChangeSpec := { name := "benchAlong", fn := fun _ => fun
  | [d1, d2, d3] => { results := [.lit (.bool false)], args := [d1, d2, d3] }
  | _ => none }
def BenchAlongWrongFalsely : Prop := benchAlongRow.holds Tryz.pinned (OpenSpec.ofChange benchAlongWrong)

/- THE SECOND FORM. 'bulk': how many values and letters a reading holds, each counted each time it is reached (what is shared counts as often as it is met; a slice's spare places count too). A statement '..UptoSaid' is the law's where the arguments, and the package variables that the reading takes, are together of bulk at most 1048576: NARROWER than '..Said'. Prove '..Said' where nothing that the law and all that it calls make is longer than what came in: it says more and counts as full. Else prove '..UptoSaid'. A law counts once. -/
mutual
def uptoBulk {H : Type} : DataW H → Nat
  | .lit (.string bytes) => bytes.length + 1
  | .lit _ => 1
  | .nil => 1
  | .ptr d => uptoBulk d + 1
  | .slice elems spare => uptoBulkAll elems + uptoBulkAll spare + 1
  | .agg parts => uptoBulkAll parts + 1
  | .iface _ d => uptoBulk d + 1
  | .map entries => uptoBulkEntries entries + 1
  | .held _ => 1
def uptoBulkAll {H : Type} : List (DataW H) → Nat
  | [] => 0
  | d :: r => uptoBulk d + uptoBulkAll r
def uptoBulkEntries {H : Type} : List (Lit × DataW H) → Nat
  | [] => 0
  | x :: r => uptoBulkEntry x + uptoBulkEntries r
def uptoBulkEntry {H : Type} : Lit × DataW H → Nat
  | (.string bytes, d) => bytes.length + uptoBulk d + 1
  | (_, d) => uptoBulk d + 1
 end
def uptoSmall : (H : Type) → List (DataW H) → Bool := fun _ ds => decide (uptoBulkAll ds ≤ 1048576)
def OpenSpec.upto (s : _root_.Go.ChangeSpec) : _root_.Go.OpenSpec := { _root_.Go.OpenSpec.ofChange s with cond := some uptoSmall }

/-- 'couplantlaw04.BenchTraces', WHERE WHAT IT READS IS OF BULK AT MOST 1048576: true; the input reads as it did. -/
def benchTracesUptoRow : OpenClaim := { program := "ytblbnagdhcpnoaagreat", sum := "ad33dda6f80067a2230cf3bc0321990ef72770832c24847355b9cc363aeb0f9e", func := "couplant/couplantlaw04.BenchTraces", spec := "benchTraces", inPlace := ["math.Float32bits"], unfollowed := true, recurses := true, apart := false, narrowed := true }
def BenchTracesUptoSaid : Prop := benchTracesUptoRow.holds Tryz.pinned (OpenSpec.upto benchTracesSpec)

/-- 'couplantlaw04.BenchSees', WHERE WHAT IT READS IS OF BULK AT MOST 1048576: true; the input reads as it did. -/
def benchSeesUptoRow : OpenClaim := { program := "ytblbnagdhcpnoaagreat", sum := "ad33dda6f80067a2230cf3bc0321990ef72770832c24847355b9cc363aeb0f9e", func := "couplant/couplantlaw04.BenchSees", spec := "benchSees", inPlace := ["math.Float32bits"], unfollowed := true, recurses := true, apart := false, narrowed := true }
def BenchSeesUptoSaid : Prop := benchSeesUptoRow.holds Tryz.pinned (OpenSpec.upto benchSeesSpec)

/-- 'couplantlaw04.BenchMatrices', WHERE WHAT IT READS IS OF BULK AT MOST 1048576: true; the input reads as it did. -/
def benchMatricesUptoRow : OpenClaim := { program := "ytblbnagdhcpnoaagreat", sum := "ad33dda6f80067a2230cf3bc0321990ef72770832c24847355b9cc363aeb0f9e", func := "couplant/couplantlaw04.BenchMatrices", spec := "benchMatrices", inPlace := ["math.Float32bits"], unfollowed := true, recurses := true, apart := false, narrowed := true }
def BenchMatricesUptoSaid : Prop := benchMatricesUptoRow.holds Tryz.pinned (OpenSpec.upto benchMatricesSpec)

/-- 'couplantlaw04.BenchEchoes', WHERE WHAT IT READS IS OF BULK AT MOST 1048576: true; the input reads as it did. -/
def benchEchoesUptoRow : OpenClaim := { program := "ytblbnagdhcpnoaagreat", sum := "ad33dda6f80067a2230cf3bc0321990ef72770832c24847355b9cc363aeb0f9e", func := "couplant/couplantlaw04.BenchEchoes", spec := "benchEchoes", inPlace := ["math.Float32bits"], unfollowed := true, recurses := true, apart := false, narrowed := true }
def BenchEchoesUptoSaid : Prop := benchEchoesUptoRow.holds Tryz.pinned (OpenSpec.upto benchEchoesSpec)

/-- 'couplantlaw04.BenchMoves', WHERE WHAT IT READS IS OF BULK AT MOST 1048576: true; the input reads as it did. -/
def benchMovesUptoRow : OpenClaim := { program := "ytblbnagdhcpnoaagreat", sum := "ad33dda6f80067a2230cf3bc0321990ef72770832c24847355b9cc363aeb0f9e", func := "couplant/couplantlaw04.BenchMoves", spec := "benchMoves", inPlace := ["math.Float32bits"], unfollowed := true, recurses := true, apart := false, narrowed := true }
def BenchMovesUptoSaid : Prop := benchMovesUptoRow.holds Tryz.pinned (OpenSpec.upto benchMovesSpec)

/-- 'couplantlaw04.BenchAlong', WHERE WHAT IT READS IS OF BULK AT MOST 1048576: true; the input reads as it did. -/
def benchAlongUptoRow : OpenClaim := { program := "ytblbnagdhcpnoaagreat", sum := "ad33dda6f80067a2230cf3bc0321990ef72770832c24847355b9cc363aeb0f9e", func := "couplant/couplantlaw04.BenchAlong", spec := "benchAlong", inPlace := ["math.Float32bits"], unfollowed := true, recurses := true, apart := false, narrowed := true }
def BenchAlongUptoSaid : Prop := benchAlongUptoRow.holds Tryz.pinned (OpenSpec.upto benchAlongSpec)

end Rows
end Go.Proofs.YtblbnagdhcpnoaaGreat
