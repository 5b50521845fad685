/-
  No cell of these rows narrows 'for every input' (looked for: loops, veiled, ifaces, maps, wideKeys, modest, calm, conditions, laid).
  DERIVED. THE GIVEN ROWS OF THIS SEAT. 15 by the template 'for every input the law returns true; each argument reads behind the call as it read before'; 0 by the template 'total and deterministic' (their statements: YtamaocfjknpadaaGreatTotals.lean).
  GIVEN WITH THE SEED: the statements are not yours to turn. If you find one false, say at which input.
  Laid BY PROGRAM, IN A SANDBOX (cutbox-rows.mjs): the forced cells as the released guide's own fill.sh prints them over the translation db99ff675811ed7b… (all of the seat's roots in one cut). By AI agents, Wed Nov 11 2026. No macro, syntax, notation, axiom, sorry.
-/
import Derived.Test.YtamaocfjknpadaaGreatChecked
import GoSem.Claim
import GoSem.ClaimJoined
import GoSem.ClaimMapViews
import Derived.JoinedTies
import Derived.KernelRfl
namespace Go.Proofs.YtamaocfjknpadaaGreat
/- THE CELL 'sum', in the pinned program and in every row, IS THE sha256 OF THE DUMP (.gsa) THAT YtamaocfjknpadaaGreatProg.lean LOADS. Nothing in Lean hashes anything: it is a label: what it is worth is what the hold of that sum in a sandbox is worth. -/
noncomputable def Tryz.pinned : Pinned := { name := "ytamaocfjknpadaagreat", sum := "db99ff675811ed7b5acfb15d876479a0518af7d958e28c12cfadd2448b8289a0", checked := Tryz.checked }
namespace Rows
def none {H : Type} : Left H := { results := [], args := [] }

/-- 'couplantlaw05.FocusTasks': WHATEVER THE INPUT: true; the input reads as it did. -/
def focusTasksSpec : ChangeSpec := { name := "focusTasks", fn := fun _ => fun
  | [d] => { results := [.lit (.bool true)], args := [d] }
  | _ => none }
def focusTasksRow : OpenClaim := { program := "ytamaocfjknpadaagreat", sum := "db99ff675811ed7b5acfb15d876479a0518af7d958e28c12cfadd2448b8289a0", func := "couplant/couplantlaw05.FocusTasks", spec := "focusTasks", inPlace := ["math.Float64bits"], unfollowed := true, recurses := true, leaving := true, apart := false }
def FocusTasksSaid : Prop := focusTasksRow.holds Tryz.pinned (OpenSpec.ofChange focusTasksSpec)

/-- ITS FALSE NEIGHBOUR: 'it returns false'. Refute it at one input. -/
def focusTasksWrong : ChangeSpec := { name := "focusTasks", fn := fun _ => fun
  | [d] => { results := [.lit (.bool false)], args := [d] }
  | _ => none }
def FocusTasksWrongFalsely : Prop := focusTasksRow.holds Tryz.pinned (OpenSpec.ofChange focusTasksWrong)

/-- 'couplantlaw05.FocusValues': WHATEVER THE INPUT: true; the input reads as it did. -/
def focusValuesSpec : ChangeSpec := { name := "focusValues", fn := fun _ => fun
  | [d1, d2] => { results := [.lit (.bool true)], args := [d1, d2] }
  | _ => none }
def focusValuesRow : OpenClaim := { program := "ytamaocfjknpadaagreat", sum := "db99ff675811ed7b5acfb15d876479a0518af7d958e28c12cfadd2448b8289a0", func := "couplant/couplantlaw05.FocusValues", spec := "focusValues", inPlace := ["math.Float64bits"], unfollowed := true, recurses := true, leaving := true, apart := false }
def FocusValuesSaid : Prop := focusValuesRow.holds Tryz.pinned (OpenSpec.ofChange focusValuesSpec)

/-- ITS FALSE NEIGHBOUR: 'it returns false'. Refute it at one input. -/
def focusValuesWrong : ChangeSpec := { name := "focusValues", fn := fun _ => fun
  | [d1, d2] => { results := [.lit (.bool false)], args := [d1, d2] }
  | _ => none }
def FocusValuesWrongFalsely : Prop := focusValuesRow.holds Tryz.pinned (OpenSpec.ofChange focusValuesWrong)

/-- 'couplantlaw05.FocusEnds': WHATEVER THE INPUT: true; the input reads as it did. -/
def focusEndsSpec : ChangeSpec := { name := "focusEnds", fn := fun _ => fun
  | [d1, d2] => { results := [.lit (.bool true)], args := [d1, d2] }
  | _ => none }
def focusEndsRow : OpenClaim := { program := "ytamaocfjknpadaagreat", sum := "db99ff675811ed7b5acfb15d876479a0518af7d958e28c12cfadd2448b8289a0", func := "couplant/couplantlaw05.FocusEnds", spec := "focusEnds", inPlace := ["math.Float64bits"], unfollowed := true, recurses := true, leaving := true, apart := false }
def FocusEndsSaid : Prop := focusEndsRow.holds Tryz.pinned (OpenSpec.ofChange focusEndsSpec)

/-- ITS FALSE NEIGHBOUR: 'it returns false'. Refute it at one input. -/
def focusEndsWrong : ChangeSpec := { name := "focusEnds", fn := fun _ => fun
  | [d1, d2] => { results := [.lit (.bool false)], args := [d1, d2] }
  | _ => none }
def FocusEndsWrongFalsely : Prop := focusEndsRow.holds Tryz.pinned (OpenSpec.ofChange focusEndsWrong)

/-- 'couplantlaw05.FocusNumbers': WHATEVER THE INPUT: true; the input reads as it did. -/
def focusNumbersSpec : ChangeSpec := { name := "focusNumbers", fn := fun _ => fun
  | [d1, d2, d3] => { results := [.lit (.bool true)], args := [d1, d2, d3] }
  | _ => none }
def focusNumbersRow : OpenClaim := { program := "ytamaocfjknpadaagreat", sum := "db99ff675811ed7b5acfb15d876479a0518af7d958e28c12cfadd2448b8289a0", func := "couplant/couplantlaw05.FocusNumbers", spec := "focusNumbers", inPlace := ["math.Float64bits"], unfollowed := true, recurses := true, leaving := true, apart := false }
def FocusNumbersSaid : Prop := focusNumbersRow.holds Tryz.pinned (OpenSpec.ofChange focusNumbersSpec)

/-- ITS FALSE NEIGHBOUR: 'it returns false'. Refute it at one input. -/
def focusNumbersWrong : ChangeSpec := { name := "focusNumbers", fn := fun _ => fun
  | [d1, d2, d3] => { results := [.lit (.bool false)], args := [d1, d2, d3] }
  | _ => none }
def FocusNumbersWrongFalsely : Prop := focusNumbersRow.holds Tryz.pinned (OpenSpec.ofChange focusNumbersWrong)

/-- 'couplantlaw05.FocusImages': WHATEVER THE INPUT: true; the input reads as it did. -/
def focusImagesSpec : ChangeSpec := { name := "focusImages", fn := fun _ => fun
  | [d] => { results := [.lit (.bool true)], args := [d] }
  | _ => none }
def focusImagesRow : OpenClaim := { program := "ytamaocfjknpadaagreat", sum := "db99ff675811ed7b5acfb15d876479a0518af7d958e28c12cfadd2448b8289a0", func := "couplant/couplantlaw05.FocusImages", spec := "focusImages", inPlace := ["math.Float64bits"], unfollowed := true, recurses := true, leaving := true, apart := false }
def FocusImagesSaid : Prop := focusImagesRow.holds Tryz.pinned (OpenSpec.ofChange focusImagesSpec)

/-- ITS FALSE NEIGHBOUR: 'it returns false'. Refute it at one input. -/
def focusImagesWrong : ChangeSpec := { name := "focusImages", fn := fun _ => fun
  | [d] => { results := [.lit (.bool false)], args := [d] }
  | _ => none }
def FocusImagesWrongFalsely : Prop := focusImagesRow.holds Tryz.pinned (OpenSpec.ofChange focusImagesWrong)

/-- 'couplantlaw05.FocusDrops': WHATEVER THE INPUT: true; the input reads as it did. -/
def focusDropsSpec : ChangeSpec := { name := "focusDrops", fn := fun _ => fun
  | [d1, d2, d3] => { results := [.lit (.bool true)], args := [d1, d2, d3] }
  | _ => none }
def focusDropsRow : OpenClaim := { program := "ytamaocfjknpadaagreat", sum := "db99ff675811ed7b5acfb15d876479a0518af7d958e28c12cfadd2448b8289a0", func := "couplant/couplantlaw05.FocusDrops", spec := "focusDrops", inPlace := ["math.Float64bits"], unfollowed := true, recurses := true, leaving := true, apart := false }
def FocusDropsSaid : Prop := focusDropsRow.holds Tryz.pinned (OpenSpec.ofChange focusDropsSpec)

/-- ITS FALSE NEIGHBOUR: 'it returns false'. Refute it at one input. -/
def focusDropsWrong : ChangeSpec := { name := "focusDrops", fn := fun _ => fun
  | [d1, d2, d3] => { results := [.lit (.bool false)], args := [d1, d2, d3] }
  | _ => none }
def FocusDropsWrongFalsely : Prop := focusDropsRow.holds Tryz.pinned (OpenSpec.ofChange focusDropsWrong)

/-- 'couplantlaw05.FocusModes': WHATEVER THE INPUT: true; the input reads as it did. -/
def focusModesSpec : ChangeSpec := { name := "focusModes", fn := fun _ => fun
  | [d1, d2] => { results := [.lit (.bool true)], args := [d1, d2] }
  | _ => none }
def focusModesRow : OpenClaim := { program := "ytamaocfjknpadaagreat", sum := "db99ff675811ed7b5acfb15d876479a0518af7d958e28c12cfadd2448b8289a0", func := "couplant/couplantlaw05.FocusModes", spec := "focusModes", inPlace := ["math.Float64bits"], unfollowed := true, recurses := true, leaving := true, apart := false }
def FocusModesSaid : Prop := focusModesRow.holds Tryz.pinned (OpenSpec.ofChange focusModesSpec)

/-- ITS FALSE NEIGHBOUR: 'it returns false'. Refute it at one input. -/
def focusModesWrong : ChangeSpec := { name := "focusModes", fn := fun _ => fun
  | [d1, d2] => { results := [.lit (.bool false)], args := [d1, d2] }
  | _ => none }
def FocusModesWrongFalsely : Prop := focusModesRow.holds Tryz.pinned (OpenSpec.ofChange focusModesWrong)

/-- 'couplantlaw05.FocusDead': WHATEVER THE INPUT: true; the input reads as it did. -/
def focusDeadSpec : ChangeSpec := { name := "focusDead", fn := fun _ => fun
  | [d1, d2] => { results := [.lit (.bool true)], args := [d1, d2] }
  | _ => none }
def focusDeadRow : OpenClaim := { program := "ytamaocfjknpadaagreat", sum := "db99ff675811ed7b5acfb15d876479a0518af7d958e28c12cfadd2448b8289a0", func := "couplant/couplantlaw05.FocusDead", spec := "focusDead", inPlace := ["math.Float64bits"], unfollowed := true, recurses := true, leaving := true, apart := false }
def FocusDeadSaid : Prop := focusDeadRow.holds Tryz.pinned (OpenSpec.ofChange focusDeadSpec)

/-- ITS FALSE NEIGHBOUR: 'it returns false'. Refute it at one input. -/
def focusDeadWrong : ChangeSpec := { name := "focusDead", fn := fun _ => fun
  | [d1, d2] => { results := [.lit (.bool false)], args := [d1, d2] }
  | _ => none }
def FocusDeadWrongFalsely : Prop := focusDeadRow.holds Tryz.pinned (OpenSpec.ofChange focusDeadWrong)

/-- 'couplantlaw05.FocusMerges': WHATEVER THE INPUT: true; the input reads as it did. -/
def focusMergesSpec : ChangeSpec := { name := "focusMerges", fn := fun _ => fun
  | [d] => { results := [.lit (.bool true)], args := [d] }
  | _ => none }
def focusMergesRow : OpenClaim := { program := "ytamaocfjknpadaagreat", sum := "db99ff675811ed7b5acfb15d876479a0518af7d958e28c12cfadd2448b8289a0", func := "couplant/couplantlaw05.FocusMerges", spec := "focusMerges", inPlace := ["math.Float64bits", "math.archTrunc", "math.Float64frombits"], unfollowed := true, recurses := true, leaving := true, apart := false }
def FocusMergesSaid : Prop := focusMergesRow.holds Tryz.pinned (OpenSpec.ofChange focusMergesSpec)

/-- ITS FALSE NEIGHBOUR: 'it returns false'. Refute it at one input. -/
def focusMergesWrong : ChangeSpec := { name := "focusMerges", fn := fun _ => fun
  | [d] => { results := [.lit (.bool false)], args := [d] }
  | _ => none }
def FocusMergesWrongFalsely : Prop := focusMergesRow.holds Tryz.pinned (OpenSpec.ofChange focusMergesWrong)

/-- 'couplantlaw05.FocusLinear': WHATEVER THE INPUT: true; the input reads as it did. -/
def focusLinearSpec : ChangeSpec := { name := "focusLinear", fn := fun _ => fun
  | [d1, d2] => { results := [.lit (.bool true)], args := [d1, d2] }
  | _ => none }
def focusLinearRow : OpenClaim := { program := "ytamaocfjknpadaagreat", sum := "db99ff675811ed7b5acfb15d876479a0518af7d958e28c12cfadd2448b8289a0", func := "couplant/couplantlaw05.FocusLinear", spec := "focusLinear", inPlace := ["math.Float64bits", "math.archTrunc", "math.Float64frombits"], unfollowed := true, recurses := true, leaving := true, apart := false }
def FocusLinearSaid : Prop := focusLinearRow.holds Tryz.pinned (OpenSpec.ofChange focusLinearSpec)

/-- ITS FALSE NEIGHBOUR: 'it returns false'. Refute it at one input. -/
def focusLinearWrong : ChangeSpec := { name := "focusLinear", fn := fun _ => fun
  | [d1, d2] => { results := [.lit (.bool false)], args := [d1, d2] }
  | _ => none }
def FocusLinearWrongFalsely : Prop := focusLinearRow.holds Tryz.pinned (OpenSpec.ofChange focusLinearWrong)

/-- 'couplantlaw05.FocusShares': WHATEVER THE INPUT: true; the input reads as it did. -/
def focusSharesSpec : ChangeSpec := { name := "focusShares", fn := fun _ => fun
  | [d1, d2] => { results := [.lit (.bool true)], args := [d1, d2] }
  | _ => none }
def focusSharesRow : OpenClaim := { program := "ytamaocfjknpadaagreat", sum := "db99ff675811ed7b5acfb15d876479a0518af7d958e28c12cfadd2448b8289a0", func := "couplant/couplantlaw05.FocusShares", spec := "focusShares", inPlace := ["math.Float64bits", "math.archTrunc", "math.Float64frombits"], unfollowed := true, recurses := true, leaving := true, apart := false }
def FocusSharesSaid : Prop := focusSharesRow.holds Tryz.pinned (OpenSpec.ofChange focusSharesSpec)

/-- ITS FALSE NEIGHBOUR: 'it returns false'. Refute it at one input. -/
def focusSharesWrong : ChangeSpec := { name := "focusShares", fn := fun _ => fun
  | [d1, d2] => { results := [.lit (.bool false)], args := [d1, d2] }
  | _ => none }
def FocusSharesWrongFalsely : Prop := focusSharesRow.holds Tryz.pinned (OpenSpec.ofChange focusSharesWrong)

/-- 'couplantlaw05.FocusDealt': WHATEVER THE INPUT: true; the input reads as it did. -/
def focusDealtSpec : ChangeSpec := { name := "focusDealt", fn := fun _ => fun
  | [d1, d2] => { results := [.lit (.bool true)], args := [d1, d2] }
  | _ => none }
def focusDealtRow : OpenClaim := { program := "ytamaocfjknpadaagreat", sum := "db99ff675811ed7b5acfb15d876479a0518af7d958e28c12cfadd2448b8289a0", func := "couplant/couplantlaw05.FocusDealt", spec := "focusDealt", inPlace := ["math.Float64bits", "(*sync.WaitGroup).Add", "internal/race.ReleaseMerge", "internal/race.Disable", "internal/race.Enable", "internal/synctest.IsInBubble", "internal/synctest.Associate[sync.WaitGroup]", "sync.fatal", "sync/atomic.OrUint64", "sync/atomic.AddUint64", "internal/race.Read", "sync/atomic.LoadUint64", "sync/atomic.StoreUint64", "internal/synctest.Disassociate[sync.WaitGroup]", "sync.runtime_Semrelease", "(*sync.WaitGroup).Done", "(*sync.WaitGroup).Wait", "internal/race.Acquire", "internal/synctest.IsAssociated[sync.WaitGroup]", "sync/atomic.CompareAndSwapUint64", "internal/race.Write", "sync.runtime_SemacquireWaitGroup"], unfollowed := true, recurses := true, leaving := true, apart := false }
def FocusDealtSaid : Prop := focusDealtRow.holds Tryz.pinned (OpenSpec.ofChange focusDealtSpec)

/-- ITS FALSE NEIGHBOUR: 'it returns false'. Refute it at one input. -/
def focusDealtWrong : ChangeSpec := { name := "focusDealt", fn := fun _ => fun
  | [d1, d2] => { results := [.lit (.bool false)], args := [d1, d2] }
  | _ => none }
def FocusDealtWrongFalsely : Prop := focusDealtRow.holds Tryz.pinned (OpenSpec.ofChange focusDealtWrong)

/-- 'couplanttop.TopWithinEnds': WHATEVER THE INPUT: true; the input reads as it did. -/
def topWithinEndsSpec : ChangeSpec := { name := "topWithinEnds", fn := fun _ => fun
  | [d1, d2, d3] => { results := [.lit (.bool true)], args := [d1, d2, d3] }
  | _ => none }
def topWithinEndsRow : OpenClaim := { program := "ytamaocfjknpadaagreat", sum := "db99ff675811ed7b5acfb15d876479a0518af7d958e28c12cfadd2448b8289a0", func := "couplant/couplanttop.TopWithinEnds", spec := "topWithinEnds", inPlace := ["math.Float64bits"], unfollowed := true, recurses := true, leaving := true, apart := false }
def TopWithinEndsSaid : Prop := topWithinEndsRow.holds Tryz.pinned (OpenSpec.ofChange topWithinEndsSpec)

/-- ITS FALSE NEIGHBOUR: 'it returns false'. Refute it at one input. -/
def topWithinEndsWrong : ChangeSpec := { name := "topWithinEnds", fn := fun _ => fun
  | [d1, d2, d3] => { results := [.lit (.bool false)], args := [d1, d2, d3] }
  | _ => none }
def TopWithinEndsWrongFalsely : Prop := topWithinEndsRow.holds Tryz.pinned (OpenSpec.ofChange topWithinEndsWrong)

/-- 'couplanttop.TopPeakAtTheFlaw': WHATEVER THE INPUT: true; the input reads as it did. -/
def topPeakAtTheFlawSpec : ChangeSpec := { name := "topPeakAtTheFlaw", fn := fun _ => fun
  | [d1, d2, d3] => { results := [.lit (.bool true)], args := [d1, d2, d3] }
  | _ => none }
def topPeakAtTheFlawRow : OpenClaim := { program := "ytamaocfjknpadaagreat", sum := "db99ff675811ed7b5acfb15d876479a0518af7d958e28c12cfadd2448b8289a0", func := "couplant/couplanttop.TopPeakAtTheFlaw", spec := "topPeakAtTheFlaw", inPlace := ["math.Float64bits", "math.archTrunc", "math.Float64frombits"], unfollowed := true, recurses := true, leaving := true, apart := false }
def TopPeakAtTheFlawSaid : Prop := topPeakAtTheFlawRow.holds Tryz.pinned (OpenSpec.ofChange topPeakAtTheFlawSpec)

/-- ITS FALSE NEIGHBOUR: 'it returns false'. Refute it at one input. -/
def topPeakAtTheFlawWrong : ChangeSpec := { name := "topPeakAtTheFlaw", fn := fun _ => fun
  | [d1, d2, d3] => { results := [.lit (.bool false)], args := [d1, d2, d3] }
  | _ => none }
def TopPeakAtTheFlawWrongFalsely : Prop := topPeakAtTheFlawRow.holds Tryz.pinned (OpenSpec.ofChange topPeakAtTheFlawWrong)

/-- 'couplanttop.TopPointsAddUp': WHATEVER THE INPUT: true; the input reads as it did. -/
def topPointsAddUpSpec : ChangeSpec := { name := "topPointsAddUp", fn := fun _ => fun
  | [d1, d2] => { results := [.lit (.bool true)], args := [d1, d2] }
  | _ => none }
def topPointsAddUpRow : OpenClaim := { program := "ytamaocfjknpadaagreat", sum := "db99ff675811ed7b5acfb15d876479a0518af7d958e28c12cfadd2448b8289a0", func := "couplant/couplanttop.TopPointsAddUp", spec := "topPointsAddUp", inPlace := ["math.Float32bits", "math.archTrunc", "math.Float64bits", "math.Float64frombits"], unfollowed := true, recurses := true, leaving := true, apart := false }
def TopPointsAddUpSaid : Prop := topPointsAddUpRow.holds Tryz.pinned (OpenSpec.ofChange topPointsAddUpSpec)

/-- ITS FALSE NEIGHBOUR: 'it returns false'. Refute it at one input. -/
def topPointsAddUpWrong : ChangeSpec := { name := "topPointsAddUp", fn := fun _ => fun
  | [d1, d2] => { results := [.lit (.bool false)], args := [d1, d2] }
  | _ => none }
def TopPointsAddUpWrongFalsely : Prop := topPointsAddUpRow.holds Tryz.pinned (OpenSpec.ofChange topPointsAddUpWrong)

/- THE SECOND FORM. 'bulk': how many values and letters a reading holds, each counted each time it is reached (what is shared counts as often as it is met; a slice's spare places count too). A statement '..UptoSaid' is the law's where the arguments, and the package variables that the reading takes, are together of bulk at most 1048576: NARROWER than '..Said'. Prove '..Said' where nothing that the law and all that it calls make is longer than what came in: it says more and counts as full. Else prove '..UptoSaid'. A law counts once. -/
mutual
def uptoBulk {H : Type} : DataW H → Nat
  | .lit (.string bytes) => bytes.length + 1
  | .lit _ => 1
  | .nil => 1
  | .ptr d => uptoBulk d + 1
  | .slice elems spare => uptoBulkAll elems + uptoBulkAll spare + 1
  | .agg parts => uptoBulkAll parts + 1
  | .iface _ d => uptoBulk d + 1
  | .map entries => uptoBulkEntries entries + 1
  | .held _ => 1
def uptoBulkAll {H : Type} : List (DataW H) → Nat
  | [] => 0
  | d :: r => uptoBulk d + uptoBulkAll r
def uptoBulkEntries {H : Type} : List (Lit × DataW H) → Nat
  | [] => 0
  | x :: r => uptoBulkEntry x + uptoBulkEntries r
def uptoBulkEntry {H : Type} : Lit × DataW H → Nat
  | (.string bytes, d) => bytes.length + uptoBulk d + 1
  | (_, d) => uptoBulk d + 1
 end
def uptoSmall : (H : Type) → List (DataW H) → Bool := fun _ ds => decide (uptoBulkAll ds ≤ 1048576)
def OpenSpec.upto (s : _root_.Go.ChangeSpec) : _root_.Go.OpenSpec := { _root_.Go.OpenSpec.ofChange s with cond := some uptoSmall }

/-- 'couplantlaw05.FocusTasks', WHERE WHAT IT READS IS OF BULK AT MOST 1048576: true; the input reads as it did. -/
def focusTasksUptoRow : OpenClaim := { program := "ytamaocfjknpadaagreat", sum := "db99ff675811ed7b5acfb15d876479a0518af7d958e28c12cfadd2448b8289a0", func := "couplant/couplantlaw05.FocusTasks", spec := "focusTasks", inPlace := ["math.Float64bits"], unfollowed := true, recurses := true, leaving := true, apart := false, narrowed := true }
def FocusTasksUptoSaid : Prop := focusTasksUptoRow.holds Tryz.pinned (OpenSpec.upto focusTasksSpec)

/-- 'couplantlaw05.FocusValues', WHERE WHAT IT READS IS OF BULK AT MOST 1048576: true; the input reads as it did. -/
def focusValuesUptoRow : OpenClaim := { program := "ytamaocfjknpadaagreat", sum := "db99ff675811ed7b5acfb15d876479a0518af7d958e28c12cfadd2448b8289a0", func := "couplant/couplantlaw05.FocusValues", spec := "focusValues", inPlace := ["math.Float64bits"], unfollowed := true, recurses := true, leaving := true, apart := false, narrowed := true }
def FocusValuesUptoSaid : Prop := focusValuesUptoRow.holds Tryz.pinned (OpenSpec.upto focusValuesSpec)

/-- 'couplantlaw05.FocusEnds', WHERE WHAT IT READS IS OF BULK AT MOST 1048576: true; the input reads as it did. -/
def focusEndsUptoRow : OpenClaim := { program := "ytamaocfjknpadaagreat", sum := "db99ff675811ed7b5acfb15d876479a0518af7d958e28c12cfadd2448b8289a0", func := "couplant/couplantlaw05.FocusEnds", spec := "focusEnds", inPlace := ["math.Float64bits"], unfollowed := true, recurses := true, leaving := true, apart := false, narrowed := true }
def FocusEndsUptoSaid : Prop := focusEndsUptoRow.holds Tryz.pinned (OpenSpec.upto focusEndsSpec)

/-- 'couplantlaw05.FocusNumbers', WHERE WHAT IT READS IS OF BULK AT MOST 1048576: true; the input reads as it did. -/
def focusNumbersUptoRow : OpenClaim := { program := "ytamaocfjknpadaagreat", sum := "db99ff675811ed7b5acfb15d876479a0518af7d958e28c12cfadd2448b8289a0", func := "couplant/couplantlaw05.FocusNumbers", spec := "focusNumbers", inPlace := ["math.Float64bits"], unfollowed := true, recurses := true, leaving := true, apart := false, narrowed := true }
def FocusNumbersUptoSaid : Prop := focusNumbersUptoRow.holds Tryz.pinned (OpenSpec.upto focusNumbersSpec)

/-- 'couplantlaw05.FocusImages', WHERE WHAT IT READS IS OF BULK AT MOST 1048576: true; the input reads as it did. -/
def focusImagesUptoRow : OpenClaim := { program := "ytamaocfjknpadaagreat", sum := "db99ff675811ed7b5acfb15d876479a0518af7d958e28c12cfadd2448b8289a0", func := "couplant/couplantlaw05.FocusImages", spec := "focusImages", inPlace := ["math.Float64bits"], unfollowed := true, recurses := true, leaving := true, apart := false, narrowed := true }
def FocusImagesUptoSaid : Prop := focusImagesUptoRow.holds Tryz.pinned (OpenSpec.upto focusImagesSpec)

/-- 'couplantlaw05.FocusDrops', WHERE WHAT IT READS IS OF BULK AT MOST 1048576: true; the input reads as it did. -/
def focusDropsUptoRow : OpenClaim := { program := "ytamaocfjknpadaagreat", sum := "db99ff675811ed7b5acfb15d876479a0518af7d958e28c12cfadd2448b8289a0", func := "couplant/couplantlaw05.FocusDrops", spec := "focusDrops", inPlace := ["math.Float64bits"], unfollowed := true, recurses := true, leaving := true, apart := false, narrowed := true }
def FocusDropsUptoSaid : Prop := focusDropsUptoRow.holds Tryz.pinned (OpenSpec.upto focusDropsSpec)

/-- 'couplantlaw05.FocusModes', WHERE WHAT IT READS IS OF BULK AT MOST 1048576: true; the input reads as it did. -/
def focusModesUptoRow : OpenClaim := { program := "ytamaocfjknpadaagreat", sum := "db99ff675811ed7b5acfb15d876479a0518af7d958e28c12cfadd2448b8289a0", func := "couplant/couplantlaw05.FocusModes", spec := "focusModes", inPlace := ["math.Float64bits"], unfollowed := true, recurses := true, leaving := true, apart := false, narrowed := true }
def FocusModesUptoSaid : Prop := focusModesUptoRow.holds Tryz.pinned (OpenSpec.upto focusModesSpec)

/-- 'couplantlaw05.FocusDead', WHERE WHAT IT READS IS OF BULK AT MOST 1048576: true; the input reads as it did. -/
def focusDeadUptoRow : OpenClaim := { program := "ytamaocfjknpadaagreat", sum := "db99ff675811ed7b5acfb15d876479a0518af7d958e28c12cfadd2448b8289a0", func := "couplant/couplantlaw05.FocusDead", spec := "focusDead", inPlace := ["math.Float64bits"], unfollowed := true, recurses := true, leaving := true, apart := false, narrowed := true }
def FocusDeadUptoSaid : Prop := focusDeadUptoRow.holds Tryz.pinned (OpenSpec.upto focusDeadSpec)

/-- 'couplantlaw05.FocusMerges', WHERE WHAT IT READS IS OF BULK AT MOST 1048576: true; the input reads as it did. -/
def focusMergesUptoRow : OpenClaim := { program := "ytamaocfjknpadaagreat", sum := "db99ff675811ed7b5acfb15d876479a0518af7d958e28c12cfadd2448b8289a0", func := "couplant/couplantlaw05.FocusMerges", spec := "focusMerges", inPlace := ["math.Float64bits", "math.archTrunc", "math.Float64frombits"], unfollowed := true, recurses := true, leaving := true, apart := false, narrowed := true }
def FocusMergesUptoSaid : Prop := focusMergesUptoRow.holds Tryz.pinned (OpenSpec.upto focusMergesSpec)

/-- 'couplantlaw05.FocusLinear', WHERE WHAT IT READS IS OF BULK AT MOST 1048576: true; the input reads as it did. -/
def focusLinearUptoRow : OpenClaim := { program := "ytamaocfjknpadaagreat", sum := "db99ff675811ed7b5acfb15d876479a0518af7d958e28c12cfadd2448b8289a0", func := "couplant/couplantlaw05.FocusLinear", spec := "focusLinear", inPlace := ["math.Float64bits", "math.archTrunc", "math.Float64frombits"], unfollowed := true, recurses := true, leaving := true, apart := false, narrowed := true }
def FocusLinearUptoSaid : Prop := focusLinearUptoRow.holds Tryz.pinned (OpenSpec.upto focusLinearSpec)

/-- 'couplantlaw05.FocusShares', WHERE WHAT IT READS IS OF BULK AT MOST 1048576: true; the input reads as it did. -/
def focusSharesUptoRow : OpenClaim := { program := "ytamaocfjknpadaagreat", sum := "db99ff675811ed7b5acfb15d876479a0518af7d958e28c12cfadd2448b8289a0", func := "couplant/couplantlaw05.FocusShares", spec := "focusShares", inPlace := ["math.Float64bits", "math.archTrunc", "math.Float64frombits"], unfollowed := true, recurses := true, leaving := true, apart := false, narrowed := true }
def FocusSharesUptoSaid : Prop := focusSharesUptoRow.holds Tryz.pinned (OpenSpec.upto focusSharesSpec)

/-- 'couplantlaw05.FocusDealt', WHERE WHAT IT READS IS OF BULK AT MOST 1048576: true; the input reads as it did. -/
def focusDealtUptoRow : OpenClaim := { program := "ytamaocfjknpadaagreat", sum := "db99ff675811ed7b5acfb15d876479a0518af7d958e28c12cfadd2448b8289a0", func := "couplant/couplantlaw05.FocusDealt", spec := "focusDealt", inPlace := ["math.Float64bits", "(*sync.WaitGroup).Add", "internal/race.ReleaseMerge", "internal/race.Disable", "internal/race.Enable", "internal/synctest.IsInBubble", "internal/synctest.Associate[sync.WaitGroup]", "sync.fatal", "sync/atomic.OrUint64", "sync/atomic.AddUint64", "internal/race.Read", "sync/atomic.LoadUint64", "sync/atomic.StoreUint64", "internal/synctest.Disassociate[sync.WaitGroup]", "sync.runtime_Semrelease", "(*sync.WaitGroup).Done", "(*sync.WaitGroup).Wait", "internal/race.Acquire", "internal/synctest.IsAssociated[sync.WaitGroup]", "sync/atomic.CompareAndSwapUint64", "internal/race.Write", "sync.runtime_SemacquireWaitGroup"], unfollowed := true, recurses := true, leaving := true, apart := false, narrowed := true }
def FocusDealtUptoSaid : Prop := focusDealtUptoRow.holds Tryz.pinned (OpenSpec.upto focusDealtSpec)

/-- 'couplanttop.TopWithinEnds', WHERE WHAT IT READS IS OF BULK AT MOST 1048576: true; the input reads as it did. -/
def topWithinEndsUptoRow : OpenClaim := { program := "ytamaocfjknpadaagreat", sum := "db99ff675811ed7b5acfb15d876479a0518af7d958e28c12cfadd2448b8289a0", func := "couplant/couplanttop.TopWithinEnds", spec := "topWithinEnds", inPlace := ["math.Float64bits"], unfollowed := true, recurses := true, leaving := true, apart := false, narrowed := true }
def TopWithinEndsUptoSaid : Prop := topWithinEndsUptoRow.holds Tryz.pinned (OpenSpec.upto topWithinEndsSpec)

/-- 'couplanttop.TopPeakAtTheFlaw', WHERE WHAT IT READS IS OF BULK AT MOST 1048576: true; the input reads as it did. -/
def topPeakAtTheFlawUptoRow : OpenClaim := { program := "ytamaocfjknpadaagreat", sum := "db99ff675811ed7b5acfb15d876479a0518af7d958e28c12cfadd2448b8289a0", func := "couplant/couplanttop.TopPeakAtTheFlaw", spec := "topPeakAtTheFlaw", inPlace := ["math.Float64bits", "math.archTrunc", "math.Float64frombits"], unfollowed := true, recurses := true, leaving := true, apart := false, narrowed := true }
def TopPeakAtTheFlawUptoSaid : Prop := topPeakAtTheFlawUptoRow.holds Tryz.pinned (OpenSpec.upto topPeakAtTheFlawSpec)

/-- 'couplanttop.TopPointsAddUp', WHERE WHAT IT READS IS OF BULK AT MOST 1048576: true; the input reads as it did. -/
def topPointsAddUpUptoRow : OpenClaim := { program := "ytamaocfjknpadaagreat", sum := "db99ff675811ed7b5acfb15d876479a0518af7d958e28c12cfadd2448b8289a0", func := "couplant/couplanttop.TopPointsAddUp", spec := "topPointsAddUp", inPlace := ["math.Float32bits", "math.archTrunc", "math.Float64bits", "math.Float64frombits"], unfollowed := true, recurses := true, leaving := true, apart := false, narrowed := true }
def TopPointsAddUpUptoSaid : Prop := topPointsAddUpUptoRow.holds Tryz.pinned (OpenSpec.upto topPointsAddUpSpec)

end Rows
end Go.Proofs.YtamaocfjknpadaaGreat
