/- What all rows of this seat ask of the program; the parts of the closed facts; a call that is alone at its return is only leaving. Conditions: none. -/
import Derived.Test.YtamaocfjknpadaaGreatRows
import Derived.WalkKit
import Derived.ProofKit
import Derived.Leaving
import Derived.Conc.Holds
namespace Go.Proofs.YtamaocfjknpadaaGreat
open Go Go.ChangeShapes Go.WideShapes Go.ChangeAt Go.RowKit
set_option linter.unusedVariables false
set_option linter.unusedSimpArgs false
theorem and_tt {a b : Bool} (h : a = true) (k : b = true) : (a && b) = true := by rw [h, k]; rfl
theorem joined_of {P : Program} {f : FuncId} {fn : Func} {s : ChangeSpec} {c : OpenClaim} (h0 : (c.wf (OpenSpec.ofChange s)) = true) (h1 : (laidOutB P) = true) (h2 : (mapsRowed P) = true) (h3 : (fn.params.all (P.readableRec ·)) = true) (h4 : (namedTie P c.named s.vars) = true) (h5 : ((c.stops == [])) = true) (h6 : ((P.stops == [])) = true) (h7 : ((c.knobs == [])) = true) (h8 : ((P.stopKnobs == [])) = true) (h9 : ((c.inPlace == P.inPlace f)) = true) (h10 : ((c.unfollowed == P.unfollowed f)) = true) (h11 : ((c.recurses == P.recurses f)) = true) (h12 : ((c.named == P.varsNamed f)) = true) (h13 : ((c.maps == (fn.params.toList ++ s.plain.varTypes P).any (P.mapsRec ·))) = true) (h14 : ((c.ifaces == (fn.params.toList ++ s.plain.varTypes P).any (P.ifacesRec ·))) = true) (h15 : ((c.mapsOut == P.mapsAmong fn.resultTypes.toList)) = true) (h16 : ((c.loops == (fn.params.toList ++ s.plain.varTypes P).any (P.loopsFrom ·))) = true) (h17 : ((c.wideKeys == (fn.params.toList ++ s.plain.varTypes P ++ fn.resultTypes.toList).any (P.wideKeysFrom ·))) = true) (h18 : (s.vars.all (P.varReadable ·)) = true) (h19 : (fn.resultTypes.all (fun t => P.readableRec t && decide (t < P.types.size))) = true) (h20 : ((c.ifacesOut == fn.resultTypes.toList.any (P.ifacesRec ·))) = true) (h21 : ((c.loopsOut == fn.resultTypes.toList.any (P.loopsFrom ·))) = true) (h22 : ((c.plainKeys == P.plainKeys)) = true) (h23 : (c.shortTexts.isNone) = true) (h24 : (P.stopsHeard) = true) (h25 : (P.mayEnter) = true) (h26 : ((c.lifted == P.liftsFinal)) = true) (h27 : ((P.make == some c.make)) = true) (h28 : c.kinds = []) (hd : c.domain.isEmpty = true) (h29 : ((c.pinned == c.pinnedBy)) = true) (h30 : ((c.veiled == (fn.params.toList ++ s.plain.varTypes P ++ fn.resultTypes.toList).any (P.veiledRec ·))) = true) (h31 : (c.veiledFits P fn.params.toList (fn.params.toList ++ s.plain.varTypes P ++ fn.resultTypes.toList)) = true) : joinedFacts P f fn s c = true := (and_tt (and_tt (and_tt (and_tt (and_tt (and_tt (and_tt (and_tt (and_tt (and_tt (and_tt (and_tt (and_tt (and_tt (and_tt (and_tt (and_tt (and_tt (and_tt (and_tt (and_tt (and_tt (and_tt (and_tt (and_tt (and_tt (and_tt (and_tt (and_tt (and_tt (and_tt h0 h1) h2) h3) h4) h5) h6) h7) h8) h9) h10) h11) h12) h13) h14) h15) h16) h17) h18) h19) h20) h21) h22) h23) h24) h25) h26) h27) (by rw [h28, if_pos hd]; rfl)) h29) h30) h31)
theorem jl_1 : (laidOutB Tryz.pinned.checked.prog) = true := by kernel_rfl
theorem jl_2 : (mapsRowed Tryz.pinned.checked.prog) = true := by kernel_rfl
theorem jl_6 : ((Tryz.pinned.checked.prog.stops == [])) = true := by kernel_rfl
theorem jl_8 : ((Tryz.pinned.checked.prog.stopKnobs == [])) = true := by kernel_rfl
theorem jl_24 : (Tryz.pinned.checked.prog.stopsHeard) = true := by kernel_rfl
theorem jl_25 : (Tryz.pinned.checked.prog.mayEnter) = true := by kernel_rfl
theorem jl_liftsFinal : Tryz.pinned.checked.prog.liftsFinal = Rows.focusTasksRow.lifted := by kernel_rfl
theorem jl_make : Tryz.pinned.checked.prog.make = some Rows.focusTasksRow.make := by kernel_rfl
theorem jl_plainKeys : Tryz.pinned.checked.prog.plainKeys = Rows.focusTasksRow.plainKeys := by kernel_rfl
theorem leaving_of_handed {a : Assume} {C : Checked} {os : Os} {f : FuncId} {r : Reach} {Pre : World → Array Value → Prop} {Post : World → Array Value → Value → World → Prop} (h : ReturnsInHanded a C os f r Pre Post) : ReturnsInLeavingWide a C os f r Pre Post :=
  fun e => ReturnsInOpen.mono (fun m w t x => ⟨x.2.1, onlyLeaving_of_quiet x.1, x.2.2⟩) (fun _ x => x) (h e)
end Go.Proofs.YtamaocfjknpadaaGreat
