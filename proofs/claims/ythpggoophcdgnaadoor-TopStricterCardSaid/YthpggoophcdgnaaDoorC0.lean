/- What the row lists of the package-level variables: a world that holds it, and what it gives the walks. Conditions: none. -/
import Derived.Test.YthpggoophcdgnaaDoorRows
import Derived.Test.YthpggoophcdgnaaDoorS1
import Derived.Handed
import Derived.SizedLaws
import Derived.LaidLaws
import Derived.LaidHandle
import Derived.Stop.LaidErr
import Derived.Lib.LaidTab
import Derived.WalkKit
import Derived.ProofKit
import Derived.OpenShut
import Derived.Shelf.Vars
set_option linter.unusedVariables false
set_option linter.unusedSimpArgs false
namespace Go.Proofs.YthpggoophcdgnaaDoor
open Go Go.ChangeShapes Go.WideShapes Go.ChangeAt Go.RowKit Am Am.M

theorem own : ownKnob Tryd.prog.godebug = none := by kernel_rfl
theorem laidOut : laidOutB Tryd.prog = true := by kernel_rfl
theorem gDb : Tryd.prog.globalNamed "math/bits.deBruijn64tab" = some 2 := by kernel_rfl
theorem gDbType : (Tryd.prog.globals[2]?).map (·.type) = some 112 := by kernel_rfl
theorem gQt : Tryd.prog.globalNamed "couplant/code.quantities" = some 0 := by kernel_rfl
theorem gQtType : (Tryd.prog.globals[0]?).map (·.type) = some 26 := by kernel_rfl
theorem gLs : Tryd.prog.globalNamed "couplant/code.lesser" = some 1 := by kernel_rfl
theorem gLsType : (Tryd.prog.globals[1]?).map (·.type) = some 28 := by kernel_rfl
theorem cellsInt : Tryd.prog.cellsOf 3 = 1 := by kernel_rfl
theorem cellsU8 : Tryd.prog.cellsOf 5 = 1 := by kernel_rfl
theorem cells6 : Tryd.prog.cellsOf 26 = 6 := by kernel_rfl
theorem cells3 : Tryd.prog.cellsOf 28 = 3 := by kernel_rfl
theorem cells64 : Tryd.prog.cellsOf 112 = 64 := by kernel_rfl
/-- What the row lists. -/
def listed : List (String × DataW Unit) := Rows.topStricterRow.laid
def qtN : List Int := [9, 20000, 20000, 20000, 100000, 200]
def lsN : List Int := [3, 4, 5]
theorem db_is : (Rows.laid_math_bits_deBruijn64tab : DataW Unit) = Lib.tabData .u8 dbN := by kernel_rfl
theorem qt_is : (Rows.laid_couplant_code_quantities : DataW Unit) = Lib.tabData .i64 qtN := by kernel_rfl
theorem ls_is : (Rows.laid_couplant_code_lesser : DataW Unit) = Lib.tabData .i64 lsN := by kernel_rfl
theorem holds_tab {W : World} {name : String} {k : IntKind} {zs : List Int} {g : Nat} {us : List Value} (h : Lib.TabIs Tryd.prog W name k zs) (hg : Tryd.prog.globalNamed name = some g) (hu : us = zs.map fun z => Value.int k z) : holdsG g us W := by
  subst hu
  intro j u hj
  rw [List.getElem?_map, Option.map_eq_some_iff] at hj
  obtain ⟨z, hz, rfl⟩ := hj
  obtain ⟨hlt, rfl⟩ := List.getElem?_eq_some_iff.1 hz
  have := h.cell hg j hlt
  rw [this, List.getD_eq_getElem?_getD, List.getElem?_eq_getElem hlt]; rfl
theorem var_size {P : Program} {w : World} {name : String} {g : Nat} {cs : Array Value} (hg : P.globalNamed name = some g) (h : w.var? P name = some cs) : g < w.heap.size := by
  unfold World.var? at h
  rw [hg] at h
  simp only [Option.bind_some] at h
  rcases Nat.lt_or_ge g w.heap.size with h' | h'
  · exact h'
  · rw [Array.getElem?_eq_none h'] at h; simp at h
theorem gb_of_laid {W : World} (hL : laidMet Tryd.prog listed W) (hs : W.ShapedOpen Tryd.prog) : GB W := by
  have h1 : laidMet Tryd.prog (("math/bits.deBruijn64tab", Lib.tabData .u8 dbN) :: (listed.drop 1)) W := by
    have h : laidMet Tryd.prog (("math/bits.deBruijn64tab", Rows.laid_math_bits_deBruijn64tab) :: (listed.drop 1)) W := hL
    rw [db_is] at h
    exact h
  have h2 : laidMet Tryd.prog (("couplant/code.quantities", Lib.tabData .i64 qtN) :: (listed.drop 2)) W := by
    have h : laidMet Tryd.prog (("couplant/code.quantities", Rows.laid_couplant_code_quantities) :: (listed.drop 2)) W := hL.tail
    rw [qt_is] at h
    exact h
  have h3 : laidMet Tryd.prog (("couplant/code.lesser", Lib.tabData .i64 lsN) :: (listed.drop 3)) W := by
    have h : laidMet Tryd.prog (("couplant/code.lesser", Rows.laid_couplant_code_lesser) :: (listed.drop 3)) W := hL.tail.tail
    rw [ls_is] at h
    exact h
  have t1 := Lib.tabIs_of_head gDb gDbType Tryd.underlying112 Tryd.underlying5 cellsU8 cells64 h1
  have t2 := Lib.tabIs_of_head gQt gQtType Tryd.underlying26 Tryd.underlying3 cellsInt cells6 h2
  have t3 := Lib.tabIs_of_head gLs gLsType Tryd.underlying28 Tryd.underlying3 cellsInt cells3 h3
  exact ⟨⟨holds_tab t2 gQt rfl, holds_tab t3 gLs rfl, holds_tab t1 gDb rfl⟩, var_size gDb t1⟩
theorem noHandles : (listed.filter fun x => x.2.handleName?.isSome) = [] := by kernel_rfl
theorem laidH_of {W : World} (h : laidMet Tryd.prog listed W) : laidMetH Tryd.prog listed W := by
  unfold laidMetH
  rw [noHandles]
  exact h
theorem laid_ofH {W : World} (h : laidMetH Tryd.prog listed W) : laidMet Tryd.prog listed W := by
  unfold laidMetH at h
  rw [noHandles] at h
  exact h
theorem laidH_heap (w w' : World) (args : Array Value) (hh : w.heap = w'.heap) (h : laidMetH Tryd.prog listed w) : laidMetH Tryd.prog listed w' := laidH_of ((laid_ofH h).of_heap hh)
/-- One cell of what is listed. -/
def litV : DataW Unit → Value
  | .lit (.int k n) => .int k n
  | _ => undef
def cellsL : DataW Unit → Array Value
  | .agg ds => (ds.map litV).toArray
  | d => #[litV d]
def putC (cs : Array Value) : Obj → Obj
  | .cells _ t fz => .cells cs t fz
  | x => x
/-- The settled world, and in it what is listed. -/
noncomputable def laidWorld (os : Os) : World :=
  let w0 := World.holding Tryd.prog os ⟨#[], #[], []⟩
  { w0 with heap := ((w0.heap.modify 2 (putC (cellsL Rows.laid_math_bits_deBruijn64tab))).modify 0 (putC (cellsL Rows.laid_couplant_code_quantities))).modify 1 (putC (cellsL Rows.laid_couplant_code_lesser)) }
theorem laidWorld_met (os : Os) (args : Array Value) : laidMet Tryd.prog listed ((laidWorld os).forCall (fun _ _ => 0) ⟨#[], args, []⟩).memory :=
  laidMet_of_run' 12 (by kernel_rfl) (by kernel_rfl)
/-- The wrap of a row that lists variables, with the world's shape. -/
theorem returnsInHanded_listed {H : Type} {enc : TypeId × Value → H} {a : Assume} {C : Checked} {os : Os} {f : FuncId} {fn : Func} {s : ChangeSpec} {conds : List PathCond} {apart fresh handsOn again : Bool} {X : World → Array Value → Prop}
    (hX : ∀ (w w' : World) (args : Array Value), w.heap = w'.heap → X w args → X w' args)
    (own : ownKnob C.prog.godebug = none) (started : os.Started) (noInit : C.prog.inits.idxOf? f = none) (hfn : C.prog.funcs[f]? = some fn)
    (witness : ∃ (w : World) (tape : Tape) (i : Input), w.os = os ∧ (w.forCall tape i).Shaped C.prog ∧ i.vars = [] ∧ Input.okWide C.prog (w.forCall tape i) .any w.heap.size f i ∧
      ((s.pre enc C.prog fn conds apart (w.forCall tape i).memory i.args ∧ X (w.forCall tape i).memory i.args) ∧ sizedMet enc C.prog fn (OpenSpec.ofChange s) apart (w.forCall tape i).memory i.args) ∧ a.holds C.prog (lone (Frame.enter C.prog f i.args .normal) [] (w.forCall tape i)))
    (contract : ∀ (W : World) (base : Nat) (args : Array Value) (ds gs : List (DataW H)) (before : List MemPlace),
      (∀ (j : Nat) t v, fn.params[j]? = some t → args[j]? = some v → Value.okWide C.prog W .any base t v) →
      DataW.Whole enc C.prog fn.params.toList s.vars apart W args.toList ds gs before → W.ShapedOpen C.prog → X W args →
      (DataW.weightsEach C.prog (fn.params.toList ++ s.plain.varTypes C.prog) (ds ++ gs)).all (· ≤ reachBytes) = true →
      Calls C.prog f args W fun e W' => ∃ v, e = .returned v ∧ s.post enc C.prog fn apart fresh handsOn again W args v W') :
    ReturnsInHanded a C os f .any (fun w args => (s.pre enc C.prog fn conds apart w args ∧ X w args) ∧ sizedMet enc C.prog fn (OpenSpec.ofChange s) apart w args) (s.post enc C.prog fn apart fresh handsOn again) := by
  refine returnsInHanded_of_calls own started noInit witness ?_
  intro w tape i _ hsh _ hok hpre hholds
  obtain ⟨_, _, _, fn', hfn', _, _, _, _, hval⟩ := hok
  have e : fn' = fn := Option.some.inj (hfn'.symm.trans hfn)
  subst e
  obtain ⟨⟨⟨ds, gs, before, hw, hc⟩, hx⟩, hz⟩ := hpre
  have hw' := DataW.Whole.of_heap (w' := w.forCall tape i) (by rfl) hw
  refine (contract (w.forCall tape i) w.heap.size i.args ds gs before hval hw' hsh (hX _ _ _ (by rfl) hx) (hz.weights hw)).mono fun e W' ⟨v, he, hp⟩ => ?_
  subst he
  exact ChangeSpec.post_blind hp
end Go.Proofs.YthpggoophcdgnaaDoor
