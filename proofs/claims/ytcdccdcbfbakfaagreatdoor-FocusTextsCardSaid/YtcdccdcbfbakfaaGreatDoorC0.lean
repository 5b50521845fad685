/- What the rows list of the package-level variables: a world that holds it, and what it gives the walks. Conditions: none. -/
import Derived.Test.YtcdccdcbfbakfaaGreatDoorRows
import Derived.Test.YtcdccdcbfbakfaaGreatDoorV1
import Derived.Test.YtcdccdcbfbakfaaGreatDoorShelf
import Derived.Handed
import Derived.SizedLaws
import Derived.LaidLaws
import Derived.LaidHandle
import Derived.Stop.LaidErr
import Derived.Lib.LaidTab
import Derived.WalkKit
import Derived.ProofKit
import Derived.OpenShut
import Derived.Shelf.Vars
set_option linter.unusedVariables false
set_option linter.unusedSimpArgs false
namespace Go.Proofs.YtcdccdcbfbakfaaGreatDoor
open Go Go.ChangeShapes Go.WideShapes Go.ChangeAt Go.RowKit Am Am.M

theorem own : ownKnob Tryz.prog.godebug = none := by kernel_rfl
theorem laidOut : laidOutB Tryz.prog = true := by kernel_rfl
theorem gTab : Tryz.prog.globalNamed "internal/strconv.uint64pow10" = some 4 := by kernel_rfl
theorem gTabType : (Tryz.prog.globals[4]?).map (·.type) = some 246 := by kernel_rfl
theorem gSyn : Tryz.prog.globalNamed "strconv.ErrSyntax" = some 2 := by kernel_rfl
theorem gSynType : (Tryz.prog.globals[2]?).map (·.type) = some 129 := by kernel_rfl
theorem gRng : Tryz.prog.globalNamed "strconv.ErrRange" = some 3 := by kernel_rfl
theorem gRngType : (Tryz.prog.globals[3]?).map (·.type) = some 129 := by kernel_rfl
theorem cellsES : Tryz.prog.cellsOf 253 = 1 := by kernel_rfl
theorem cellsStr : Tryz.prog.cellsOf 9 = 1 := by kernel_rfl
theorem cellsU64 : Tryz.prog.cellsOf 117 = 1 := by kernel_rfl
theorem cellsTab : Tryz.prog.cellsOf 246 = 20 := by kernel_rfl
theorem starName : "*" ++ "errors.errorString" = "*errors.errorString" := by decide
theorem rowPtr (u : TypeId) (h : Tryz.prog.typeName? 3 u = some "*errors.errorString") : u = 251 :=
  typeName_ptr_named (nm := "errors.errorString") (by rw [starName]; kernel_rfl) (by kernel_rfl) (by decide) u (by rw [starName]; exact h)
/-- What the rows list. -/
def listed : List (String × DataW Unit) := Rows.focusTextsRow.laid
theorem tab_is : (Rows.laid_internal_strconv_uint64pow10 : DataW Unit) = Lib.tabData .u64 Lib.pow10Tab := by kernel_rfl
theorem gw_of_laid {W : World} (hL : laidMet Tryz.prog listed W) (hs : W.ShapedOpen Tryz.prog) : GW W := by
  have hL3 : laidMet Tryz.prog (("internal/strconv.uint64pow10", Lib.tabData .u64 Lib.pow10Tab) :: (listed.drop 3)) W := by
    have := hL.tail.tail
    rw [tab_is] at this
    exact this
  obtain ⟨a0, s0, hv0, -, -, -⟩ := laid_sentinel (show laidMet Tryz.prog (("strconv.ErrRange", _) :: (listed.drop 5)) W from hL.tail.tail.tail.tail) gRng gRngType Tryz.underlying129 rowPtr Tryz.underlying251 Tryz.underlying253 rfl rfl Tryz.underlying9 cellsES cellsStr
  obtain ⟨a1, s1, hv1, -, -, -⟩ := laid_sentinel (show laidMet Tryz.prog (("strconv.ErrSyntax", _) :: (listed.drop 6)) W from hL.tail.tail.tail.tail.tail) gSyn gSynType Tryz.underlying129 rowPtr Tryz.underlying251 Tryz.underlying253 rfl rfl Tryz.underlying9 cellsES cellsStr
  exact ⟨cell_of_shapedOpen_int (t := 3) (zero := #[.int .i64 0]) hs (of_decide_eq_true (by kernel_rfl)) (by kernel_rfl) rfl (by kernel_rfl) (by kernel_rfl) Tryz.underlying3, Lib.tabIs_of_head gTab gTabType Tryz.underlying246 Tryz.underlying117 cellsU64 cellsTab hL3, ⟨_, _, hv1⟩, _, _, hv0⟩
theorem noHandles : (listed.filter fun x => x.2.handleName?.isSome) = [] := by kernel_rfl
theorem laidH_of {W : World} (h : laidMet Tryz.prog listed W) : laidMetH Tryz.prog listed W := by
  unfold laidMetH
  rw [noHandles]
  exact h
theorem laid_ofH {W : World} (h : laidMetH Tryz.prog listed W) : laidMet Tryz.prog listed W := by
  unfold laidMetH at h
  rw [noHandles] at h
  exact h
theorem laidH_heap (w w' : World) (args : Array Value) (hh : w.heap = w'.heap) (h : laidMetH Tryz.prog listed w) : laidMetH Tryz.prog listed w' := laidH_of ((laid_ofH h).of_heap hh)
/-- One cell of what is listed. -/
def litV : DataW Unit → Value
  | .lit (.int k n) => .int k n
  | _ => undef
def litC : DataW Unit → List Value
  | .agg ds => ds.map litV
  | d => [litV d]
def cellsL : DataW Unit → Array Value
  | .agg ds => (ds.flatMap litC).toArray
  | d => #[litV d]
noncomputable def low : Nat := (World.holding Tryz.prog default ⟨#[], #[], []⟩).heap.size
def putC (cs : Array Value) : Obj → Obj
  | .cells _ t fz => .cells cs t fz
  | x => x
def synS : ByteArray := ⟨#[105, 110, 118, 97, 108, 105, 100, 32, 115, 121, 110, 116, 97, 120]⟩
def rngS : ByteArray := ⟨#[118, 97, 108, 117, 101, 32, 111, 117, 116, 32, 111, 102, 32, 114, 97, 110, 103, 101]⟩
/-- The settled world, and in it what is listed. -/
noncomputable def laidWorld (os : Os) : World :=
  let w0 := World.holding Tryz.prog os ⟨#[.cells #[.string synS] 253, .cells #[.string rngS] 253], #[], []⟩
  { w0 with heap := ((((((w0.heap.modify 2 (putC #[.iface 251 (.pointer (some ⟨low, 0, none⟩))])).modify 3 (putC #[.iface 251 (.pointer (some ⟨low + 1, 0, none⟩))])).modify 4 (putC (cellsL Rows.laid_internal_strconv_uint64pow10))).modify 5 (putC (cellsL Rows.laid_unicode_utf8_first))).modify 6 (putC (cellsL Rows.laid_unicode_utf8_acceptRanges))).modify 7 (putC (cellsL Rows.laid_math_bits_deBruijn32tab))).modify 8 (putC (cellsL Rows.laid_math_bits_deBruijn64tab)) }
theorem laidWorld_met (os : Os) (args : Array Value) : laidMet Tryz.prog listed ((laidWorld os).forCall (fun _ _ => 0) ⟨#[], args, []⟩).memory :=
  laidMet_of_run' 12 (by kernel_rfl) (by kernel_rfl)
/-- The wrap of a row that lists variables, with the world's shape. -/
theorem returnsInHanded_listed {H : Type} {enc : TypeId × Value → H} {a : Assume} {C : Checked} {os : Os} {f : FuncId} {fn : Func} {s : ChangeSpec} {conds : List PathCond} {apart fresh handsOn again : Bool} {X : World → Array Value → Prop}
    (hX : ∀ (w w' : World) (args : Array Value), w.heap = w'.heap → X w args → X w' args)
    (own : ownKnob C.prog.godebug = none) (started : os.Started) (noInit : C.prog.inits.idxOf? f = none) (hfn : C.prog.funcs[f]? = some fn)
    (witness : ∃ (w : World) (tape : Tape) (i : Input), w.os = os ∧ (w.forCall tape i).Shaped C.prog ∧ i.vars = [] ∧ Input.okWide C.prog (w.forCall tape i) .any w.heap.size f i ∧
      ((s.pre enc C.prog fn conds apart (w.forCall tape i).memory i.args ∧ X (w.forCall tape i).memory i.args) ∧ sizedMet enc C.prog fn (OpenSpec.ofChange s) apart (w.forCall tape i).memory i.args) ∧ a.holds C.prog (lone (Frame.enter C.prog f i.args .normal) [] (w.forCall tape i)))
    (contract : ∀ (W : World) (base : Nat) (args : Array Value) (ds gs : List (DataW H)) (before : List MemPlace),
      (∀ (j : Nat) t v, fn.params[j]? = some t → args[j]? = some v → Value.okWide C.prog W .any base t v) →
      DataW.Whole enc C.prog fn.params.toList s.vars apart W args.toList ds gs before → W.ShapedOpen C.prog → X W args →
      (DataW.weightsEach C.prog (fn.params.toList ++ s.plain.varTypes C.prog) (ds ++ gs)).all (· ≤ reachBytes) = true →
      Calls C.prog f args W fun e W' => ∃ v, e = .returned v ∧ s.post enc C.prog fn apart fresh handsOn again W args v W') :
    ReturnsInHanded a C os f .any (fun w args => (s.pre enc C.prog fn conds apart w args ∧ X w args) ∧ sizedMet enc C.prog fn (OpenSpec.ofChange s) apart w args) (s.post enc C.prog fn apart fresh handsOn again) := by
  refine returnsInHanded_of_calls own started noInit witness ?_
  intro w tape i _ hsh _ hok hpre hholds
  obtain ⟨_, _, _, fn', hfn', _, _, _, _, hval⟩ := hok
  have e : fn' = fn := Option.some.inj (hfn'.symm.trans hfn)
  subst e
  obtain ⟨⟨⟨ds, gs, before, hw, hc⟩, hx⟩, hz⟩ := hpre
  have hw' := DataW.Whole.of_heap (w' := w.forCall tape i) (by rfl) hw
  refine (contract (w.forCall tape i) w.heap.size i.args ds gs before hval hw' hsh (hX _ _ _ (by rfl) hx) (hz.weights hw)).mono fun e W' ⟨v, he, hp⟩ => ?_
  subst he
  exact ChangeSpec.post_blind hp
end Go.Proofs.YtcdccdcbfbakfaaGreatDoor
