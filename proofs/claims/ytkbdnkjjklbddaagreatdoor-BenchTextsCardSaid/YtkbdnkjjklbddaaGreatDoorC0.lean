/- What the rows list of the package-level variables: a world that holds it, and what it gives the walks. Conditions: none. -/
import Derived.Test.YtkbdnkjjklbddaaGreatDoorRows
import Derived.Test.YtkbdnkjjklbddaaGreatDoorB1
import Derived.Test.YtkbdnkjjklbddaaGreatDoorShelf
import Derived.Handed
import Derived.SizedLaws
import Derived.LaidLaws
import Derived.LaidHandle
import Derived.Stop.LaidErr
import Derived.Lib.LaidTab
import Derived.WalkKit
import Derived.ProofKit
import Derived.OpenShut
import Derived.Shelf.Vars
set_option linter.unusedVariables false
set_option linter.unusedSimpArgs false
namespace Go.Proofs.YtkbdnkjjklbddaaGreatDoor
open Go Go.ChangeShapes Go.WideShapes Go.ChangeAt Go.RowKit Am Am.M

theorem own : ownKnob Tryz.prog.godebug = none := by kernel_rfl
theorem laidOut : laidOutB Tryz.prog = true := by kernel_rfl
theorem gTab : Tryz.prog.globalNamed "internal/strconv.uint64pow10" = some 2 := by kernel_rfl
theorem gTabType : (Tryz.prog.globals[2]?).map (·.type) = some 214 := by kernel_rfl
theorem gSyn : Tryz.prog.globalNamed "strconv.ErrSyntax" = some 4 := by kernel_rfl
theorem gSynType : (Tryz.prog.globals[4]?).map (·.type) = some 141 := by kernel_rfl
theorem gRng : Tryz.prog.globalNamed "strconv.ErrRange" = some 5 := by kernel_rfl
theorem gRngType : (Tryz.prog.globals[5]?).map (·.type) = some 141 := by kernel_rfl
theorem cellsES : Tryz.prog.cellsOf 251 = 1 := by kernel_rfl
theorem cellsStr : Tryz.prog.cellsOf 9 = 1 := by kernel_rfl
theorem cellsU64 : Tryz.prog.cellsOf 194 = 1 := by kernel_rfl
theorem cellsTab : Tryz.prog.cellsOf 214 = 20 := by kernel_rfl
theorem starName : "*" ++ "errors.errorString" = "*errors.errorString" := by decide
theorem rowPtr (u : TypeId) (h : Tryz.prog.typeName? 3 u = some "*errors.errorString") : u = 249 :=
  typeName_ptr_named (nm := "errors.errorString") (by rw [starName]; kernel_rfl) (by kernel_rfl) (by decide) u (by rw [starName]; exact h)
/-- What the rows list. -/
def listed : List (String × DataW Unit) := Rows.benchTextsRow.laid
theorem tab_is : (Rows.laid_internal_strconv_uint64pow10 : DataW Unit) = Lib.tabData .u64 Lib.pow10Tab := by kernel_rfl
theorem gw_of_laid {W : World} (hL : laidMet Tryz.prog listed W) (hs : W.ShapedOpen Tryz.prog) : GW W := by
  have hL3 : laidMet Tryz.prog (("internal/strconv.uint64pow10", Lib.tabData .u64 Lib.pow10Tab) :: (listed.drop 3)) W := by
    have := hL.tail.tail
    rw [tab_is] at this
    exact this
  obtain ⟨a0, s0, hv0, -, -, -⟩ := laid_sentinel (show laidMet Tryz.prog (("strconv.ErrRange", _) :: (listed.drop 5)) W from hL.tail.tail.tail.tail) gRng gRngType Tryz.underlying141 rowPtr Tryz.underlying249 Tryz.underlying251 rfl rfl Tryz.underlying9 cellsES cellsStr
  obtain ⟨a1, s1, hv1, -, -, -⟩ := laid_sentinel (show laidMet Tryz.prog (("strconv.ErrSyntax", _) :: (listed.drop 6)) W from hL.tail.tail.tail.tail.tail) gSyn gSynType Tryz.underlying141 rowPtr Tryz.underlying249 Tryz.underlying251 rfl rfl Tryz.underlying9 cellsES cellsStr
  exact ⟨cell_of_shapedOpen_int (t := 3) (zero := #[.int .i64 0]) hs (of_decide_eq_true (by kernel_rfl)) (by kernel_rfl) rfl (by kernel_rfl) (by kernel_rfl) Tryz.underlying3, Lib.tabIs_of_head gTab gTabType Tryz.underlying214 Tryz.underlying194 cellsU64 cellsTab hL3, ⟨_, _, hv1⟩, _, _, hv0⟩
theorem gKw : Tryz.prog.globalNamed "couplant/bench.kindWords" = some 0 := by kernel_rfl
theorem gKwType : (Tryz.prog.globals[0]?).map (·.type) = some 76 := by kernel_rfl
theorem gAcc : Tryz.prog.globalNamed "unicode/utf8.acceptRanges" = some 9 := by kernel_rfl
theorem cellsKw : Tryz.prog.cellsOf 76 = 2 := by kernel_rfl
/-- An array of texts that reads as a list of texts holds these texts. -/
theorem cells_of_words {H : Type} {enc : TypeId × Value → H} {P : Program} {w : World} {base : Nat} {sp : Nat → Bool} {held : Bool} {fuel : Nat} {t e : TypeId} {n : Nat} {cs : List Value} {zs : List (List UInt8)} {p : List MemPlace}
    (ht : P.underlying t = some (.array n e)) (he : P.underlying e = some .string) (hce : P.cellsOf e = 1) (hct : P.cellsOf t = n)
    (h : DataW.trod enc P w base sp held fuel t cs = some (.agg (zs.map fun z => .lit (.string z)), p)) : cs = zs.map fun z => Value.string ⟨z.toArray⟩ := by
  cases fuel with
  | zero => simp [DataW.trod] at h
  | succ fuel =>
    simp only [DataW.trod, ht, hce, hct, Nat.mul_one] at h
    split at h
    · rename_i hl
      obtain ⟨xs, hm, hx⟩ := Option.map_eq_some_iff.1 h
      have hxs : xs.map (·.1) = zs.map fun z => (DataW.lit (.string z) : DataW H) := by
        have := congrArg Prod.fst hx
        simpa using this
      have hxl : xs.length = n := by simpa using Lib.mapM_length hm
      have hzl : zs.length = n := by
        have := congrArg List.length hxs
        simp at this
        omega
      apply List.ext_getElem?
      intro i
      by_cases hi : i < n
      · obtain ⟨b, hb, hf⟩ := Lib.mapM_at hm i i (by simp [hi])
        obtain ⟨z, hc, rfl, _⟩ := DataW.trod_string he hf
        have h1 : cs[i]? = some (.string z) := by
          have := congrArg (·[0]?) hc
          simpa [List.getElem?_take, List.getElem?_drop] using this
        have h2 : (xs.map (·.1))[i]? = some (DataW.lit (.string z.data.toList) : DataW H) := by simp [hb]
        rw [hxs] at h2
        simp only [List.getElem?_map, Option.map_eq_some_iff, DataW.lit.injEq, Lit.string.injEq] at h2
        obtain ⟨z', hz', rfl⟩ := h2
        simp [h1, hz']
      · rw [List.getElem?_eq_none (by omega), List.getElem?_eq_none (by simp; omega)]
    · cases h
theorem var_size {P : Program} {w : World} {name : String} {g : Nat} {cs : Array Value} (hg : P.globalNamed name = some g) (h : w.var? P name = some cs) : g < w.heap.size := by
  unfold World.var? at h
  rw [hg] at h
  simp only [Option.bind_some] at h
  rcases Nat.lt_or_ge g w.heap.size with h' | h'
  · exact h'
  · rw [Array.getElem?_eq_none h'] at h; simp at h
theorem gb_of_laid {W : World} (hL : laidMet Tryz.prog listed W) (hs : W.ShapedOpen Tryz.prog) : GB W := by
  refine ⟨gw_of_laid hL hs, ?_, ?_⟩
  · obtain ⟨ps, ⟨g, t, cs, fuel, p, q, hg, _, hv, _⟩, _⟩ := hL.tail.tail.tail
    have h1 := var_size hg hv
    obtain rfl := Option.some.inj (gAcc.symm.trans hg)
    exact h1
  · have hk : laidMet Tryz.prog (("couplant/bench.kindWords", (DataW.agg ([[112, 111, 114, 101], [112, 108, 97, 110, 101]].map fun z => .lit (.string z)) : DataW Unit)) :: (listed.drop 7)) W := hL.tail.tail.tail.tail.tail.tail
    obtain ⟨ps, ⟨g, t, cs, fuel, p, q, hg, ht, hv, hd, _⟩, _⟩ := hk
    obtain rfl := Option.some.inj (gKw.symm.trans hg)
    obtain rfl := Option.some.inj (gKwType.symm.trans ht)
    have hc := cells_of_words Tryz.underlying76 Tryz.underlying9 cellsStr cellsKw hd
    intro j u hu
    have hcell := World.var?_cell hg hv j
    rw [hcell]
    have e : cs.toList = kwL := hc
    rw [← e] at hu
    simpa using hu
theorem noHandles : (listed.filter fun x => x.2.handleName?.isSome) = [] := by kernel_rfl
theorem laidH_of {W : World} (h : laidMet Tryz.prog listed W) : laidMetH Tryz.prog listed W := by
  unfold laidMetH
  rw [noHandles]
  exact h
theorem laid_ofH {W : World} (h : laidMetH Tryz.prog listed W) : laidMet Tryz.prog listed W := by
  unfold laidMetH at h
  rw [noHandles] at h
  exact h
theorem laidH_heap (w w' : World) (args : Array Value) (hh : w.heap = w'.heap) (h : laidMetH Tryz.prog listed w) : laidMetH Tryz.prog listed w' := laidH_of ((laid_ofH h).of_heap hh)
/-- One cell of what is listed. -/
def litV : DataW Unit → Value
  | .lit (.int k n) => .int k n
  | .lit (.string s) => .string ⟨s.toArray⟩
  | _ => undef
def litC : DataW Unit → List Value
  | .agg ds => ds.map litV
  | d => [litV d]
def cellsL : DataW Unit → Array Value
  | .agg ds => (ds.flatMap litC).toArray
  | d => #[litV d]
noncomputable def low : Nat := (World.holding Tryz.prog default ⟨#[], #[], []⟩).heap.size
def putC (cs : Array Value) : Obj → Obj
  | .cells _ t fz => .cells cs t fz
  | x => x
def synS : ByteArray := ⟨#[105, 110, 118, 97, 108, 105, 100, 32, 115, 121, 110, 116, 97, 120]⟩
def rngS : ByteArray := ⟨#[118, 97, 108, 117, 101, 32, 111, 117, 116, 32, 111, 102, 32, 114, 97, 110, 103, 101]⟩
/-- The settled world, and in it what is listed. -/
noncomputable def laidWorld (os : Os) : World :=
  let w0 := World.holding Tryz.prog os ⟨#[.cells #[.string synS] 251, .cells #[.string rngS] 251], #[], []⟩
  { w0 with heap := (((((((w0.heap.modify 4 (putC #[.iface 249 (.pointer (some ⟨low, 0, none⟩))])).modify 5 (putC #[.iface 249 (.pointer (some ⟨low + 1, 0, none⟩))])).modify 2 (putC (cellsL Rows.laid_internal_strconv_uint64pow10))).modify 8 (putC (cellsL Rows.laid_unicode_utf8_first))).modify 9 (putC (cellsL Rows.laid_unicode_utf8_acceptRanges))).modify 6 (putC (cellsL Rows.laid_math_bits_deBruijn32tab))).modify 7 (putC (cellsL Rows.laid_math_bits_deBruijn64tab))).modify 0 (putC (cellsL Rows.laid_couplant_bench_kindWords)) }
theorem laidWorld_met (os : Os) (args : Array Value) : laidMet Tryz.prog listed ((laidWorld os).forCall (fun _ _ => 0) ⟨#[], args, []⟩).memory :=
  laidMet_of_run' 12 (by kernel_rfl) (by kernel_rfl)
/-- The wrap of a row that lists variables, with the world's shape. -/
theorem returnsInHanded_listed {H : Type} {enc : TypeId × Value → H} {a : Assume} {C : Checked} {os : Os} {f : FuncId} {fn : Func} {s : ChangeSpec} {conds : List PathCond} {apart fresh handsOn again : Bool} {X : World → Array Value → Prop}
    (hX : ∀ (w w' : World) (args : Array Value), w.heap = w'.heap → X w args → X w' args)
    (own : ownKnob C.prog.godebug = none) (started : os.Started) (noInit : C.prog.inits.idxOf? f = none) (hfn : C.prog.funcs[f]? = some fn)
    (witness : ∃ (w : World) (tape : Tape) (i : Input), w.os = os ∧ (w.forCall tape i).Shaped C.prog ∧ i.vars = [] ∧ Input.okWide C.prog (w.forCall tape i) .any w.heap.size f i ∧
      ((s.pre enc C.prog fn conds apart (w.forCall tape i).memory i.args ∧ X (w.forCall tape i).memory i.args) ∧ sizedMet enc C.prog fn (OpenSpec.ofChange s) apart (w.forCall tape i).memory i.args) ∧ a.holds C.prog (lone (Frame.enter C.prog f i.args .normal) [] (w.forCall tape i)))
    (contract : ∀ (W : World) (base : Nat) (args : Array Value) (ds gs : List (DataW H)) (before : List MemPlace),
      (∀ (j : Nat) t v, fn.params[j]? = some t → args[j]? = some v → Value.okWide C.prog W .any base t v) →
      DataW.Whole enc C.prog fn.params.toList s.vars apart W args.toList ds gs before → W.ShapedOpen C.prog → X W args →
      (DataW.weightsEach C.prog (fn.params.toList ++ s.plain.varTypes C.prog) (ds ++ gs)).all (· ≤ reachBytes) = true →
      Calls C.prog f args W fun e W' => ∃ v, e = .returned v ∧ s.post enc C.prog fn apart fresh handsOn again W args v W') :
    ReturnsInHanded a C os f .any (fun w args => (s.pre enc C.prog fn conds apart w args ∧ X w args) ∧ sizedMet enc C.prog fn (OpenSpec.ofChange s) apart w args) (s.post enc C.prog fn apart fresh handsOn again) := by
  refine returnsInHanded_of_calls own started noInit witness ?_
  intro w tape i _ hsh _ hok hpre hholds
  obtain ⟨_, _, _, fn', hfn', _, _, _, _, hval⟩ := hok
  have e : fn' = fn := Option.some.inj (hfn'.symm.trans hfn)
  subst e
  obtain ⟨⟨⟨ds, gs, before, hw, hc⟩, hx⟩, hz⟩ := hpre
  have hw' := DataW.Whole.of_heap (w' := w.forCall tape i) (by rfl) hw
  refine (contract (w.forCall tape i) w.heap.size i.args ds gs before hval hw' hsh (hX _ _ _ (by rfl) hx) (hz.weights hw)).mono fun e W' ⟨v, he, hp⟩ => ?_
  subst he
  exact ChangeSpec.post_blind hp
end Go.Proofs.YtkbdnkjjklbddaaGreatDoor
