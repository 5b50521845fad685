/- The abstract machine, part 21: what an argument reads as is data. Conditions: none. -/
import Derived.Test.YtgdcidbpadhkpaaAm20
import Derived.Deep.Slices
import Derived.ProofKit
set_option linter.unusedVariables false
set_option linter.unusedSimpArgs false
namespace Go.Proofs.Ytgdcidbpadhkpaa.Am
open Go

section
variable {H : Type} {enc : TypeId × Value → H} {P : Program} {w : World} {base : Nat} {spare : Nat → Bool} {held : Bool}
abbrev okAll : Nat → Prop := fun _ => True
/-- What reads at the type t is the data of something good. -/
def Reads (enc : TypeId × Value → H) (P : Program) (w : World) (base : Nat) (spare : Nat → Bool) (held : Bool) (t : TypeId) {α : Type} (C : α → List D) (good : α → Prop) : Prop :=
  ∀ (fuel : Nat) (cs : List Value) (x : DataW H × List MemPlace), DataW.trod enc P w base spare held fuel t cs = some x → ∃ a, good a ∧ RepL w okAll (C a) cs ∧ ∀ d ∈ C a, d.sc = true
theorem reads_int {t : TypeId} {k : IntKind} (ht : P.underlying t = some (.int k)) : Reads enc P w base spare held t (fun n : Int => [.v (.int k n)]) (fun n => (Lit.int k n).wf = true) := by
  intro fuel cs x h
  obtain ⟨n, rfl, _, hw⟩ := DataW.trod_int ht h
  exact ⟨n, hw, ⟨.v _ rfl, trivial⟩, by simp [D.sc]⟩
theorem reads_string {t : TypeId} (ht : P.underlying t = some .string) : Reads enc P w base spare held t (fun s : ByteArray => [.v (.string s)]) (fun s => s.size ≤ maxLen) := by
  intro fuel cs x h
  obtain ⟨s, rfl, _, hs⟩ := DataW.trod_string ht h
  exact ⟨s, hs, ⟨.v _ rfl, trivial⟩, by simp [D.sc]⟩
theorem reads_slice {t e : TypeId} {sz : Nat} {α : Type} {C : α → List D} {good : α → Prop} (ht : P.underlying t = some (.slice e)) (hsz : P.cellsOf e = sz) (hpos : 0 < sz) (hC : ∀ a, (C a).length = sz) (hE : Reads enc P w base spare held e C good) :
    Reads enc P w base spare held t (fun l : List α => [.sl sz (l.map C)]) (fun l => ∀ a ∈ l, good a) := by
  intro fuel cs x h
  rcases Deep.open_slice ht h with ⟨rfl, _⟩ | ⟨a, len, cap, m, n, D', Pl, rfl, hb, hl, hm, hmm, rfl, hx⟩
  · exact ⟨[], (fun a h => by cases h), ⟨.emp _ _ _ (Nat.zero_le _), trivial⟩, by simp [D.sc]⟩
  · have hlm : len ≤ m := by rw [hmm]; split <;> omega
    by_cases h0 : len = 0
    · subst h0
      exact ⟨[], (fun a h => by cases h), ⟨.emp _ _ _ hm, trivial⟩, by simp [D.sc]⟩
    have each : ∀ i, i < len → ∃ p : α × List Value, good p.1 ∧ RepL w okAll (C p.1) p.2 ∧ (∀ d ∈ C p.1, d.sc = true) ∧ w.cells? base (a.add (i * P.cellsOf e)) (P.cellsOf e) = some p.2 := fun i hi => by
      obtain ⟨cs', h1, h2⟩ := hx i (by omega)
      obtain ⟨y, g, r, s⟩ := hE _ _ _ h2
      exact ⟨(y, cs'), g, r, s, h1⟩
    obtain ⟨p0, -⟩ := each 0 (by omega)
    haveI : Inhabited (α × List Value) := ⟨p0⟩
    obtain ⟨f, hf⟩ := Deep.choose_lt each
    rw [hsz] at hf
    obtain ⟨b, off, spot⟩ := a
    obtain ⟨_, hl0, hc0⟩ := World.cells?_some (hf 0 (by omega)).2.2.2
    have hspot : spot = none := by
      have h1 := hc0 0 hpos
      rw [List.getElem?_eq_getElem (by omega)] at h1
      simpa [Addr.add] using World.cell?_spot h1
    subst hspot
    refine ⟨(List.range len).map fun i => (f i).1, fun y hy => ?_, ⟨?_, trivial⟩, by simp [D.sc]⟩
    · obtain ⟨i, hi, rfl⟩ := List.mem_map.1 hy
      exact (hf i (List.mem_range.1 hi)).1
    · have hes : ∀ (i : Nat) (e' : List D), ((List.range len).map fun i => (f i).1).map C = ((List.range len).map fun i => C (f i).1) := fun _ _ => by rw [List.map_map]; rfl
      rw [hes 0 []]
      have hat : ∀ (i : Nat) (e' : List D), ((List.range len).map fun i => C (f i).1)[i]? = some e' → i < len ∧ e' = C (f i).1 := fun i e' hi => by
        rw [List.getElem?_map] at hi
        by_cases hil : i < len
        · rw [List.getElem?_range hil] at hi; cases hi; exact ⟨hil, rfl⟩
        · rw [List.getElem?_eq_none (by simp; omega)] at hi; cases hi
      have := Rep.sl (w := w) (ok := okAll) sz ((List.range len).map fun i => C (f i).1) b off cap (fun i j => (f i).2.getD j undef) (by
        have h1 := hc0 0 hpos
        rw [List.getElem?_eq_getElem (by omega)] at h1
        obtain ⟨o, ho⟩ := cell_block h1
        simpa [Addr.add] using heap_lt ho) trivial (by simpa using hl) hm
        (fun i e' hi => by obtain ⟨_, rfl⟩ := hat i e' hi; exact hC _)
        (fun i e' j d hi hd => by obtain ⟨h1, rfl⟩ := hat i e' hi; exact (hf i h1).2.2.1 d (List.mem_of_getElem? hd))
        (fun i e' j d hi hd => by
          obtain ⟨h1, rfl⟩ := hat i e' hi
          obtain ⟨_, h2, h3⟩ := World.cells?_some (hf i h1).2.2.2
          have hj : j < sz := by have := (List.getElem?_eq_some_iff.1 hd).1; rw [hC] at this; exact this
          have h4 := h3 j hj
          rw [WideShapes.add_plain, WideShapes.add_plain] at h4
          rw [h4, List.getD_eq_getElem?_getD, List.getElem?_eq_getElem (by omega)]; rfl)
        (fun i e' j d hi hd => by
          obtain ⟨h1, rfl⟩ := hat i e' hi
          obtain ⟨v, hv, hr⟩ := (hf i h1).2.1.at_ hd
          rw [List.getD_eq_getElem?_getD, hv]; exact hr)
      simpa using this
end
end Go.Proofs.Ytgdcidbpadhkpaa.Am
