/- The abstract machine, part 22: structs and arrays that read as data; an argument as data. Conditions: none. -/
import Derived.Test.YtgdcidbpadhkpaaAm21
set_option linter.unusedVariables false
set_option linter.unusedSimpArgs false
namespace Go.Proofs.Ytgdcidbpadhkpaa.Am
open Go

section
variable {H : Type} {enc : TypeId × Value → H} {P : Program} {w : World} {base : Nat} {spare : Nat → Bool} {held : Bool}
theorem reads_bool {t : TypeId} (ht : P.underlying t = some .bool) : Reads enc P w base spare held t (fun b : Bool => [.v (.bool b)]) (fun _ => True) := by
  intro fuel cs x h
  obtain ⟨b, rfl, _⟩ := DataW.trod_bool ht h
  exact ⟨b, trivial, ⟨.v _ rfl, trivial⟩, by simp [D.sc]⟩
theorem Reads.map {t : TypeId} {α β : Type} {C : α → List D} {C' : β → List D} {good : α → Prop} {good' : β → Prop} (g : α → β) (h : Reads enc P w base spare held t C good) (hg : ∀ a, good a → C' (g a) = C a ∧ good' (g a)) : Reads enc P w base spare held t C' good' := by
  intro fuel cs x hx
  obtain ⟨a, h1, h2, h3⟩ := h fuel cs x hx
  obtain ⟨k1, k2⟩ := hg a h1
  exact ⟨g a, k2, k1 ▸ h2, k1 ▸ h3⟩
def chainT (enc : TypeId × Value → H) (P : Program) (w : World) (base : Nat) (spare : Nat → Bool) (held : Bool) (n : Nat) : List (TypeId × Nat) → List Value → Prop
  | [], _ => True
  | (t, s) :: ts, cs => (∃ x, DataW.trod enc P w base spare held n t (cs.take s) = some x) ∧ chainT enc P w base spare held n ts (cs.drop s)
def sumSz : List (TypeId × Nat) → Nat
  | [] => 0
  | (_, s) :: ts => s + sumSz ts
def ReadsF (enc : TypeId × Value → H) (P : Program) (w : World) (base : Nat) (spare : Nat → Bool) (held : Bool) (ts : List (TypeId × Nat)) {α : Type} (C : α → List D) (good : α → Prop) : Prop :=
  ∀ (n : Nat) (cs : List Value), cs.length = sumSz ts → chainT enc P w base spare held n ts cs → ∃ a, good a ∧ RepL w okAll (C a) cs ∧ ∀ d ∈ C a, d.sc = true
theorem readsF_nil : ReadsF enc P w base spare held [] (fun _ : Unit => []) (fun _ => True) := by
  intro n cs hl _
  have : cs = [] := List.length_eq_zero_iff.1 hl
  subst this
  exact ⟨(), trivial, trivial, by simp⟩
theorem readsF_cons {t : TypeId} {s : Nat} {ts : List (TypeId × Nat)} {α β : Type} {C : α → List D} {C' : β → List D} {good : α → Prop} {good' : β → Prop} (h : Reads enc P w base spare held t C good) (hs : ReadsF enc P w base spare held ts C' good') :
    ReadsF enc P w base spare held ((t, s) :: ts) (fun p : α × β => C p.1 ++ C' p.2) (fun p => good p.1 ∧ good' p.2) := by
  intro n cs hl ⟨⟨x, hx⟩, hc⟩
  simp only [sumSz] at hl
  obtain ⟨a, a1, a2, a3⟩ := h n _ x hx
  obtain ⟨b, b1, b2, b3⟩ := hs n (cs.drop s) (by simp; omega) hc
  refine ⟨(a, b), ⟨a1, b1⟩, ?_, fun d hd => ?_⟩
  · have := a2.append b2
    rwa [List.take_append_drop] at this
  · rcases List.mem_append.1 hd with hd | hd
    · exact a3 d hd
    · exact b3 d hd
def fieldsB (P : Program) : Nat → List Field → List (TypeId × Nat) → Bool
  | _, [], [] => true
  | o, f :: fs, (t, s) :: ts => Nat.beq f.offset o && Nat.beq f.type t && Nat.beq (P.cellsOf t) s && fieldsB P (o + s) fs ts
  | _, _, _ => false
theorem fieldsB_chain {n : Nat} {cs : List Value} : ∀ {ts : List (TypeId × Nat)} {fs : List Field} {o : Nat}, fieldsB P o fs ts = true → (∀ (i : Nat) (f : Field), fs[i]? = some f → ∃ x, DataW.trod enc P w base spare held n f.type ((cs.drop f.offset).take (P.cellsOf f.type)) = some x) →
    chainT enc P w base spare held n ts (cs.drop o)
  | [], _, _, _, _ => trivial
  | (t, s) :: ts, [], _, h, _ => by simp [fieldsB] at h
  | (t, s) :: ts, f :: fs, o, h, hx => by
    simp only [fieldsB, Bool.and_eq_true] at h
    obtain ⟨⟨⟨h1, h2⟩, h3⟩, h4⟩ := h
    have h1 := Nat.eq_of_beq_eq_true h1
    have h2 : f.type = t := Nat.eq_of_beq_eq_true h2
    have h3 := Nat.eq_of_beq_eq_true h3
    refine ⟨?_, ?_⟩
    · obtain ⟨x, hx0⟩ := hx 0 f rfl
      rw [h1, h2, h3] at hx0
      exact ⟨x, hx0⟩
    · rw [List.drop_drop]
      exact fieldsB_chain h4 fun i f hf => hx (i + 1) f (by simpa using hf)
def stB (P : Program) (t : TypeId) (ts : List (TypeId × Nat)) : Bool := match P.underlying t with | some (.struct fs) => fieldsB P 0 fs.toList ts && Nat.beq (P.cellsOf t) (sumSz ts) | _ => false
theorem reads_struct {t : TypeId} {ts : List (TypeId × Nat)} {α : Type} {C : α → List D} {good : α → Prop} (hs : stB P t ts = true) (h : ReadsF enc P w base spare held ts C good) : Reads enc P w base spare held t C good := by
  intro fuel cs x hx
  unfold stB at hs
  split at hs
  · rename_i fs ht
    simp only [Bool.and_eq_true] at hs
    obtain ⟨h1, h2⟩ := hs
    obtain ⟨xs, n, _, _, hl, hlen, hg⟩ := DataW.trod_struct ht hx
    refine h n cs (hl.trans (Nat.eq_of_beq_eq_true h2)) (fieldsB_chain (o := 0) h1 fun i f hf => ?_)
    have hf' : fs[i]? = some f := by simpa using hf
    have hi : i < xs.length := by
      have := (Array.getElem?_eq_some_iff.1 hf').1
      omega
    exact ⟨xs[i], by rw [hg i f hf', List.getElem?_eq_getElem hi]⟩
  · cases hs
/-- Arrays. -/
theorem trod_arrayN {m : Nat} {t e : TypeId} {fuel : Nat} {cs : List Value} {x : DataW H × List MemPlace} (ht : P.underlying t = some (.array m e)) (h : DataW.trod enc P w base spare held fuel t cs = some x) :
    ∃ n, cs.length = P.cellsOf t ∧ ∀ i, i < m → ∃ y, DataW.trod enc P w base spare held n e ((cs.drop (i * P.cellsOf e)).take (P.cellsOf e)) = some y := by
  cases fuel with
  | zero => simp [DataW.trod] at h
  | succ n =>
    unfold DataW.trod at h
    rw [ht] at h
    split at h <;> simp_all
    obtain ⟨hl, xs, hp, hd⟩ := h
    refine ⟨n, fun i hi => ?_⟩
    have := mapM_some_get hp i i (by simp [hi])
    have hlen := mapM_some_length hp
    simp only [List.length_range] at hlen
    rw [List.getElem?_eq_getElem (by omega)] at this
    exact ⟨_, _, this⟩
def arT (P : Program) (t : TypeId) (m e s : Nat) : Bool := match P.underlying t with | some (.array m' e') => Nat.beq m' m && Nat.beq e' e && Nat.beq (P.cellsOf e) s && Nat.beq (P.cellsOf t) (m * s) | _ => false
theorem reads_elems {e s n : Nat} {α : Type} {C : α → List D} {good : α → Prop} (h : Reads enc P w base spare held e C good) : ∀ (m : Nat) (cs : List Value), cs.length = m * s → (∀ i, i < m → ∃ y, DataW.trod enc P w base spare held n e ((cs.drop (i * s)).take s) = some y) →
    ∃ l : List α, (l.length = m ∧ ∀ a ∈ l, good a) ∧ RepL w okAll (l.flatMap C) cs ∧ ∀ d ∈ l.flatMap C, d.sc = true
  | 0, cs, hl, _ => by
    have : cs = [] := List.length_eq_zero_iff.1 (by simpa using hl)
    subst this
    exact ⟨[], ⟨rfl, fun a h => by cases h⟩, trivial, by simp⟩
  | m + 1, cs, hl, hg => by
    obtain ⟨y, hy⟩ := hg 0 (by omega)
    obtain ⟨a, a1, a2, a3⟩ := h n _ y hy
    obtain ⟨l, ⟨l1, l2⟩, l3, l4⟩ := reads_elems (s := s) (n := n) h m (cs.drop s) (by rw [List.length_drop, hl, Nat.succ_mul]; omega) (fun i hi => by
      obtain ⟨z, hz⟩ := hg (i + 1) (by omega)
      exact ⟨z, by rw [List.drop_drop]; rwa [Nat.succ_mul, Nat.add_comm] at hz⟩)
    refine ⟨a :: l, ⟨by simp [l1], fun b hb => ?_⟩, ?_, fun d hd => ?_⟩
    · rcases List.mem_cons.1 hb with rfl | hb
      · exact a1
      · exact l2 b hb
    · simp only [Nat.zero_mul, List.drop_zero] at a2
      have := a2.append l3
      rw [List.take_append_drop] at this
      simpa using this
    · rw [List.flatMap_cons, List.mem_append] at hd
      rcases hd with hd | hd
      · exact a3 d hd
      · exact l4 d hd
theorem reads_array {t : TypeId} {m e s : Nat} {α : Type} {C : α → List D} {good : α → Prop} (hs : arT P t m e s = true) (h : Reads enc P w base spare held e C good) : Reads enc P w base spare held t (fun l : List α => l.flatMap C) (fun l => l.length = m ∧ ∀ a ∈ l, good a) := by
  intro fuel cs x hx
  unfold arT at hs
  split at hs
  · rename_i m' e' ht
    simp only [Bool.and_eq_true] at hs
    obtain ⟨⟨⟨h1, h2⟩, h3⟩, h4⟩ := hs
    have h1 := Nat.eq_of_beq_eq_true h1
    have h2 : e' = e := Nat.eq_of_beq_eq_true h2
    have h3 := Nat.eq_of_beq_eq_true h3
    have h4 := Nat.eq_of_beq_eq_true h4
    subst h1; subst h2
    obtain ⟨n, hl, hg⟩ := trod_arrayN ht hx
    rw [h3] at hg
    rw [h4] at hl
    exact reads_elems h _ cs hl hg
  · cases hs
/-- An argument of one cell. -/
theorem arg_one {t : TypeId} {v : Value} {d : DataW H} {p : List MemPlace} {α : Type} {c : α → D} {good : α → Prop} (h : DataW.Trod enc P w base spare held t v d p) (hR : Reads enc P w base spare held t (fun a => [c a]) good) (hv : v.cells = #[v]) : ∃ a, good a ∧ Rep w okAll (c a) v := by
  obtain ⟨fuel, hf⟩ := h
  obtain ⟨a, h1, h2, _⟩ := hR _ _ _ hf
  rw [hv] at h2
  exact ⟨a, h1, h2.1⟩
theorem arg_agg {t : TypeId} {cs : Array Value} {d : DataW H} {p : List MemPlace} {α : Type} {C : α → List D} {good : α → Prop} (h : DataW.Trod enc P w base spare held t (.agg cs) d p) (hR : Reads enc P w base spare held t C good) : ∃ a, good a ∧ Rep w okAll (.agg (C a)) (.agg cs) := by
  obtain ⟨fuel, hf⟩ := h
  obtain ⟨a, h1, h2, h3⟩ := hR _ _ _ hf
  refine ⟨a, h1, ?_⟩
  have := Rep.agg (w := w) (ok := okAll) (C a) cs.toList h2.length (fun j d hd => h3 d (List.mem_of_getElem? hd)) (fun j d v hd hv => h2.get j d v hd hv)
  simpa using this
theorem okWide_arr {r : Reach} {t : TypeId} {m e : Nat} {v : Value} (ht : P.underlying t = some (.array m e)) (h : Value.okWide P w r base t v) : ∃ cs, v = .agg cs := by
  simp only [Value.okWide, ht] at h
  obtain ⟨cs, h1, _, _⟩ := h
  exact ⟨cs, h1⟩
end
end Go.Proofs.Ytgdcidbpadhkpaa.Am
