/- The abstract machine, parts 26 to 35. Conditions: none. -/
import Derived.RangeFuncNested
import Derived.Laws.Externs
import Derived.Laws.FloatArith
import Derived.Laws.ComplexArith
import Derived.Test.YtepaabbfindaeaaGreatDoorAmC
set_option linter.unusedVariables false
set_option linter.unusedSimpArgs false
namespace Go.Proofs.YtepaabbfindaeaaGreatDoor.Am
open Go

section
variable {P : Program} {w0 : Cx}
theorem AsD.live {s : Nat → Site} {x x' : T} {d : D} (h : AsD s x d) (hx : x = .dead ∨ x' = x) : AsD s x' d := by
  rcases hx with rfl | rfl
  · cases h
  · exact h
theorem Args.live {ev ev' : Operand → T} {s : Nat → Site} {ys : List Operand} {ds : List D} (h : Args ev s ys ds) (hx : ∀ y, ev y = .dead ∨ ev' y = ev y) : Args ev' s ys ds := by
  induction h with
  | nil => exact .nil
  | cons h _ ih => exact .cons (h.live (hx _)) ih
end
end Go.Proofs.YtepaabbfindaeaaGreatDoor.Am
namespace Go.Proofs.YtepaabbfindaeaaGreatDoor.Am
open Go Go.RowKit

def SameIO (A B : World) : Prop := B.os = A.os ∧ B.tape = A.tape ∧ B.output = A.output
theorem SameIO.refl (A : World) : SameIO A A := ⟨rfl, rfl, rfl⟩
theorem SameIO.trans {A B C : World} (h : SameIO A B) (k : SameIO B C) : SameIO A C := ⟨k.1.trans h.1, k.2.1.trans h.2.1, k.2.2.trans h.2.2⟩
theorem RepT.keepOk {w w' : World} {ok ok' : Nat → Prop} {blk : Nat → Option Nat} {val : Nat → Value} {s : Nat → Site} {x : T} {v : Value} (h : RepT w ok blk val s x v) (hs : w.heap.size ≤ w'.heap.size)
    (hA : ∀ (b : Nat) (o : Obj), ok b → w.heap[b]? = some o → w'.heap[b]? = some o) (hok : ∀ b, b < w.heap.size → ok b → ok' b) : RepT w' ok' blk val s x v := by
  cases x with
  | d x => exact Rep.keep h hs hA hok
  | own k r f g => exact ⟨h.1, h.2.imp fun _ _ h => Rep.keep h hs hA hok⟩
  | _ => exact h
theorem SiteIn.keepOk {w w' : World} {ok ok' : Nat → Prop} {blk' : Nat → Option Nat} {val' : Nat → Value} {s : Nat → Site} {b : Option Nat} {val : Value} {x : Site} (h : SiteIn w ok blk' val' s b val x) (hs : w.heap.size ≤ w'.heap.size)
    (hA : ∀ (b : Nat) (o : Obj), ok b → w.heap[b]? = some o → w'.heap[b]? = some o) (hb : ∀ c, b = some c → w'.heap[c]? = w.heap[c]?) (hok : ∀ b, b < w.heap.size → ok b → ok' b) : SiteIn w' ok' blk' val' s b val x := by
  cases x with
  | no => exact h
  | box cs =>
    obtain ⟨b, e, vals, h1, h2, h3, h4, h5⟩ := h
    exact ⟨b, e, vals, h1, (hb b h1).trans h2, h3, h4, fun j d hd => let ⟨v, hv, hr⟩ := h5 j d hd; ⟨v, hv, hr.keep hs hA hok⟩⟩
  | tbox cs =>
    obtain ⟨b, e, vals, h1, h2, h3, h5⟩ := h
    exact ⟨b, e, vals, h1, (hb b h1).trans h2, h3, fun j x hx => let ⟨v, hv, ho, hr⟩ := h5 j x hx; ⟨v, hv, ho, hr.keepOk hs hA hok⟩⟩
  | mp es c =>
    obtain ⟨b, h1, h2⟩ := h
    exact ⟨b, h1, (hb b h1).trans h2⟩
  | row e sz es =>
    obtain ⟨h1, h2, h3⟩ := h
    refine ⟨h1, h2, h3.imp id fun ⟨b, vals, cap, k1, k2, k3, k4, k5, k6, k7⟩ => ⟨b, vals, cap, k1, k2, k3, k4, (hb b k1).trans k5, k6, fun i x j d hi hj => let ⟨v, hv, hr⟩ := k7 i x j d hi hj; ⟨v, hv, hr.keep hs hA hok⟩⟩⟩

section
variable {P : Program} {w0 : Cx} {st : St} {a : Act} {w A B : World} {blk : Nat → Option Nat} {val : Nat → Value} {Y : Nat → Prop}

/-- Hold, away from the blocks of an iterator. -/
structure HoldY (w0 : Cx) (Y : Nat → Prop) (st : St) (a : Act) (w : World) (blk : Nat → Option Nat) (val : Nat → Value) : Prop where
  ext : ExtM w0 w
  kept : Kept w0 a w
  markY : ∀ d ∈ a.defers, ∀ b, d.target = .collected b → ¬ Y b
  fixY : ∀ b o, w0.fix b = some o → ¬ Y b
  newY : ∀ g, Y g → w0.w.heap.size ≤ g ∧ g < w.heap.size
  size : a.tmps.size = st.n
  new : ∀ s b, blk s = some b → Ours w0 b ∧ b < w.heap.size ∧ ¬ Y b
  inj : ∀ s s' b, blk s = some b → blk s' = some b → s = s'
  pin : ∀ k b, w0.pin k = some b → blk k = some b ∧ (st.s k).isVar = true ∧ st.n ≤ k
  site : ∀ s, SiteIn w (fun b => okOf w0 blk b ∧ ¬ Y b) blk val st.s (blk s) (val s) (st.s s)
  tmp : ∀ t, RepT w (fun b => okOf w0 blk b ∧ ¬ Y b) blk val st.s (st.t t) (a.tmps.getD t undef)

theorem HoldY.of (h : Hold w0 st a w blk val) : HoldY w0 (fun _ => False) st a w blk val :=
  ⟨h.ext, h.defers, fun _ _ _ _ h => h, fun _ _ _ h => h, fun _ h => h.elim, h.size, fun s b hb => ⟨(h.new s b hb).1, (h.new s b hb).2, fun h => h⟩, h.inj, h.pin,
    fun s => (h.site s).keepOk (Nat.le_refl _) (fun _ _ _ h => h) (fun _ _ => rfl) fun b _ hb => ⟨hb, fun h => h⟩, fun t => (h.tmp t).keepOk (Nat.le_refl _) (fun _ _ _ h => h) fun b _ hb => ⟨hb, fun h => h⟩⟩
theorem HoldY.hold (h : HoldY w0 Y st a w blk val) : Hold w0 st a w blk val :=
  ⟨h.ext, h.kept, h.size, fun s b hb => ⟨(h.new s b hb).1, (h.new s b hb).2.1⟩, h.inj, h.pin,
    fun s => (h.site s).keepOk (Nat.le_refl _) (fun _ _ _ h => h) (fun _ _ => rfl) fun b _ hb => hb.1, fun t => (h.tmp t).keepOk (Nat.le_refl _) (fun _ _ _ h => h) fun b _ hb => hb.1⟩
/-- The iterator makes blocks, and changes its own ones. -/
theorem HoldY.step (h : HoldY w0 Y st a A blk val) (hs : A.heap.size ≤ B.heap.size) (hio : SameIO A B) (hb : ∀ g, g < A.heap.size → ¬ Y g → B.heap[g]? = A.heap[g]?) : HoldY w0 (fun g => Y g ∨ (A.heap.size ≤ g ∧ g < B.heap.size)) st a B blk val := by
  have hA : ∀ (b : Nat) (o : Obj), (okOf w0 blk b ∧ ¬ Y b) → A.heap[b]? = some o → B.heap[b]? = some o := fun b o hok ho => by rw [hb b (heap_lt ho) hok.2]; exact ho
  have hok : ∀ b, b < A.heap.size → (okOf w0 blk b ∧ ¬ Y b) → (okOf w0 blk b ∧ ¬ (Y b ∨ (A.heap.size ≤ b ∧ b < B.heap.size))) := fun b hlt hb => ⟨hb.1, fun h => by
    rcases h with h | ⟨h, _⟩
    · exact hb.2 h
    · omega⟩
  obtain ⟨⟨ms, m1, m2, m3⟩, f1⟩ := h.kept
  have mY : ∀ b ∈ ms, ¬ Y b := fun b hb' => h.markY { target := .collected b, args := #[] } (by rw [m1]; exact List.mem_map.2 ⟨b, hb', rfl⟩) b rfl
  refine ⟨⟨hio.1.trans h.ext.os, hio.2.1.trans h.ext.tape, hio.2.2.trans h.ext.output, Nat.le_trans h.ext.size hs, fun k hk hm => ?_⟩, ⟨⟨ms, m1, m2, fun b hb' => ⟨(m3 b hb').1, ?_⟩⟩, fun b o hf => ⟨?_, (f1 b o hf).2⟩⟩, fun d hd b hdb hY => ?_, fun b o hf hY => ?_, fun g hg => ?_, h.size, fun s b hsb => ?_, h.inj, h.pin, fun s => ?_, fun t => ?_⟩
  · rw [hb k (Nat.lt_of_lt_of_le hk h.ext.size) fun hY => by have := (h.newY k hY).1; omega]; exact h.ext.block k hk hm
  · rw [hb b (heap_lt (m3 b hb').2) (mY b hb')]; exact (m3 b hb').2
  · rw [hb b (heap_lt (f1 b o hf).1) (h.fixY b o hf)]; exact (f1 b o hf).1
  · rcases hY with hY | ⟨hY, _⟩
    · exact h.markY d hd b hdb hY
    · rw [m1] at hd
      obtain ⟨b', hb', rfl⟩ := List.mem_map.1 hd
      cases hdb
      have := heap_lt (m3 b hb').2
      omega
  · rcases hY with hY | ⟨hY, _⟩
    · exact h.fixY b o hf hY
    · have := heap_lt (f1 b o hf).1; omega
  · rcases hg with hg | ⟨h1, h2⟩
    · exact ⟨(h.newY g hg).1, Nat.lt_of_lt_of_le (h.newY g hg).2 hs⟩
    · exact ⟨Nat.le_trans h.ext.size h1, h2⟩
  · obtain ⟨n1, n2, n3⟩ := h.new s b hsb
    refine ⟨n1, Nat.lt_of_lt_of_le n2 hs, fun hY => ?_⟩
    rcases hY with hY | ⟨hY, _⟩
    · exact n3 hY
    · omega
  · exact (h.site s).keepOk hs hA (fun c hc => hb c (h.new s c hc).2.1 (h.new s c hc).2.2) hok
  · exact (h.tmp t).keepOk hs hA hok

/- the round: all sites are renumbered -/
def upS (N : Nat) (s : Nat → Site) (k : Nat) : Site := bif Nat.ble N k then shiftS (N + ·) (s (k - N)) else .no
def upSt (N : Nat) (st : St) : St := { n := st.n, t := fun t => shiftT (N + ·) (st.t t), s := upS N st.s }
def upB (N : Nat) (blk : Nat → Option Nat) (k : Nat) : Option Nat := bif Nat.ble N k then blk (k - N) else none
def upV (N : Nat) (val : Nat → Value) (k : Nat) : Value := val (k - N)
def fixL (l : Nat) (r : Loop) (b : Nat) : Option Obj := bif Nat.beq b l then some (.loop r) else none
theorem fixL_some {l : Nat} {r : Loop} {b : Nat} {o : Obj} (h : fixL l r b = some o) : b = l ∧ o = .loop r := by
  unfold fixL at h
  cases hb : Nat.beq b l with
  | false => rw [hb] at h; cases h
  | true => rw [hb] at h; cases h; exact ⟨Nat.eq_of_beq_eq_true hb, rfl⟩
def roundCx (w0 : Cx) (Y : Nat → Prop) (N l : Nat) (r : Loop) (st : St) (A : World) (blk : Nat → Option Nat) : Cx :=
  ⟨A, fun b => okOf w0 blk b ∧ ¬ Y b, fun b => (∃ k, blk k = some b) ∨ b = l, fun k => bif Nat.ble N k && (st.s (k - N)).isVar then blk (k - N) else none, fixL l r, some l⟩
theorem HoldY.round (h : HoldY w0 Y st a A blk val) (N l : Nat) (hN : st.n ≤ N) {r : Loop} (hl : A.heap[l]? = some (.loop r)) : Hold (roundCx w0 Y N l r st A blk) (upSt N st) { tmps := a.tmps, defers := [] } A (upB N blk) (upV N val) := by
  have hE : ∀ k b, upB N blk k = some b → N ≤ k ∧ blk (k - N) = some b := fun k b hk => by
    simp only [upB] at hk
    cases hb : Nat.ble N k with
    | false => rw [hb] at hk; cases hk
    | true => rw [hb] at hk; exact ⟨Nat.le_of_ble_eq_true hb, hk⟩
  have hge : ∀ k, Nat.ble N (N + k) = true := fun k => by rw [Nat.ble_eq]; omega
  have hok : ∀ b, b < A.heap.size → (okOf w0 blk b ∧ ¬ Y b) → okOf (roundCx w0 Y N l r st A blk) (upB N blk) b := fun b _ hb => ⟨.inl hb, fun s hs => hb.1.2 _ (hE s b hs).2⟩
  have hkE : ∀ k, upB N blk (N + k) = blk k ∧ upV N val (N + k) = val k ∧ (upSt N st).s (N + k) = shiftS (N + ·) (st.s k) := fun k => by
    simp only [upB, upV, upSt, upS, hge k, cond_true, Nat.add_sub_cancel_left]
    exact ⟨trivial, trivial, trivial⟩
  refine ⟨⟨rfl, rfl, rfl, Nat.le_refl _, fun _ _ _ => rfl⟩, ⟨⟨[], rfl, .nil, fun b hb => by cases hb⟩, fun b o hb => by obtain ⟨rfl, rfl⟩ := fixL_some hb; exact ⟨hl, rfl⟩⟩, h.size, fun k b hk => ⟨.inr (.inl ⟨_, (hE k b hk).2⟩), (h.new _ b (hE k b hk).2).2.1⟩, fun k k' b hk hk' => ?_, fun k b hk => ?_, fun k => ?_, fun t => ?_⟩
  · have e := h.inj _ _ b (hE k b hk).2 (hE k' b hk').2
    have := (hE k b hk).1
    have := (hE k' b hk').1
    omega
  · simp only [roundCx] at hk
    cases hb : Nat.ble N k && (st.s (k - N)).isVar with
    | false => rw [hb] at hk; cases hk
    | true =>
      rw [hb] at hk
      rw [Bool.and_eq_true] at hb
      refine ⟨by simp only [upB, hb.1, cond_true]; exact hk, ?_, Nat.le_trans hN (Nat.le_of_ble_eq_true hb.1)⟩
      show (upS N st.s k).isVar = true
      simp only [upS, hb.1, cond_true]
      have h2 := hb.2
      cases hs : st.s (k - N) <;> rw [hs] at h2 <;> first | rfl | cases h2
  · show SiteIn _ _ _ _ (upS N st.s) _ _ (upS N st.s k)
    cases hb : Nat.ble N k with
    | false => simp only [upB, upS, hb, cond_false]; rfl
    | true =>
      simp only [upB, upS, hb, cond_true, upV]
      exact (h.site (k - N)).shift hok fun cs _ y _ j _ => hkE j
  · exact (h.tmp t).shift hok fun k _ => hkE k
end
end Go.Proofs.YtepaabbfindaeaaGreatDoor.Am
namespace Go.Proofs.YtepaabbfindaeaaGreatDoor.Am
open Go Go.RowKit

section
variable {P : Program} {α σ : Type} {J : (Nat → Prop) → σ → World → Prop} {c : Cx} {st : St} {a : Act} {w A B : World} {blk : Nat → Option Nat} {val : Nat → Value} {Y : Nat → Prop} {s : σ}

/-- What a caller's invariant abides: the iterator makes blocks, and changes its own ones. -/
def JStep {σ : Type} (J : (Nat → Prop) → σ → World → Prop) : Prop :=
  ∀ (Y : Nat → Prop) (s : σ) (A B : World), J Y s A → A.heap.size ≤ B.heap.size → SameIO A B → (∀ g, g < A.heap.size → ¬ Y g → B.heap[g]? = A.heap[g]?) → J (fun g => Y g ∨ (A.heap.size ≤ g ∧ g < B.heap.size)) s B
/-- What an iterator knows of its own memory: c.w is where it was called, c.ok the blocks of what it was handed. -/
structure HoldI (c : Cx) (Y : Nat → Prop) (st : St) (a : Act) (w : World) (blk : Nat → Option Nat) (val : Nat → Value) : Prop where
  size0 : c.w.heap.size ≤ w.heap.size
  data : ∀ g, c.ok g → g < c.w.heap.size ∧ ¬ Y g ∧ w.heap[g]? = c.w.heap[g]?
  marks : ∃ ms : List Nat, a.defers = ms.map (fun b => { target := .collected b, args := #[] }) ∧ ms.Nodup ∧ ∀ b ∈ ms, Y b ∧ w.heap[b]? = some (.deferred (some []))
  newY : ∀ g, Y g → g < w.heap.size
  size : a.tmps.size = st.n
  new : ∀ s b, blk s = some b → Y b
  inj : ∀ s s' b, blk s = some b → blk s' = some b → s = s'
  site : ∀ s, SiteIn w (fun b => (c.ok b ∨ Y b) ∧ ∀ s, blk s ≠ some b) blk val st.s (blk s) (val s) (st.s s)
  tmp : ∀ t, RepT w (fun b => (c.ok b ∨ Y b) ∧ ∀ s, blk s ≠ some b) blk val st.s (st.t t) (a.tmps.getD t undef)
/-- The walk of an iterator's code: s is what has come when it begins, R tells of how it ends and of what has come then. -/
def Iwp (P : Program) {σ : Type} (J : (Nat → Prop) → σ → World → Prop) (c : Cx) (code : Code) (R : Exit → St → σ → Prop) (st : St) (s : σ) : Prop :=
  ∀ (m : Nat) (Y : Nat → Prop) (a : Act) (w : World) (blk : Nat → Option Nat) (val : Nat → Value), HoldI c Y st a w blk val → J Y s w →
    code.wpIn Fence.wide m P (fun e a' w' => ∃ st' s' Y' blk' val', R e st' s' ∧ HoldI c Y' st' a' w' blk' val' ∧ J Y' s' w') a w
/-- A code that yields nothing. -/
def innerCx (c : Cx) (Y : Nat → Prop) (a : Act) (w : World) (blk : Nat → Option Nat) : Cx :=
  ⟨w, fun b => c.ok b ∨ Y b, fun b => (∃ k, blk k = some b) ∨ ∃ d ∈ a.defers, d.target = .collected b, fun _ => none, fun _ => none, none⟩
theorem HoldI.inner (h : HoldI c Y st a w blk val) : Hold (innerCx c Y a w blk) st a w blk val := by
  obtain ⟨ms, m1, m2, m3⟩ := h.marks
  refine ⟨⟨rfl, rfl, rfl, Nat.le_refl _, fun _ _ _ => rfl⟩, ⟨⟨ms, m1, m2, fun b hb => ⟨.inr (.inr ⟨{ target := .collected b, args := #[] }, by rw [m1]; exact List.mem_map.2 ⟨b, hb, rfl⟩, rfl⟩), (m3 b hb).2⟩⟩, fun b o hb => by cases hb⟩, h.size, fun k b hb => ⟨.inr (.inl ⟨k, hb⟩), h.newY b (h.new k b hb)⟩, h.inj, (fun k b hb => by cases hb), fun k => ?_, fun t => ?_⟩
  · exact (h.site k).keepOk (Nat.le_refl _) (fun _ _ _ h => h) (fun _ _ => rfl) fun b _ hb => ⟨.inl hb.1, hb.2⟩
  · exact (h.tmp t).keepOk (Nat.le_refl _) (fun _ _ _ h => h) fun b _ hb => ⟨.inl hb.1, hb.2⟩
theorem HoldI.mineOk (hh : HoldI c Y st a w blk val) : ∀ b, (innerCx c Y a w blk).mine b → (innerCx c Y a w blk).ok b := fun b hb => .inr (by
  rcases hb with ⟨k, hk⟩ | ⟨d, hd, hdb⟩
  · exact hh.new k b hk
  · obtain ⟨ms, m1, m2, m3⟩ := hh.marks
    rw [m1] at hd
    obtain ⟨b', hb', rfl⟩ := List.mem_map.1 hd
    cases hdb
    exact (m3 b hb').1)
theorem HoldI.le {st' : St} (h : HoldI c Y st a w blk val) (hl : ∀ c', (∀ b, c'.mine b → c'.ok b) → Le c' st st') : ∃ blk' val', HoldI c Y st' a w blk' val' := by
  obtain ⟨blk', val', hk⟩ := hl (innerCx c Y a w blk) h.mineOk a w ⟨_, _, h.inner⟩
  have hok : ∀ b, b < w.heap.size → okOf (innerCx c Y a w blk) blk' b → (c.ok b ∨ Y b) ∧ ∀ s, blk' s ≠ some b := fun b hb ho => ⟨by
    rcases ho.1 with q | q
    · exact q
    · have : w.heap.size ≤ b := q
      omega, ho.2⟩
  refine ⟨blk', val', h.size0, h.data, h.marks, h.newY, hk.size, fun k b hb => ?_, hk.inj, fun k => (hk.site k).keepOk (Nat.le_refl _) (fun _ _ _ h => h) (fun _ _ => rfl) hok, fun t => (hk.tmp t).keepOk (Nat.le_refl _) (fun _ _ _ h => h) hok⟩
  obtain ⟨n1, n2⟩ := hk.new k b hb
  rcases n1 with q | q | ⟨d, hd, hdb⟩
  · have : w.heap.size ≤ b := q
    omega
  · obtain ⟨j, hj⟩ := q
    exact h.new j b hj
  · obtain ⟨ms, m1, m2, m3⟩ := h.marks
    rw [m1] at hd
    obtain ⟨b', hb', rfl⟩ := List.mem_map.1 hd
    cases hdb
    exact (m3 b hb').1
theorem HoldI.after {st' : St} {a' : Act} {w' : World} {blk' : Nat → Option Nat} {val' : Nat → Value} (hJ : JStep J) (hh : HoldI c Y st a w blk val) (hj : J Y s w) (hk : Hold (innerCx c Y a w blk) st' a' w' blk' val') : ∃ Y', HoldI c Y' st' a' w' blk' val' ∧ J Y' s w' := by
  have mineY : ∀ b, (innerCx c Y a w blk).mine b → Y b := fun b hb => by
    rcases hb with ⟨k, hk⟩ | ⟨d, hd, hdb⟩
    · exact hh.new k b hk
    · obtain ⟨ms, m1, m2, m3⟩ := hh.marks
      rw [m1] at hd
      obtain ⟨b', hb', rfl⟩ := List.mem_map.1 hd
      cases hdb
      exact (m3 b hb').1
  have hs : w.heap.size ≤ w'.heap.size := hk.ext.size
  have hsame : ∀ g, g < w.heap.size → ¬ Y g → w'.heap[g]? = w.heap[g]? := fun g hg hY => hk.ext.block g hg fun hm => hY (mineY g hm)
  have hours : ∀ b, b < w'.heap.size → Ours (innerCx c Y a w blk) b → Y b ∨ (w.heap.size ≤ b ∧ b < w'.heap.size) := fun b hb ho => by
    rcases ho with q | q
    · exact .inr ⟨q, hb⟩
    · exact .inl (mineY b q)
  have hok : ∀ b, b < w'.heap.size → okOf (innerCx c Y a w blk) blk' b → (c.ok b ∨ (Y b ∨ (w.heap.size ≤ b ∧ b < w'.heap.size))) ∧ ∀ s, blk' s ≠ some b := fun b hb ho => ⟨by
    rcases ho.1 with (q | q) | q
    · exact .inl q
    · exact .inr (.inl q)
    · exact .inr (.inr ⟨q, hb⟩), ho.2⟩
  refine ⟨fun g => Y g ∨ (w.heap.size ≤ g ∧ g < w'.heap.size), ⟨Nat.le_trans hh.size0 hs, fun g hg => ?_, ?_, fun g hg => ?_, hk.size, fun k b hb => hours b (hk.new k b hb).2 (hk.new k b hb).1, hk.inj, fun k => ?_, fun t => ?_⟩, hJ Y s w w' hj hs ⟨hk.ext.os, hk.ext.tape, hk.ext.output⟩ hsame⟩
  · obtain ⟨d1, d2, d3⟩ := hh.data g hg
    refine ⟨d1, fun hY => ?_, ?_⟩
    · rcases hY with q | ⟨q, _⟩
      · exact d2 q
      · have := hh.size0; omega
    · rw [hsame g (Nat.lt_of_lt_of_le d1 hh.size0) d2]; exact d3
  · obtain ⟨ms, m1, m2, m3⟩ := hk.defers.marks
    exact ⟨ms, m1, m2, fun b hb => ⟨hours b (heap_lt (m3 b hb).2) (m3 b hb).1, (m3 b hb).2⟩⟩
  · rcases hg with hg | hg
    · exact Nat.lt_of_lt_of_le (hh.newY g hg) hs
    · exact hg.2
  · exact (hk.site k).keepOk (Nat.le_refl _) (fun _ _ _ h => h) (fun _ _ => rfl) hok
  · exact (hk.tmp t).keepOk (Nat.le_refl _) (fun _ _ _ h => h) hok
theorem Iwp.le {code : Code} {R : Exit → St → σ → Prop} {st' : St} (hl : ∀ c', (∀ b, c'.mine b → c'.ok b) → Le c' st st') (h : Iwp P J c code R st' s) : Iwp P J c code R st s := fun m Y a w blk val hh hj => by
  obtain ⟨blk', val', hh'⟩ := hh.le hl
  exact h m Y a w blk' val' hh' hj
end
end Go.Proofs.YtepaabbfindaeaaGreatDoor.Am
namespace Go.Proofs.YtepaabbfindaeaaGreatDoor.Am
open Go Go.RowKit

def AllTG (s : St) (g : Nat → Nat) : List (Nat × T) → Prop
  | [] => True
  | p :: ps => s.t p.1 = shiftT g p.2 ∧ AllTG s g ps
def AllSG (s : St) (g : Nat → Nat) : List (Nat × Site) → Prop
  | [] => True
  | p :: ps => s.s (g p.1) = shiftS g p.2 ∧ AllSG s g ps
theorem AllTG.mem {s : St} {g : Nat → Nat} : ∀ {l : List (Nat × T)}, AllTG s g l → ∀ p ∈ l, s.t p.1 = shiftT g p.2
  | [], _, p, h => by cases h
  | q :: l, h, p, hp => by
    rcases List.mem_cons.1 hp with rfl | hp
    · exact h.1
    · exact AllTG.mem h.2 p hp
theorem AllSG.mem {s : St} {g : Nat → Nat} : ∀ {l : List (Nat × Site)}, AllSG s g l → ∀ p ∈ l, s.s (g p.1) = shiftS g p.2
  | [], _, p, h => by cases h
  | q :: l, h, p, hp => by
    rcases List.mem_cons.1 hp with rfl | hp
    · exact h.1
    · exact AllSG.mem h.2 p hp
section
variable {P : Program} {w0 : Cx} {s : St} {ev : Operand → T} {ty : TypeId} {pos : String} {after : Array Edge}
end
section
variable {P : Program} {w0 : Cx} {n : Nat} {s : Nat → Site} {ev : Operand → T} {dst : Option Tmp} {ty : TypeId} {pos : String} {after : Array Edge} {g : Option (Nat × Bool)}
end
section
variable {P : Program} {w0 : Cx} {st : St}
end
end Go.Proofs.YtepaabbfindaeaaGreatDoor.Am
namespace Go.Proofs.YtepaabbfindaeaaGreatDoor.Am
open Go Go.RowKit

section
variable {P : Program} {w0 : Cx} {n : Nat} {s : Nat → Site} {ev : Operand → T} {dst : Option Tmp} {ty : TypeId} {pos : String} {after : Array Edge} {g : Option (Nat × Bool)}
theorem q_convE {t t' : TypeId} {y : Operand} {k k' : IntKind} {i j : Int} (ht : intB P t k' = true) (ht' : intB P t' k = true) (hy : ev y = .d (.v (.int k' i))) (h : k.wrap i = j) : QOp P w0 n s ev ⟨dst, .convert t t' y, ty, pos, after, g⟩ (.d (.v (.int k j))) := by
  subst h; exact q_convi ht ht' hy
/-- Whole numbers of one kind. -/
def kV (k : IntKind) (x : Int) : D := .v (.int k x)
end
end Go.Proofs.YtepaabbfindaeaaGreatDoor.Am
namespace Go.Proofs.YtepaabbfindaeaaGreatDoor.Am
open Go Go.RowKit

section
variable {P : Program} {α σ : Type} {J : (Nat → Prop) → σ → World → Prop} {c : Cx} {st : St} {a : Act} {w A B : World} {blk : Nat → Option Nat} {val : Nat → Value} {Y : Nat → Prop} {s : σ}

end
end Go.Proofs.YtepaabbfindaeaaGreatDoor.Am
namespace Go.Proofs.YtepaabbfindaeaaGreatDoor.Am
open Go Go.RowKit

section
variable {w0 : Cx} {st : St}

end
end Go.Proofs.YtepaabbfindaeaaGreatDoor.Am
namespace Go.Proofs.YtepaabbfindaeaaGreatDoor.Am
open Go Go.RowKit

section
variable {P : Program} {w0 : Cx} {n : Nat} {s : Nat → Site} {ev : Operand → T} {dst : Option Tmp} {ty : TypeId} {pos : String} {after : Array Edge} {g : Option (Nat × Bool)}
end
section
variable {P : Program} {w0 : Cx} {ops : List Oper} {rest : List Oper} {R : Exit → St → Prop} {st : St} {ty : TypeId} {pos : String} {after : Array Edge}
end
section
variable {P : Program} {w0 : Cx} {n : Nat} {s : Nat → Site} {ev : Operand → T} {ty : TypeId} {pos : String} {after : Array Edge}
end
section
variable {w0 : Cx} {st : St}
end
end Go.Proofs.YtepaabbfindaeaaGreatDoor.Am
namespace Go.Proofs.YtepaabbfindaeaaGreatDoor.Am
open Go Go.RowKit

section
variable {P : Program} {w0 : Cx} {n : Nat} {s : Nat → Site} {ev : Operand → T} {dst : Option Tmp} {ty : TypeId} {pos : String} {after : Array Edge} {g : Option (Nat × Bool)}
end
end Go.Proofs.YtepaabbfindaeaaGreatDoor.Am
namespace Go.Proofs.YtepaabbfindaeaaGreatDoor.Am
open Go Go.RowKit

section
variable {P : Program} {w0 : Cx} {n : Nat} {s : Nat → Site} {ev : Operand → T} {dst : Option Tmp} {ty : TypeId} {pos : String} {after : Array Edge} {g : Option (Nat × Bool)}
end
end Go.Proofs.YtepaabbfindaeaaGreatDoor.Am
