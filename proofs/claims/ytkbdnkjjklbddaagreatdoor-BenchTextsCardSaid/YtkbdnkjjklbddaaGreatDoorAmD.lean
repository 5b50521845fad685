/- The abstract machine, parts 26 to 35. Conditions: none. -/
import Derived.RangeFuncNested
import Derived.Laws.Externs
import Derived.Laws.FloatArith
import Derived.Laws.ComplexArith
import Derived.Test.YtkbdnkjjklbddaaGreatDoorAmC
set_option linter.unusedVariables false
set_option linter.unusedSimpArgs false
namespace Go.Proofs.YtkbdnkjjklbddaaGreatDoor.Am
open Go

section
variable {P : Program} {w0 : Cx}
theorem AsD.live {s : Nat → Site} {x x' : T} {d : D} (h : AsD s x d) (hx : x = .dead ∨ x' = x) : AsD s x' d := by
  rcases hx with rfl | rfl
  · cases h
  · exact h
theorem Args.live {ev ev' : Operand → T} {s : Nat → Site} {ys : List Operand} {ds : List D} (h : Args ev s ys ds) (hx : ∀ y, ev y = .dead ∨ ev' y = ev y) : Args ev' s ys ds := by
  induction h with
  | nil => exact .nil
  | cons h _ ih => exact .cons (h.live (hx _)) ih
end
open Go Go.RowKit

def SameIO (A B : World) : Prop := B.os = A.os ∧ B.tape = A.tape ∧ B.output = A.output
theorem SameIO.refl (A : World) : SameIO A A := ⟨rfl, rfl, rfl⟩
theorem SameIO.trans {A B C : World} (h : SameIO A B) (k : SameIO B C) : SameIO A C := ⟨k.1.trans h.1, k.2.1.trans h.2.1, k.2.2.trans h.2.2⟩
def PI (P : Program) (f : FuncId) (pre post : List D) {α : Type} (enc : α → List D) (items : List α) (fin : Bool := true) : Prop :=
  ∀ (w : World) (ok : Nat → Prop) (v1 v2 : List Value), RepL w ok pre v1 → RepL w ok post v2 →
  ∀ (m l : Nat) (J : (Nat → Prop) → Bool × List α → World → Prop) (W : World) (Y0 : Nat → Prop),
    (∀ (Y : Nat → Prop) (s : Bool × List α) (A B : World), J Y s A → A.heap.size ≤ B.heap.size → SameIO A B → (∀ g, g < A.heap.size → ¬ Y g → B.heap[g]? = A.heap[g]?) → J (fun g => Y g ∨ (A.heap.size ≤ g ∧ g < B.heap.size)) s B) →
    (∀ (Y : Nat → Prop) (s : Bool × List α) (A : World), J Y s A → w.heap.size ≤ A.heap.size ∧ (∀ g, Y g → g < A.heap.size) ∧ ∀ g, g < w.heap.size → ok g → A.heap[g]? = w.heap[g]? ∧ ¬ Y g) →
    (∀ (Y : Nat → Prop) (s : List α) (x : α) (us : List Value) (A : World), J Y (true, s) A → (s ++ [x]) <+: items → RepL A (fun b => ok b ∨ Y b) (enc x) us → ∀ m', YieldAt Fence.wide m' P l us.toArray A fun e B =>
      ∃ b, e = .returned (.bool b) ∧ J Y (b, s ++ [x]) B ∧ A.heap.size ≤ B.heap.size ∧ SameIO A B ∧ ∀ g, Y g → B.heap[g]? = A.heap[g]?) →
    (fin = false → ∀ (Y : Nat → Prop) (A : World), ¬ J Y (true, items) A) →
    J Y0 (true, []) W →
    CallsIn Fence.wide (m + 1) P f (v1 ++ Value.func (.yield l) #[] #[] :: v2).toArray W fun e B => (∃ v, e = .returned v) ∧ ∃ Y s, J Y s B ∧ (s.1 = true → s.2 = items)

theorem RepT.keepOk {w w' : World} {ok ok' : Nat → Prop} {blk : Nat → Option Nat} {val : Nat → Value} {s : Nat → Site} {x : T} {v : Value} (h : RepT w ok blk val s x v) (hs : w.heap.size ≤ w'.heap.size)
    (hA : ∀ (b : Nat) (o : Obj), ok b → w.heap[b]? = some o → w'.heap[b]? = some o) (hok : ∀ b, b < w.heap.size → ok b → ok' b) : RepT w' ok' blk val s x v := by
  cases x with
  | d x => exact Rep.keep h hs hA hok
  | own k r f g => exact ⟨h.1, h.2.imp fun _ _ h => Rep.keep h hs hA hok⟩
  | _ => exact h
theorem SiteIn.keepOk {w w' : World} {ok ok' : Nat → Prop} {blk' : Nat → Option Nat} {val' : Nat → Value} {s : Nat → Site} {b : Option Nat} {val : Value} {x : Site} (h : SiteIn w ok blk' val' s b val x) (hs : w.heap.size ≤ w'.heap.size)
    (hA : ∀ (b : Nat) (o : Obj), ok b → w.heap[b]? = some o → w'.heap[b]? = some o) (hb : ∀ c, b = some c → w'.heap[c]? = w.heap[c]?) (hok : ∀ b, b < w.heap.size → ok b → ok' b) : SiteIn w' ok' blk' val' s b val x := by
  cases x with
  | no => exact h
  | box cs =>
    obtain ⟨b, e, vals, h1, h2, h3, h4, h5⟩ := h
    exact ⟨b, e, vals, h1, (hb b h1).trans h2, h3, h4, fun j d hd => let ⟨v, hv, hr⟩ := h5 j d hd; ⟨v, hv, hr.keep hs hA hok⟩⟩
  | tbox cs =>
    obtain ⟨b, e, vals, h1, h2, h3, h5⟩ := h
    exact ⟨b, e, vals, h1, (hb b h1).trans h2, h3, fun j x hx => let ⟨v, hv, ho, hr⟩ := h5 j x hx; ⟨v, hv, ho, hr.keepOk hs hA hok⟩⟩
  | mp es c =>
    obtain ⟨b, h1, h2⟩ := h
    exact ⟨b, h1, (hb b h1).trans h2⟩
  | row e sz es =>
    obtain ⟨h1, h2, h3⟩ := h
    refine ⟨h1, h2, h3.imp id fun ⟨b, vals, cap, k1, k2, k3, k4, k5, k6, k7⟩ => ⟨b, vals, cap, k1, k2, k3, k4, (hb b k1).trans k5, k6, fun i x j d hi hj => let ⟨v, hv, hr⟩ := k7 i x j d hi hj; ⟨v, hv, hr.keep hs hA hok⟩⟩⟩

section
variable {P : Program} {w0 : Cx} {st : St} {a : Act} {w A B : World} {blk : Nat → Option Nat} {val : Nat → Value} {Y : Nat → Prop}

structure HoldY (w0 : Cx) (Y : Nat → Prop) (st : St) (a : Act) (w : World) (blk : Nat → Option Nat) (val : Nat → Value) : Prop where
  ext : ExtM w0 w
  kept : Kept w0 a w
  markY : ∀ d ∈ a.defers, ∀ b, d.target = .collected b → ¬ Y b
  fixY : ∀ b o, w0.fix b = some o → ¬ Y b
  newY : ∀ g, Y g → w0.w.heap.size ≤ g ∧ g < w.heap.size
  size : a.tmps.size = st.n
  new : ∀ s b, blk s = some b → Ours w0 b ∧ b < w.heap.size ∧ ¬ Y b
  inj : ∀ s s' b, blk s = some b → blk s' = some b → s = s'
  pin : ∀ k b, w0.pin k = some b → blk k = some b ∧ (st.s k).isVar = true ∧ st.n ≤ k
  site : ∀ s, SiteIn w (fun b => okOf w0 blk b ∧ ¬ Y b) blk val st.s (blk s) (val s) (st.s s)
  tmp : ∀ t, RepT w (fun b => okOf w0 blk b ∧ ¬ Y b) blk val st.s (st.t t) (a.tmps.getD t undef)

theorem HoldY.of (h : Hold w0 st a w blk val) : HoldY w0 (fun _ => False) st a w blk val :=
  ⟨h.ext, h.defers, fun _ _ _ _ h => h, fun _ _ _ h => h, fun _ h => h.elim, h.size, fun s b hb => ⟨(h.new s b hb).1, (h.new s b hb).2, fun h => h⟩, h.inj, h.pin,
    fun s => (h.site s).keepOk (Nat.le_refl _) (fun _ _ _ h => h) (fun _ _ => rfl) fun b _ hb => ⟨hb, fun h => h⟩, fun t => (h.tmp t).keepOk (Nat.le_refl _) (fun _ _ _ h => h) fun b _ hb => ⟨hb, fun h => h⟩⟩
theorem HoldY.hold (h : HoldY w0 Y st a w blk val) : Hold w0 st a w blk val :=
  ⟨h.ext, h.kept, h.size, fun s b hb => ⟨(h.new s b hb).1, (h.new s b hb).2.1⟩, h.inj, h.pin,
    fun s => (h.site s).keepOk (Nat.le_refl _) (fun _ _ _ h => h) (fun _ _ => rfl) fun b _ hb => hb.1, fun t => (h.tmp t).keepOk (Nat.le_refl _) (fun _ _ _ h => h) fun b _ hb => hb.1⟩
theorem HoldY.step (h : HoldY w0 Y st a A blk val) (hs : A.heap.size ≤ B.heap.size) (hio : SameIO A B) (hb : ∀ g, g < A.heap.size → ¬ Y g → B.heap[g]? = A.heap[g]?) : HoldY w0 (fun g => Y g ∨ (A.heap.size ≤ g ∧ g < B.heap.size)) st a B blk val := by
  have hA : ∀ (b : Nat) (o : Obj), (okOf w0 blk b ∧ ¬ Y b) → A.heap[b]? = some o → B.heap[b]? = some o := fun b o hok ho => by rw [hb b (heap_lt ho) hok.2]; exact ho
  have hok : ∀ b, b < A.heap.size → (okOf w0 blk b ∧ ¬ Y b) → (okOf w0 blk b ∧ ¬ (Y b ∨ (A.heap.size ≤ b ∧ b < B.heap.size))) := fun b hlt hb => ⟨hb.1, fun h => by
    rcases h with h | ⟨h, _⟩
    · exact hb.2 h
    · omega⟩
  obtain ⟨⟨ms, m1, m2, m3⟩, f1⟩ := h.kept
  have mY : ∀ b ∈ ms, ¬ Y b := fun b hb' => h.markY { target := .collected b, args := #[] } (by rw [m1]; exact List.mem_map.2 ⟨b, hb', rfl⟩) b rfl
  refine ⟨⟨hio.1.trans h.ext.os, hio.2.1.trans h.ext.tape, hio.2.2.trans h.ext.output, Nat.le_trans h.ext.size hs, fun k hk hm => ?_⟩, ⟨⟨ms, m1, m2, fun b hb' => ⟨(m3 b hb').1, ?_⟩⟩, fun b o hf => ⟨?_, (f1 b o hf).2⟩⟩, fun d hd b hdb hY => ?_, fun b o hf hY => ?_, fun g hg => ?_, h.size, fun s b hsb => ?_, h.inj, h.pin, fun s => ?_, fun t => ?_⟩
  · rw [hb k (Nat.lt_of_lt_of_le hk h.ext.size) fun hY => by have := (h.newY k hY).1; omega]; exact h.ext.block k hk hm
  · rw [hb b (heap_lt (m3 b hb').2) (mY b hb')]; exact (m3 b hb').2
  · rw [hb b (heap_lt (f1 b o hf).1) (h.fixY b o hf)]; exact (f1 b o hf).1
  · rcases hY with hY | ⟨hY, _⟩
    · exact h.markY d hd b hdb hY
    · rw [m1] at hd
      obtain ⟨b', hb', rfl⟩ := List.mem_map.1 hd
      cases hdb
      have := heap_lt (m3 b hb').2
      omega
  · rcases hY with hY | ⟨hY, _⟩
    · exact h.fixY b o hf hY
    · have := heap_lt (f1 b o hf).1; omega
  · rcases hg with hg | ⟨h1, h2⟩
    · exact ⟨(h.newY g hg).1, Nat.lt_of_lt_of_le (h.newY g hg).2 hs⟩
    · exact ⟨Nat.le_trans h.ext.size h1, h2⟩
  · obtain ⟨n1, n2, n3⟩ := h.new s b hsb
    refine ⟨n1, Nat.lt_of_lt_of_le n2 hs, fun hY => ?_⟩
    rcases hY with hY | ⟨hY, _⟩
    · exact n3 hY
    · omega
  · exact (h.site s).keepOk hs hA (fun c hc => hb c (h.new s c hc).2.1 (h.new s c hc).2.2) hok
  · exact (h.tmp t).keepOk hs hA hok

/- the round: all sites are renumbered -/
def upS (N : Nat) (s : Nat → Site) (k : Nat) : Site := bif Nat.ble N k then shiftS (N + ·) (s (k - N)) else .no
def upSt (N : Nat) (st : St) : St := { n := st.n, t := fun t => shiftT (N + ·) (st.t t), s := upS N st.s }
def upB (N : Nat) (blk : Nat → Option Nat) (k : Nat) : Option Nat := bif Nat.ble N k then blk (k - N) else none
def upV (N : Nat) (val : Nat → Value) (k : Nat) : Value := val (k - N)
def fixL (l : Nat) (r : Loop) (b : Nat) : Option Obj := bif Nat.beq b l then some (.loop r) else none
theorem fixL_some {l : Nat} {r : Loop} {b : Nat} {o : Obj} (h : fixL l r b = some o) : b = l ∧ o = .loop r := by
  unfold fixL at h
  cases hb : Nat.beq b l with
  | false => rw [hb] at h; cases h
  | true => rw [hb] at h; cases h; exact ⟨Nat.eq_of_beq_eq_true hb, rfl⟩
def roundCx (w0 : Cx) (Y : Nat → Prop) (N l : Nat) (r : Loop) (st : St) (A : World) (blk : Nat → Option Nat) : Cx :=
  ⟨A, fun b => okOf w0 blk b ∧ ¬ Y b, fun b => (∃ k, blk k = some b) ∨ b = l, fun k => bif Nat.ble N k && (st.s (k - N)).isVar then blk (k - N) else none, fixL l r, some l⟩
theorem HoldY.round (h : HoldY w0 Y st a A blk val) (N l : Nat) (hN : st.n ≤ N) {r : Loop} (hl : A.heap[l]? = some (.loop r)) : Hold (roundCx w0 Y N l r st A blk) (upSt N st) { tmps := a.tmps, defers := [] } A (upB N blk) (upV N val) := by
  have hE : ∀ k b, upB N blk k = some b → N ≤ k ∧ blk (k - N) = some b := fun k b hk => by
    simp only [upB] at hk
    cases hb : Nat.ble N k with
    | false => rw [hb] at hk; cases hk
    | true => rw [hb] at hk; exact ⟨Nat.le_of_ble_eq_true hb, hk⟩
  have hge : ∀ k, Nat.ble N (N + k) = true := fun k => by rw [Nat.ble_eq]; omega
  have hok : ∀ b, b < A.heap.size → (okOf w0 blk b ∧ ¬ Y b) → okOf (roundCx w0 Y N l r st A blk) (upB N blk) b := fun b _ hb => ⟨.inl hb, fun s hs => hb.1.2 _ (hE s b hs).2⟩
  have hkE : ∀ k, upB N blk (N + k) = blk k ∧ upV N val (N + k) = val k ∧ (upSt N st).s (N + k) = shiftS (N + ·) (st.s k) := fun k => by
    simp only [upB, upV, upSt, upS, hge k, cond_true, Nat.add_sub_cancel_left]
    exact ⟨trivial, trivial, trivial⟩
  refine ⟨⟨rfl, rfl, rfl, Nat.le_refl _, fun _ _ _ => rfl⟩, ⟨⟨[], rfl, .nil, fun b hb => by cases hb⟩, fun b o hb => by obtain ⟨rfl, rfl⟩ := fixL_some hb; exact ⟨hl, rfl⟩⟩, h.size, fun k b hk => ⟨.inr (.inl ⟨_, (hE k b hk).2⟩), (h.new _ b (hE k b hk).2).2.1⟩, fun k k' b hk hk' => ?_, fun k b hk => ?_, fun k => ?_, fun t => ?_⟩
  · have e := h.inj _ _ b (hE k b hk).2 (hE k' b hk').2
    have := (hE k b hk).1
    have := (hE k' b hk').1
    omega
  · simp only [roundCx] at hk
    cases hb : Nat.ble N k && (st.s (k - N)).isVar with
    | false => rw [hb] at hk; cases hk
    | true =>
      rw [hb] at hk
      rw [Bool.and_eq_true] at hb
      refine ⟨by simp only [upB, hb.1, cond_true]; exact hk, ?_, Nat.le_trans hN (Nat.le_of_ble_eq_true hb.1)⟩
      show (upS N st.s k).isVar = true
      simp only [upS, hb.1, cond_true]
      have h2 := hb.2
      cases hs : st.s (k - N) <;> rw [hs] at h2 <;> first | rfl | cases h2
  · show SiteIn _ _ _ _ (upS N st.s) _ _ (upS N st.s k)
    cases hb : Nat.ble N k with
    | false => simp only [upB, upS, hb, cond_false]; rfl
    | true =>
      simp only [upB, upS, hb, cond_true, upV]
      exact (h.site (k - N)).shift hok fun cs _ y _ j _ => hkE j
  · exact (h.tmp t).shift hok fun k _ => hkE k
def loopT (s : Nat → Site) : T → T
  | .ref k o => bif (s k).isVar then .ref k o else .dead
  | .rs _ => .dead
  | .own _ _ _ _ => .dead
  | x => x
def loopSt (st : St) (S : Nat → Site) : St := { n := st.n, t := fun t => loopT st.s (st.t t), s := S }
def deadSt (st : St) (S : Nat → Site) : St := { n := st.n, t := fun _ => .dead, s := S }
theorem Rep.keepOC {w w' : World} {ok ok' : Nat → Prop} {d : D} {v : Value} (h : Rep w ok d v) (hs : w.heap.size ≤ w'.heap.size)
    (hA : ∀ (b : Nat) (vals : Array Value) (e : TypeId) (z : Nat × Nat), ok b → w.heap[b]? = some (Obj.cells vals e z) → w'.heap[b]? = some (Obj.cells vals e z)) (hok : ∀ b, b < w.heap.size → ok b → ok' b) : Rep w' ok' d v := by
  have cell : ∀ {p : Addr} {v : Value}, ok p.block → w.cell? p = some v → w'.cell? p = some v := fun {p v} hk h => by
    obtain ⟨o, ho⟩ := cell_block h
    cases o with
    | cells vals e z =>
      have h' := hA _ _ _ _ hk ho
      unfold World.cell? at h ⊢
      rw [ho] at h; rw [h']; exact h
    | _ => unfold World.cell? at h; rw [ho] at h; cases h
  induction h with
  | v x h => exact .v x h
  | emp sz A cap h => exact .emp sz A cap h
  | sl sz es b off cap vs hb hk hn hcap hsz hsc hc hr ih =>
    exact .sl sz es b off cap vs (Nat.lt_of_lt_of_le hb hs) (hok b hb hk) hn hcap hsz hsc (fun i e j d h1 h2 => cell hk (hc i e j d h1 h2)) (fun i e j d h1 h2 => ih i e j d h1 h2)
  | pt cs o b off vs hb hk hsc hc hr ih =>
    exact .pt cs o b off vs (Nat.lt_of_lt_of_le hb hs) (hok b hb hk) hsc (fun j d h1 => cell hk (hc j d h1)) (fun j d h1 => ih j d h1)
  | fn f cap vs hl hr ih => exact .fn f cap vs hl fun j d v h1 h2 => ih j d v h1 h2
  | mfn f cap vs hl hr ih => exact .mfn f cap vs hl fun j d v h1 h2 => ih j d v h1 h2
  | agg cs vs hl hsc hr ih => exact .agg cs vs hl hsc fun j d v h1 h2 => ih j d v h1 h2
  | tup cs vs hl hr ih => exact .tup cs vs hl fun j d v h1 h2 => ih j d v h1 h2
  | e0 A => exact .e0 A
  | nan k b h => exact .nan k b h
theorem HoldY.siteNc (h : HoldY w0 Y st a A blk val) {b : Nat} {o : Obj} (hb : A.heap[b]? = some o) (ho : ncO o = true) : ∀ k, blk k ≠ some b := fun k hk => by
  have := h.site k
  rw [hk] at this
  obtain ⟨o', h1, h2⟩ := this.cells
  rw [hb] at h1; cases h1; rw [ho] at h2; cases h2
theorem HoldY.back {N l : Nat} {r : Loop} {c : Cx} {S : Nat → Site} {a' : Act} {blk2 : Nat → Option Nat} {val2 : Nat → Value} (h : HoldY w0 Y st a A blk val) (hH : Hold c (upSt N (deadSt st S)) a' B blk2 val2)
    (hs : A.heap.size ≤ B.heap.size) (hio : SameIO A B) (hfr : ∀ g, g < A.heap.size → (∀ k, blk k ≠ some g) → g ≠ l → B.heap[g]? = A.heap[g]?) (hl : A.heap[l]? = some (.loop r)) (hlw : w0.w.heap.size ≤ l) (hlf : ∀ o, w0.fix l ≠ some o)
    (hpin : ∀ k b, (st.s k).isVar = true → blk k = some b → c.pin (N + k) = some b) (hnew : ∀ k b, blk2 (N + k) = some b → (∃ j, blk j = some b) ∨ A.heap.size ≤ b)
    (hokc : ∀ b, b < B.heap.size → okOf c blk2 b → (okOf w0 blk b ∧ ¬ Y b) ∨ A.heap.size ≤ b) (hvar : ∀ k, (S k).isVar = (st.s k).isVar) : HoldY w0 Y (loopSt st S) a B (fun k => blk2 (N + k)) (fun k => val2 (N + k)) := by
  have hge : ∀ k, Nat.ble N (N + k) = true := fun k => by rw [Nat.ble_eq]; omega
  have hup : ∀ k, upS N S (N + k) = shiftS (N + ·) (S k) := fun k => by simp only [upS, hge k, cond_true, Nat.add_sub_cancel_left]
  obtain ⟨⟨ms, m1, m2, m3⟩, f1⟩ := h.kept
  have nY : ∀ b, A.heap.size ≤ b → ¬ Y b := fun b hb hY => by have := (h.newY b hY).2; omega
  have pinned : ∀ k b, (st.s k).isVar = true → blk k = some b → blk2 (N + k) = some b := fun k b hv hb => (hH.pin _ _ (hpin k b hv hb)).1
  refine ⟨⟨hio.1.trans h.ext.os, hio.2.1.trans h.ext.tape, hio.2.2.trans h.ext.output, Nat.le_trans h.ext.size hs, fun k hk hm => ?_⟩, ⟨⟨ms, m1, m2, fun b hb => ⟨(m3 b hb).1, ?_⟩⟩, fun b o hf => ⟨?_, (f1 b o hf).2⟩⟩, h.markY, h.fixY, fun g hg => ⟨(h.newY g hg).1, Nat.lt_of_lt_of_le (h.newY g hg).2 hs⟩, h.size, fun k b hb => ?_, fun k k' b hb hb' => ?_, fun k b hb => ?_, fun k => ?_, fun t => ?_⟩
  · rw [hfr k (Nat.lt_of_lt_of_le hk h.ext.size) (fun j hj => ?_) (by omega)]
    · exact h.ext.block k hk hm
    · rcases (h.new j k hj).1 with q | q
      · omega
      · exact hm q
  · have hb' := (m3 b hb).2
    rw [hfr b (heap_lt hb') (h.siteNc hb' rfl) (fun e => by rw [e, hl] at hb'; cases hb')]; exact hb'
  · obtain ⟨q1, q2⟩ := f1 b o hf
    rw [hfr b (heap_lt q1) (h.siteNc q1 q2) (fun e => hlf o (by rw [← e]; exact hf))]; exact q1
  · refine ⟨?_, (hH.new _ b hb).2, ?_⟩
    · rcases hnew k b hb with ⟨j, hj⟩ | q
      · exact (h.new j b hj).1
      · exact .inl (Nat.le_trans h.ext.size q)
    · rcases hnew k b hb with ⟨j, hj⟩ | q
      · exact (h.new j b hj).2.2
      · exact nY b q
  · have := hH.inj _ _ b hb hb'
    omega
  · obtain ⟨q1, q2, q3⟩ := h.pin k b hb
    exact ⟨pinned k b q2 q1, by show (S k).isVar = true; rw [hvar k]; exact q2, q3⟩
  · have h1 := hH.site (N + k)
    rw [show (upSt N (deadSt st S)).s (N + k) = shiftS (N + ·) (S k) from hup k] at h1
    refine h1.unshift (fun b hb hok => ?_) fun cs _ y _ j _ => ⟨rfl, rfl, hup j⟩
    rcases hokc b hb hok with ⟨q1, q2⟩ | q
    · exact ⟨⟨q1.1, fun s => hok.2 _⟩, q2⟩
    · exact ⟨⟨.inr (Nat.le_trans h.ext.size q), fun s => hok.2 _⟩, nY b q⟩
  · have h1 := h.tmp t
    show RepT B _ _ _ S (loopT st.s (st.t t)) _
    cases hx : st.t t with
    | d x =>
      rw [hx] at h1
      refine Rep.keepOC (show Rep A _ x _ from h1) hs (fun b vals e z hok hb => ?_) fun b hlt hok => ⟨⟨hok.1.1, fun s hsb => ?_⟩, hok.2⟩
      · rw [hfr b (heap_lt hb) hok.1.2 (fun e => by rw [e, hl] at hb; cases hb)]; exact hb
      · rcases hnew s b hsb with ⟨j, hj⟩ | q
        · exact hok.1.2 j hj
        · omega
    | ref k o =>
      rw [hx] at h1
      simp only [loopT]
      cases hv : (st.s k).isVar with
      | false => trivial
      | true =>
        obtain ⟨q1, b, q2, q3⟩ := h1
        exact ⟨(fun hn => by have := hvar k; rw [hn, hv] at this; cases this), b, pinned k b hv q2, q3⟩
    | rs k => trivial
    | own k r f g => trivial
    | un => rw [hx] at h1; exact h1
    | dead => trivial
theorem Hold.refix {c : Cx} {l : Nat} {r : Loop} (r' : Loop) (h : Hold c st a w blk val) (hf : c.fix = fixL l r) (hm : c.mine l) : Hold { c with fix := fixL l r' } st a (w.putObj l (.loop r')) blk val := by
  have hl : w.heap[l]? = some (.loop r) := (h.defers.fix l _ (by rw [hf]; simp [fixL])).1
  have hlt := heap_lt hl
  have hck : CK w (w.putObj l (.loop r')) := ⟨by rw [World.putObj_size]; exact Nat.le_refl _, fun b vals e z hb => by
    rw [World.putObj_heap_other (fun e' => by rw [e', hl] at hb; cases hb)]; exact hb, fun b es z hb => by
    rw [World.putObj_heap_other (fun e' => by rw [e', hl] at hb; cases hb)]; exact hb⟩
  obtain ⟨⟨ms, m1, m2, m3⟩, _⟩ := h.defers
  refine ⟨⟨h.ext.os, h.ext.tape, h.ext.output, by rw [World.putObj_size]; exact h.ext.size, fun k hk hmk => ?_⟩, ⟨⟨ms, m1, m2, fun b hb => ⟨(m3 b hb).1, ?_⟩⟩, fun b o hb => ?_⟩, h.size, fun s b hb => ⟨(h.new s b hb).1, by rw [World.putObj_size]; exact (h.new s b hb).2⟩, h.inj, h.pin, fun s => (h.site s).keepC hck, fun t => (h.tmp t).keepC hck⟩
  · rw [World.putObj_heap_other (fun e => hmk (by rw [e]; exact hm))]; exact h.ext.block k hk hmk
  · have := (m3 b hb).2
    rw [World.putObj_heap_other (fun e' => by rw [e', hl] at this; cases this)]; exact this
  · obtain ⟨rfl, rfl⟩ := fixL_some hb
    exact ⟨World.putObj_heap_same hlt, rfl⟩
def putL : List Tmp → List D → St → St
  | p :: ps, d :: ds, s => putL ps ds (s.put (some p) (.d d))
  | _, _, s => s
theorem Hold.putL {c : Cx} : ∀ (ps : List Tmp) (ds : List D) (us : List Value) (s : St) (a : Act), Hold c s a w blk val → RepL w (okOf c blk) ds us → (∀ p ∈ ps, p < s.n) →
    Hold c (Am.putL ps ds s) { a with tmps := (ps.zip us).foldl (fun t (x : Tmp × Value) => t.setIfInBounds x.1 x.2) a.tmps } w blk val
  | [], _, _, _, _, h, _, _ => h
  | p :: ps, [], [], _, _, h, _, _ => h
  | p :: ps, d :: ds, v :: us, s, a, h, hr, hp => by
    have := Hold.putL ps ds us (s.put (some p) (.d d)) (a.put (some p) v) (h.put (some p) (.d d) v (fun k hk => by cases hk; exact hp p (by simp)) hr.1) hr.2 (fun q hq => by show q < s.n; exact hp q (by simp [hq]))
    exact this
  | _ :: _, [], _ :: _, _, _, _, h, _ => h.elim
  | _ :: _, _ :: _, [], _, _, _, h, _ => h.elim
theorem loopSt_loopSt {S S' : Nat → Site} (hv : ∀ k, (S k).isVar = (st.s k).isVar) : loopSt (loopSt st S) S' = loopSt st S' := by
  simp only [loopSt, St.mk.injEq, true_and, and_true]
  funext t
  cases hx : st.t t with
  | ref k o =>
    simp only [loopT]
    cases h : (st.s k).isVar with
    | false => rfl
    | true => simp only [cond_true, loopT, hv k, h]
  | _ => rfl
theorem mfn_inv {ok : Nat → Prop} {f : Fn} {cap : List D} {v : Value} (h : Rep w ok (.mfn f cap) v) : ∃ vs : List Value, v = .func f vs.toArray #[] ∧ RepL w ok cap vs := by
  generalize hd : D.mfn f cap = x at h
  cases h with
  | mfn f cap vs hl hr => cases hd; exact ⟨vs, rfl, RepL.of hl hr⟩
  | _ => cases hd
structure Between (w0 : Cx) (st : St) (a : Act) (w : World) (okD : Nat → Prop) (l k0 : Nat) (r : Loop) (S : Nat → Site) (Y : Nat → Prop) (A : World) : Prop where
  hold : ∃ blk val, HoldY w0 Y (loopSt st S) a A blk val ∧ ∀ g, okD g → okOf w0 blk g ∧ ¬ Y g
  rcd : A.heap[l]? = some (.loop r)
  def_ : A.heap[k0]? = some (.deferred (some []))
  out : ¬ Y l ∧ ¬ Y k0
  size : w.heap.size + 2 ≤ A.heap.size
  data : ∀ g, okD g → A.heap[g]? = w.heap[g]?
def jumpOf : Exit → Option Code
  | .ret => some .ret
  | .exit id => some (.exit id)
  | _ => none
theorem awp_range {α β : Type} {g : Operand} {ps : Array Tmp} {assign body : Code} {R : Exit → St → Prop} {f : FuncId} {pre post : List D} {enc : α → List D} {items : List α} {fin : Bool} (N : Nat) (S : β → Nat → Site) (I : Nat → β → Prop) (X : Exit → β → Prop) (x0 : β)
    (hrnd : w0.rnd = none) (hg : (st.ev g = .d (.mfn (.func f) pre) ∧ post = []) ∨ (st.ev g = .d (.fn (.func f) post) ∧ pre = [])) (he : enB P f = true) (hit : PI P f pre post enc items fin) (hN : Nat.ble st.n N = true) (hps : ∀ y, (enc y).length = ps.size) (hpn : ∀ p ∈ ps.toList, p < st.n) (hfl : ∀ y, ∀ z ∈ enc y, z.Flat)
    (hvar : ∀ x k, (S x k).isVar = (st.s k).isVar) (h0 : I 0 x0) (hs : Le w0 st (loopSt st (S x0))) (hfin : fin = false → ∀ x, ¬ I items.length x)
    (hround : ∀ w1 : Cx, (∀ k b, w1.pin k = some b → (Nat.ble N k && (st.s (k - N)).isVar) = true) → ∀ k x y, I k x → items[k]? = some y → Awp P w1 assign (fun e s => e = .normal ∧ ∀ w2 : Cx, (∀ k b, w2.pin k = some b → (Nat.ble N k && (st.s (k - N)).isVar) = true) → Awp P w2 body (fun e s' => (e = .normal ∧ ∃ x', I (k + 1) x' ∧ Le w2 s' (upSt N (deadSt st (S x')))) ∨ ((jumpOf e).isSome = true ∧ ∃ x', X e x' ∧ Le w2 s' (upSt N (deadSt st (S x'))))) s) (putL ps.toList (enc y) (upSt N (loopSt st (S x)))))
    (hdone : ∀ x, I items.length x → R .normal (loopSt st (S x))) (hstop : ∀ e x, X e x → R e (loopSt st (S x))) : Awp P w0 (.rangeFunc g ps assign body) R st := by
  intro F m hF a w hH
  rw [Nat.ble_eq] at hN
  have hFw : F = Fence.wide := by
    rcases hF.1 with e | ⟨l, e⟩
    · exact e
    · have := hF.2; rw [e, hrnd] at this; cases this
  subst hFw
  obtain ⟨blk0, val0, hh0⟩ := hs a w hH
  obtain ⟨v1, v2, hga, hv1', hv2'⟩ : ∃ v1 v2 : List Value, a.eval g = .func (.func f) v1.toArray v2.toArray ∧ RepL w (okOf w0 blk0) pre v1 ∧ RepL w (okOf w0 blk0) post v2 := by
    have evg : ∀ x, st.ev g = .d x → Rep w (okOf w0 blk0) x (a.eval g) := fun x hx => by
      have h1 := hh0.ev g
      have : (loopSt st (S x0)).ev g = .d x := by
        cases g with
        | tmp t => show loopT st.s (st.t t) = _; rw [show st.t t = _ from hx]; rfl
        | _ => exact hx
      rw [this] at h1; exact h1
    rcases hg with ⟨h1, rfl⟩ | ⟨h1, rfl⟩
    · obtain ⟨vs, h2, h3⟩ := mfn_inv (evg _ h1)
      exact ⟨vs, [], h2, h3, trivial⟩
    · obtain ⟨vs, h2, h3⟩ := fn_inv (evg _ h1)
      exact ⟨[], vs, h2, trivial, h3⟩
  have hlow : ∀ {ds : List D} {vs : List Value}, RepL w (okOf w0 blk0) ds vs → RepL w (fun b => okOf w0 blk0 b ∧ b < w.heap.size) ds vs := fun h => RepL.of h.length fun j d v h1 h2 => (h.get j d v h1 h2).ok fun b hb h => ⟨h, hb⟩
  have hv1 := hlow hv1'
  have hv2 := hlow hv2'
  refine wpIn_rangeFunc ?_
  intro fn hfn
  obtain ⟨rec, hrec⟩ : ∃ rec : LoopState → Option Code → Loop, rec = fun st pe => { state := st, pending := pe, fn, tmps := a.tmps, params := ps, assign, body, defers := w.heap.size } := ⟨_, rfl⟩
  obtain ⟨W1, hW1⟩ : ∃ W1, (w.alloc (.deferred (some []))).alloc (.loop (rec .ready none)) = W1 := ⟨_, rfl⟩
  have hL1 : W1.heap[w.heap.size + 1]? = some (.loop (rec .ready none)) := by
    rw [← hW1]; have := World.alloc_heap_new (w.alloc (.deferred (some []))) (.loop (rec .ready none)); rwa [World.size_alloc] at this
  have hK1 : W1.heap[w.heap.size]? = some (.deferred (some [])) := by
    rw [← hW1]; exact (Below.heap_alloc _ _ _ (by simp)).trans (World.alloc_heap_new w _)
  have hE1 : Ext w W1 := by rw [← hW1]; exact ((Ext.refl w).alloc _).alloc _
  have hs1 : W1.heap.size = w.heap.size + 2 := by rw [← hW1]; simp
  have hJ1 : Between w0 st a w (fun b => okOf w0 blk0 b ∧ b < w.heap.size) (w.heap.size + 1) w.heap.size (rec .ready none) (S x0) (fun _ => False) W1 :=
    ⟨⟨blk0, val0, HoldY.of (hh0.ext' hE1), fun g hg => ⟨hg.1, fun h => h⟩⟩, hL1, hK1, ⟨fun h => h, fun h => h⟩, by omega, fun g hg => hE1.block g hg.2⟩
  refine ⟨w.heap.size + 1, [{ target := .collected w.heap.size, args := #[] }], W1, { target := .fn (.func f) v2.toArray, args := v1.toArray ++ #[.func (.yield (w.heap.size + 1)) #[] #[]] }, W1, f,
    v1.toArray ++ #[.func (.yield (w.heap.size + 1)) #[] #[]] ++ v2.toArray, W1, ?_, ?_, fun _ _ => trivial, ?_, fun h => (by simp [Fence.wide] at h), ?_⟩
  · rw [← hW1, hrec]; exact run_enterLoop_outer _ _ _ _ _
  · simp only [resolve, hga]
    simp [go_sem]
  · simp [invoke, go_sem, run_callFunc he]
  · have hargs : v1.toArray ++ #[Value.func (.yield (w.heap.size + 1)) #[] #[]] ++ v2.toArray = (v1 ++ Value.func (.yield (w.heap.size + 1)) #[] #[] :: v2).toArray := by simp
    rw [hargs]
    refine callsIn_wide.2 (callsIn_wide.1 ((hit w (fun b => okOf w0 blk0 b ∧ b < w.heap.size) v1 v2 hv1 hv2 0 (w.heap.size + 1)
      (fun Y s A => match s with
        | (true, s) => ∃ x, I s.length x ∧ Between w0 st a w (fun b => okOf w0 blk0 b ∧ b < w.heap.size) (w.heap.size + 1) w.heap.size (rec .ready none) (S x) Y A
        | (false, _) => ∃ e c x, jumpOf e = some c ∧ X e x ∧ Between w0 st a w (fun b => okOf w0 blk0 b ∧ b < w.heap.size) (w.heap.size + 1) w.heap.size (rec .done (some c)) (S x) Y A) W1 (fun _ => False) ?_ ?_ ?_ ?_ ⟨x0, h0, hJ1⟩).mono ?_))
    · have step : ∀ (r : Loop) (x : β) (Y : Nat → Prop) (A B : World), Between w0 st a w (fun b => okOf w0 blk0 b ∧ b < w.heap.size) (w.heap.size + 1) w.heap.size r (S x) Y A → A.heap.size ≤ B.heap.size → SameIO A B → (∀ g, g < A.heap.size → ¬ Y g → B.heap[g]? = A.heap[g]?) →
          Between w0 st a w (fun b => okOf w0 blk0 b ∧ b < w.heap.size) (w.heap.size + 1) w.heap.size r (S x) (fun g => Y g ∨ (A.heap.size ≤ g ∧ g < B.heap.size)) B := by
        intro r x Y A B hb hAB hio hsame
        obtain ⟨blk, val, hh, hD⟩ := hb.hold
        have hlA := heap_lt hb.rcd
        have hkA := heap_lt hb.def_
        refine ⟨⟨blk, val, hh.step hAB hio hsame, fun g hg => ⟨(hD g hg).1, fun h => ?_⟩⟩, (hsame _ hlA hb.out.1).trans hb.rcd, (hsame _ hkA hb.out.2).trans hb.def_, ⟨fun h => ?_, fun h => ?_⟩, Nat.le_trans hb.size hAB, fun g hg => ?_⟩
        · rcases h with h | ⟨h, _⟩
          · exact (hD g hg).2 h
          · have := hb.size; have := hg.2; omega
        · rcases h with h | ⟨h, _⟩
          · exact hb.out.1 h
          · omega
        · rcases h with h | ⟨h, _⟩
          · exact hb.out.2 h
          · omega
        · rw [hsame g (by have := hb.size; have := hg.2; omega) (hD g hg).2]; exact hb.data g hg
      rintro Y ⟨go, s⟩ A B hJ hAB hio hsame
      cases go with
      | true => obtain ⟨x, hI, hb⟩ := hJ; exact ⟨x, hI, step _ x Y A B hb hAB hio hsame⟩
      | false => obtain ⟨e, c, x, hc, hX, hb⟩ := hJ; exact ⟨e, c, x, hc, hX, step _ x Y A B hb hAB hio hsame⟩
    · have info : ∀ (r : Loop) (x : β) (Y : Nat → Prop) (A : World), Between w0 st a w (fun b => okOf w0 blk0 b ∧ b < w.heap.size) (w.heap.size + 1) w.heap.size r (S x) Y A →
          w.heap.size ≤ A.heap.size ∧ (∀ g, Y g → g < A.heap.size) ∧ ∀ g, g < w.heap.size → (okOf w0 blk0 g ∧ g < w.heap.size) → A.heap[g]? = w.heap[g]? ∧ ¬ Y g := by
        intro r x Y A hb
        obtain ⟨blk, val, hh, hD⟩ := hb.hold
        exact ⟨by have := hb.size; omega, fun g hg => (hh.newY g hg).2, fun g _ hg => ⟨hb.data g hg, (hD g hg).2⟩⟩
      rintro Y ⟨go, s⟩ A hJ
      cases go with
      | true => obtain ⟨x, hI, hb⟩ := hJ; exact info _ x Y A hb
      | false => obtain ⟨e, c, x, hc, hX, hb⟩ := hJ; exact info _ x Y A hb
    · rintro Y s y us A ⟨x, hI, hb⟩ hpre hus m'
      obtain ⟨blk, val, hh, hD⟩ := hb.hold
      have hul : us.length = ps.size := by rw [RepL.length hus]; exact hps y
      have hy := run_yield (P := P) (args := us.toArray) hb.rcd (by rw [hrec]; simpa using hul)
      rw [hrec] at hy
      have hE : ∀ k b, upB N blk k = some b → blk (k - N) = some b := fun k b hk => by
        simp only [upB] at hk
        cases hb : Nat.ble N k with
        | false => rw [hb] at hk; cases hk
        | true => rw [hb] at hk; exact hk
      have hst : Holds (roundCx w0 Y N (w.heap.size + 1) (rec .ready none) (loopSt st (S x)) A blk) (Am.putL ps.toList (enc y) (upSt N (loopSt st (S x)))) { tmps := (ps.toList.zip us).foldl (fun t (x : Tmp × Value) => t.setIfInBounds x.1 x.2) a.tmps, defers := [] } A :=
        ⟨_, _, Hold.putL ps.toList (enc y) us _ _ (hh.round N (w.heap.size + 1) hN hb.rcd) (RepL.of (RepL.length hus) fun j d v h1 h2 => (RepL.get hus j d v h1 h2).flat (hfl y d (List.mem_of_getElem? h1))) hpn⟩
      have hit' : items[s.length]? = some y := by obtain ⟨t, ht⟩ := hpre; rw [← ht]; simp
      have hact : ({ tmps := (ps.zip us.toArray).foldl (fun tmps (x : Tmp × Value) => tmps.setIfInBounds x.1 x.2) a.tmps, defers := [] } : Act) = { tmps := (ps.toList.zip us).foldl (fun t (x : Tmp × Value) => t.setIfInBounds x.1 x.2) a.tmps, defers := [] } := by
        rw [← Array.foldl_toList, Array.toList_zip]
      have hpins : ∀ k b, (bif Nat.ble N k && ((loopSt st (S x)).s (k - N)).isVar then blk (k - N) else none) = some b → (Nat.ble N k && (st.s (k - N)).isVar) = true := fun k b hk => by
        have e : ((loopSt st (S x)).s (k - N)).isVar = (st.s (k - N)).isVar := hvar x (k - N)
        rw [e] at hk
        cases hb : Nat.ble N k && (st.s (k - N)).isVar with
        | true => rfl
        | false => rw [hb] at hk; cases hk
      refine ⟨fn, _, assign, body, hy, roundIn_of_wpIn hfn (wpIn_mono (show assign.wpIn _ _ P _ ({ tmps := (ps.zip us.toArray).foldl (fun tmps (x : Tmp × Value) => tmps.setIfInBounds x.1 x.2) a.tmps, defers := [] } : Act) A from by rw [hact]; exact hround (roundCx w0 Y N (w.heap.size + 1) (rec .ready none) (loopSt st (S x)) A blk) hpins s.length x y hI hit' (Fence.wide.inRound (w.heap.size + 1)) _ ⟨.inr ⟨_, rfl⟩, rfl⟩ _ _ hst) ?_)⟩
      rintro e a₁ W₁ ⟨s1, ⟨rfl, hw2⟩, blk1, val1, h1⟩
      have hl1 := (h1.defers.fix (w.heap.size + 1) (.loop (rec .ready none)) (by simp [roundCx, fixL])).1
      have h1' := h1.refix (rec .busy none) rfl (.inr rfl)
      refine ⟨_, run_beginRound hl1 (by rw [hrec]), wpIn_mono (hw2 _ hpins (Fence.wide.inRound (w.heap.size + 1)) _ ⟨.inr ⟨_, rfl⟩, rfl⟩ _ _ ⟨_, _, by rw [hrec] at h1' ⊢; exact h1'⟩) ?_⟩
      -- the end of a round, with or without a jump
      have fin_ : ∀ (c1 : Cx), c1 = { roundCx w0 Y N (w.heap.size + 1) (rec .ready none) (loopSt st (S x)) A blk with fix := fixL (w.heap.size + 1) (rec .busy none) } → ∀ (a₂ : Act) (W₂ : World) (s2 : St) (x' : β) (jump : Option Code), Le c1 s2 (upSt N (deadSt st (S x'))) → Holds c1 s2 a₂ W₂ →
          (Instr.endRound (w.heap.size + 1) jump).run P W₂ = .ok (.bool jump.isNone) (W₂.putObj (w.heap.size + 1) (.loop (rec (if jump.isNone then .ready else .done) jump))) ∧
          ∃ B, W₂.putObj (w.heap.size + 1) (.loop (rec (if jump.isNone then .ready else .done) jump)) = B ∧
            Between w0 st a w (fun b => okOf w0 blk0 b ∧ b < w.heap.size) (w.heap.size + 1) w.heap.size (rec (if jump.isNone then .ready else .done) jump) (S x') Y B ∧ A.heap.size ≤ B.heap.size ∧ SameIO A B ∧ ∀ g, Y g → B.heap[g]? = A.heap[g]? := by
        intro c1 hc1 a₂ W₂ s2 x' jump hle hH2
        subst hc1
        obtain ⟨blk2, val2, h2⟩ := hle a₂ W₂ hH2
        have hl2 := (h2.defers.fix (w.heap.size + 1) (.loop (rec .busy none)) (by simp [fixL, hrec])).1
        have h3 := h2.refix (rec (if jump.isNone then .ready else .done) jump) rfl (.inr rfl)
        have hB : (W₂.putObj (w.heap.size + 1) (.loop (rec (if jump.isNone then .ready else .done) jump))).heap[w.heap.size + 1]? = some (.loop (rec (if jump.isNone then .ready else .done) jump)) := World.putObj_heap_same (heap_lt hl2)
        have hrun : (Instr.endRound (w.heap.size + 1) jump).run P W₂ = .ok (.bool jump.isNone) (W₂.putObj (w.heap.size + 1) (.loop (rec (if jump.isNone then .ready else .done) jump))) := by
          have := run_endRound (P := P) jump hl2
          rw [hrec] at this ⊢; exact this
        refine ⟨hrun, _, rfl, ?_⟩
        generalize hBe : W₂.putObj (w.heap.size + 1) (.loop (rec (if jump.isNone then .ready else .done) jump)) = B at h3 hB
        have hsz : A.heap.size ≤ B.heap.size := h3.ext.size
        have hio : SameIO A B := ⟨h3.ext.os, h3.ext.tape, h3.ext.output⟩
        have hfr : ∀ g, g < A.heap.size → (∀ k, blk k ≠ some g) → g ≠ w.heap.size + 1 → B.heap[g]? = A.heap[g]? := fun g hg hnb hgl => h3.ext.block g hg (fun hm => by
          rcases hm with ⟨k, hk⟩ | hk
          · exact hnb k hk
          · exact hgl hk)
        have hnew : ∀ k b, blk2 (N + k) = some b → (∃ j, blk j = some b) ∨ A.heap.size ≤ b := fun k b hb2 => by
          rcases (h3.new _ b hb2).1 with q | q | q
          · exact .inr q
          · exact .inl q
          · exact absurd (by rw [← q]; exact hb2) ((HoldY.of h3).siteNc hB rfl (N + k))
        have hsw : w0.w.heap.size ≤ w.heap.size := hh0.ext.size
        have hback := hh.back (N := N) (l := w.heap.size + 1) (r := rec .ready none) (S := S x') (B := B) h3 hsz hio hfr hb.rcd (by omega) (fun o ho => by have := heap_lt (hh0.defers.fix _ o ho).1; omega)
          (fun k b hv hbk => by
            have e : Nat.ble N (N + k) = true := by rw [Nat.ble_eq]; omega
            show (bif Nat.ble N (N + k) && ((loopSt st (S x)).s (N + k - N)).isVar then blk (N + k - N) else none) = some b
            rw [e, Nat.add_sub_cancel_left, hv]; exact hbk)
          hnew (fun b _ hok => hok.1) (fun k => (hvar x' k).trans (hvar x k).symm)
        rw [loopSt_loopSt (hvar x)] at hback
        have hlA := heap_lt hb.rcd
        refine ⟨⟨⟨_, _, hback, fun g hg => ⟨⟨(hD g hg).1.1, fun k hk => ?_⟩, (hD g hg).2⟩⟩, hB, ?_, hb.out, Nat.le_trans hb.size hsz, fun g hg => ?_⟩, hsz, hio, fun g hg => ?_⟩
        · rcases hnew k g hk with ⟨j, hj⟩ | q
          · exact (hD g hg).1.2 j hj
          · have := hb.size; have := hg.2; omega
        · rw [hfr _ (heap_lt hb.def_) (hh.siteNc hb.def_ rfl) (by omega)]; exact hb.def_
        · rw [hfr g (by have := hb.size; have := hg.2; omega) (hD g hg).1.2 (by have := hg.2; omega)]; exact hb.data g hg
        · exact hfr g (hh.newY g hg).2 (fun k hk => (hh.new k g hk).2.2 hg) (fun e => hb.out.1 (by rw [← e]; exact hg))
      rintro e a₂ W₂ ⟨s2, hend, hH2⟩
      rcases hend with ⟨rfl, x', hI', hle⟩ | ⟨hj, x', hX, hle⟩
      · obtain ⟨hrun, B, hB, h1, h2, h3, h4⟩ := fin_ _ (by rw [hrec]) a₂ W₂ s2 x' none hle hH2
        exact ⟨_, _, hrun, true, rfl, by rw [hB]; exact ⟨x', by rw [List.length_append]; exact hI', h1⟩, by rw [hB]; exact h2, by rw [hB]; exact h3, by rw [hB]; exact h4⟩
      · cases e with
        | ret =>
          obtain ⟨hrun, B, hB, h1, h2, h3, h4⟩ := fin_ _ (by rw [hrec]) a₂ W₂ s2 x' (some .ret) hle hH2
          exact ⟨_, _, hrun, false, rfl, by rw [hB]; exact ⟨.ret, .ret, x', rfl, hX, h1⟩, by rw [hB]; exact h2, by rw [hB]; exact h3, by rw [hB]; exact h4⟩
        | exit id =>
          obtain ⟨hrun, B, hB, h1, h2, h3, h4⟩ := fin_ _ (by rw [hrec]) a₂ W₂ s2 x' (some (.exit id)) hle hH2
          exact ⟨_, _, hrun, false, rfl, by rw [hB]; exact ⟨.exit id, .exit id, x', rfl, hX, h1⟩, by rw [hB]; exact h2, by rw [hB]; exact h3, by rw [hB]; exact h4⟩
        | _ => cases hj
    · rintro hf Y A ⟨x, hI, _⟩
      exact hfin hf x hI
    · have behind : ∀ (W2 : World) (r : Loop) (x : β) (Y : Nat → Prop) (st' : LoopState), Between w0 st a w (fun b => okOf w0 blk0 b ∧ b < w.heap.size) (w.heap.size + 1) w.heap.size r (S x) Y W2 →
          Holds w0 (loopSt st (S x)) { a with defers := { target := .collected w.heap.size, args := #[] } :: a.defers } (W2.putObj (w.heap.size + 1) (.loop { r with state := st' })) := by
        intro W2 r x Y st' hb
        obtain ⟨blk, val, hh, hD⟩ := hb.hold
        refine ⟨blk, val, ?_⟩
        have hlA := heap_lt hb.rcd
        have hck : CK W2 (W2.putObj (w.heap.size + 1) (.loop { r with state := st' })) := ⟨by rw [World.putObj_size]; exact Nat.le_refl _, fun b vals e z hc => by
          rw [World.putObj_heap_other (fun e' => by rw [e', hb.rcd] at hc; cases hc)]; exact hc, fun b es z hc => by
          rw [World.putObj_heap_other (fun e' => by rw [e', hb.rcd] at hc; cases hc)]; exact hc⟩
        have hm := hh.hold
        obtain ⟨⟨ms0, n1, n2, n3⟩, _⟩ := hh0.defers
        obtain ⟨⟨ms, m1, m2, m3⟩, mf⟩ := hm.defers
        have hlt : ∀ b ∈ ms, b < w.heap.size := fun b hb' => by
          have : ({ target := .collected b, args := #[] } : Deferred) ∈ a.defers := by rw [m1]; exact List.mem_map.2 ⟨b, hb', rfl⟩
          rw [n1] at this
          obtain ⟨b', hb2, e⟩ := List.mem_map.1 this
          cases e
          exact heap_lt (n3 b hb2).2
        refine ⟨⟨hm.ext.os, hm.ext.tape, hm.ext.output, by rw [World.putObj_size]; exact hm.ext.size, fun k hk hmk => ?_⟩, ⟨⟨w.heap.size :: ms, ?_, List.nodup_cons.2 ⟨fun h => by have := hlt _ h; omega, m2⟩, fun b hb' => ?_⟩, fun b o hf => ?_⟩, hm.size, fun s b hsb => ⟨(hm.new s b hsb).1, by rw [World.putObj_size]; exact (hm.new s b hsb).2⟩, hm.inj, hm.pin, fun s => (hm.site s).keepC hck, fun t => (hm.tmp t).keepC hck⟩
        · rw [World.putObj_heap_other (by have := hh0.ext.size; omega)]; exact hm.ext.block k hk hmk
        · show _ :: a.defers = _
          rw [m1]; rfl
        · rcases List.mem_cons.1 hb' with rfl | hb'
          · exact ⟨.inl hh0.ext.size, by rw [World.putObj_heap_other (by omega)]; exact hb.def_⟩
          · exact ⟨(m3 b hb').1, by rw [World.putObj_heap_other (by have := hlt b hb'; omega)]; exact (m3 b hb').2⟩
        · refine ⟨?_, (mf b o hf).2⟩
          rw [World.putObj_heap_other (by have := heap_lt (hh0.defers.fix b o hf).1; omega)]; exact (mf b o hf).1
      rintro e W2 ⟨⟨v, rfl⟩, Y, ⟨go, s⟩, hJ, hgo⟩
      cases go with
      | true =>
        obtain ⟨x, hI, hb⟩ := hJ
        have hsi : s = items := hgo rfl
        subst hsi
        refine ⟨none, _, by have := run_endLoop (P := P) hb.rcd (by rw [hrec]; simp); rw [hrec] at this; exact this, ?_⟩
        exact ⟨_, hdone x hI, by have := behind W2 _ x Y .exhausted hb; rw [hrec] at this; exact this⟩
      | false =>
        obtain ⟨e, c, x, hc, hX, hb⟩ := hJ
        refine ⟨some c, _, by have := run_endLoop (P := P) hb.rcd (by rw [hrec]; simp); rw [hrec] at this; exact this, ?_⟩
        have hq : Post w0 R e _ _ := ⟨_, hstop e x hX, by have := behind W2 _ x Y .exhausted hb; rw [hrec] at this; exact this⟩
        cases e with
        | ret => cases hc; exact wpIn_ret hq
        | exit id => cases hc; exact wpIn_exit hq
        | _ => cases hc
end
open Go Go.RowKit

section
variable {P : Program} {α σ : Type} {J : (Nat → Prop) → σ → World → Prop} {c : Cx} {st : St} {a : Act} {w A B : World} {blk : Nat → Option Nat} {val : Nat → Value} {Y : Nat → Prop} {s : σ}

def JStep {σ : Type} (J : (Nat → Prop) → σ → World → Prop) : Prop :=
  ∀ (Y : Nat → Prop) (s : σ) (A B : World), J Y s A → A.heap.size ≤ B.heap.size → SameIO A B → (∀ g, g < A.heap.size → ¬ Y g → B.heap[g]? = A.heap[g]?) → J (fun g => Y g ∨ (A.heap.size ≤ g ∧ g < B.heap.size)) s B
structure HoldI (c : Cx) (Y : Nat → Prop) (st : St) (a : Act) (w : World) (blk : Nat → Option Nat) (val : Nat → Value) : Prop where
  size0 : c.w.heap.size ≤ w.heap.size
  data : ∀ g, c.ok g → g < c.w.heap.size ∧ ¬ Y g ∧ w.heap[g]? = c.w.heap[g]?
  marks : ∃ ms : List Nat, a.defers = ms.map (fun b => { target := .collected b, args := #[] }) ∧ ms.Nodup ∧ ∀ b ∈ ms, Y b ∧ w.heap[b]? = some (.deferred (some []))
  newY : ∀ g, Y g → g < w.heap.size
  size : a.tmps.size = st.n
  new : ∀ s b, blk s = some b → Y b
  inj : ∀ s s' b, blk s = some b → blk s' = some b → s = s'
  site : ∀ s, SiteIn w (fun b => (c.ok b ∨ Y b) ∧ ∀ s, blk s ≠ some b) blk val st.s (blk s) (val s) (st.s s)
  tmp : ∀ t, RepT w (fun b => (c.ok b ∨ Y b) ∧ ∀ s, blk s ≠ some b) blk val st.s (st.t t) (a.tmps.getD t undef)
def Iwp (P : Program) {σ : Type} (J : (Nat → Prop) → σ → World → Prop) (c : Cx) (code : Code) (R : Exit → St → σ → Prop) (st : St) (s : σ) : Prop :=
  ∀ (m : Nat) (Y : Nat → Prop) (a : Act) (w : World) (blk : Nat → Option Nat) (val : Nat → Value), HoldI c Y st a w blk val → J Y s w →
    code.wpIn Fence.wide m P (fun e a' w' => ∃ st' s' Y' blk' val', R e st' s' ∧ HoldI c Y' st' a' w' blk' val' ∧ J Y' s' w') a w
def innerCx (c : Cx) (Y : Nat → Prop) (a : Act) (w : World) (blk : Nat → Option Nat) : Cx :=
  ⟨w, fun b => c.ok b ∨ Y b, fun b => (∃ k, blk k = some b) ∨ ∃ d ∈ a.defers, d.target = .collected b, fun _ => none, fun _ => none, none⟩
theorem HoldI.inner (h : HoldI c Y st a w blk val) : Hold (innerCx c Y a w blk) st a w blk val := by
  obtain ⟨ms, m1, m2, m3⟩ := h.marks
  refine ⟨⟨rfl, rfl, rfl, Nat.le_refl _, fun _ _ _ => rfl⟩, ⟨⟨ms, m1, m2, fun b hb => ⟨.inr (.inr ⟨{ target := .collected b, args := #[] }, by rw [m1]; exact List.mem_map.2 ⟨b, hb, rfl⟩, rfl⟩), (m3 b hb).2⟩⟩, fun b o hb => by cases hb⟩, h.size, fun k b hb => ⟨.inr (.inl ⟨k, hb⟩), h.newY b (h.new k b hb)⟩, h.inj, (fun k b hb => by cases hb), fun k => ?_, fun t => ?_⟩
  · exact (h.site k).keepOk (Nat.le_refl _) (fun _ _ _ h => h) (fun _ _ => rfl) fun b _ hb => ⟨.inl hb.1, hb.2⟩
  · exact (h.tmp t).keepOk (Nat.le_refl _) (fun _ _ _ h => h) fun b _ hb => ⟨.inl hb.1, hb.2⟩
theorem HoldI.mineOk (hh : HoldI c Y st a w blk val) : ∀ b, (innerCx c Y a w blk).mine b → (innerCx c Y a w blk).ok b := fun b hb => .inr (by
  rcases hb with ⟨k, hk⟩ | ⟨d, hd, hdb⟩
  · exact hh.new k b hk
  · obtain ⟨ms, m1, m2, m3⟩ := hh.marks
    rw [m1] at hd
    obtain ⟨b', hb', rfl⟩ := List.mem_map.1 hd
    cases hdb
    exact (m3 b hb').1)
theorem iwp_lift {code : Code} {R : Exit → St → Prop} {R' : Exit → St → σ → Prop} (hJ : JStep J) (h : ∀ c', (∀ b, c'.mine b → c'.ok b) → c'.rnd = none → Awp P c' code R st) (hR : ∀ e st', R e st' → R' e st' s) : Iwp P J c code R' st s := by
  intro m Y a w blk val hh hj
  refine wpIn_mono (h (innerCx c Y a w blk) hh.mineOk rfl Fence.wide m ⟨.inl rfl, rfl⟩ a w ⟨blk, val, hh.inner⟩) ?_
  rintro e a' w' ⟨st', hr, blk', val', hk⟩
  have mineY : ∀ b, (innerCx c Y a w blk).mine b → Y b := fun b hb => by
    rcases hb with ⟨k, hk⟩ | ⟨d, hd, hdb⟩
    · exact hh.new k b hk
    · obtain ⟨ms, m1, m2, m3⟩ := hh.marks
      rw [m1] at hd
      obtain ⟨b', hb', rfl⟩ := List.mem_map.1 hd
      cases hdb
      exact (m3 b hb').1
  have hs : w.heap.size ≤ w'.heap.size := hk.ext.size
  have hsame : ∀ g, g < w.heap.size → ¬ Y g → w'.heap[g]? = w.heap[g]? := fun g hg hY => hk.ext.block g hg fun hm => hY (mineY g hm)
  have hours : ∀ b, b < w'.heap.size → Ours (innerCx c Y a w blk) b → Y b ∨ (w.heap.size ≤ b ∧ b < w'.heap.size) := fun b hb ho => by
    rcases ho with q | q
    · exact .inr ⟨q, hb⟩
    · exact .inl (mineY b q)
  have hok : ∀ b, b < w'.heap.size → okOf (innerCx c Y a w blk) blk' b → (c.ok b ∨ (Y b ∨ (w.heap.size ≤ b ∧ b < w'.heap.size))) ∧ ∀ s, blk' s ≠ some b := fun b hb ho => ⟨by
    rcases ho.1 with (q | q) | q
    · exact .inl q
    · exact .inr (.inl q)
    · exact .inr (.inr ⟨q, hb⟩), ho.2⟩
  refine ⟨st', s, fun g => Y g ∨ (w.heap.size ≤ g ∧ g < w'.heap.size), blk', val', hR e st' hr, ⟨Nat.le_trans hh.size0 hs, fun g hg => ?_, ?_, fun g hg => ?_, hk.size, fun k b hb => hours b (hk.new k b hb).2 (hk.new k b hb).1, hk.inj, fun k => ?_, fun t => ?_⟩, hJ Y s w w' hj hs ⟨hk.ext.os, hk.ext.tape, hk.ext.output⟩ hsame⟩
  · obtain ⟨d1, d2, d3⟩ := hh.data g hg
    refine ⟨d1, fun hY => ?_, ?_⟩
    · rcases hY with q | ⟨q, _⟩
      · exact d2 q
      · have := hh.size0; omega
    · rw [hsame g (Nat.lt_of_lt_of_le d1 hh.size0) d2]; exact d3
  · obtain ⟨ms, m1, m2, m3⟩ := hk.defers.marks
    exact ⟨ms, m1, m2, fun b hb => ⟨hours b (heap_lt (m3 b hb).2) (m3 b hb).1, (m3 b hb).2⟩⟩
  · rcases hg with hg | hg
    · exact Nat.lt_of_lt_of_le (hh.newY g hg) hs
    · exact hg.2
  · exact (hk.site k).keepOk (Nat.le_refl _) (fun _ _ _ h => h) (fun _ _ => rfl) hok
  · exact (hk.tmp t).keepOk (Nat.le_refl _) (fun _ _ _ h => h) hok
theorem iwp_skip {R : Exit → St → σ → Prop} (h : R .normal st s) : Iwp P J c .skip R st s := fun _ _ _ _ _ _ hh hj => wpIn_skip ⟨st, s, _, _, _, h, hh, hj⟩
theorem iwp_ret {R : Exit → St → σ → Prop} (h : R .ret st s) : Iwp P J c .ret R st s := fun _ _ _ _ _ _ hh hj => wpIn_ret ⟨st, s, _, _, _, h, hh, hj⟩
theorem iwp_exit {id : Nat} {R : Exit → St → σ → Prop} (h : R (.exit id) st s) : Iwp P J c (.exit id) R st s := fun _ _ _ _ _ _ hh hj => wpIn_exit ⟨st, s, _, _, _, h, hh, hj⟩
theorem iwp_seq {x y : Code} {R : Exit → St → σ → Prop} (h : Iwp P J c x (fun e st' s' => match e with | .normal => Iwp P J c y R st' s' | e => R e st' s') st s) : Iwp P J c (.seq x y) R st s := fun m Y a w blk val hh hj =>
  wpIn_seq (wpIn_mono (h m Y a w blk val hh hj) fun e a' w' ⟨st', s', Y', blk', val', hR, hh', hj'⟩ => by
    cases e with
    | normal => exact hR m Y' a' w' blk' val' hh' hj'
    | _ => exact ⟨st', s', Y', blk', val', hR, hh', hj'⟩)
theorem iwp_cond {y : Operand} {x z : Code} {R : Exit → St → σ → Prop} {b : Bool} (hc : st.ev y = T.bool b) (ht : b = true → Iwp P J c x R st s) (hf : b = false → Iwp P J c z R st s) : Iwp P J c (.cond y x z) R st s := by
  intro m Y a w blk val hh hj
  have hv : a.eval y = .bool b := hh.inner.bool hc
  exact wpIn_cond_split hv (fun h => ht h m Y a w blk val hh hj) (fun h => hf h m Y a w blk val hh hj)
theorem iwp_block {id : Nat} {x : Code} {R : Exit → St → σ → Prop} (h : Iwp P J c x (fun e st' s' => match e with | .exit id' => if id' = id then R .normal st' s' else R (.exit id') st' s' | e => R e st' s') st s) : Iwp P J c (.block id x) R st s := fun m Y a w blk val hh hj =>
  wpIn_block (wpIn_mono (h m Y a w blk val hh hj) fun e a' w' ⟨st', s', Y', blk', val', hR, hh', hj'⟩ => by
    cases e with
    | exit id' =>
      by_cases hid : id' = id
      · simp only [hid, if_true] at hR
        simp only [Exit.inBlock, hid, if_true]
        exact ⟨st', s', Y', blk', val', hR, hh', hj'⟩
      · simp only [hid, if_false] at hR
        simp only [Exit.inBlock, hid, if_false]
        exact ⟨st', s', Y', blk', val', hR, hh', hj'⟩
    | _ => exact ⟨st', s', Y', blk', val', hR, hh', hj'⟩)
theorem HoldI.le {st' : St} (h : HoldI c Y st a w blk val) (hl : ∀ c', (∀ b, c'.mine b → c'.ok b) → Le c' st st') : ∃ blk' val', HoldI c Y st' a w blk' val' := by
  obtain ⟨blk', val', hk⟩ := hl (innerCx c Y a w blk) h.mineOk a w ⟨_, _, h.inner⟩
  have hok : ∀ b, b < w.heap.size → okOf (innerCx c Y a w blk) blk' b → (c.ok b ∨ Y b) ∧ ∀ s, blk' s ≠ some b := fun b hb ho => ⟨by
    rcases ho.1 with q | q
    · exact q
    · have : w.heap.size ≤ b := q
      omega, ho.2⟩
  refine ⟨blk', val', h.size0, h.data, h.marks, h.newY, hk.size, fun k b hb => ?_, hk.inj, fun k => (hk.site k).keepOk (Nat.le_refl _) (fun _ _ _ h => h) (fun _ _ => rfl) hok, fun t => (hk.tmp t).keepOk (Nat.le_refl _) (fun _ _ _ h => h) hok⟩
  obtain ⟨n1, n2⟩ := hk.new k b hb
  rcases n1 with q | q | ⟨d, hd, hdb⟩
  · have : w.heap.size ≤ b := q
    omega
  · obtain ⟨j, hj⟩ := q
    exact h.new j b hj
  · obtain ⟨ms, m1, m2, m3⟩ := h.marks
    rw [m1] at hd
    obtain ⟨b', hb', rfl⟩ := List.mem_map.1 hd
    cases hdb
    exact (m3 b hb').1
theorem iwp_loop {β : Type} {x : Code} {R : Exit → St → σ → Prop} (Fs : β → St) (L : β → σ) (I : β → Prop) (μ : β → Nat) (x0 : β) (h0 : I x0) (hl : ∀ c', (∀ b, c'.mine b → c'.ok b) → Le c' st (Fs x0)) (hL : L x0 = s)
    (hr : ∀ y, I y → Iwp P J c x (fun e st' s' => match e with | .normal => ∃ y', I y' ∧ μ y' < μ y ∧ s' = L y' ∧ ∀ c', (∀ b, c'.mine b → c'.ok b) → Le c' st' (Fs y') | e => R e st' s') (Fs y) (L y)) : Iwp P J c (.loop x) R st s := by
  intro m Y a w blk val hh hj b k cs hro hb hrm
  have key : ∀ (n : Nat) (y : β), μ y = n → I y → ∀ (Y : Nat → Prop) (a : Act) (w : World) (blk : Nat → Option Nat) (val : Nat → Value), HoldI c Y (Fs y) a w blk val → J Y (L y) w →
      ∃ e a' w', (∃ st' s' Y' blk' val', R e st' s' ∧ HoldI c Y' st' a' w' blk' val' ∧ J Y' s' w') ∧ ArrivesIn (Machine.fenced P Fence.wide) P (lone (b.atR a (.code x :: .inLoop x :: k)) cs w) b k cs e a' w' := by
    intro n
    induction n using Nat.strongRecOn with
    | _ n ih =>
      intro y hy hI Y a w blk val hh hj
      obtain ⟨e, a1, w1, ⟨st', s', Y', blk', val', hR, hh', hj'⟩, harr⟩ := hr y hI m Y a w blk val hh hj b (.inLoop x :: k) cs hro hb hrm
      cases e with
      | normal =>
        obtain ⟨y', hI', hlt, rfl, hle⟩ := hR
        obtain ⟨blk2, val2, hh2⟩ := hh'.le hle
        obtain ⟨e2, a2, w2, hq, harr2⟩ := ih (μ y') (by omega) y' rfl hI' Y' a1 w1 blk2 val2 hh2 hj'
        exact ⟨e2, a2, w2, hq, .of_steps (StepsIn.trans harr (.one (fenced_calm hb hrm rfl) stepR_inLoop)) harr2⟩
      | exit id => exact ⟨_, a1, w1, ⟨st', s', Y', blk', val', hR, hh', hj'⟩, .pass (x := .inLoop x) rfl (fun _ _ => .inl (by simp)) harr⟩
      | goto l => exact ⟨_, a1, w1, ⟨st', s', Y', blk', val', hR, hh', hj'⟩, .pass (x := .inLoop x) rfl (fun _ _ => .inl (by simp)) harr⟩
      | ret => exact ⟨_, a1, w1, ⟨st', s', Y', blk', val', hR, hh', hj'⟩, .pass (x := .inLoop x) rfl (fun _ _ => .inl (by simp)) harr⟩
      | panic ch => exact ⟨_, a1, w1, ⟨st', s', Y', blk', val', hR, hh', hj'⟩, .pass (x := .inLoop x) rfl (fun _ _ => .inl (by simp)) harr⟩
      | outgrown => exact ⟨_, a1, w1, ⟨st', s', Y', blk', val', hR, hh', hj'⟩, .pass (x := .inLoop x) rfl (fun _ _ => .inl (by simp)) harr⟩
  obtain ⟨blk0, val0, hh0⟩ := hh.le hl
  obtain ⟨e, a', w', hq, harr⟩ := key _ x0 rfl h0 Y a w blk0 val0 hh0 (by rw [hL]; exact hj)
  exact ⟨e, a', w', hq, .of_steps (.one (fenced_calm hb hrm rfl) stepR_loop) harr⟩
theorem HoldI.after {st' : St} {a' : Act} {w' : World} {blk' : Nat → Option Nat} {val' : Nat → Value} (hJ : JStep J) (hh : HoldI c Y st a w blk val) (hj : J Y s w) (hk : Hold (innerCx c Y a w blk) st' a' w' blk' val') : ∃ Y', HoldI c Y' st' a' w' blk' val' ∧ J Y' s w' := by
  have mineY : ∀ b, (innerCx c Y a w blk).mine b → Y b := fun b hb => by
    rcases hb with ⟨k, hk⟩ | ⟨d, hd, hdb⟩
    · exact hh.new k b hk
    · obtain ⟨ms, m1, m2, m3⟩ := hh.marks
      rw [m1] at hd
      obtain ⟨b', hb', rfl⟩ := List.mem_map.1 hd
      cases hdb
      exact (m3 b hb').1
  have hs : w.heap.size ≤ w'.heap.size := hk.ext.size
  have hsame : ∀ g, g < w.heap.size → ¬ Y g → w'.heap[g]? = w.heap[g]? := fun g hg hY => hk.ext.block g hg fun hm => hY (mineY g hm)
  have hours : ∀ b, b < w'.heap.size → Ours (innerCx c Y a w blk) b → Y b ∨ (w.heap.size ≤ b ∧ b < w'.heap.size) := fun b hb ho => by
    rcases ho with q | q
    · exact .inr ⟨q, hb⟩
    · exact .inl (mineY b q)
  have hok : ∀ b, b < w'.heap.size → okOf (innerCx c Y a w blk) blk' b → (c.ok b ∨ (Y b ∨ (w.heap.size ≤ b ∧ b < w'.heap.size))) ∧ ∀ s, blk' s ≠ some b := fun b hb ho => ⟨by
    rcases ho.1 with (q | q) | q
    · exact .inl q
    · exact .inr (.inl q)
    · exact .inr (.inr ⟨q, hb⟩), ho.2⟩
  refine ⟨fun g => Y g ∨ (w.heap.size ≤ g ∧ g < w'.heap.size), ⟨Nat.le_trans hh.size0 hs, fun g hg => ?_, ?_, fun g hg => ?_, hk.size, fun k b hb => hours b (hk.new k b hb).2 (hk.new k b hb).1, hk.inj, fun k => ?_, fun t => ?_⟩, hJ Y s w w' hj hs ⟨hk.ext.os, hk.ext.tape, hk.ext.output⟩ hsame⟩
  · obtain ⟨d1, d2, d3⟩ := hh.data g hg
    refine ⟨d1, fun hY => ?_, ?_⟩
    · rcases hY with q | ⟨q, _⟩
      · exact d2 q
      · have := hh.size0; omega
    · rw [hsame g (Nat.lt_of_lt_of_le d1 hh.size0) d2]; exact d3
  · obtain ⟨ms, m1, m2, m3⟩ := hk.defers.marks
    exact ⟨ms, m1, m2, fun b hb => ⟨hours b (heap_lt (m3 b hb).2) (m3 b hb).1, (m3 b hb).2⟩⟩
  · rcases hg with hg | hg
    · exact Nat.lt_of_lt_of_le (hh.newY g hg) hs
    · exact hg.2
  · exact (hk.site k).keepOk (Nat.le_refl _) (fun _ _ _ h => h) (fun _ _ => rfl) hok
  · exact (hk.tmp t).keepOk (Nat.le_refl _) (fun _ _ _ h => h) hok
def Iops (P : Program) {σ : Type} (J : (Nat → Prop) → σ → World → Prop) (c : Cx) (ops rest : List Oper) (R : Exit → St → σ → Prop) (st : St) (s : σ) : Prop :=
  ∀ (m : Nat) (Y : Nat → Prop) (a : Act) (w : World) (blk : Nat → Option Nat) (val : Nat → Value), HoldI c Y st a w blk val → J Y s w →
    wpListIn Fence.wide m P ops.toArray (fun e a' w' => ∃ st' s' Y' blk' val', R e st' s' ∧ HoldI c Y' st' a' w' blk' val' ∧ J Y' s' w') rest a w
theorem iops_nil {ops : List Oper} {R : Exit → St → σ → Prop} (h : R .normal st s) : Iops P J c ops [] R st s := fun _ _ _ _ _ _ hh hj => ⟨st, s, _, _, _, h, hh, hj⟩
theorem iops_step {ops rest : List Oper} {o : Oper} {st' : St} {R : Exit → St → σ → Prop} (hJ : JStep J) (hg : o.guard = none) (h : ∀ c', StepOp P c' st o st') (hr : Iops P J c ops rest R st' s) : Iops P J c ops (o :: rest) R st s := by
  intro m Y a w blk val hh hj
  unfold wpListIn
  rw [if_pos (by simp [Region.wanted, hg])]
  refine (h (innerCx c Y a w blk) a w ⟨blk, val, hh.inner⟩).to ⟨.inl rfl, rfl⟩ fun a' w' ⟨blk', val', hk⟩ => ?_
  obtain ⟨Y', h1, h2⟩ := hh.after hJ hj hk
  exact hr m Y' a' w' blk' val' h1 h2
theorem iwp_region {l : List Oper} {id : Nat} {R : Exit → St → σ → Prop} (h : Iops P J c l l R st s) : Iwp P J c (.region id l.toArray false) R st s := fun m Y a w blk val hh hj => wpIn_region_lit (h m Y a w blk val hh hj)
def JYield (P : Program) {α : Type} (J : (Nat → Prop) → Bool × List α → World → Prop) (l : Nat) (ok : Nat → Prop) (enc : α → List D) (items : List α) : Prop :=
  ∀ (Y : Nat → Prop) (s : List α) (x : α) (us : List Value) (A : World), J Y (true, s) A → (s ++ [x]) <+: items → RepL A (fun b => ok b ∨ Y b) (enc x) us → ∀ m, YieldAt Fence.wide m P l us.toArray A fun e B =>
    ∃ b, e = .returned (.bool b) ∧ J Y (b, s ++ [x]) B ∧ A.heap.size ≤ B.heap.size ∧ SameIO A B ∧ ∀ g, Y g → B.heap[g]? = A.heap[g]?
theorem iops_yield {J : (Nat → Prop) → Bool × List α → World → Prop} {ops rest : List Oper} {R : Exit → St → Bool × List α → Prop} {s : List α} {l : Nat} {enc : α → List D} {items : List α} {x : α} {d : Nat} {fv : Operand} {ys : List Operand} {at_ : Array TypeId} {ty : TypeId} {pos : String} {after : Array Edge}
    (hy : JYield P J l c.ok enc items) (hdat : ∀ (Y : Nat → Prop) (t : Bool × List α) (B : World), J Y t B → (∀ g, Y g → g < B.heap.size) ∧ ∀ g, c.ok g → B.heap[g]? = c.w.heap[g]?) (hfv : st.ev fv = .d (.fn (.yield l) [])) (ha : ArgsD st.ev ys (enc x)) (hpre : (s ++ [x]) <+: items) (hd : Nat.blt d st.n = true)
    (h : ∀ b, Iops P J c ops rest R (st.put (some d) (T.bool b)) (b, s ++ [x])) : Iops P J c ops (⟨some d, .call ⟨.value fv, ys.toArray, at_⟩, ty, pos, after, none⟩ :: rest) R st (true, s) := by
  intro m Y a w blk val hh hj
  rw [Nat.blt_eq] at hd
  unfold wpListIn
  rw [if_pos (by simp [Region.wanted])]
  have hin := hh.inner
  obtain ⟨vs, hv, hvs⟩ := fn_inv (show Rep w _ (.fn (.yield l) []) (a.eval fv) from by have := hin.ev fv; rw [hfv] at this; exact this)
  have hvn : vs = [] := List.length_eq_zero_iff.1 (by rw [RepL.length hvs]; rfl)
  subst hvn
  have hargs : RepL w _ (enc x) (ys.map a.eval) := args_rep (fun y => hin.ev y) ha
  have hargs' : RepL w (fun b => c.ok b ∨ Y b) (enc x) (ys.map a.eval) := RepL.of (RepL.length hargs) fun j z v h1 h2 => (RepL.get hargs j z v h1 h2).ok fun b hb ho => by
    rcases ho.1 with q | q
    · exact q
    · have : w.heap.size ≤ b := q
      omega
  obtain ⟨fn, tmps, assign, body, hrun, hR⟩ := hy Y s x _ w hj hpre hargs' (m - 1)
  refine ⟨fun f _ => trivial, ?_⟩
  rw [Oper.semAt_eq _ _ _ (fun c hc => by cases hc)]
  have hex : (execOp a.eval ⟨some d, .call ⟨.value fv, ys.toArray, at_⟩, ty, pos, after, none⟩).run P w = .ok (.round l fn tmps assign body) w := by
    simp [execOp, resolve, hv, Deferred.ofValue, invoke]
    exact hrun
  rw [hex]
  refine ⟨fun hdp => by simp [Fence.wide] at hdp, hR.mono ?_⟩
  rintro e B ⟨b, rfl, hJ', hs, hio, hsame⟩
  obtain ⟨hY1, hD1⟩ := hdat Y _ B hJ'
  have hA : ∀ (b : Nat) (o : Obj), ((c.ok b ∨ Y b) ∧ ∀ s, blk s ≠ some b) → w.heap[b]? = some o → B.heap[b]? = some o := fun b o hb ho => by
    rcases hb.1 with q | q
    · rw [hD1 b q, ← (hh.data b q).2.2]; exact ho
    · rw [hsame b q]; exact ho
  obtain ⟨ms, m1, m2, m3⟩ := hh.marks
  refine h b m Y _ B blk val ⟨Nat.le_trans hh.size0 hs, fun g hg => ⟨(hh.data g hg).1, (hh.data g hg).2.1, hD1 g hg⟩, ⟨ms, m1, m2, fun b hb => ⟨(m3 b hb).1, by rw [hsame b (m3 b hb).1]; exact (m3 b hb).2⟩⟩, hY1, by simpa [Act.put, St.put] using hh.size, hh.new, hh.inj, fun k => (hh.site k).keepOk hs hA (fun b hb => hsame b (hh.new k b hb)) fun _ _ h => h, fun t => ?_⟩ hJ'
  rw [put_getD a d _ t (by rw [hh.size]; exact hd)]
  by_cases htd : t = d
  · subst htd
    simp only [St.put, Nat.beq_refl, cond_true, if_true]
    exact Rep.v _ rfl
  · have hb : Nat.beq t d = false := by rw [← Bool.not_eq_true]; exact fun e => htd (Nat.eq_of_beq_eq_true e)
    simp only [St.put, hb, cond_false, htd, if_false]
    exact (hh.tmp t).keepOk hs hA fun _ _ h => h
theorem Iwp.le {code : Code} {R : Exit → St → σ → Prop} {st' : St} (hl : ∀ c', (∀ b, c'.mine b → c'.ok b) → Le c' st st') (h : Iwp P J c code R st' s) : Iwp P J c code R st s := fun m Y a w blk val hh hj => by
  obtain ⟨blk', val', hh'⟩ := hh.le hl
  exact h m Y a w blk' val' hh' hj
theorem iwp_reg {code : Code} {R : Exit → St → σ → Prop} {S : St} (hJ : JStep J) (h : ∀ c', (∀ b, c'.mine b → c'.ok b) → c'.rnd = none → Awp P c' code (fun e st' => e = .normal ∧ st' = S) st) (k : R .normal S s) : Iwp P J c code R st s :=
  iwp_lift hJ h fun e st' ⟨h1, h2⟩ => by subst h1; subst h2; exact k
theorem iops_of {ops rest : List Oper} {o : Oper} {st' : St} {R : Exit → St → σ → Prop} (hJ : JStep J) (hg : o.guard = none) (h : ∀ (c' : Cx) (ops rest : List Oper) (R : Exit → St → Prop), Aops P c' ops rest R st' → Aops P c' ops (o :: rest) R st) (hr : Iops P J c ops rest R st' s) : Iops P J c ops (o :: rest) R st s :=
  iops_step hJ hg (fun c' => step_of_aops hg fun ops rest R => h c' ops rest R) hr
theorem iwp_loopH {x : Code} {R : Exit → St → σ → Prop} {β : Type} (ts ms : List Nat) (sl : β → List (Nat × T)) (ss : β → List (Nat × Site)) (L : β → σ) (I : β → Prop) (μ : β → Nat) (x0 : β) (h0 : I x0) (hL : L x0 = s)
    (hl : ∀ c', Le c' st (headSt st ts (sl x0) (ss x0)))
    (hr : ∀ y, I y → Iwp P J c x (fun e st' s' => match e with | .normal => ∃ y', I y' ∧ μ y' < μ y ∧ s' = L y' ∧ ∀ c', Le c' st' (headSt st ts (sl y') (ss y')) | e => R e st' s') (headSt st ts (sl y) (ss y)) (L y)) : Iwp P J c (.loop x) R st s :=
  iwp_loop (fun y => headSt st ts (sl y) (ss y)) L I μ x0 h0 (fun c' _ => hl c') hL fun y hy m Y a w blk val hh hj => wpIn_mono (hr y hy m Y a w blk val hh hj) fun e a' w' ⟨st', s', Y', blk', val', hR, hh', hj'⟩ => ⟨st', s', Y', blk', val', by
    cases e with
    | normal => obtain ⟨y', h1, h2, h3, h4⟩ := hR; exact ⟨y', h1, h2, h3, fun c' _ => h4 c'⟩
    | _ => exact hR, hh', hj'⟩
theorem pi_of_iwp {f : FuncId} {fn : Func} {code : Code} {n : Nat} {pre post : List D} {enc : α → List D} {items : List α} {fin : Bool} (hf : P.funcs[f]? = some fn) (hb : fn.body = some code) (hn : fn.ntmps = n) (hrs : fn.results = #[]) (hl : Nat.ble (pre.length + 1 + post.length) n = true)
    (h : ∀ (J : (Nat → Prop) → Bool × List α → World → Prop) (c : Cx) (l : Nat), JStep J → JYield P J l c.ok enc items → (∀ (Y : Nat → Prop) (t : Bool × List α) (B : World), J Y t B → (∀ g, Y g → g < B.heap.size) ∧ ∀ g, c.ok g → B.heap[g]? = c.w.heap[g]?) → (fin = false → ∀ (Y : Nat → Prop) (A : World), ¬ J Y (true, items) A) →
      Iwp P J c code (fun e _ s => (e = .ret ∨ e = .normal) ∧ (s.1 = true → s.2 = items)) (startSt n (pre ++ D.fn (.yield l) [] :: post)) (true, [])) : PI P f pre post enc items fin := by
  rw [Nat.ble_eq] at hl
  intro w ok v1 v2 hv1 hv2 m l J W Y0 hJ hinfo hyield hfin h0
  obtain ⟨s0, y0, d0⟩ := hinfo _ _ _ h0
  refine callsIn_of_wp_marks hf hb trivial ?_ rfl
  have hlow : ∀ {ds : List D} {vs : List Value}, RepL w ok ds vs → RepL W (fun b => (ok b ∧ b < w.heap.size) ∨ Y0 b) ds vs := fun h => RepL.of h.length fun j d v h1 h2 => ((h.get j d v h1 h2).ok (ok' := fun b => ok b ∧ b < w.heap.size) fun b hb h => ⟨h, hb⟩).keep s0 (fun b o hb ho => by rw [(d0 b hb.2 hb.1).1]; exact ho) fun b hb h => .inl h
  have hargs : RepL W (fun b => (ok b ∧ b < w.heap.size) ∨ Y0 b) (pre ++ D.fn (.yield l) [] :: post) (v1 ++ Value.func (.yield l) #[] #[] :: v2) :=
    (hlow hv1).append ⟨Rep.fn (.yield l) [] [] rfl (fun j d v h => by simp at h), hlow hv2⟩
  generalize hvs : v1 ++ Value.func (.yield l) #[] #[] :: v2 = vs at hargs ⊢
  obtain ⟨c, hc⟩ : ∃ c : Cx, c = ⟨w, fun b => ok b ∧ b < w.heap.size, fun _ => False, fun _ => none, fun _ => none, none⟩ := ⟨_, rfl⟩
  have hcw : c.w = w := by rw [hc]
  have hcok : ∀ b, c.ok b ↔ (ok b ∧ b < w.heap.size) := fun b => by rw [hc]
  have hst : HoldI c Y0 (startSt n (pre ++ D.fn (.yield l) [] :: post)) { tmps := vs.toArray ++ Array.replicate (fn.ntmps - vs.toArray.size) undef, defers := [] } W (fun _ => none) (fun _ => undef) := by
    refine ⟨by rw [hcw]; exact s0, fun g hg => ?_, ⟨[], rfl, .nil, fun b hb => by cases hb⟩, y0, ?_, fun s b h => (by cases h), fun s s' b h => (by cases h), fun s => rfl, fun t => ?_⟩
    · obtain ⟨h1, h2⟩ := (hcok g).1 hg
      rw [hcw]
      exact ⟨h2, (d0 g h2 h1).2, (d0 g h2 h1).1⟩
    · have := hargs.length
      simp at this
      simp [startSt, hn]; omega
    · have := argT_rep (blk := fun _ => none) (val := fun _ => undef) (s := fun _ => Site.no) (fn.ntmps - vs.toArray.size) (RepL.of (ok := fun b => (c.ok b ∨ Y0 b) ∧ ∀ s : Nat, (none : Option Nat) ≠ some b) hargs.length fun j d v h1 h2 => (hargs.get j d v h1 h2).ok fun b _ hb => ⟨hb.imp (hcok b).2 id, fun s h => by cases h⟩) t
      have e : (vs.toArray ++ Array.replicate (fn.ntmps - vs.toArray.size) undef) = (vs ++ List.replicate (fn.ntmps - vs.toArray.size) undef).toArray := by simp
      show RepT _ _ _ _ _ _ ((vs.toArray ++ Array.replicate (fn.ntmps - vs.toArray.size) undef).getD t undef)
      rw [e, Array.getD_eq_getD_getElem?, List.getElem?_toArray, ← List.getD_eq_getElem?_getD]
      exact this
  refine wpIn_mono (h J c l hJ (fun Y s x us A hj hp hr m' => hyield Y s x us A hj hp (RepL.of hr.length fun j d v h1 h2 => (hr.get j d v h1 h2).ok fun b _ hb => hb.imp (fun q => ((hcok b).1 q).1) id) m')
    (fun Y t B hj => by
      obtain ⟨_, q2, q3⟩ := hinfo Y t B hj
      refine ⟨q2, fun g hg => ?_⟩
      obtain ⟨h1, h2⟩ := (hcok g).1 hg
      rw [hcw]
      exact (q3 g h2 h1).1) hfin (m + 1) Y0 _ W _ _ hst h0) fun e a w' ⟨st', s', Y', blk', val', hR, hH, hj⟩ => ?_
  have fin_ : LeavesInM Fence.wide (m + 1) P fn a.tmps (fun e B => (∃ v, e = .returned v) ∧ ∃ Y s, J Y s B ∧ (s.1 = true → s.2 = items)) a.defers .returning w' := by
    obtain ⟨ms, m1, m2, m3⟩ := hH.marks
    rw [m1]
    obtain ⟨k1, k2, k3, k4, k5, k6⟩ := shut_ck ms w' m2 fun b hb => (m3 b hb).2
    refine shut_leaves ms w' m2 (fun b hb => (m3 b hb).2) ⟨.tuple #[], ?_, ⟨_, rfl⟩, _, s', hJ Y' s' w' (shut ms w') hj (by rw [k2]; exact Nat.le_refl _) ⟨k3, k4, k5⟩ (fun g _ hg => k6 g fun hm => hg (m3 g hm).1), hR.2⟩
    simp [results, hrs]
  cases e with
  | normal => exact fin_
  | ret => exact fin_
  | exit id => rcases hR.1 with q | q <;> cases q
  | goto l => rcases hR.1 with q | q <;> cases q
  | panic c => rcases hR.1 with q | q <;> cases q
  | outgrown => rcases hR.1 with q | q <;> cases q
end
open Go Go.RowKit

def tmpOf (sl : List (Nat × T)) (t : Nat) : T := match lookN t sl with | some x => x | none => .dead
def siteOf (ss : List (Nat × Site)) (k : Nat) : Site := match lookN k ss with | some x => x | none => .no
def cSt (n : Nat) (sl : List (Nat × T)) (ss : List (Nat × Site)) : St := { n := n, t := tmpOf sl, s := siteOf ss }
def renN (ren : List (Nat × Nat)) (k : Nat) : Nat := match lookN k ren with | some j => j | none => k
def hasK {α : Type} (k : Nat) (ss : List (Nat × α)) : Bool := match lookN k ss with | some _ => true | none => false
def refK (ss : List (Nat × Site)) : T → Bool
  | .ref k _ => hasK k ss
  | .rs k => hasK k ss
  | .own k _ _ _ => hasK k ss
  | _ => true
def siteK (ss : List (Nat × Site)) : Site → Bool
  | .tbox cs => cs.all (refK ss)
  | _ => true
def memK (k : Nat) (g : Nat → Nat) : List (Nat × Site) → Bool
  | [] => false
  | p :: ps => Nat.beq k (g p.1) || memK k g ps
def nodupK (g : Nat → Nat) : List (Nat × Site) → Bool
  | [] => true
  | p :: ps => !memK (g p.1) g ps && nodupK g ps
def cOk (g : Nat → Nat) (sl : List (Nat × T)) (ss : List (Nat × Site)) : Bool := sl.all (fun p => refK ss p.2) && ss.all (fun p => siteK ss p.2) && nodupK g ss
def AllTG (s : St) (g : Nat → Nat) : List (Nat × T) → Prop
  | [] => True
  | p :: ps => s.t p.1 = shiftT g p.2 ∧ AllTG s g ps
def AllSG (s : St) (g : Nat → Nat) : List (Nat × Site) → Prop
  | [] => True
  | p :: ps => s.s (g p.1) = shiftS g p.2 ∧ AllSG s g ps
theorem AllTG.mem {s : St} {g : Nat → Nat} : ∀ {l : List (Nat × T)}, AllTG s g l → ∀ p ∈ l, s.t p.1 = shiftT g p.2
  | [], _, p, h => by cases h
  | q :: l, h, p, hp => by
    rcases List.mem_cons.1 hp with rfl | hp
    · exact h.1
    · exact AllTG.mem h.2 p hp
theorem AllSG.mem {s : St} {g : Nat → Nat} : ∀ {l : List (Nat × Site)}, AllSG s g l → ∀ p ∈ l, s.s (g p.1) = shiftS g p.2
  | [], _, p, h => by cases h
  | q :: l, h, p, hp => by
    rcases List.mem_cons.1 hp with rfl | hp
    · exact h.1
    · exact AllSG.mem h.2 p hp
theorem memK_of {g : Nat → Nat} {k : Nat} {z : Site} : ∀ {l : List (Nat × Site)}, (k, z) ∈ l → memK (g k) g l = true
  | [], h => by cases h
  | q :: l, h => by
    simp only [memK, Bool.or_eq_true]
    rcases List.mem_cons.1 h with rfl | h
    · exact .inl (Nat.beq_refl _)
    · exact .inr (memK_of h)
theorem nodupK_spec {g : Nat → Nat} {k k' : Nat} {z z' : Site} : ∀ {l : List (Nat × Site)}, nodupK g l = true → (k, z) ∈ l → (k', z') ∈ l → g k = g k' → k = k'
  | [], _, h, _, _ => by cases h
  | q :: l, h, h1, h2, e => by
    simp only [nodupK, Bool.and_eq_true, Bool.not_eq_true'] at h
    rcases List.mem_cons.1 h1 with e1 | h1 <;> rcases List.mem_cons.1 h2 with e2 | h2
    · have := e1.trans e2.symm; cases this; rfl
    · have := memK_of (g := g) h2
      rw [← e, show k = q.1 by rw [← e1], h.1] at this; cases this
    · have := memK_of (g := g) h1
      rw [e, show k' = q.1 by rw [← e2], h.1] at this; cases this
    · exact nodupK_spec h.2 h1 h2 e
theorem le_cst {c : Cx} {s : St} {n : Nat} (g : Nat → Nat) (sl : List (Nat × T)) (ss : List (Nat × Site)) (hn : s.n = n) (hT : AllTG s g sl) (hS : AllSG s g ss) (hok : cOk g sl ss = true) (hpin : ∀ k b, c.pin k = some b → g k = k ∧ hasK k ss = true) : Le c s (cSt n sl ss) := by
  subst hn
  simp only [cOk, Bool.and_eq_true] at hok
  obtain ⟨⟨o1, o2⟩, o3⟩ := hok
  intro a w ⟨blk, val, hh⟩
  obtain ⟨blk', hblk'⟩ : ∃ blk' : Nat → Option Nat, blk' = fun k => match lookN k ss with | some _ => blk (g k) | none => none := ⟨_, rfl⟩
  have hb : ∀ k b, blk' k = some b → blk (g k) = some b ∧ ∃ z, lookN k ss = some z := fun k b h => by
    rw [hblk'] at h
    cases hl : lookN k ss with
    | none => simp [hl] at h
    | some z => simp [hl] at h; exact ⟨h, z, rfl⟩
  have hok' : ∀ b, b < w.heap.size → okOf c blk b → okOf c blk' b := fun b _ hb' => ⟨hb'.1, fun k hk => hb'.2 _ (hb k b hk).1⟩
  have key : ∀ k, hasK k ss = true → blk' k = blk (g k) ∧ s.s (g k) = shiftS g (siteOf ss k) := fun k hk => by
    unfold hasK at hk
    cases hl : lookN k ss with
    | none => rw [hl] at hk; cases hk
    | some z =>
      refine ⟨by rw [hblk']; simp [hl], ?_⟩
      simp only [siteOf, hl]
      exact hS.mem _ (lookN_mem hl)
  have hk2 : ∀ x : T, refK ss x = true → ∀ k, (x = .rs k ∨ (∃ o, x = .ref k o) ∨ ∃ r f g, x = .own k r f g) → blk' k = blk (g k) ∧ val (g k) = val (g k) ∧ s.s (g k) = shiftS g (siteOf ss k) := fun x hx k hk => by
    have : hasK k ss = true := by
      rcases hk with rfl | ⟨o, rfl⟩ | ⟨_, _, _, rfl⟩
      · exact hx
      · exact hx
      · exact hx
    exact ⟨(key k this).1, rfl, (key k this).2⟩
  refine ⟨blk', fun k => val (g k), hh.ext, hh.defers, hh.size, fun k b h => hh.new _ b (hb k b h).1, fun k k' b h h' => ?_, fun k b h => ?_, fun k => ?_, fun t => ?_⟩
  · obtain ⟨h1, z, hz⟩ := hb k b h
    obtain ⟨h1', z', hz'⟩ := hb k' b h'
    exact nodupK_spec o3 (lookN_mem hz) (lookN_mem hz') (hh.inj _ _ b h1 h1')
  · obtain ⟨p1, p2, p3⟩ := hh.pin k b h
    obtain ⟨e1, e2⟩ := hpin k b h
    obtain ⟨k1, k2⟩ := key k e2
    rw [e1] at k1 k2
    refine ⟨by rw [k1]; exact p1, ?_, p3⟩
    show (siteOf ss k).isVar = true
    rw [k2] at p2
    cases hz : siteOf ss k <;> rw [hz] at p2 <;> first | rfl | cases p2
  · show SiteIn w _ blk' _ (siteOf ss) (blk' k) _ (siteOf ss k)
    cases hl : lookN k ss with
    | none =>
      have e1 : blk' k = none := by rw [hblk']; simp [hl]
      have e2 : siteOf ss k = .no := by simp [siteOf, hl]
      rw [e1, e2]; rfl
    | some z =>
      have hz : siteOf ss k = z := by simp [siteOf, hl]
      have h1 := hh.site (g k)
      obtain ⟨k1, k2⟩ := key k (by simp [hasK, hl])
      rw [k2, hz] at h1
      rw [k1, hz]
      refine h1.unshift hok' fun cs hcs y hy j hj => hk2 y ?_ j hj
      have := List.all_eq_true.1 o2 _ (lookN_mem hl)
      rw [hcs] at this
      exact List.all_eq_true.1 (by simpa [siteK] using this) y hy
  · have h1 := hh.tmp t
    show RepT w _ blk' _ (siteOf ss) (tmpOf sl t) _
    cases hl : lookN t sl with
    | none => simp only [tmpOf, hl]; trivial
    | some x =>
      simp only [tmpOf, hl]
      rw [hT.mem _ (lookN_mem hl)] at h1
      exact h1.unshift hok' (hk2 x (by have := List.all_eq_true.1 o1 _ (lookN_mem hl); exact this))
theorem le_ownB {c : Cx} {st : St} (k j o e sz : Nat) {cs : List D} (hs : st.s k = .box cs) (hj : st.s j = .no) (ho : cs[o]? = some (.v (.slice none 0 0))) :
    Le c st ((st.site j (.row e sz [])).site k (.tbox ((cs.map T.d).set o (.rs j)))) := by
  intro a w ⟨blk, val, hh⟩
  have hne : ∀ i, st.s i ≠ .no → Nat.beq i j = false := fun i hi => by rw [← Bool.not_eq_true]; intro h; rw [Nat.eq_of_beq_eq_true h] at hi; exact hi hj
  have hkj : Nat.beq k j = false := hne k (by rw [hs]; simp)
  have hbj : blk j = none := by have := hh.site j; rw [hj] at this; exact this
  obtain ⟨val', hval'⟩ : ∃ val' : Nat → Value, val' = fun i => bif Nat.beq i j then .slice none 0 0 else val i := ⟨_, rfl⟩
  have hvne : ∀ i, Nat.beq i j = false → val' i = val i := fun i hi => by rw [hval']; simp [hi]
  have hsite : ∀ i, ((st.site j (.row e sz [])).site k (.tbox ((cs.map T.d).set o (.rs j)))).s i = bif Nat.beq i k then .tbox ((cs.map T.d).set o (.rs j)) else bif Nat.beq i j then .row e sz [] else st.s i := fun i => rfl
  have hrel : ∀ i, st.s i ≠ .no → val' i = val i ∧ ((st.site j (.row e sz [])).site k (.tbox ((cs.map T.d).set o (.rs j)))).s i ≠ .no ∧ ((∃ e' sz' es', st.s i = .row e' sz' es') → ∃ e' sz' es', ((st.site j (.row e sz [])).site k (.tbox ((cs.map T.d).set o (.rs j)))).s i = .row e' sz' es') := fun i hi => by
    refine ⟨hvne i (hne i hi), ?_, ?_⟩
    · rw [hsite]
      cases Nat.beq i k
      · simp only [cond_false, hne i hi]; exact hi
      · simp
    · rintro ⟨e', sz', es', h⟩
      rw [hsite]
      cases hik : Nat.beq i k with
      | false => simp only [cond_false, hne i hi]; exact ⟨e', sz', es', h⟩
      | true => rw [Nat.eq_of_beq_eq_true hik, hs] at h; cases h
  have hT : ∀ (x : T) (v : Value), RepT w (okOf c blk) blk val st.s x v → RepT w (okOf c blk) blk val' ((st.site j (.row e sz [])).site k (.tbox ((cs.map T.d).set o (.rs j)))).s x v := fun x v h => by
    cases x with
    | ref i _ =>
      obtain ⟨q1, q2⟩ := h
      exact ⟨(hrel i q1).2.1, q2⟩
    | rs i =>
      obtain ⟨⟨e', sz', es', q1⟩, q2⟩ := h
      obtain ⟨r1, _, r3⟩ := hrel i (by rw [q1]; simp)
      exact ⟨r3 ⟨e', sz', es', q1⟩, by rw [r1]; exact q2⟩
    | own i r _ _ =>
      obtain ⟨⟨⟨q0, q1⟩, qo⟩, q2⟩ := h
      obtain ⟨r1, r2, r3⟩ := hrel i q0
      exact ⟨⟨⟨r2, fun hr => r3 (q1 hr)⟩, qo⟩, by rw [r1]; exact q2⟩
    | _ => exact h
  refine ⟨blk, val', hh.ext, hh.defers, hh.size, hh.new, hh.inj, fun i b h => ?_, fun i => ?_, fun t => hT _ _ (hh.tmp t)⟩
  · obtain ⟨p1, p2, p3⟩ := hh.pin i b h
    refine ⟨p1, ?_, p3⟩
    rw [hsite]
    cases hik : Nat.beq i k with
    | true => rfl
    | false => simp only [cond_false, hne i (by intro h0; rw [h0] at p2; cases p2)]; exact p2
  · rw [hsite]
    have h1 := hh.site i
    cases hik : Nat.beq i k with
    | true =>
      have hik' := Nat.eq_of_beq_eq_true hik
      subst hik'
      rw [hs] at h1
      obtain ⟨b, e0, vals, h1, h2, h3, h4, h5⟩ := h1
      simp only [cond_true]
      refine ⟨b, e0, vals, h1, h2, by simpa using h3, fun m x hx => ?_⟩
      rw [List.getElem?_set] at hx
      by_cases hom : o = m
      · subst hom
        rw [if_pos rfl] at hx
        split at hx
        · cases hx
          obtain ⟨v, hv, hr⟩ := h5 o _ ho
          have hv0 := Rep.v_eq hr
          subst hv0
          refine ⟨_, hv, rfl, ⟨e, sz, [], ?_⟩, by rw [hval']; simp⟩
          rw [hsite]
          have : Nat.beq j i = false := by rw [← Bool.not_eq_true]; intro h; rw [Nat.eq_of_beq_eq_true h, hs] at hj; cases hj
          rw [this]; simp
        · cases hx
      · rw [if_neg hom, List.getElem?_map] at hx
        cases hm : cs[m]? with
        | none => rw [hm] at hx; cases hx
        | some d =>
          rw [hm] at hx; cases hx
          obtain ⟨v, hv, hr⟩ := h5 m d hm
          exact ⟨v, hv, hr.one (h4 m d hm), hr⟩
    | false =>
      simp only [cond_false]
      cases hij : Nat.beq i j with
      | true =>
        have hij' := Nat.eq_of_beq_eq_true hij
        subst hij'
        simp only [cond_true]
        refine ⟨fun m x hx => by simp at hx, fun m x n d hx => by simp at hx, .inl ⟨hbj, rfl, by rw [hval']; simp⟩⟩
      | false =>
        simp only [cond_false]
        rw [hvne i hij]
        cases hz : st.s i with
        | no => rw [hz] at h1; exact h1
        | box ds => rw [hz] at h1; exact h1
        | tbox ts =>
          rw [hz] at h1
          obtain ⟨b, e0, vals, h1, h2, h3, h5⟩ := h1
          exact ⟨b, e0, vals, h1, h2, h3, fun m x hx => let ⟨v, hv, ho, hr⟩ := h5 m x hx; ⟨v, hv, ho, hT x v hr⟩⟩
        | row e1 sz1 es1 => rw [hz] at h1; exact h1
        | mp es1 c1 => rw [hz] at h1; exact h1

def kvS (p : Nat × Site) : Nat × Bool := (p.1, p.2.isVar)
theorem siteOf_var : ∀ {l l' : List (Nat × Site)}, l.map kvS = l'.map kvS → ∀ k, (siteOf l k).isVar = (siteOf l' k).isVar
  | [], [], _, _ => rfl
  | [], _ :: _, h, _ => by cases h
  | _ :: _, [], h, _ => by cases h
  | p :: l, q :: l', h, k => by
    simp only [List.map_cons, List.cons.injEq, kvS, Prod.mk.injEq] at h
    obtain ⟨⟨h1, h2⟩, h3⟩ := h
    have ih := siteOf_var h3 k
    simp only [siteOf] at ih ⊢
    simp only [lookN, h1]
    cases Nat.beq k q.1
    · exact ih
    · exact h2
def upL (N : Nat) (ss : List (Nat × Site)) : List (Nat × Site) := ss.map fun p => (N + p.1, shiftS (N + ·) p.2)
theorem lookN_up {N k : Nat} : ∀ {ss : List (Nat × Site)}, lookN k (upL N ss) = if N ≤ k then (lookN (k - N) ss).map (shiftS (N + ·)) else none
  | [] => by simp [upL, lookN]
  | p :: ss => by
    have ih := lookN_up (N := N) (k := k) (ss := ss)
    simp only [upL, List.map_cons, lookN] at ih ⊢
    by_cases hk : k = N + p.1
    · subst hk
      simp [Nat.beq_refl]
    · have h1 : Nat.beq k (N + p.1) = false := by rw [← Bool.not_eq_true]; exact fun e => hk (Nat.eq_of_beq_eq_true e)
      rw [h1, cond_false, ih]
      by_cases hN : N ≤ k
      · have h2 : Nat.beq (k - N) p.1 = false := by rw [← Bool.not_eq_true]; intro e; have := Nat.eq_of_beq_eq_true e; omega
        rw [h2, cond_false]
      · simp [hN]
theorem up_dead {N n : Nat} {st : St} {ss : List (Nat × Site)} (hn : st.n = n) : upSt N (deadSt st (siteOf ss)) = cSt n [] (upL N ss) := by
  subst hn
  simp only [upSt, deadSt, cSt, St.mk.injEq, true_and]
  refine ⟨rfl, funext fun k => ?_⟩
  simp only [upS, siteOf, lookN_up]
  cases hb : Nat.ble N k with
  | true =>
    have := Nat.le_of_ble_eq_true hb
    rw [if_pos this]
    cases lookN (k - N) ss <;> rfl
  | false =>
    have : ¬ N ≤ k := fun h => by rw [(by rw [Nat.ble_eq]; exact h : Nat.ble N k = true)] at hb; cases hb
    rw [if_neg this]; rfl
def pinsOk (N : Nat) (ren : List (Nat × Nat)) (ss ss' : List (Nat × Site)) : Bool := ss.all fun p => !p.2.isVar || (Nat.beq (renN ren (N + p.1)) (N + p.1) && hasK (N + p.1) ss')
theorem le_round {c : Cx} {s : St} {N n : Nat} {sl : List (Nat × T)} {ss0 : List (Nat × Site)} (ren : List (Nat × Nat)) (ss : List (Nat × Site)) (hpin : ∀ k b, c.pin k = some b → (Nat.ble N k && ((cSt n sl ss0).s (k - N)).isVar) = true) (hn : s.n = n) (hS : AllSG s (renN ren) (upL N ss)) (hok : (cOk (renN ren) [] (upL N ss) && pinsOk N ren ss0 (upL N ss)) = true) :
    Le c s (upSt N (deadSt (cSt n sl ss0) (siteOf ss))) := by
  rw [Bool.and_eq_true] at hok
  rw [up_dead (n := n) rfl]
  refine le_cst (renN ren) [] (upL N ss) hn trivial hS hok.1 fun k b hk => ?_
  have h1 := hpin k b hk
  rw [Bool.and_eq_true] at h1
  have hN := Nat.le_of_ble_eq_true h1.1
  have h2 : (siteOf ss0 (k - N)).isVar = true := h1.2
  cases hl : lookN (k - N) ss0 with
  | none => simp [siteOf, hl] at h2; cases h2
  | some z =>
    simp only [siteOf, hl] at h2
    have h3 := List.all_eq_true.1 hok.2 _ (lookN_mem hl)
    simp only [h2, Bool.not_true, Bool.false_or, Bool.and_eq_true] at h3
    rw [show N + (k - N) = k by omega] at h3
    exact ⟨Nat.eq_of_beq_eq_true h3.1, h3.2⟩
section
variable {P : Program} {w0 : Cx} {s : St} {ev : Operand → T} {ty : TypeId} {pos : String} {after : Array Edge}
theorem c_storeR {t : TypeId} {y x : Operand} {k o j : Nat} {cs cs' : List T} (ht : szB P t false 1 = true) (hy : ev y = .ref k o) (hx : ev x = .rs j) (hk : s.s k = .tbox cs) (ho : o + 1 ≤ cs.length) (hcs : setTs cs o [.rs j] = cs') :
    COp P w0 s ev ⟨none, .store t y x, ty, pos, after, none⟩ (.set k (.tbox cs') none .dead) :=
  fun st hk' _ hev _ => step_of_aops rfl fun ops rest R h => aops_storeT (z := .rs j) ht (live_ev hev hy (by simp)) (live_ev hev hx (by simp)) rfl (by rw [hk']; exact hk) ho hcs h
end
section
variable {P : Program} {w0 : Cx} {n : Nat} {s : Nat → Site} {ev : Operand → T} {dst : Option Tmp} {ty : TypeId} {pos : String} {after : Array Edge} {g : Option (Nat × Bool)}
theorem q_buildA {t m e sz : Nat} {z : Value} {parts : List (Nat × Operand)} {pds : List (Nat × D)} {cs : List D} (hp : arB P t m e sz = true) (hz : zrB P t z) (h1 : z.cells.toList.all Value.oneCell' = true)
    (hpd : PartsD ev parts pds) (hok : fillOk (fun i => some (i * sz, sz)) (constD z).length pds) (hcs : fillD (fun i => some (i * sz, sz)) (constD z) pds = cs) : QOp P w0 n s ev ⟨dst, .build t parts.toArray, ty, pos, after, g⟩ (.d (.agg cs)) :=
  .mk fun a w ok blk val h _ hnew => by
    subst hcs
    obtain ⟨hz1, hz2⟩ := constD_rep (w := w) (ok := ok) h1
    obtain ⟨out, k1, k2, k3⟩ := fill_rep h (pl := fun i => some (i * sz, sz)) (cells := z.cells) hpd hz1 hz2 hok
    refine ⟨.agg out, w, ?_, Ext.refl w, ?_⟩
    · obtain ⟨i, hi, hsz⟩ := arB_info hp
      have hc : P.cellsOf e = sz := by simp [Program.cellsOf, hi, hsz]
      have hr := run_cellsOf (P := P) (t := e) (by rw [hi]; rfl) w
      rw [hc] at hr
      simp only [execOp, Instr.build, Sem.run_bind, run_zero hz, Result.andThen_ok, run_underlying (arB_under hp), hr]
      have : (parts.toArray.map fun (x : Nat × Operand) => (x.1, a.eval x.2)).toList = parts.map fun (i, y) => (i, a.eval y) := by simp
      rw [this]
      simp only [k1]
      simp
    · have := Rep.agg (w := w) (ok := ok) _ out.toList k2.length (fun j d hd => k3 d (List.mem_of_getElem? hd)) fun j d v h1 h2 => k2.get j d v h1 h2
      show Rep _ _ _ _
      simpa using this
end
section
variable {P : Program} {w0 : Cx} {st : St}
theorem awp_rangeC {α β : Type} {g : Operand} {ps : Array Tmp} {assign body : Code} {R : Exit → St → Prop} {f : FuncId} {pre post : List D} {enc : α → List D} {items : List α} {fin : Bool} {n : Nat} (N : Nat) (sl : List (Nat × T)) (ss : β → List (Nat × Site)) (I : Nat → β → Prop) (X : Exit → β → Prop) (x0 : β)
    (hrnd : w0.rnd = none) (hle : Le w0 st (cSt n sl (ss x0))) (hg : ((cSt n sl (ss x0)).ev g = .d (.mfn (.func f) pre) ∧ post = []) ∨ ((cSt n sl (ss x0)).ev g = .d (.fn (.func f) post) ∧ pre = [])) (he : enB P f = true) (hit : PI P f pre post enc items fin) (hN : Nat.ble n N = true) (hps : ∀ y, (enc y).length = ps.size) (hpn : ps.toList.all (fun p => Nat.blt p n) = true) (hfl : ∀ y, FlatAll (enc y))
    (hvar : ∀ x, (ss x).map kvS = (ss x0).map kvS) (h0 : I 0 x0) (hfin : fin = false → ∀ x, ¬ I items.length x)
    (hround : ∀ w1 : Cx, (∀ k b, w1.pin k = some b → (Nat.ble N k && ((cSt n sl (ss x0)).s (k - N)).isVar) = true) → ∀ k x y, I k x → items[k]? = some y → Awp P w1 assign (fun e s => e = .normal ∧ ∀ w2 : Cx, (∀ k b, w2.pin k = some b → (Nat.ble N k && ((cSt n sl (ss x0)).s (k - N)).isVar) = true) →
      Awp P w2 body (fun e s' => (e = .normal ∧ ∃ x', I (k + 1) x' ∧ Le w2 s' (upSt N (deadSt (cSt n sl (ss x0)) (siteOf (ss x'))))) ∨ ((jumpOf e).isSome = true ∧ ∃ x', X e x' ∧ Le w2 s' (upSt N (deadSt (cSt n sl (ss x0)) (siteOf (ss x')))))) s) (putL ps.toList (enc y) (upSt N (loopSt (cSt n sl (ss x0)) (siteOf (ss x))))))
    (hdone : ∀ x, I items.length x → R .normal (loopSt (cSt n sl (ss x0)) (siteOf (ss x)))) (hstop : ∀ e x, X e x → R e (loopSt (cSt n sl (ss x0)) (siteOf (ss x)))) : Awp P w0 (.rangeFunc g ps assign body) R st := by
  refine Awp.le hle (awp_range N (fun x => siteOf (ss x)) I X x0 hrnd hg he hit hN hps (fun p hp => ?_) (fun y => (hfl y).mem) (fun x k => siteOf_var (hvar x) k) h0 (fun a w h => h.weak ⟨rfl, rfl, fun t => ?_⟩) hfin hround hdone hstop)
  · have := List.all_eq_true.1 hpn p hp
    rw [Nat.blt_eq] at this; exact this
  · simp only [loopSt]
    cases hx : (cSt n sl (ss x0)).t t with
    | ref k o =>
      simp only [loopT]
      cases ((cSt n sl (ss x0)).s k).isVar
      · exact .inr rfl
      · exact .inl rfl
    | rs k => exact .inr rfl
    | own k r f g => exact .inr rfl
    | _ => exact .inl rfl
end
open Go Go.RowKit

section
variable {P : Program} {w0 : Cx} {n : Nat} {s : Nat → Site} {ev : Operand → T} {dst : Option Tmp} {ty : TypeId} {pos : String} {after : Array Edge} {g : Option (Nat × Bool)}
theorem q_convE {t t' : TypeId} {y : Operand} {k k' : IntKind} {i j : Int} (ht : intB P t k' = true) (ht' : intB P t' k = true) (hy : ev y = .d (.v (.int k' i))) (h : k.wrap i = j) : QOp P w0 n s ev ⟨dst, .convert t t' y, ty, pos, after, g⟩ (.d (.v (.int k j))) := by
  subst h; exact q_convi ht ht' hy
theorem q_shrE {t t' : TypeId} {x y : Operand} {k yk : IntKind} {a b c : Int} (hx : ev x = .d (.v (.int k a))) (hy : ev y = .d (.v (.int yk b))) (h : 0 ≤ b ∧ a.fdiv (2 ^ (min b.toNat k.bits)) = c) : QOp P w0 n s ev ⟨dst, .binOp .shr t x y t', ty, pos, after, g⟩ (.d (.v (.int k c))) :=
  q_bin hx hy (fun w => by
    obtain ⟨h1, h2⟩ := h
    simp [eqGuard, binOp, Op.shift, show ¬ b < 0 by omega, h2]) rfl
def kV (k : IntKind) (x : Int) : D := .v (.int k x)
def kW (k : IntKind) (x : Int) : Value := .int k x
def EqK (P : Program) (k : IntKind) (t m : Nat) : Prop := ∀ (xs ys : List Int), xs.length = m → ys.length = m → ∀ w,
  (∀ x y, (eqGuard .eql t x y (.agg (xs.map (kW k)).toArray) (.agg (ys.map (kW k)).toArray)).run P w = .ok () w) ∧ (∀ x y, (eqGuard .neq t x y (.agg (xs.map (kW k)).toArray) (.agg (ys.map (kW k)).toArray)).run P w = .ok () w) ∧
  (Op.equalIn 10000 t (.agg (xs.map (kW k)).toArray) (.agg (ys.map (kW k)).toArray)).run P w = .ok (decide (xs = ys)) w
theorem agg_kinds {w : World} {ok : Nat → Prop} {k : IntKind} {xs : List Int} {v : Value} (h : Rep w ok (.agg (xs.map (kV k))) v) : v = .agg (xs.map (kW k)).toArray := by
  obtain ⟨vs, rfl, hL, _⟩ := agg_inv h
  congr 2
  have : ∀ (xs : List Int) (vs : List Value), RepL w ok (xs.map (kV k)) vs → vs = xs.map (kW k) := by
    intro xs
    induction xs with
    | nil => intro vs h; cases vs with
      | nil => rfl
      | cons => exact h.elim
    | cons x xs ih =>
      intro vs h
      cases vs with
      | nil => exact h.elim
      | cons v vs =>
        obtain ⟨h1, h2⟩ := h
        rw [ih vs h2, Rep.v_eq h1]
        rfl
  exact this xs vs hL
theorem q_eqlK {t t' : TypeId} {x y : Operand} {k : IntKind} {m : Nat} {xs ys : List Int} (hE : EqK P k t m) (hx : ev x = .d (.agg (xs.map (kV k)))) (hy : ev y = .d (.agg (ys.map (kV k)))) (hxl : xs.length = m) (hyl : ys.length = m) : QOp P w0 n s ev ⟨dst, .binOp .eql t x y t', ty, pos, after, g⟩ (T.bool (decide (xs = ys))) :=
  .mk fun a w ok blk val h _ hnew => by
    have e1 := agg_kinds (show Rep w _ (.agg (xs.map (kV k))) (a.eval x) by have := h x; rw [hx] at this; exact this)
    have e2 := agg_kinds (show Rep w _ (.agg (ys.map (kV k))) (a.eval y) by have := h y; rw [hy] at this; exact this)
    obtain ⟨g1, _, g3⟩ := hE xs ys hxl hyl w
    exact ⟨_, w, by simp only [execOp, e1, e2, Sem.run_bind, g1, Result.andThen_ok, run_eql_struct, g3]; rfl, Ext.refl w, .v _ rfl⟩
end
open Go Go.RowKit

section
variable {P : Program} {α σ : Type} {J : (Nat → Prop) → σ → World → Prop} {c : Cx} {st : St} {a : Act} {w A B : World} {blk : Nat → Option Nat} {val : Nat → Value} {Y : Nat → Prop} {s : σ}

theorem HoldI.wants {ops : List Oper} {o : Oper} {j d : Nat} {g b : Bool} (hh : HoldI c Y st a w blk val) (hg : o.guard = some (j, b)) (hj : (ops[j]?).bind (·.dst) = some d) (ht : st.t d = T.bool g) (hd : Nat.blt d st.n = true) :
    Region.wanted o (yielded ops.toArray a.tmps) = (g == b) := by
  rw [Nat.blt_eq] at hd
  have hv := hh.tmp d
  rw [ht] at hv
  have hv := Rep.v_eq hv
  have hs : d < a.tmps.size := by rw [hh.size]; exact hd
  have hy : yielded ops.toArray a.tmps j = some g := by
    unfold yielded
    rw [List.getElem?_toArray, hj]
    simp only [Option.bind_some]
    rw [Array.getElem?_eq_getElem hs]
    have : a.tmps[d] = .bool g := by
      rw [← hv]; simp [Array.getD, hs]
    rw [this]
  simp only [Region.wanted, hg, hy]
  cases g <;> cases b <;> rfl
end
open Go Go.RowKit

section
variable {w0 : Cx} {st : St}

theorem le_freezeTB (k j o : Nat) {cs : List T} {e sz : Nat} {es : List (List D)} (hk : st.s k = .tbox cs) (ho : cs[o]? = some (.rs j)) (hs : st.s j = .row e sz es) (hjn : Nat.blt j st.n = true) (hm : ∀ b, w0.mine b → w0.ok b) :
    Le w0 st ((headSt st [j] [] []).site k (.tbox ((cs.map (killT [j])).set o (.d (.sl sz es))))) := by
  intro a w ⟨blk, val, hh⟩
  have hH : Hold w0 (headSt st [j] [] []) a w (headBlk [j] [] blk) val := hold_headW (ms := []) (Out.refl st) (by simp) (by simp) (by intro k h; cases h) (by intro p h; cases h) rfl (by simpa using hjn) hh
  have hkj : memN k [j] = false := by
    cases h : memN k [j] with
    | false => rfl
    | true =>
      simp [memN] at h
      have := h; subst this
      rw [hk] at hs; cases hs
  have hsk : (headSt st [j] [] []).s k = .tbox (cs.map (killT [j])) := by
    simp only [headSt, lookN, hkj, cond_false, hk, killSite]
  have h1 := hh.site k
  rw [hk] at h1
  obtain ⟨b1, e1, vals1, p1, p2, p3, p4⟩ := h1
  obtain ⟨v, hv, hone, _, hvj⟩ := p4 o _ ho
  have h2 := hh.site j
  rw [hs] at h2
  obtain ⟨a1, a2, a3⟩ := h2
  have hok : ∀ c, okOf w0 blk c → okOf w0 (headBlk [j] [] blk) c := fun c ⟨q1, q2⟩ => ⟨q1, fun i hi => by
    simp only [headBlk, lookN] at hi
    cases hm : memN i [j] <;> rw [hm] at hi
    · exact q2 i hi
    · cases hi⟩
  have hrep : Rep w (okOf w0 (headBlk [j] [] blk)) (.sl sz es) v := by
    rcases a3 with ⟨_, he, hval⟩ | ⟨b, vals, cap, hb, hval, hn, hcap, hh', hsz, hc⟩
    · rw [hvj, hval, he]; exact .emp sz none 0 (Nat.zero_le _)
    · have hokb : okOf w0 (headBlk [j] [] blk) b := by
        refine ⟨(hh.new j b hb).1.elim .inr (fun h => .inl (hm b h)), fun i hi => ?_⟩
        simp only [headBlk, lookN] at hi
        cases hmi : memN i [j] <;> rw [hmi] at hi
        · have := hh.inj i j b hi hb
          subst this
          simp [memN] at hmi
        · cases hi
      rw [hvj, hval]
      exact .sl sz es b 0 cap (fun i j => vals.getD (i * sz + j) undef) (heap_lt hh') hokb hn hcap a1 a2 (fun i x j d hi hj => by
        obtain ⟨v, hv, _⟩ := hc i x j d hi hj
        rw [cell_of_block hh', Nat.zero_add, hv, getD_val hv]) (fun i x j d hi hj => by
        obtain ⟨v, hv, hr⟩ := hc i x j d hi hj
        rw [getD_val hv]; exact hr.ok fun _ _ h => hok _ h)
  refine ⟨_, _, hH.retell ?_ (by simp) (fun e sz es q => by rw [hsk] at q; cases q)⟩
  have h3 := hH.site k
  rw [hsk] at h3
  obtain ⟨b, e', vals, q1, q2, q3, q4⟩ := h3
  have hbb : b = b1 := by
    have : headBlk [j] [] blk k = blk k := by simp only [headBlk, lookN, hkj, cond_false]
    rw [this, p1] at q1; cases q1; rfl
  subst hbb
  rw [p2] at q2
  cases q2
  refine ⟨b, _, _, q1, p2, by simpa using q3, fun i x hx => ?_⟩
  rw [List.getElem?_set] at hx
  by_cases hi : o = i
  · subst hi
    split at hx
    · split at hx
      · cases hx; exact ⟨v, hv, hone, hrep⟩
      · cases hx
    · exact absurd rfl ‹_›
  · rw [if_neg hi] at hx
    exact q4 i x hx
theorem le_boxT (k : Nat) {ts : List T} (cs : List D) (hk : st.s k = .tbox ts) (ht : ts = cs.map T.d) (hsc : ∀ (j : Nat) (d : D), cs[j]? = some d → d.sc = true) : Le w0 st (st.site k (.box cs)) := by
  subst ht
  intro a w ⟨blk, val, hh⟩
  refine ⟨blk, val, hh.retell ?_ (by simp) (fun e sz es q => by rw [hk] at q; cases q)⟩
  have h := hh.site k
  rw [hk] at h
  obtain ⟨b, e, vals, h1, h2, h3, h4⟩ := h
  refine ⟨b, e, vals, h1, h2, by simpa using h3, hsc, fun j d hj => ?_⟩
  obtain ⟨v, hv, _, hr⟩ := h4 j (.d d) (by rw [List.getElem?_map, hj]; rfl)
  exact ⟨v, hv, hr⟩
end
open Go Go.RowKit

section
variable {P : Program} {w0 : Cx} {n : Nat} {s : Nat → Site} {ev : Operand → T} {dst : Option Tmp} {ty : TypeId} {pos : String} {after : Array Edge} {g : Option (Nat × Bool)}
end
section
variable {P : Program} {w0 : Cx} {ops : List Oper} {rest : List Oper} {R : Exit → St → Prop} {st : St} {ty : TypeId} {pos : String} {after : Array Edge}
end
section
variable {P : Program} {w0 : Cx} {n : Nat} {s : Nat → Site} {ev : Operand → T} {ty : TypeId} {pos : String} {after : Array Edge}
end
section
variable {w0 : Cx} {st : St}
theorem le_upB (k : Nat) (ys : List D) {xs : List D} (hk : st.s k = .box xs) (h : CUpL xs ys) : Le w0 st (st.site k (.box ys)) := by
  intro a w ⟨blk, val, hh⟩
  refine ⟨blk, val, hh.retell ?_ (by simp) (fun e sz es q => by rw [hk] at q; cases q)⟩
  obtain ⟨el, ea⟩ := h.at_
  have h1 := hh.site k
  rw [hk] at h1
  obtain ⟨b, e, vals, k1, k2, k3, k4, k5⟩ := h1
  refine ⟨b, e, vals, k1, k2, k3.trans el, fun j d hj => ?_, fun j d hj => ?_⟩
  · obtain ⟨c, hc, hcu⟩ := ea j d hj
    rw [hcu.sc]; exact k4 j c hc
  · obtain ⟨c, hc, hcu⟩ := ea j d hj
    obtain ⟨v, hv, hr⟩ := k5 j c hc
    exact ⟨v, hv, hcu.rep hr⟩
end
open Go Go.RowKit

section
variable {P : Program} {w0 : Cx} {n : Nat} {s : Nat → Site} {ev : Operand → T} {dst : Option Tmp} {ty : TypeId} {pos : String} {after : Array Edge} {g : Option (Nat × Bool)}
def fltB (P : Program) (t : TypeId) (k : FloatKind) : Bool := match P.underlying t with | some (.float k') => decide (k' = k) | _ => false
theorem fltB_under {t : TypeId} {k : FloatKind} (h : fltB P t k = true) : P.underlying t = some (.float k) := by
  unfold fltB at h
  split at h
  · rename_i hk; rw [hk, of_decide_eq_true h]
  · cases h
theorem q_convf {t t' : TypeId} {y : Operand} {k : IntKind} {fk : FloatKind} {i : Int} (ht : intB P t k = true) (ht' : fltB P t' fk = true) (hy : ev y = .d (.v (.int k i))) : QOp P w0 n s ev ⟨dst, .convert t t' y, ty, pos, after, g⟩ (.d (.v (.float fk (fk.nearest i)))) :=
  .mk fun a w ok blk val h _ hnew => by
    have h1 : a.eval y = .int k i := RepT.v_eq (hy ▸ h y)
    exact ⟨_, w, by simp [execOp, convert, run_underlying (intB_under ht), run_underlying (fltB_under ht'), h1, Conv.intToFloat], Ext.refl w, .v _ rfl⟩
theorem q_ext1 {f : FuncId} {fn : Func} {e : Array Value → Sem Value} {y : Operand} {u r : Value} {at_ : Array TypeId} (hf : P.funcs[f]? = some fn) (hname : (fn.name == "runtime.NumGoroutine") = false) (hb : fn.body.isNone = true) (hn : Extern.findNext fn = none) (he : Extern.find fn = some e)
    (hev : ev (.func f) = .d (.fn (.func f) [])) (hy : ev y = .d (.v u)) (hr : ∀ w, (e #[u]).run P w = .ok r w) (h1 : r.oneCell' = true) : QOp P w0 n s ev ⟨dst, .call ⟨.value (.func f), #[y], at_⟩, ty, pos, after, g⟩ (.d (.v r)) :=
  .mk fun a w ok blk val h _ hnew => by
    have hv : a.eval y = u := RepT.v_eq (hy ▸ h y)
    refine ⟨r, w, ?_, Ext.refl w, .v _ h1⟩
    have hc := run_callFunc_extern (P := P) hf hname hb hn he #[u] w
    have hfv : a.eval (Operand.func f) = .func (.func f) #[] #[] := rfl
    simp [execOp, resolve, invoke, hv, hfv, Deferred.ofValue, hc, hr]
theorem q_sliceP {t : TypeId} {y : Operand} {m e : Nat} {cs : List D} {es : List (List D)} (ht : arB P t m e 1 = true) (hy : ev y = .d (.pt cs 0)) (hm : cs.length = m) (h0 : 0 < m) (hmx : m ≤ maxLen) (hes : (cs.map fun d => [d]) = es) : QOp P w0 n s ev ⟨dst, .slice t y none none none, ty, pos, after, g⟩ (.d (.sl 1 es)) :=
  .mk fun a w ok blk val h _ hnew => by
    subst hes
    obtain ⟨b, of, vs, hv, hb, hok, hs, hc, hr⟩ := pt_inv (show Rep w _ (.pt cs 0) (a.eval y) by have := h y; rw [hy] at this; exact this)
    have hl : (cs.map fun d => [d]).length = m := by rw [List.length_map]; exact hm
    have at_ : ∀ (i : Nat) (x : List D) (j : Nat) (d : D), (cs.map fun d => [d])[i]? = some x → x[j]? = some d → cs[i]? = some d ∧ j = 0 := by
      intro i x j d h1 h2
      rw [List.getElem?_map, Option.map_eq_some_iff] at h1
      obtain ⟨p, hp, rfl⟩ := h1
      match j, h2 with
      | 0, h2 => cases h2; exact ⟨hp, rfl⟩
    have hR := Rep.sl (w := w) (ok := ok) 1 (cs.map fun d => [d]) b of m (fun i _ => vs i) hb hok (by rw [hl]; exact Nat.le_refl _) hmx (fun i x h1 => by
        rw [List.getElem?_map, Option.map_eq_some_iff] at h1
        obtain ⟨p, hp, rfl⟩ := h1; rfl)
      (fun i x j d h1 h2 => hs i d (at_ i x j d h1 h2).1) (fun i x j d h1 h2 => by
        obtain ⟨q1, rfl⟩ := at_ i x j d h1 h2
        rw [Nat.mul_one, Nat.add_zero]; exact hc i d q1) (fun i x j d h1 h2 => hr i d (at_ i x j d h1 h2).1)
    rw [hl] at hR
    refine ⟨_, w, ?_, Ext.refl w, hR⟩
    obtain ⟨inf, hi, hsz⟩ := arB_info ht
    simp [execOp, Instr.sliceAt, run_underlying (arB_under ht), hv, Instr.sureAddr, Instr.sliceBounds, sizeOf, my_typeInfo hi, addr_add]
theorem getS_rows {ss : List Site} (h : ss.all (fun x => !x.isVar) = true) : ∀ i, (getS ss i).isVar = false := by
  intro i
  induction ss generalizing i with
  | nil => rfl
  | cons x xs ih =>
    simp only [List.all_cons, Bool.and_eq_true, Bool.not_eq_true'] at h
    cases i with
    | zero => exact h.1
    | succ i => exact ih h.2 i
theorem pcs_of_awpR {f : FuncId} {fn : Func} {c : Code} {n : Nat} {args : List T} {ss ss' : List Site} {r : T} {rs : List ResultVar} (hf : P.funcs[f]? = some fn) (hb : fn.body = some c) (hn : fn.ntmps = n) (hrs : fn.results = rs.toArray) (hl : args.length ≤ n)
    (hrow : ∀ i, (getS ss i).isVar = false) (h : ∀ w0 : Cx, w0.rnd = none → (∀ k, w0.pin k = none) → Awp P w0 c (endS n rs ss.length r ss') (startS n args ss)) : PCS P f args ss r ss' := by
  intro w ok blk val vs hblk hinj hnone hsite hL
  refine (callsIn_wide (n := 1)).1 (callsIn_of_wp_marks hf hb trivial ?_ rfl)
  let cx : Cx := ⟨w, ok, fun b => ∃ i, blk i = some b, fun k => bif Nat.ble n k && (getS ss (k - n)).isVar then blk (k - n) else none, fun _ => none, none⟩
  let blkE : Nat → Option Nat := fun k => bif Nat.ble n k then blk (k - n) else none
  let valE : Nat → Value := fun k => val (k - n)
  have hge : ∀ k, Nat.ble n (n + k) = true := fun k => by rw [Nat.ble_eq]; omega
  have hE : ∀ k b, blkE k = some b → n ≤ k ∧ blk (k - n) = some b := fun k b hk => by
    simp only [blkE] at hk
    cases hb : Nat.ble n k with
    | false => rw [hb] at hk; cases hk
    | true => rw [hb] at hk; exact ⟨Nat.le_of_ble_eq_true hb, hk⟩
  have hokE : ∀ b, b < w.heap.size → ok b → okOf cx blkE b := fun b hb h => ⟨.inl h, fun k hk => (hblk _ _ (hE k b hk).2).2 h⟩
  have hkE : ∀ k, blkE (n + k) = blk k ∧ valE (n + k) = val k ∧ inS n ss (n + k) = shiftS (n + ·) (getS ss k) := fun k => by
    simp only [blkE, valE, inS, hge k, cond_true, Nat.add_sub_cancel_left]
    exact ⟨trivial, trivial, trivial⟩
  have h0 : Hold cx (startS n args ss) { tmps := vs.toArray ++ Array.replicate (fn.ntmps - vs.toArray.size) undef, defers := [] } w blkE valE := by
    refine ⟨⟨rfl, rfl, rfl, Nat.le_refl _, fun _ _ _ => rfl⟩, Kept.nil rfl rfl, ?_, fun k b hk => ⟨.inr ⟨_, (hE k b hk).2⟩, (hblk _ _ (hE k b hk).2).1⟩, fun k k' b hk hk' => ?_, fun k b hk => ?_, fun k => ?_, fun t => ?_⟩
    · have := hL.length
      simp [startS, hn]; omega
    · have e := hinj _ _ _ (hE k b hk).2 (hE k' b hk').2
      have := (hE k b hk).1
      have := (hE k' b hk').1
      omega
    · simp only [cx] at hk
      cases hb : Nat.ble n k && (getS ss (k - n)).isVar with
      | false => rw [hb] at hk; cases hk
      | true =>
        rw [hb] at hk
        rw [Bool.and_eq_true] at hb
        refine ⟨by simp only [blkE, hb.1, cond_true]; exact hk, ?_, Nat.le_of_ble_eq_true hb.1⟩
        show (inS n ss k).isVar = true
        simp only [inS, hb.1, cond_true]
        have h2 := hb.2
        cases hs : getS ss (k - n) <;> rw [hs] at h2 <;> first | rfl | cases h2
    · show SiteIn _ _ _ _ (inS n ss) _ _ (inS n ss k)
      cases hb : Nat.ble n k with
      | false => simp only [blkE, inS, hb, cond_false]; rfl
      | true =>
        obtain ⟨i, rfl⟩ : ∃ i, k = n + i := ⟨k - n, by have := Nat.le_of_ble_eq_true hb; omega⟩
        obtain ⟨e1, e2, e3⟩ := hkE i
        rw [e1, e2, e3]
        exact (hsite i).shift hokE fun _ _ _ _ j _ => hkE j
    · have := argTT_rep (blk' := blkE) (val' := valE) (s' := inS n ss) (f := (n + ·)) (fn.ntmps - vs.toArray.size) hokE hkE hL t
      have e : (vs.toArray ++ Array.replicate (fn.ntmps - vs.toArray.size) undef) = (vs ++ List.replicate (fn.ntmps - vs.toArray.size) undef).toArray := by simp
      show RepT _ _ _ _ _ _ ((vs.toArray ++ Array.replicate (fn.ntmps - vs.toArray.size) undef).getD t undef)
      rw [e, Array.getD_eq_getD_getElem?, List.getElem?_toArray, ← List.getD_eq_getElem?_getD]
      exact this
  have fin : ∀ (a : Act) (w' : World) (st' : St), (∃ ns : List Nat, RetS st' rs (nth ns) r ∧ SitesAt st' ns ss' ∧ ns.length = ss'.length ∧ nodupN ns = true ∧ firstN n 0 ss.length ns = true ∧ belowT ss'.length r = true ∧ ss'.all (belowS ss'.length) = true) → Holds cx st' a w' →
      ∃ v, (results fn a.tmps).run P w' = .ok v w' ∧ ∃ v' blk' val', Ending.returned v = .returned v' ∧ (∀ i, (getS ss i).isVar = true → blk' i = blk i) ∧ (∀ i b, blk' i = some b → (∃ j, blk j = some b) ∨ w.heap.size ≤ b) ∧ (∀ i b, blk' i = some b → b < w'.heap.size) ∧
      (∀ i j b, blk' i = some b → blk' j = some b → i = j) ∧ ExtM ⟨w, ok, fun b => ∃ i, blk i = some b, fun _ => none, fun _ => none, none⟩ w' ∧
      (∀ i, SiteIn w' (fun b => (ok b ∨ w.heap.size ≤ b) ∧ ∀ i, blk' i ≠ some b) blk' val' (getS ss') (blk' i) (val' i) (getS ss' i)) ∧
      RepT w' (fun b => (ok b ∨ w.heap.size ≤ b) ∧ ∀ i, blk' i ≠ some b) blk' val' (getS ss') r v' := by
    intro a w' st' ⟨ns, hret, hsat, hlen, hnd, hfst, hbr, hbs⟩ ⟨blkF, valF, hh⟩
    let blk' : Nat → Option Nat := fun i => if i < ss'.length then blkF (nth ns i) else none
    let val' : Nat → Value := fun i => valF (nth ns i)
    have hb' : ∀ i b, blk' i = some b → i < ss'.length ∧ blkF (nth ns i) = some b := fun i b h => by
      simp only [blk'] at h
      split at h
      · exact ⟨by assumption, h⟩
      · cases h
    have hok' : ∀ b, b < w'.heap.size → okOf cx blkF b → (ok b ∨ w.heap.size ≤ b) ∧ ∀ i, blk' i ≠ some b := fun b _ h => ⟨h.1, fun i hi => h.2 _ (hb' i b hi).2⟩
    have hrel : ∀ k, k < ss'.length → blk' k = blkF (nth ns k) ∧ val' k = valF (nth ns k) ∧ st'.s (nth ns k) = shiftS (nth ns) (getS ss' k) := fun k hk => ⟨if_pos hk, rfl, hsat k hk⟩
    have hbelow : ∀ (ss : List Site) (m i : Nat), ss.all (belowS m) = true → belowS m (getS ss i) = true := by
      intro ss
      induction ss with
      | nil => intro m i _; rfl
      | cons x xs ih =>
        intro m i h
        simp only [List.all_cons, Bool.and_eq_true] at h
        cases i with
        | zero => exact h.1
        | succ i => exact ih m i h.2
    have sites : ∀ i, SiteIn w' (fun b => (ok b ∨ w.heap.size ≤ b) ∧ ∀ i, blk' i ≠ some b) blk' val' (getS ss') (blk' i) (val' i) (getS ss' i) := fun i => by
      rcases Nat.lt_or_ge i ss'.length with hi | hi
      · have h1 := hh.site (nth ns i)
        rw [hsat i hi] at h1
        rw [(hrel i hi).1]
        refine h1.unshift hok' fun cs hcs y hy k hk => ?_
        have h2 := hbelow ss' ss'.length i hbs
        rw [hcs] at h2
        exact hrel k (belowT_lt (List.all_eq_true.1 h2 y hy) k hk)
      · rw [getS_none hi]
        show blk' i = none
        exact if_neg (by omega)
    have repr : ∀ v, RepT w' (okOf cx blkF) blkF valF st'.s (shiftT (nth ns) r) v → RepT w' (fun b => (ok b ∨ w.heap.size ≤ b) ∧ ∀ i, blk' i ≠ some b) blk' val' (getS ss') r v := fun v h =>
      h.unshift hok' fun k hk => hrel k (belowT_lt hbr k hk)
    have hsl : ss.length ≤ ss'.length ∨ ss = [] := by
      rcases Nat.lt_or_ge ss'.length ss.length with h | h
      · right
        exfalso
        have : ∀ (m i : Nat) (ns : List Nat), firstN n i m ns = true → m ≤ ns.length := by
          intro m
          induction m with
          | zero => intro i ns _; omega
          | succ m ih =>
            intro i ns h
            cases ns with
            | nil => simp [firstN] at h
            | cons x xs =>
              simp only [firstN, Bool.and_eq_true] at h
              have := ih _ _ h.2
              simp; omega
        have := this _ _ _ hfst
        omega
      · exact .inl h
    have hname : ∀ i, i < ss.length → nth ns i = n + i := fun i hi => by
      have := nth_firstN hfst i hi
      rw [Nat.zero_add] at this; exact this
    have common : (∀ i, (getS ss i).isVar = true → blk' i = blk i) ∧ (∀ i b, blk' i = some b → (∃ j, blk j = some b) ∨ w.heap.size ≤ b) ∧ (∀ i b, blk' i = some b → b < w'.heap.size) ∧
        (∀ i j b, blk' i = some b → blk' j = some b → i = j) ∧ ExtM ⟨w, ok, fun b => ∃ i, blk i = some b, fun _ => none, fun _ => none, none⟩ w' := by
      refine ⟨fun i hi => ?_, fun i b hb => ?_, fun i b hb => (hh.new _ _ (hb' i b hb).2).2, fun i j b h1 h2 => ?_, ⟨hh.ext.os, hh.ext.tape, hh.ext.output, hh.ext.size, hh.ext.block⟩⟩
      · have him : i < ss.length := by
          rcases Nat.lt_or_ge i ss.length with h | h
          · exact h
          · rw [getS_none h] at hi; cases hi
        have hi' : i < ss'.length := by
          rcases hsl with h | h
          · omega
          · subst h; simp at him
        rw [(hrel i hi').1, hname i him]
        have hs := hsite i
        obtain ⟨b, hb⟩ : ∃ b, blk i = some b := by
          cases hg : getS ss i <;> rw [hg] at hs hi <;> first | (cases hi; done) | (obtain ⟨b, _, _, h, _⟩ := hs; exact ⟨b, h⟩) | (obtain ⟨b, h, _⟩ := hs; exact ⟨b, h⟩)
        have hp := hh.pin (n + i) b (by
          show (bif Nat.ble n (n + i) && (getS ss (n + i - n)).isVar then blk (n + i - n) else none) = some b
          rw [Nat.add_sub_cancel_left, hge i, hi]
          exact hb)
        rw [hp.1, hb]
      · rcases (hh.new _ _ (hb' i b hb).2).1 with h | h
        · exact .inr h
        · exact .inl h
      · have e := hh.inj _ _ b (hb' i b h1).2 (hb' j b h2).2
        exact nth_inj hnd (by rw [hlen]; exact (hb' i b h1).1) (by rw [hlen]; exact (hb' j b h2).1) e
    obtain ⟨c1, c2, c4, c5, c6⟩ := common
    cases hret with
    | none =>
      have : (results fn a.tmps).run P w' = .ok (.tuple #[]) w' := by simp [results, hrs]
      exact ⟨_, this, _, blk', val', rfl, c1, c2, c4, c5, c6, sites, Rep.tup [] [] rfl (fun j d v h => by simp at h)⟩
    | tmp ht =>
      rename_i t
      have : (results fn a.tmps).run P w' = .ok (a.tmps.getD t undef) w' := by simp [results, hrs]
      exact ⟨_, this, _, blk', val', rfl, c1, c2, c4, c5, c6, sites, repr _ (by rw [← ht]; exact hh.tmp t)⟩
  refine wpIn_mono (h cx rfl (fun k => by show (bif Nat.ble n k && (getS ss (k - n)).isVar then blk (k - n) else none) = none; rw [hrow (k - n), Bool.and_false]; rfl) Fence.wide 1 ⟨.inl rfl, rfl⟩ _ w ⟨_, _, h0⟩) fun e a w' ⟨st', hR, hH⟩ => ?_
  cases e with
  | normal =>
    obtain ⟨ms, m1, m2, m3, hH'⟩ := hH.shut rfl
    show LeavesInM _ _ _ _ _ _ _ _ _
    rw [m1]
    exact shut_leaves ms w' m2 m3 (fin { a with defers := [] } (shut ms w') st' hR hH')
  | ret =>
    obtain ⟨ms, m1, m2, m3, hH'⟩ := hH.shut rfl
    show LeavesInM _ _ _ _ _ _ _ _ _
    rw [m1]
    exact shut_leaves ms w' m2 m3 (fin { a with defers := [] } (shut ms w') st' hR hH')
  | exit id => exact hR.elim
  | goto l => exact hR.elim
  | panic c => exact hR.elim
  | outgrown => exact hR.elim

theorem setCs_one {cs : List D} {o : Nat} {d : D} (h : o < cs.length) : setCs cs o [d] = cs.set o d := by
  unfold setCs
  rw [List.set_eq_take_append_cons_drop, if_pos h]
  simp
end
open Go Go.RowKit

section
variable {P : Program} {w0 : Cx} {n : Nat} {s : Nat → Site} {ev : Operand → T} {dst : Option Tmp} {ty : TypeId} {pos : String} {after : Array Edge} {g : Option (Nat × Bool)}
theorem e0_inv {w : World} {ok : Nat → Prop} {v : Value} (h : Rep w ok .e0 v) : ∃ A, v = .slice A 0 0 := by
  generalize hd : D.e0 = d at h
  cases h <;> first | (cases hd; done) | exact ⟨_, rfl⟩
theorem q_empty0 {t e sz : Nat} {z : Value} (ht : slB P t e sz = true) (hz : zrB P e z) : QOp P w0 n s ev ⟨dst, .buildSlice t 0 #[], ty, pos, after, g⟩ (.d .e0) :=
  .mk fun a w ok blk val h _ hnew => by
    obtain ⟨i, hi, hsi⟩ := slB_info ht
    refine ⟨.slice (some ⟨w.heap.size, 0, none⟩) 0 0, w.alloc (.cells #[] e), ?_, (Ext.refl w).alloc _, Rep.e0 _⟩
    have hr0 : Array.range 0 = #[] := rfl
    simp [execOp, Instr.buildSlice, run_underlying (slB_under ht), sizeOf, my_typeInfo hi, hr0, Instr.fill, newRow]
theorem q_append0 {t e sz b m : Nat} {z : Value} {y x : Operand} {news : List (List D)} (ht : slB P t e sz = true) (hz : zrB P e z) (hb : byB P e b = true) (hzs : z.cells.size = sz) (hs0 : 0 < sz) (hy : ev y = .d .e0) (hx : ev x = .d (.sl sz news)) (hm : news.length = m)
    (hbm : m * b ≤ 140737488355328) (hmax : m ≤ 9223372036854775807) : QOp P w0 n s ev ⟨dst, .call ⟨.builtin .append, #[y, x], #[t, t]⟩, ty, pos, after, g⟩ (.d (.sl sz news)) :=
  .mk fun a w ok blk val h _ hnew => by
    subst hm
    obtain ⟨i, hi, hsi⟩ := slB_info ht
    obtain ⟨i', hi', hbi⟩ := byB_info hb
    rw [hi] at hi'; cases hi'
    obtain ⟨A0, hv0⟩ := e0_inv (show Rep w ok .e0 (a.eval y) by have := h y; rw [hy] at this; exact this)
    obtain ⟨A, cap', hxv, hnx, hcapx, hxs, hxsc, hxr⟩ := sl_inv (show Rep w ok (.sl sz news) (a.eval x) by have := h x; rw [hx] at this; exact this)
    by_cases hn0 : news = []
    · subst hn0
      simp only [List.length_nil] at hxv
      have hrun : (Builtin.append_ #[t, t] ty #[a.eval y, a.eval x]).run P w = .ok (.slice A0 0 0) w := by
        rw [hv0, hxv]
        cases A0 with
        | none => cases A <;> simp [Builtin.append_, run_underlying (slB_under ht), sizeOf, my_typeInfo hi, Builtin.lenOf, Builtin.firstCells, loadCells, loadCellsFrom]
        | some a0 => cases A <;> simp [Builtin.append_, run_underlying (slB_under ht), sizeOf, my_typeInfo hi, Builtin.lenOf, Builtin.firstCells, loadCells, loadCellsFrom, storeCells]
      exact ⟨.slice A0 0 0, w, by simp [execOp, resolve, invoke, builtin, hrun], Ext.refl w, Rep.emp _ _ _ (Nat.zero_le _)⟩
    rcases hxr with hnil | ⟨b', off, vs, hA, hb', hok', hc', hr'⟩
    · exact absurd hnil hn0
    ·
      have hpos : 0 < news.length := List.length_pos_iff.2 hn0
      let nv : List Value := (List.range (news.length * sz)).map fun q => vs (q / sz) (q % sz)
      have hnvl : nv.length = news.length * i.size := by simp [nv, hsi]
      have hnv : ∀ q u, nv[q]? = some u → ∃ x d, news[q / sz]? = some x ∧ x[q % sz]? = some d ∧ u = vs (q / sz) (q % sz) := fun q u hq => by
        have hql : q < news.length * sz := by have := (List.getElem?_eq_some_iff.1 hq).1; rw [hnvl, hsi] at this; exact this
        have hqd : q / sz < news.length := Nat.div_lt_of_lt_mul (by rw [Nat.mul_comm]; exact hql)
        have hx0 := List.getElem?_eq_getElem hqd
        have hqm : q % sz < (news[q / sz]).length := by rw [hxs _ _ hx0]; exact Nat.mod_lt _ hs0
        simp [nv, hql] at hq
        exact ⟨_, _, hx0, List.getElem?_eq_getElem hqm, hq.symm⟩
      have hcells : ∀ q u, nv[q]? = some u → w.cell? ((⟨b', off, none⟩ : Addr).add q) = some u := fun q u hq => by
        obtain ⟨x, d, h1, h2, rfl⟩ := hnv q u hq
        have := hc' _ x _ d h1 h2
        rw [addr_add, show off + q = off + q / sz * sz + q % sz by have := Nat.div_add_mod q sz; rw [Nat.mul_comm] at this; omega]
        exact this
      have hbm' : news.length * i.bytes ≤ 140737488355328 := by rw [hbi]; exact hbm
      have hrun : ∃ k cs, k = grownCap w news.length 0 e ∧ cs = nv.toArray ++ Builtin.zeroCells z.cells (k - news.length) ∧ (Builtin.append_ #[t, t] ty #[a.eval y, a.eval x]).run P w = .ok (.slice (some ⟨w.heap.size, 0, none⟩) news.length k) (w.drew.alloc (.cells cs e)) := by
        rw [hv0, hxv, hA]
        cases A0 with
        | none =>
          have hr := run_append_nil (P := P) w t ty e i z (slB_under ht) hi (zrB_info hz hi) ⟨b', off, none⟩ news.length cap' nv hnvl hcells hpos (by omega) (by omega)
          exact ⟨_, _, rfl, rfl, hr⟩
        | some a0 =>
          have hr := run_append_grow (P := P) w t ty e i z (slB_under ht) hi (zrB_info hz hi) a0 0 0 [] (by simp) (fun j u hu => by simp at hu) ⟨b', off, none⟩ news.length cap' nv hnvl hcells (by omega) (by omega) (by
            rw [Nat.zero_add]; exact growslice_fits hpos hbm')
          simp only [Nat.zero_add, Array.empty_append] at hr
          exact ⟨_, _, rfl, rfl, hr⟩
      obtain ⟨k, cs, hk, hcs, hrun⟩ := hrun
      have hge : news.length ≤ k := by rw [hk]; exact grownCap_ge w _ 0 e
      have hkm : k ≤ maxLen := by rw [hk]; exact grownCap_le_maxLen w _ 0 e (by simp [maxLen]; omega)
      have hE : Ext w (w.drew.alloc (.cells cs e)) := (Ext.refl w).drew.alloc _
      have hblk : (w.drew.alloc (.cells cs e)).heap[w.heap.size]? = some (.cells cs e (0, 0)) := heap_alloc_new w.drew _
      refine ⟨_, _, by simp [execOp, resolve, invoke, builtin, hrun]; rfl, hE, ?_⟩
      refine Rep.sl sz news w.heap.size 0 k vs (heap_lt hblk) (hnew _ (Nat.le_refl _)) hge hkm hxs hxsc (fun j x q d hi hj => ?_) fun j x q d hi hj => (hr' j x q d hi hj).ext hE fun _ _ h => h
      rw [cell_of_block hblk, Nat.zero_add, hcs]
      have hil := (List.getElem?_eq_some_iff.1 hi).1
      have hjl : q < sz := by have := (List.getElem?_eq_some_iff.1 hj).1; rw [hxs j x hi] at this; exact this
      have hq : j * sz + q < news.length * sz := mul_lt_of hil hjl
      have e1 : (j * sz + q) / sz = j := by rw [Nat.add_comm, Nat.add_mul_div_right _ _ hs0, Nat.div_eq_of_lt hjl, Nat.zero_add]
      have e2 : (j * sz + q) % sz = q := by rw [Nat.add_comm, Nat.add_mul_mod_self_right, Nat.mod_eq_of_lt hjl]
      rw [Array.getElem?_append_left (by simp [nv, hq])]
      simp [nv, hq, e1, e2]
end
end Go.Proofs.YtkbdnkjjklbddaaGreatDoor.Am
