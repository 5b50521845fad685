/- The abstract machine, parts 26 to 35. Conditions: none. -/
import Derived.RangeFuncNested
import Derived.Laws.Externs
import Derived.Laws.FloatArith
import Derived.Laws.ComplexArith
import Derived.Test.YthpggoophcdgnaaDoorAmC
set_option linter.unusedVariables false
set_option linter.unusedSimpArgs false
namespace Go.Proofs.YthpggoophcdgnaaDoor.Am
open Go

section
variable {P : Program} {w0 : Cx}
theorem AsD.live {s : Nat → Site} {x x' : T} {d : D} (h : AsD s x d) (hx : x = .dead ∨ x' = x) : AsD s x' d := by
  rcases hx with rfl | rfl
  · cases h
  · exact h
theorem Args.live {ev ev' : Operand → T} {s : Nat → Site} {ys : List Operand} {ds : List D} (h : Args ev s ys ds) (hx : ∀ y, ev y = .dead ∨ ev' y = ev y) : Args ev' s ys ds := by
  induction h with
  | nil => exact .nil
  | cons h _ ih => exact .cons (h.live (hx _)) ih
end
open Go Go.RowKit

def SameIO (A B : World) : Prop := B.os = A.os ∧ B.tape = A.tape ∧ B.output = A.output
theorem SameIO.refl (A : World) : SameIO A A := ⟨rfl, rfl, rfl⟩
theorem SameIO.trans {A B C : World} (h : SameIO A B) (k : SameIO B C) : SameIO A C := ⟨k.1.trans h.1, k.2.1.trans h.2.1, k.2.2.trans h.2.2⟩
theorem RepT.keepOk {w w' : World} {ok ok' : Nat → Prop} {blk : Nat → Option Nat} {val : Nat → Value} {s : Nat → Site} {x : T} {v : Value} (h : RepT w ok blk val s x v) (hs : w.heap.size ≤ w'.heap.size)
    (hA : ∀ (b : Nat) (o : Obj), ok b → w.heap[b]? = some o → w'.heap[b]? = some o) (hok : ∀ b, b < w.heap.size → ok b → ok' b) : RepT w' ok' blk val s x v := by
  cases x with
  | d x => exact Rep.keep h hs hA hok
  | own k r f g => exact ⟨h.1, h.2.imp fun _ _ h => Rep.keep h hs hA hok⟩
  | _ => exact h
theorem SiteIn.keepOk {w w' : World} {ok ok' : Nat → Prop} {blk' : Nat → Option Nat} {val' : Nat → Value} {s : Nat → Site} {b : Option Nat} {val : Value} {x : Site} (h : SiteIn w ok blk' val' s b val x) (hs : w.heap.size ≤ w'.heap.size)
    (hA : ∀ (b : Nat) (o : Obj), ok b → w.heap[b]? = some o → w'.heap[b]? = some o) (hb : ∀ c, b = some c → w'.heap[c]? = w.heap[c]?) (hok : ∀ b, b < w.heap.size → ok b → ok' b) : SiteIn w' ok' blk' val' s b val x := by
  cases x with
  | no => exact h
  | box cs =>
    obtain ⟨b, e, vals, h1, h2, h3, h4, h5⟩ := h
    exact ⟨b, e, vals, h1, (hb b h1).trans h2, h3, h4, fun j d hd => let ⟨v, hv, hr⟩ := h5 j d hd; ⟨v, hv, hr.keep hs hA hok⟩⟩
  | tbox cs =>
    obtain ⟨b, e, vals, h1, h2, h3, h5⟩ := h
    exact ⟨b, e, vals, h1, (hb b h1).trans h2, h3, fun j x hx => let ⟨v, hv, ho, hr⟩ := h5 j x hx; ⟨v, hv, ho, hr.keepOk hs hA hok⟩⟩
  | mp es c =>
    obtain ⟨b, ms, c0, h1, h2, h3⟩ := h
    exact ⟨b, ms, c0, h1, (hb b h1).trans h2, h3.imp fun _ _ h => h.keep hs hA hok⟩
  | row e sz es =>
    obtain ⟨h1, h2, h3⟩ := h
    refine ⟨h1, h2, h3.imp id fun ⟨b, vals, cap, k1, k2, k3, k4, k5, k6, k7⟩ => ⟨b, vals, cap, k1, k2, k3, k4, (hb b k1).trans k5, k6, fun i x j d hi hj => let ⟨v, hv, hr⟩ := k7 i x j d hi hj; ⟨v, hv, hr.keep hs hA hok⟩⟩⟩

section
variable {P : Program} {w0 : Cx} {st : St} {a : Act} {w A B : World} {blk : Nat → Option Nat} {val : Nat → Value} {Y : Nat → Prop}

structure HoldY (w0 : Cx) (Y : Nat → Prop) (st : St) (a : Act) (w : World) (blk : Nat → Option Nat) (val : Nat → Value) : Prop where
  ext : ExtM w0 w
  kept : Kept w0 a w
  markY : ∀ d ∈ a.defers, ∀ b, d.target = .collected b → ¬ Y b
  fixY : ∀ b o, w0.fix b = some o → ¬ Y b
  newY : ∀ g, Y g → w0.w.heap.size ≤ g ∧ g < w.heap.size
  size : a.tmps.size = st.n
  new : ∀ s b, blk s = some b → Ours w0 b ∧ b < w.heap.size ∧ ¬ Y b
  inj : ∀ s s' b, blk s = some b → blk s' = some b → s = s'
  pin : ∀ k b, w0.pin k = some b → blk k = some b ∧ (st.s k).isVar = true ∧ st.n ≤ k
  site : ∀ s, SiteIn w (fun b => okOf w0 blk b ∧ ¬ Y b) blk val st.s (blk s) (val s) (st.s s)
  tmp : ∀ t, RepT w (fun b => okOf w0 blk b ∧ ¬ Y b) blk val st.s (st.t t) (a.tmps.getD t undef)

theorem HoldY.of (h : Hold w0 st a w blk val) : HoldY w0 (fun _ => False) st a w blk val :=
  ⟨h.ext, h.defers, fun _ _ _ _ h => h, fun _ _ _ h => h, fun _ h => h.elim, h.size, fun s b hb => ⟨(h.new s b hb).1, (h.new s b hb).2, fun h => h⟩, h.inj, h.pin,
    fun s => (h.site s).keepOk (Nat.le_refl _) (fun _ _ _ h => h) (fun _ _ => rfl) fun b _ hb => ⟨hb, fun h => h⟩, fun t => (h.tmp t).keepOk (Nat.le_refl _) (fun _ _ _ h => h) fun b _ hb => ⟨hb, fun h => h⟩⟩
theorem HoldY.hold (h : HoldY w0 Y st a w blk val) : Hold w0 st a w blk val :=
  ⟨h.ext, h.kept, h.size, fun s b hb => ⟨(h.new s b hb).1, (h.new s b hb).2.1⟩, h.inj, h.pin,
    fun s => (h.site s).keepOk (Nat.le_refl _) (fun _ _ _ h => h) (fun _ _ => rfl) fun b _ hb => hb.1, fun t => (h.tmp t).keepOk (Nat.le_refl _) (fun _ _ _ h => h) fun b _ hb => hb.1⟩
theorem HoldY.step (h : HoldY w0 Y st a A blk val) (hs : A.heap.size ≤ B.heap.size) (hio : SameIO A B) (hb : ∀ g, g < A.heap.size → ¬ Y g → B.heap[g]? = A.heap[g]?) : HoldY w0 (fun g => Y g ∨ (A.heap.size ≤ g ∧ g < B.heap.size)) st a B blk val := by
  have hA : ∀ (b : Nat) (o : Obj), (okOf w0 blk b ∧ ¬ Y b) → A.heap[b]? = some o → B.heap[b]? = some o := fun b o hok ho => by rw [hb b (heap_lt ho) hok.2]; exact ho
  have hok : ∀ b, b < A.heap.size → (okOf w0 blk b ∧ ¬ Y b) → (okOf w0 blk b ∧ ¬ (Y b ∨ (A.heap.size ≤ b ∧ b < B.heap.size))) := fun b hlt hb => ⟨hb.1, fun h => by
    rcases h with h | ⟨h, _⟩
    · exact hb.2 h
    · omega⟩
  obtain ⟨⟨ms, m1, m2, m3⟩, f1⟩ := h.kept
  have mY : ∀ b ∈ ms, ¬ Y b := fun b hb' => h.markY { target := .collected b, args := #[] } (by rw [m1]; exact List.mem_map.2 ⟨b, hb', rfl⟩) b rfl
  refine ⟨⟨hio.1.trans h.ext.os, hio.2.1.trans h.ext.tape, hio.2.2.trans h.ext.output, Nat.le_trans h.ext.size hs, fun k hk hm => ?_⟩, ⟨⟨ms, m1, m2, fun b hb' => ⟨(m3 b hb').1, ?_⟩⟩, fun b o hf => ⟨?_, (f1 b o hf).2⟩⟩, fun d hd b hdb hY => ?_, fun b o hf hY => ?_, fun g hg => ?_, h.size, fun s b hsb => ?_, h.inj, h.pin, fun s => ?_, fun t => ?_⟩
  · rw [hb k (Nat.lt_of_lt_of_le hk h.ext.size) fun hY => by have := (h.newY k hY).1; omega]; exact h.ext.block k hk hm
  · rw [hb b (heap_lt (m3 b hb').2) (mY b hb')]; exact (m3 b hb').2
  · rw [hb b (heap_lt (f1 b o hf).1) (h.fixY b o hf)]; exact (f1 b o hf).1
  · rcases hY with hY | ⟨hY, _⟩
    · exact h.markY d hd b hdb hY
    · rw [m1] at hd
      obtain ⟨b', hb', rfl⟩ := List.mem_map.1 hd
      cases hdb
      have := heap_lt (m3 b hb').2
      omega
  · rcases hY with hY | ⟨hY, _⟩
    · exact h.fixY b o hf hY
    · have := heap_lt (f1 b o hf).1; omega
  · rcases hg with hg | ⟨h1, h2⟩
    · exact ⟨(h.newY g hg).1, Nat.lt_of_lt_of_le (h.newY g hg).2 hs⟩
    · exact ⟨Nat.le_trans h.ext.size h1, h2⟩
  · obtain ⟨n1, n2, n3⟩ := h.new s b hsb
    refine ⟨n1, Nat.lt_of_lt_of_le n2 hs, fun hY => ?_⟩
    rcases hY with hY | ⟨hY, _⟩
    · exact n3 hY
    · omega
  · exact (h.site s).keepOk hs hA (fun c hc => hb c (h.new s c hc).2.1 (h.new s c hc).2.2) hok
  · exact (h.tmp t).keepOk hs hA hok

/- the round: all sites are renumbered -/
def upS (N : Nat) (s : Nat → Site) (k : Nat) : Site := bif Nat.ble N k then shiftS (N + ·) (s (k - N)) else .no
def upSt (N : Nat) (st : St) : St := { n := st.n, t := fun t => shiftT (N + ·) (st.t t), s := upS N st.s }
def upB (N : Nat) (blk : Nat → Option Nat) (k : Nat) : Option Nat := bif Nat.ble N k then blk (k - N) else none
def upV (N : Nat) (val : Nat → Value) (k : Nat) : Value := val (k - N)
def fixL (l : Nat) (r : Loop) (b : Nat) : Option Obj := bif Nat.beq b l then some (.loop r) else none
theorem fixL_some {l : Nat} {r : Loop} {b : Nat} {o : Obj} (h : fixL l r b = some o) : b = l ∧ o = .loop r := by
  unfold fixL at h
  cases hb : Nat.beq b l with
  | false => rw [hb] at h; cases h
  | true => rw [hb] at h; cases h; exact ⟨Nat.eq_of_beq_eq_true hb, rfl⟩
def roundCx (w0 : Cx) (Y : Nat → Prop) (N l : Nat) (r : Loop) (st : St) (A : World) (blk : Nat → Option Nat) : Cx :=
  ⟨A, fun b => okOf w0 blk b ∧ ¬ Y b, fun b => (∃ k, blk k = some b) ∨ b = l, fun k => bif Nat.ble N k && (st.s (k - N)).isVar then blk (k - N) else none, fixL l r, some l⟩
theorem HoldY.round (h : HoldY w0 Y st a A blk val) (N l : Nat) (hN : st.n ≤ N) {r : Loop} (hl : A.heap[l]? = some (.loop r)) : Hold (roundCx w0 Y N l r st A blk) (upSt N st) { tmps := a.tmps, defers := [] } A (upB N blk) (upV N val) := by
  have hE : ∀ k b, upB N blk k = some b → N ≤ k ∧ blk (k - N) = some b := fun k b hk => by
    simp only [upB] at hk
    cases hb : Nat.ble N k with
    | false => rw [hb] at hk; cases hk
    | true => rw [hb] at hk; exact ⟨Nat.le_of_ble_eq_true hb, hk⟩
  have hge : ∀ k, Nat.ble N (N + k) = true := fun k => by rw [Nat.ble_eq]; omega
  have hok : ∀ b, b < A.heap.size → (okOf w0 blk b ∧ ¬ Y b) → okOf (roundCx w0 Y N l r st A blk) (upB N blk) b := fun b _ hb => ⟨.inl hb, fun s hs => hb.1.2 _ (hE s b hs).2⟩
  have hkE : ∀ k, upB N blk (N + k) = blk k ∧ upV N val (N + k) = val k ∧ (upSt N st).s (N + k) = shiftS (N + ·) (st.s k) := fun k => by
    simp only [upB, upV, upSt, upS, hge k, cond_true, Nat.add_sub_cancel_left]
    exact ⟨trivial, trivial, trivial⟩
  refine ⟨⟨rfl, rfl, rfl, Nat.le_refl _, fun _ _ _ => rfl⟩, ⟨⟨[], rfl, .nil, fun b hb => by cases hb⟩, fun b o hb => by obtain ⟨rfl, rfl⟩ := fixL_some hb; exact ⟨hl, rfl⟩⟩, h.size, fun k b hk => ⟨.inr (.inl ⟨_, (hE k b hk).2⟩), (h.new _ b (hE k b hk).2).2.1⟩, fun k k' b hk hk' => ?_, fun k b hk => ?_, fun k => ?_, fun t => ?_⟩
  · have e := h.inj _ _ b (hE k b hk).2 (hE k' b hk').2
    have := (hE k b hk).1
    have := (hE k' b hk').1
    omega
  · simp only [roundCx] at hk
    cases hb : Nat.ble N k && (st.s (k - N)).isVar with
    | false => rw [hb] at hk; cases hk
    | true =>
      rw [hb] at hk
      rw [Bool.and_eq_true] at hb
      refine ⟨by simp only [upB, hb.1, cond_true]; exact hk, ?_, Nat.le_trans hN (Nat.le_of_ble_eq_true hb.1)⟩
      show (upS N st.s k).isVar = true
      simp only [upS, hb.1, cond_true]
      have h2 := hb.2
      cases hs : st.s (k - N) <;> rw [hs] at h2 <;> first | rfl | cases h2
  · show SiteIn _ _ _ _ (upS N st.s) _ _ (upS N st.s k)
    cases hb : Nat.ble N k with
    | false => simp only [upB, upS, hb, cond_false]; rfl
    | true =>
      simp only [upB, upS, hb, cond_true, upV]
      exact (h.site (k - N)).shift hok fun cs _ y _ j _ => hkE j
  · exact (h.tmp t).shift hok fun k _ => hkE k
def loopT (s : Nat → Site) : T → T
  | .ref k o => bif (s k).isVar then .ref k o else .dead
  | .rs _ => .dead
  | .own _ _ _ _ => .dead
  | x => x
def loopSt (st : St) (S : Nat → Site) : St := { n := st.n, t := fun t => loopT st.s (st.t t), s := S }
def deadSt (st : St) (S : Nat → Site) : St := { n := st.n, t := fun _ => .dead, s := S }
theorem Rep.keepOC {w w' : World} {ok ok' : Nat → Prop} {d : D} {v : Value} (h : Rep w ok d v) (hs : w.heap.size ≤ w'.heap.size)
    (hA : ∀ (b : Nat) (vals : Array Value) (e : TypeId) (z : Nat × Nat), ok b → w.heap[b]? = some (Obj.cells vals e z) → w'.heap[b]? = some (Obj.cells vals e z)) (hok : ∀ b, b < w.heap.size → ok b → ok' b) : Rep w' ok' d v := by
  have cell : ∀ {p : Addr} {v : Value}, ok p.block → w.cell? p = some v → w'.cell? p = some v := fun {p v} hk h => by
    obtain ⟨o, ho⟩ := cell_block h
    cases o with
    | cells vals e z =>
      have h' := hA _ _ _ _ hk ho
      unfold World.cell? at h ⊢
      rw [ho] at h; rw [h']; exact h
    | _ => unfold World.cell? at h; rw [ho] at h; cases h
  induction h with
  | v x h => exact .v x h
  | emp sz A cap h => exact .emp sz A cap h
  | sl sz es b off cap vs hb hk hn hcap hsz hsc hc hr ih =>
    exact .sl sz es b off cap vs (Nat.lt_of_lt_of_le hb hs) (hok b hb hk) hn hcap hsz hsc (fun i e j d h1 h2 => cell hk (hc i e j d h1 h2)) (fun i e j d h1 h2 => ih i e j d h1 h2)
  | pt cs o b off vs hb hk hsc hc hr ih =>
    exact .pt cs o b off vs (Nat.lt_of_lt_of_le hb hs) (hok b hb hk) hsc (fun j d h1 => cell hk (hc j d h1)) (fun j d h1 => ih j d h1)
  | fn f cap vs hl hr ih => exact .fn f cap vs hl fun j d v h1 h2 => ih j d v h1 h2
  | mfn f cap vs hl hr ih => exact .mfn f cap vs hl fun j d v h1 h2 => ih j d v h1 h2
  | agg cs vs hl hsc hr ih => exact .agg cs vs hl hsc fun j d v h1 h2 => ih j d v h1 h2
  | tup cs vs hl hr ih => exact .tup cs vs hl fun j d v h1 h2 => ih j d v h1 h2
  | e0 A => exact .e0 A
  | nan k b h => exact .nan k b h
theorem HoldY.siteNc (h : HoldY w0 Y st a A blk val) {b : Nat} {o : Obj} (hb : A.heap[b]? = some o) (ho : ncO o = true) : ∀ k, blk k ≠ some b := fun k hk => by
  have := h.site k
  rw [hk] at this
  obtain ⟨o', h1, h2⟩ := this.cells
  rw [hb] at h1; cases h1; rw [ho] at h2; cases h2
theorem HoldY.back {N l : Nat} {r : Loop} {c : Cx} {S : Nat → Site} {a' : Act} {blk2 : Nat → Option Nat} {val2 : Nat → Value} (h : HoldY w0 Y st a A blk val) (hH : Hold c (upSt N (deadSt st S)) a' B blk2 val2)
    (hs : A.heap.size ≤ B.heap.size) (hio : SameIO A B) (hfr : ∀ g, g < A.heap.size → (∀ k, blk k ≠ some g) → g ≠ l → B.heap[g]? = A.heap[g]?) (hl : A.heap[l]? = some (.loop r)) (hlw : w0.w.heap.size ≤ l) (hlf : ∀ o, w0.fix l ≠ some o)
    (hpin : ∀ k b, (st.s k).isVar = true → blk k = some b → c.pin (N + k) = some b) (hnew : ∀ k b, blk2 (N + k) = some b → (∃ j, blk j = some b) ∨ A.heap.size ≤ b)
    (hokc : ∀ b, b < B.heap.size → okOf c blk2 b → (okOf w0 blk b ∧ ¬ Y b) ∨ A.heap.size ≤ b) (hvar : ∀ k, (S k).isVar = (st.s k).isVar) : HoldY w0 Y (loopSt st S) a B (fun k => blk2 (N + k)) (fun k => val2 (N + k)) := by
  have hge : ∀ k, Nat.ble N (N + k) = true := fun k => by rw [Nat.ble_eq]; omega
  have hup : ∀ k, upS N S (N + k) = shiftS (N + ·) (S k) := fun k => by simp only [upS, hge k, cond_true, Nat.add_sub_cancel_left]
  obtain ⟨⟨ms, m1, m2, m3⟩, f1⟩ := h.kept
  have nY : ∀ b, A.heap.size ≤ b → ¬ Y b := fun b hb hY => by have := (h.newY b hY).2; omega
  have pinned : ∀ k b, (st.s k).isVar = true → blk k = some b → blk2 (N + k) = some b := fun k b hv hb => (hH.pin _ _ (hpin k b hv hb)).1
  refine ⟨⟨hio.1.trans h.ext.os, hio.2.1.trans h.ext.tape, hio.2.2.trans h.ext.output, Nat.le_trans h.ext.size hs, fun k hk hm => ?_⟩, ⟨⟨ms, m1, m2, fun b hb => ⟨(m3 b hb).1, ?_⟩⟩, fun b o hf => ⟨?_, (f1 b o hf).2⟩⟩, h.markY, h.fixY, fun g hg => ⟨(h.newY g hg).1, Nat.lt_of_lt_of_le (h.newY g hg).2 hs⟩, h.size, fun k b hb => ?_, fun k k' b hb hb' => ?_, fun k b hb => ?_, fun k => ?_, fun t => ?_⟩
  · rw [hfr k (Nat.lt_of_lt_of_le hk h.ext.size) (fun j hj => ?_) (by omega)]
    · exact h.ext.block k hk hm
    · rcases (h.new j k hj).1 with q | q
      · omega
      · exact hm q
  · have hb' := (m3 b hb).2
    rw [hfr b (heap_lt hb') (h.siteNc hb' rfl) (fun e => by rw [e, hl] at hb'; cases hb')]; exact hb'
  · obtain ⟨q1, q2⟩ := f1 b o hf
    rw [hfr b (heap_lt q1) (h.siteNc q1 q2) (fun e => hlf o (by rw [← e]; exact hf))]; exact q1
  · refine ⟨?_, (hH.new _ b hb).2, ?_⟩
    · rcases hnew k b hb with ⟨j, hj⟩ | q
      · exact (h.new j b hj).1
      · exact .inl (Nat.le_trans h.ext.size q)
    · rcases hnew k b hb with ⟨j, hj⟩ | q
      · exact (h.new j b hj).2.2
      · exact nY b q
  · have := hH.inj _ _ b hb hb'
    omega
  · obtain ⟨q1, q2, q3⟩ := h.pin k b hb
    exact ⟨pinned k b q2 q1, by show (S k).isVar = true; rw [hvar k]; exact q2, q3⟩
  · have h1 := hH.site (N + k)
    rw [show (upSt N (deadSt st S)).s (N + k) = shiftS (N + ·) (S k) from hup k] at h1
    refine h1.unshift (fun b hb hok => ?_) fun cs _ y _ j _ => ⟨rfl, rfl, hup j⟩
    rcases hokc b hb hok with ⟨q1, q2⟩ | q
    · exact ⟨⟨q1.1, fun s => hok.2 _⟩, q2⟩
    · exact ⟨⟨.inr (Nat.le_trans h.ext.size q), fun s => hok.2 _⟩, nY b q⟩
  · have h1 := h.tmp t
    show RepT B _ _ _ S (loopT st.s (st.t t)) _
    cases hx : st.t t with
    | d x =>
      rw [hx] at h1
      refine Rep.keepOC (show Rep A _ x _ from h1) hs (fun b vals e z hok hb => ?_) fun b hlt hok => ⟨⟨hok.1.1, fun s hsb => ?_⟩, hok.2⟩
      · rw [hfr b (heap_lt hb) hok.1.2 (fun e => by rw [e, hl] at hb; cases hb)]; exact hb
      · rcases hnew s b hsb with ⟨j, hj⟩ | q
        · exact hok.1.2 j hj
        · omega
    | ref k o =>
      rw [hx] at h1
      simp only [loopT]
      cases hv : (st.s k).isVar with
      | false => trivial
      | true =>
        obtain ⟨q1, b, q2, q3⟩ := h1
        exact ⟨(fun hn => by have := hvar k; rw [hn, hv] at this; cases this), b, pinned k b hv q2, q3⟩
    | rs k => trivial
    | own k r f g => trivial
    | un => rw [hx] at h1; exact h1
    | dead => trivial
theorem Hold.refix {c : Cx} {l : Nat} {r : Loop} (r' : Loop) (h : Hold c st a w blk val) (hf : c.fix = fixL l r) (hm : c.mine l) : Hold { c with fix := fixL l r' } st a (w.putObj l (.loop r')) blk val := by
  have hl : w.heap[l]? = some (.loop r) := (h.defers.fix l _ (by rw [hf]; simp [fixL])).1
  have hlt := heap_lt hl
  have hck : CK w (w.putObj l (.loop r')) := ⟨by rw [World.putObj_size]; exact Nat.le_refl _, fun b vals e z hb => by
    rw [World.putObj_heap_other (fun e' => by rw [e', hl] at hb; cases hb)]; exact hb, fun b es z hb => by
    rw [World.putObj_heap_other (fun e' => by rw [e', hl] at hb; cases hb)]; exact hb⟩
  obtain ⟨⟨ms, m1, m2, m3⟩, _⟩ := h.defers
  refine ⟨⟨h.ext.os, h.ext.tape, h.ext.output, by rw [World.putObj_size]; exact h.ext.size, fun k hk hmk => ?_⟩, ⟨⟨ms, m1, m2, fun b hb => ⟨(m3 b hb).1, ?_⟩⟩, fun b o hb => ?_⟩, h.size, fun s b hb => ⟨(h.new s b hb).1, by rw [World.putObj_size]; exact (h.new s b hb).2⟩, h.inj, h.pin, fun s => (h.site s).keepC hck, fun t => (h.tmp t).keepC hck⟩
  · rw [World.putObj_heap_other (fun e => hmk (by rw [e]; exact hm))]; exact h.ext.block k hk hmk
  · have := (m3 b hb).2
    rw [World.putObj_heap_other (fun e' => by rw [e', hl] at this; cases this)]; exact this
  · obtain ⟨rfl, rfl⟩ := fixL_some hb
    exact ⟨World.putObj_heap_same hlt, rfl⟩
def putL : List Tmp → List D → St → St
  | p :: ps, d :: ds, s => putL ps ds (s.put (some p) (.d d))
  | _, _, s => s
theorem Hold.putL {c : Cx} : ∀ (ps : List Tmp) (ds : List D) (us : List Value) (s : St) (a : Act), Hold c s a w blk val → RepL w (okOf c blk) ds us → (∀ p ∈ ps, p < s.n) →
    Hold c (Am.putL ps ds s) { a with tmps := (ps.zip us).foldl (fun t (x : Tmp × Value) => t.setIfInBounds x.1 x.2) a.tmps } w blk val
  | [], _, _, _, _, h, _, _ => h
  | p :: ps, [], [], _, _, h, _, _ => h
  | p :: ps, d :: ds, v :: us, s, a, h, hr, hp => by
    have := Hold.putL ps ds us (s.put (some p) (.d d)) (a.put (some p) v) (h.put (some p) (.d d) v (fun k hk => by cases hk; exact hp p (by simp)) hr.1) hr.2 (fun q hq => by show q < s.n; exact hp q (by simp [hq]))
    exact this
  | _ :: _, [], _ :: _, _, _, _, h, _ => h.elim
  | _ :: _, _ :: _, [], _, _, _, h, _ => h.elim
theorem loopSt_loopSt {S S' : Nat → Site} (hv : ∀ k, (S k).isVar = (st.s k).isVar) : loopSt (loopSt st S) S' = loopSt st S' := by
  simp only [loopSt, St.mk.injEq, true_and, and_true]
  funext t
  cases hx : st.t t with
  | ref k o =>
    simp only [loopT]
    cases h : (st.s k).isVar with
    | false => rfl
    | true => simp only [cond_true, loopT, hv k, h]
  | _ => rfl
theorem mfn_inv {ok : Nat → Prop} {f : Fn} {cap : List D} {v : Value} (h : Rep w ok (.mfn f cap) v) : ∃ vs : List Value, v = .func f vs.toArray #[] ∧ RepL w ok cap vs := by
  generalize hd : D.mfn f cap = x at h
  cases h with
  | mfn f cap vs hl hr => cases hd; exact ⟨vs, rfl, RepL.of hl hr⟩
  | _ => cases hd
structure Between (w0 : Cx) (st : St) (a : Act) (w : World) (okD : Nat → Prop) (l k0 : Nat) (r : Loop) (S : Nat → Site) (Y : Nat → Prop) (A : World) : Prop where
  hold : ∃ blk val, HoldY w0 Y (loopSt st S) a A blk val ∧ ∀ g, okD g → okOf w0 blk g ∧ ¬ Y g
  rcd : A.heap[l]? = some (.loop r)
  def_ : A.heap[k0]? = some (.deferred (some []))
  out : ¬ Y l ∧ ¬ Y k0
  size : w.heap.size + 2 ≤ A.heap.size
  data : ∀ g, okD g → A.heap[g]? = w.heap[g]?
def jumpOf : Exit → Option Code
  | .ret => some .ret
  | .exit id => some (.exit id)
  | _ => none
end
open Go Go.RowKit

section
variable {P : Program} {α σ : Type} {J : (Nat → Prop) → σ → World → Prop} {c : Cx} {st : St} {a : Act} {w A B : World} {blk : Nat → Option Nat} {val : Nat → Value} {Y : Nat → Prop} {s : σ}

theorem q_makeMfn {w0 : Cx} {n : Nat} {s : Nat → Site} {ev : Operand → T} {dst : Option Tmp} {ty : TypeId} {pos : String} {after : Array Edge} {g : Option (Nat × Bool)} {f : FuncId} {ys : List Operand} {ds : List D} (ha : ArgsD ev ys ds) :
    QOp P w0 n s ev ⟨dst, .makeFunc (.func f) ys.toArray #[], ty, pos, after, g⟩ (.d (.mfn (.func f) ds)) :=
  .mk fun a w ok blk val h _ hnew => by
    have hL := args_rep h ha
    refine ⟨.func (.func f) (ys.map a.eval).toArray #[], w, by simp [execOp, Instr.makeFunc], Ext.refl w, ?_⟩
    exact Rep.mfn _ _ _ hL.length fun j d v h1 h2 => hL.get j d v h1 h2

def JStep {σ : Type} (J : (Nat → Prop) → σ → World → Prop) : Prop :=
  ∀ (Y : Nat → Prop) (s : σ) (A B : World), J Y s A → A.heap.size ≤ B.heap.size → SameIO A B → (∀ g, g < A.heap.size → ¬ Y g → B.heap[g]? = A.heap[g]?) → J (fun g => Y g ∨ (A.heap.size ≤ g ∧ g < B.heap.size)) s B
structure HoldI (c : Cx) (Y : Nat → Prop) (st : St) (a : Act) (w : World) (blk : Nat → Option Nat) (val : Nat → Value) : Prop where
  size0 : c.w.heap.size ≤ w.heap.size
  data : ∀ g, c.ok g → g < c.w.heap.size ∧ ¬ Y g ∧ w.heap[g]? = c.w.heap[g]?
  marks : ∃ ms : List Nat, a.defers = ms.map (fun b => { target := .collected b, args := #[] }) ∧ ms.Nodup ∧ ∀ b ∈ ms, Y b ∧ w.heap[b]? = some (.deferred (some []))
  newY : ∀ g, Y g → g < w.heap.size
  size : a.tmps.size = st.n
  new : ∀ s b, blk s = some b → Y b
  inj : ∀ s s' b, blk s = some b → blk s' = some b → s = s'
  site : ∀ s, SiteIn w (fun b => (c.ok b ∨ Y b) ∧ ∀ s, blk s ≠ some b) blk val st.s (blk s) (val s) (st.s s)
  tmp : ∀ t, RepT w (fun b => (c.ok b ∨ Y b) ∧ ∀ s, blk s ≠ some b) blk val st.s (st.t t) (a.tmps.getD t undef)
def Iwp (P : Program) {σ : Type} (J : (Nat → Prop) → σ → World → Prop) (c : Cx) (code : Code) (R : Exit → St → σ → Prop) (st : St) (s : σ) : Prop :=
  ∀ (m : Nat) (Y : Nat → Prop) (a : Act) (w : World) (blk : Nat → Option Nat) (val : Nat → Value), HoldI c Y st a w blk val → J Y s w →
    code.wpIn Fence.wide m P (fun e a' w' => ∃ st' s' Y' blk' val', R e st' s' ∧ HoldI c Y' st' a' w' blk' val' ∧ J Y' s' w') a w
def innerCx (c : Cx) (Y : Nat → Prop) (a : Act) (w : World) (blk : Nat → Option Nat) : Cx :=
  ⟨w, fun b => c.ok b ∨ Y b, fun b => (∃ k, blk k = some b) ∨ ∃ d ∈ a.defers, d.target = .collected b, fun _ => none, fun _ => none, none⟩
theorem HoldI.inner (h : HoldI c Y st a w blk val) : Hold (innerCx c Y a w blk) st a w blk val := by
  obtain ⟨ms, m1, m2, m3⟩ := h.marks
  refine ⟨⟨rfl, rfl, rfl, Nat.le_refl _, fun _ _ _ => rfl⟩, ⟨⟨ms, m1, m2, fun b hb => ⟨.inr (.inr ⟨{ target := .collected b, args := #[] }, by rw [m1]; exact List.mem_map.2 ⟨b, hb, rfl⟩, rfl⟩), (m3 b hb).2⟩⟩, fun b o hb => by cases hb⟩, h.size, fun k b hb => ⟨.inr (.inl ⟨k, hb⟩), h.newY b (h.new k b hb)⟩, h.inj, (fun k b hb => by cases hb), fun k => ?_, fun t => ?_⟩
  · exact (h.site k).keepOk (Nat.le_refl _) (fun _ _ _ h => h) (fun _ _ => rfl) fun b _ hb => ⟨.inl hb.1, hb.2⟩
  · exact (h.tmp t).keepOk (Nat.le_refl _) (fun _ _ _ h => h) fun b _ hb => ⟨.inl hb.1, hb.2⟩
theorem HoldI.mineOk (hh : HoldI c Y st a w blk val) : ∀ b, (innerCx c Y a w blk).mine b → (innerCx c Y a w blk).ok b := fun b hb => .inr (by
  rcases hb with ⟨k, hk⟩ | ⟨d, hd, hdb⟩
  · exact hh.new k b hk
  · obtain ⟨ms, m1, m2, m3⟩ := hh.marks
    rw [m1] at hd
    obtain ⟨b', hb', rfl⟩ := List.mem_map.1 hd
    cases hdb
    exact (m3 b hb').1)
theorem iwp_skip {R : Exit → St → σ → Prop} (h : R .normal st s) : Iwp P J c .skip R st s := fun _ _ _ _ _ _ hh hj => wpIn_skip ⟨st, s, _, _, _, h, hh, hj⟩
theorem iwp_ret {R : Exit → St → σ → Prop} (h : R .ret st s) : Iwp P J c .ret R st s := fun _ _ _ _ _ _ hh hj => wpIn_ret ⟨st, s, _, _, _, h, hh, hj⟩
theorem iwp_exit {id : Nat} {R : Exit → St → σ → Prop} (h : R (.exit id) st s) : Iwp P J c (.exit id) R st s := fun _ _ _ _ _ _ hh hj => wpIn_exit ⟨st, s, _, _, _, h, hh, hj⟩
theorem iwp_seq {x y : Code} {R : Exit → St → σ → Prop} (h : Iwp P J c x (fun e st' s' => match e with | .normal => Iwp P J c y R st' s' | e => R e st' s') st s) : Iwp P J c (.seq x y) R st s := fun m Y a w blk val hh hj =>
  wpIn_seq (wpIn_mono (h m Y a w blk val hh hj) fun e a' w' ⟨st', s', Y', blk', val', hR, hh', hj'⟩ => by
    cases e with
    | normal => exact hR m Y' a' w' blk' val' hh' hj'
    | _ => exact ⟨st', s', Y', blk', val', hR, hh', hj'⟩)
theorem iwp_cond {y : Operand} {x z : Code} {R : Exit → St → σ → Prop} {b : Bool} (hc : st.ev y = T.bool b) (ht : b = true → Iwp P J c x R st s) (hf : b = false → Iwp P J c z R st s) : Iwp P J c (.cond y x z) R st s := by
  intro m Y a w blk val hh hj
  have hv : a.eval y = .bool b := hh.inner.bool hc
  exact wpIn_cond_split hv (fun h => ht h m Y a w blk val hh hj) (fun h => hf h m Y a w blk val hh hj)
theorem iwp_block {id : Nat} {x : Code} {R : Exit → St → σ → Prop} (h : Iwp P J c x (fun e st' s' => match e with | .exit id' => if id' = id then R .normal st' s' else R (.exit id') st' s' | e => R e st' s') st s) : Iwp P J c (.block id x) R st s := fun m Y a w blk val hh hj =>
  wpIn_block (wpIn_mono (h m Y a w blk val hh hj) fun e a' w' ⟨st', s', Y', blk', val', hR, hh', hj'⟩ => by
    cases e with
    | exit id' =>
      by_cases hid : id' = id
      · simp only [hid, if_true] at hR
        simp only [Exit.inBlock, hid, if_true]
        exact ⟨st', s', Y', blk', val', hR, hh', hj'⟩
      · simp only [hid, if_false] at hR
        simp only [Exit.inBlock, hid, if_false]
        exact ⟨st', s', Y', blk', val', hR, hh', hj'⟩
    | _ => exact ⟨st', s', Y', blk', val', hR, hh', hj'⟩)
theorem HoldI.le {st' : St} (h : HoldI c Y st a w blk val) (hl : ∀ c', (∀ b, c'.mine b → c'.ok b) → Le c' st st') : ∃ blk' val', HoldI c Y st' a w blk' val' := by
  obtain ⟨blk', val', hk⟩ := hl (innerCx c Y a w blk) h.mineOk a w ⟨_, _, h.inner⟩
  have hok : ∀ b, b < w.heap.size → okOf (innerCx c Y a w blk) blk' b → (c.ok b ∨ Y b) ∧ ∀ s, blk' s ≠ some b := fun b hb ho => ⟨by
    rcases ho.1 with q | q
    · exact q
    · have : w.heap.size ≤ b := q
      omega, ho.2⟩
  refine ⟨blk', val', h.size0, h.data, h.marks, h.newY, hk.size, fun k b hb => ?_, hk.inj, fun k => (hk.site k).keepOk (Nat.le_refl _) (fun _ _ _ h => h) (fun _ _ => rfl) hok, fun t => (hk.tmp t).keepOk (Nat.le_refl _) (fun _ _ _ h => h) hok⟩
  obtain ⟨n1, n2⟩ := hk.new k b hb
  rcases n1 with q | q | ⟨d, hd, hdb⟩
  · have : w.heap.size ≤ b := q
    omega
  · obtain ⟨j, hj⟩ := q
    exact h.new j b hj
  · obtain ⟨ms, m1, m2, m3⟩ := h.marks
    rw [m1] at hd
    obtain ⟨b', hb', rfl⟩ := List.mem_map.1 hd
    cases hdb
    exact (m3 b hb').1
theorem iwp_loop {β : Type} {x : Code} {R : Exit → St → σ → Prop} (Fs : β → St) (L : β → σ) (I : β → Prop) (μ : β → Nat) (x0 : β) (h0 : I x0) (hl : ∀ c', (∀ b, c'.mine b → c'.ok b) → Le c' st (Fs x0)) (hL : L x0 = s)
    (hr : ∀ y, I y → Iwp P J c x (fun e st' s' => match e with | .normal => ∃ y', I y' ∧ μ y' < μ y ∧ s' = L y' ∧ ∀ c', (∀ b, c'.mine b → c'.ok b) → Le c' st' (Fs y') | e => R e st' s') (Fs y) (L y)) : Iwp P J c (.loop x) R st s := by
  intro m Y a w blk val hh hj b k cs hro hb hrm
  have key : ∀ (n : Nat) (y : β), μ y = n → I y → ∀ (Y : Nat → Prop) (a : Act) (w : World) (blk : Nat → Option Nat) (val : Nat → Value), HoldI c Y (Fs y) a w blk val → J Y (L y) w →
      ∃ e a' w', (∃ st' s' Y' blk' val', R e st' s' ∧ HoldI c Y' st' a' w' blk' val' ∧ J Y' s' w') ∧ ArrivesIn (Machine.fenced P Fence.wide) P (lone (b.atR a (.code x :: .inLoop x :: k)) cs w) b k cs e a' w' := by
    intro n
    induction n using Nat.strongRecOn with
    | _ n ih =>
      intro y hy hI Y a w blk val hh hj
      obtain ⟨e, a1, w1, ⟨st', s', Y', blk', val', hR, hh', hj'⟩, harr⟩ := hr y hI m Y a w blk val hh hj b (.inLoop x :: k) cs hro hb hrm
      cases e with
      | normal =>
        obtain ⟨y', hI', hlt, rfl, hle⟩ := hR
        obtain ⟨blk2, val2, hh2⟩ := hh'.le hle
        obtain ⟨e2, a2, w2, hq, harr2⟩ := ih (μ y') (by omega) y' rfl hI' Y' a1 w1 blk2 val2 hh2 hj'
        exact ⟨e2, a2, w2, hq, .of_steps (StepsIn.trans harr (.one (fenced_calm hb hrm rfl) stepR_inLoop)) harr2⟩
      | exit id => exact ⟨_, a1, w1, ⟨st', s', Y', blk', val', hR, hh', hj'⟩, .pass (x := .inLoop x) rfl (fun _ _ => .inl (by simp)) harr⟩
      | goto l => exact ⟨_, a1, w1, ⟨st', s', Y', blk', val', hR, hh', hj'⟩, .pass (x := .inLoop x) rfl (fun _ _ => .inl (by simp)) harr⟩
      | ret => exact ⟨_, a1, w1, ⟨st', s', Y', blk', val', hR, hh', hj'⟩, .pass (x := .inLoop x) rfl (fun _ _ => .inl (by simp)) harr⟩
      | panic ch => exact ⟨_, a1, w1, ⟨st', s', Y', blk', val', hR, hh', hj'⟩, .pass (x := .inLoop x) rfl (fun _ _ => .inl (by simp)) harr⟩
      | outgrown => exact ⟨_, a1, w1, ⟨st', s', Y', blk', val', hR, hh', hj'⟩, .pass (x := .inLoop x) rfl (fun _ _ => .inl (by simp)) harr⟩
  obtain ⟨blk0, val0, hh0⟩ := hh.le hl
  obtain ⟨e, a', w', hq, harr⟩ := key _ x0 rfl h0 Y a w blk0 val0 hh0 (by rw [hL]; exact hj)
  exact ⟨e, a', w', hq, .of_steps (.one (fenced_calm hb hrm rfl) stepR_loop) harr⟩
theorem HoldI.after {st' : St} {a' : Act} {w' : World} {blk' : Nat → Option Nat} {val' : Nat → Value} (hJ : JStep J) (hh : HoldI c Y st a w blk val) (hj : J Y s w) (hk : Hold (innerCx c Y a w blk) st' a' w' blk' val') : ∃ Y', HoldI c Y' st' a' w' blk' val' ∧ J Y' s w' := by
  have mineY : ∀ b, (innerCx c Y a w blk).mine b → Y b := fun b hb => by
    rcases hb with ⟨k, hk⟩ | ⟨d, hd, hdb⟩
    · exact hh.new k b hk
    · obtain ⟨ms, m1, m2, m3⟩ := hh.marks
      rw [m1] at hd
      obtain ⟨b', hb', rfl⟩ := List.mem_map.1 hd
      cases hdb
      exact (m3 b hb').1
  have hs : w.heap.size ≤ w'.heap.size := hk.ext.size
  have hsame : ∀ g, g < w.heap.size → ¬ Y g → w'.heap[g]? = w.heap[g]? := fun g hg hY => hk.ext.block g hg fun hm => hY (mineY g hm)
  have hours : ∀ b, b < w'.heap.size → Ours (innerCx c Y a w blk) b → Y b ∨ (w.heap.size ≤ b ∧ b < w'.heap.size) := fun b hb ho => by
    rcases ho with q | q
    · exact .inr ⟨q, hb⟩
    · exact .inl (mineY b q)
  have hok : ∀ b, b < w'.heap.size → okOf (innerCx c Y a w blk) blk' b → (c.ok b ∨ (Y b ∨ (w.heap.size ≤ b ∧ b < w'.heap.size))) ∧ ∀ s, blk' s ≠ some b := fun b hb ho => ⟨by
    rcases ho.1 with (q | q) | q
    · exact .inl q
    · exact .inr (.inl q)
    · exact .inr (.inr ⟨q, hb⟩), ho.2⟩
  refine ⟨fun g => Y g ∨ (w.heap.size ≤ g ∧ g < w'.heap.size), ⟨Nat.le_trans hh.size0 hs, fun g hg => ?_, ?_, fun g hg => ?_, hk.size, fun k b hb => hours b (hk.new k b hb).2 (hk.new k b hb).1, hk.inj, fun k => ?_, fun t => ?_⟩, hJ Y s w w' hj hs ⟨hk.ext.os, hk.ext.tape, hk.ext.output⟩ hsame⟩
  · obtain ⟨d1, d2, d3⟩ := hh.data g hg
    refine ⟨d1, fun hY => ?_, ?_⟩
    · rcases hY with q | ⟨q, _⟩
      · exact d2 q
      · have := hh.size0; omega
    · rw [hsame g (Nat.lt_of_lt_of_le d1 hh.size0) d2]; exact d3
  · obtain ⟨ms, m1, m2, m3⟩ := hk.defers.marks
    exact ⟨ms, m1, m2, fun b hb => ⟨hours b (heap_lt (m3 b hb).2) (m3 b hb).1, (m3 b hb).2⟩⟩
  · rcases hg with hg | hg
    · exact Nat.lt_of_lt_of_le (hh.newY g hg) hs
    · exact hg.2
  · exact (hk.site k).keepOk (Nat.le_refl _) (fun _ _ _ h => h) (fun _ _ => rfl) hok
  · exact (hk.tmp t).keepOk (Nat.le_refl _) (fun _ _ _ h => h) hok
def Iops (P : Program) {σ : Type} (J : (Nat → Prop) → σ → World → Prop) (c : Cx) (ops rest : List Oper) (R : Exit → St → σ → Prop) (st : St) (s : σ) : Prop :=
  ∀ (m : Nat) (Y : Nat → Prop) (a : Act) (w : World) (blk : Nat → Option Nat) (val : Nat → Value), HoldI c Y st a w blk val → J Y s w →
    wpListIn Fence.wide m P ops.toArray (fun e a' w' => ∃ st' s' Y' blk' val', R e st' s' ∧ HoldI c Y' st' a' w' blk' val' ∧ J Y' s' w') rest a w
theorem iops_nil {ops : List Oper} {R : Exit → St → σ → Prop} (h : R .normal st s) : Iops P J c ops [] R st s := fun _ _ _ _ _ _ hh hj => ⟨st, s, _, _, _, h, hh, hj⟩
theorem iops_step {ops rest : List Oper} {o : Oper} {st' : St} {R : Exit → St → σ → Prop} (hJ : JStep J) (hg : o.guard = none) (h : ∀ c', StepOp P c' st o st') (hr : Iops P J c ops rest R st' s) : Iops P J c ops (o :: rest) R st s := by
  intro m Y a w blk val hh hj
  unfold wpListIn
  rw [if_pos (by simp [Region.wanted, hg])]
  refine (h (innerCx c Y a w blk) a w ⟨blk, val, hh.inner⟩).to ⟨.inl rfl, rfl⟩ fun a' w' ⟨blk', val', hk⟩ => ?_
  obtain ⟨Y', h1, h2⟩ := hh.after hJ hj hk
  exact hr m Y' a' w' blk' val' h1 h2
theorem iwp_region {l : List Oper} {id : Nat} {R : Exit → St → σ → Prop} (h : Iops P J c l l R st s) : Iwp P J c (.region id l.toArray false) R st s := fun m Y a w blk val hh hj => wpIn_region_lit (h m Y a w blk val hh hj)
def JYield (P : Program) {α : Type} (J : (Nat → Prop) → Bool × List α → World → Prop) (l : Nat) (ok : Nat → Prop) (enc : α → List D) (items : List α) : Prop :=
  ∀ (Y : Nat → Prop) (s : List α) (x : α) (us : List Value) (A : World), J Y (true, s) A → (s ++ [x]) <+: items → RepL A (fun b => ok b ∨ Y b) (enc x) us → ∀ m, YieldAt Fence.wide m P l us.toArray A fun e B =>
    ∃ b, e = .returned (.bool b) ∧ J Y (b, s ++ [x]) B ∧ A.heap.size ≤ B.heap.size ∧ SameIO A B ∧ ∀ g, Y g → B.heap[g]? = A.heap[g]?
theorem iops_yield {J : (Nat → Prop) → Bool × List α → World → Prop} {ops rest : List Oper} {R : Exit → St → Bool × List α → Prop} {s : List α} {l : Nat} {enc : α → List D} {items : List α} {x : α} {d : Nat} {fv : Operand} {ys : List Operand} {at_ : Array TypeId} {ty : TypeId} {pos : String} {after : Array Edge}
    (hy : JYield P J l c.ok enc items) (hdat : ∀ (Y : Nat → Prop) (t : Bool × List α) (B : World), J Y t B → (∀ g, Y g → g < B.heap.size) ∧ ∀ g, c.ok g → B.heap[g]? = c.w.heap[g]?) (hfv : st.ev fv = .d (.fn (.yield l) [])) (ha : ArgsD st.ev ys (enc x)) (hpre : (s ++ [x]) <+: items) (hd : Nat.blt d st.n = true)
    (h : ∀ b, Iops P J c ops rest R (st.put (some d) (T.bool b)) (b, s ++ [x])) : Iops P J c ops (⟨some d, .call ⟨.value fv, ys.toArray, at_⟩, ty, pos, after, none⟩ :: rest) R st (true, s) := by
  intro m Y a w blk val hh hj
  rw [Nat.blt_eq] at hd
  unfold wpListIn
  rw [if_pos (by simp [Region.wanted])]
  have hin := hh.inner
  obtain ⟨vs, hv, hvs⟩ := fn_inv (show Rep w _ (.fn (.yield l) []) (a.eval fv) from by have := hin.ev fv; rw [hfv] at this; exact this)
  have hvn : vs = [] := List.length_eq_zero_iff.1 (by rw [RepL.length hvs]; rfl)
  subst hvn
  have hargs : RepL w _ (enc x) (ys.map a.eval) := args_rep (fun y => hin.ev y) ha
  have hargs' : RepL w (fun b => c.ok b ∨ Y b) (enc x) (ys.map a.eval) := RepL.of (RepL.length hargs) fun j z v h1 h2 => (RepL.get hargs j z v h1 h2).ok fun b hb ho => by
    rcases ho.1 with q | q
    · exact q
    · have : w.heap.size ≤ b := q
      omega
  obtain ⟨fn, tmps, assign, body, hrun, hR⟩ := hy Y s x _ w hj hpre hargs' (m - 1)
  refine ⟨fun f _ => trivial, ?_⟩
  rw [Oper.semAt_eq _ _ _ (fun c hc => by cases hc)]
  have hex : (execOp a.eval ⟨some d, .call ⟨.value fv, ys.toArray, at_⟩, ty, pos, after, none⟩).run P w = .ok (.round l fn tmps assign body) w := by
    simp [execOp, resolve, hv, Deferred.ofValue, invoke]
    exact hrun
  rw [hex]
  refine ⟨fun hdp => by simp [Fence.wide] at hdp, hR.mono ?_⟩
  rintro e B ⟨b, rfl, hJ', hs, hio, hsame⟩
  obtain ⟨hY1, hD1⟩ := hdat Y _ B hJ'
  have hA : ∀ (b : Nat) (o : Obj), ((c.ok b ∨ Y b) ∧ ∀ s, blk s ≠ some b) → w.heap[b]? = some o → B.heap[b]? = some o := fun b o hb ho => by
    rcases hb.1 with q | q
    · rw [hD1 b q, ← (hh.data b q).2.2]; exact ho
    · rw [hsame b q]; exact ho
  obtain ⟨ms, m1, m2, m3⟩ := hh.marks
  refine h b m Y _ B blk val ⟨Nat.le_trans hh.size0 hs, fun g hg => ⟨(hh.data g hg).1, (hh.data g hg).2.1, hD1 g hg⟩, ⟨ms, m1, m2, fun b hb => ⟨(m3 b hb).1, by rw [hsame b (m3 b hb).1]; exact (m3 b hb).2⟩⟩, hY1, by simpa [Act.put, St.put] using hh.size, hh.new, hh.inj, fun k => (hh.site k).keepOk hs hA (fun b hb => hsame b (hh.new k b hb)) fun _ _ h => h, fun t => ?_⟩ hJ'
  rw [put_getD a d _ t (by rw [hh.size]; exact hd)]
  by_cases htd : t = d
  · subst htd
    simp only [St.put, Nat.beq_refl, cond_true, if_true]
    exact Rep.v _ rfl
  · have hb : Nat.beq t d = false := by rw [← Bool.not_eq_true]; exact fun e => htd (Nat.eq_of_beq_eq_true e)
    simp only [St.put, hb, cond_false, htd, if_false]
    exact (hh.tmp t).keepOk hs hA fun _ _ h => h
theorem Iwp.le {code : Code} {R : Exit → St → σ → Prop} {st' : St} (hl : ∀ c', (∀ b, c'.mine b → c'.ok b) → Le c' st st') (h : Iwp P J c code R st' s) : Iwp P J c code R st s := fun m Y a w blk val hh hj => by
  obtain ⟨blk', val', hh'⟩ := hh.le hl
  exact h m Y a w blk' val' hh' hj
theorem iops_of {ops rest : List Oper} {o : Oper} {st' : St} {R : Exit → St → σ → Prop} (hJ : JStep J) (hg : o.guard = none) (h : ∀ (c' : Cx) (ops rest : List Oper) (R : Exit → St → Prop), Aops P c' ops rest R st' → Aops P c' ops (o :: rest) R st) (hr : Iops P J c ops rest R st' s) : Iops P J c ops (o :: rest) R st s :=
  iops_step hJ hg (fun c' => step_of_aops hg fun ops rest R => h c' ops rest R) hr
theorem iwp_loopH {x : Code} {R : Exit → St → σ → Prop} {β : Type} (ts ms : List Nat) (sl : β → List (Nat × T)) (ss : β → List (Nat × Site)) (L : β → σ) (I : β → Prop) (μ : β → Nat) (x0 : β) (h0 : I x0) (hL : L x0 = s)
    (hl : ∀ c', Le c' st (headSt st ts (sl x0) (ss x0)))
    (hr : ∀ y, I y → Iwp P J c x (fun e st' s' => match e with | .normal => ∃ y', I y' ∧ μ y' < μ y ∧ s' = L y' ∧ ∀ c', Le c' st' (headSt st ts (sl y') (ss y')) | e => R e st' s') (headSt st ts (sl y) (ss y)) (L y)) : Iwp P J c (.loop x) R st s :=
  iwp_loop (fun y => headSt st ts (sl y) (ss y)) L I μ x0 h0 (fun c' _ => hl c') hL fun y hy m Y a w blk val hh hj => wpIn_mono (hr y hy m Y a w blk val hh hj) fun e a' w' ⟨st', s', Y', blk', val', hR, hh', hj'⟩ => ⟨st', s', Y', blk', val', by
    cases e with
    | normal => obtain ⟨y', h1, h2, h3, h4⟩ := hR; exact ⟨y', h1, h2, h3, fun c' _ => h4 c'⟩
    | _ => exact hR, hh', hj'⟩
end
open Go Go.RowKit

def tmpOf (sl : List (Nat × T)) (t : Nat) : T := match lookN t sl with | some x => x | none => .dead
def siteOf (ss : List (Nat × Site)) (k : Nat) : Site := match lookN k ss with | some x => x | none => .no
def cSt (n : Nat) (sl : List (Nat × T)) (ss : List (Nat × Site)) : St := { n := n, t := tmpOf sl, s := siteOf ss }
def renN (ren : List (Nat × Nat)) (k : Nat) : Nat := match lookN k ren with | some j => j | none => k
def hasK {α : Type} (k : Nat) (ss : List (Nat × α)) : Bool := match lookN k ss with | some _ => true | none => false
def refK (ss : List (Nat × Site)) : T → Bool
  | .ref k _ => hasK k ss
  | .rs k => hasK k ss
  | .own k _ _ _ => hasK k ss
  | _ => true
def siteK (ss : List (Nat × Site)) : Site → Bool
  | .tbox cs => cs.all (refK ss)
  | _ => true
def memK (k : Nat) (g : Nat → Nat) : List (Nat × Site) → Bool
  | [] => false
  | p :: ps => Nat.beq k (g p.1) || memK k g ps
def nodupK (g : Nat → Nat) : List (Nat × Site) → Bool
  | [] => true
  | p :: ps => !memK (g p.1) g ps && nodupK g ps
def cOk (g : Nat → Nat) (sl : List (Nat × T)) (ss : List (Nat × Site)) : Bool := sl.all (fun p => refK ss p.2) && ss.all (fun p => siteK ss p.2) && nodupK g ss
def AllTG (s : St) (g : Nat → Nat) : List (Nat × T) → Prop
  | [] => True
  | p :: ps => s.t p.1 = shiftT g p.2 ∧ AllTG s g ps
def AllSG (s : St) (g : Nat → Nat) : List (Nat × Site) → Prop
  | [] => True
  | p :: ps => s.s (g p.1) = shiftS g p.2 ∧ AllSG s g ps
theorem AllTG.mem {s : St} {g : Nat → Nat} : ∀ {l : List (Nat × T)}, AllTG s g l → ∀ p ∈ l, s.t p.1 = shiftT g p.2
  | [], _, p, h => by cases h
  | q :: l, h, p, hp => by
    rcases List.mem_cons.1 hp with rfl | hp
    · exact h.1
    · exact AllTG.mem h.2 p hp
theorem AllSG.mem {s : St} {g : Nat → Nat} : ∀ {l : List (Nat × Site)}, AllSG s g l → ∀ p ∈ l, s.s (g p.1) = shiftS g p.2
  | [], _, p, h => by cases h
  | q :: l, h, p, hp => by
    rcases List.mem_cons.1 hp with rfl | hp
    · exact h.1
    · exact AllSG.mem h.2 p hp
theorem memK_of {g : Nat → Nat} {k : Nat} {z : Site} : ∀ {l : List (Nat × Site)}, (k, z) ∈ l → memK (g k) g l = true
  | [], h => by cases h
  | q :: l, h => by
    simp only [memK, Bool.or_eq_true]
    rcases List.mem_cons.1 h with rfl | h
    · exact .inl (Nat.beq_refl _)
    · exact .inr (memK_of h)
theorem nodupK_spec {g : Nat → Nat} {k k' : Nat} {z z' : Site} : ∀ {l : List (Nat × Site)}, nodupK g l = true → (k, z) ∈ l → (k', z') ∈ l → g k = g k' → k = k'
  | [], _, h, _, _ => by cases h
  | q :: l, h, h1, h2, e => by
    simp only [nodupK, Bool.and_eq_true, Bool.not_eq_true'] at h
    rcases List.mem_cons.1 h1 with e1 | h1 <;> rcases List.mem_cons.1 h2 with e2 | h2
    · have := e1.trans e2.symm; cases this; rfl
    · have := memK_of (g := g) h2
      rw [← e, show k = q.1 by rw [← e1], h.1] at this; cases this
    · have := memK_of (g := g) h1
      rw [e, show k' = q.1 by rw [← e2], h.1] at this; cases this
    · exact nodupK_spec h.2 h1 h2 e
theorem le_cst {c : Cx} {s : St} {n : Nat} (g : Nat → Nat) (sl : List (Nat × T)) (ss : List (Nat × Site)) (hn : s.n = n) (hT : AllTG s g sl) (hS : AllSG s g ss) (hok : cOk g sl ss = true) (hpin : ∀ k b, c.pin k = some b → g k = k ∧ hasK k ss = true) : Le c s (cSt n sl ss) := by
  subst hn
  simp only [cOk, Bool.and_eq_true] at hok
  obtain ⟨⟨o1, o2⟩, o3⟩ := hok
  intro a w ⟨blk, val, hh⟩
  obtain ⟨blk', hblk'⟩ : ∃ blk' : Nat → Option Nat, blk' = fun k => match lookN k ss with | some _ => blk (g k) | none => none := ⟨_, rfl⟩
  have hb : ∀ k b, blk' k = some b → blk (g k) = some b ∧ ∃ z, lookN k ss = some z := fun k b h => by
    rw [hblk'] at h
    cases hl : lookN k ss with
    | none => simp [hl] at h
    | some z => simp [hl] at h; exact ⟨h, z, rfl⟩
  have hok' : ∀ b, b < w.heap.size → okOf c blk b → okOf c blk' b := fun b _ hb' => ⟨hb'.1, fun k hk => hb'.2 _ (hb k b hk).1⟩
  have key : ∀ k, hasK k ss = true → blk' k = blk (g k) ∧ s.s (g k) = shiftS g (siteOf ss k) := fun k hk => by
    unfold hasK at hk
    cases hl : lookN k ss with
    | none => rw [hl] at hk; cases hk
    | some z =>
      refine ⟨by rw [hblk']; simp [hl], ?_⟩
      simp only [siteOf, hl]
      exact hS.mem _ (lookN_mem hl)
  have hk2 : ∀ x : T, refK ss x = true → ∀ k, (x = .rs k ∨ (∃ o, x = .ref k o) ∨ ∃ r f g, x = .own k r f g) → blk' k = blk (g k) ∧ val (g k) = val (g k) ∧ s.s (g k) = shiftS g (siteOf ss k) := fun x hx k hk => by
    have : hasK k ss = true := by
      rcases hk with rfl | ⟨o, rfl⟩ | ⟨_, _, _, rfl⟩
      · exact hx
      · exact hx
      · exact hx
    exact ⟨(key k this).1, rfl, (key k this).2⟩
  refine ⟨blk', fun k => val (g k), hh.ext, hh.defers, hh.size, fun k b h => hh.new _ b (hb k b h).1, fun k k' b h h' => ?_, fun k b h => ?_, fun k => ?_, fun t => ?_⟩
  · obtain ⟨h1, z, hz⟩ := hb k b h
    obtain ⟨h1', z', hz'⟩ := hb k' b h'
    exact nodupK_spec o3 (lookN_mem hz) (lookN_mem hz') (hh.inj _ _ b h1 h1')
  · obtain ⟨p1, p2, p3⟩ := hh.pin k b h
    obtain ⟨e1, e2⟩ := hpin k b h
    obtain ⟨k1, k2⟩ := key k e2
    rw [e1] at k1 k2
    refine ⟨by rw [k1]; exact p1, ?_, p3⟩
    show (siteOf ss k).isVar = true
    rw [k2] at p2
    cases hz : siteOf ss k <;> rw [hz] at p2 <;> first | rfl | cases p2
  · show SiteIn w _ blk' _ (siteOf ss) (blk' k) _ (siteOf ss k)
    cases hl : lookN k ss with
    | none =>
      have e1 : blk' k = none := by rw [hblk']; simp [hl]
      have e2 : siteOf ss k = .no := by simp [siteOf, hl]
      rw [e1, e2]; rfl
    | some z =>
      have hz : siteOf ss k = z := by simp [siteOf, hl]
      have h1 := hh.site (g k)
      obtain ⟨k1, k2⟩ := key k (by simp [hasK, hl])
      rw [k2, hz] at h1
      rw [k1, hz]
      refine h1.unshift hok' fun cs hcs y hy j hj => hk2 y ?_ j hj
      have := List.all_eq_true.1 o2 _ (lookN_mem hl)
      rw [hcs] at this
      exact List.all_eq_true.1 (by simpa [siteK] using this) y hy
  · have h1 := hh.tmp t
    show RepT w _ blk' _ (siteOf ss) (tmpOf sl t) _
    cases hl : lookN t sl with
    | none => simp only [tmpOf, hl]; trivial
    | some x =>
      simp only [tmpOf, hl]
      rw [hT.mem _ (lookN_mem hl)] at h1
      exact h1.unshift hok' (hk2 x (by have := List.all_eq_true.1 o1 _ (lookN_mem hl); exact this))
def kvS (p : Nat × Site) : Nat × Bool := (p.1, p.2.isVar)
theorem siteOf_var : ∀ {l l' : List (Nat × Site)}, l.map kvS = l'.map kvS → ∀ k, (siteOf l k).isVar = (siteOf l' k).isVar
  | [], [], _, _ => rfl
  | [], _ :: _, h, _ => by cases h
  | _ :: _, [], h, _ => by cases h
  | p :: l, q :: l', h, k => by
    simp only [List.map_cons, List.cons.injEq, kvS, Prod.mk.injEq] at h
    obtain ⟨⟨h1, h2⟩, h3⟩ := h
    have ih := siteOf_var h3 k
    simp only [siteOf] at ih ⊢
    simp only [lookN, h1]
    cases Nat.beq k q.1
    · exact ih
    · exact h2
def upL (N : Nat) (ss : List (Nat × Site)) : List (Nat × Site) := ss.map fun p => (N + p.1, shiftS (N + ·) p.2)
theorem lookN_up {N k : Nat} : ∀ {ss : List (Nat × Site)}, lookN k (upL N ss) = if N ≤ k then (lookN (k - N) ss).map (shiftS (N + ·)) else none
  | [] => by simp [upL, lookN]
  | p :: ss => by
    have ih := lookN_up (N := N) (k := k) (ss := ss)
    simp only [upL, List.map_cons, lookN] at ih ⊢
    by_cases hk : k = N + p.1
    · subst hk
      simp [Nat.beq_refl]
    · have h1 : Nat.beq k (N + p.1) = false := by rw [← Bool.not_eq_true]; exact fun e => hk (Nat.eq_of_beq_eq_true e)
      rw [h1, cond_false, ih]
      by_cases hN : N ≤ k
      · have h2 : Nat.beq (k - N) p.1 = false := by rw [← Bool.not_eq_true]; intro e; have := Nat.eq_of_beq_eq_true e; omega
        rw [h2, cond_false]
      · simp [hN]
theorem up_dead {N n : Nat} {st : St} {ss : List (Nat × Site)} (hn : st.n = n) : upSt N (deadSt st (siteOf ss)) = cSt n [] (upL N ss) := by
  subst hn
  simp only [upSt, deadSt, cSt, St.mk.injEq, true_and]
  refine ⟨rfl, funext fun k => ?_⟩
  simp only [upS, siteOf, lookN_up]
  cases hb : Nat.ble N k with
  | true =>
    have := Nat.le_of_ble_eq_true hb
    rw [if_pos this]
    cases lookN (k - N) ss <;> rfl
  | false =>
    have : ¬ N ≤ k := fun h => by rw [(by rw [Nat.ble_eq]; exact h : Nat.ble N k = true)] at hb; cases hb
    rw [if_neg this]; rfl
def pinsOk (N : Nat) (ren : List (Nat × Nat)) (ss ss' : List (Nat × Site)) : Bool := ss.all fun p => !p.2.isVar || (Nat.beq (renN ren (N + p.1)) (N + p.1) && hasK (N + p.1) ss')
theorem le_round {c : Cx} {s : St} {N n : Nat} {sl : List (Nat × T)} {ss0 : List (Nat × Site)} (ren : List (Nat × Nat)) (ss : List (Nat × Site)) (hpin : ∀ k b, c.pin k = some b → (Nat.ble N k && ((cSt n sl ss0).s (k - N)).isVar) = true) (hn : s.n = n) (hS : AllSG s (renN ren) (upL N ss)) (hok : (cOk (renN ren) [] (upL N ss) && pinsOk N ren ss0 (upL N ss)) = true) :
    Le c s (upSt N (deadSt (cSt n sl ss0) (siteOf ss))) := by
  rw [Bool.and_eq_true] at hok
  rw [up_dead (n := n) rfl]
  refine le_cst (renN ren) [] (upL N ss) hn trivial hS hok.1 fun k b hk => ?_
  have h1 := hpin k b hk
  rw [Bool.and_eq_true] at h1
  have hN := Nat.le_of_ble_eq_true h1.1
  have h2 : (siteOf ss0 (k - N)).isVar = true := h1.2
  cases hl : lookN (k - N) ss0 with
  | none => simp [siteOf, hl] at h2; cases h2
  | some z =>
    simp only [siteOf, hl] at h2
    have h3 := List.all_eq_true.1 hok.2 _ (lookN_mem hl)
    simp only [h2, Bool.not_true, Bool.false_or, Bool.and_eq_true] at h3
    rw [show N + (k - N) = k by omega] at h3
    exact ⟨Nat.eq_of_beq_eq_true h3.1, h3.2⟩
section
variable {P : Program} {w0 : Cx} {s : St} {ev : Operand → T} {ty : TypeId} {pos : String} {after : Array Edge}
end
section
variable {P : Program} {w0 : Cx} {n : Nat} {s : Nat → Site} {ev : Operand → T} {dst : Option Tmp} {ty : TypeId} {pos : String} {after : Array Edge} {g : Option (Nat × Bool)}
theorem q_buildA {t m e sz : Nat} {z : Value} {parts : List (Nat × Operand)} {pds : List (Nat × D)} {cs : List D} (hp : arB P t m e sz = true) (hz : zrB P t z) (h1 : z.cells.toList.all Value.oneCell' = true)
    (hpd : PartsD ev parts pds) (hok : fillOk (fun i => some (i * sz, sz)) (constD z).length pds) (hcs : fillD (fun i => some (i * sz, sz)) (constD z) pds = cs) : QOp P w0 n s ev ⟨dst, .build t parts.toArray, ty, pos, after, g⟩ (.d (.agg cs)) :=
  .mk fun a w ok blk val h _ hnew => by
    subst hcs
    obtain ⟨hz1, hz2⟩ := constD_rep (w := w) (ok := ok) h1
    obtain ⟨out, k1, k2, k3⟩ := fill_rep h (pl := fun i => some (i * sz, sz)) (cells := z.cells) hpd hz1 hz2 hok
    refine ⟨.agg out, w, ?_, Ext.refl w, ?_⟩
    · obtain ⟨i, hi, hsz⟩ := arB_info hp
      have hc : P.cellsOf e = sz := by simp [Program.cellsOf, hi, hsz]
      have hr := run_cellsOf (P := P) (t := e) (by rw [hi]; rfl) w
      rw [hc] at hr
      simp only [execOp, Instr.build, Sem.run_bind, run_zero hz, Result.andThen_ok, run_underlying (arB_under hp), hr]
      have : (parts.toArray.map fun (x : Nat × Operand) => (x.1, a.eval x.2)).toList = parts.map fun (i, y) => (i, a.eval y) := by simp
      rw [this]
      simp only [k1]
      simp
    · have := Rep.agg (w := w) (ok := ok) _ out.toList k2.length (fun j d hd => k3 d (List.mem_of_getElem? hd)) fun j d v h1 h2 => k2.get j d v h1 h2
      show Rep _ _ _ _
      simpa using this
end
section
variable {P : Program} {w0 : Cx} {st : St}
end
open Go Go.RowKit

section
variable {P : Program} {w0 : Cx} {n : Nat} {s : Nat → Site} {ev : Operand → T} {dst : Option Tmp} {ty : TypeId} {pos : String} {after : Array Edge} {g : Option (Nat × Bool)}
end
open Go Go.RowKit

section
variable {P : Program} {α σ : Type} {J : (Nat → Prop) → σ → World → Prop} {c : Cx} {st : St} {a : Act} {w A B : World} {blk : Nat → Option Nat} {val : Nat → Value} {Y : Nat → Prop} {s : σ}

end
open Go Go.RowKit

section
variable {w0 : Cx} {st : St}

end
open Go Go.RowKit

section
variable {P : Program} {w0 : Cx} {n : Nat} {s : Nat → Site} {ev : Operand → T} {dst : Option Tmp} {ty : TypeId} {pos : String} {after : Array Edge} {g : Option (Nat × Bool)}
end
section
variable {P : Program} {w0 : Cx} {ops : List Oper} {rest : List Oper} {R : Exit → St → Prop} {st : St} {ty : TypeId} {pos : String} {after : Array Edge}
end
section
variable {P : Program} {w0 : Cx} {n : Nat} {s : Nat → Site} {ev : Operand → T} {ty : TypeId} {pos : String} {after : Array Edge}
end
section
variable {w0 : Cx} {st : St}
end
open Go Go.RowKit

section
variable {P : Program} {w0 : Cx} {n : Nat} {s : Nat → Site} {ev : Operand → T} {dst : Option Tmp} {ty : TypeId} {pos : String} {after : Array Edge} {g : Option (Nat × Bool)}
end
open Go Go.RowKit

section
variable {P : Program} {w0 : Cx} {n : Nat} {s : Nat → Site} {ev : Operand → T} {dst : Option Tmp} {ty : TypeId} {pos : String} {after : Array Edge} {g : Option (Nat × Bool)}
theorem e0_inv {w : World} {ok : Nat → Prop} {v : Value} (h : Rep w ok .e0 v) : ∃ A, v = .slice A 0 0 := by
  generalize hd : D.e0 = d at h
  cases h <;> first | (cases hd; done) | exact ⟨_, rfl⟩
theorem q_empty0 {t e sz : Nat} {z : Value} (ht : slB P t e sz = true) (hz : zrB P e z) : QOp P w0 n s ev ⟨dst, .buildSlice t 0 #[], ty, pos, after, g⟩ (.d .e0) :=
  .mk fun a w ok blk val h _ hnew => by
    obtain ⟨i, hi, hsi⟩ := slB_info ht
    refine ⟨.slice (some ⟨w.heap.size, 0, none⟩) 0 0, w.alloc (.cells #[] e), ?_, (Ext.refl w).alloc _, Rep.e0 _⟩
    have hr0 : Array.range 0 = #[] := rfl
    simp [execOp, Instr.buildSlice, run_underlying (slB_under ht), sizeOf, my_typeInfo hi, hr0, Instr.fill, newRow]
theorem q_append0 {t e sz b m : Nat} {z : Value} {y x : Operand} {news : List (List D)} (ht : slB P t e sz = true) (hz : zrB P e z) (hb : byB P e b = true) (hzs : z.cells.size = sz) (hs0 : 0 < sz) (hy : ev y = .d .e0) (hx : ev x = .d (.sl sz news)) (hm : news.length = m)
    (hbm : m * b ≤ 140737488355328) (hmax : m ≤ 9223372036854775807) : QOp P w0 n s ev ⟨dst, .call ⟨.builtin .append, #[y, x], #[t, t]⟩, ty, pos, after, g⟩ (.d (.sl sz news)) :=
  .mk fun a w ok blk val h _ hnew => by
    subst hm
    obtain ⟨i, hi, hsi⟩ := slB_info ht
    obtain ⟨i', hi', hbi⟩ := byB_info hb
    rw [hi] at hi'; cases hi'
    obtain ⟨A0, hv0⟩ := e0_inv (show Rep w ok .e0 (a.eval y) by have := h y; rw [hy] at this; exact this)
    obtain ⟨A, cap', hxv, hnx, hcapx, hxs, hxsc, hxr⟩ := sl_inv (show Rep w ok (.sl sz news) (a.eval x) by have := h x; rw [hx] at this; exact this)
    by_cases hn0 : news = []
    · subst hn0
      simp only [List.length_nil] at hxv
      have hrun : (Builtin.append_ #[t, t] ty #[a.eval y, a.eval x]).run P w = .ok (.slice A0 0 0) w := by
        rw [hv0, hxv]
        cases A0 with
        | none => cases A <;> simp [Builtin.append_, run_underlying (slB_under ht), sizeOf, my_typeInfo hi, Builtin.lenOf, Builtin.firstCells, loadCells, loadCellsFrom]
        | some a0 => cases A <;> simp [Builtin.append_, run_underlying (slB_under ht), sizeOf, my_typeInfo hi, Builtin.lenOf, Builtin.firstCells, loadCells, loadCellsFrom, storeCells]
      exact ⟨.slice A0 0 0, w, by simp [execOp, resolve, invoke, builtin, hrun], Ext.refl w, Rep.emp _ _ _ (Nat.zero_le _)⟩
    rcases hxr with hnil | ⟨b', off, vs, hA, hb', hok', hc', hr'⟩
    · exact absurd hnil hn0
    ·
      have hpos : 0 < news.length := List.length_pos_iff.2 hn0
      let nv : List Value := (List.range (news.length * sz)).map fun q => vs (q / sz) (q % sz)
      have hnvl : nv.length = news.length * i.size := by simp [nv, hsi]
      have hnv : ∀ q u, nv[q]? = some u → ∃ x d, news[q / sz]? = some x ∧ x[q % sz]? = some d ∧ u = vs (q / sz) (q % sz) := fun q u hq => by
        have hql : q < news.length * sz := by have := (List.getElem?_eq_some_iff.1 hq).1; rw [hnvl, hsi] at this; exact this
        have hqd : q / sz < news.length := Nat.div_lt_of_lt_mul (by rw [Nat.mul_comm]; exact hql)
        have hx0 := List.getElem?_eq_getElem hqd
        have hqm : q % sz < (news[q / sz]).length := by rw [hxs _ _ hx0]; exact Nat.mod_lt _ hs0
        simp [nv, hql] at hq
        exact ⟨_, _, hx0, List.getElem?_eq_getElem hqm, hq.symm⟩
      have hcells : ∀ q u, nv[q]? = some u → w.cell? ((⟨b', off, none⟩ : Addr).add q) = some u := fun q u hq => by
        obtain ⟨x, d, h1, h2, rfl⟩ := hnv q u hq
        have := hc' _ x _ d h1 h2
        rw [addr_add, show off + q = off + q / sz * sz + q % sz by have := Nat.div_add_mod q sz; rw [Nat.mul_comm] at this; omega]
        exact this
      have hbm' : news.length * i.bytes ≤ 140737488355328 := by rw [hbi]; exact hbm
      have hrun : ∃ k cs, k = grownCap w news.length 0 e ∧ cs = nv.toArray ++ Builtin.zeroCells z.cells (k - news.length) ∧ (Builtin.append_ #[t, t] ty #[a.eval y, a.eval x]).run P w = .ok (.slice (some ⟨w.heap.size, 0, none⟩) news.length k) (w.drew.alloc (.cells cs e)) := by
        rw [hv0, hxv, hA]
        cases A0 with
        | none =>
          have hr := run_append_nil (P := P) w t ty e i z (slB_under ht) hi (zrB_info hz hi) ⟨b', off, none⟩ news.length cap' nv hnvl hcells hpos (by omega) (by omega)
          exact ⟨_, _, rfl, rfl, hr⟩
        | some a0 =>
          have hr := run_append_grow (P := P) w t ty e i z (slB_under ht) hi (zrB_info hz hi) a0 0 0 [] (by simp) (fun j u hu => by simp at hu) ⟨b', off, none⟩ news.length cap' nv hnvl hcells (by omega) (by omega) (by
            rw [Nat.zero_add]; exact growslice_fits hpos hbm')
          simp only [Nat.zero_add, Array.empty_append] at hr
          exact ⟨_, _, rfl, rfl, hr⟩
      obtain ⟨k, cs, hk, hcs, hrun⟩ := hrun
      have hge : news.length ≤ k := by rw [hk]; exact grownCap_ge w _ 0 e
      have hkm : k ≤ maxLen := by rw [hk]; exact grownCap_le_maxLen w _ 0 e (by simp [maxLen]; omega)
      have hE : Ext w (w.drew.alloc (.cells cs e)) := (Ext.refl w).drew.alloc _
      have hblk : (w.drew.alloc (.cells cs e)).heap[w.heap.size]? = some (.cells cs e (0, 0)) := heap_alloc_new w.drew _
      refine ⟨_, _, by simp [execOp, resolve, invoke, builtin, hrun]; rfl, hE, ?_⟩
      refine Rep.sl sz news w.heap.size 0 k vs (heap_lt hblk) (hnew _ (Nat.le_refl _)) hge hkm hxs hxsc (fun j x q d hi hj => ?_) fun j x q d hi hj => (hr' j x q d hi hj).ext hE fun _ _ h => h
      rw [cell_of_block hblk, Nat.zero_add, hcs]
      have hil := (List.getElem?_eq_some_iff.1 hi).1
      have hjl : q < sz := by have := (List.getElem?_eq_some_iff.1 hj).1; rw [hxs j x hi] at this; exact this
      have hq : j * sz + q < news.length * sz := mul_lt_of hil hjl
      have e1 : (j * sz + q) / sz = j := by rw [Nat.add_comm, Nat.add_mul_div_right _ _ hs0, Nat.div_eq_of_lt hjl, Nat.zero_add]
      have e2 : (j * sz + q) % sz = q := by rw [Nat.add_comm, Nat.add_mul_mod_self_right, Nat.mod_eq_of_lt hjl]
      rw [Array.getElem?_append_left (by simp [nv, hq])]
      simp [nv, hq, e1, e2]
end
end Go.Proofs.YthpggoophcdgnaaDoor.Am
