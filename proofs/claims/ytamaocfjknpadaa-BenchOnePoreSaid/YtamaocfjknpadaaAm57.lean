/- The abstract machine, part 57: a call that hands back an aggregate with two rows of its own. Conditions: none. -/
import Derived.Test.YtamaocfjknpadaaAmF
set_option linter.unusedVariables false
set_option linter.unusedSimpArgs false
namespace Go.Proofs.Ytamaocfjknpadaa.Am
open Go Go.RowKit
def PCS2 (P : Program) (f : FuncId) (args : List T) (ss : List Site) (r : Value → T) (ss' : List Site) : Prop :=
  ∀ (w : World) (ok : Nat → Prop) (blk : Nat → Option Nat) (val : Nat → Value) (vs : List Value),
    (∀ i b, blk i = some b → b < w.heap.size ∧ ¬ ok b) → (∀ i j b, blk i = some b → blk j = some b → i = j) → (∀ i, ss.length ≤ i → blk i = none) →
    (∀ i, SiteIn w ok blk val (getS ss) (blk i) (val i) (getS ss i)) → RepLT w ok blk val (getS ss) args vs →
    Calls P f vs.toArray w fun e w' => ∃ V v blk' val', val' 1 = V ∧ e = .returned v ∧ (∀ i, (getS ss i).isVar = true → blk' i = blk i) ∧ (∀ i b, blk' i = some b → (∃ j, blk j = some b) ∨ w.heap.size ≤ b) ∧ (∀ i b, blk' i = some b → b < w'.heap.size) ∧
      (∀ i j b, blk' i = some b → blk' j = some b → i = j) ∧ ExtM ⟨w, ok, fun b => ∃ i, blk i = some b, fun _ => none, fun _ => none, none⟩ w' ∧
      (∀ i, SiteIn w' (fun b => (ok b ∨ w.heap.size ≤ b) ∧ ∀ i, blk' i ≠ some b) blk' val' (getS ss') (blk' i) (val' i) (getS ss' i)) ∧
      RepT w' (fun b => (ok b ∨ w.heap.size ≤ b) ∧ ∀ i, blk' i ≠ some b) blk' val' (getS ss') (r V) v
abbrev T.gh (k : Nat) (V : Value) : T := .own k ⟨true, false⟩ [] (fun _ u _ _ => u = V)
theorem Hold.ghost {w0 : Cx} {st : St} {a : Act} {w : World} {blk : Nat → Option Nat} {val : Nat → Value} (h : Hold w0 st a w blk val) (d : Tmp) (t : T) (ht : ∀ u, RepT w (okOf w0 blk) blk val st.s t u) : Hold w0 (st.put (some d) t) a w blk val := by
  refine ⟨h.ext, h.defers, h.size, h.new, h.inj, h.pin, h.site, fun i => ?_⟩
  show RepT _ _ _ _ _ (bif Nat.beq i d then t else st.t i) _
  cases Nat.beq i d with
  | true => exact ht _
  | false => exact h.tmp i
section
variable {P : Program} {w0 : Cx} {st : St}
theorem aops_callW2 {ops rest : List Oper} {R : Exit → St → Prop} {ty : TypeId} {pos : String} {after : Array Edge} {dst : Option Tmp} {f : FuncId} {ys : List Operand} {at_ : Array TypeId} {args : List T} {ss ss' : List Site} {r : Value → T} (d2 : Tmp) (ks rows : List Nat)
    (he : enB P f = true) (hr : PCS2 P f args ss r ss') (hc : ∀ V, callOk ks args ss (r V) ss' = true) (hd2 : Nat.blt d2 st.n = true) (hrow2 : ∃ e sz es, getS ss' 1 = .row e sz es) (hl2 : 1 < ss'.length) (hkd : kindOk ss ss' = true) (hrows : rowsOf ks ss 0 = rows)
    (hold : ∀ i, i < ss.length → st.s (nth ks i) = shiftS (nth ks) (getS ss i)) (hnew : ∀ i, ss.length ≤ i → i < ss'.length → st.s (nth ks i) = .no) (hd : (match dst with | none => true | some d => Nat.blt d st.n) = true)
    (hA : ∀ (a : Act) (w : World) (blk : Nat → Option Nat) (val : Nat → Value), Hold w0 st a w blk val → ∃ okA : Nat → Prop, (∀ b, okOf w0 blk b → okA b) ∧ (∀ i b, i < ss.length → blk (nth ks i) = some b → ¬ okA b) ∧
      RepLT w okA (fun i => if i < ss.length then blk (nth ks i) else none) (fun i => val (nth ks i)) (getS ss) args (ys.map a.eval) ∧ ((∀ b, okA b → okOf w0 blk b) ∨ ((∀ x ∈ ss', FlatS x) ∧ ∀ V, FlatT (r V))))
    (h : ∀ V, Aops P w0 ops rest R (((afterS st ks rows ss').put dst (shiftT (nth ks) (r V))).put (some d2) (T.gh (nth ks 1) V))) : Aops P w0 ops (⟨dst, .call ⟨.value (.func f), ys.toArray, at_⟩, ty, pos, after, none⟩ :: rest) R st := by
  subst hrows
  have hbr : ∀ V, belowT ss'.length (r V) = true := fun V => by have q := hc V; simp only [callOk, Bool.and_eq_true] at q; exact q.1.2
  have hc := hc undef
  simp only [callOk, Bool.and_eq_true] at hc
  obtain ⟨⟨⟨⟨⟨⟨hnd, hkl⟩, hle⟩, hba⟩, hbs⟩, -⟩, hbs'⟩ := hc
  have hkl := Nat.eq_of_beq_eq_true hkl
  have hle := Nat.le_of_ble_eq_true hle
  refine aops_step (K := fun s => ∃ V, s = ((afterS st ks (rowsOf ks ss 0) ss').put dst (shiftT (nth ks) (r V))).put (some d2) (T.gh (nth ks 1) V)) rfl (fun a w ⟨blk, val, hh⟩ => ?_) (fun _ ⟨V, e⟩ => e ▸ h V)
  have hbelow : ∀ (ss : List Site) (m i : Nat), ss.all (belowS m) = true → belowS m (getS ss i) = true := by
    intro ss
    induction ss with
    | nil => intro m i _; rfl
    | cons x xs ih =>
      intro m i h
      simp only [List.all_cons, Bool.and_eq_true] at h
      cases i with
      | zero => exact h.1
      | succ i => exact ih m i h.2
  obtain ⟨okA, hA1, hA2, hA3, hA4⟩ := hA a w blk val hh
  let blkC : Nat → Option Nat := fun i => if i < ss.length then blk (nth ks i) else none
  let valC : Nat → Value := fun i => val (nth ks i)
  have hrel : ∀ k, k < ss.length → blkC k = blk (nth ks k) ∧ valC k = val (nth ks k) ∧ st.s (nth ks k) = shiftS (nth ks) (getS ss k) := fun k hk => ⟨if_pos hk, rfl, hold k hk⟩
  have hbC : ∀ i b, blkC i = some b → i < ss.length ∧ blk (nth ks i) = some b := fun i b h => by
    simp only [blkC] at h
    split at h
    · exact ⟨by assumption, h⟩
    · cases h
  have hcall := hr w okA blkC valC (ys.map a.eval) (fun i b h => ⟨(hh.new _ _ (hbC i b h).2).2, hA2 i b (hbC i b h).1 (hbC i b h).2⟩)
    (fun i j b h1 h2 => nth_inj hnd (by have := (hbC i b h1).1; omega) (by have := (hbC j b h2).1; omega) (hh.inj _ _ b (hbC i b h1).2 (hbC j b h2).2)) (fun i hi => if_neg (by omega)) (fun i => by
      rcases Nat.lt_or_ge i ss.length with hi | hi
      · have h1 := hh.site (nth ks i)
        rw [hold i hi] at h1
        rw [(hrel i hi).1]
        refine h1.unshift (fun b _ h => hA1 b h) fun cs hcs y hy k hk => ?_
        have h2 := hbelow ss ss.length i hbs
        rw [hcs] at h2
        exact hrel k (belowT_lt (List.all_eq_true.1 h2 y hy) k hk)
      · rw [getS_none hi]; exact if_neg (by omega)) hA3
  refine ow_of_wp (fun c hc => by cases hc) ?_
  unfold Oper.wp
  rw [run_callValue (f := f) (cap := #[]) rfl rfl he]
  have harr : ((ys.map a.eval).toArray : Array Value) = ys.toArray.map a.eval ++ #[] := by simp
  rw [harr] at hcall
  refine hcall.mono ?_
  rintro e w' ⟨V, v, blk', val', hV, rfl, c1, c2, c4, c5, c6, hsites, hres⟩
  let blkN : Nat → Option Nat := fun k => match idxN k ks with | some i => blk' i | none => blk k
  let valN : Nat → Value := fun k => match idxN k ks with | some i => val' i | none => val k
  have hnN : ∀ i, i < ss'.length → blkN (nth ks i) = blk' i ∧ valN (nth ks i) = val' i := fun i hi => by
    have := idxN_nth hnd (i := i) (by omega)
    simp only [blkN, valN, this]
    exact ⟨trivial, trivial⟩
  have mineK : ∀ k b, idxN k ks = none → blk k = some b → ¬ ∃ i, blkC i = some b := fun k b hk hb ⟨i, hi⟩ => by
    have e := hh.inj _ _ b hb (hbC i b hi).2
    subst e
    rw [idxN_nth hnd (by have := (hbC i b hi).1; omega)] at hk; cases hk
  have hNb : ∀ k b, blkN k = some b → (idxN k ks = none ∧ blk k = some b) ∨ ∃ i, idxN k ks = some i ∧ blk' i = some b := fun k b h => by
    simp only [blkN] at h
    cases hk : idxN k ks with
    | none => rw [hk] at h; exact .inl ⟨rfl, h⟩
    | some i => rw [hk] at h; exact .inr ⟨i, rfl, h⟩
  have hokN : ∀ b, b < w.heap.size → okOf w0 blk b → okOf w0 blkN b := fun b hb h => ⟨h.1, fun k hk => by
    rcases hNb k b hk with ⟨_, h1⟩ | ⟨i, _, h1⟩
    · exact h.2 k h1
    · rcases c2 i b h1 with ⟨j, hj⟩ | h2
      · exact h.2 _ (hbC j b hj).2
      · omega⟩
  have hokR : (∀ b, okA b → okOf w0 blk b) → ∀ b, b < w'.heap.size → ((okA b ∨ w.heap.size ≤ b) ∧ ∀ i, blk' i ≠ some b) → okOf w0 blkN b := fun hq b _ h => by
    have h : (okOf w0 blk b ∨ w.heap.size ≤ b) ∧ ∀ i, blk' i ≠ some b := ⟨h.1.imp (hq b) id, h.2⟩
    refine ⟨h.1.elim (fun q => q.1) fun q => .inr (Nat.le_trans hh.ext.size q), fun k hk => ?_⟩
    rcases hNb k b hk with ⟨_, h1⟩ | ⟨i, _, h1⟩
    · rcases h.1 with q | q
      · exact q.2 k h1
      · have := (hh.new k b h1).2; omega
    · exact h.2 i h1
  have hsites : ∀ i, SiteIn w' (okOf w0 blkN) blk' val' (getS ss') (blk' i) (val' i) (getS ss' i) := fun i => by
    rcases hA4 with q | ⟨q, _⟩
    · exact (hsites i).okw (hokR q)
    · exact (hsites i).flat (flatS_at q i)
  have hres : RepT w' (okOf w0 blkN) blk' val' (getS ss') (r V) v := by
    rcases hA4 with q | ⟨_, q⟩
    · exact hres.ok' (hokR q)
    · exact hres.flat (q V)
  have keepB : ∀ b o, okOf w0 blk b → w.heap[b]? = some o → w'.heap[b]? = some o := fun b o hok ho => by
    rw [c6.block b (heap_lt ho) (fun ⟨i, hi⟩ => hok.2 _ (hbC i b hi).2)]; exact ho
  have keep : ∀ {d : D} {u : Value}, Rep w (okOf w0 blk) d u → Rep w' (okOf w0 blkN) d u := fun h => h.keep c6.size keepB fun b hb h => hokN b hb h
  -- a site that was handed in, as the caller names it
  have inKs : ∀ j i, idxN j ks = some i → nth ks i = j ∧ i < ss'.length := fun j i h => by
    obtain ⟨h1, h2⟩ := idxN_some h
    exact ⟨h2, by omega⟩
  have keepT : ∀ {y : T} {u : Value}, RepT w (okOf w0 blk) blk val st.s y u → RepT w' (okOf w0 blkN) blkN valN (afterS st ks (rowsOf ks ss 0) ss').s (killT (rowsOf ks ss 0) y) u := by
    have rowIn : ∀ (ss : List Site) (i j : Nat), j < ss.length → (∃ e sz es, getS ss j = .row e sz es) → memN (nth ks (i + j)) (rowsOf ks ss i) = true := by
      intro ss
      induction ss with
      | nil => intro i j h; simp at h
      | cons x xs ih =>
        intro i j hj hrow
        cases j with
        | zero =>
          obtain ⟨e, sz, es, hx⟩ := hrow
          simp only [getS] at hx
          subst hx
          simp [rowsOf, memN]
        | succ j =>
          have := ih (i + 1) j (by simpa using hj) hrow
          rw [show i + 1 + j = i + (j + 1) by omega] at this
          cases x <;> simp only [rowsOf, memN] <;> first | exact this | (rw [this]; simp)
    intro y u h
    cases y with
    | d y => exact keep h
    | ref k o =>
      simp only [killT]
      cases hkr : memN k (rowsOf ks ss 0) with
      | true => simp only [if_true]; trivial
      | false =>
        simp only [Bool.false_eq_true, if_false]
        obtain ⟨q1, b, q2, q3⟩ := h
        cases hk : idxN k ks with
        | none =>
          exact ⟨by simp only [afterS, hk]; exact killSite_row.1 q1, b, by simp only [blkN, hk]; exact q2, q3⟩
        | some i =>
          obtain ⟨e1, e2⟩ := inKs k i hk
          have him : i < ss.length := by
            rcases Nat.lt_or_ge i ss.length with h | h
            · exact h
            · exact absurd (by rw [← e1]; exact hnew i h e2) q1
          rcases kindOk_at hkd i him with ⟨v1, v2⟩ | ⟨v1, _⟩
          · refine ⟨?_, b, ?_, q3⟩
            · simp only [afterS, hk]
              cases hg : getS ss' i <;> rw [hg] at v2 <;> first | (cases v2; done) | simp [shiftS]
            · simp only [blkN, hk]
              rw [c1 i v1, (hrel i him).1, e1]; exact q2
          · have := rowIn ss 0 i him v1
            rw [Nat.zero_add, e1, hkr] at this; cases this
    | rs k =>
      simp only [killT]
      cases hkr : memN k (rowsOf ks ss 0) with
      | true => simp only [if_true]; trivial
      | false =>
        simp only [Bool.false_eq_true, if_false]
        obtain ⟨q1, q3⟩ := h
        cases hk : idxN k ks with
        | none => exact ⟨by simp only [afterS, hk]; exact killSite_row.2 q1, by simp only [valN, hk]; exact q3⟩
        | some i =>
          obtain ⟨e1, e2⟩ := inKs k i hk
          obtain ⟨e, sz, es, q1⟩ := q1
          have him : i < ss.length := by
            rcases Nat.lt_or_ge i ss.length with h | h
            · exact h
            · have := hnew i h e2; rw [e1, q1] at this; cases this
          have hr : ∃ e sz es, getS ss i = .row e sz es := by
            have := hold i him
            rw [e1, q1] at this
            cases hg : getS ss i <;> rw [hg] at this <;> simp [shiftS] at this ⊢
          have := rowIn ss 0 i him hr
          rw [Nat.zero_add, e1, hkr] at this; cases this
    | own k r g1 g2 =>
      simp only [killT]
      cases hkr : memN k (rowsOf ks ss 0) with
      | true => simp only [if_true]; trivial
      | false =>
        simp only [Bool.false_eq_true, if_false]
        obtain ⟨⟨⟨q0, q1⟩, qo⟩, q3⟩ := h
        cases hk : idxN k ks with
        | none => exact ⟨⟨⟨by simp only [afterS, hk]; exact killSite_row.1 q0, fun hr => by simp only [afterS, hk]; exact killSite_row.2 (q1 hr)⟩, qo⟩, by simp only [valN, blkN, hk]; exact q3.imp fun _ _ h => keep h⟩
        | some i =>
          obtain ⟨e1, e2⟩ := inKs k i hk
          have him : i < ss.length := by
            rcases Nat.lt_or_ge i ss.length with h | h
            · exact h
            · exact absurd (by rw [← e1]; exact hnew i h e2) q0
          cases hrr : r.row with
          | true =>
            obtain ⟨e, sz, es, q1⟩ := q1 hrr
            have hr : ∃ e sz es, getS ss i = .row e sz es := by
              have := hold i him
              rw [e1, q1] at this
              cases hg : getS ss i <;> rw [hg] at this <;> simp [shiftS] at this ⊢
            have := rowIn ss 0 i him hr
            rw [Nat.zero_add, e1, hkr] at this; cases this
          | false =>
            rcases kindOk_at hkd i him with ⟨v1, v2⟩ | ⟨v1, _⟩
            · refine ⟨⟨⟨?_, fun hr => by rw [hrr] at hr; cases hr⟩, qo⟩, ?_⟩
              · simp only [afterS, hk]
                cases hg : getS ss' i <;> rw [hg] at v2 <;> first | (cases v2; done) | simp [shiftS]
              · simp only [blkN, hk, hrr, cond_false] at q3 ⊢
                rw [c1 i v1, (hrel i him).1, e1]; exact q3.imp fun _ _ h => keep h
            · have := rowIn ss 0 i him v1
              rw [Nat.zero_add, e1, hkr] at this; cases this
    | un => exact h
    | dead => trivial
  have relN : ∀ k, k < ss'.length → blkN (nth ks k) = blk' k ∧ valN (nth ks k) = val' k ∧ (afterS st ks (rowsOf ks ss 0) ss').s (nth ks k) = shiftS (nth ks) (getS ss' k) := fun k hk => by
    obtain ⟨h1, h2⟩ := hnN k hk
    refine ⟨h1, h2, ?_⟩
    simp only [afterS, idxN_nth hnd (i := k) (by omega)]
  have hH : Hold w0 (afterS st ks (rowsOf ks ss 0) ss') a w' blkN valN := by
    refine ⟨⟨c6.os.trans hh.ext.os, c6.tape.trans hh.ext.tape, c6.output.trans hh.ext.output, Nat.le_trans hh.ext.size c6.size, fun k hk hm => ?_⟩, hh.kept fun j hj hn => c6.block j hj (fun ⟨i, hi⟩ => hn _ (hbC i j hi).2), hh.size, fun k b hb => ?_, fun i j b hi hj => ?_, fun k b hp => ?_, fun k => ?_, fun t => keepT (hh.tmp t)⟩
    · have hk' : k < w.heap.size := Nat.lt_of_lt_of_le hk hh.ext.size
      have e := c6.block k hk' (fun ⟨i, hi⟩ => by
        rcases (hh.new _ _ (hbC i k hi).2).1 with q | q
        · omega
        · exact hm q)
      exact e.trans (hh.ext.block k hk hm)
    · rcases hNb k b hb with ⟨_, h1⟩ | ⟨i, _, h1⟩
      · exact ⟨(hh.new k b h1).1, Nat.lt_of_lt_of_le (hh.new k b h1).2 c6.size⟩
      · refine ⟨?_, c4 i b h1⟩
        rcases c2 i b h1 with ⟨j, hj⟩ | h2
        · exact (hh.new _ _ (hbC j b hj).2).1
        · exact .inl (Nat.le_trans hh.ext.size h2)
    · rcases hNb i b hi with ⟨n1, h1⟩ | ⟨i', n1, h1⟩ <;> rcases hNb j b hj with ⟨n2, h2⟩ | ⟨j', n2, h2⟩
      · exact hh.inj i j b h1 h2
      · rcases c2 j' b h2 with ⟨q, hq⟩ | h3
        · exact absurd ⟨q, hq⟩ (mineK i b n1 h1)
        · have := (hh.new i b h1).2; omega
      · rcases c2 i' b h1 with ⟨q, hq⟩ | h3
        · exact absurd ⟨q, hq⟩ (mineK j b n2 h2)
        · have := (hh.new j b h2).2; omega
      · have := c5 i' j' b h1 h2
        subst this
        rw [← (inKs i i' n1).1, (inKs j i' n2).1]
    · obtain ⟨q1, q2, q3⟩ := hh.pin k b hp
      cases hk : idxN k ks with
      | none =>
        refine ⟨by simp only [blkN, hk]; exact q1, ?_, q3⟩
        simp only [afterS, hk]
        cases hs : st.s k <;> rw [hs] at q2 <;> first | (cases q2; done) | rfl
      | some i =>
        obtain ⟨e1, e2⟩ := inKs k i hk
        have him : i < ss.length := by
          rcases Nat.lt_or_ge i ss.length with h | h
          · exact h
          · have := hnew i h e2; rw [e1] at this; rw [this] at q2; cases q2
        rcases kindOk_at hkd i him with ⟨v1, v2⟩ | ⟨⟨e, sz, es, v1⟩, _⟩
        · refine ⟨by simp only [blkN, hk]; rw [c1 i v1, (hrel i him).1, e1]; exact q1, ?_, q3⟩
          simp only [afterS, hk]
          cases hg : getS ss' i <;> rw [hg] at v2 <;> first | (cases v2; done) | rfl
        · have := hold i him
          rw [e1, v1] at this
          rw [this] at q2; cases q2
    · cases hk : idxN k ks with
      | some i =>
        obtain ⟨e1, e2⟩ := inKs k i hk
        have h1 := hsites i
        obtain ⟨n1, n2, n3⟩ := relN i e2
        rw [e1] at n1 n2 n3
        rw [n1, n2, n3]
        refine h1.shift (fun _ _ h => h) fun cs hcs y hy j hj => ?_
        have h2 := hbelow ss' ss'.length i hbs'
        rw [hcs] at h2
        exact relN j (belowT_lt (List.all_eq_true.1 h2 y hy) j hj)
      | none =>
        have hs := hh.site k
        have e0 : (afterS st ks (rowsOf ks ss 0) ss').s k = killSite (rowsOf ks ss 0) (st.s k) := by simp only [afterS, hk]
        have e1 : blkN k = blk k := by simp only [blkN, hk]
        have e2 : valN k = val k := by simp only [valN, hk]
        rw [e0, e1, e2]
        have hbk : ∀ c, blk k = some c → w'.heap[c]? = w.heap[c]? := fun c hc => c6.block c (hh.new k c hc).2 (mineK k c hk hc)
        cases hsk : st.s k with
        | no => rw [hsk] at hs; exact hs
        | box cs' =>
          rw [hsk] at hs
          obtain ⟨c, e, vals, h1, h2, h3, h4, h5⟩ := hs
          exact ⟨c, e, vals, h1, by rw [hbk c h1]; exact h2, h3, h4, fun j d hd => let ⟨v, hv, hr⟩ := h5 j d hd; ⟨v, hv, keep hr⟩⟩
        | tbox cs' =>
          rw [hsk] at hs
          obtain ⟨c, e, vals, h1, h2, h3, h5⟩ := hs
          refine ⟨c, e, vals, h1, by rw [hbk c h1]; exact h2, by simpa using h3, fun i y hy => ?_⟩
          rw [List.getElem?_map] at hy
          cases hi : cs'[i]? with
          | none => rw [hi] at hy; cases hy
          | some z =>
            rw [hi] at hy; cases hy
            obtain ⟨v, hv, ho, hr⟩ := h5 i z hi
            exact ⟨v, hv, ho, keepT hr⟩
        | mp es c =>
          rw [hsk] at hs
          obtain ⟨c', h1, h2⟩ := hs
          exact ⟨c', h1, by rw [hbk c' h1]; exact h2⟩
        | row e sz es =>
          rw [hsk] at hs
          obtain ⟨h1, h2, h3⟩ := hs
          exact ⟨h1, h2, h3.imp id fun ⟨c, vals, cap, k1, k2, k3, k4, k5, k6, k7⟩ => ⟨c, vals, cap, k1, k2, k3, k4, by rw [hbk c k1]; exact k5, k6, fun i x j d hi hj => let ⟨v, hv, hr⟩ := k7 i x j d hi hj; ⟨v, hv, keep hr⟩⟩⟩
  have hP := hH.put dst _ v (fun d hd' => by subst hd'; simpa [Nat.blt_eq, afterS] using hd) (hres.shift (fun _ _ h => h) fun k hk => relN k (belowT_lt (hbr V) k hk))
  obtain ⟨n1, n2, n3⟩ := relN 1 hl2
  obtain ⟨e1, sz1, es1, hr1⟩ := hrow2
  refine ⟨_, ⟨V, rfl⟩, blkN, valN, ?_⟩
  have hg : ∀ u : Value, RepT w' (okOf w0 blkN) blkN valN (afterS st ks (rowsOf ks ss 0) ss').s (T.gh (nth ks 1) V) u := fun u => by
    refine ⟨⟨⟨(fun e => by rw [n3, hr1] at e; cases e), (fun _ => ⟨e1, sz1, es1, by rw [n3, hr1]; rfl⟩)⟩, fun q => by cases q⟩, [], trivial, ?_⟩
    show valN (nth ks 1) = V
    rw [n2]; exact hV
  have es : ((afterS st ks (rowsOf ks ss 0) ss').put dst (shiftT (nth ks) (r V))).s = (afterS st ks (rowsOf ks ss 0) ss').s := by cases dst <;> rfl
  exact hP.ghost d2 (T.gh (nth ks 1) V) (fun u => by rw [es]; exact hg u)
theorem aops_callL2 {ops rest : List Oper} {R : Exit → St → Prop} {ty : TypeId} {pos : String} {after : Array Edge} {dst : Option Tmp} {f : FuncId} {ys : List Operand} {at_ : Array TypeId} {args : List T} {ss ss' : List Site} {r : Value → T} (d2 : Tmp) (ks rows : List Nat)
    (he : enB P f = true) (hr : PCS2 P f args ss r ss') (ha : ArgsS st.ev (nth ks) ys args) (hc : ∀ V, callOk ks args ss (r V) ss' = true) (hd2 : Nat.blt d2 st.n = true) (hrow2 : ∃ e sz es, getS ss' 1 = .row e sz es) (hl2 : 1 < ss'.length) (hkd : kindOk ss ss' = true) (hrows : rowsOf ks ss 0 = rows)
    (hold : holdS st (nth ks) ks ss) (hnew : newS st ks ss ss') (hd : (match dst with | none => true | some d => Nat.blt d st.n) = true)
    (h : ∀ V, Aops P w0 ops rest R (((afterS st ks rows ss').put dst (shiftT (nth ks) (r V))).put (some d2) (T.gh (nth ks 1) V))) : Aops P w0 ops (⟨dst, .call ⟨.value (.func f), ys.toArray, at_⟩, ty, pos, after, none⟩ :: rest) R st :=
  aops_callW2 d2 ks rows he hr hc hd2 hrow2 hl2 hkd hrows hold.spec (hnew.spec (by have q := hc undef; simp only [callOk, Bool.and_eq_true] at q; exact Nat.eq_of_beq_eq_true q.1.1.1.1.1.2)) hd (fun a w blk val hh => ⟨okOf w0 blk, fun _ h => h, fun i b _ hb hok => hok.2 _ hb,
    argsS_rep (m := ss.length) (fun y => hh.ev y) (fun _ _ h => h) (fun k hk => ⟨if_pos hk, rfl, hold.spec k hk⟩) ha (by have q := hc undef; simp only [callOk, Bool.and_eq_true] at q; exact q.1.1.1.2), .inl fun _ h => h⟩) h
theorem le_ghost (b j k d2 : Nat) {cs cs' : List T} {V : Value} (hs : st.s b = .tbox cs) (hj : cs[j]? = some (.d (.v V))) (ht : st.t d2 = T.gh k V) (hr : ∃ e sz es, st.s k = .row e sz es) (hkb : Nat.beq k b = false) (hcs : cs.set j (.rs k) = cs') : Le w0 st (st.site b (.tbox cs')) := by
  subst hcs
  intro a w ⟨blk, val, hh⟩
  have hg := hh.tmp d2
  rw [ht] at hg
  obtain ⟨_, vs, _, hV⟩ := hg
  have hb := hh.site b
  rw [hs] at hb
  obtain ⟨b0, e, vals, h1, h2, h3, h4⟩ := hb
  have hkb' : k ≠ b := fun e => by subst e; rw [show Nat.beq k k = true from by simp] at hkb; cases hkb
  have hsame : ∀ i, (st.site b (.tbox (cs.set j (.rs k)))).s i = if i = b then .tbox (cs.set j (.rs k)) else st.s i := fun i => by
    show (bif Nat.beq i b then _ else st.s i) = _
    cases hq : Nat.beq i b with
    | true => rw [if_pos (Nat.eq_of_beq_eq_true hq)]; rfl
    | false => rw [if_neg (fun e => by subst e; rw [show Nat.beq i i = true from by simp] at hq; cases hq)]; rfl
  have hvar : ∀ i, ((st.site b (.tbox (cs.set j (.rs k)))).s i).isVar = (st.s i).isVar := fun i => by
    rw [hsame i]
    split
    · rename_i e; subst e; rw [hs]; rfl
    · rfl
  have keepT : ∀ (t : T) (u : Value), RepT w (okOf w0 blk) blk val st.s t u → RepT w (okOf w0 blk) blk val (st.site b (.tbox (cs.set j (.rs k)))).s t u := fun t u h => by
    cases t with
    | d y => exact h
    | ref i o =>
      obtain ⟨q1, q2⟩ := h
      refine ⟨?_, q2⟩
      rw [hsame i]; split
      · exact fun q => by cases q
      · exact q1
    | rs i =>
      obtain ⟨⟨e, sz, es, q1⟩, q2⟩ := h
      refine ⟨⟨e, sz, es, ?_⟩, q2⟩
      rw [hsame i, if_neg (fun q => by subst q; rw [hs] at q1; cases q1)]; exact q1
    | own i kd ds F =>
      obtain ⟨⟨⟨q0, q1⟩, qo⟩, q3⟩ := h
      refine ⟨⟨⟨?_, fun hr => ?_⟩, fun ho => ?_⟩, q3⟩
      · rw [hsame i]; split
        · exact fun q => by cases q
        · exact q0
      · obtain ⟨e, sz, es, q1⟩ := q1 hr
        refine ⟨e, sz, es, ?_⟩
        rw [hsame i, if_neg (fun q => by subst q; rw [hs] at q1; cases q1)]; exact q1
      · exact qo ho
    | un => exact h
    | dead => trivial
  refine ⟨blk, val, hh.ext, hh.defers, hh.size, hh.new, hh.inj, fun i c hi => ?_, fun i => ?_, fun t => keepT _ _ (hh.tmp t)⟩
  · obtain ⟨q1, q2, q3⟩ := hh.pin i c hi
    exact ⟨q1, (hvar i).trans q2, q3⟩
  · by_cases e : i = b
    · subst e
      rw [hsame i, if_pos rfl]
      refine ⟨b0, _, vals, h1, h2, by rw [List.length_set]; exact h3, fun i' x hx => ?_⟩
      by_cases e : j = i'
      · subst e
        obtain ⟨v, hv, hv1, hr'⟩ := h4 j _ hj
        have hlt := (List.getElem?_eq_some_iff.1 hj).1
        rw [List.getElem?_set_self hlt] at hx
        cases hx
        have : v = V := Rep.v_eq hr'
        subst this
        obtain ⟨e1, sz1, es1, hr1⟩ := hr
        exact ⟨v, hv, hv1, ⟨e1, sz1, es1, by rw [hsame k, if_neg hkb']; exact hr1⟩, hV.symm⟩
      · rw [List.getElem?_set_ne e] at hx
        obtain ⟨v, hv, hv1, hr'⟩ := h4 i' x hx
        exact ⟨v, hv, hv1, keepT _ _ hr'⟩
    · rw [hsame i, if_neg e]
      have hsi := hh.site i
      cases hq : st.s i with
      | tbox cs' =>
        rw [hq] at hsi
        obtain ⟨c, e1, vals', k1, k2, k3, k4⟩ := hsi
        exact ⟨c, e1, vals', k1, k2, k3, fun i' x hx => let ⟨v, hv, hv1, hr'⟩ := k4 i' x hx; ⟨v, hv, hv1, keepT _ _ hr'⟩⟩
      | _ => rw [hq] at hsi; exact hsi
theorem aops_load2 {ops rest : List Oper} {R : Exit → St → Prop} {ty : TypeId} {pos : String} {after : Array Edge} {t : TypeId} {y : Operand} {d m k j j1 : Nat} {u : List D} {cs : List T} (d2 : Tmp) (ht : szB P t true m = true) (hy : st.ev y = .ref k 0) (hk : st.s k = .tbox cs) (hcs : cs = .rs j1 :: agC j u []) (hl : cs.length = m) (hd : Nat.blt d st.n = true) (hd2 : Nat.blt d2 st.n = true)
    (h : ∀ V, Aops P w0 ops rest R ((st.put (some d) (.ag j (.v V :: u) [])).put (some d2) (T.gh j1 V))) : Aops P w0 ops (⟨some d, .load t y, ty, pos, after, none⟩ :: rest) R st := by
  subst hcs
  rw [Nat.blt_eq] at hd
  refine aops_step (K := fun s => ∃ V, s = (st.put (some d) (.ag j (.v V :: u) [])).put (some d2) (T.gh j1 V)) rfl (fun a w ⟨blk, val, hh⟩ => ?_) (fun _ ⟨V, e⟩ => e ▸ h V)
  have h1 := hh.ev y
  rw [hy] at h1
  obtain ⟨_, b, hb, hv⟩ := h1
  have h2 := hh.site k
  rw [hk] at h2
  obtain ⟨b', e, vals, hb2, hheap, hsz, hc⟩ := h2
  rw [hb] at hb2; cases hb2
  have hld := run_loadBlock (P := P) hheap
  rw [hsz, hl] at hld
  obtain ⟨y0, hy0, hy1, hy2, hy3⟩ := hc 0 (.rs j1) rfl
  have r1 := agC_out (k := j) (f := .v (val j1) :: u) (g := []) (vs := vals.toList) (w := w) (ok := okOf w0 blk) (blk := blk) (val := val) (s := st.s) ⟨by simpa [agC] using hsz, fun i x hx => by
    cases i with
    | zero =>
      cases hx
      subst hy3
      exact ⟨_, by simpa using hy0, hy1, Rep.v _ hy1⟩
    | succ i =>
      obtain ⟨y, hy, h3⟩ := hc (i + 1) x hx
      exact ⟨y, by simpa using hy, h3⟩⟩
  refine wp_value (v := .agg vals) (w' := w) (by simp only [execOp, hv, Instr.loadAt, Instr.sureAddr, loadVar, Sem.run_bind, Sem.run_pure, Result.andThen_ok, szB_agg ht, if_true, szB_size ht, hld]) ⟨_, ⟨val j1, rfl⟩, ?_⟩
  have hP := put_hold (d := d) hh hd (show RepT w (okOf w0 blk) blk val st.s (.ag j (.v (val j1) :: u) []) (.agg vals) by simpa using r1)
  refine ⟨blk, val, hP.ghost d2 (T.gh j1 (val j1)) fun u => ⟨⟨⟨?_, fun _ => hy2⟩, fun q => by cases q⟩, [], trivial, rfl⟩⟩
  obtain ⟨e, sz, es, q⟩ := hy2
  exact fun e' => by rw [show (st.put (some d) (.ag j (.v (val j1) :: _) [])).s j1 = st.s j1 from rfl, q] at e'; cases e'
end
section
variable {P : Program} {w0 : Cx} {st : St}
def RetA2 (P : Program) (st : St) (t0 : Tmp) (ty0 : TypeId) (f : Nat → Nat) (r : Value → T) : Prop :=
  ∃ (k j j1 m : Nat) (u : List D), st.t t0 = .ref k 0 ∧ st.s k = .tbox (.rs j1 :: agC j u []) ∧ szB P ty0 true m = true ∧ (agC j u []).length + 1 = m ∧ (∀ V, shiftT f (r V) = .ag j (.v V :: u) []) ∧ f 1 = j1
def endA2 (P : Program) (n : Nat) (t0 : Tmp) (ty0 : TypeId) (m : Nat) (r : Value → T) (ss' : List Site) : Exit → St → Prop
  | .ret, st | .normal, st => ∃ ns : List Nat, RetA2 P st t0 ty0 (nth ns) r ∧ SitesAt st ns ss' ∧ ns.length = ss'.length ∧ nodupN ns = true ∧ firstN n 0 m ns = true ∧ (∀ V, belowT ss'.length (r V) = true) ∧ ss'.all (belowS ss'.length) = true
  | _, _ => False
theorem enda2_mk {n : Nat} {t0 : Tmp} {ty0 : TypeId} {m : Nat} {r : Value → T} {ss' : List Site} {e : Exit} (he : e = .ret ∨ e = .normal) (ns : List Nat) (hr : RetA2 P st t0 ty0 (nth ns) r) (hs : holdS st (nth ns) ns ss')
    (hb : ∀ V, belowT ss'.length (r V) = true) (hc : (Nat.beq ns.length ss'.length && nodupN ns && firstN n 0 m ns && ss'.all (belowS ss'.length)) = true) : endA2 P n t0 ty0 m r ss' e st := by
  simp only [Bool.and_eq_true] at hc
  obtain ⟨⟨⟨h1, h2⟩, h3⟩, h5⟩ := hc
  have : ∃ ns : List Nat, RetA2 P st t0 ty0 (nth ns) r ∧ SitesAt st ns ss' ∧ ns.length = ss'.length ∧ nodupN ns = true ∧ firstN n 0 m ns = true ∧ (∀ V, belowT ss'.length (r V) = true) ∧ ss'.all (belowS ss'.length) = true :=
    ⟨ns, hr, hs.spec, Nat.eq_of_beq_eq_true h1, h2, h3, hb, h5⟩
  rcases he with rfl | rfl <;> exact this
theorem pcs2_of_awp {f : FuncId} {fn : Func} {c : Code} {n : Nat} {args : List T} {ss ss' : List Site} {r : Value → T} {t0 : Tmp} {ty0 : TypeId} (hf : P.funcs[f]? = some fn) (hb : fn.body = some c) (hn : fn.ntmps = n) (hrs : fn.results = #[.cell t0 ty0]) (hl : args.length ≤ n)
    (hs0 : ss = []) (h : ∀ w0 : Cx, (∀ b, w0.mine b → w0.ok b) → w0.rnd = none → (∀ k, w0.pin k = none) → Awp P w0 c (endA2 P n t0 ty0 ss.length r ss') (startS n args ss)) : PCS2 P f args ss r ss' := by
  intro w ok blk val vs hblk hinj hnone hsite hL
  refine (callsIn_wide (n := 1)).1 (callsIn_of_wp_marks hf hb trivial ?_ rfl)
  let cx : Cx := ⟨w, ok, fun b => ∃ i, blk i = some b, fun k => bif Nat.ble n k && (getS ss (k - n)).isVar then blk (k - n) else none, fun _ => none, none⟩
  let blkE : Nat → Option Nat := fun k => bif Nat.ble n k then blk (k - n) else none
  let valE : Nat → Value := fun k => val (k - n)
  have hge : ∀ k, Nat.ble n (n + k) = true := fun k => by rw [Nat.ble_eq]; omega
  have hE : ∀ k b, blkE k = some b → n ≤ k ∧ blk (k - n) = some b := fun k b hk => by
    simp only [blkE] at hk
    cases hb : Nat.ble n k with
    | false => rw [hb] at hk; cases hk
    | true => rw [hb] at hk; exact ⟨Nat.le_of_ble_eq_true hb, hk⟩
  have hokE : ∀ b, b < w.heap.size → ok b → okOf cx blkE b := fun b hb h => ⟨.inl h, fun k hk => (hblk _ _ (hE k b hk).2).2 h⟩
  have hkE : ∀ k, blkE (n + k) = blk k ∧ valE (n + k) = val k ∧ inS n ss (n + k) = shiftS (n + ·) (getS ss k) := fun k => by
    simp only [blkE, valE, inS, hge k, cond_true, Nat.add_sub_cancel_left]
    exact ⟨trivial, trivial, trivial⟩
  have h0 : Hold cx (startS n args ss) { tmps := vs.toArray ++ Array.replicate (fn.ntmps - vs.toArray.size) undef, defers := [] } w blkE valE := by
    refine ⟨⟨rfl, rfl, rfl, Nat.le_refl _, fun _ _ _ => rfl⟩, Kept.nil rfl rfl, ?_, fun k b hk => ⟨.inr ⟨_, (hE k b hk).2⟩, (hblk _ _ (hE k b hk).2).1⟩, fun k k' b hk hk' => ?_, fun k b hk => ?_, fun k => ?_, fun t => ?_⟩
    · have := hL.length
      simp [startS, hn]; omega
    · have e := hinj _ _ _ (hE k b hk).2 (hE k' b hk').2
      have := (hE k b hk).1
      have := (hE k' b hk').1
      omega
    · simp only [cx] at hk
      cases hb : Nat.ble n k && (getS ss (k - n)).isVar with
      | false => rw [hb] at hk; cases hk
      | true =>
        rw [hb] at hk
        rw [Bool.and_eq_true] at hb
        refine ⟨by simp only [blkE, hb.1, cond_true]; exact hk, ?_, Nat.le_of_ble_eq_true hb.1⟩
        show (inS n ss k).isVar = true
        simp only [inS, hb.1, cond_true]
        have h2 := hb.2
        cases hs : getS ss (k - n) <;> rw [hs] at h2 <;> first | rfl | cases h2
    · show SiteIn _ _ _ _ (inS n ss) _ _ (inS n ss k)
      cases hb : Nat.ble n k with
      | false => simp only [blkE, inS, hb, cond_false]; rfl
      | true =>
        obtain ⟨i, rfl⟩ : ∃ i, k = n + i := ⟨k - n, by have := Nat.le_of_ble_eq_true hb; omega⟩
        obtain ⟨e1, e2, e3⟩ := hkE i
        rw [e1, e2, e3]
        exact (hsite i).shift hokE fun _ _ _ _ j _ => hkE j
    · have := argTT_rep (blk' := blkE) (val' := valE) (s' := inS n ss) (f := (n + ·)) (fn.ntmps - vs.toArray.size) hokE hkE hL t
      have e : (vs.toArray ++ Array.replicate (fn.ntmps - vs.toArray.size) undef) = (vs ++ List.replicate (fn.ntmps - vs.toArray.size) undef).toArray := by simp
      show RepT _ _ _ _ _ _ ((vs.toArray ++ Array.replicate (fn.ntmps - vs.toArray.size) undef).getD t undef)
      rw [e, Array.getD_eq_getD_getElem?, List.getElem?_toArray, ← List.getD_eq_getElem?_getD]
      exact this
  have fin : ∀ (a : Act) (w' : World) (st' : St), (∃ ns : List Nat, RetA2 P st' t0 ty0 (nth ns) r ∧ SitesAt st' ns ss' ∧ ns.length = ss'.length ∧ nodupN ns = true ∧ firstN n 0 ss.length ns = true ∧ (∀ V, belowT ss'.length (r V) = true) ∧ ss'.all (belowS ss'.length) = true) → Holds cx st' a w' →
      ∃ v, (results fn a.tmps).run P w' = .ok v w' ∧ ∃ V v' blk' val', val' 1 = V ∧ Ending.returned v = .returned v' ∧ (∀ i, (getS ss i).isVar = true → blk' i = blk i) ∧ (∀ i b, blk' i = some b → (∃ j, blk j = some b) ∨ w.heap.size ≤ b) ∧ (∀ i b, blk' i = some b → b < w'.heap.size) ∧
      (∀ i j b, blk' i = some b → blk' j = some b → i = j) ∧ ExtM ⟨w, ok, fun b => ∃ i, blk i = some b, fun _ => none, fun _ => none, none⟩ w' ∧
      (∀ i, SiteIn w' (fun b => (ok b ∨ w.heap.size ≤ b) ∧ ∀ i, blk' i ≠ some b) blk' val' (getS ss') (blk' i) (val' i) (getS ss' i)) ∧
      RepT w' (fun b => (ok b ∨ w.heap.size ≤ b) ∧ ∀ i, blk' i ≠ some b) blk' val' (getS ss') (r V) v' := by
    intro a w' st' ⟨ns, hret, hsat, hlen, hnd, hfst, hbr, hbs⟩ ⟨blkF, valF, hh⟩
    let blk' : Nat → Option Nat := fun i => if i < ss'.length then blkF (nth ns i) else none
    let val' : Nat → Value := fun i => valF (nth ns i)
    have hb' : ∀ i b, blk' i = some b → i < ss'.length ∧ blkF (nth ns i) = some b := fun i b h => by
      simp only [blk'] at h
      split at h
      · exact ⟨by assumption, h⟩
      · cases h
    have hok' : ∀ b, b < w'.heap.size → okOf cx blkF b → (ok b ∨ w.heap.size ≤ b) ∧ ∀ i, blk' i ≠ some b := fun b _ h => ⟨h.1, fun i hi => h.2 _ (hb' i b hi).2⟩
    have hrel : ∀ k, k < ss'.length → blk' k = blkF (nth ns k) ∧ val' k = valF (nth ns k) ∧ st'.s (nth ns k) = shiftS (nth ns) (getS ss' k) := fun k hk => ⟨if_pos hk, rfl, hsat k hk⟩
    have hbelow : ∀ (ss : List Site) (m i : Nat), ss.all (belowS m) = true → belowS m (getS ss i) = true := by
      intro ss
      induction ss with
      | nil => intro m i _; rfl
      | cons x xs ih =>
        intro m i h
        simp only [List.all_cons, Bool.and_eq_true] at h
        cases i with
        | zero => exact h.1
        | succ i => exact ih m i h.2
    have sites : ∀ i, SiteIn w' (fun b => (ok b ∨ w.heap.size ≤ b) ∧ ∀ i, blk' i ≠ some b) blk' val' (getS ss') (blk' i) (val' i) (getS ss' i) := fun i => by
      rcases Nat.lt_or_ge i ss'.length with hi | hi
      · have h1 := hh.site (nth ns i)
        rw [hsat i hi] at h1
        rw [(hrel i hi).1]
        refine h1.unshift hok' fun cs hcs y hy k hk => ?_
        have h2 := hbelow ss' ss'.length i hbs
        rw [hcs] at h2
        exact hrel k (belowT_lt (List.all_eq_true.1 h2 y hy) k hk)
      · rw [getS_none hi]
        show blk' i = none
        exact if_neg (by omega)
    have repr : ∀ V v, RepT w' (okOf cx blkF) blkF valF st'.s (shiftT (nth ns) (r V)) v → RepT w' (fun b => (ok b ∨ w.heap.size ≤ b) ∧ ∀ i, blk' i ≠ some b) blk' val' (getS ss') (r V) v := fun V v h =>
      h.unshift hok' fun k hk => hrel k (belowT_lt (hbr V) k hk)
    have hsl : ss.length ≤ ss'.length ∨ ss = [] := by
      rcases Nat.lt_or_ge ss'.length ss.length with h | h
      · right
        exfalso
        have : ∀ (m i : Nat) (ns : List Nat), firstN n i m ns = true → m ≤ ns.length := by
          intro m
          induction m with
          | zero => intro i ns _; omega
          | succ m ih =>
            intro i ns h
            cases ns with
            | nil => simp [firstN] at h
            | cons x xs =>
              simp only [firstN, Bool.and_eq_true] at h
              have := ih _ _ h.2
              simp; omega
        have := this _ _ _ hfst
        omega
      · exact .inl h
    have hname : ∀ i, i < ss.length → nth ns i = n + i := fun i hi => by
      have := nth_firstN hfst i hi
      rw [Nat.zero_add] at this; exact this
    have common : (∀ i, (getS ss i).isVar = true → blk' i = blk i) ∧ (∀ i b, blk' i = some b → (∃ j, blk j = some b) ∨ w.heap.size ≤ b) ∧ (∀ i b, blk' i = some b → b < w'.heap.size) ∧
        (∀ i j b, blk' i = some b → blk' j = some b → i = j) ∧ ExtM ⟨w, ok, fun b => ∃ i, blk i = some b, fun _ => none, fun _ => none, none⟩ w' := by
      refine ⟨fun i hi => ?_, fun i b hb => ?_, fun i b hb => (hh.new _ _ (hb' i b hb).2).2, fun i j b h1 h2 => ?_, ⟨hh.ext.os, hh.ext.tape, hh.ext.output, hh.ext.size, hh.ext.block⟩⟩
      · have him : i < ss.length := by
          rcases Nat.lt_or_ge i ss.length with h | h
          · exact h
          · rw [getS_none h] at hi; cases hi
        have hi' : i < ss'.length := by
          rcases hsl with h | h
          · omega
          · subst h; simp at him
        rw [(hrel i hi').1, hname i him]
        have hs := hsite i
        obtain ⟨b, hb⟩ : ∃ b, blk i = some b := by
          cases hg : getS ss i <;> rw [hg] at hs hi <;> first | (cases hi; done) | (obtain ⟨b, _, _, h, _⟩ := hs; exact ⟨b, h⟩) | (obtain ⟨b, h, _⟩ := hs; exact ⟨b, h⟩)
        have hp := hh.pin (n + i) b (by
          show (bif Nat.ble n (n + i) && (getS ss (n + i - n)).isVar then blk (n + i - n) else none) = some b
          rw [Nat.add_sub_cancel_left, hge i, hi]
          exact hb)
        rw [hp.1, hb]
      · rcases (hh.new _ _ (hb' i b hb).2).1 with h | h
        · exact .inr h
        · exact .inl h
      · have e := hh.inj _ _ b (hb' i b h1).2 (hb' j b h2).2
        exact nth_inj hnd (by rw [hlen]; exact (hb' i b h1).1) (by rw [hlen]; exact (hb' j b h2).1) e
    obtain ⟨c1, c2, c4, c5, c6⟩ := common
    obtain ⟨k, j, j1, m, u, a1, a2, a3, a4, a5, a6⟩ := hret
    have h1 := hh.tmp t0
    rw [a1] at h1
    obtain ⟨_, b, hb, hv⟩ := h1
    have h2 := hh.site k
    rw [a2] at h2
    obtain ⟨b', e, vals, hb2, hheap, hsz, hc⟩ := h2
    rw [hb] at hb2; cases hb2
    have hld := run_loadBlock (P := P) hheap
    rw [hsz, List.length_cons, a4] at hld
    have r1 := agC_out (k := j) (f := .v (valF j1) :: u) (g := []) (vs := vals.toList) (w := w') (ok := okOf cx blkF) (blk := blkF) (val := valF) (s := st'.s) ⟨by simpa [agC] using hsz, fun i x hx => by
      cases i with
      | zero =>
        obtain ⟨y, hy, h3, h4⟩ := hc 0 (.rs j1) rfl
        obtain ⟨_, h5⟩ := h4
        cases hx
        subst h5
        exact ⟨_, by simpa using hy, h3, Rep.v _ h3⟩
      | succ i =>
        obtain ⟨y, hy, h3⟩ := hc (i + 1) x hx
        exact ⟨y, by simpa using hy, h3⟩⟩
    have hr1 : (readVar a.tmps (.cell t0 ty0)).run P w' = .ok (.agg vals) w' := by
      simp only [readVar, Sem.run_bind, hv, asAddr, Sem.run_pure, Result.andThen_ok, loadVar, szB_agg a3, if_true, szB_size a3, hld]
    have : (results fn a.tmps).run P w' = .ok (.agg vals) w' := by
      have e0 : results fn a.tmps = (do let vs ← fn.results.mapM (readVar a.tmps); pure (if h : vs.size = 1 then vs[0] else .tuple vs)) := by
        unfold results readVar
        rfl
      have hm : (fn.results.mapM (readVar a.tmps)).run P w' = .ok #[.agg vals] w' := by
        rw [hrs, show (#[ResultVar.cell t0 ty0] : Array ResultVar) = [ResultVar.cell t0 ty0].toArray from rfl, List.mapM_toArray]
        simp [hr1]
      rw [e0]
      simp only [Sem.run_bind, hm, Result.andThen_ok, Sem.run_pure]
      rfl
    exact ⟨_, this, valF j1, _, blk', val', (by show valF (nth ns 1) = _; rw [a6]), rfl, c1, c2, c4, c5, c6, sites, repr _ _ (by rw [a5]; simpa using r1)⟩
  refine wpIn_mono (h cx (fun b hb => by obtain ⟨i, hi⟩ := hb; subst hs0; rw [hnone i (Nat.zero_le _)] at hi; cases hi) rfl (fun k => by subst hs0; show (bif Nat.ble n k && (getS [] (k - n)).isVar then blk (k - n) else none) = none; rw [show (getS [] (k - n)).isVar = false from rfl, Bool.and_false]; rfl) Fence.wide 1 ⟨.inl rfl, rfl⟩ _ w ⟨_, _, h0⟩) fun e a w' ⟨st', hR, hH⟩ => ?_
  cases e with
  | normal =>
    obtain ⟨ms, m1, m2, m3, hH'⟩ := hH.shut rfl
    show LeavesInM _ _ _ _ _ _ _ _ _
    rw [m1]
    exact shut_leaves ms w' m2 m3 (fin { a with defers := [] } (shut ms w') st' hR hH')
  | ret =>
    obtain ⟨ms, m1, m2, m3, hH'⟩ := hH.shut rfl
    show LeavesInM _ _ _ _ _ _ _ _ _
    rw [m1]
    exact shut_leaves ms w' m2 m3 (fin { a with defers := [] } (shut ms w') st' hR hH')
  | exit id => exact hR.elim
  | goto l => exact hR.elim
  | panic c => exact hR.elim
  | outgrown => exact hR.elim


end
end Go.Proofs.Ytamaocfjknpadaa.Am
