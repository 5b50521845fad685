/- The abstract machine, part 16: contracts of functions that are handed memory to change, or hand back memory of their own. Conditions: none. -/
import Derived.Test.YtgdcidbpadhkpaaAm15
set_option linter.unusedVariables false
set_option linter.unusedSimpArgs false
namespace Go.Proofs.Ytgdcidbpadhkpaa.Am
open Go

def shiftT (f : Nat → Nat) : T → T
  | .ref k o => .ref (f k) o
  | .rs k => .rs (f k)
  | x => x
def shiftS (f : Nat → Nat) : Site → Site
  | .tbox cs => .tbox (cs.map (shiftT f))
  | x => x
def getS (ss : List Site) (i : Nat) : Site := match ss, i with
  | [], _ => .no
  | x :: _, 0 => x
  | _ :: xs, i + 1 => getS xs i
def belowT (m : Nat) : T → Bool
  | .ref k _ => Nat.blt k m
  | .rs k => Nat.blt k m
  | _ => true
def belowS (m : Nat) : Site → Bool
  | .tbox cs => cs.all (belowT m)
  | _ => true
def RepLT (w : World) (ok : Nat → Prop) (blk : Nat → Option Nat) (val : Nat → Value) (s : Nat → Site) : List T → List Value → Prop
  | [], [] => True
  | x :: xs, v :: vs => RepT w ok blk val s x v ∧ RepLT w ok blk val s xs vs
  | _, _ => False
/-- A function's contract on data and sites: sites ss are handed in; behind the call they are the first of ss', at their places; the others of ss' are new. -/
def PCS (P : Program) (f : FuncId) (args : List T) (ss : List Site) (r : T) (ss' : List Site) : Prop :=
  ∀ (w : World) (ok : Nat → Prop) (blk : Nat → Option Nat) (val : Nat → Value) (vs : List Value),
    (∀ i b, blk i = some b → b < w.heap.size ∧ ¬ ok b) → (∀ i j b, blk i = some b → blk j = some b → i = j) → (∀ i, ss.length ≤ i → blk i = none) →
    (∀ i, SiteIn w ok blk val (getS ss) (blk i) (val i) (getS ss i)) → RepLT w ok blk val (getS ss) args vs →
    Calls P f vs.toArray w fun e w' => ∃ v blk' val', e = .returned v ∧ (∀ i, (getS ss i).isVar = true → blk' i = blk i) ∧ (∀ i b, blk' i = some b → (∃ j, blk j = some b) ∨ w.heap.size ≤ b) ∧ (∀ i b, blk' i = some b → b < w'.heap.size) ∧
      (∀ i j b, blk' i = some b → blk' j = some b → i = j) ∧ ExtM ⟨w, ok, fun b => ∃ i, blk i = some b, fun _ => none⟩ w' ∧
      (∀ i, SiteIn w' (fun b => (ok b ∨ w.heap.size ≤ b) ∧ ∀ i, blk' i ≠ some b) blk' val' (getS ss') (blk' i) (val' i) (getS ss' i)) ∧
      RepT w' (fun b => (ok b ∨ w.heap.size ≤ b) ∧ ∀ i, blk' i ≠ some b) blk' val' (getS ss') r v

theorem getS_none {ss : List Site} : ∀ {i : Nat}, ss.length ≤ i → getS ss i = .no := by
  induction ss with
  | nil => intro i _; rfl
  | cons x xs ih => intro i h; cases i with
    | zero => simp at h
    | succ i => exact ih (by simpa using h)

section
variable {P : Program} {w0 : Cx} {st : St}

/- a function's contract from its body -/
def argTT : List T → Nat → T
  | [], _ => .un
  | x :: xs, k => match k with
    | 0 => x
    | k + 1 => argTT xs k
def inS (n : Nat) (ss : List Site) (k : Nat) : Site := bif Nat.ble n k then shiftS (n + ·) (getS ss (k - n)) else .no
def startS (n : Nat) (args : List T) (ss : List Site) : St := { n := n, t := fun k => argTT (args.map (shiftT (n + ·))) k, s := inS n ss }
def nth (ns : List Nat) (i : Nat) : Nat := match ns, i with
  | [], _ => 0
  | x :: _, 0 => x
  | _ :: xs, i + 1 => nth xs i
/-- The sites at the end: names ns, the first m of which are those that were handed in. -/
def SitesAt (st : St) (ns : List Nat) (ss : List Site) : Prop := ∀ i, i < ss.length → st.s (nth ns i) = shiftS (nth ns) (getS ss i)
def nodupN : List Nat → Bool
  | [] => true
  | x :: xs => !memN x xs && nodupN xs
def firstN (n : Nat) : Nat → Nat → List Nat → Bool
  | _, 0, _ => true
  | _, _ + 1, [] => false
  | i, m + 1, x :: xs => Nat.beq x (n + i) && firstN n (i + 1) m xs
inductive RetS (st : St) : List ResultVar → (Nat → Nat) → T → Prop
  | none {f : Nat → Nat} : RetS st [] f (.d (.tup []))
  | tmp {t : Tmp} {f : Nat → Nat} {r : T} (h : st.t t = shiftT f r) : RetS st [.tmp t] f r
def endS (n : Nat) (rs : List ResultVar) (m : Nat) (r : T) (ss' : List Site) : Exit → St → Prop
  | .ret, st | .normal, st => ∃ ns : List Nat, RetS st rs (nth ns) r ∧ SitesAt st ns ss' ∧ ns.length = ss'.length ∧ nodupN ns = true ∧ firstN n 0 m ns = true ∧ belowT ss'.length r = true ∧ ss'.all (belowS ss'.length) = true
  | _, _ => False

theorem RepT.shift {w : World} {ok ok' : Nat → Prop} {blk blk' : Nat → Option Nat} {val val' : Nat → Value} {s s' : Nat → Site} {f : Nat → Nat} {x : T} {v : Value} (h : RepT w ok blk val s x v) (hok : ∀ b, b < w.heap.size → ok b → ok' b)
    (hk : ∀ k, (x = .rs k ∨ ∃ o, x = .ref k o) → blk' (f k) = blk k ∧ val' (f k) = val k ∧ s' (f k) = shiftS f (s k)) : RepT w ok' blk' val' s' (shiftT f x) v := by
  cases x with
  | d x => exact Rep.ok (h : Rep w ok x v) hok
  | ref k o =>
    obtain ⟨q1, b, q2, q3⟩ := h
    obtain ⟨e1, _, e3⟩ := hk k (.inr ⟨o, rfl⟩)
    refine ⟨?_, b, by rw [e1]; exact q2, q3⟩
    rw [e3]
    cases hs : s k <;> simp [shiftS, hs] at q1 ⊢
  | rs k =>
    obtain ⟨⟨e, sz, es, q1⟩, q2⟩ := h
    obtain ⟨_, e2, e3⟩ := hk k (.inl rfl)
    exact ⟨⟨e, sz, es, by rw [e3, q1]; rfl⟩, by rw [e2]; exact q2⟩
  | un => exact h
  | dead => trivial
theorem RepT.unshift {w : World} {ok ok' : Nat → Prop} {blk blk' : Nat → Option Nat} {val val' : Nat → Value} {s s' : Nat → Site} {f : Nat → Nat} {x : T} {v : Value} (h : RepT w ok blk val s (shiftT f x) v) (hok : ∀ b, b < w.heap.size → ok b → ok' b)
    (hk : ∀ k, (x = .rs k ∨ ∃ o, x = .ref k o) → blk' k = blk (f k) ∧ val' k = val (f k) ∧ s (f k) = shiftS f (s' k)) : RepT w ok' blk' val' s' x v := by
  cases x with
  | d x => exact Rep.ok (h : Rep w ok x v) hok
  | ref k o =>
    obtain ⟨q1, b, q2, q3⟩ := h
    obtain ⟨e1, _, e3⟩ := hk k (.inr ⟨o, rfl⟩)
    refine ⟨fun hn => q1 (by rw [e3, hn]; rfl), b, by rw [e1]; exact q2, q3⟩
  | rs k =>
    obtain ⟨⟨e, sz, es, q1⟩, q2⟩ := h
    obtain ⟨_, e2, e3⟩ := hk k (.inl rfl)
    refine ⟨⟨e, sz, es, ?_⟩, by rw [e2]; exact q2⟩
    rw [e3] at q1
    cases hs : s' k <;> rw [hs] at q1 <;> simp [shiftS] at q1 ⊢
    exact q1
  | un => exact h
  | dead => trivial
theorem belowT_lt {m : Nat} {x : T} (h : belowT m x = true) : ∀ k, (x = .rs k ∨ ∃ o, x = .ref k o) → k < m := by
  intro k hk
  rcases hk with rfl | ⟨o, rfl⟩ <;> simpa [belowT, Nat.blt_eq] using h
theorem SiteIn.shift {w : World} {ok ok' : Nat → Prop} {blk blk' : Nat → Option Nat} {val val' : Nat → Value} {s s' : Nat → Site} {f : Nat → Nat} {b : Option Nat} {u : Value} {x : Site} (h : SiteIn w ok blk val s b u x) (hok : ∀ b, b < w.heap.size → ok b → ok' b)
    (hk : ∀ cs, x = .tbox cs → ∀ y ∈ cs, ∀ k, (y = .rs k ∨ ∃ o, y = .ref k o) → blk' (f k) = blk k ∧ val' (f k) = val k ∧ s' (f k) = shiftS f (s k)) : SiteIn w ok' blk' val' s' b u (shiftS f x) := by
  cases x with
  | no => exact h
  | box cs =>
    obtain ⟨b, e, vals, h1, h2, h3, h4, h5⟩ := h
    exact ⟨b, e, vals, h1, h2, h3, h4, fun j d hd => let ⟨v, hv, hr⟩ := h5 j d hd; ⟨v, hv, hr.ok hok⟩⟩
  | tbox cs =>
    obtain ⟨b, e, vals, h1, h2, h3, h5⟩ := h
    refine ⟨b, e, vals, h1, h2, by simpa using h3, fun j y hy => ?_⟩
    rw [List.getElem?_map] at hy
    cases hj : cs[j]? with
    | none => rw [hj] at hy; cases hy
    | some z =>
      rw [hj] at hy; cases hy
      obtain ⟨v, hv, ho, hr⟩ := h5 j z hj
      exact ⟨v, hv, ho, hr.shift hok (hk cs rfl z (List.mem_of_getElem? hj))⟩
  | row e sz es =>
    obtain ⟨h1, h2, h3⟩ := h
    exact ⟨h1, h2, h3.imp id fun ⟨b, vals, cap, k1, k2, k3, k4, k5, k6, k7⟩ => ⟨b, vals, cap, k1, k2, k3, k4, k5, k6, fun i x j d hi hj => let ⟨v, hv, hr⟩ := k7 i x j d hi hj; ⟨v, hv, hr.ok hok⟩⟩⟩
theorem SiteIn.unshift {w : World} {ok ok' : Nat → Prop} {blk blk' : Nat → Option Nat} {val val' : Nat → Value} {s s' : Nat → Site} {f : Nat → Nat} {b : Option Nat} {u : Value} {x : Site} (h : SiteIn w ok blk val s b u (shiftS f x)) (hok : ∀ b, b < w.heap.size → ok b → ok' b)
    (hk : ∀ cs, x = .tbox cs → ∀ y ∈ cs, ∀ k, (y = .rs k ∨ ∃ o, y = .ref k o) → blk' k = blk (f k) ∧ val' k = val (f k) ∧ s (f k) = shiftS f (s' k)) : SiteIn w ok' blk' val' s' b u x := by
  cases x with
  | no => exact h
  | box cs =>
    obtain ⟨b, e, vals, h1, h2, h3, h4, h5⟩ := h
    exact ⟨b, e, vals, h1, h2, h3, h4, fun j d hd => let ⟨v, hv, hr⟩ := h5 j d hd; ⟨v, hv, hr.ok hok⟩⟩
  | tbox cs =>
    obtain ⟨b, e, vals, h1, h2, h3, h5⟩ := h
    refine ⟨b, e, vals, h1, h2, by simpa using h3, fun j z hz => ?_⟩
    obtain ⟨v, hv, ho, hr⟩ := h5 j (shiftT f z) (by rw [List.getElem?_map, hz]; rfl)
    exact ⟨v, hv, ho, hr.unshift hok (hk cs rfl z (List.mem_of_getElem? hz))⟩
  | row e sz es =>
    obtain ⟨h1, h2, h3⟩ := h
    exact ⟨h1, h2, h3.imp id fun ⟨b, vals, cap, k1, k2, k3, k4, k5, k6, k7⟩ => ⟨b, vals, cap, k1, k2, k3, k4, k5, k6, fun i x j d hi hj => let ⟨v, hv, hr⟩ := k7 i x j d hi hj; ⟨v, hv, hr.ok hok⟩⟩⟩
theorem RepLT.length {w : World} {ok : Nat → Prop} {blk : Nat → Option Nat} {val : Nat → Value} {s : Nat → Site} : ∀ {xs : List T} {vs : List Value}, RepLT w ok blk val s xs vs → vs.length = xs.length
  | [], [], _ => rfl
  | _ :: _, _ :: _, h => by simp [h.2.length]
  | [], _ :: _, h => h.elim
  | _ :: _, [], h => h.elim
theorem argTT_rep {w : World} {ok ok' : Nat → Prop} {blk blk' : Nat → Option Nat} {val val' : Nat → Value} {s s' : Nat → Site} {f : Nat → Nat} (m : Nat) (hok : ∀ b, b < w.heap.size → ok b → ok' b) (hk : ∀ k, blk' (f k) = blk k ∧ val' (f k) = val k ∧ s' (f k) = shiftS f (s k)) :
    ∀ {xs : List T} {vs : List Value}, RepLT w ok blk val s xs vs → ∀ k, RepT w ok' blk' val' s' (argTT (xs.map (shiftT f)) k) ((vs ++ List.replicate m undef).getD k undef)
  | [], [], _, k => by
    show _ = _
    rw [List.nil_append, List.getD_eq_getElem?_getD, List.getElem?_replicate]
    split <;> rfl
  | x :: xs, v :: vs, h, 0 => h.1.shift hok fun k _ => hk k
  | x :: xs, v :: vs, h, k + 1 => by
    have := argTT_rep (blk' := blk') (val' := val') (s' := s') m hok hk h.2 k
    simpa [argTT] using this
  | [], _ :: _, h, _ => h.elim
  | _ :: _, [], h, _ => h.elim
theorem nth_firstN {n : Nat} : ∀ {m i : Nat} {ns : List Nat}, firstN n i m ns = true → ∀ j, j < m → nth ns j = n + (i + j)
  | 0, _, _, _, j, h => by omega
  | _ + 1, _, [], h, _, _ => by simp [firstN] at h
  | m + 1, i, x :: xs, h, j, hj => by
    simp only [firstN, Bool.and_eq_true] at h
    cases j with
    | zero => simpa [nth] using Nat.eq_of_beq_eq_true h.1
    | succ j =>
      have := nth_firstN h.2 j (by omega)
      simp only [nth]; omega
theorem nth_mem {ns : List Nat} : ∀ {i : Nat}, i < ns.length → memN (nth ns i) ns = true := by
  induction ns with
  | nil => intro i h; simp at h
  | cons x xs ih =>
    intro i h
    cases i with
    | zero => simp [nth, memN]
    | succ i => simp only [nth, memN, Bool.or_eq_true]; exact .inr (ih (by simpa using h))
theorem nth_inj {ns : List Nat} (h : nodupN ns = true) : ∀ {i j : Nat}, i < ns.length → j < ns.length → nth ns i = nth ns j → i = j := by
  induction ns with
  | nil => intro i j h; simp at h
  | cons x xs ih =>
    simp only [nodupN, Bool.and_eq_true, Bool.not_eq_true'] at h
    intro i j hi hj e
    cases i with
    | zero =>
      cases j with
      | zero => rfl
      | succ j =>
        simp only [nth] at e
        have := nth_mem (ns := xs) (i := j) (by simpa using hj)
        rw [← e, h.1] at this; cases this
    | succ i =>
      cases j with
      | zero =>
        simp only [nth] at e
        have := nth_mem (ns := xs) (i := i) (by simpa using hi)
        rw [e, h.1] at this; cases this
      | succ j => simp only [nth] at e; rw [ih h.2 (by simpa using hi) (by simpa using hj) e]

theorem pcs_of_awp {f : FuncId} {fn : Func} {c : Code} {n : Nat} {args : List T} {ss ss' : List Site} {r : T} {rs : List ResultVar} (hf : P.funcs[f]? = some fn) (hb : fn.body = some c) (hn : fn.ntmps = n) (hrs : fn.results = rs.toArray) (hl : args.length ≤ n)
    (h : ∀ w0 : Cx, Awp P w0 c (endS n rs ss.length r ss') (startS n args ss)) : PCS P f args ss r ss' := by
  intro w ok blk val vs hblk hinj hnone hsite hL
  refine calls_of_wp hf hb ?_
  let cx : Cx := ⟨w, ok, fun b => ∃ i, blk i = some b, fun k => bif Nat.ble n k && (getS ss (k - n)).isVar then blk (k - n) else none⟩
  let blkE : Nat → Option Nat := fun k => bif Nat.ble n k then blk (k - n) else none
  let valE : Nat → Value := fun k => val (k - n)
  have hge : ∀ k, Nat.ble n (n + k) = true := fun k => by rw [Nat.ble_eq]; omega
  have hE : ∀ k b, blkE k = some b → n ≤ k ∧ blk (k - n) = some b := fun k b hk => by
    simp only [blkE] at hk
    cases hb : Nat.ble n k with
    | false => rw [hb] at hk; cases hk
    | true => rw [hb] at hk; exact ⟨Nat.le_of_ble_eq_true hb, hk⟩
  have hokE : ∀ b, b < w.heap.size → ok b → okOf cx blkE b := fun b hb h => ⟨.inl h, fun k hk => (hblk _ _ (hE k b hk).2).2 h⟩
  have hkE : ∀ k, blkE (n + k) = blk k ∧ valE (n + k) = val k ∧ inS n ss (n + k) = shiftS (n + ·) (getS ss k) := fun k => by
    simp only [blkE, valE, inS, hge k, cond_true, Nat.add_sub_cancel_left]
    exact ⟨trivial, trivial, trivial⟩
  have h0 : Hold cx (startS n args ss) { tmps := vs.toArray ++ Array.replicate (fn.ntmps - vs.toArray.size) undef, defers := [] } w blkE valE := by
    refine ⟨⟨rfl, rfl, rfl, Nat.le_refl _, fun _ _ _ => rfl⟩, rfl, ?_, fun k b hk => ⟨.inr ⟨_, (hE k b hk).2⟩, (hblk _ _ (hE k b hk).2).1⟩, fun k k' b hk hk' => ?_, fun k b hk => ?_, fun k => ?_, fun t => ?_⟩
    · have := hL.length
      simp [startS, hn]; omega
    · have e := hinj _ _ _ (hE k b hk).2 (hE k' b hk').2
      have := (hE k b hk).1
      have := (hE k' b hk').1
      omega
    · simp only [cx] at hk
      cases hb : Nat.ble n k && (getS ss (k - n)).isVar with
      | false => rw [hb] at hk; cases hk
      | true =>
        rw [hb] at hk
        rw [Bool.and_eq_true] at hb
        refine ⟨by simp only [blkE, hb.1, cond_true]; exact hk, ?_, Nat.le_of_ble_eq_true hb.1⟩
        show (inS n ss k).isVar = true
        simp only [inS, hb.1, cond_true]
        have h2 := hb.2
        cases hs : getS ss (k - n) <;> rw [hs] at h2 <;> first | rfl | cases h2
    · show SiteIn _ _ _ _ (inS n ss) _ _ (inS n ss k)
      cases hb : Nat.ble n k with
      | false => simp only [blkE, inS, hb, cond_false]; rfl
      | true =>
        obtain ⟨i, rfl⟩ : ∃ i, k = n + i := ⟨k - n, by have := Nat.le_of_ble_eq_true hb; omega⟩
        obtain ⟨e1, e2, e3⟩ := hkE i
        rw [e1, e2, e3]
        exact (hsite i).shift hokE fun _ _ _ _ j _ => hkE j
    · have := argTT_rep (blk' := blkE) (val' := valE) (s' := inS n ss) (f := (n + ·)) (fn.ntmps - vs.toArray.size) hokE hkE hL t
      have e : (vs.toArray ++ Array.replicate (fn.ntmps - vs.toArray.size) undef) = (vs ++ List.replicate (fn.ntmps - vs.toArray.size) undef).toArray := by simp
      show RepT _ _ _ _ _ _ ((vs.toArray ++ Array.replicate (fn.ntmps - vs.toArray.size) undef).getD t undef)
      rw [e, Array.getD_eq_getD_getElem?, List.getElem?_toArray, ← List.getD_eq_getElem?_getD]
      exact this
  have fin : ∀ (a : Act) (w' : World) (st' : St), (∃ ns : List Nat, RetS st' rs (nth ns) r ∧ SitesAt st' ns ss' ∧ ns.length = ss'.length ∧ nodupN ns = true ∧ firstN n 0 ss.length ns = true ∧ belowT ss'.length r = true ∧ ss'.all (belowS ss'.length) = true) → Holds cx st' a w' →
      a.defers = [] ∧ ∃ v, (results fn a.tmps).run P w' = .ok v w' ∧ ∃ v' blk' val', Ending.returned v = .returned v' ∧ (∀ i, (getS ss i).isVar = true → blk' i = blk i) ∧ (∀ i b, blk' i = some b → (∃ j, blk j = some b) ∨ w.heap.size ≤ b) ∧ (∀ i b, blk' i = some b → b < w'.heap.size) ∧
      (∀ i j b, blk' i = some b → blk' j = some b → i = j) ∧ ExtM ⟨w, ok, fun b => ∃ i, blk i = some b, fun _ => none⟩ w' ∧
      (∀ i, SiteIn w' (fun b => (ok b ∨ w.heap.size ≤ b) ∧ ∀ i, blk' i ≠ some b) blk' val' (getS ss') (blk' i) (val' i) (getS ss' i)) ∧
      RepT w' (fun b => (ok b ∨ w.heap.size ≤ b) ∧ ∀ i, blk' i ≠ some b) blk' val' (getS ss') r v' := by
    intro a w' st' ⟨ns, hret, hsat, hlen, hnd, hfst, hbr, hbs⟩ ⟨blkF, valF, hh⟩
    let blk' : Nat → Option Nat := fun i => if i < ss'.length then blkF (nth ns i) else none
    let val' : Nat → Value := fun i => valF (nth ns i)
    have hb' : ∀ i b, blk' i = some b → i < ss'.length ∧ blkF (nth ns i) = some b := fun i b h => by
      simp only [blk'] at h
      split at h
      · exact ⟨by assumption, h⟩
      · cases h
    have hok' : ∀ b, b < w'.heap.size → okOf cx blkF b → (ok b ∨ w.heap.size ≤ b) ∧ ∀ i, blk' i ≠ some b := fun b _ h => ⟨h.1, fun i hi => h.2 _ (hb' i b hi).2⟩
    have hrel : ∀ k, k < ss'.length → blk' k = blkF (nth ns k) ∧ val' k = valF (nth ns k) ∧ st'.s (nth ns k) = shiftS (nth ns) (getS ss' k) := fun k hk => ⟨if_pos hk, rfl, hsat k hk⟩
    have hbelow : ∀ (ss : List Site) (m i : Nat), ss.all (belowS m) = true → belowS m (getS ss i) = true := by
      intro ss
      induction ss with
      | nil => intro m i _; rfl
      | cons x xs ih =>
        intro m i h
        simp only [List.all_cons, Bool.and_eq_true] at h
        cases i with
        | zero => exact h.1
        | succ i => exact ih m i h.2
    have sites : ∀ i, SiteIn w' (fun b => (ok b ∨ w.heap.size ≤ b) ∧ ∀ i, blk' i ≠ some b) blk' val' (getS ss') (blk' i) (val' i) (getS ss' i) := fun i => by
      rcases Nat.lt_or_ge i ss'.length with hi | hi
      · have h1 := hh.site (nth ns i)
        rw [hsat i hi] at h1
        rw [(hrel i hi).1]
        refine h1.unshift hok' fun cs hcs y hy k hk => ?_
        have h2 := hbelow ss' ss'.length i hbs
        rw [hcs] at h2
        exact hrel k (belowT_lt (List.all_eq_true.1 h2 y hy) k hk)
      · rw [getS_none hi]
        show blk' i = none
        exact if_neg (by omega)
    have repr : ∀ v, RepT w' (okOf cx blkF) blkF valF st'.s (shiftT (nth ns) r) v → RepT w' (fun b => (ok b ∨ w.heap.size ≤ b) ∧ ∀ i, blk' i ≠ some b) blk' val' (getS ss') r v := fun v h =>
      h.unshift hok' fun k hk => hrel k (belowT_lt hbr k hk)
    have hsl : ss.length ≤ ss'.length ∨ ss = [] := by
      rcases Nat.lt_or_ge ss'.length ss.length with h | h
      · right
        exfalso
        have : ∀ (m i : Nat) (ns : List Nat), firstN n i m ns = true → m ≤ ns.length := by
          intro m
          induction m with
          | zero => intro i ns _; omega
          | succ m ih =>
            intro i ns h
            cases ns with
            | nil => simp [firstN] at h
            | cons x xs =>
              simp only [firstN, Bool.and_eq_true] at h
              have := ih _ _ h.2
              simp; omega
        have := this _ _ _ hfst
        omega
      · exact .inl h
    have hname : ∀ i, i < ss.length → nth ns i = n + i := fun i hi => by
      have := nth_firstN hfst i hi
      rw [Nat.zero_add] at this; exact this
    have common : (∀ i, (getS ss i).isVar = true → blk' i = blk i) ∧ (∀ i b, blk' i = some b → (∃ j, blk j = some b) ∨ w.heap.size ≤ b) ∧ (∀ i b, blk' i = some b → b < w'.heap.size) ∧
        (∀ i j b, blk' i = some b → blk' j = some b → i = j) ∧ ExtM ⟨w, ok, fun b => ∃ i, blk i = some b, fun _ => none⟩ w' := by
      refine ⟨fun i hi => ?_, fun i b hb => ?_, fun i b hb => (hh.new _ _ (hb' i b hb).2).2, fun i j b h1 h2 => ?_, ⟨hh.ext.os, hh.ext.tape, hh.ext.output, hh.ext.size, hh.ext.block⟩⟩
      · have him : i < ss.length := by
          rcases Nat.lt_or_ge i ss.length with h | h
          · exact h
          · rw [getS_none h] at hi; cases hi
        have hi' : i < ss'.length := by
          rcases hsl with h | h
          · omega
          · subst h; simp at him
        rw [(hrel i hi').1, hname i him]
        have hs := hsite i
        obtain ⟨b, hb⟩ : ∃ b, blk i = some b := by
          cases hg : getS ss i <;> rw [hg] at hs hi <;> first | (cases hi; done) | (obtain ⟨b, _, _, h, _⟩ := hs; exact ⟨b, h⟩)
        have hp := hh.pin (n + i) b (by
          show (bif Nat.ble n (n + i) && (getS ss (n + i - n)).isVar then blk (n + i - n) else none) = some b
          rw [Nat.add_sub_cancel_left, hge i, hi]
          exact hb)
        rw [hp.1, hb]
      · rcases (hh.new _ _ (hb' i b hb).2).1 with h | h
        · exact .inr h
        · exact .inl h
      · have e := hh.inj _ _ b (hb' i b h1).2 (hb' j b h2).2
        exact nth_inj hnd (by rw [hlen]; exact (hb' i b h1).1) (by rw [hlen]; exact (hb' j b h2).1) e
    obtain ⟨c1, c2, c4, c5, c6⟩ := common
    cases hret with
    | none =>
      have : (results fn a.tmps).run P w' = .ok (.tuple #[]) w' := by simp [results, hrs]
      exact ⟨hh.defers, _, this, _, blk', val', rfl, c1, c2, c4, c5, c6, sites, Rep.tup [] [] rfl (fun j d v h => by simp at h)⟩
    | tmp ht =>
      rename_i t
      have : (results fn a.tmps).run P w' = .ok (a.tmps.getD t undef) w' := by simp [results, hrs]
      exact ⟨hh.defers, _, this, _, blk', val', rfl, c1, c2, c4, c5, c6, sites, repr _ (by rw [← ht]; exact hh.tmp t)⟩
  refine wp_mono (h cx _ w ⟨_, _, h0⟩) fun e a w' ⟨st', hR, hH⟩ => ?_
  cases e with
  | normal => exact fin a w' st' hR hH
  | ret => exact fin a w' st' hR hH
  | exit id => exact hR.elim
  | goto l => exact hR.elim
  | panic c => exact hR.elim
  | outgrown => exact hR.elim

/- the call -/
def idxN (k : Nat) : List Nat → Option Nat
  | [] => none
  | x :: xs => bif Nat.beq k x then some 0 else (idxN k xs).map (· + 1)
theorem idxN_none {k : Nat} : ∀ {ks : List Nat}, memN k ks = false → idxN k ks = none
  | [], _ => rfl
  | x :: xs, h => by
    simp only [memN, Bool.or_eq_false_iff] at h
    simp only [idxN, h.1, cond_false, idxN_none h.2, Option.map_none]
theorem idxN_some {k : Nat} : ∀ {ks : List Nat} {i : Nat}, idxN k ks = some i → i < ks.length ∧ nth ks i = k
  | [], _, h => by cases h
  | x :: xs, i, h => by
    simp only [idxN] at h
    cases hb : Nat.beq k x with
    | true => rw [hb] at h; cases h; exact ⟨by simp, (Nat.eq_of_beq_eq_true hb).symm⟩
    | false =>
      rw [hb] at h
      simp only [cond_false, Option.map_eq_some_iff] at h
      obtain ⟨j, hj, rfl⟩ := h
      obtain ⟨h1, h2⟩ := idxN_some hj
      exact ⟨by simpa using h1, h2⟩
theorem idxN_nth {ks : List Nat} (h : nodupN ks = true) {i : Nat} (hi : i < ks.length) : idxN (nth ks i) ks = some i := by
  cases hk : idxN (nth ks i) ks with
  | none =>
    have hm := nth_mem hi
    exfalso
    have : ∀ (ks : List Nat) (k : Nat), memN k ks = true → idxN k ks ≠ none := by
      intro ks
      induction ks with
      | nil => intro k h; cases h
      | cons x xs ih =>
        intro k h
        simp only [memN, Bool.or_eq_true] at h
        simp only [idxN]
        cases hb : Nat.beq k x with
        | true => simp
        | false =>
          rw [hb] at h
          have := ih k (h.resolve_left (by simp))
          simp only [cond_false, ne_eq, Option.map_eq_none_iff]; exact this
    exact this _ _ hm hk
  | some j =>
    obtain ⟨h1, h2⟩ := idxN_some hk
    rw [nth_inj h h1 hi h2]
/-- The state behind a call that was handed sites ks: rows may have moved. -/
def rowsOf (ks : List Nat) : List Site → Nat → List Nat
  | [], _ => []
  | .row _ _ _ :: xs, i => nth ks i :: rowsOf ks xs (i + 1)
  | _ :: xs, i => rowsOf ks xs (i + 1)
def afterS (st : St) (ks : List Nat) (rows : List Nat) (ss' : List Site) : St :=
  { n := st.n
    t := fun t => killT rows (st.t t)
    s := fun k => match idxN k ks with | some i => shiftS (nth ks) (getS ss' i) | none => killSite rows (st.s k) }
inductive ArgsS (ev : Operand → T) (f : Nat → Nat) : List Operand → List T → Prop
  | nil : ArgsS ev f [] []
  | cons {y : Operand} {ys : List Operand} {x : T} {xs : List T} (h : ev y = shiftT f x) (hs : ArgsS ev f ys xs) : ArgsS ev f (y :: ys) (x :: xs)
theorem argsS_rep {ev : Operand → T} {f : Nat → Nat} {a : Act} {w : World} {ok ok' : Nat → Prop} {blk blk' : Nat → Option Nat} {val val' : Nat → Value} {s s' : Nat → Site} {m : Nat} (hy : ∀ y, RepT w ok blk val s (ev y) (a.eval y)) (hok : ∀ b, b < w.heap.size → ok b → ok' b)
    (hk : ∀ k, k < m → blk' k = blk (f k) ∧ val' k = val (f k) ∧ s (f k) = shiftS f (s' k)) : ∀ {ys : List Operand} {xs : List T}, ArgsS ev f ys xs → xs.all (belowT m) = true → RepLT w ok' blk' val' s' xs (ys.map a.eval)
  | _, _, .nil, _ => trivial
  | _, _, .cons (y := y) h hs, hb => by
    simp only [List.all_cons, Bool.and_eq_true] at hb
    refine ⟨?_, argsS_rep hy hok hk hs hb.2⟩
    have := hy y
    rw [h] at this
    exact this.unshift hok fun k hkk => hk k (belowT_lt hb.1 k hkk)
/-- What is asked of the sites handed in and of those that come back. -/
def callOk (ks : List Nat) (args : List T) (ss : List Site) (r : T) (ss' : List Site) : Bool :=
  nodupN ks && Nat.beq ks.length ss'.length && Nat.ble ss.length ss'.length && args.all (belowT ss.length) && ss.all (belowS ss.length) && belowT ss'.length r && ss'.all (belowS ss'.length)
def kindOk : List Site → List Site → Bool
  | [], _ => true
  | _ :: _, [] => false
  | .box _ :: xs, y :: ys => y.isVar && kindOk xs ys
  | .tbox _ :: xs, y :: ys => y.isVar && kindOk xs ys
  | .row _ _ _ :: xs, .row _ _ _ :: ys => kindOk xs ys
  | _, _ => false
theorem kindOk_at : ∀ {ss ss' : List Site}, kindOk ss ss' = true → ∀ i, i < ss.length → ((getS ss i).isVar = true ∧ (getS ss' i).isVar = true) ∨ ((∃ e sz es, getS ss i = .row e sz es) ∧ ∃ e sz es, getS ss' i = .row e sz es)
  | [], _, _, i, hi => by simp at hi
  | _ :: _, [], h, _, _ => by simp [kindOk] at h
  | x :: xs, y :: ys, h, i, hi => by
    cases i with
    | zero =>
      cases x <;> cases y <;> simp [kindOk, Site.isVar] at h <;> simp [getS, Site.isVar]
    | succ i =>
      have : kindOk xs ys = true := by
        cases x <;> cases y <;> simp [kindOk, Site.isVar] at h <;> exact h
      exact kindOk_at this i (by simpa using hi)
/-- What needs no memory but sites. -/
def FlatT : T → Prop
  | .d d => d.Flat
  | _ => True
def FlatS : Site → Prop
  | .box cs => ∀ d ∈ cs, d.Flat
  | .tbox cs => ∀ x ∈ cs, FlatT x
  | .row _ _ es => ∀ x ∈ es, ∀ d ∈ x, D.Flat d
  | .no => True
theorem RepT.flat {w : World} {ok ok' : Nat → Prop} {blk : Nat → Option Nat} {val : Nat → Value} {s : Nat → Site} {x : T} {v : Value} (h : RepT w ok blk val s x v) (hf : FlatT x) : RepT w ok' blk val s x v := by
  cases x with
  | d d => exact Rep.flat h hf
  | _ => exact h
theorem SiteIn.flat {w : World} {ok ok' : Nat → Prop} {blk : Nat → Option Nat} {val : Nat → Value} {s : Nat → Site} {b : Option Nat} {u : Value} {x : Site} (h : SiteIn w ok blk val s b u x) (hf : FlatS x) : SiteIn w ok' blk val s b u x := by
  cases x with
  | no => exact h
  | box cs =>
    obtain ⟨b, e, vals, h1, h2, h3, h4, h5⟩ := h
    exact ⟨b, e, vals, h1, h2, h3, h4, fun j d hd => let ⟨v, hv, hr⟩ := h5 j d hd; ⟨v, hv, hr.flat (hf d (List.mem_of_getElem? hd))⟩⟩
  | tbox cs =>
    obtain ⟨b, e, vals, h1, h2, h3, h5⟩ := h
    exact ⟨b, e, vals, h1, h2, h3, fun j y hy => let ⟨v, hv, ho, hr⟩ := h5 j y hy; ⟨v, hv, ho, hr.flat (hf y (List.mem_of_getElem? hy))⟩⟩
  | row e sz es =>
    obtain ⟨h1, h2, h3⟩ := h
    exact ⟨h1, h2, h3.imp id fun ⟨b, vals, cap, k1, k2, k3, k4, k5, k6, k7⟩ => ⟨b, vals, cap, k1, k2, k3, k4, k5, k6, fun i x j d hi hj => let ⟨v, hv, hr⟩ := k7 i x j d hi hj; ⟨v, hv, hr.flat (hf x (List.mem_of_getElem? hi) d (List.mem_of_getElem? hj))⟩⟩⟩
theorem flatS_at : ∀ {ss : List Site}, (∀ x ∈ ss, FlatS x) → ∀ i, FlatS (getS ss i)
  | [], _, i => trivial
  | x :: xs, h, 0 => h x (by simp)
  | x :: xs, h, i + 1 => flatS_at (ss := xs) (fun y hy => h y (by simp [hy])) i
theorem aops_callW {ops rest : List Oper} {R : Exit → St → Prop} {ty : TypeId} {pos : String} {after : Array Edge} {dst : Option Tmp} {f : FuncId} {ys : List Operand} {at_ : Array TypeId} {args : List T} {ss ss' : List Site} {r : T} (ks rows : List Nat)
    (he : enB P f = true) (hr : PCS P f args ss r ss') (hc : callOk ks args ss r ss' = true) (hkd : kindOk ss ss' = true) (hrows : rowsOf ks ss 0 = rows)
    (hold : ∀ i, i < ss.length → st.s (nth ks i) = shiftS (nth ks) (getS ss i)) (hnew : ∀ i, ss.length ≤ i → i < ss'.length → st.s (nth ks i) = .no) (hd : (match dst with | none => true | some d => Nat.blt d st.n) = true)
    (hA : ∀ (a : Act) (w : World) (blk : Nat → Option Nat) (val : Nat → Value), Hold w0 st a w blk val → ∃ okA : Nat → Prop, (∀ b, okOf w0 blk b → okA b) ∧ (∀ i b, i < ss.length → blk (nth ks i) = some b → ¬ okA b) ∧
      RepLT w okA (fun i => if i < ss.length then blk (nth ks i) else none) (fun i => val (nth ks i)) (getS ss) args (ys.map a.eval) ∧ ((∀ b, okA b → okOf w0 blk b) ∨ ((∀ x ∈ ss', FlatS x) ∧ FlatT r)))
    (h : Aops P w0 ops rest R ((afterS st ks rows ss').put dst (shiftT (nth ks) r))) : Aops P w0 ops (⟨dst, .call ⟨.value (.func f), ys.toArray, at_⟩, ty, pos, after, none⟩ :: rest) R st := by
  subst hrows
  simp only [callOk, Bool.and_eq_true] at hc
  obtain ⟨⟨⟨⟨⟨⟨hnd, hkl⟩, hle⟩, hba⟩, hbs⟩, hbr⟩, hbs'⟩ := hc
  have hkl := Nat.eq_of_beq_eq_true hkl
  have hle := Nat.le_of_ble_eq_true hle
  refine aops_step (K := fun s => s = (afterS st ks (rowsOf ks ss 0) ss').put dst (shiftT (nth ks) r)) rfl (fun a w ⟨blk, val, hh⟩ => ?_) (fun _ e => e ▸ h)
  have hbelow : ∀ (ss : List Site) (m i : Nat), ss.all (belowS m) = true → belowS m (getS ss i) = true := by
    intro ss
    induction ss with
    | nil => intro m i _; rfl
    | cons x xs ih =>
      intro m i h
      simp only [List.all_cons, Bool.and_eq_true] at h
      cases i with
      | zero => exact h.1
      | succ i => exact ih m i h.2
  obtain ⟨okA, hA1, hA2, hA3, hA4⟩ := hA a w blk val hh
  let blkC : Nat → Option Nat := fun i => if i < ss.length then blk (nth ks i) else none
  let valC : Nat → Value := fun i => val (nth ks i)
  have hrel : ∀ k, k < ss.length → blkC k = blk (nth ks k) ∧ valC k = val (nth ks k) ∧ st.s (nth ks k) = shiftS (nth ks) (getS ss k) := fun k hk => ⟨if_pos hk, rfl, hold k hk⟩
  have hbC : ∀ i b, blkC i = some b → i < ss.length ∧ blk (nth ks i) = some b := fun i b h => by
    simp only [blkC] at h
    split at h
    · exact ⟨by assumption, h⟩
    · cases h
  have hcall := hr w okA blkC valC (ys.map a.eval) (fun i b h => ⟨(hh.new _ _ (hbC i b h).2).2, hA2 i b (hbC i b h).1 (hbC i b h).2⟩)
    (fun i j b h1 h2 => nth_inj hnd (by have := (hbC i b h1).1; omega) (by have := (hbC j b h2).1; omega) (hh.inj _ _ b (hbC i b h1).2 (hbC j b h2).2)) (fun i hi => if_neg (by omega)) (fun i => by
      rcases Nat.lt_or_ge i ss.length with hi | hi
      · have h1 := hh.site (nth ks i)
        rw [hold i hi] at h1
        rw [(hrel i hi).1]
        refine h1.unshift (fun b _ h => hA1 b h) fun cs hcs y hy k hk => ?_
        have h2 := hbelow ss ss.length i hbs
        rw [hcs] at h2
        exact hrel k (belowT_lt (List.all_eq_true.1 h2 y hy) k hk)
      · rw [getS_none hi]; exact if_neg (by omega)) hA3
  unfold Oper.wp
  rw [run_callValue (f := f) (cap := #[]) rfl rfl he]
  have harr : ((ys.map a.eval).toArray : Array Value) = ys.toArray.map a.eval ++ #[] := by simp
  rw [harr] at hcall
  refine hcall.mono ?_
  rintro e w' ⟨v, blk', val', rfl, c1, c2, c4, c5, c6, hsites, hres⟩
  let blkN : Nat → Option Nat := fun k => match idxN k ks with | some i => blk' i | none => blk k
  let valN : Nat → Value := fun k => match idxN k ks with | some i => val' i | none => val k
  have hnN : ∀ i, i < ss'.length → blkN (nth ks i) = blk' i ∧ valN (nth ks i) = val' i := fun i hi => by
    have := idxN_nth hnd (i := i) (by omega)
    simp only [blkN, valN, this]
    exact ⟨trivial, trivial⟩
  have mineK : ∀ k b, idxN k ks = none → blk k = some b → ¬ ∃ i, blkC i = some b := fun k b hk hb ⟨i, hi⟩ => by
    have e := hh.inj _ _ b hb (hbC i b hi).2
    subst e
    rw [idxN_nth hnd (by have := (hbC i b hi).1; omega)] at hk; cases hk
  have hNb : ∀ k b, blkN k = some b → (idxN k ks = none ∧ blk k = some b) ∨ ∃ i, idxN k ks = some i ∧ blk' i = some b := fun k b h => by
    simp only [blkN] at h
    cases hk : idxN k ks with
    | none => rw [hk] at h; exact .inl ⟨rfl, h⟩
    | some i => rw [hk] at h; exact .inr ⟨i, rfl, h⟩
  have hokN : ∀ b, b < w.heap.size → okOf w0 blk b → okOf w0 blkN b := fun b hb h => ⟨h.1, fun k hk => by
    rcases hNb k b hk with ⟨_, h1⟩ | ⟨i, _, h1⟩
    · exact h.2 k h1
    · rcases c2 i b h1 with ⟨j, hj⟩ | h2
      · exact h.2 _ (hbC j b hj).2
      · omega⟩
  have hokR : (∀ b, okA b → okOf w0 blk b) → ∀ b, b < w'.heap.size → ((okA b ∨ w.heap.size ≤ b) ∧ ∀ i, blk' i ≠ some b) → okOf w0 blkN b := fun hq b _ h => by
    have h : (okOf w0 blk b ∨ w.heap.size ≤ b) ∧ ∀ i, blk' i ≠ some b := ⟨h.1.imp (hq b) id, h.2⟩
    refine ⟨h.1.elim (fun q => q.1) fun q => .inr (Nat.le_trans hh.ext.size q), fun k hk => ?_⟩
    rcases hNb k b hk with ⟨_, h1⟩ | ⟨i, _, h1⟩
    · rcases h.1 with q | q
      · exact q.2 k h1
      · have := (hh.new k b h1).2; omega
    · exact h.2 i h1
  have hsites : ∀ i, SiteIn w' (okOf w0 blkN) blk' val' (getS ss') (blk' i) (val' i) (getS ss' i) := fun i => by
    rcases hA4 with q | ⟨q, _⟩
    · exact (hsites i).okw (hokR q)
    · exact (hsites i).flat (flatS_at q i)
  have hres : RepT w' (okOf w0 blkN) blk' val' (getS ss') r v := by
    rcases hA4 with q | ⟨_, q⟩
    · exact hres.ok' (hokR q)
    · exact hres.flat q
  have keepB : ∀ b o, okOf w0 blk b → w.heap[b]? = some o → w'.heap[b]? = some o := fun b o hok ho => by
    rw [c6.block b (heap_lt ho) (fun ⟨i, hi⟩ => hok.2 _ (hbC i b hi).2)]; exact ho
  have keep : ∀ {d : D} {u : Value}, Rep w (okOf w0 blk) d u → Rep w' (okOf w0 blkN) d u := fun h => h.keep c6.size keepB fun b hb h => hokN b hb h
  -- a site that was handed in, as the caller names it
  have inKs : ∀ j i, idxN j ks = some i → nth ks i = j ∧ i < ss'.length := fun j i h => by
    obtain ⟨h1, h2⟩ := idxN_some h
    exact ⟨h2, by omega⟩
  have keepT : ∀ {y : T} {u : Value}, RepT w (okOf w0 blk) blk val st.s y u → RepT w' (okOf w0 blkN) blkN valN (afterS st ks (rowsOf ks ss 0) ss').s (killT (rowsOf ks ss 0) y) u := by
    have rowIn : ∀ (ss : List Site) (i j : Nat), j < ss.length → (∃ e sz es, getS ss j = .row e sz es) → memN (nth ks (i + j)) (rowsOf ks ss i) = true := by
      intro ss
      induction ss with
      | nil => intro i j h; simp at h
      | cons x xs ih =>
        intro i j hj hrow
        cases j with
        | zero =>
          obtain ⟨e, sz, es, hx⟩ := hrow
          simp only [getS] at hx
          subst hx
          simp [rowsOf, memN]
        | succ j =>
          have := ih (i + 1) j (by simpa using hj) hrow
          rw [show i + 1 + j = i + (j + 1) by omega] at this
          cases x <;> simp only [rowsOf, memN] <;> first | exact this | (rw [this]; simp)
    intro y u h
    cases y with
    | d y => exact keep h
    | ref k o =>
      simp only [killT]
      cases hkr : memN k (rowsOf ks ss 0) with
      | true => simp only [if_true]; trivial
      | false =>
        simp only [Bool.false_eq_true, if_false]
        obtain ⟨q1, b, q2, q3⟩ := h
        cases hk : idxN k ks with
        | none =>
          exact ⟨by simp only [afterS, hk]; exact killSite_row.1 q1, b, by simp only [blkN, hk]; exact q2, q3⟩
        | some i =>
          obtain ⟨e1, e2⟩ := inKs k i hk
          have him : i < ss.length := by
            rcases Nat.lt_or_ge i ss.length with h | h
            · exact h
            · exact absurd (by rw [← e1]; exact hnew i h e2) q1
          rcases kindOk_at hkd i him with ⟨v1, v2⟩ | ⟨v1, _⟩
          · refine ⟨?_, b, ?_, q3⟩
            · simp only [afterS, hk]
              cases hg : getS ss' i <;> rw [hg] at v2 <;> first | (cases v2; done) | simp [shiftS]
            · simp only [blkN, hk]
              rw [c1 i v1, (hrel i him).1, e1]; exact q2
          · have := rowIn ss 0 i him v1
            rw [Nat.zero_add, e1, hkr] at this; cases this
    | rs k =>
      simp only [killT]
      cases hkr : memN k (rowsOf ks ss 0) with
      | true => simp only [if_true]; trivial
      | false =>
        simp only [Bool.false_eq_true, if_false]
        obtain ⟨q1, q3⟩ := h
        cases hk : idxN k ks with
        | none => exact ⟨by simp only [afterS, hk]; exact killSite_row.2 q1, by simp only [valN, hk]; exact q3⟩
        | some i =>
          obtain ⟨e1, e2⟩ := inKs k i hk
          obtain ⟨e, sz, es, q1⟩ := q1
          have him : i < ss.length := by
            rcases Nat.lt_or_ge i ss.length with h | h
            · exact h
            · have := hnew i h e2; rw [e1, q1] at this; cases this
          have hr : ∃ e sz es, getS ss i = .row e sz es := by
            have := hold i him
            rw [e1, q1] at this
            cases hg : getS ss i <;> rw [hg] at this <;> simp [shiftS] at this ⊢
          have := rowIn ss 0 i him hr
          rw [Nat.zero_add, e1, hkr] at this; cases this
    | un => exact h
    | dead => trivial
  have relN : ∀ k, k < ss'.length → blkN (nth ks k) = blk' k ∧ valN (nth ks k) = val' k ∧ (afterS st ks (rowsOf ks ss 0) ss').s (nth ks k) = shiftS (nth ks) (getS ss' k) := fun k hk => by
    obtain ⟨h1, h2⟩ := hnN k hk
    refine ⟨h1, h2, ?_⟩
    simp only [afterS, idxN_nth hnd (i := k) (by omega)]
  have hH : Hold w0 (afterS st ks (rowsOf ks ss 0) ss') a w' blkN valN := by
    refine ⟨⟨c6.os.trans hh.ext.os, c6.tape.trans hh.ext.tape, c6.output.trans hh.ext.output, Nat.le_trans hh.ext.size c6.size, fun k hk hm => ?_⟩, hh.defers, hh.size, fun k b hb => ?_, fun i j b hi hj => ?_, fun k b hp => ?_, fun k => ?_, fun t => keepT (hh.tmp t)⟩
    · have hk' : k < w.heap.size := Nat.lt_of_lt_of_le hk hh.ext.size
      have e := c6.block k hk' (fun ⟨i, hi⟩ => by
        rcases (hh.new _ _ (hbC i k hi).2).1 with q | q
        · omega
        · exact hm q)
      exact e.trans (hh.ext.block k hk hm)
    · rcases hNb k b hb with ⟨_, h1⟩ | ⟨i, _, h1⟩
      · exact ⟨(hh.new k b h1).1, Nat.lt_of_lt_of_le (hh.new k b h1).2 c6.size⟩
      · refine ⟨?_, c4 i b h1⟩
        rcases c2 i b h1 with ⟨j, hj⟩ | h2
        · exact (hh.new _ _ (hbC j b hj).2).1
        · exact .inl (Nat.le_trans hh.ext.size h2)
    · rcases hNb i b hi with ⟨n1, h1⟩ | ⟨i', n1, h1⟩ <;> rcases hNb j b hj with ⟨n2, h2⟩ | ⟨j', n2, h2⟩
      · exact hh.inj i j b h1 h2
      · rcases c2 j' b h2 with ⟨q, hq⟩ | h3
        · exact absurd ⟨q, hq⟩ (mineK i b n1 h1)
        · have := (hh.new i b h1).2; omega
      · rcases c2 i' b h1 with ⟨q, hq⟩ | h3
        · exact absurd ⟨q, hq⟩ (mineK j b n2 h2)
        · have := (hh.new j b h2).2; omega
      · have := c5 i' j' b h1 h2
        subst this
        rw [← (inKs i i' n1).1, (inKs j i' n2).1]
    · obtain ⟨q1, q2, q3⟩ := hh.pin k b hp
      cases hk : idxN k ks with
      | none =>
        refine ⟨by simp only [blkN, hk]; exact q1, ?_, q3⟩
        simp only [afterS, hk]
        cases hs : st.s k <;> rw [hs] at q2 <;> first | (cases q2; done) | rfl
      | some i =>
        obtain ⟨e1, e2⟩ := inKs k i hk
        have him : i < ss.length := by
          rcases Nat.lt_or_ge i ss.length with h | h
          · exact h
          · have := hnew i h e2; rw [e1] at this; rw [this] at q2; cases q2
        rcases kindOk_at hkd i him with ⟨v1, v2⟩ | ⟨⟨e, sz, es, v1⟩, _⟩
        · refine ⟨by simp only [blkN, hk]; rw [c1 i v1, (hrel i him).1, e1]; exact q1, ?_, q3⟩
          simp only [afterS, hk]
          cases hg : getS ss' i <;> rw [hg] at v2 <;> first | (cases v2; done) | rfl
        · have := hold i him
          rw [e1, v1] at this
          rw [this] at q2; cases q2
    · cases hk : idxN k ks with
      | some i =>
        obtain ⟨e1, e2⟩ := inKs k i hk
        have h1 := hsites i
        obtain ⟨n1, n2, n3⟩ := relN i e2
        rw [e1] at n1 n2 n3
        rw [n1, n2, n3]
        refine h1.shift (fun _ _ h => h) fun cs hcs y hy j hj => ?_
        have h2 := hbelow ss' ss'.length i hbs'
        rw [hcs] at h2
        exact relN j (belowT_lt (List.all_eq_true.1 h2 y hy) j hj)
      | none =>
        have hs := hh.site k
        have e0 : (afterS st ks (rowsOf ks ss 0) ss').s k = killSite (rowsOf ks ss 0) (st.s k) := by simp only [afterS, hk]
        have e1 : blkN k = blk k := by simp only [blkN, hk]
        have e2 : valN k = val k := by simp only [valN, hk]
        rw [e0, e1, e2]
        have hbk : ∀ c, blk k = some c → w'.heap[c]? = w.heap[c]? := fun c hc => c6.block c (hh.new k c hc).2 (mineK k c hk hc)
        cases hsk : st.s k with
        | no => rw [hsk] at hs; exact hs
        | box cs' =>
          rw [hsk] at hs
          obtain ⟨c, e, vals, h1, h2, h3, h4, h5⟩ := hs
          exact ⟨c, e, vals, h1, by rw [hbk c h1]; exact h2, h3, h4, fun j d hd => let ⟨v, hv, hr⟩ := h5 j d hd; ⟨v, hv, keep hr⟩⟩
        | tbox cs' =>
          rw [hsk] at hs
          obtain ⟨c, e, vals, h1, h2, h3, h5⟩ := hs
          refine ⟨c, e, vals, h1, by rw [hbk c h1]; exact h2, by simpa using h3, fun i y hy => ?_⟩
          rw [List.getElem?_map] at hy
          cases hi : cs'[i]? with
          | none => rw [hi] at hy; cases hy
          | some z =>
            rw [hi] at hy; cases hy
            obtain ⟨v, hv, ho, hr⟩ := h5 i z hi
            exact ⟨v, hv, ho, keepT hr⟩
        | row e sz es =>
          rw [hsk] at hs
          obtain ⟨h1, h2, h3⟩ := hs
          exact ⟨h1, h2, h3.imp id fun ⟨c, vals, cap, k1, k2, k3, k4, k5, k6, k7⟩ => ⟨c, vals, cap, k1, k2, k3, k4, by rw [hbk c k1]; exact k5, k6, fun i x j d hi hj => let ⟨v, hv, hr⟩ := k7 i x j d hi hj; ⟨v, hv, keep hr⟩⟩⟩
  refine ⟨_, rfl, blkN, valN, hH.put dst _ v (fun d hd' => ?_) (hres.shift (fun _ _ h => h) fun k hk => relN k (belowT_lt hbr k hk))⟩
  subst hd'
  simpa [Nat.blt_eq, afterS] using hd
theorem aops_callS {ops rest : List Oper} {R : Exit → St → Prop} {ty : TypeId} {pos : String} {after : Array Edge} {dst : Option Tmp} {f : FuncId} {ys : List Operand} {at_ : Array TypeId} {args : List T} {ss ss' : List Site} {r : T} (ks rows : List Nat)
    (he : enB P f = true) (hr : PCS P f args ss r ss') (ha : ArgsS st.ev (nth ks) ys args) (hc : callOk ks args ss r ss' = true) (hkd : kindOk ss ss' = true) (hrows : rowsOf ks ss 0 = rows)
    (hold : ∀ i, i < ss.length → st.s (nth ks i) = shiftS (nth ks) (getS ss i)) (hnew : ∀ i, ss.length ≤ i → i < ss'.length → st.s (nth ks i) = .no) (hd : (match dst with | none => true | some d => Nat.blt d st.n) = true)
    (h : Aops P w0 ops rest R ((afterS st ks rows ss').put dst (shiftT (nth ks) r))) : Aops P w0 ops (⟨dst, .call ⟨.value (.func f), ys.toArray, at_⟩, ty, pos, after, none⟩ :: rest) R st :=
  aops_callW ks rows he hr hc hkd hrows hold hnew hd (fun a w blk val hh => ⟨okOf w0 blk, fun _ h => h, fun i b _ hb hok => hok.2 _ hb,
    argsS_rep (m := ss.length) (fun y => hh.ev y) (fun _ _ h => h) (fun k hk => ⟨if_pos hk, rfl, hold k hk⟩) ha (by simp only [callOk, Bool.and_eq_true] at hc; exact hc.1.1.1.2), .inl fun _ h => h⟩) h
theorem repLT_of {w : World} {ok : Nat → Prop} {blk : Nat → Option Nat} {val : Nat → Value} {s : Nat → Site} : ∀ {ds : List D} {vs : List Value}, RepL w ok ds vs → RepLT w ok blk val s (ds.map T.d) vs
  | [], [], _ => trivial
  | _ :: _, _ :: _, h => ⟨h.1, repLT_of h.2⟩
  | [], _ :: _, h => h.elim
  | _ :: _, [], h => h.elim
theorem below_map (m : Nat) : ∀ ds : List D, (ds.map T.d).all (belowT m) = true
  | [] => rfl
  | _ :: ds => by simp only [List.map_cons, List.all_cons, below_map m ds, Bool.and_true]; rfl
/-- A call that makes memory, and reads what it is handed. -/
theorem aops_callN {ops rest : List Oper} {R : Exit → St → Prop} {ty : TypeId} {pos : String} {after : Array Edge} {dst : Option Tmp} {f : FuncId} {ys : List Operand} {at_ : Array TypeId} {ds : List D} {args : List T} {ss' : List Site} {r : T} (ks : List Nat)
    (he : enB P f = true) (hr : PCS P f args [] r ss') (hargs : ds.map T.d = args) (ha : Args st.ev st.s ys ds) (hc : (nodupN ks && Nat.beq ks.length ss'.length && belowT ss'.length r && ss'.all (belowS ss'.length)) = true)
    (hnew : ∀ i, i < ss'.length → st.s (nth ks i) = .no) (hd : (match dst with | none => true | some d => Nat.blt d st.n) = true) (hf : ∀ x ∈ ss', FlatS x) (hfr : FlatT r)
    (h : Aops P w0 ops rest R ((afterS st ks [] ss').put dst (shiftT (nth ks) r))) : Aops P w0 ops (⟨dst, .call ⟨.value (.func f), ys.toArray, at_⟩, ty, pos, after, none⟩ :: rest) R st := by
  subst hargs
  refine aops_callW ks [] he hr ?_ rfl rfl (fun i hi => by simp at hi) (fun i _ hi => hnew i hi) hd (fun a w blk val hh => ⟨fun _ => True, fun _ _ => trivial, fun i b hi => by simp at hi, repLT_of (args_repF (fun y => hh.ev y) hh.site ha), .inr ⟨hf, hfr⟩⟩) h
  simp only [Bool.and_eq_true] at hc
  obtain ⟨⟨⟨h1, h2⟩, h3⟩, h4⟩ := hc
  simp [callOk, h1, h2, h3, h4]
  intro x _; rfl
end
end Go.Proofs.Ytgdcidbpadhkpaa.Am
