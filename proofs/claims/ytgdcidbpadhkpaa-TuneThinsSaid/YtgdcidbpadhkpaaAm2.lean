/- The abstract machine, part 2: a region, in whatever order its edges allow. Conditions: none. -/
import Derived.Test.YtgdcidbpadhkpaaAm1
set_option linter.unusedVariables false
set_option linter.unusedSimpArgs false
namespace Go.Proofs.Ytgdcidbpadhkpaa.Am
open Go

section
variable {P : Program} {w0 : Cx}

def Post (w0 : Cx) (R : Exit → St → Prop) : Exit → Act → World → Prop := fun e a w => ∃ st, R e st ∧ Holds w0 st a w
def Awp (P : Program) (w0 : Cx) (c : Code) (R : Exit → St → Prop) (st : St) : Prop := ∀ a w, Holds w0 st a w → c.wp P (Post w0 R) a w

/-- What stands for a temporary stands for it where fewer sites are told of. -/
theorem RepT.to {w : World} {ok ok' : Nat → Prop} {blk blk' : Nat → Option Nat} {val val' : Nat → Value} {s s' : Nat → Site} {x : T} {v : Value} (h : RepT w ok blk val s x v) (hok : ∀ b, b < w.heap.size → ok b → ok' b)
    (hk : ∀ k, (x = .rs k ∨ ∃ o, x = .ref k o) → blk' k = blk k ∧ val' k = val k ∧ (s k ≠ .no → s' k ≠ .no) ∧ ((∃ e sz es, s k = .row e sz es) → ∃ e sz es, s' k = .row e sz es)) : RepT w ok' blk' val' s' x v := by
  cases x with
  | d x => exact Rep.ok (h : Rep w ok x v) hok
  | ref k o =>
    obtain ⟨q1, b, q2, q3⟩ := h
    obtain ⟨e1, _, e3, _⟩ := hk k (.inr ⟨o, rfl⟩)
    exact ⟨e3 q1, b, by rw [e1]; exact q2, q3⟩
  | rs k =>
    obtain ⟨q1, q2⟩ := h
    obtain ⟨_, e2, _, e4⟩ := hk k (.inl rfl)
    exact ⟨e4 q1, by rw [e2]; exact q2⟩
  | un => exact h
  | dead => trivial
theorem SiteIn.to {w : World} {ok ok' : Nat → Prop} {blk blk' : Nat → Option Nat} {val val' : Nat → Value} {s s' : Nat → Site} {b : Option Nat} {u : Value} {x x' : Site} (h : SiteIn w ok blk val s b u x) (hok : ∀ b, b < w.heap.size → ok b → ok' b)
    (hx : x' = x ∨ ∃ cs cs', x = .tbox cs ∧ x' = .tbox cs' ∧ cs'.length = cs.length ∧ ∀ (j : Nat) (y : T), cs'[j]? = some y → y = .dead ∨ cs[j]? = some y)
    (hk : ∀ cs, x' = .tbox cs → ∀ y ∈ cs, ∀ k, (y = .rs k ∨ ∃ o, y = .ref k o) → blk' k = blk k ∧ val' k = val k ∧ (s k ≠ .no → s' k ≠ .no) ∧ ((∃ e sz es, s k = .row e sz es) → ∃ e sz es, s' k = .row e sz es)) : SiteIn w ok' blk' val' s' b u x' := by
  rcases hx with rfl | ⟨cs, cs', rfl, rfl, hl, hc⟩
  · cases x' with
    | no => exact h
    | box cs =>
      obtain ⟨b, e, vals, h1, h2, h3, h4, h5⟩ := h
      exact ⟨b, e, vals, h1, h2, h3, h4, fun j d hd => let ⟨v, hv, hr⟩ := h5 j d hd; ⟨v, hv, hr.ok hok⟩⟩
    | tbox cs =>
      obtain ⟨b, e, vals, h1, h2, h3, h5⟩ := h
      exact ⟨b, e, vals, h1, h2, h3, fun j y hy => let ⟨v, hv, ho, hr⟩ := h5 j y hy; ⟨v, hv, ho, hr.to hok (hk cs rfl y (List.mem_of_getElem? hy))⟩⟩
    | row e sz es =>
      obtain ⟨h1, h2, h3⟩ := h
      exact ⟨h1, h2, h3.imp id fun ⟨b, vals, cap, k1, k2, k3, k4, k5, k6, k7⟩ => ⟨b, vals, cap, k1, k2, k3, k4, k5, k6, fun i x j d hi hj => let ⟨v, hv, hr⟩ := k7 i x j d hi hj; ⟨v, hv, hr.ok hok⟩⟩⟩
  · obtain ⟨b, e, vals, h1, h2, h3, h5⟩ := h
    refine ⟨b, e, vals, h1, h2, by omega, fun j y hy => ?_⟩
    rcases hc j y hy with rfl | hy'
    · have hj : j < cs.length := by have := (List.getElem?_eq_some_iff.1 hy).1; omega
      obtain ⟨v, hv, ho, _⟩ := h5 j cs[j] (List.getElem?_eq_getElem hj)
      exact ⟨v, hv, ho, trivial⟩
    · obtain ⟨v, hv, ho, hr⟩ := h5 j y hy'
      exact ⟨v, hv, ho, hr.to hok (hk cs' rfl y (List.mem_of_getElem? hy))⟩
def refs (x : T) (k : Nat) : Prop := x = .rs k ∨ ∃ o, x = .ref k o
/-- Fewer sites: what is left out is spoken of by no operand. -/
structure Sub (s : Nat → Site) (ev : Operand → T) (s' : Nat → Site) : Prop where
  at_ : ∀ k, s' k = s k ∨ (s k = .no ∧ ∀ y, ¬ refs (ev y) k)
  tb : ∀ k cs, s k = .tbox cs → ∀ x ∈ cs, ∀ j, refs x j → s' j = s j
theorem Sub.refl (s : Nat → Site) (ev : Operand → T) : Sub s ev s := ⟨fun _ => .inl rfl, fun _ _ _ _ _ _ _ => rfl⟩
/-- An operation that yields x, told by its operands alone, and changes nothing that was there. -/
def QOp (P : Program) (w0 : Cx) (n : Nat) (s : Nat → Site) (ev : Operand → T) (o : Oper) (x : T) : Prop :=
  ∀ st a w, Holds w0 st a w → Sub s ev st.s → st.n = n → (∀ y, ev y = .dead ∨ st.ev y = ev y) → (∀ d, o.dst = some d → d < n) →
    o.wp P a w (fun a' w' => Holds w0 (st.put o.dst x) a' w') (fun _ _ _ => False)

def T.bool (b : Bool) : T := .d (.v (.bool b))
def dstIs (o : Oper) (t : Tmp) : Bool := match o.dst with | some d => Nat.beq d t | none => false
def prodGo : Nat → List Oper → Nat → Tmp → Option Nat
  | 0, _, _, _ => none
  | _ + 1, [], _, _ => none
  | n + 1, o :: os, i, t => bif dstIs o t then some i else prodGo n os (i + 1) t
def prodIdx (l : List Oper) (n : Nat) (t : Tmp) : Option Nat := prodGo n l 0 t
def afterB (o : Oper) (j : Nat) : Bool := o.after.toList.any fun e => Region.binds .any e && Nat.beq e.on j
def guardOf (l : List Oper) (i : Nat) : Option (Nat × Bool) := (l[i]?).bind (·.guard)
def chainG (l : List Oper) : Nat → Option (Nat × Bool) → List (Nat × Bool)
  | 0, _ => []
  | _, none => []
  | f + 1, some (j, b) => (j, b) :: chainG l f (guardOf l j)
def guardsOf (l : List Oper) (i : Nat) : List (Nat × Bool) := chainG l (i + 1) (guardOf l i)
def GH (xs : Nat → T) : List (Nat × Bool) → Prop
  | [] => True
  | (j, b) :: gs => xs j = T.bool b ∧ GH xs gs
def evAt (st : St) (l : List Oper) (n : Nat) (xs : Nat → T) (i : Nat) (o : Oper) (gs : List (Nat × Bool)) : Operand → T
  | .tmp t =>
    match prodIdx l n t with
    | none => st.t t
    | some p => if afterB o p then (if (guardsOf l p).all (gs.contains ·) then xs p else .dead)
      else if Nat.beq p i || ((l[p]?).map (afterB · i)).getD false then st.t t else .dead
  | y => st.ev y

open Classical in
noncomputable def stOf (st : St) (l : List Oper) (n : Nat) (xs : Nat → T) (L : Nat → Bool) : St :=
  { st with t := fun t => match prodIdx l n t with
    | none => st.t t
    | some p => if L p then (if GH xs (guardsOf l p) then xs p else .un) else st.t t }

def regOk1 (l : List Oper) (n N : Nat) (i : Nat) (o : Oper) : Bool :=
  (o.after.toList.all fun e => !Region.binds .any e || decide (e.on < i)) &&
  (match o.dst with | none => true | some d => prodIdx l n d == some i && decide (d < N)) &&
  (match o.guard with | none => true | some (j, _) => afterB o j && ((l[j]?).bind (·.dst)).isSome)
def regB (l : List Oper) (n N : Nat) : Bool := (List.range n).all fun i => match l[i]? with | none => false | some o => regOk1 l n N i o

theorem regB_at {l : List Oper} {n N i : Nat} {o : Oper} (h : regB l n N = true) (hi : i < n) (ho : l[i]? = some o) : regOk1 l n N i o = true := by
  have := List.all_eq_true.1 h i (List.mem_range.2 hi)
  rw [ho] at this; exact this
theorem afterB_spec {o : Oper} {j : Nat} (h : afterB o j = true) : ∃ e ∈ o.after, Region.binds .any e = true ∧ e.on = j := by
  obtain ⟨e, he, hb⟩ := List.any_eq_true.1 h
  rw [Bool.and_eq_true] at hb
  exact ⟨e, by simpa using he, hb.1, Nat.eq_of_beq_eq_true hb.2⟩
theorem reg_before {l : List Oper} {n N i : Nat} {o : Oper} (h : regB l n N = true) (hi : i < n) (ho : l[i]? = some o) : ∀ e ∈ o.after, Region.binds .any e = true → e.on < i := by
  intro e he hb
  have h1 := regB_at h hi ho
  simp only [regOk1, Bool.and_eq_true] at h1
  have h2 := List.all_eq_true.1 h1.1.1 e (by simpa using he)
  simpa [hb] using h2
theorem reg_dst {l : List Oper} {n N i : Nat} {o : Oper} {d : Nat} (h : regB l n N = true) (hi : i < n) (ho : l[i]? = some o) (hd : o.dst = some d) : prodIdx l n d = some i ∧ d < N := by
  have h1 := regB_at h hi ho
  simp only [regOk1, Bool.and_eq_true, hd, beq_iff_eq, decide_eq_true_eq] at h1
  exact h1.1.2
theorem reg_guard {l : List Oper} {n N i j : Nat} {b : Bool} {o : Oper} (h : regB l n N = true) (hi : i < n) (ho : l[i]? = some o) (hg : o.guard = some (j, b)) : afterB o j = true ∧ j < i := by
  have h1 := regB_at h hi ho
  simp only [regOk1, Bool.and_eq_true, hg] at h1
  obtain ⟨e, he, hb, hj⟩ := afterB_spec h1.2.1
  exact ⟨h1.2.1, hj ▸ reg_before h hi ho e he hb⟩
theorem reg_guard_dst {l : List Oper} {n N i j : Nat} {b : Bool} {o : Oper} (h : regB l n N = true) (hi : i < n) (ho : l[i]? = some o) (hg : o.guard = some (j, b)) : ((l[j]?).bind (·.dst)).isSome = true := by
  have h1 := regB_at h hi ho
  simp only [regOk1, Bool.and_eq_true, hg] at h1
  exact h1.2.2
theorem chain_fuel {l : List Oper} {n N : Nat} (h : regB l n N = true) : ∀ (i f : Nat), i < n → i < f → chainG l f (guardOf l i) = guardsOf l i := by
  intro i
  induction i using Nat.strongRecOn with
  | _ i ih =>
    intro f hi hf
    obtain ⟨f, rfl⟩ : ∃ g, f = g + 1 := ⟨f - 1, by omega⟩
    unfold guardsOf
    cases hg : guardOf l i with
    | none => rfl
    | some jb =>
      obtain ⟨j, b⟩ := jb
      cases ho : l[i]? with
      | none => simp [guardOf, ho] at hg
      | some o =>
        have hog : o.guard = some (j, b) := by simpa [guardOf, ho] using hg
        have hj := (reg_guard h hi ho hog).2
        simp only [chainG]
        rw [ih j hj f (by omega) (by omega), ih j hj i (by omega) (by omega)]
theorem guards_none {l : List Oper} {i : Nat} {o : Oper} (ho : l[i]? = some o) (hg : o.guard = none) : guardsOf l i = [] := by
  simp [guardsOf, guardOf, ho, hg, chainG]
theorem guards_some {l : List Oper} {n N i j : Nat} {b : Bool} {o : Oper} (h : regB l n N = true) (hi : i < n) (ho : l[i]? = some o) (hg : o.guard = some (j, b)) : guardsOf l i = (j, b) :: guardsOf l j := by
  have hj := (reg_guard h hi ho hg).2
  have : guardOf l i = some (j, b) := by simp [guardOf, ho, hg]
  unfold guardsOf
  rw [this]
  simp only [chainG]
  rw [chain_fuel h j i (by omega) hj]
  rfl
theorem GH.mem {xs : Nat → T} : ∀ {gs : List (Nat × Bool)}, GH xs gs → ∀ g ∈ gs, xs g.1 = T.bool g.2
  | [], _, g, hg => by cases hg
  | (j, b) :: gs, h, g, hg => by
    rcases List.mem_cons.1 hg with rfl | h'
    · exact h.1
    · exact GH.mem h.2 g h'
theorem GH.of {xs : Nat → T} : ∀ {gs : List (Nat × Bool)}, (∀ g ∈ gs, xs g.1 = T.bool g.2) → GH xs gs
  | [], _ => trivial
  | (j, b) :: gs, h => ⟨h (j, b) (by simp), GH.of fun g hg => h g (by simp [hg])⟩

theorem prodGo_spec : ∀ {n : Nat} {l : List Oper} {i p : Nat} {t : Tmp}, prodGo n l i t = some p → i ≤ p ∧ p < i + n ∧ ∃ o, l[p - i]? = some o ∧ o.dst = some t
  | 0, _, _, _, _, h => by simp [prodGo] at h
  | n + 1, [], _, _, _, h => by simp [prodGo] at h
  | n + 1, o :: os, i, p, t, h => by
    simp only [prodGo] at h
    cases hd : dstIs o t with
    | true =>
      rw [hd] at h
      simp only [cond_true, Option.some.injEq] at h
      subst h
      refine ⟨Nat.le_refl _, by omega, o, by simp, ?_⟩
      unfold dstIs at hd
      cases ho : o.dst with
      | none => rw [ho] at hd; cases hd
      | some d => rw [ho] at hd; rw [Nat.eq_of_beq_eq_true hd]
    | false =>
      rw [hd] at h
      obtain ⟨h1, h2, o', h3, h4⟩ := prodGo_spec h
      exact ⟨by omega, by omega, o', by rw [show p - i = (p - (i + 1)) + 1 by omega]; simpa using h3, h4⟩
theorem prodIdx_spec {l : List Oper} {n p : Nat} {t : Tmp} (h : prodIdx l n t = some p) : p < n ∧ ∃ o, l[p]? = some o ∧ o.dst = some t := by
  obtain ⟨_, h2, o, h3, h4⟩ := prodGo_spec h
  exact ⟨by omega, o, by simpa using h3, h4⟩

/-- Which operations are done. -/
structure Done (l : List Oper) (n : Nat) (L : Nat → Bool) : Prop where
  closed : ∀ p o, p < n → l[p]? = some o → L p = true → ∀ e ∈ o.after, Region.binds .any e = true → L e.on = true

open Classical in
theorem evAt_sound {st : St} {l : List Oper} {n N i : Nat} {xs : Nat → T} {o : Oper} {gs : List (Nat × Bool)} {L : Nat → Bool} (h : regB l n N = true) (ho : l[i]? = some o)
    (hD : Done l n L) (hLi : L i = false) (hLa : ∀ e ∈ o.after, Region.binds .any e = true → L e.on = true) (hg : GH xs gs) (y : Operand) :
    evAt st l n xs i o gs y = .dead ∨ (stOf st l n xs L).ev y = evAt st l n xs i o gs y := by
  cases y with
  | tmp t =>
    simp only [evAt, St.ev, stOf]
    cases hp : prodIdx l n t with
    | none => exact .inr rfl
    | some p =>
      simp only
      by_cases ha : afterB o p = true
      · obtain ⟨e, he, hb, hj⟩ := afterB_spec ha
        have hLp : L p = true := hj ▸ hLa e he hb
        simp only [ha, if_true, hLp]
        by_cases hv : (guardsOf l p).all (gs.contains ·) = true
        · have hgp : GH xs (guardsOf l p) := GH.of fun g hg' => hg.mem g (by have := List.all_eq_true.1 hv g hg'; simpa using this)
          simp only [hv, if_true, if_pos hgp]
          exact .inr trivial
        · exact .inl (if_neg hv)
      · rw [if_neg ha]
        obtain ⟨hpn, op, hop, hdp⟩ := prodIdx_spec hp
        by_cases hc : (Nat.beq p i || ((l[p]?).map (afterB · i)).getD false) = true
        · have hLp : L p = false := by
            rw [Bool.or_eq_true] at hc
            rcases hc with hc | hc
            · rw [Nat.eq_of_beq_eq_true hc]; exact hLi
            · rw [← Bool.not_eq_true]
              intro hLp
              simp only [hop, Option.map_some, Option.getD_some] at hc
              obtain ⟨e, he, hb, hj⟩ := afterB_spec hc
              have := hD.closed p op hpn hop hLp e he hb
              rw [hj, hLi] at this; cases this
          simp only [hLp, hc, if_true]
          exact .inr (by simp)
        · exact .inl (if_neg hc)
  | const v => exact .inr rfl
  | global g => exact .inr rfl
  | func f => exact .inr rfl

def setL (L : Nat → Bool) (i : Nat) : Nat → Bool := fun j => j == i || L j
open Classical in
theorem stOf_set {st : St} {l : List Oper} {n N i : Nat} {xs : Nat → T} {o : Oper} {L : Nat → Bool} (h : regB l n N = true) (hi : i < n) (ho : l[i]? = some o) (hLi : L i = false) :
    stOf st l n xs (setL L i) = (stOf st l n xs L).put o.dst (if GH xs (guardsOf l i) then xs i else .un) := by
  cases hd : o.dst with
  | none =>
    simp only [St.put, stOf, St.mk.injEq, true_and, and_true]
    funext t
    cases hp : prodIdx l n t with
    | none => rfl
    | some p =>
      obtain ⟨_, op, hop, hdp⟩ := prodIdx_spec hp
      have hpi : p ≠ i := fun e => by subst e; rw [hop] at ho; cases ho; rw [hd] at hdp; cases hdp
      have : setL L i p = L p := by simp [setL, hpi]
      simp only [this]
  | some d =>
    obtain ⟨hpd, _⟩ := reg_dst h hi ho hd
    simp only [St.put, stOf, St.mk.injEq, true_and, and_true]
    funext t
    by_cases htd : t = d
    · subst htd
      rw [hpd]
      simp [setL]
    · have : Nat.beq t d = false := by rw [← Bool.not_eq_true]; exact fun e => htd (Nat.eq_of_beq_eq_true e)
      rw [this]
      simp only [cond_false]
      cases hp : prodIdx l n t with
      | none => rfl
      | some p =>
        obtain ⟨_, op, hop, hdp⟩ := prodIdx_spec hp
        have hpi : p ≠ i := fun e => by subst e; rw [hop] at ho; cases ho; rw [hd] at hdp; cases hdp; exact htd rfl
        have : setL L i p = L p := by simp [setL, hpi]
        simp only [this]

/-- One operation of a region: told by its operands; or a choice between two truth values of which one may not have been asked for. -/
def SOp (P : Program) (w0 : Cx) (st : St) (l : List Oper) (n : Nat) (xs : Nat → T) (i : Nat) (o : Oper) (gs : List (Nat × Bool)) (x : T) : Prop :=
  QOp P w0 st.n st.s (evAt st l n xs i o gs) o x ∨
  ∃ tc a b jc cb p q, o.op = .pick (.tmp tc) a b ∧ prodIdx l n tc = some jc ∧ afterB o jc = true ∧ xs jc = T.bool cb ∧ evAt st l n xs i o gs (.tmp tc) = T.bool cb ∧
    evAt st l n xs i o ((jc, true) :: gs) a = T.bool p ∧ evAt st l n xs i o ((jc, false) :: gs) b = T.bool q ∧ x = T.bool (bif cb then p else q)

theorem Rep.v_eq {w : World} {ok : Nat → Prop} {x v : Value} (h : Rep w ok (.v x) v) : v = x := by
  generalize hd : D.v x = d at h
  cases h <;> cases hd
  rfl
theorem Hold.bool {st : St} {a : Act} {w : World} {blk : Nat → Option Nat} {val : Nat → Value} (h : Hold w0 st a w blk val) {y : Operand} {b : Bool} (hy : st.ev y = T.bool b) : a.eval y = .bool b := by
  have := h.ev y
  rw [hy] at this
  exact Rep.v_eq this
theorem wp_value {o : Oper} {a : Act} {w w' : World} {v : Value} {K : Act → World → Prop} {Q : Exit → Act → World → Prop} (h : (execOp a.eval o).run P w = .ok (.value v) w') (hK : K (a.put o.dst v) w') : o.wp P a w K Q := by
  unfold Oper.wp; rw [h]; exact hK

theorem sop_wp {st : St} {l : List Oper} {n i : Nat} {xs : Nat → T} {o : Oper} {L : Nat → Bool} {a : Act} {w : World} (h : regB l n st.n = true) (hi : i < n) (ho : l[i]? = some o)
    (hD : Done l n L) (hLi : L i = false) (hLa : ∀ e ∈ o.after, Region.binds .any e = true → L e.on = true) (hH : Holds w0 (stOf st l n xs L) a w) (hg : GH xs (guardsOf l i)) (hS : SOp P w0 st l n xs i o (guardsOf l i) (xs i)) :
    o.wp P a w (fun a' w' => Holds w0 (stOf st l n xs (setL L i)) a' w') (fun _ _ _ => False) := by
  rw [stOf_set h hi ho hLi, if_pos hg]
  have hdn : ∀ d, o.dst = some d → d < st.n := fun d hd => (reg_dst h hi ho hd).2
  rcases hS with hq | ⟨tc, ya, yb, jc, cb, p, q, hop, hpj, _, hx, hc, ha, hb, hr⟩
  · exact hq _ a w hH (Sub.refl _ _) rfl (fun y => evAt_sound h ho hD hLi hLa hg y) hdn
  · obtain ⟨blk, val, hh⟩ := hH
    have h1 : (stOf st l n xs L).ev (.tmp tc) = T.bool cb := by
      rcases evAt_sound (st := st) h ho hD hLi hLa hg (.tmp tc) with e | e
      · rw [hc] at e; cases e
      · rw [e, hc]
    have hv := hh.bool h1
    have h2 : a.eval (if cb then ya else yb) = .bool (bif cb then p else q) := by
      cases cb with
      | true =>
        have hg' : GH xs ((jc, true) :: guardsOf l i) := ⟨hx, hg⟩
        rcases evAt_sound (st := st) h ho hD hLi hLa hg' ya with e | e
        · rw [ha] at e; cases e
        · exact hh.bool (by rw [if_pos rfl, e, ha]; rfl)
      | false =>
        have hg' : GH xs ((jc, false) :: guardsOf l i) := ⟨hx, hg⟩
        rcases evAt_sound (st := st) h ho hD hLi hLa hg' yb with e | e
        · rw [hb] at e; cases e
        · exact hh.bool (by rw [if_neg (by simp), e, hb]; rfl)
    refine wp_value (v := .bool (bif cb then p else q)) (w' := w) ?_ ⟨blk, val, ?_⟩
    · simp only [execOp, hop, hv]
      have : (if cb = true then a.eval ya else a.eval yb) = .bool (bif cb then p else q) := by rw [← h2]; cases cb <;> rfl
      show Sem.run P (Sem.pure (Next.value (if cb = true then a.eval ya else a.eval yb))) w = _
      rw [this]; rfl
    · exact hh.put o.dst _ _ hdn (by rw [hr]; exact Rep.v _ rfl)

/-- What a region's proof owes at one operation. -/
def Owes (P : Program) (w0 : Cx) (st : St) (l : List Oper) (n : Nat) (xs : Nat → T) (i : Nat) (o : Oper) : Prop :=
  (∀ j b, o.guard = some (j, b) → ∃ c, xs j = T.bool c) ∧ (GH xs (guardsOf l i) → SOp P w0 st l n xs i o (guardsOf l i) (xs i))

open Classical in
theorem reg_step {st : St} {l : List Oper} {n i : Nat} {xs : Nat → T} {o : Oper} {L : Nat → Bool} {a : Act} {w : World} (h : regB l n st.n = true) (hi : i < n) (ho : l[i]? = some o)
    (hD : Done l n L) (hLi : L i = false) (hLa : ∀ e ∈ o.after, Region.binds .any e = true → L e.on = true) (hH : Holds w0 (stOf st l n xs L) a w) (hS : Owes P w0 st l n xs i o) :
    (Region.wanted o (yielded l.toArray a.tmps) = true ∧ o.wp P a w (fun a' w' => Holds w0 (stOf st l n xs (setL L i)) a' w') (fun _ _ _ => False)) ∨
    (Region.wanted o (yielded l.toArray a.tmps) = false ∧ Holds w0 (stOf st l n xs (setL L i)) (a.put o.dst undef) w) := by
  have key : Region.wanted o (yielded l.toArray a.tmps) = decide (GH xs (guardsOf l i)) := by
    cases hg : o.guard with
    | none => simp [Region.wanted, hg, guards_none ho hg, GH]
    | some jb =>
      obtain ⟨j, b⟩ := jb
      obtain ⟨hj1, hj2⟩ := reg_guard h hi ho hg
      obtain ⟨e, he, hb, hej⟩ := afterB_spec hj1
      have hLj : L j = true := hej ▸ hLa e he hb
      obtain ⟨c, hc⟩ := hS.1 j b hg
      rw [guards_some h hi ho hg]
      simp only [Region.wanted, hg]
      obtain ⟨blk, val, hh⟩ := hH
      have hjn : j < n := by omega
      obtain ⟨oj, hoj⟩ : ∃ oj, l[j]? = some oj := by
        cases ho' : l[j]? with
        | none => have := List.getElem?_eq_none_iff.1 ho'; have := (List.getElem?_eq_some_iff.1 ho).1; omega
        | some oj => exact ⟨oj, rfl⟩
      cases hdj : oj.dst with
      | none =>
        -- a guard that yields nothing: impossible where it has a value
        have hy : yielded l.toArray a.tmps j = none := by simp [yielded, hoj, hdj]
        exfalso
        exact absurd (reg_guard_dst h hi ho hg) (by rw [hoj]; simp [hdj])
      | some d =>
        obtain ⟨hpd, hdN⟩ := reg_dst h hjn hoj hdj
        have hval := hh.tmp d
        have hst : (stOf st l n xs L).t d = if GH xs (guardsOf l j) then xs j else .un := by
          simp only [stOf, hpd, hLj, if_true]
        rw [hst] at hval
        have hds : d < a.tmps.size := by rw [hh.size]; exact hdN
        have hy : yielded l.toArray a.tmps j = match a.tmps.getD d undef with | .bool b => some b | _ => none := by
          simp [yielded, hoj, hdj, hds]
          cases a.tmps[d] <;> rfl
        by_cases hgj : GH xs (guardsOf l j)
        · rw [if_pos hgj, hc] at hval
          have : a.tmps.getD d undef = .bool c := Rep.v_eq hval
          rw [hy, this]
          simp only [GH, hgj, and_true, hc, T.bool, T.d.injEq, D.v.injEq, Value.bool.injEq]
          cases c <;> cases b <;> simp
        · rw [if_neg hgj] at hval
          rw [hy, show a.tmps.getD d undef = undef from hval]
          simp [GH, hgj, undef]
  rw [key]
  by_cases hg : GH xs (guardsOf l i)
  · exact .inl ⟨by simpa using hg, sop_wp h hi ho hD hLi hLa hH hg (hS.2 hg)⟩
  · refine .inr ⟨by simpa using hg, ?_⟩
    obtain ⟨blk, val, hh⟩ := hH
    rw [stOf_set h hi ho hLi, if_neg hg]
    exact ⟨blk, val, hh.put o.dst .un undef (fun d hd => (reg_dst h hi ho hd).2) rfl⟩
end
end Go.Proofs.Ytgdcidbpadhkpaa.Am
