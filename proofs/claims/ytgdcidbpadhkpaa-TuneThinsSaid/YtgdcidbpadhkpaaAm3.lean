/- The abstract machine, part 3: a region's proof, operation by operation in the order of the text, holds of every order. Conditions: none. -/
import Derived.Test.YtgdcidbpadhkpaaAm2
set_option linter.unusedVariables false
set_option linter.unusedSimpArgs false
namespace Go.Proofs.Ytgdcidbpadhkpaa.Am
open Go

section
variable {P : Program} {w0 : Cx}

def upd (e : Nat → T) (i : Nat) (x : T) : Nat → T := fun j => bif Nat.beq j i then x else e j
def gsOf (l : List Oper) (i : Nat) (o : Oper) : List (Nat × Bool) := match o.guard with | none => [] | some _ => guardsOf l i
def outX (o : Oper) (x : T) : T := match o.guard with | none => x | some _ => .dead
def RegW (P : Program) (w0 : Cx) (st : St) (l : List Oper) (n : Nat) : List Oper → Nat → (Nat → T) → St → (St → Prop) → Prop
  | [], _, _, st', K => K st'
  | o :: os, i, e, st', K => ∃ x, (∀ j b, o.guard = some (j, b) → ∃ c, e j = T.bool c) ∧ (GH e (gsOf l i o) → SOp P w0 st l n e i o (gsOf l i o) x) ∧
      RegW P w0 st l n os (i + 1) (upd e i x) (st'.put o.dst (outX o x)) K
def outP (xs : Nat → T) : List Oper → Nat → St → St
  | [], _, s => s
  | o :: os, i, s => outP xs os (i + 1) (s.put o.dst (outX o (xs i)))

theorem guards_lt {l : List Oper} {n N : Nat} (h : regB l n N = true) : ∀ (i : Nat), i < n → ∀ g ∈ guardsOf l i, g.1 < i := by
  intro i
  induction i using Nat.strongRecOn with
  | _ i ih =>
    intro hi g hg
    cases ho : l[i]? with
    | none => simp [guardsOf, guardOf, ho, chainG] at hg
    | some o =>
      cases hgo : o.guard with
      | none => rw [guards_none ho hgo] at hg; cases hg
      | some jb =>
        obtain ⟨j, b⟩ := jb
        have hj := (reg_guard h hi ho hgo).2
        rw [guards_some h hi ho hgo] at hg
        rcases List.mem_cons.1 hg with rfl | hg
        · exact hj
        · have := ih j hj (by omega) g hg; omega
theorem GH.congr {e xs : Nat → T} : ∀ {gs : List (Nat × Bool)}, (∀ g ∈ gs, e g.1 = xs g.1) → GH e gs → GH xs gs
  | [], _, _ => trivial
  | (j, b) :: gs, h, hh => ⟨by rw [← h (j, b) (by simp)]; exact hh.1, GH.congr (fun g hg => h g (by simp [hg])) hh.2⟩
theorem evAt_congr {st : St} {l : List Oper} {n N i : Nat} {e xs : Nat → T} {o : Oper} {gs : List (Nat × Bool)} (h : regB l n N = true) (hi : i < n) (ho : l[i]? = some o)
    (he : ∀ p, p < i → e p = xs p) (y : Operand) : evAt st l n e i o gs y = evAt st l n xs i o gs y := by
  cases y with
  | tmp t =>
    simp only [evAt]
    cases hp : prodIdx l n t with
    | none => rfl
    | some p =>
      simp only
      by_cases ha : afterB o p = true
      · obtain ⟨ed, hed, hb, hj⟩ := afterB_spec ha
        have := reg_before h hi ho ed hed hb
        rw [he p (by omega)]
      · rw [if_neg ha, if_neg ha]
  | _ => rfl
theorem QOp.congr {n : Nat} {s : Nat → Site} {ev ev' : Operand → T} {o : Oper} {x : T} (he : ∀ y, ev y = ev' y) (h : QOp P w0 n s ev o x) : QOp P w0 n s ev' o x := by
  have : ev = ev' := funext he
  rw [← this]; exact h
theorem SOp.congr {st : St} {l : List Oper} {n i : Nat} {e xs : Nat → T} {o : Oper} {gs : List (Nat × Bool)} {x : T} {N : Nat} (h : regB l n N = true) (hi : i < n) (ho : l[i]? = some o)
    (he : ∀ p, p < i → e p = xs p) (hS : SOp P w0 st l n e i o gs x) : SOp P w0 st l n xs i o gs x := by
  rcases hS with hq | ⟨tc, ya, yb, jc, cb, p, q, hop, hpj, hab, hx, hc, ha, hb, hr⟩
  · exact .inl (hq.congr (evAt_congr h hi ho he))
  · obtain ⟨ed, hed, hbd, hj⟩ := afterB_spec hab
    have := reg_before h hi ho ed hed hbd
    refine .inr ⟨tc, ya, yb, jc, cb, p, q, hop, hpj, hab, by rw [← he jc (by omega)]; exact hx, ?_, ?_, ?_, hr⟩
    · rw [← evAt_congr h hi ho he]; exact hc
    · rw [← evAt_congr h hi ho he]; exact ha
    · rw [← evAt_congr h hi ho he]; exact hb

theorem regw_xs {st : St} {l : List Oper} {n N : Nat} {K : St → Prop} (h : regB l n N = true) : ∀ (os : List Oper) (i : Nat) (e : Nat → T) (st' : St), i + os.length = n → (∀ k, k < os.length → os[k]? = l[i + k]?) →
    RegW P w0 st l n os i e st' K → ∃ xs : Nat → T, (∀ p, p < i → xs p = e p) ∧ (∀ k o, i ≤ k → k < n → l[k]? = some o → Owes P w0 st l n xs k o) ∧ K (outP xs os i st')
  | [], i, e, st', hl, _, hW => ⟨e, fun _ _ => rfl, fun k o h1 h2 _ => by simp at hl; omega, hW⟩
  | o :: os, i, e, st', hl, hos, hW => by
    obtain ⟨x, h1, h2, h3⟩ := hW
    have ho : l[i]? = some o := by have := hos 0 (by simp); simpa using this.symm
    have hi : i < n := by simp at hl; omega
    obtain ⟨xs, k1, k2, k3⟩ := regw_xs h os (i + 1) _ _ (by simp at hl; omega) (fun k hk => by have := hos (k + 1) (by simpa using hk); simpa [Nat.add_assoc, Nat.add_comm 1 k] using this) h3
    have hxe : ∀ p, p < i → xs p = e p := fun p hp => by
      rw [k1 p (by omega)]
      have : Nat.beq p i = false := by rw [← Bool.not_eq_true]; exact fun e => by have := Nat.eq_of_beq_eq_true e; omega
      simp [upd, this]
    have hxi : xs i = x := by rw [k1 i (by omega)]; simp [upd]
    refine ⟨xs, hxe, fun k o' hik hkn hok => ?_, ?_⟩
    · by_cases hk : k = i
      · subst hk
        rw [ho] at hok; cases hok
        have hgs : gsOf l k o = guardsOf l k := by
          unfold gsOf
          cases hg : o.guard with
          | none => exact (guards_none ho hg).symm
          | some _ => rfl
        rw [hgs] at h2
        refine ⟨fun j b hj => ?_, fun hG => ?_⟩
        · obtain ⟨c, hc⟩ := h1 j b hj
          exact ⟨c, by rw [hxe j (reg_guard h hi ho hj).2]; exact hc⟩
        · rw [hxi]
          exact SOp.congr h hi ho (fun p hp => (hxe p hp).symm) (h2 (GH.congr (fun g hg => hxe g.1 (guards_lt h k hi g hg)) hG))
      · exact k2 k o' (by omega) hkn hok
    · simp only [outP]
      rw [hxi]; exact k3

def Wk (s s' : St) : Prop := s'.n = s.n ∧ s'.s = s.s ∧ ∀ t, s'.t t = s.t t ∨ s'.t t = .dead
theorem Holds.weak {s s' : St} {a : Act} {w : World} (h : Holds w0 s a w) (hw : Wk s s') : Holds w0 s' a w := by
  obtain ⟨blk, val, hh⟩ := h
  obtain ⟨h1, h2, h3⟩ := hw
  refine ⟨blk, val, hh.ext, hh.defers, by rw [h1]; exact hh.size, hh.new, hh.inj, by rw [h1, h2]; exact hh.pin, by rw [h2]; exact hh.site, fun t => ?_⟩
  rw [h2]
  rcases h3 t with e | e
  · rw [e]; exact hh.tmp t
  · rw [e]; trivial
theorem Wk.put {s s' : St} {dst : Option Tmp} {x x' : T} (h : Wk s s') (hx : x' = x ∨ x' = .dead) : Wk (s.put dst x) (s'.put dst x') := by
  cases dst with
  | none => exact h
  | some d =>
    refine ⟨h.1, h.2.1, fun t => ?_⟩
    simp only [St.put]
    cases Nat.beq t d
    · exact h.2.2 t
    · exact hx
def ltB (i : Nat) : Nat → Bool := fun j => decide (j < i)
theorem setL_ltB (i : Nat) : setL (ltB i) i = ltB (i + 1) := by
  funext j
  simp only [setL, ltB]
  rw [Bool.eq_iff_iff]
  simp
  omega
theorem out_wk {st : St} {l : List Oper} {n N : Nat} {xs : Nat → T} (h : regB l n N = true) : ∀ (os : List Oper) (i : Nat) (s' : St), i + os.length = n → (∀ k, k < os.length → os[k]? = l[i + k]?) →
    Wk (stOf st l n xs (ltB i)) s' → Wk (stOf st l n xs (ltB n)) (outP xs os i s')
  | [], i, s', hl, _, hw => by
    have : i = n := by simpa using hl
    subst this; exact hw
  | o :: os, i, s', hl, hos, hw => by
    have ho : l[i]? = some o := by have := hos 0 (by simp); simpa using this.symm
    have hi : i < n := by simp at hl; omega
    refine out_wk h os (i + 1) _ (by simp at hl; omega) (fun k hk => by have := hos (k + 1) (by simpa using hk); simpa [Nat.add_assoc, Nat.add_comm 1 k] using this) ?_
    rw [← setL_ltB, stOf_set h hi ho (by simp [ltB])]
    refine hw.put ?_
    unfold outX
    cases hg : o.guard with
    | none => rw [guards_none ho hg, if_pos (show GH xs [] from trivial)]; exact .inl rfl
    | some _ => exact .inr rfl
theorem stOf_all {st : St} {l : List Oper} {n : Nat} {xs : Nat → T} {L : Nat → Bool} (hL : ∀ p, p < n → L p = true) : stOf st l n xs L = stOf st l n xs (ltB n) := by
  simp only [stOf, St.mk.injEq, true_and, and_true]
  funext t
  cases hp : prodIdx l n t with
  | none => rfl
  | some p =>
    have hpn := (prodIdx_spec hp).1
    simp only [hL p hpn, ltB, hpn, decide_true]
theorem stOf_none {st : St} {l : List Oper} {n : Nat} {xs : Nat → T} {L : Nat → Bool} (hL : ∀ p, p < n → L p = false) : stOf st l n xs L = st := by
  cases st
  simp only [stOf, St.mk.injEq, true_and, and_true]
  funext t
  cases hp : prodIdx l n t with
  | none => rfl
  | some p => simp [hL p (prodIdx_spec hp).1]

theorem Oper.wp_mono' {o : Oper} {a : Act} {w : World} {K K' : Act → World → Prop} {Q : Exit → Act → World → Prop} (h : o.wp P a w K (fun _ _ _ => False)) (hK : ∀ a w, K a w → K' a w) : o.wp P a w K' Q := by
  unfold Oper.wp at *
  generalize (execOp a.eval o).run P w = r at *
  unfold Oper.upon at *
  split <;> simp_all
  · exact h.mono fun e w' h => by
      cases e with
      | returned v => exact hK _ _ h
      | panicked c => exact h.elim
      | outgrown => obtain ⟨_, _, h⟩ := h; exact h.elim
  · exact h.mono fun v w' h => hK _ _ h

def Aops (P : Program) (w0 : Cx) (ops : List Oper) (rest : List Oper) (R : Exit → St → Prop) (st : St) : Prop := ∀ a w, Holds w0 st a w → wpList P ops.toArray (Post w0 R) rest a w

/-- In the order of the text. -/
theorem seq_pre {st : St} {l : List Oper} {n : Nat} {xs : Nat → T} {Q : Exit → Act → World → Prop} (h : regB l n st.n = true) (hn : n ≤ l.length) (hO : ∀ k o, k < n → l[k]? = some o → Owes P w0 st l n xs k o)
    (hT : ∀ a w, Holds w0 (stOf st l n xs (ltB n)) a w → wpList P l.toArray Q (l.drop n) a w) :
    ∀ (d i : Nat), n - i = d → i ≤ n → ∀ a w, Holds w0 (stOf st l n xs (ltB i)) a w → wpList P l.toArray Q (l.drop i) a w := by
  intro d
  induction d with
  | zero => intro i hd hi a w hH; have : i = n := by omega
            subst this; exact hT a w hH
  | succ d ih =>
    intro i hd hi a w hH
    have hil : i < l.length := by omega
    rw [List.drop_eq_getElem_cons hil]
    have ho : l[i]? = some l[i] := List.getElem?_eq_getElem hil
    have hin : i < n := by omega
    have step := reg_step (L := ltB i) h hin ho ⟨fun p o hp hop hL e he hb => by
        have := reg_before h hp hop e he hb
        simp only [ltB, decide_eq_true_eq] at hL ⊢; omega⟩ (by simp [ltB]) (fun e he hb => by have := reg_before h hin ho e he hb; simpa [ltB] using this) hH (hO i _ hin ho)
    rw [setL_ltB] at step
    unfold wpList
    rcases step with ⟨h1, h2⟩ | ⟨h1, h2⟩
    · rw [if_pos h1]
      exact .inl (Oper.wp_mono' h2 fun a' w' h' => ih (i + 1) (by omega) (by omega) a' w' h')
    · rw [if_neg (by simp [h1])]
      exact ih (i + 1) (by omega) (by omega) _ _ h2

def cntU (listed : Array Bool) : Nat → Nat
  | 0 => 0
  | k + 1 => cntU listed k + (if listed.getD k false = true then 0 else 1)
theorem cntU_zero {listed : Array Bool} : ∀ {k : Nat}, cntU listed k = 0 → ∀ j, j < k → listed.getD j false = true
  | 0, _, j, hj => by omega
  | k + 1, h, j, hj => by
    simp only [cntU] at h
    by_cases hk : listed.getD k false = true
    · rcases Nat.lt_or_ge j k with h' | h'
      · exact cntU_zero (by omega) j h'
      · have : j = k := by omega
        subst this; exact hk
    · rw [if_neg hk] at h; omega
theorem cntU_some {listed : Array Bool} : ∀ {k : Nat}, 0 < cntU listed k → ∃ j, j < k ∧ listed.getD j false = false ∧ ∀ p, p < j → listed.getD p false = true
  | 0, h => by simp [cntU] at h
  | k + 1, h => by
    by_cases h0 : 0 < cntU listed k
    · obtain ⟨j, h1, h2⟩ := cntU_some h0; exact ⟨j, by omega, h2⟩
    · refine ⟨k, by omega, ?_, cntU_zero (by omega)⟩
      simp only [cntU] at h
      by_cases hk : listed.getD k false = true
      · rw [if_pos hk] at h; omega
      · simpa using hk
theorem cntU_set {listed : Array Bool} {i : Nat} (hi : listed.getD i false = false) (his : i < listed.size) : ∀ {k : Nat}, (i < k → cntU (listed.setIfInBounds i true) k + 1 = cntU listed k) ∧ (k ≤ i → cntU (listed.setIfInBounds i true) k = cntU listed k)
  | 0 => ⟨fun h => by omega, fun _ => rfl⟩
  | k + 1 => by
    obtain ⟨h1, h2⟩ := cntU_set hi his (k := k)
    have hne : k ≠ i → (listed.setIfInBounds i true).getD k false = listed.getD k false := fun h => getD_set_ne false (Ne.symm h)
    refine ⟨fun h => ?_, fun h => ?_⟩
    · simp only [cntU]
      by_cases hk : k = i
      · subst hk
        rw [h2 (Nat.le_refl _), hi]
        have : (listed.setIfInBounds k true).getD k false = true := by simp [his]
        rw [this]; simp
      · rw [hne hk]; have := h1 (by omega); omega
    · simp only [cntU]
      rw [hne (by omega), h2 (by omega)]
theorem cntU_none {m : Nat} : ∀ {k : Nat}, cntU (Array.replicate m false) k = k
  | 0 => rfl
  | k + 1 => by simp only [cntU, cntU_none, getD_replicate_false]; simp
def preArr (n m : Nat) : Array Bool := ((List.range m).map fun j => decide (j < n)).toArray
def tailOk (l : List Oper) (n : Nat) : Bool :=
  (decide (n = l.length) || Region.sinkB .any l.toArray n && Region.chainB .any l.toArray n) && Region.seqB .any l.toArray (l.length - n) n (preArr n l.length)

theorem any_pre {st : St} {l : List Oper} {n : Nat} {xs : Nat → T} {Q : Exit → Act → World → Prop} (h : regB l n st.n = true) (hn : n ≤ l.length) (hB : tailOk l n = true)
    (hO : ∀ k o, k < n → l[k]? = some o → Owes P w0 st l n xs k o)
    (hT : ∀ a w, Holds w0 (stOf st l n xs (ltB n)) a w → wpList P l.toArray Q (l.drop n) a w) :
    ∀ (f : Nat) (listed : Array Bool) (a : Act) (w : World), HeadInv .any l.toArray n listed → cntU listed n = f → Holds w0 (stOf st l n xs (listed.getD · false)) a w →
      wpAny P .any l.toArray Q (f + (l.length - n)) listed a w := by
  simp only [tailOk, Bool.and_eq_true, Bool.or_eq_true, decide_eq_true_eq] at hB
  intro f
  induction f with
  | zero =>
    intro listed a w inv hc hH
    have hall := cntU_zero hc
    have hle : listed = preArr n l.length := by
      apply Array.ext
      · simp [inv.size, preArr]
      · intro j h1 h2
        have hjl : j < l.length := by simpa [preArr] using h2
        simp only [preArr, List.getElem_toArray, List.getElem_map, List.getElem_range]
        by_cases hj : j < n
        · have := hall j hj
          simp [h1] at this
          simp [this, hj]
        · have := inv.tail j (by omega) (by simpa using hjl)
          simp [h1] at this
          simp [this, hj]
    have hdl : (l.drop n).length = l.length - n := by simp
    have := wpAny_of_seq (md := .any) (Q' := Q) (P := P) (ops := l.toArray) (l.drop n) n listed a w (fun j => by simp [List.getElem?_drop]) (by rw [hdl, hle]; exact hB.2) (hT a w (by rw [← stOf_all (L := (listed.getD · false)) hall]; exact hH))
    rw [hdl] at this
    rwa [Nat.zero_add]
  | succ f ih =>
    intro listed a w inv hc hH
    rw [show f + 1 + (l.length - n) = (f + (l.length - n)) + 1 by omega]
    obtain ⟨j, hj, hju, hjall⟩ := cntU_some (listed := listed) (k := n) (by omega)
    have hjl : j < l.length := by omega
    have hjr : j ∈ Region.ready .any l.toArray listed := mem_ready.2 ⟨getD_in (by rw [inv.size]; simpa using hjl) hju, l[j], by simp [hjl], fun e he hb => hjall e.on (reg_before h hj (List.getElem?_eq_getElem hjl) e he hb)⟩
    refine ⟨fun h0 => (by rw [h0] at hjr; cases hjr), fun i hi => ?_⟩
    obtain ⟨hiu, o, hio, hia⟩ := mem_ready.1 hi
    have ho : l[i]? = some o := by simpa using hio
    have hil : i < l.length := (List.getElem?_eq_some_iff.1 ho).1
    have hin : i < n := by
      rcases Nat.lt_or_ge i n with h' | h'
      · exact h'
      · rcases hB.1 with e | ⟨hs, hc'⟩
        · omega
        · exact absurd hi (tail_waits hs hc' (by simpa using Nat.lt_of_le_of_lt h' hil) inv _ j rfl hj (getD_in (by rw [inv.size]; simpa using hjl) hju) i h')
    have hiu' : listed.getD i false = false := getD_both hiu
    have his : i < listed.size := by rw [inv.size]; simpa using hil
    have hset : (fun j => (listed.setIfInBounds i true).getD j false) = setL (listed.getD · false) i := by
      funext k
      by_cases hk : k = i
      · subst hk; simp [setL, his]
      · rw [getD_set_ne false (Ne.symm hk)]; simp [setL, hk]
    have step := reg_step (L := (listed.getD · false)) h hin ho ⟨fun p op hp hop hL e he hb => inv.closed p op (by simpa using hop) hL e he hb⟩ hiu' hia hH (hO i o hin ho)
    rw [← hset] at step
    have next : ∀ a' w', Holds w0 (stOf st l n xs ((listed.setIfInBounds i true).getD · false)) a' w' → wpAny P .any l.toArray Q (f + (l.length - n)) (listed.setIfInBounds i true) a' w' :=
      fun a' w' hH' => ih _ a' w' (inv.set hi hin) (by have := (cntU_set hiu' his (k := n)).1 hin; omega) hH'
    unfold wpOp
    simp only [hio]
    rcases step with ⟨h1, h2⟩ | ⟨h1, h2⟩
    · rw [if_pos h1]; exact .inl (Oper.wp_mono' h2 next)
    · rw [if_neg (by simp [h1])]; exact next _ _ h2

theorem Holds.drew {st : St} {a : Act} {w : World} (h : Holds w0 st a w) : Holds w0 st a { w with drawn := w.drawn + 1 } := by
  obtain ⟨blk, val, hh⟩ := h
  exact ⟨blk, val, hh.ext' ((Ext.refl w).drew)⟩

/-- A region: its first n operations told by their operands, the rest one after the other. -/
theorem awp_region {st : St} {l : List Oper} {id : Nat} {draw : Bool} {R : Exit → St → Prop} (n : Nat) (hm : P.follows .mixedOrders = true) (h : (regB l n st.n && decide (n ≤ l.length) && (!draw || tailOk l n)) = true)
    (hW : RegW P w0 st l n (l.take n) 0 (fun _ => .dead) st (fun st' => Aops P w0 l (l.drop n) R st')) : Awp P w0 (.region id l.toArray draw) R st := by
  simp only [Bool.and_eq_true, decide_eq_true_eq, Bool.or_eq_true, Bool.not_eq_true'] at h
  obtain ⟨⟨h, hn⟩, hd⟩ := h
  have htl : (l.take n).length = n := by simp; omega
  have hto : ∀ k, k < (l.take n).length → (l.take n)[k]? = l[0 + k]? := fun k hk => by rw [htl] at hk; simp [hk]
  obtain ⟨xs, _, hO, hK⟩ := regw_xs h (l.take n) 0 _ _ (by omega) hto hW
  have hT : ∀ a w, Holds w0 (stOf st l n xs (ltB n)) a w → wpList P l.toArray (Post w0 R) (l.drop n) a w := fun a w hH =>
    hK a w (hH.weak (out_wk h (l.take n) 0 st (by omega) hto (by rw [stOf_none (fun p _ => by simp [ltB])]; exact ⟨rfl, rfl, fun _ => .inl rfl⟩)))
  intro a w hH
  cases draw with
  | false =>
    refine wp_region_lit ?_
    have := seq_pre h hn (fun k o hk ho => hO k o (Nat.zero_le _) hk ho) hT n 0 rfl (Nat.zero_le _) a w (by rw [stOf_none (fun p _ => by simp [ltB])]; exact hH)
    simpa using this
  | true =>
    have hB : tailOk l n = true := hd.resolve_left (by simp)
    refine wp_region_any hm ?_
    have inv0 : HeadInv .any l.toArray n (Array.replicate l.toArray.size false) :=
      ⟨by simp, fun j oj _ hl => (by rw [getD_replicate_false] at hl; cases hl), fun t _ ht => getD_in (by simpa using ht) (getD_replicate_false _ _)⟩
    have := any_pre h hn hB (fun k o hk ho => hO k o (Nat.zero_le _) hk ho) hT n _ a { w with drawn := w.drawn + 1 } inv0 cntU_none (by rw [stOf_none (fun p _ => getD_replicate_false _ _)]; exact hH.drew)
    rw [show n + (l.length - n) = l.toArray.size by simp; omega] at this
    exact this
end
end Go.Proofs.Ytgdcidbpadhkpaa.Am
